/- Cache: the rows in the order in which they began. Cache: Tokens. -/
import Derived.Test.YtgidjgkafbjkpaaGreatDoorCkb
import Derived.Test.YtgidjgkafbjkpaaGreatDoorCsw
import Derived.Test.YtgidjgkafbjkpaaGreatDoorWhs
set_option linter.unusedVariables false
set_option linter.unusedSimpArgs false
namespace Go.Proofs.YtgidjgkafbjkpaaGreatDoor
open Go.RowKit Go.Shelf Go.Sort

theorem encRs_get : ∀ (ss : List RV) (i : Nat) (h : i < ss.length), (encRs ss)[2 * i]? = some (.slice ss[i].A ss[i].n ss[i].c) ∧ (encRs ss)[2 * i + 1]? = some (.int .i64 ss[i].o)
  | x :: ss, 0, _ => ⟨rfl, rfl⟩
  | x :: ss, i + 1, h => by
    have ih := encRs_get ss i (by simpa using h)
    have e1 : (encRs (x :: ss))[2 * (i + 1)]? = (encRs ss)[2 * i]? := by
      show (encR x ++ encRs ss)[2 * i + 2]? = _
      rw [List.getElem?_append_right (by simp [encR])]
      simp [encR]
    have e2 : (encRs (x :: ss))[2 * (i + 1) + 1]? = (encRs ss)[2 * i + 1]? := by
      show (encR x ++ encRs ss)[2 * i + 1 + 2]? = _
      rw [List.getElem?_append_right (by simp [encR])]
      simp [encR]
    rw [e1, e2]
    exact ih
theorem flatR (ss : List RV) : (flatK encR 2 ss.toArray).toList = encRs ss := by
  apply List.ext_getElem?
  intro t
  have hl := encRs_len ss
  by_cases ht : t < ss.length * 2
  · have hi : t / 2 < ss.length := by omega
    obtain ⟨h0, h1⟩ := encRs_get ss (t / 2) hi
    have e : (flatK encR 2 ss.toArray).toList[t]? = some ((encR (ss.toArray[t / 2]!))[t % 2]!) := by
      rw [Array.getElem?_toList]
      simp [flatK, ht]
    have e3 : ss.toArray[t / 2]! = ss[t / 2] := by simp [hi]
    rw [e, e3]
    rcases Nat.mod_two_eq_zero_or_one t with hm | hm
    · rw [show 2 * (t / 2) = t by omega] at h0
      rw [h0, hm]
      rfl
    · rw [show 2 * (t / 2) + 1 = t by omega] at h1
      rw [h1, hm]
      rfl
  · rw [List.getElem?_eq_none (by simp [flatK]; omega), List.getElem?_eq_none (by omega)]
theorem holdsR_of_block {w : World} {g : Nat} {cur : Array Value} {e : TypeId} {ss : List RV} (hb : w.heap[g]? = some (.cells cur e (0, 0))) (ht : cur.toList.take (ss.length * 2) = encRs ss) : HoldsK encR 2 w g 0 ss.toArray := by
  intro j hj
  have hj' : j < ss.length * 2 := by simpa [flatK] using hj
  refine ⟨?_, by simp [World.frozen?, hb]⟩
  have h1 : (cur.toList.take (ss.length * 2))[j]? = (encRs ss)[j]? := by rw [ht]
  rw [List.getElem?_take_of_lt hj', ← flatR] at h1
  simp only [World.cell?, hb, Nat.zero_add]
  simp only [Option.isSome_none, Bool.false_eq_true, if_false]
  rw [← Array.getElem?_toList, h1, Array.getElem?_toList]
  have hj2 : j < (flatK encR 2 ss.toArray).size := by simpa [flatK] using hj'
  rw [Array.getElem?_eq_getElem hj2, getElem!_pos _ j hj2]
  rfl
theorem heap_sortedR {w : World} {g n : Nat} {os : Array Obj} {cur : Array Value} {e : TypeId} {fr : Nat × Nat} (d : Array RV) (hb : w.heap[g]? = some (.cells cur e fr)) :
    (sortWorldK encR 2 w g 0 n d os).heap[g]? = some (.cells (putCells id 0 (flatK encR 2 d) cur) e fr) := by
  have hg : g < w.heap.size := (Array.getElem?_eq_some_iff.1 hb).1
  unfold sortWorldK putRowK
  rw [heap_grow_old _ _ (by simpa using hg)]
  simp [putRow, mapBlock, Sort.ahead, Array.getElem?_modify, hb, onCells]
theorem grownBy_sortedR {w : World} {g n : Nat} {os : Array Obj} (d : Array RV) : w.grownBy (sortWorldK encR 2 w g 0 n d os) (some g) := by
  unfold sortWorldK putRowK
  refine ⟨rfl, rfl, rfl, by simp, fun k hk hne => ?_⟩
  rw [heap_grow_old _ _ (by simpa using hk)]
  have : g ≠ k := fun e => hne (by rw [e])
  simp [putRow, mapBlock, Sort.ahead, Array.getElem?_modify, this]
theorem take_putR (cur : Array Value) (ts : List RV) (h : ts.length * 2 ≤ cur.size) : (putCells id 0 (flatK encR 2 ts.toArray) cur).toList.take (ts.length * 2) = encRs ts := by
  apply List.ext_getElem?
  intro j
  by_cases hj : j < ts.length * 2
  · rw [List.getElem?_take_of_lt hj, Array.getElem?_toList, ← flatR, Array.getElem?_toList]
    have hj2 : j < (flatK encR 2 ts.toArray).size := by simpa [flatK] using hj
    have hj3 : j < cur.size := by omega
    rw [Array.getElem?_eq_getElem hj2]
    simp only [putCells, Array.getElem?_mapIdx, Array.getElem?_eq_getElem hj3, Option.map_some, Nat.zero_le, true_and, Nat.zero_add, Nat.sub_zero, hj2, if_true, id]
    rw [getElem!_pos _ j hj2]
  · rw [List.getElem?_take_eq_none (by omega), List.getElem?_eq_none (by rw [encRs_len]; omega)]
theorem ownsRow_sortedR {w : World} {base g cap n : Nat} {e : TypeId} {os : Array Obj} {cur : Array Value} {ss ts : List RV} (hl : ts.length = ss.length) (hbase : base ≤ g) (hb : w.heap[g]? = some (.cells cur e (0, 0)))
    (h1 : ss.length ≤ cap) (h2 : cap ≤ maxLen) (h3 : cur.size = cap * 2) :
    (sortWorldK encR 2 w g 0 n ts.toArray os).ownsRow base e 2 (.slice (some ⟨g, 0, none⟩) ss.length cap) ss.length (encRs ts) :=
  ⟨by rw [encRs_len, hl], .inr ⟨g, cap, _, rfl, hbase, heap_sortedR _ hb, h1, h2, by simp [putCells, h3], by rw [← hl]; exact take_putR cur ts (by omega)⟩⟩
theorem sortWorldR_kp (W : World) (gb m : Nat) (dk : Array RV) (os : Array Obj) : Kp (fun b => b = gb) W (sortWorldK encR 2 W gb 0 m dk os) := by
  have h := grownBy_sortedR (w := W) (g := gb) (n := m) (os := os) dk
  exact (Kp.refl (fun b => b = gb) W).grown h (fun k e => .inl (Option.some.inj e).symm)
set_option maxRecDepth 1000000 in
set_option maxHeartbeats 8000000 in
/-- The closure: which row began earlier. -/
theorem closureR (x y : RV) (W : World) : Calls Tryz.prog 32 #[.agg #[.slice x.A x.n x.c, .int .i64 x.o], .agg #[.slice y.A y.n y.c, .int .i64 y.o]] W fun e w' => e = .returned (.int .i64 (Lib.compareInt x.o y.o)) ∧ ∃ q os', w' = grow (W.drewN q) os' := by
  have hcon := fun W' => cmp_i x.o y.o W'
  obtain ⟨A1, n1, c1, o1⟩ := x
  obtain ⟨A2, n2, c2, o2⟩ := y
  simp only at hcon ⊢
  generalize Lib.compareInt o1 o2 = r at hcon ⊢
  have HC := Lib.hid hcon
  clear hcon
  go_enter Tryz.func32, Tryz.ntmps32
  go_wp2_with (go_at_call 33; refine (HC.out _).mono ?_; rintro e w' ⟨rfl, rfl⟩)
  refine bodyPost_ret (results_tmp rfl _ _ _) rfl ⟨rfl, 0, _, by rw [alloc_eq_grow, alloc_eq_grow, grow_grow]; rfl⟩
theorem swoR : SWO (ltOf fun x y : RV => Lib.compareInt x.o y.o) := by
  have h : ∀ x y : RV, ltOf (fun x y : RV => Lib.compareInt x.o y.o) x y = decide (x.o < y.o) := fun x y => by
    unfold ltOf
    rcases cmp_cases x.o y.o with ⟨h1, e⟩ | ⟨h1, e⟩ | ⟨h1, e⟩ <;> simp only [e] <;> simp <;> omega
  refine ⟨fun x => ?_, fun x y z h1 h2 => ?_, fun x y z h1 h2 => ?_⟩
  · rw [h]; simp
  · rw [h] at *; simp at *; omega
  · rw [h] at *; simp at *; omega
theorem ltR {x y : RV} (h : ltOf (fun x y : RV => Lib.compareInt x.o y.o) y x = false) : x.o ≤ y.o := by
  unfold ltOf at h
  rcases cmp_cases y.o x.o with ⟨h1, e⟩ | ⟨h1, e⟩ | ⟨h1, e⟩ <;> simp only [e] at h <;> simp at h <;> omega
set_option maxRecDepth 1000000 in
set_option maxHeartbeats 8000000 in
/-- The rows' values, sorted. -/
theorem sortedR (Bm b c : Nat) (L : List Ent) (hL : AllR L) (w : World) (hB : w.cell? ⟨Bm, 0, none⟩ = some (.map (some b))) (hu : UMap w b c L) (hl : L.length ≤ 1000000) :
    Calls Tryz.prog 30 #[.func (.func 55) #[] #[.pointer (some ⟨Bm, 0, none⟩)], .func (.func 32) #[] #[]] w fun ev w' => ∃ (v : Value) (ts : List RV), ev = .returned v ∧ ts.Perm (L.map rvOf) ∧ ts.Pairwise (fun a b => a.o ≤ b.o) ∧ w'.ownsRow w.heap.size 77 2 v ts.length (encRs ts) ∧ Kp (fun _ => False) w w' := by
  have cC := collectR 5 (by omega) 55 #[.pointer (some ⟨Bm, 0, none⟩)] (enters_of Tryz.func55 (by kernel_rfl) rfl) _ _ L.length hl w (valsR_stops 3 (by omega) Bm b c L hL w hB hu)
  have hfC : Fence.wide.fn 53 := trivial
  have hfS : Fence.wide.fn 54 := trivial
  have eg : ∀ args w, (callFunc 32 args).run Tryz.prog w = .ok (.enter 32 args) w := enters_of Tryz.func32 (by kernel_rfl) rfl
  have HL := Lib.hid (show ∀ ss : List RV, ss.Perm (L.map rvOf) → ss.length ≤ 1000000 from fun ss hs => by
    have := hs.length_eq
    rw [List.length_map] at this
    omega)
  clear hB hl hu
  refine (callsIn_wide (n := 6)).1 ?_
  refine callsIn_of_wp Tryz.func30 rfl trivial ?_ rfl
  simp only [Tryz.ntmps30, List.size_toArray, List.length_cons, List.length_nil, Nat.reduceAdd, Nat.reduceSub, Array.replicate_succ, Array.replicate_zero, List.push_toArray, List.append_toArray, List.nil_append, List.cons_append]
  gi_wp2_with (gi_at_call 53; refine cC.mono ?_; rintro e w1 ⟨v, ss, rfl, hS, hrow, hnil, hb⟩)
  have kb : Kp (fun _ => False) w w1 := Kp.of_below hb _
  have hlen := HL.out ss hS
  by_cases hss : ss = []
  · obtain rfl : v = .slice none 0 0 := hnil.2 hss
    subst hss
    have cS := AnyF.slices_SortFunc_none (P := Tryz.prog) (ρ := Tryz.sortR_ren) { Tryz.sortR with } none 0 (.func (.func 32) #[] #[]) w1
    change Calls Tryz.prog 54 _ _ _ at cS
    have KB := Lib.hid kb
    have HR := Lib.hid hrow
    have HS := Lib.hid hS
    clear kb hrow hS hnil hb cC
    refine (callsIn_wide.2 cS).mono ?_
    rintro e w2 ⟨rfl, rfl⟩
    gi_wp2
    go_ret
    exact ⟨_, [], rfl, HS.out, List.Pairwise.nil, HR.out, KB.out⟩
  · rcases hrow.2 with ⟨hv, h0⟩ | ⟨gb, cap, cur, rfl, hbase, hgb, r1, r2, r3, r4⟩
    · exact absurd (hnil.1 hv) hss
    have hH : HoldsK encR 2 w1 gb 0 ss.toArray := holdsR_of_block hgb r4
    have hgl : gb < w1.heap.size := (Array.getElem?_eq_some_iff.1 hgb).1
    have hcmp : CmpLays Tryz.prog 32 #[] encR 2 (fun x y : RV => Lib.compareInt x.o y.o) gb 0 ss.toArray.size w1 := fun m os dk hdk x y => closureR x y _
    have cS := AnyQ.slices_SortFunc Tryz.sortR 2 Tryz.isAgg77 Tryz.sizeOf77 encR (fun _ => rfl) (fun x v hv => by simp [encR] at hv; rcases hv with rfl | rfl <;> rfl) (fun x y : RV => Lib.compareInt x.o y.o) swoR 32 #[] gb 0 cap ss.toArray w1 eg hcmp hH hgl (by simp; omega)
    change Calls Tryz.prog 54 _ _ _ at cS
    rw [List.size_toArray] at cS
    have POST := Lib.hid (fun (d' : Array RV) (n : Nat) (os : Array Obj) (hp : PermIn 0 ss.length ss.toArray d') (hs : SortedIn (ltOf fun x y : RV => Lib.compareInt x.o y.o) 0 ss.length d') => show ∃ (v : Value) (ts : List RV), Ending.returned (.slice (some ⟨gb, 0, none⟩) ss.length cap) = .returned v ∧ ts.Perm (L.map rvOf) ∧ ts.Pairwise (fun a b => a.o ≤ b.o) ∧ (sortWorldK encR 2 w1 gb 0 n d' os).ownsRow w.heap.size 77 2 v ts.length (encRs ts) ∧ Kp (fun _ => False) w (sortWorldK encR 2 w1 gb 0 n d' os) from by
      obtain ⟨hp1, _, hp3⟩ := hp
      have hsz : d'.size = ss.length := by simpa using hp1
      have hpp : d'.toList.Perm ss := by
        have e1 : d'.extract 0 ss.length = d' := by rw [← hsz]; simp
        have e2 : ss.toArray.extract 0 ss.length = ss.toArray := by simp
        rw [e1, e2] at hp3
        simpa using hp3
      refine ⟨_, d'.toList, rfl, hpp.trans hS, ?_, ?_, ?_⟩
      · rw [List.pairwise_iff_getElem]
        intro i j hi hj hij
        have hi' : i < d'.size := by simpa using hi
        have hj' : j < d'.size := by simpa using hj
        have := hs i j (Nat.zero_le _) hij (by omega)
        rw [getElem!_pos d' i hi', getElem!_pos d' j hj'] at this
        simpa using ltR this
      · have hll : d'.toList.length = ss.length := by simpa using hsz
        have := ownsRow_sortedR (w := w1) (base := w.heap.size) (g := gb) (cap := cap) (n := n) (os := os) (ss := ss) (ts := d'.toList) hll hbase hgb r1 r2 r3
        rw [hll]
        simpa using this
      · exact kb.trans (sortWorldR_kp w1 gb n _ os) (by rintro b hb' rfl; omega))
    clear kb hrow hS hnil hb cC hH hgl hcmp hgb r1 r2 r3 r4
    refine (callsIn_wide.2 cS).mono ?_
    rintro e w2 ⟨rfl, d', n, os, hp, hs, rfl⟩
    have P2 := Lib.hid (POST.out d' n os hp hs)
    clear POST cS hp hs
    generalize sortWorldK encR 2 w1 gb 0 n d' os = w2 at *
    gi_wp2
    go_ret
    exact P2.out
/-- A row's value. -/
def rvV (v : Value) : RV := rvOf ⟨0, v, 0⟩
theorem nodup_perm {α : Type} [DecidableEq α] : ∀ {l m : List α}, l.Nodup → m.Nodup → (∀ x, x ∈ l ↔ x ∈ m) → l.Perm m := fun h1 h2 h => (List.perm_ext_iff_of_nodup h1 h2).2 h
end Go.Proofs.YtgidjgkafbjkpaaGreatDoor
namespace Go.Proofs.YtgidjgkafbjkpaaGreatDoor
open Go.RowKit

theorem rvV_eq (e : Ent) : rvOf e = rvV e.v := rfl
theorem mget_mem : ∀ {L : List Ent} {k : Int} {v : Value}, mget k L = some v → ∃ e ∈ L, e.k = k ∧ e.v = v
  | a :: L, k, v, h => by
    simp only [mget] at h
    by_cases hk : a.k = k
    · rw [if_pos (by simpa using hk)] at h
      exact ⟨a, List.mem_cons_self, hk, Option.some.inj h⟩
    · rw [if_neg (by simpa using hk)] at h
      obtain ⟨e, he, h1, h2⟩ := mget_mem h
      exact ⟨e, List.mem_cons_of_mem _ he, h1, h2⟩
/-- The rows as they lie, in order. -/
theorem CM.rows_rv {w : World} {g : Nat} {s : CS} (h : CM w g s) : AllR s.RL ∧ ∃ us : List RV, us.Perm (s.RL.map rvOf) ∧ us.Pairwise (fun a b => a.o < b.o) ∧ us.length = s.rows.length ∧
    ∀ (k : Nat) (hk : k < s.rows.length), ∃ r, us[k]? = some r ∧ r.n = s.rows[k].v.length ∧ RdN w r.A s.rows[k].v ∧ (r.A = none → r.c = 0) := by
  have hmem : ∀ e ∈ s.RL, ∃ x ∈ s.rows, (x.ip : Int) = e.k ∧ TR w x e.v := fun e he => by
    have hg := mget_of_mem h.rm.keys he
    by_cases hx : ∀ x ∈ s.rows, (x.ip : Int) ≠ e.k
    · rw [h.rh.none_ _ hx] at hg; cases hg
    · obtain ⟨x, hx⟩ := Classical.not_forall.1 hx
      obtain ⟨hm, hk⟩ := Classical.not_imp.1 hx
      have hk : (x.ip : Int) = e.k := Classical.not_not.1 hk
      obtain ⟨v, hv, ht⟩ := h.rh.some_ x hm
      rw [hk, hg] at hv
      rw [← Option.some.inj hv] at ht
      exact ⟨x, hm, hk, ht⟩
  have hval : ∀ x ∈ s.rows, ∃ A c, mget (x.ip : Int) s.RL = some (rowV A x.v.length c x.ord) ∧ RdN w A x.v ∧ (A = none → c = 0) := fun x hx => by
    obtain ⟨v, hv, A, c, e, hr, hn⟩ := h.rh.some_ x hx
    exact ⟨A, c, by rw [hv, e], hr, hn⟩
  have hrow : ∀ (A : Option Addr) (n c o : Nat), rvV (rowV A n c o) = ⟨A, n, c, (o : Int)⟩ := fun A n c o => rfl
  refine ⟨fun e he => ?_, s.rows.map (fun x => rvV ((mget (x.ip : Int) s.RL).getD undef)), ?_, ?_, by rw [List.length_map], fun k hk => ?_⟩
  · obtain ⟨x, _, _, A, c, e1, _⟩ := hmem e he
    rw [rvOf_val e1, e1]
    rfl
  · have hp : (s.rows.map (fun x => (x.ip : Int))).Perm (s.RL.map Ent.k) := by
      refine nodup_perm ?_ h.rm.keys (fun i => ?_)
      · have := h.rs.nd
        have e : s.rows.map (fun x => (x.ip : Int)) = (s.rows.map It.ip).map (fun i : Nat => (i : Int)) := by rw [List.map_map]; rfl
        rw [e]
        exact List.Pairwise.map _ (fun a b hab e => hab (by have e : (a : Int) = (b : Int) := e; omega)) this
      · simp only [List.mem_map]
        constructor
        · rintro ⟨x, hx, rfl⟩
          obtain ⟨A, c, hv, _⟩ := hval x hx
          obtain ⟨e, he, hk, _⟩ := mget_mem hv
          exact ⟨e, he, hk⟩
        · rintro ⟨e, he, rfl⟩
          obtain ⟨x, hx, hk, _⟩ := hmem e he
          exact ⟨x, hx, hk⟩
    have hq := hp.map (fun i : Int => rvV ((mget i s.RL).getD undef))
    rw [List.map_map, List.map_map] at hq
    refine hq.trans (List.Perm.of_eq (List.map_congr_left (fun e he => ?_)))
    show rvV ((mget e.k s.RL).getD undef) = rvOf e
    rw [mget_of_mem h.rm.keys he]
    rfl
  · refine List.Pairwise.map _ (R := fun x y : Rw => x.ord < y.ord ∧ x ∈ s.rows ∧ y ∈ s.rows) (fun x y hxy => ?_) ?_
    · obtain ⟨hlt, hx, hy⟩ := hxy
      obtain ⟨A, c, hv, _⟩ := hval x hx
      obtain ⟨A', c', hv', _⟩ := hval y hy
      rw [hv, hv']
      show ((x.ord : Nat) : Int) < ((y.ord : Nat) : Int)
      omega
    · rw [List.pairwise_iff_getElem]
      intro i j hi hj hij
      exact ⟨(List.pairwise_iff_getElem.1 h.rs.ord) i j hi hj hij, List.getElem_mem hi, List.getElem_mem hj⟩
  · obtain ⟨A, c, hv, hr, hn⟩ := hval _ (List.getElem_mem hk)
    refine ⟨⟨A, s.rows[k].v.length, c, s.rows[k].ord⟩, ?_, rfl, hr, hn⟩
    rw [List.getElem?_map, List.getElem?_eq_getElem hk, Option.map_some, hv]
    rfl
theorem rv_sorted {ts us : List RV} (hp : ts.Perm us) (h1 : ts.Pairwise (fun a b => a.o ≤ b.o)) (h2 : us.Pairwise (fun a b => a.o < b.o)) : ts = us := by
  have hn : (us.map RV.o).Nodup := List.Pairwise.map _ (fun a b hab e => by have e : a.o = b.o := e; omega) h2
  have hn2 : (ts.map RV.o).Nodup := (hp.map RV.o).nodup_iff.2 hn
  have h3 : ts.Pairwise (fun a b => a.o < b.o) := by
    have hne : ts.Pairwise (fun a b => a.o ≠ b.o) := List.Pairwise.of_map RV.o (fun a b h => h) hn2
    exact (h1.and hne).imp (fun {a b} hab => by obtain ⟨h1, h2⟩ := hab; omega)
  exact eq_of_strict (r := fun a b : RV => a.o < b.o) (fun a b h1 h2 => by omega) h3 h2 (fun x => hp.mem_iff)
theorem toks_take {l : List Rw} {k : Nat} (h : k < l.length) : toks (l.take (k + 1)) = toks (l.take k) ++ l[k].v := by
  unfold toks
  rw [List.take_add_one, List.getElem?_eq_getElem h, List.flatMap_append]
  simp only [Option.toList_some, List.flatMap_cons, List.flatMap_nil, List.append_nil]
set_option maxRecDepth 1000000 in
set_option maxHeartbeats 16000000 in
/-- Tokens. -/
theorem ctokens (g : Nat) (s : CS) (w : World) (h : CM w g s) (hlr : s.rows.length ≤ 1000) (hlv : ∀ r ∈ s.rows, r.v.length ≤ 1000) :
    Calls Tryz.prog 12 #[.pointer (some ⟨g, 0, none⟩)] w fun ev w' => ∃ v, ev = .returned v ∧ w'.ownsRow w.heap.size 3 1 v (toks s.rows).length (intsK .i64 (toks s.rows)) ∧ Kp (fun _ => False) w w' := by
  have z5 : w.cell? ⟨g, 5, none⟩ = some (.map (some s.rb)) := (h.bk.cell 5).trans rfl
  obtain ⟨hall, us, hp, hus, hul, hat⟩ := h.rows_rv
  have hrl : s.RL.length ≤ 1000000 := by have := h.rh.len; omega
  have V := Lib.hid ((callsIn_wide (n := 6)).1 (valsR 6 (some s.rb) w))
  have k1 : Kp (fun _ => False) w (w.alloc (.cells #[.map (some s.rb)] 66)) := (Kp.refl _ w).alloc _
  have SR := Lib.hid (sortedR w.heap.size s.rb s.rc s.RL hall (w.alloc (.cells #[.map (some s.rb)] 66)) ((Bk.new w 66 #[.map (some s.rb)]).cell 0) (h.rm.kept k1 (fun f => f)) hrl)
  have K1 := Lib.hid k1
  have HP := Lib.hid hp
  have HUS := Lib.hid hus
  have HAT := Lib.hid hat
  have HUL := Lib.hid hul
  have HTL := Lib.hid (show ∀ k, (toks (s.rows.take k)).length ≤ 1000000 from fun k => by
    have h1 := toks_le (m := 1000) (l := s.rows.take k) (fun r hr => hlv r (List.mem_of_mem_take hr))
    have h2 : (s.rows.take k).length ≤ 1000 := by rw [List.length_take]; omega
    have h3 : (s.rows.take k).length * 1000 ≤ 1000 * 1000 := Nat.mul_le_mul_right _ h2
    omega)
  have HLV := Lib.hid hlv
  clear h hall hp hus hul hat hrl k1 hlv
  obtain ⟨i0, hi0, hz0, hz1, hz2⟩ := info_parts (show (Tryz.prog.info? 3).map (fun i => (i.zero, i.size, i.bytes)) = some (some (.int .i64 0), 1, 8) by kernel_rfl)
  have hmx : (2000000 : Nat) < maxLen := by decide
  go_enter Tryz.func12, Tryz.ntmps12
  go_wp2_with fail
  refine V.out.mono ?_
  rintro ev w1 ⟨rfl, rfl⟩
  clear V
  go_wp2_with fail
  refine SR.out.mono ?_
  rintro ev w3 ⟨v3, ts, rfl, hpt, hso, hown, k3⟩
  have ets := rv_sorted (hpt.trans HP.out.symm) hso HUS.out
  have K3 := Lib.hid (K1.out.trans' k3)
  have etl : ts.length = s.rows.length := by rw [ets, HUL.out]
  obtain ⟨B, c1, hv⟩ : ∃ B c1, v3 = .slice B s.rows.length c1 := by
    rcases hown.2 with ⟨e, h0⟩ | ⟨gb, cap, cur, e, _⟩
    · exact ⟨none, 0, by rw [e]; congr 1; omega⟩
    · exact ⟨_, cap, by rw [e, etl]⟩
  subst hv
  have HAT3 := Lib.hid (show ∀ (k : Nat) (hk : k < s.rows.length), ∃ gb A n c o, B = some ⟨gb, 0, none⟩ ∧ (∃ cur, Bk w3 gb 77 cur ∧ cur[2 * k]? = some (.slice A n c) ∧ cur[2 * k + 1]? = some (.int .i64 o)) ∧ n = s.rows[k].v.length ∧ RdN w A s.rows[k].v ∧ (A = none → c = 0) from fun k hk => by
    obtain ⟨r, hr, hn, hrd, hc⟩ := HAT.out k hk
    rcases hown.2 with ⟨e, h0⟩ | ⟨gb, cap, cur, e, _, hgb, r1, r2, r3, r4⟩
    · omega
    · injection e with e1 e2 e3
      have hk2 : k < ts.length := by omega
      obtain ⟨g0, g1⟩ := encRs_get ts k hk2
      have er : ts[k] = r := by
        have : ts[k]? = some r := by rw [ets]; exact hr
        rw [List.getElem?_eq_getElem hk2] at this
        exact Option.some.inj this
      rw [er] at g0 g1
      refine ⟨gb, r.A, r.n, r.c, r.o, e1, ⟨cur, hgb, ?_, ?_⟩, hn, hrd, hc⟩
      · rw [← r4, List.getElem?_take_of_lt (by omega), Array.getElem?_toList] at g0
        exact g0
      · rw [← r4, List.getElem?_take_of_lt (by omega), Array.getElem?_toList] at g1
        exact g1)
  have l0 : (0 : Int) ≤ (s.rows.length : Int) := by omega
  clear SR hpt hso hown k3 ets etl HAT z5
  go_wp2_with fail
  go_loopw [4, 15] (fun v4 v15 wr => ∃ k : Nat, v15 = .int .i64 (k : Int) ∧ k ≤ s.rows.length ∧ wr.ownsRow w3.heap.size 3 1 v4 (toks (s.rows.take k)).length (intsK .i64 (toks (s.rows.take k))) ∧ Kp (fun _ => False) w3 wr) (fun _ v _ => s.rows.length - (intOf v).toNat)
  case atStart => exact ⟨0, rfl, Nat.zero_le _, World.ownsRow_nil _ _ _ _, Kp.refl _ _⟩
  case round =>
    obtain ⟨k, rfl, hk, hO, hK⟩ := hrel
    have k0 : (0 : Int) ≤ (k : Int) := by omega
    by_cases hlt : k < s.rows.length
    · have k1 : (k : Int) < (s.rows.length : Int) := by omega
      obtain ⟨gb, A, n, c, o, hB, ⟨cur, hbk, hc0, hc1⟩, hn, hrd, hcn⟩ := HAT3.out k hlt
      subst hB
      have hbk' := hbk.kept hK (fun f => f)
      have d0 : wr.cell? ⟨gb, k * 2, none⟩ = some (.slice A n c) := by rw [Nat.mul_comm, hbk'.cell]; exact hc0
      have d1 : wr.cell? ⟨gb, k * 2 + 1, none⟩ = some (.int .i64 o) := by rw [Nat.mul_comm, hbk'.cell]; exact hc1
      have hn1 : n ≤ 1000 := by rw [hn]; exact HLV.out _ (List.getElem_mem hlt)
      have hrd2 := (hrd.none_kept K3.out).none_kept hK
      have ka := (Kp.refl (fun _ => False) wr).alloc (.cells #[.slice A n c, .int .i64 o] 77)
      have hrd3 := Lib.hid (hrd2.none_kept ka)
      have b3 := Bk.new wr 77 #[.slice A n c, .int .i64 o]
      have e0 := b3.cell 0
      have e1 := b3.cell 1
      have O3 := Lib.hid (own_kp hO ka (fun _ _ f => f))
      have KA := Lib.hid (hK.trans' ka)
      have HN := Lib.hid hn
      have htl := HTL.out k
      have SZ := Lib.hid (Nat.le_trans hK.size ka.size)
      have TK := Lib.hid (toks_take hlt)
      clear hO hK hbk hbk' hc0 hc1 hrd hrd2 ka b3 hn
      generalize hq : (toks (s.rows.take k)).length = q at *
      have HQ := Lib.hid hq
      clear hq
      cases A with
      | none =>
        obtain rfl : c = 0 := hcn rfl
        have hn0 : n = 0 := by
          rw [HN.out]
          rcases hrd3.out.1.2 with h | ⟨_, _, h, _⟩
          · exact h
          · cases h
        subst hn0
        clear hcn
        go_wp2_with
          (at_builtin
           go_must (refine wpList_append_own_none rfl (.tmp 19) (.tmp 21) 35 rfl w3.heap.size 3 i0 1 Tryz.underlying35 hi0 u4 q (intsK .i64 (toks (s.rows.take k))) rfl O3.out rfl ?_))
        have e : toks (s.rows.take (k + 1)) = toks (s.rows.take k) := by rw [TK.out, List.eq_nil_of_length_eq_zero HN.out.symm, List.append_nil]
        refine ⟨⟨k + 1, by go_num, by omega, ?_, KA.out⟩, ?_⟩
        · rw [e, HQ.out]; exact O3.out
        · simp [intOf]; omega
      | some a =>
        have HCL := Lib.hid hrd3.out.cells
        clear hcn
        go_wp2_with
          (at_builtin
           go_must (
             refine wpList_append_own _ rfl (.tmp 19) (.tmp 21) 35 rfl w3.heap.size 3 i0 _ 1 8 Tryz.underlying35 hi0 hz0 hz1 hz2 rfl (by omega) u4 q (intsK .i64 (toks (s.rows.take k))) rfl O3.out a n c (intsK .i64 s.rows[k].v) rfl (by rw [intsK_len, HN.out, Nat.mul_one]) HCL.out (intsK_one _) (by omega) (by omega) SZ.out ?_
             intro v4 w4 own4 hgrow4 _
             have FIN := Lib.hid (And.intro own4 (KA.out.grown hgrow4 (fun j hj => .inr (O3.out.lt j hj).1)))
             clear own4 hgrow4))
        refine ⟨⟨k + 1, by go_num, by omega, ?_, FIN.out.2⟩, ?_⟩
        · rw [TK.out, intsK_app, List.length_append, HQ.out, ← HN.out]; exact FIN.out.1
        · simp [intOf]; omega
    · have k1 : ¬ ((k : Int) < (s.rows.length : Int)) := by omega
      obtain rfl : k = s.rows.length := by omega
      rw [List.take_length] at hO
      have P := Lib.hid (And.intro hO hK)
      clear hO hK
      go_wp2_with fail
      exact bodyPost_ret (results_tmp rfl _ _ _) rfl ⟨u4, rfl, Go.Proofs.ownsRow_base_a P.out.1 K3.out.size, K3.out.trans' P.out.2⟩
end Go.Proofs.YtgidjgkafbjkpaaGreatDoor
