/- Wheel: the keys of a map, as the kit reads maps. Wheel: the keys, in order. Wheel: Go, plain part. Wheel: Go, plain part, the end. -/
import Derived.Test.YtgidjgkafbjkpaaGreatDoorWhm
import Derived.Test.YtgidjgkafbjkpaaGreatDoorWsi
import Derived.TacticsInMore
set_option linter.unusedVariables false
set_option linter.unusedSimpArgs false
namespace Go.Proofs.YtgidjgkafbjkpaaGreatDoor
open Go.RowKit

open Go.Shelf Go.Sort Go.Maps
open Go.WideElems (Fit rg pl)
def RB : Value → Option (DataW Nat × List MemPlace) := fun _ => some (.lit (.bool true), [])
theorem wf64 {a : Int} (h1 : -9223372036854775808 ≤ a) (h2 : a ≤ 9223372036854775807) : (Lit.int .i64 a).wf = true := by
  exact WalkArith.wf_i64 ⟨h1, h2⟩
theorem IMap.owns {w : World} {b c : Nat} {L : List Ent} (h : IMap w b c L) (hr : ∀ e ∈ L, -9223372036854775808 ≤ e.k ∧ e.k ≤ 9223372036854775807) (hl : L.length ≤ maxLen) :
    ∃ D, w.ownsMap Tryz.prog 3 RB b L.length D ∧ (intKeys D).Perm (L.map Ent.k) ∧ Maps.size D = L.length := by
  have hrg : ∀ e ∈ L, WideElems.rd Tryz.prog 3 RB e.me = some (.int .i64 e.k, .lit (.bool true)) := by
    intro e he
    unfold WideElems.rd
    rw [show e.me.key = .int .i64 e.k from rfl, keyOf_int_mk Tryz.underlying3 (wf64 (hr e he).1 (hr e he).2)]
    rfl
  refine ⟨_, ⟨_, c, h.at_, ⟨by simpa using hl, ⟨?_, ?_, ?_⟩, ?_⟩, by simp, rfl⟩, ?_, ?_⟩
  · intro x hx
    simp only [List.mem_map] at hx
    obtain ⟨e, he, rfl⟩ := hx
    exact h.below e he
  · rw [List.toList_toArray, List.map_map]
    exact h.born_nd
  · rw [List.toList_toArray, List.map_map]
    have := h.keys
    show (L.map (fun e => Value.int .i64 e.k)).Nodup
    rw [show L.map (fun e => Value.int IntKind.i64 e.k) = (L.map Ent.k).map (fun k => Value.int .i64 k) by rw [List.map_map]; rfl]
    exact List.Pairwise.map _ (fun a b hne e => hne (by injection e)) this
  · intro x hx
    simp only [List.mem_map] at hx
    obtain ⟨e, he, rfl⟩ := hx
    exact ⟨_, hrg e he⟩
  · unfold intKeys
    refine ((WideShapes.sorted_perm _).map _).trans ?_
    rw [List.toList_toArray, List.map_map, List.map_map]
    refine List.Perm.of_eq (List.map_congr_left ?_)
    intro e he
    simp only [Function.comp_apply]
    unfold rg
    rw [hrg e he]
    rfl
  · show (((L.map Ent.me).toArray.toList.map (rg Tryz.prog 3 RB)).foldr DataW.insert []).length = _
    rw [length_sorted]
    simp
end Go.Proofs.YtgidjgkafbjkpaaGreatDoor
namespace Go.Proofs.YtgidjgkafbjkpaaGreatDoor
open Go.RowKit

open Go.Shelf Go.Sort Go.Maps
theorem sortWorld_kp (W : World) (gb m : Nat) (dk : Array Int) (os : Array Obj) : Kp (fun b => b = gb) W (sortWorld encZ W gb 0 m dk os) := by
  have h := grownBy_sorted_i (w := W) (g := gb) (n := m) (os := os) dk
  exact (Kp.refl (fun b => b = gb) W).grown h (fun k e => .inl (Option.some.inj e).symm)
theorem sooner_sorted {L : List Ent} {ss : List Int} (hn : ss.Nodup) : (ss.mergeSort fun x y => !(ltOf (cfT L)) y x).Pairwise (sooner L) := by
  have hp := List.pairwise_mergeSort (le := fun x y => !(ltOf (cfT L)) y x) (by
    intro a b c h1 h2
    simp only [Bool.not_eq_true', ← Bool.not_eq_true, ltOf_cfT] at *
    unfold sooner at *
    omega) (by
    intro a b
    rcases h1 : ltOf (cfT L) b a with _ | _
    · rfl
    · rcases h2 : ltOf (cfT L) a b with _ | _
      · rfl
      · rw [ltOf_cfT] at h1 h2
        unfold sooner at h1 h2
        omega) ss
  have hn2 : (ss.mergeSort fun x y => !(ltOf (cfT L)) y x).Nodup := (List.mergeSort_perm ss _).nodup_iff.2 hn
  refine (hp.and hn2).imp ?_
  rintro a b ⟨h1, h2⟩
  simp only [Bool.not_eq_true', ← Bool.not_eq_true, ltOf_cfT] at h1
  unfold sooner at *
  omega
set_option maxRecDepth 1000000 in
set_option maxHeartbeats 8000000 in
theorem sorted_keys (g now X Bm : Nat) (s : WS) (P : Int → Prop) (w : World) (h : WM w g now s) (inv : Inv now s.tm.L s.ov.L s.sls s.full P) (hX : w.cell? ⟨X, 0, none⟩ = some (.pointer (some ⟨g, 0, none⟩))) (hB : w.cell? ⟨Bm, 0, none⟩ = some (.map (some s.ov.b)))
    (hr : ∀ e ∈ s.ov.L, -9223372036854775808 ≤ e.k ∧ e.k ≤ 9223372036854775807) (hl : s.ov.L.length ≤ 1000000) :
    Calls Tryz.prog 68 #[.func (.func 81) #[] #[.pointer (some ⟨Bm, 0, none⟩)], .func (.func 70) #[] #[.pointer (some ⟨X, 0, none⟩)]] w fun ev w' => ∃ (v : Value) (l : List Int), ev = .returned v ∧ l.Perm (s.ov.L.map Ent.k) ∧ l.Pairwise (sooner s.tm.L) ∧ w'.ownsRow w.heap.size 3 1 v l.length (l.map encZ) ∧ Kp (fun _ => False) w w' := by
  have hml : (1000000 : Nat) ≤ maxLen := by decide
  obtain ⟨D, hown, hperm, hsize⟩ := h.ov.owns hr (Nat.le_trans hl hml)
  have hBl : Bm < w.heap.size := World.block_lt_of_cell? w _ hB
  have hseq : SeqGives Fence.wide 3 Tryz.prog 81 #[.pointer (some ⟨Bm, 0, none⟩)] encZ (fun ss => ss.Perm (intKeys D)) (Maps.size D) w :=
    AnyZI.keys_gives (ρ := Tryz.keysA_ren) { Tryz.keysA with } Fence.wide _ trivial rfl (by omega) Bm s.ov.b s.ov.L.length D w hBl hB hown
  have cC := AnyZI.collect_in Tryz.collectA Fence.wide 5 trivial trivial rfl (by omega) 81 #[.pointer (some ⟨Bm, 0, none⟩)] trivial (enters_of Tryz.func81 (by kernel_rfl) rfl) _ _ (by rw [hsize]; omega) (by rw [hsize]; omega) _ hseq
  change CallsIn _ _ Tryz.prog 79 _ _ _ at cC
  have hfC : Fence.wide.fn 79 := trivial
  have hfS : Fence.wide.fn 80 := trivial
  have eg : ∀ args w, (callFunc 70 args).run Tryz.prog w = .ok (.enter 70 args) w := enters_of Tryz.func70 (by kernel_rfl) rfl
  have hN := h.ov.keys
  have H := Lib.hid h
  have I := Lib.hid inv
  have HX := Lib.hid hX
  have HP := Lib.hid hperm
  have HN := Lib.hid hN
  have HL := Lib.hid (show ∀ ss : List Int, ss.Perm (intKeys D) → ss.length ≤ 1000000 from fun ss hs => by
    have := (hs.trans hperm).length_eq
    rw [List.length_map] at this
    omega)
  clear hB hr hl hml hown hperm hsize hseq h inv hX hN
  refine (callsIn_wide (n := 6)).1 ?_
  refine callsIn_of_wp Tryz.func68 rfl trivial ?_ rfl
  simp only [Tryz.ntmps68, List.size_toArray, List.length_cons, List.length_nil, Nat.reduceAdd, Nat.reduceSub, Array.replicate_succ, Array.replicate_zero, List.push_toArray, List.append_toArray, List.nil_append, List.cons_append]
  gi_wp2_with (gi_at_call 79; refine cC.mono ?_; rintro e w1 ⟨v, ss, rfl, hS, hrow, hnil, hb⟩)
  have kb : Kp (fun _ => False) w w1 := Kp.of_below hb _
  have hnd : ss.Nodup := (hS.trans HP.out).nodup_iff.2 HN.out
  have hlen := HL.out ss hS
  by_cases hss : ss = []
  · obtain rfl : v = .slice none 0 0 := hnil.2 hss
    subst hss
    have cS := AnyF.slices_SortFunc_none (P := Tryz.prog) (ρ := Tryz.sortA_ren) { Tryz.sortA with } none 0 (.func (.func 70) #[] #[.pointer (some ⟨X, 0, none⟩)]) w1
    change Calls Tryz.prog 80 _ _ _ at cS
    have KB := Lib.hid kb
    have HR := Lib.hid hrow
    have HS := Lib.hid (hS.trans HP.out)
    clear kb hrow hS hnil hb cC
    refine (callsIn_wide.2 cS).mono ?_
    rintro e w2 ⟨rfl, rfl⟩
    gi_wp2
    go_ret
    exact ⟨_, [], rfl, HS.out, List.Pairwise.nil, HR.out, KB.out⟩
  · rcases hrow.2 with ⟨hv, h0⟩ | ⟨gb, cap, cur, rfl, hbase, hgb, r1, r2, r3, r4⟩
    · exact absurd (hnil.1 hv) hss
    have hH : Holds encZ w1 gb 0 ss.toArray := holds_of_block_i hgb (by simpa using r4)
    have hgl : gb < w1.heap.size := (Array.getElem?_eq_some_iff.1 hgb).1
    have hW1 := H.out.none_kept kb
    have hX1 := kp_kc0 HX.out kb
    have hXl : X < w.heap.size := World.block_lt_of_cell? w _ HX.out
    have hcmp : CmpLays1 Tryz.prog 70 #[.pointer (some ⟨X, 0, none⟩)] encZ (cfT s.tm.L) gb 0 ss.toArray.size w1 := by
      intro m os dk hdk x y
      have hk := sortWorld_kp w1 gb m dk os
      have hM := hW1.kept hk (fun b hb' e => by have := H.out.lt hb'; omega)
      have hXs : (sortWorld encZ w1 gb 0 m dk os).cell? ⟨X, 0, none⟩ = some (.pointer (some ⟨g, 0, none⟩)) := kp_kc' hX1 hk (by show ¬ X = gb; omega)
      exact closure g now X s P x y _ hM I.out hXs
    have cS := Any.slices_SortFunc_total Tryz.sortA encZ (fun _ => rfl) (cfT s.tm.L) (swoT s.tm.L) 70 #[.pointer (some ⟨X, 0, none⟩)] gb 0 cap ss.toArray w1 eg hcmp hH hgl (by simp; omega) (totT s.tm.L)
    change Calls Tryz.prog 80 _ _ _ at cS
    rw [List.size_toArray] at cS
    have POST := Lib.hid (fun (n : Nat) (os : Array Obj) => show ∃ (v : Value) (l : List Int), Ending.returned (.slice (some ⟨gb, 0, none⟩) ss.length cap) = .returned v ∧ l.Perm (s.ov.L.map Ent.k) ∧ l.Pairwise (sooner s.tm.L) ∧ (sortWorld encZ w1 gb 0 n (ss.mergeSort fun x y => !(ltOf (cfT s.tm.L)) y x).toArray os).ownsRow w.heap.size 3 1 v l.length (l.map encZ) ∧ Kp (fun _ => False) w (sortWorld encZ w1 gb 0 n (ss.mergeSort fun x y => !(ltOf (cfT s.tm.L)) y x).toArray os) from by
      have hll : (ss.mergeSort fun x y => !(ltOf (cfT s.tm.L)) y x).length = ss.length := (List.mergeSort_perm ss _).length_eq
      refine ⟨_, ss.mergeSort fun x y => !(ltOf (cfT s.tm.L)) y x, rfl, (List.mergeSort_perm ss _).trans (hS.trans HP.out), sooner_sorted hnd, ?_, ?_⟩
      · rw [hll]
        exact ownsRow_sorted_i hll hbase hgb r1 r2 r3
      · exact kb.trans (sortWorld_kp w1 gb n _ os) (by rintro b hb' rfl; omega))
    clear kb hrow hS hnil hb cC hH hgl hW1 hX1 hcmp hgb r1 r2 r3 r4
    generalize (ss.mergeSort fun x y => !(ltOf (cfT s.tm.L)) y x) = ll at *
    refine (callsIn_wide.2 cS).mono ?_
    rintro e w2 ⟨rfl, n, os, rfl⟩
    have P2 := Lib.hid (POST.out n os)
    clear POST cS
    generalize sortWorld encZ w1 gb 0 n _ os = w2 at *
    gi_wp2
    go_ret
    exact P2.out
end Go.Proofs.YtgidjgkafbjkpaaGreatDoor
namespace Go.Proofs.YtgidjgkafbjkpaaGreatDoor
open Go.RowKit

section
variable {P : Program} {T E : TypeId}
/-- 'clear(m)'. -/
theorem IMap.run_clear {w : World} {b clock : Nat} {L : List Ent} {K : TypeId} (h : IMap w b clock L) (hT : P.underlying T = some (.map K E)) (t2 : TypeId) :
    ∃ w', (Builtin.clear_ #[T] t2 #[.map (some b)]).run P w = .ok (.tuple #[]) w' ∧ IMap w' b clock [] ∧ Kp (fun j => j = b) w w' := by
  have hg := MapKept.run_getObj_map (P := P) h.at_
  have hs := fun o => MapKept.run_setObj_map (P := P) o h.at_
  have hm : IMap (withMap w b [] clock) b clock [] := ⟨withMap_at _ _ _ _ h.lt, by simp, by simp, fun e he => by cases he⟩
  refine ⟨withMap w b [] clock, ?_, hm, withMap_kp ..⟩
  simp [Builtin.clear_, run_underlying hT, hg, hs, withMap]
end
/-- All of these keys are deleted. -/
def delAll : List Int → List Ent → List Ent
  | [], L => L
  | i :: is, L => delAll is (mdel i L)
theorem delAll_snoc : ∀ (is : List Int) (i : Int) (L : List Ent), delAll (is ++ [i]) L = mdel i (delAll is L)
  | [], i, L => rfl
  | j :: is, i, L => delAll_snoc is i (mdel j L)
theorem mdel_nodup {i : Int} {L : List Ent} (h : (L.map Ent.k).Nodup) : ((mdel i L).map Ent.k).Nodup := ((mdel_sub i L).map Ent.k).nodup h
theorem mget_delAll : ∀ (is : List Int) (L : List Ent) (j : Int), (L.map Ent.k).Nodup → mget j (delAll is L) = if j ∈ is then none else mget j L
  | [], L, j, _ => by simp [delAll]
  | i :: is, L, j, h => by
    rw [delAll, mget_delAll is (mdel i L) j (mdel_nodup h), mget_mdel i j L h]
    by_cases h1 : j ∈ is
    · simp [h1]
    · by_cases h2 : j = i
      · simp [h1, h2]
      · simp [h1, h2]
theorem delAll_len : ∀ (is : List Int) (L : List Ent), (L.map Ent.k).Nodup → is.Nodup → (∀ i ∈ is, (mget i L).isSome = true) → (delAll is L).length + is.length = L.length
  | [], L, _, _, _ => rfl
  | i :: is, L, h, hn, ha => by
    have h1 := mdel_len i L (ha i List.mem_cons_self)
    have h2 := delAll_len is (mdel i L) (mdel_nodup h) (List.nodup_cons.1 hn).2 (fun j hj => by
      have hne : ¬ j = i := fun e => (List.nodup_cons.1 hn).1 (by rw [← e]; exact hj)
      rw [mget_mdel i j L h, if_neg hne]
      exact ha j (List.mem_cons_of_mem _ hj))
    rw [delAll, List.length_cons]
    omega
/-- What was over is gone. -/
theorem Inv.cleared {now : Nat} {L L' ov : List Ent} {sl : Nat → Nat → List Ent} {full : Nat → Nat} (h : Inv now L ov sl full (fun _ => False)) [∀ i, Decidable (has i ov)] (hL : ∀ i, mget i L' = if has i ov then none else mget i L) : Inv now L' [] sl full (fun _ => False) := by
  have hL2 : ∀ i v, mget i L' = some v → mget i L = some v ∧ ¬ has i ov := by
    intro i v hv
    rw [hL] at hv
    by_cases ho : has i ov
    · rw [if_pos ho] at hv; cases hv
    · rw [if_neg ho] at hv; exact ⟨hv, ho⟩
  refine ⟨h.now_le, fun i v hv => h.spot i v (hL2 i v hv).1, fun i _ => ⟨fun hi => absurd hi (has_nil i), fun ⟨d, hd⟩ => ?_⟩, fun k j i _ => ⟨fun hi => ?_, fun ⟨d, hd⟩ => ?_⟩, fun i f => f.elim, h.bits, h.full_lt⟩
  · have := hL2 i _ hd
    exact absurd ((h.over i (fun f => f)).2 ⟨d, this.1⟩) this.2
  · obtain ⟨d, hd⟩ := (h.slots k j i (fun f => f)).1 hi
    refine ⟨d, ?_⟩
    have hno : ¬ has i ov := fun ho => by
      obtain ⟨d', hd'⟩ := (h.over i (fun f => f)).1 ho
      rw [hd] at hd'
      have := (spotV_inj (Option.some.inj hd')).2
      cases this
    rw [hL, if_neg hno]
    exact hd
  · exact (h.slots k j i (fun f => f)).2 ⟨d, (hL2 i _ hd).1⟩
theorem dueI_dues {L L' : List Ent} (h : Dues L L') (h1 : ∀ i v, mget i L = some v → ∃ d p, v = spotV d p) (h2 : ∀ i v, mget i L' = some v → ∃ d p, v = spotV d p) (x : Int) : dueI L x = dueI L' x := by
  rcases hx : mget x L with _ | v
  · have hx' : mget x L' = none := by
      rcases hx' : mget x L' with _ | v
      · rfl
      · obtain ⟨d, p, rfl⟩ := h2 x v hx'
        obtain ⟨q, hq⟩ := (h x d).2 ⟨p, hx'⟩
        rw [hx] at hq; cases hq
    unfold dueI
    rw [hx, hx']
  · obtain ⟨d, p, rfl⟩ := h1 x v hx
    obtain ⟨q, hq⟩ := (h x d).1 ⟨p, hx⟩
    rw [dueI_some hx, dueI_some hq]
theorem sooner_dues {L L' : List Ent} (h : ∀ x, dueI L x = dueI L' x) (x y : Int) : sooner L x y ↔ sooner L' x y := by
  unfold sooner
  rw [h, h]
/-- The moment in a wheel's first cell. -/
def nowOf (w : World) (g : Nat) : Nat := match w.cell? ⟨g, 0, none⟩ with | some (.int _ n) => n.toNat | _ => 0
theorem WM.nowOf {w : World} {g now : Nat} {s : WS} (h : WM w g now s) : nowOf w g = now := by
  unfold Go.Proofs.YtgidjgkafbjkpaaGreatDoor.nowOf
  rw [(h.bk.cell 0).trans (WC_now ..)]
  simp
/-- What Go leaves, and tells. -/
def GoPost (g t : Nat) (s : WS) (w w' : World) (v : Value) : Prop :=
  ∃ (l : List Int) (s' : WS), WM w' g t s' ∧ Inv t s'.tm.L s'.ov.L s'.sls s'.full (fun _ => False) ∧ w'.ownsRow w.heap.size 3 1 v l.length (l.map encZ) ∧ l.Pairwise (sooner s.tm.L) ∧ (∀ i, i ∈ l ↔ ∃ d p, mget i s.tm.L = some (spotV d p) ∧ d ≤ t) ∧
    (∀ i d, (∃ p, mget i s'.tm.L = some (spotV d p)) ↔ (∃ p, mget i s.tm.L = some (spotV d p)) ∧ t < d) ∧ s'.tm.L.length + l.length = s.tm.L.length ∧ s'.tm.b = s.tm.b ∧ s'.ov.b = s.ov.b ∧ Kp (fp g s) w w' ∧ ∀ b, fp g s' b → fp g s b ∨ w.heap.size ≤ b
/-- How it stands in Go's first loop. -/
structure GMid (g t X : Nat) (s : WS) (w w0 wr : World) (now : Nat) (s' : WS) : Prop where
  wm : WM wr g now s'
  inv : Inv now s'.tm.L s'.ov.L s'.sls s'.full (fun _ => False)
  le : now ≤ t
  dues : Dues s.tm.L s'.tm.L
  len : s'.tm.L.length = s.tm.L.length
  tb : s'.tm.b = s.tm.b
  ob : s'.ov.b = s.ov.b
  kp : Kp (fp g s) w wr
  own : ∀ b, fp g s' b → fp g s b ∨ w0.heap.size ≤ b
  sz : w0.heap.size ≤ wr.heap.size
  tab : Tab wr
  box : wr.cell? ⟨X, 0, none⟩ = some (.pointer (some ⟨g, 0, none⟩))
theorem GMid.apart {g t X now : Nat} {s s' : WS} {w w0 wr : World} (h : GMid g t X s w w0 wr now s') (hs : ∀ b, fp g s b → b < w.heap.size) (h0 : ¬ fp g s 0) (hw : 0 < w.heap.size) (hX : w.heap.size ≤ X ∧ X < w0.heap.size) : ¬ fp g s' 0 ∧ ¬ fp g s' X := by
  refine ⟨fun hf => ?_, fun hf => ?_⟩
  · rcases h.own 0 hf with h1 | h1
    · exact h0 h1
    · omega
  · rcases h.own X hf with h1 | h1
    · have := hs X h1; omega
    · omega
theorem GMid.drewN {g t X now : Nat} {s s' : WS} {w w0 wr : World} (h : GMid g t X s w w0 wr now s') (n : Nat) : GMid g t X s w w0 (wr.drewN n) now s' :=
  ⟨h.wm.none_kept ((Kp.refl _ wr).drewN n), h.inv, h.le, h.dues, h.len, h.tb, h.ob, h.kp.drewN n, h.own, h.sz, h.tab, h.box⟩
theorem GMid.spilled {g t X now k j : Nat} {s s' : WS} {w w0 wr w5 : World} (h : GMid g t X s w w0 wr now s') (hs : ∀ b, fp g s b → b < w.heap.size) (h0 : ¬ fp g s 0) (hw : 0 < w.heap.size) (hX : w.heap.size ≤ X ∧ X < w0.heap.size) (hle : fromOf now k j ≤ t) (hp : SpillPost g (fromOf now k j) s' wr w5) :
    ∃ s'', GMid g t X s w w0 w5 (fromOf now k j) s'' := by
  obtain ⟨s6, wm, inv, du, len, tb, ob, kp, own⟩ := hp
  have ha := h.apart hs h0 hw hX
  have h4 := h.sz
  refine ⟨s6, wm, inv, hle, h.dues.trans du, len.trans h.len, tb.trans h.tb, ob.trans h.ob, h.kp.trans kp ?_, ?_, Nat.le_trans h.sz kp.size, h.tab.kept kp ha.1, kp_kc' h.box kp ha.2⟩
  · intro b hb hf
    rcases h.own b hf with h1 | h1
    · exact h1
    · omega
  · intro b hb
    rcases own b hb with h1 | h1
    · exact h.own b h1
    · right; omega
end Go.Proofs.YtgidjgkafbjkpaaGreatDoor
namespace Go.Proofs.YtgidjgkafbjkpaaGreatDoor
open Go.RowKit

open Go.Shelf Go.Sort Go.Maps
theorem nodup_sub_len : ∀ {l m : List Int}, l.Nodup → (∀ x ∈ l, x ∈ m) → l.length ≤ m.length
  | [], _, _, _ => Nat.zero_le _
  | a :: l, m, hn, hs => by
    have ha := hs a List.mem_cons_self
    have h1 := nodup_sub_len (l := l) (m := m.erase a) (List.nodup_cons.1 hn).2 (fun x hx => by
      have hne : x ≠ a := fun e => (List.nodup_cons.1 hn).1 (by rw [← e]; exact hx)
      exact (List.mem_erase_of_ne hne).2 (hs x (List.mem_cons_of_mem _ hx)))
    rw [List.length_erase_of_mem ha] at h1
    have := List.length_pos_of_mem ha
    rw [List.length_cons]
    omega
theorem mem_keys {i : Int} {M : List Ent} : i ∈ M.map Ent.k ↔ has i M := by
  unfold has
  rcases hg : mget i M with _ | v
  · have := mget_none.1 hg
    simp only [List.mem_map, Option.isSome_none, Bool.false_eq_true, iff_false, not_exists, not_and]
    intro e he
    exact this e he
  · simp only [Option.isSome_some, iff_true]
    apply Classical.byContradiction
    intro hh
    have : mget i M = none := mget_none.2 (fun e he h2 => hh (List.mem_map.2 ⟨e, he, h2⟩))
    rw [this] at hg
    cases hg
/-- What lies over is in range, and not too much. -/
theorem over_small {now : Nat} {s s' : WS} {w : World} {g : Nat} (h : WM w g now s') (inv : Inv now s'.tm.L s'.ov.L s'.sls s'.full (fun _ => False)) (hd : Dues s.tm.L s'.tm.L) (hl : s'.tm.L.length = s.tm.L.length)
    (hr : ∀ i v, mget i s.tm.L = some v → -9223372036854775808 ≤ i ∧ i ≤ 9223372036854775807) (hn : s.tm.L.length ≤ 1000000) : (∀ e ∈ s'.ov.L, -9223372036854775808 ≤ e.k ∧ e.k ≤ 9223372036854775807) ∧ s'.ov.L.length ≤ 1000000 := by
  have hsub : ∀ i, has i s'.ov.L → ∃ d, mget i s'.tm.L = some (spotV d .over) := fun i hi => (inv.over i (fun f => f)).1 hi
  refine ⟨fun e he => ?_, ?_⟩
  · obtain ⟨d, hd'⟩ := hsub e.k (mem_keys.1 (List.mem_map.2 ⟨e, he, rfl⟩))
    obtain ⟨q, hq⟩ := (hd e.k d).2 ⟨_, hd'⟩
    exact hr _ _ hq
  · have := nodup_sub_len h.ov.keys (m := s'.tm.L.map Ent.k) (fun x hx => by
      obtain ⟨d, hd'⟩ := hsub x (mem_keys.1 hx)
      exact mem_keys.2 (by unfold has; rw [hd']; rfl))
    rw [List.length_map, List.length_map] at this
    omega
open Classical in
theorem go_ends {g t X now c2 : Nat} {s s' : WS} {w w0 W2 W3 W5 W6 W7 : World} {v : Value} {l : List Int} (h : GMid g t X s w w0 W2 now s') (inv0 : ∀ i v, mget i s.tm.L = some v → ∃ d p, v = spotV d p) (hw : w.heap.size ≤ w0.heap.size)
    (ht : t ≤ TOP) (hfs : ∀ k j, First s'.full k j → t < fromOf now k j)
    (k3 : Kp (fun b => b = g) W2 W3) (h3 : WM W3 g t s') (k5 : Kp (fun _ => False) W3 W5) (hperm : l.Perm (s'.ov.L.map Ent.k)) (hpw : l.Pairwise (sooner s'.tm.L)) (hrow : W5.ownsRow W3.heap.size 3 1 v l.length (l.map encZ))
    (k6 : Kp (fun b => b = s'.tm.b) W5 W6) (i6 : IMap W6 s'.tm.b c2 (delAll l s'.tm.L)) (k7 : Kp (fun b => b = s'.ov.b) W6 W7) (i7 : IMap W7 s'.ov.b s'.ov.c []) : GoPost g t s w W7 v := by
  have hor := first_or s'.full h.inv.full_lt
  obtain ⟨invT, hover⟩ := h.inv.time h.le ht hfs (hor.imp (fun h => h) (fun ⟨k, j, _, hf⟩ => ⟨k, j, hf⟩))
  have hmem : ∀ i, i ∈ l ↔ has i s'.ov.L := fun i => hperm.mem_iff.trans mem_keys
  have hnd : l.Nodup := hperm.nodup_iff.2 h3.ov.keys
  have hsome : ∀ i ∈ l, (mget i s'.tm.L).isSome = true := fun i hi => by
    obtain ⟨d, hd⟩ := (invT.over i (fun f => f)).1 ((hmem i).1 hi)
    rw [hd]; rfl
  have hget : ∀ i, mget i (delAll l s'.tm.L) = if has i s'.ov.L then none else mget i s'.tm.L := fun i => by
    rw [mget_delAll l _ i h3.tm.keys]
    by_cases hi : i ∈ l
    · rw [if_pos hi, if_pos ((hmem i).1 hi)]
    · rw [if_neg hi, if_neg (fun hh => hi ((hmem i).2 hh))]
  have h5 := h3.none_kept k5
  have h6 := h5.setTm k6 i6
  have h7 := h6.setOv k7 i7
  have hinv := invT.cleared hget
  have hspot' : ∀ i v, mget i s'.tm.L = some v → ∃ d p, v = spotV d p := fun i v hv => by
    obtain ⟨d, p, e, _⟩ := h.inv.spot i v hv
    exact ⟨d, p, e⟩
  have hdue := dueI_dues h.dues inv0 hspot'
  have hsz2 := h.kp.size
  have hsz3 := k3.size
  have hsz5 := k5.size
  have hot : ∀ i d, (∃ p, mget i s'.tm.L = some (spotV d p)) → (has i s'.ov.L ↔ d ≤ t) := by
    rintro i d ⟨p, hp⟩
    rw [← hover i d p hp]
    constructor
    · intro hh
      obtain ⟨d', hd'⟩ := (invT.over i (fun f => f)).1 hh
      rw [hp] at hd'
      exact (spotV_inj (Option.some.inj hd')).2
    · rintro rfl
      exact (invT.over i (fun f => f)).2 ⟨d, hp⟩
  have tl := h3.tm.lt
  have ol := h3.ov.lt
  have hrow7 : W7.ownsRow W3.heap.size 3 1 v l.length (l.map encZ) := by
    refine own_kp (own_kp hrow k6 ?_) k7 ?_
    · intro k hk e
      rcases hrow.2 with ⟨rfl, _⟩ | ⟨gb, cap, cur, rfl, hb, _⟩
      · cases hk
      · have : gb = k := Option.some.inj hk
        have e : k = s'.tm.b := e
        omega
    · intro k hk e
      rcases hrow.2 with ⟨rfl, _⟩ | ⟨gb, cap, cur, rfl, hb, _⟩
      · cases hk
      · have : gb = k := Option.some.inj hk
        have e : k = s'.ov.b := e
        omega
  refine ⟨l, _, h7, hinv, ?_, hpw.imp (fun {a b} hab => (sooner_dues hdue a b).2 hab), fun i => ?_, fun i d => ?_, ?_, h.tb, h.ob, ?_, ?_⟩
  · refine ⟨hrow7.1, ?_⟩
    rcases hrow7.2 with hh | ⟨gb, cap, cur, e, hb, rest⟩
    · exact .inl hh
    · exact .inr ⟨gb, cap, cur, e, by omega, rest⟩
  · rw [hmem i]
    constructor
    · intro hh
      obtain ⟨d, hd⟩ := (invT.over i (fun f => f)).1 hh
      obtain ⟨q, hq⟩ := (h.dues i d).2 ⟨_, hd⟩
      exact ⟨d, q, hq, (hot i d ⟨_, hd⟩).1 hh⟩
    · rintro ⟨d, p, hp, hle⟩
      exact (hot i d ((h.dues i d).1 ⟨p, hp⟩)).2 hle
  · show (∃ p, mget i (delAll l s'.tm.L) = some (spotV d p)) ↔ _
    rw [hget i]
    constructor
    · rintro ⟨p, hp⟩
      by_cases ho : has i s'.ov.L
      · rw [if_pos ho] at hp; cases hp
      · rw [if_neg ho] at hp
        refine ⟨(h.dues i d).2 ⟨p, hp⟩, ?_⟩
        rcases Nat.lt_or_ge t d with hlt | hle
        · exact hlt
        · exact absurd ((hot i d ⟨p, hp⟩).2 hle) ho
    · rintro ⟨hp, hlt⟩
      obtain ⟨p, hp'⟩ := (h.dues i d).1 hp
      have ho : ¬ has i s'.ov.L := fun hh => by
        have := (hot i d ⟨p, hp'⟩).1 hh
        omega
      exact ⟨p, by rw [if_neg ho]; exact hp'⟩
  · show (delAll l s'.tm.L).length + l.length = s.tm.L.length
    rw [delAll_len l _ h3.tm.keys hnd hsome, h.len]
  · have ho : ∀ b, b < w.heap.size → fp g s' b → fp g s b := fun b hb hf => by
      rcases h.own b hf with h1 | h1
      · exact h1
      · omega
    refine (((h.kp.trans k3 ?_).trans k5 (fun _ _ f => f.elim)).trans k6 ?_).trans k7 ?_
    · rintro b hb rfl; exact .inl rfl
    · rintro b hb rfl; exact ho _ hb (.inr (.inl rfl))
    · rintro b hb rfl; exact ho _ hb (.inr (.inr (.inl rfl)))
  · intro b hb
    rcases h.own b hb with h1 | h1
    · exact .inl h1
    · right; omega
end Go.Proofs.YtgidjgkafbjkpaaGreatDoor
