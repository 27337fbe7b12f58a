/- Cache: a walk over a map by Ips; its keys as an iterator gives them. Cache: a map's rows as an iterator gives them, laid in a slice. -/
import Derived.Test.YtgidjgkafbjkpaaGreatDoorMu
import Derived.Test.YtgidjgkafbjkpaaGreatDoorWhf
import Derived.RangeFuncNested
import Derived.RangeFuncBox
import Derived.RangeFuncLeaves
import Derived.Maps.AppendAt
import Derived.Shelf.AbstractIn
import Derived.WalkKit
import Derived.OwnWalkIn
import Derived.TacticsInMore
import Derived.RegionIn
import Derived.LoopNIn
import Derived.LoopIn
set_option linter.unusedVariables false
set_option linter.unusedSimpArgs false
namespace Go.Proofs.YtgidjgkafbjkpaaGreatDoor
open Go.RowKit Go.Shelf
attribute [local go_sem] Oper.semAt_some

def encU (x : Int) : Value := .int .u32 x
theorem UIt.yet {w : World} {r b clock : Nat} {L : List Ent} {D : List Int} (h : UIt w r b clock L D) : yet w r L = (L.filter (fun e => !D.contains e.k)).length := by
  obtain ⟨since, seen, c0, h1, _, _, h4⟩ := h
  unfold Go.Proofs.YtgidjgkafbjkpaaGreatDoor.yet
  rw [h1]
  show (L.filter (fun e => !seen.contains e.born)).length = _
  congr 1
  apply List.filter_congr
  intro e he
  have := h4 e he
  cases h5 : seen.contains e.born <;> cases h6 : D.contains e.k <;> simp_all
theorem len_le_nd : ∀ {A L : List Int}, A.Nodup → (∀ x ∈ A, x ∈ L) → A.length ≤ L.length
  | [], _, _, _ => Nat.zero_le _
  | x :: A, L, hn, hs => by
    have hx := hs x List.mem_cons_self
    have h1 := len_le_nd (L := L.erase x) (List.nodup_cons.1 hn).2 (fun y hy => (List.mem_erase_of_ne (by rintro rfl; exact (List.nodup_cons.1 hn).1 hy)).2 (hs y (List.mem_cons_of_mem _ hy)))
    rw [List.length_erase_of_mem hx] at h1
    have := List.length_pos_of_mem hx
    simp only [List.length_cons]
    omega
/-- A walk over a map: these entries have come. -/
structure KAt (wr : World) (r b c : Nat) (L es : List Ent) : Prop where
  um : UMap wr b c L
  it : UIt wr r b c L (es.map Ent.k).reverse
  nd : (es.map Ent.k).Nodup
  sub : ∀ e ∈ es, e ∈ L
namespace KAt
variable {wr w5 : World} {r b c : Nat} {L es : List Ent} {e : Ent}
theorem step (h : KAt wr r b c L es) (he : e ∈ L) (hn : e.k ∉ (es.map Ent.k).reverse) (hu : UMap w5 b c L) (hi : UIt w5 r b c L (e.k :: (es.map Ent.k).reverse)) : KAt w5 r b c L (es ++ [e]) := by
  refine ⟨hu, ?_, ?_, fun x hx => ?_⟩
  · rw [List.map_append, List.map_singleton, List.reverse_append, List.reverse_singleton]
    exact hi
  · rw [List.map_append, List.map_singleton, List.nodup_append]
    refine ⟨h.nd, by simp, fun x hx y hy => ?_⟩
    rw [List.mem_singleton] at hy
    subst hy
    rintro rfl
    exact hn (List.mem_reverse.2 hx)
  · rcases List.mem_append.1 hx with hx | hx
    · exact h.sub x hx
    · rw [List.mem_singleton] at hx; subst hx; exact he
theorem all (h : KAt wr r b c L es) (ha : ∀ e ∈ L, e.k ∈ (es.map Ent.k).reverse) : es.Perm L := by
  have hn : es.Nodup := List.Pairwise.of_map Ent.k (fun a b hne e => hne (by rw [e])) h.nd
  have hL : L.Nodup := List.Pairwise.of_map Ent.k (fun a b hne e => hne (by rw [e])) h.um.keys
  rw [List.perm_ext_iff_of_nodup hn hL]
  intro e
  refine ⟨h.sub e, fun he => ?_⟩
  obtain ⟨x, hx, hk⟩ := List.mem_map.1 (List.mem_reverse.1 (ha e he))
  have := nodup_inj h.um.keys (h.sub x hx) he hk
  rw [← this]; exact hx
theorem less (h : KAt wr r b c L es) (he : e ∈ L) (hn : e.k ∉ (es.map Ent.k).reverse) : es.length < L.length := by
  have h1 : (e.k :: es.map Ent.k).Nodup := List.nodup_cons.2 ⟨fun hx => hn (List.mem_reverse.2 hx), h.nd⟩
  have h2 := len_le_nd (L := L.map Ent.k) h1 (fun x hx => by
    rcases List.mem_cons.1 hx with rfl | hx
    · exact List.mem_map_of_mem he
    · obtain ⟨y, hy, rfl⟩ := List.mem_map.1 hx
      exact List.mem_map_of_mem (h.sub y hy))
  simp at h2
  omega
theorem walks (h : KAt wr r b c L es) (hk : KeepsWalks wr w5) : KAt w5 r b c L es := by
  refine ⟨⟨hk.same b _ h.um.at_ rfl, h.um.keys, h.um.borns, h.um.below⟩, ?_, h.nd, h.sub⟩
  obtain ⟨since, seen, c0, h1, h2⟩ := h.it
  exact ⟨since, seen, c0, hk.same r _ h1 rfl, h2⟩
theorem walk (h : KAt wr r b c L es) : ∃ o : Obj, wr.heap[r]? = some o ∧ o.isWalk = true := by
  obtain ⟨since, seen, c0, h1, _⟩ := h.it
  exact ⟨_, h1, rfl⟩
theorem falls (h : KAt wr r b c L es) (h5 : KAt w5 r b c L (es ++ [e])) (he : e ∈ L) (hn : e.k ∉ (es.map Ent.k).reverse) : yet w5 r L < yet wr r L := by
  rw [h.it.yet, h5.it.yet, List.map_append, List.map_singleton, List.reverse_append, List.reverse_singleton]
  exact filter_less he hn
end KAt
set_option maxRecDepth 100000 in
set_option maxHeartbeats 2000000 in
/-- maps.Keys(entries), called: the keys come, each once. -/
theorem keysU_stops (n : Nat) (hn : 1 ≤ n) (Bm b c : Nat) (L : List Ent) (w : World) (hm : w.cell? ⟨Bm, 0, none⟩ = some (.map (some b))) (hu : UMap w b c L) :
    SeqStopsK Fence.wide n Tryz.prog 63 #[.pointer (some ⟨Bm, 0, none⟩)] (fun x => #[encU x]) KeepsWalks (fun ss => ss.Perm (L.map Ent.k)) (fun _ => True) L.length w := by
  intro l J Jx W hW hJ hJx hY h0
  have kW : Kp (fun _ => False) w W := Kp.of_below hW _
  have hu1 : UMap W b c L := hu.kept kW (fun f => f)
  have hm1 : W.cell? ⟨Bm, 0, none⟩ = some (.map (some b)) := (kW.cell (p := ⟨Bm, 0, none⟩) (World.block_lt_of_cell? w _ hm) (fun f => f)).trans hm
  obtain ⟨hrg, hit⟩ := hu1.run_range (P := Tryz.prog) (T := 65) (E := 70) (K := 30) Tryz.underlying65
  have ka : Kp (fun _ => False) W (W.alloc (.mapIter (some b) c #[] c)) := (Kp.refl _ W).alloc _
  have HST := Lib.hid (show KAt (W.alloc (.mapIter (some b) c #[] c)) W.heap.size b c L [] ∧ J ([].map Ent.k) (W.alloc (.mapIter (some b) c #[] c)) from
    ⟨⟨hu1.kept ka (fun f => f), hit, by simp, fun e he => (by cases he)⟩, hJ [] W _ none h0 (ka.grownBy (fun k f => f.elim)) (fun r e => by cases e)⟩)
  clear hit ka hu1 hu hm hW kW h0 hJx
  refine callsIn_of_wp Tryz.func63 rfl trivial ?_ rfl
  simp only [Tryz.ntmps63, List.size_toArray, List.length_cons, List.length_nil, Nat.reduceAdd, Nat.reduceSub, Array.replicate_succ, Array.replicate_zero, List.push_toArray, List.append_toArray, List.nil_append, List.cons_append]
  gi_wp2
  gi_loopw [3] (fun _ wr => ∃ es : List Ent, KAt wr W.heap.size b c L es ∧ J (es.map Ent.k) wr) (fun _ wr => yet wr W.heap.size L)
  case atStart => exact ⟨_, HST.out⟩
  case round =>
    obtain ⟨es, hk, hJs⟩ := hrel
    rcases hk.um.next (P := Tryz.prog) hk.it 0 with ⟨hall, hrun⟩ | ⟨e, he, hnD, w5, hrun, hk5, hu5, hit5, hent⟩
    · gi_wp2
      go_end0
      exact ⟨⟨_, rfl⟩, .inl ⟨_, (hk.all hall).map _, hJs⟩⟩
    · have hJ5 : J (es.map Ent.k) w5 := hJ _ wr w5 (some W.heap.size) hJs (hk5.grownBy (fun k e => by rw [e])) (fun r e => by cases e; exact ⟨Nat.le_refl _, hk.walk⟩)
      obtain ⟨fn, tmps, assign, body, hy, hR⟩ := hY (es.map Ent.k) e.k w5 hJ5 (by rw [List.length_map]; exact hk.less he hnD)
      have hy' : (Instr.yield l #[.int .u32 e.k]).run Tryz.prog w5 = .ok (.round l fn tmps assign body) w5 := hy
      have HK5 := Lib.hid (hk.step he hnD hu5 hit5)
      have HF := Lib.hid (show ∀ w6, KAt w6 W.heap.size b c L (es ++ [e]) → yet w6 W.heap.size L < yet wr W.heap.size L from fun w6 h6 => hk.falls h6 he hnD)
      clear hy hk hJs hk5 hu5 hit5 he hnD hJ5
      gi_wp2
      refine hR.mono ?_
      rintro ev W3 (⟨rfl, hJ3, hk3⟩ | ⟨rfl, hJx3⟩)
      · gi_wp2
        go_roundw
        case rel => exact ⟨es ++ [e], HK5.out.walks hk3, by rw [List.map_append]; exact hJ3⟩
        case measure => exact HF.out _ (HK5.out.walks hk3)
      · gi_wp2
        refine bodyPost_ret (results_none rfl _ _ _) rfl ?_
        exact ⟨⟨_, rfl⟩, .inr ⟨_, trivial, hJx3⟩⟩
set_option maxHeartbeats 1000000 in
/-- maps.Keys(entries). -/
theorem keysU (n : Nat) (mb : Option Nat) (w : World) :
    CallsIn Fence.wide n Tryz.prog 44 #[.map mb] w fun e w' => e = .returned (.func (.func 63) #[] #[.pointer (some ⟨w.heap.size, 0, none⟩)]) ∧ w' = w.alloc (.cells #[.map mb] 65) := by
  refine callsIn_of_wp Tryz.func44 rfl trivial ?_ rfl
  simp only [Tryz.ntmps44, List.size_toArray, List.length_cons, List.length_nil, Nat.reduceAdd, Nat.reduceSub, Array.replicate_succ, Array.replicate_zero, List.push_toArray, List.append_toArray, List.nil_append, List.cons_append]
  gi_wp2
  go_ret
  exact ⟨rfl, rfl⟩
theorem kw_t : ∀ {A B C : World}, KeepsWalks A B → KeepsWalks B C → KeepsWalks A C := fun h k => h.trans k
theorem kw_b (B : Nat) : ∀ (W : World) (l : Nat) (o o' : Obj), B ≤ l → W.heap[l]? = some o → o.isCells = false → o.isWalk = false → KeepsWalks W (W.putObj l o') := fun W l o o' _ h _ hw => KeepsWalks.putObj o' h hw
set_option maxRecDepth 100000 in
set_option maxHeartbeats 2000000 in
/-- slices.AppendSeq(nil, seq) of Ips. -/
theorem appendU (n : Nat) (hn : 2 ≤ n) (g : Nat) (lb : Array Value) (eg : ∀ args w, (callFunc g args).run Tryz.prog w = .ok (.enter g args) w) (S Sp : List Int → Prop) (N : Nat) (hN : N ≤ 1000000) (w : World)
    (hseq : SeqStopsK Fence.wide (n - 1) Tryz.prog g lb (fun x => #[encU x]) KeepsWalks S Sp N w) :
    CallsIn Fence.wide n Tryz.prog 64 #[.slice none 0 0, .func (.func g) #[] lb] w fun e w' => ∃ (v : Value) (ss : List Int), e = .returned v ∧ S ss ∧ w'.ownsRow w.heap.size 30 1 v ss.length (ss.map encU) ∧ (v = .slice none 0 0 ↔ ss = []) ∧ Below w.heap.size w w' := by
  have h1 : 1 ≤ n := by omega
  have hmx : (1000000 : Nat) < maxLen := by decide
  obtain ⟨i0, hi, hz0, hz1, hz2⟩ := info_parts (show (Tryz.prog.info? 30).map (fun i => (i.zero, i.size, i.bytes)) = some (some (.int .u32 0), 1, 4) by kernel_rfl)
  refine callsIn_of_wp_marks Tryz.func64 rfl trivial ?_ rfl
  simp only [Tryz.ntmps64, List.size_toArray, List.length_cons, List.length_nil, Nat.reduceAdd, Nat.reduceSub, Array.replicate_succ, Array.replicate_zero, List.push_toArray, List.append_toArray, List.nil_append, List.cons_append]
  gi_wp2_with fail
  have bO := Boxed.new w 44 (.slice none 0 0)
  have hB0 : Below w.heap.size w (w.alloc (.cells #[.slice none 0 0] 44)) := (Below.refl _ w).alloc (Nat.le_refl _) _
  refine wpIn_rangeFunc_ownG rfl h1 (gf := g) (lb := lb) rfl trivial eg hseq kw_t (kw_b _) hB0 (fun _ => rfl)
    (fun pre W => (∃ v, Boxed W w.heap.size 44 v ∧ W.ownsRow w.heap.size 30 1 v pre.length (pre.map encU) ∧ (v = .slice none 0 0 ↔ pre = [])) ∧ Below w.heap.size w W)
    (fun _ _ _ => False)
    (OwnFrom.and (Own.from (holdsRow_own w.heap.size w.heap.size 44 30 1 (fun pre : List Int => pre.length) (fun pre => pre.map encU) (fun pre v => v = .slice none 0 0 ↔ pre = [])) _) (ownFrom_below (Nat.le_refl _) (by simp)))
    (fun _ _ _ _ _ hs _ _ => hs)
    ⟨⟨_, bO, World.ownsRow_nil _ _ _ _, by simp⟩, hB0⟩
    (fun x => { tmps := #[.slice none 0 0, .func (.func g) #[] lb, .pointer (some ⟨w.heap.size, 0, none⟩), undef, .slice none 0 0, .int .u32 x, .func (.func g) #[] lb, .int .u32 x, undef, undef, undef, undef, undef], defers := [] }) ?assign ?body ?done ?stop
  case assign =>
    intro l x W K hK
    gi_wp2_with fail
    exact hK
  case body =>
    rintro l pre x W ⟨⟨v, hv, hrow, hnil⟩, hB⟩ hlt
    have hc := hv.cell
    gi_wp2_with (gi_at_builtin; refine wpListIn_append_own _ rfl _ _ 44 rfl w.heap.size 30 i0 (.int .u32 0) 1 4 Tryz.underlying44 hi hz0 hz1 hz2 rfl (by decide) _ _ _ rfl (hrow.alloc _) ⟨W.heap.size, 0, none⟩ 1 1 [.int .u32 x] rfl rfl (cell_one_new _ _ _) (by simp [Value.oneCell']) (by omega) (by omega) (by have := hB.size; simp; omega) ?_; intro v' w1 hown' hgrow _; obtain ⟨g', cap', rfl⟩ := ownsRow_succ hown'; obtain ⟨hv1, hv2, hr2, hk2, hb2⟩ := hv.appended (by decide) hrow hB.size (Nat.le_refl _) hown' hgrow; have hc1 := hv1.cell; have hf1 := hv1.frozen)
    exact ⟨hk2.from _, hk2.walks, ⟨_, hv2, by rw [show (pre ++ [x]).map encU = pre.map encU ++ [.int .u32 x] by simp [encU], List.length_append]; exact hr2, by simp⟩, hB.trans hb2⟩
  case done =>
    rintro D ys W hD hS ⟨⟨v, hv, hrow, hnil⟩, hB⟩ hK
    have hc := hv.cell
    gi_wp2_with fail
    refine ⟨by simp, .inl ⟨_, _, rfl, run_takeDeferred hK, ?_⟩⟩
    exact ⟨_, results_tmp rfl _ _ _, v, ys, rfl, hS, ownsRow_putObj hrow _ hK rfl, hnil, hB.trans (belowK_b (w := w) (Nat.le_refl _) W D _ _ (by simp at hD; omega) hK rfl rfl)⟩
  case stop =>
    rintro D c pre W _ _ h _
    exact h.elim
set_option maxHeartbeats 1000000 in
/-- slices.Collect(seq) of Ips. -/
theorem collectU (n : Nat) (hn : 3 ≤ n) (g : Nat) (lb : Array Value) (eg : ∀ args w, (callFunc g args).run Tryz.prog w = .ok (.enter g args) w) (S Sp : List Int → Prop) (N : Nat) (hN : N ≤ 1000000) (w : World)
    (hseq : SeqStopsK Fence.wide (n - 1 - 1) Tryz.prog g lb (fun x => #[encU x]) KeepsWalks S Sp N w) :
    CallsIn Fence.wide n Tryz.prog 48 #[.func (.func g) #[] lb] w fun e w' => ∃ (v : Value) (ss : List Int), e = .returned v ∧ S ss ∧ w'.ownsRow w.heap.size 30 1 v ss.length (ss.map encU) ∧ (v = .slice none 0 0 ↔ ss = []) ∧ Below w.heap.size w w' := by
  have h1 : 1 ≤ n := by omega
  refine callsIn_of_wp Tryz.func48 rfl trivial ?_ rfl
  simp only [Tryz.ntmps48, List.size_toArray, List.length_cons, List.length_nil, Nat.reduceAdd, Nat.reduceSub, Array.replicate_succ, Array.replicate_zero, List.push_toArray, List.append_toArray, List.nil_append, List.cons_append]
  gi_wp2_with fail
  refine ⟨trivial, (appendU (n - 1) (by omega) g lb eg S Sp N hN _ hseq).mono ?_⟩
  rintro e w' ⟨v, ss, rfl, hS, hrow, hnil, hb⟩
  gi_wp2_with fail
  go_ret
  exact ⟨v, ss, rfl, hS, hrow, hnil, hb⟩
end Go.Proofs.YtgidjgkafbjkpaaGreatDoor
namespace Go.Proofs.YtgidjgkafbjkpaaGreatDoor
open Go.RowKit Go.Shelf
attribute [local go_sem] Oper.semAt_some

/-- A row's two cells: tokens' slice, how manieth. -/
structure RV where
  (A : Option Addr) (n c : Nat) (o : Int)
instance : Inhabited RV := ⟨⟨none, 0, 0, 0⟩⟩
def RV.val (r : RV) : Value := .agg #[.slice r.A r.n r.c, .int .i64 r.o]
def encR (r : RV) : List Value := [.slice r.A r.n r.c, .int .i64 r.o]
def rvOf (e : Ent) : RV :=
  match e.v with
  | .agg cs => (match (cs[0]? : Option Value), (cs[1]? : Option Value) with | some (Value.slice A n c), some (Value.int _ o) => ⟨A, n, c, o⟩ | _, _ => default)
  | _ => default
/-- All values of a map are rows. -/
def AllR (L : List Ent) : Prop := ∀ e ∈ L, e.v = (rvOf e).val
theorem rvOf_val {e : Ent} {A : Option Addr} {n c : Nat} {o : Int} (h : e.v = .agg #[.slice A n c, .int .i64 o]) : rvOf e = ⟨A, n, c, o⟩ := by
  unfold rvOf
  rw [h]
  rfl
set_option maxRecDepth 100000 in
set_option maxHeartbeats 2000000 in
/-- maps.Values(rows), called: the rows come, each once. -/
theorem valsR_stops (n : Nat) (hn : 1 ≤ n) (Bm b c : Nat) (L : List Ent) (hL : AllR L) (w : World) (hm : w.cell? ⟨Bm, 0, none⟩ = some (.map (some b))) (hu : UMap w b c L) :
    SeqStopsK Fence.wide n Tryz.prog 55 #[.pointer (some ⟨Bm, 0, none⟩)] (fun x : RV => #[x.val]) KeepsWalks (fun ss => ss.Perm (L.map rvOf)) (fun _ => True) L.length w := by
  intro l J Jx W hW hJ hJx hY h0
  have kW : Kp (fun _ => False) w W := Kp.of_below hW _
  have hu1 : UMap W b c L := hu.kept kW (fun f => f)
  have hm1 : W.cell? ⟨Bm, 0, none⟩ = some (.map (some b)) := (kW.cell (p := ⟨Bm, 0, none⟩) (World.block_lt_of_cell? w _ hm) (fun f => f)).trans hm
  obtain ⟨hrg, hit⟩ := hu1.run_range (P := Tryz.prog) (T := 66) (E := 77) (K := 30) Tryz.underlying66
  have ka : Kp (fun _ => False) W (W.alloc (.mapIter (some b) c #[] c)) := (Kp.refl _ W).alloc _
  have HST := Lib.hid (show KAt (W.alloc (.mapIter (some b) c #[] c)) W.heap.size b c L [] ∧ J ([].map rvOf) (W.alloc (.mapIter (some b) c #[] c)) from
    ⟨⟨hu1.kept ka (fun f => f), hit, by simp, fun e he => (by cases he)⟩, hJ [] W _ none h0 (ka.grownBy (fun k f => f.elim)) (fun r e => by cases e)⟩)
  clear hit ka hu1 hu hm hW kW h0 hJx
  refine callsIn_of_wp Tryz.func55 rfl trivial ?_ rfl
  simp only [Tryz.ntmps55, List.size_toArray, List.length_cons, List.length_nil, Nat.reduceAdd, Nat.reduceSub, Array.replicate_succ, Array.replicate_zero, List.push_toArray, List.append_toArray, List.nil_append, List.cons_append]
  gi_wp2
  gi_loopw [4] (fun _ wr => ∃ es : List Ent, KAt wr W.heap.size b c L es ∧ J (es.map rvOf) wr) (fun _ wr => yet wr W.heap.size L)
  case atStart => exact ⟨_, HST.out⟩
  case round =>
    obtain ⟨es, hk, hJs⟩ := hrel
    rcases hk.um.next (P := Tryz.prog) hk.it 0 with ⟨hall, hrun⟩ | ⟨e, he, hnD, w5, hrun, hk5, hu5, hit5, hent⟩
    · gi_wp2
      go_end0
      exact ⟨⟨_, rfl⟩, .inl ⟨_, (hk.all hall).map _, hJs⟩⟩
    · have hJ5 : J (es.map rvOf) w5 := hJ _ wr w5 (some W.heap.size) hJs (hk5.grownBy (fun k e => by rw [e])) (fun r e => by cases e; exact ⟨Nat.le_refl _, hk.walk⟩)
      obtain ⟨A, m, c5, o5, hrv⟩ : ∃ A m c5 o5, rvOf e = ⟨A, m, c5, o5⟩ := ⟨_, _, _, _, rfl⟩
      have hv : e.v = .agg #[.slice A m c5, .int .i64 o5] := by rw [hL e he, hrv]; rfl
      rw [hv] at hent hrun
      have k6 : Kp (fun _ => False) w5 (w5.alloc (.cells #[.slice A m c5, .int .i64 o5] 77)) := (Kp.refl _ w5).alloc _
      have hJ6 : J (es.map rvOf) (w5.alloc (.cells #[.slice A m c5, .int .i64 o5] 77)) := hJ _ w5 _ none hJ5 (k6.grownBy (fun k f => f.elim)) (fun r e => by cases e)
      obtain ⟨fn, tmps, assign, body, hy, hR⟩ := hY (es.map rvOf) ⟨A, m, c5, o5⟩ (w5.alloc (.cells #[.slice A m c5, .int .i64 o5] 77)) hJ6 (by rw [List.length_map]; exact hk.less he hnD)
      have hy' : (Instr.yield l #[.agg #[.slice A m c5, .int .i64 o5]]).run Tryz.prog (w5.alloc (.cells #[.slice A m c5, .int .i64 o5] 77)) = .ok (.round l fn tmps assign body) (w5.alloc (.cells #[.slice A m c5, .int .i64 o5] 77)) := hy
      have HK6 := Lib.hid (hk.step he hnD (hu5.kept k6 (fun f => f)) (hit5.kept k6 (fun f => f)))
      have HF := Lib.hid (show ∀ w6, KAt w6 W.heap.size b c L (es ++ [e]) → yet w6 W.heap.size L < yet wr W.heap.size L from fun w6 h6 => hk.falls h6 he hnD)
      have HRV := Lib.hid hrv
      clear hy hk hJs hk5 hu5 hit5 he hnD hJ5 hJ6 hrv hv k6
      gi_wp2
      refine hR.mono ?_
      rintro ev W3 (⟨rfl, hJ3, hk3⟩ | ⟨rfl, hJx3⟩)
      · gi_wp2
        go_roundw
        case rel => exact ⟨es ++ [e], HK6.out.walks hk3, by rw [List.map_append, List.map_singleton, HRV.out]; exact hJ3⟩
        case measure => exact HF.out _ (HK6.out.walks hk3)
      · gi_wp2
        refine bodyPost_ret (results_none rfl _ _ _) rfl ?_
        exact ⟨⟨_, rfl⟩, .inr ⟨_, trivial, hJx3⟩⟩
set_option maxHeartbeats 1000000 in
/-- maps.Values(rows). -/
theorem valsR (n : Nat) (mb : Option Nat) (w : World) :
    CallsIn Fence.wide n Tryz.prog 31 #[.map mb] w fun e w' => e = .returned (.func (.func 55) #[] #[.pointer (some ⟨w.heap.size, 0, none⟩)]) ∧ w' = w.alloc (.cells #[.map mb] 66) := by
  refine callsIn_of_wp Tryz.func31 rfl trivial ?_ rfl
  simp only [Tryz.ntmps31, List.size_toArray, List.length_cons, List.length_nil, Nat.reduceAdd, Nat.reduceSub, Array.replicate_succ, Array.replicate_zero, List.push_toArray, List.append_toArray, List.nil_append, List.cons_append]
  gi_wp2
  go_ret
  exact ⟨rfl, rfl⟩
theorem add0 (b j : Nat) : (⟨b, 0, none⟩ : Addr).add j = ⟨b, j, none⟩ := by unfold Addr.add; split <;> simp_all
def encRs (l : List RV) : List Value := l.flatMap encR
theorem encRs_len (l : List RV) : (encRs l).length = l.length * 2 := by
  induction l with
  | nil => rfl
  | cons x l ih => simp only [encRs, List.flatMap_cons, List.length_append, List.length_cons] at ih ⊢; rw [ih]; simp [encR]; omega
theorem encRs_snoc (l : List RV) (x : RV) : encRs (l ++ [x]) = encRs l ++ encR x := by simp [encRs]
set_option maxRecDepth 100000 in
set_option maxHeartbeats 2000000 in
/-- slices.AppendSeq(nil, seq) of rows. -/
theorem appendR (n : Nat) (hn : 2 ≤ n) (g : Nat) (lb : Array Value) (eg : ∀ args w, (callFunc g args).run Tryz.prog w = .ok (.enter g args) w) (S Sp : List RV → Prop) (N : Nat) (hN : N ≤ 1000000) (w : World)
    (hseq : SeqStopsK Fence.wide (n - 1) Tryz.prog g lb (fun x : RV => #[x.val]) KeepsWalks S Sp N w) :
    CallsIn Fence.wide n Tryz.prog 73 #[.slice none 0 0, .func (.func g) #[] lb] w fun e w' => ∃ (v : Value) (ss : List RV), e = .returned v ∧ S ss ∧ w'.ownsRow w.heap.size 77 2 v ss.length (encRs ss) ∧ (v = .slice none 0 0 ↔ ss = []) ∧ Below w.heap.size w w' := by
  have h1 : 1 ≤ n := by omega
  have hmx : (1000000 : Nat) < maxLen := by decide
  obtain ⟨i0, hi, hz0, hz1, hz2⟩ := info_parts (show (Tryz.prog.info? 77).map (fun i => (i.zero, i.size, i.bytes)) = some (some (.agg #[.slice none 0 0, .int .i64 0]), 2, 32) by kernel_rfl)
  refine callsIn_of_wp_marks Tryz.func73 rfl trivial ?_ rfl
  simp only [Tryz.ntmps73, List.size_toArray, List.length_cons, List.length_nil, Nat.reduceAdd, Nat.reduceSub, Array.replicate_succ, Array.replicate_zero, List.push_toArray, List.append_toArray, List.nil_append, List.cons_append]
  gi_wp2_with fail
  have bO := Boxed.new w 81 (.slice none 0 0)
  have hB0 : Below w.heap.size w (w.alloc (.cells #[.slice none 0 0] 81)) := (Below.refl _ w).alloc (Nat.le_refl _) _
  have hsz : (w.alloc (.cells #[.slice none 0 0] 81)).heap.size = w.heap.size + 1 := by simp
  refine wpIn_rangeFunc_ownH rfl h1 (gf := g) (lb := lb) rfl trivial eg hseq kw_t (kw_b _) hB0 (fun _ => rfl)
    (fun pre W => (∃ v, Boxed W w.heap.size 81 v ∧ W.ownsRow w.heap.size 77 2 v pre.length (encRs pre) ∧ (v = .slice none 0 0 ↔ pre = [])) ∧ Below w.heap.size w W)
    (fun _ _ _ => False)
    (OwnFrom.and (Own.from (holdsRow_own w.heap.size w.heap.size 81 77 2 (fun pre : List RV => pre.length) encRs (fun pre v => v = .slice none 0 0 ↔ pre = [])) _) (ownFrom_below (Nat.le_refl _) (by simp)))
    (fun _ _ _ _ _ hs _ _ => hs)
    ⟨⟨_, bO, World.ownsRow_nil _ _ _ _, by simp⟩, hB0⟩
    (fun x a' W => ∃ Bx, w.heap.size < Bx ∧ Bk W Bx 77 #[.slice x.A x.n x.c, .int .i64 x.o] ∧ a' = { tmps := #[.slice none 0 0, .func (.func g) #[] lb, .pointer (some ⟨w.heap.size, 0, none⟩), undef, .slice none 0 0, .pointer (some ⟨Bx, 0, none⟩), .func (.func g) #[] lb, x.val, undef, undef, undef, undef, undef], defers := [] })
    (fun x a' _ X Y row hs hg hr => by
      obtain ⟨Bx, h1, h2, h3⟩ := hs
      refine ⟨Bx, h1, ?_, h3⟩
      unfold Bk at h2 ⊢
      refine (hg.block Bx (Array.getElem?_eq_some_iff.1 h2).1 (fun e => ?_)).trans h2
      obtain ⟨_, o, ho, hc⟩ := hr Bx e.symm
      rw [h2] at ho
      cases ho
      cases hc)
    ?assign ?body ?done ?stop
  case assign =>
    rintro l pre ⟨A, m, c5, o5⟩ W K ⟨⟨v, hv, hrow, hnil⟩, hB⟩ hK
    have hlt := hv.lt
    simp only [RV.val] at hK ⊢
    gi_wp2_with fail
    exact hK _ _ ((KeepsOthers.alloc _ _).from _) (KeepsWalks.alloc _ _) ⟨⟨v, hv.alloc _, hrow.alloc _, hnil⟩, hB.alloc hB.size _⟩ ⟨W.heap.size, hlt, Bk.new W 77 _, rfl⟩
  case body =>
    rintro l pre ⟨A, m, c5, o5⟩ a' W hl hr ⟨⟨v, hv, hrow, hnil⟩, hB⟩ ⟨Bx, hBx, hbk, rfl⟩ hlt
    have hc := hv.cell
    have d0 := hbk.cell 0
    have d1 := hbk.cell 1
    simp only [RV.val]
    gi_wp2_with (gi_at_builtin; refine wpListIn_append_own _ rfl _ _ 81 rfl w.heap.size 77 i0 (.agg #[.slice none 0 0, .int .i64 0]) 2 32 Tryz.underlying81 hi hz0 hz1 hz2 rfl (by decide) _ _ _ rfl (hrow.alloc _) ⟨W.heap.size, 0, none⟩ 1 1 [.slice A m c5, .int .i64 o5] rfl rfl (fun j u hj => by have hb := Bk.new W 77 #[.slice A m c5, .int .i64 o5]; rw [add0, hb.cell j]; simpa using hj) (by simp [Value.oneCell']) (by omega) (by omega) (by have := hB.size; simp; omega) ?_; intro v' w1 hown' hgrow _; obtain ⟨g', cap', rfl⟩ := ownsRow_succ hown'; obtain ⟨hv1, hv2, hr2, hk2, hb2⟩ := hv.appended (by decide) hrow hB.size (Nat.le_refl _) hown' hgrow; have hc1 := hv1.cell; have hf1 := hv1.frozen)
    exact ⟨hk2.from _, hk2.walks, ⟨_, hv2, by rw [encRs_snoc, List.length_append]; exact hr2, by simp⟩, hB.trans hb2⟩
  case done =>
    rintro D ys W hD hS ⟨⟨v, hv, hrow, hnil⟩, hB⟩ hK
    have hc := hv.cell
    gi_wp2_with fail
    refine ⟨by simp, .inl ⟨_, _, rfl, run_takeDeferred hK, ?_⟩⟩
    exact ⟨_, results_tmp rfl _ _ _, v, ys, rfl, hS, ownsRow_putObj hrow _ hK rfl, hnil, hB.trans (belowK_b (w := w) (Nat.le_refl _) W D _ _ (by simp at hD; omega) hK rfl rfl)⟩
  case stop =>
    rintro D c pre W _ _ h _
    exact h.elim
set_option maxHeartbeats 1000000 in
/-- slices.Collect(seq) of rows. -/
theorem collectR (n : Nat) (hn : 3 ≤ n) (g : Nat) (lb : Array Value) (eg : ∀ args w, (callFunc g args).run Tryz.prog w = .ok (.enter g args) w) (S Sp : List RV → Prop) (N : Nat) (hN : N ≤ 1000000) (w : World)
    (hseq : SeqStopsK Fence.wide (n - 1 - 1) Tryz.prog g lb (fun x : RV => #[x.val]) KeepsWalks S Sp N w) :
    CallsIn Fence.wide n Tryz.prog 53 #[.func (.func g) #[] lb] w fun e w' => ∃ (v : Value) (ss : List RV), e = .returned v ∧ S ss ∧ w'.ownsRow w.heap.size 77 2 v ss.length (encRs ss) ∧ (v = .slice none 0 0 ↔ ss = []) ∧ Below w.heap.size w w' := by
  have h1 : 1 ≤ n := by omega
  refine callsIn_of_wp Tryz.func53 rfl trivial ?_ rfl
  simp only [Tryz.ntmps53, List.size_toArray, List.length_cons, List.length_nil, Nat.reduceAdd, Nat.reduceSub, Array.replicate_succ, Array.replicate_zero, List.push_toArray, List.append_toArray, List.nil_append, List.cons_append]
  gi_wp2_with fail
  refine ⟨trivial, (appendR (n - 1) (by omega) g lb eg S Sp N hN _ hseq).mono ?_⟩
  rintro e w' ⟨v, ss, rfl, hS, hrow, hnil, hb⟩
  gi_wp2_with fail
  go_ret
  exact ⟨v, ss, rfl, hS, hrow, hnil, hb⟩
end Go.Proofs.YtgidjgkafbjkpaaGreatDoor
