/- Wheel: Next, Due. -/
import Derived.Test.YtdakkmaahgcjfaaDoorWhg
set_option linter.unusedVariables false
set_option linter.unusedSimpArgs false
namespace Go.Proofs.YtdakkmaahgcjfaaDoor
open Go.RowKit

/-- n is the least moment of the timers that hang in M. -/
def Least (L M : List Ent) (n : Nat) : Prop := (∃ i p, has i M ∧ mget i L = some (spotV n p)) ∧ ∀ i d p, has i M → mget i L = some (spotV d p) → n ≤ d
/-- .. so far. -/
def LeastD (L : List Ent) (D : List Int) (n : Nat) : Prop := (n = 18446744073709551615 ∧ D = [] ∨ ∃ i p, i ∈ D ∧ mget i L = some (spotV n p)) ∧ ∀ i d p, i ∈ D → mget i L = some (spotV d p) → n ≤ d
theorem LeastD.nil (L : List Ent) : LeastD L [] 18446744073709551615 := ⟨.inl ⟨rfl, rfl⟩, fun _ _ _ h => by cases h⟩
theorem LeastD.cons {L : List Ent} {D : List Int} {n d : Nat} {i : Int} {p : Pos} (h : LeastD L D n) (hg : mget i L = some (spotV d p)) (hd : d ≤ TOP) : LeastD L (i :: D) (min n d) := by
  have hd' : d ≤ 18446744073709551615 := Nat.le_trans hd (by decide)
  refine ⟨.inr ?_, ?_⟩
  · rcases Nat.le_total n d with h1 | h1
    · rw [Nat.min_eq_left h1]
      rcases h.1 with ⟨h2, _⟩ | ⟨x, q, h2, h3⟩
      · have : n = d := by omega
        subst this
        exact ⟨i, p, List.mem_cons_self, hg⟩
      · exact ⟨x, q, List.mem_cons_of_mem _ h2, h3⟩
    · rw [Nat.min_eq_right h1]
      exact ⟨i, p, List.mem_cons_self, hg⟩
  · intro x d' q hx hq
    rcases List.mem_cons.1 hx with rfl | hx
    · rw [hg] at hq
      obtain ⟨rfl, _⟩ := spotV_inj (Option.some.inj hq)
      exact Nat.min_le_right _ _
    · exact Nat.le_trans (Nat.min_le_left _ _) (h.2 x d' q hx hq)
theorem LeastD.all {L M : List Ent} {D : List Int} {n : Nat} (h : LeastD L D n) (hall : ∀ e ∈ M, e.k ∈ D) (hD : ∀ i ∈ D, has i M) (hne : M ≠ []) : Least L M n := by
  obtain ⟨e, he⟩ : ∃ e, e ∈ M := by cases M with | nil => exact absurd rfl hne | cons a M => exact ⟨a, List.mem_cons_self⟩
  have hin : ∀ i, has i M → i ∈ D := by
    intro i hi
    unfold has at hi
    rcases hg : mget i M with _ | v
    · rw [hg] at hi; cases hi
    · have hne : ¬ ∀ e ∈ M, e.k ≠ i := fun hh => by rw [mget_none.2 hh] at hg; cases hg
      have : ∃ e ∈ M, e.k = i := by
        apply Classical.byContradiction
        intro hh
        exact hne (fun e he h2 => hh ⟨e, he, h2⟩)
      obtain ⟨e, he, rfl⟩ := this
      exact hall e he
  refine ⟨?_, fun i d p hi hg => h.2 i d p (hin i hi) hg⟩
  rcases h.1 with ⟨_, h2⟩ | ⟨i, p, h2, h3⟩
  · have := hall e he; rw [h2] at this; cases this
  · exact ⟨i, p, hD i h2, h3⟩
/-- The least moment of all. -/
def LeastAll (L : List Ent) (n : Nat) : Prop := (∃ i p, mget i L = some (spotV n p)) ∧ ∀ i d p, mget i L = some (spotV d p) → n ≤ d
theorem Inv.least_over {now n : Nat} {L ov : List Ent} {sl : Nat → Nat → List Ent} {full : Nat → Nat} (inv : Inv now L ov sl full (fun _ => False)) (h : Least L ov n) : LeastAll L n := by
  obtain ⟨⟨i0, p0, hi0, hg0⟩, h2⟩ := h
  have hle : n ≤ now := by
    obtain ⟨d, hd⟩ := (inv.over i0 (fun f => f)).1 hi0
    rw [hg0] at hd
    obtain ⟨rfl, rfl⟩ := spotV_inj (Option.some.inj hd)
    exact (inv.spot_of hg0 (fun f => f)).1
  refine ⟨⟨i0, p0, hg0⟩, fun i d p hg => ?_⟩
  rcases p with _ | ⟨k, j⟩
  · exact h2 i d _ ((inv.over i (fun f => f)).2 ⟨d, hg⟩) hg
  · have ha : At now d k j := (inv.spot_of hg (fun f => f)).1
    have := ha.lt
    omega
theorem Inv.least_slot {now n k j : Nat} {L : List Ent} {sl : Nat → Nat → List Ent} {full : Nat → Nat} (inv : Inv now L [] sl full (fun _ => False)) (hf : First full k j) (h : Least L (sl k j) n) : LeastAll L n := by
  obtain ⟨⟨i0, p0, hi0, hg0⟩, h2⟩ := h
  refine ⟨⟨i0, p0, hg0⟩, fun i d p hg => ?_⟩
  rcases p with _ | ⟨k', j'⟩
  · exact absurd ((inv.over i (fun f => f)).2 ⟨d, hg⟩) (has_nil i)
  · rcases inv.first_ahead hf hg with ⟨rfl, rfl⟩ | ha
    · exact h2 i d _ ((inv.slots _ _ i (fun f => f)).2 ⟨d, hg⟩) hg
    · obtain ⟨d0, hd0⟩ := (inv.slots k j i0 (fun f => f)).1 hi0
      rw [hg0] at hd0
      obtain ⟨rfl, rfl⟩ := spotV_inj (Option.some.inj hd0)
      have h3 : At now n k j := (inv.spot_of hg0 (fun f => f)).1
      have h4 : At now d k' j' := (inv.spot_of hg (fun f => f)).1
      exact Nat.le_of_lt (Nat.lt_of_lt_of_le h3.from.2.1 (h4.ahead hf.jlt ha))
set_option maxRecDepth 1000000 in
set_option maxHeartbeats 8000000 in
theorem next_over (g now : Nat) (s : WS) (w : World) (h : WM w g now s) (inv : Inv now s.tm.L s.ov.L s.sls s.full (fun _ => False)) (hne : s.ov.L ≠ []) :
    Calls Tryd.prog 22 #[.pointer (some ⟨g, 0, none⟩)] w fun ev w' => (∃ n, ev = .returned (.tuple #[.int .u64 ((n : Nat) : Int), .bool true]) ∧ LeastAll s.tm.L n) ∧ Kp (fun _ => False) w w' := by
  have z1 := (h.bk.cell 717).trans (WC_ov ..)
  have him := h.ov
  have hlen := h.ov.run_len (P := Tryd.prog) (T := 45) (E := 4) (K := 3) Tryd.underlying45 3
  have hz : (((s.ov.L).length : Int) == 0) = false := by
    have : (s.ov.L).length ≠ 0 := fun e => hne (List.eq_nil_of_length_eq_zero e)
    simp only [beq_eq_false_iff_ne]
    omega
  have K3 := Lib.hid (Kp.refl (fun _ => False) w)
  have H := Lib.hid h
  have I := Lib.hid inv
  have HNE := Lib.hid hne
  have HDUE := Lib.hid (show ∀ i, has i s.ov.L → ∃ d p, mget i s.tm.L = some (spotV d p) ∧ d ≤ TOP from fun i hi => by
    obtain ⟨d, hd⟩ := (inv.over i (fun f => f)).1 hi
    exact ⟨d, _, hd, (inv.spot_of hd (fun f => f)).2⟩)
  clear h inv hne
  go_enter Tryd.func22, Tryd.ntmps22
  have IM := Lib.hid him
  obtain ⟨hrg, hit⟩ := him.run_range (P := Tryd.prog) (T := 45) (E := 4) (K := 3) Tryd.underlying45
  have hka : Kp (fun _ => False) w (w.alloc (.mapIter (some s.ov.b) s.ov.c #[] s.ov.c)) := K3.out.alloc _
  have him4 := him.kept ((Kp.refl (fun _ => False) w).alloc (.mapIter (some s.ov.b) s.ov.c #[] s.ov.c)) (fun f => f)
  have HSTART := Lib.hid (show ∃ (x : Nat) (D : List Int), Value.int IntKind.u64 18446744073709551615 = .int .u64 x ∧ IMap (w.alloc (.mapIter (some s.ov.b) s.ov.c #[] s.ov.c)) s.ov.b s.ov.c s.ov.L ∧ IIt (w.alloc (.mapIter (some s.ov.b) s.ov.c #[] s.ov.c)) w.heap.size s.ov.b s.ov.c s.ov.L D ∧ Kp (fun _ => False) w (w.alloc (.mapIter (some s.ov.b) s.ov.c #[] s.ov.c)) ∧ LeastD s.tm.L D x ∧ ∀ i ∈ D, has i s.ov.L from
    ⟨18446744073709551615, [], rfl, him4, hit, hka, LeastD.nil _, fun _ h => by cases h⟩)
  clear him hit hka him4
  go_wp2_with fail
  generalize w.alloc (.mapIter (some s.ov.b) s.ov.c #[] s.ov.c) = w4 at *
  go_loopw [9, 10] (fun v _ wr => ∃ (x : Nat) (D : List Int), v = .int .u64 x ∧ IMap wr s.ov.b s.ov.c s.ov.L ∧ IIt wr w.heap.size s.ov.b s.ov.c s.ov.L D ∧ Kp (fun _ => False) w wr ∧ LeastD s.tm.L D x ∧ ∀ i ∈ D, has i s.ov.L) (fun _ _ wr => yet wr w.heap.size s.ov.L)
  case atStart => exact HSTART.out
  case round =>
    obtain ⟨x, D, rfl, him, hit, hk, hl, hD⟩ := hrel
    rcases him.next (P := Tryd.prog) hit 0 with ⟨hall, hrun⟩ | ⟨e, he, hnD, w5, hrun, hk5, him5, hit5, hent⟩
    · have LA := Lib.hid (hl.all hall hD HNE.out)
      have K := Lib.hid hk
      clear him hit hk hl hD hall
      go_wp2_with fail
      exact bodyPost_ret (results_tmp2 rfl _ _ _) rfl ⟨⟨x, rfl, I.out.least_over LA.out⟩, K.out⟩
    · have hX : has e.k s.ov.L := by
        unfold has
        rcases hg : mget e.k s.ov.L with _ | v
        · exact absurd rfl (mget_none.1 hg e he)
        · rfl
      obtain ⟨d, p, hv, hd⟩ := HDUE.out e.k hX
      have hk6 : Kp (fun _ => False) w w5 := hk.trans hk5 (by rintro b hb rfl; exact absurd hb (Nat.lt_irrefl _))
      have wm5 := H.out.none_kept hk6
      have hlk0 := (wm5.tm.run_lookup (P := Tryd.prog) (T := 62) (E := 75) (K := 3) Tryd.underlying62 Tryd.underlying3 (z := .agg #[.int .u64 0, .int .i64 0, .int .i64 0]) (by kernel_rfl) e.k).1
      rw [hv] at hlk0
      obtain ⟨a, b, hab⟩ : ∃ a b : Int, spotV d p = .agg #[.int .u64 d, .int .i64 a, .int .i64 b] := by
        rcases p with _ | ⟨k', j'⟩
        · exact ⟨_, _, rfl⟩
        · exact ⟨_, _, rfl⟩
      have hlk : (Instr.lookup 62 (.map (some s.tm.b)) (.int .i64 e.k) false).run Tryd.prog w5 = .ok (.agg #[.int .u64 d, .int .i64 a, .int .i64 b]) w5 := by rw [← hab]; exact hlk0
      clear hlk0
      have hfd : ∀ w : World, (Instr.field 75 (.agg #[.int .u64 d, .int .i64 a, .int .i64 b]) 0).run Tryd.prog w = .ok (.int .u64 d) w := fun _ => by kernel_rfl
      have z5 : w5.cell? ⟨g, 1, none⟩ = some (.map (some s.tm.b)) := (wm5.bk.cell 1).trans (WC_tm ..)
      have NX := Lib.hid (show IMap w5 s.ov.b s.ov.c s.ov.L ∧ IIt w5 w.heap.size s.ov.b s.ov.c s.ov.L (e.k :: D) ∧ Kp (fun _ => False) w w5 ∧ LeastD s.tm.L (e.k :: D) (min x d) ∧ ∀ i ∈ e.k :: D, has i s.ov.L from
        ⟨him5, hit5, hk6, hl.cons hv hd, fun i hi => by rcases List.mem_cons.1 hi with rfl | hi; exact hX; exact hD i hi⟩)
      have YL := Lib.hid (show yet w5 w.heap.size s.ov.L < yet wr w.heap.size s.ov.L by rw [hit5.yet, hit.yet]; exact filter_less he hnD)
      clear him hit hk hl hD he hv hd wm5 him5 hk5 hit5 hX hnD hab hk6
      go_wp2_with fail
      exact ⟨⟨min x d, e.k :: D, by congr 1; omega, NX.out⟩, YL.out⟩
set_option maxRecDepth 1000000 in
set_option maxHeartbeats 8000000 in
theorem next_slot (g now k j : Nat) (s : WS) (w : World) (h : WM w g now s) (inv : Inv now s.tm.L s.ov.L s.sls s.full (fun _ => False)) (hT : Tab w) (he : s.ov.L = []) (hf : First s.full k j) :
    Calls Tryd.prog 22 #[.pointer (some ⟨g, 0, none⟩)] w fun ev w' => (∃ n, ev = .returned (.tuple #[.int .u64 ((n : Nat) : Int), .bool true]) ∧ LeastAll s.tm.L n) ∧ Kp (fun _ => False) w w' := by
  have z1 := (h.bk.cell 717).trans (WC_ov ..)
  have hlen := h.ov.run_len (P := Tryd.prog) (T := 45) (E := 4) (K := 3) Tryd.underlying45 3
  have hz : (((s.ov.L).length : Int) == 0) = true := by rw [he]; rfl
  obtain ⟨i0, d0, hg0, ha0, ht0⟩ := inv.first_at hf
  have hk := ha0.lt11 inv.now_le ht0
  have hj := hf.jlt
  obtain ⟨m, hsl⟩ := inv.in_slot hg0
  have hmL : s.sls k j = m.L := by simp [WS.sls, hsl]
  have c1 : w.cell? ⟨g, 2 + k * 65 + j, none⟩ = some (.map (some m.b)) := (h.bk.cell _).trans ((WC_sl _ _ _ _ _ hk hj).trans (by rw [show s.slb k j = some m.b by simp [WS.slb, hsl]]))
  have k1 : (0 : Int) ≤ (k : Int) := by omega
  have k2 : (k : Int) < 11 := by omega
  have j1 : (0 : Int) ≤ (j : Int) := by omega
  have j2 : (j : Int) < 64 := by omega
  have hhas0 : has i0 m.L := by rw [← hmL]; exact (inv.slots k j i0 (fun f => f)).2 ⟨d0, hg0⟩
  have hne : m.L ≠ [] := fun e => by rw [e] at hhas0; exact has_nil _ hhas0
  have him0 := h.sl k j m hsl
  have H := Lib.hid h
  have I := Lib.hid inv
  have HF := Lib.hid hf
  have HE := Lib.hid he
  have HNE := Lib.hid hne
  have HM := Lib.hid hmL
  have IM0 := Lib.hid him0
  have HTB := Lib.hid hT
  have HDUE := Lib.hid (show ∀ i, has i m.L → ∃ d p, mget i s.tm.L = some (spotV d p) ∧ d ≤ TOP from fun i hi => by
    obtain ⟨d, hd⟩ := (inv.slots k j i (fun f => f)).1 (by rw [hmL]; exact hi)
    exact ⟨d, _, hd, (inv.spot_of hd (fun f => f)).2⟩)
  clear h inv hne hf he hg0 ha0 hsl hmL hhas0 him0 hT
  go_enter Tryd.func22, Tryd.ntmps22
  go_wp2_with fail
  refine (first_some g now k j s w H.out I.out HTB.out HF.out).mono ?_
  rintro ev w1 ⟨rfl, n1, rfl⟩
  have K3 := Lib.hid ((Kp.refl (fun _ => False) w).drewN n1)
  have him := IM0.out.drewN n1
  have IM := Lib.hid him
  obtain ⟨hrg, hit⟩ := him.run_range (P := Tryd.prog) (T := 45) (E := 4) (K := 3) Tryd.underlying45
  have hka : Kp (fun _ => False) w ((w.drewN n1).alloc (.mapIter (some m.b) m.c #[] m.c)) := K3.out.alloc _
  have him4 := him.kept ((Kp.refl (fun _ => False) (w.drewN n1)).alloc (.mapIter (some m.b) m.c #[] m.c)) (fun f => f)
  have HSTART := Lib.hid (show ∃ (x : Nat) (D : List Int), Value.int IntKind.u64 18446744073709551615 = .int .u64 x ∧ IMap ((w.drewN n1).alloc (.mapIter (some m.b) m.c #[] m.c)) m.b m.c m.L ∧ IIt ((w.drewN n1).alloc (.mapIter (some m.b) m.c #[] m.c)) w.heap.size m.b m.c m.L D ∧ Kp (fun _ => False) w ((w.drewN n1).alloc (.mapIter (some m.b) m.c #[] m.c)) ∧ LeastD s.tm.L D x ∧ ∀ i ∈ D, has i m.L from
    ⟨18446744073709551615, [], rfl, him4, hit, hka, LeastD.nil _, fun _ h => by cases h⟩)
  clear him hit hka him4
  go_wp2_with fail
  generalize (w.drewN n1).alloc (.mapIter (some m.b) m.c #[] m.c) = w4 at *
  go_loopw [9, 10] (fun v _ wr => ∃ (x : Nat) (D : List Int), v = .int .u64 x ∧ IMap wr m.b m.c m.L ∧ IIt wr w.heap.size m.b m.c m.L D ∧ Kp (fun _ => False) w wr ∧ LeastD s.tm.L D x ∧ ∀ i ∈ D, has i m.L) (fun _ _ wr => yet wr w.heap.size m.L)
  case atStart => exact HSTART.out
  case round =>
    obtain ⟨x, D, rfl, him, hit, hk, hl, hD⟩ := hrel
    rcases him.next (P := Tryd.prog) hit 0 with ⟨hall, hrun⟩ | ⟨e, he, hnD, w5, hrun, hk5, him5, hit5, hent⟩
    · have LA := Lib.hid (hl.all hall hD HNE.out)
      have K := Lib.hid hk
      clear him hit hk hl hD hall
      go_wp2_with fail
      refine bodyPost_ret (results_tmp2 rfl _ _ _) rfl ⟨⟨x, rfl, ?_⟩, K.out⟩
      have hI := I.out
      rw [HE.out] at hI
      exact hI.least_slot HF.out (by rw [HM.out]; exact LA.out)
    · have hX : has e.k m.L := by
        unfold has
        rcases hg : mget e.k m.L with _ | v
        · exact absurd rfl (mget_none.1 hg e he)
        · rfl
      obtain ⟨d, p, hv, hd⟩ := HDUE.out e.k hX
      have hk6 : Kp (fun _ => False) w w5 := hk.trans hk5 (by rintro b hb rfl; exact absurd hb (Nat.lt_irrefl _))
      have wm5 := H.out.none_kept hk6
      have hlk0 := (wm5.tm.run_lookup (P := Tryd.prog) (T := 62) (E := 75) (K := 3) Tryd.underlying62 Tryd.underlying3 (z := .agg #[.int .u64 0, .int .i64 0, .int .i64 0]) (by kernel_rfl) e.k).1
      rw [hv] at hlk0
      obtain ⟨a, b, hab⟩ : ∃ a b : Int, spotV d p = .agg #[.int .u64 d, .int .i64 a, .int .i64 b] := by
        rcases p with _ | ⟨k', j'⟩
        · exact ⟨_, _, rfl⟩
        · exact ⟨_, _, rfl⟩
      have hlk : (Instr.lookup 62 (.map (some s.tm.b)) (.int .i64 e.k) false).run Tryd.prog w5 = .ok (.agg #[.int .u64 d, .int .i64 a, .int .i64 b]) w5 := by rw [← hab]; exact hlk0
      clear hlk0
      have hfd : ∀ w : World, (Instr.field 75 (.agg #[.int .u64 d, .int .i64 a, .int .i64 b]) 0).run Tryd.prog w = .ok (.int .u64 d) w := fun _ => by kernel_rfl
      have z5 : w5.cell? ⟨g, 1, none⟩ = some (.map (some s.tm.b)) := (wm5.bk.cell 1).trans (WC_tm ..)
      have NX := Lib.hid (show IMap w5 m.b m.c m.L ∧ IIt w5 w.heap.size m.b m.c m.L (e.k :: D) ∧ Kp (fun _ => False) w w5 ∧ LeastD s.tm.L (e.k :: D) (min x d) ∧ ∀ i ∈ e.k :: D, has i m.L from
        ⟨him5, hit5, hk6, hl.cons hv hd, fun i hi => by rcases List.mem_cons.1 hi with rfl | hi; exact hX; exact hD i hi⟩)
      have YL := Lib.hid (show yet w5 w.heap.size m.L < yet wr w.heap.size m.L by rw [hit5.yet, hit.yet]; exact filter_less he hnD)
      clear him hit hk hl hD he hv hd wm5 him5 hk5 hit5 hX hnD hab hk6
      go_wp2_with fail
      exact ⟨⟨min x d, e.k :: D, by congr 1; omega, NX.out⟩, YL.out⟩
set_option maxRecDepth 1000000 in
set_option maxHeartbeats 8000000 in
theorem next_none (g now : Nat) (s : WS) (w : World) (h : WM w g now s) (he : s.ov.L = []) (hz0 : ∀ k, k < 11 → s.full k = 0) :
    Calls Tryd.prog 22 #[.pointer (some ⟨g, 0, none⟩)] w fun ev w' => ev = .returned (.tuple #[.int .u64 0, .bool false]) ∧ Kp (fun _ => False) w w' := by
  have z1 := (h.bk.cell 717).trans (WC_ov ..)
  have hlen := h.ov.run_len (P := Tryd.prog) (T := 45) (E := 4) (K := 3) Tryd.underlying45 3
  have hz : (((s.ov.L).length : Int) == 0) = true := by rw [he]; rfl
  have FN := Lib.hid (first_none g now s w h hz0)
  clear h he hz0
  go_enter Tryd.func22, Tryd.ntmps22
  go_wp2_with fail
  refine FN.out.mono ?_
  rintro ev w1 ⟨rfl, n1, rfl⟩
  go_wp2_with fail
  exact bodyPost_ret (results_tmp2 rfl _ _ _) rfl ⟨rfl, (Kp.refl _ w).drewN n1⟩
/-- There is a first slot, or none is full. -/
theorem first_or (full : Nat → Nat) (hl : ∀ k, full k < 2 ^ 64) : (∀ k, k < 11 → full k = 0) ∨ ∃ k j, k < 11 ∧ First full k j := by
  have key : ∀ n, (∀ k, k < n → full k = 0) ∨ ∃ k j, k < n ∧ First full k j := by
    intro n
    induction n with
    | zero => exact .inl (fun k hk => absurd hk (Nat.not_lt_zero _))
    | succ n ih =>
      rcases ih with ih | ⟨k, j, hk, hf⟩
      · by_cases h0 : full n = 0
        · left
          intro k hk
          rcases Nat.lt_or_ge k n with h | h
          · exact ih k h
          · rw [show k = n by omega]; exact h0
        · right
          obtain ⟨h1, h2⟩ := ctz_bit (full n) h0 (hl n)
          refine ⟨n, _, Nat.lt_succ_self _, h1, ?_, ih, h2⟩
          rcases Nat.lt_or_ge (Lib.ctz 64 (full n)) 64 with h | h
          · exact h
          · rw [Nat.testBit_lt_two_pow (Nat.lt_of_lt_of_le (hl n) (Nat.pow_le_pow_right (by omega) h))] at h1
            cases h1
      · exact .inr ⟨k, j, by omega, hf⟩
  exact key 11
/-- Next. -/
theorem next_ (g now : Nat) (s : WS) (w : World) (h : WM w g now s) (inv : Inv now s.tm.L s.ov.L s.sls s.full (fun _ => False)) (hT : Tab w) :
    Calls Tryd.prog 22 #[.pointer (some ⟨g, 0, none⟩)] w fun ev w' => ((∃ n, ev = .returned (.tuple #[.int .u64 ((n : Nat) : Int), .bool true]) ∧ LeastAll s.tm.L n) ∨ ev = .returned (.tuple #[.int .u64 0, .bool false]) ∧ s.tm.L = []) ∧ Kp (fun _ => False) w w' := by
  by_cases he : s.ov.L = []
  · rcases first_or s.full inv.full_lt with hz | ⟨k, j, _, hf⟩
    · refine (next_none g now s w h he hz).mono fun ev w' hh => ⟨.inr ⟨hh.1, ?_⟩, hh.2⟩
      have : ∀ i, mget i s.tm.L = none := by
        intro i
        rcases hg : mget i s.tm.L with _ | v
        · rfl
        · obtain ⟨d, p, rfl, hd, hh⟩ := inv.spot i v hg
          rcases p with _ | ⟨k, j⟩
          · have := (inv.over i (fun f => f)).2 ⟨d, hg⟩
            rw [he] at this
            exact absurd this (has_nil i)
          · have ha : At now d k j := hh (fun f => f)
            have hk := ha.lt11 inv.now_le hd
            have hb := (inv.bits k j ha.slot).2 ⟨i, (inv.slots k j i (fun f => f)).2 ⟨d, hg⟩⟩
            rw [hz k hk] at hb
            simp at hb
      cases hL : s.tm.L with
      | nil => rfl
      | cons a L =>
        have := this a.k
        rw [hL] at this
        exact absurd rfl (mget_none.1 this a List.mem_cons_self)
    · exact (next_slot g now k j s w h inv hT he hf).mono fun ev w' hh => ⟨.inl hh.1, hh.2⟩
  · exact (next_over g now s w h inv he).mono fun ev w' hh => ⟨.inl hh.1, hh.2⟩
end Go.Proofs.YtdakkmaahgcjfaaDoor
