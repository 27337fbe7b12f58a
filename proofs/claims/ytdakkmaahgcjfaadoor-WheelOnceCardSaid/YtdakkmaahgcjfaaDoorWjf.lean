/- Wheel's law: do. -/
import Derived.Test.YtdakkmaahgcjfaaDoorWjb
import Derived.Test.YtdakkmaahgcjfaaDoorWjd
import Derived.Test.YtdakkmaahgcjfaaDoorSi
set_option linter.unusedVariables false
set_option linter.unusedSimpArgs false
namespace Go.Proofs.YtdakkmaahgcjfaaDoor
open Go.RowKit

open Go.Shelf Go.Sort Go.Maps
/-- The reference's Set. -/
theorem rset_ (g now : Nat) (R : Rows) (t : Int) (d : Nat) (w : World) (h : RW w g now R) (hr : RS R) (hl : R.length ≤ 16384) :
    Calls Tryd.prog 24 #[.pointer (some ⟨g, 0, none⟩), .int .i64 t, .int .u64 d] w fun ev w' => ev = .returned (.int .i64 ((setE R t d : Nat) : Int)) ∧ RW w' g now (setR R t d) ∧ Kp (fun b => b = g) w w' := by
  unfold setR
  by_cases hd : d ≤ TOP
  · have hd' : ¬ TOP < d := by omega
    by_cases hn : rdue t R = none ∧ 16384 ≤ R.length
    · have e : setE R t d = 18 := by unfold setE; rw [if_neg hd', if_pos hn]
      rw [e, if_neg (by decide)]
      refine (rset_full g now R t d w h hd (rFind_none.2 hn.1) (by omega)).mono ?_
      rintro ev w' ⟨rfl, rfl⟩
      exact ⟨rfl, h, Kp.refl _ _⟩
    · have e : setE R t d = 0 := by unfold setE; rw [if_neg hd', if_neg hn]
      rw [e, if_pos rfl]
      refine rset_ok g now R t d w h hr hl hd ?_
      rcases hf : rFind R t with _ | i
      · exact .inl ⟨rfl, fun hh => hn ⟨rFind_none.1 hf, by omega⟩⟩
      · exact .inr ⟨i, rfl⟩
  · have e : setE R t d = 11 := by unfold setE; rw [if_pos (by omega)]
    rw [e, if_neg (by decide)]
    refine (rset_far g now R t d w hd).mono ?_
    rintro ev w' ⟨rfl, rfl⟩
    exact ⟨rfl, h, Kp.refl _ _⟩
theorem setR_len (R : Rows) (t : Int) (d : Nat) : (setR R t d).length ≤ R.length + 1 := by
  unfold setR
  split
  · exact rset_len_le t d R
  · omega
/-- What Go answers, tells and leaves. -/
def goE (now t : Nat) : Nat := if TOP < t then 11 else if t < now then 22 else 0
def goL (now t : Nat) (R : Rows) : List Int := if goE now t = 0 then rgot t R else []
def goN (now t : Nat) : Nat := if goE now t = 0 then t else now
def goR (now t : Nat) (R : Rows) : Rows := if goE now t = 0 then rrest t R else R
/-- A slice's cells are these numbers, and its block holds ints. -/
def RdN (w : World) (A : Option Addr) (l : List Int) : Prop := RdI w .i64 A l ∧ ∀ b o, A = some ⟨b, o, none⟩ → ∃ cs, Bk w b 3 cs
theorem RdN.nil (w : World) : RdN w none [] := ⟨⟨by simp, .inl rfl⟩, fun b o h => by cases h⟩
theorem RdN.kp {S : Nat → Prop} {w w' : World} {A : Option Addr} {l : List Int} (h : RdN w A l) (hk : Kp S w w') (hS : ∀ b o cs, A = some ⟨b, o, none⟩ → Bk w b 3 cs → ¬ S b) : RdN w' A l :=
  ⟨h.1.kp hk (fun b o e => by obtain ⟨cs, hb⟩ := h.2 b o e; exact hS b o cs e hb), fun b o e => by
    obtain ⟨cs, hb⟩ := h.2 b o e
    exact ⟨cs, hb.kept hk (hS b o cs e hb)⟩⟩
theorem RdN.none_kept {w w' : World} {A : Option Addr} {l : List Int} (h : RdN w A l) (hk : Kp (fun _ => False) w w') : RdN w' A l := h.kp hk (fun _ _ _ _ _ f => f)
theorem RdN.by_whl {F : Nat → Prop} {w w' : World} {A : Option Addr} {l : List Int} (h : RdN w A l) (hk : Kp (FK F w) w w') : RdN w' A l := h.kp hk (fun _ _ _ _ hb => FK.not hb (by decide))
/-- A row of numbers that is new. -/
def NewRow (w w' : World) (v : Value) (l : List Int) : Prop := ∃ A c, v = .slice A l.length c ∧ RdN w' A l ∧ ∀ b o, A = some ⟨b, o, none⟩ → w.heap.size ≤ b
theorem NewRow.nil (w w' : World) : NewRow w w' (.slice none 0 0) [] := ⟨none, 0, rfl, RdN.nil _, fun b o h => by cases h⟩
theorem NewRow.of_own {w w' : World} {v : Value} {l : List Int} (h : w'.ownsRow w.heap.size 3 1 v l.length (l.map encZ)) : NewRow w w' v l := by
  obtain ⟨A, c, hv, _, hr, hb⟩ := RdI.of_own (k := .i64) (xs := l) h
  refine ⟨A, c, hv, ⟨hr, fun b o e => ?_⟩, hb⟩
  rcases h.2 with ⟨h1, _⟩ | ⟨g, cap, cur, h1, _, hg, _⟩
  · rw [hv] at h1
    injection h1 with h1
    rw [h1] at e; cases e
  · rw [hv] at h1
    injection h1 with h1
    rw [h1] at e
    injection e with e
    injection e with e
    exact ⟨cur, e ▸ hg⟩
theorem wgo_any (F : Nat → Prop) (g now t : Nat) (R : Rows) (w : World) (h : Whl F w g now R) (hT : Tab w) (h0 : ¬ F 0) (hl : R.length ≤ 1000000) :
    Calls Tryd.prog 18 #[.pointer (some ⟨g, 0, none⟩), .int .u64 t] w fun ev w' => ∃ v, ev = .returned (.tuple #[v, .int .i64 ((goE now t : Nat) : Int)]) ∧ NewRow w w' v (goL now t R) ∧ Whl (Grn F w) w' g (goN now t) (goR now t R) ∧ Kp (FK F w) w w' := by
  unfold goL goN goR
  by_cases ht : t ≤ TOP
  · by_cases hn : now ≤ t
    · have e : goE now t = 0 := by unfold goE; rw [if_neg (by omega), if_neg (by omega)]
      rw [e, if_pos rfl, if_pos rfl, if_pos rfl]
      refine (wgo F g now t R w h hT h0 ht hn hl).mono ?_
      rintro ev w' ⟨v, rfl, h1, h2, h3⟩
      exact ⟨v, rfl, NewRow.of_own h1, h2, h3⟩
    · have e : goE now t = 22 := by unfold goE; rw [if_neg (by omega), if_pos (by omega)]
      rw [e, if_neg (by decide), if_neg (by decide), if_neg (by decide)]
      refine (wgo_old F g now t R w h ht (by omega)).mono ?_
      rintro ev w' ⟨rfl, k⟩
      exact ⟨_, rfl, NewRow.nil _ _, (h.none_kept k).mono (fun b _ hb => .inl hb), k.mono (fun _ f => f.elim)⟩
  · have e : goE now t = 11 := by unfold goE; rw [if_pos (by omega)]
    rw [e, if_neg (by decide), if_neg (by decide), if_neg (by decide)]
    refine (wgo_far F g now t R w h ht).mono ?_
    rintro ev w' ⟨rfl, k⟩
    exact ⟨_, rfl, NewRow.nil _ _, (h.none_kept k).mono (fun b _ hb => .inl hb), k.mono (fun _ f => f.elim)⟩
theorem rgo_any (g now t : Nat) (R : Rows) (w : World) (h : RW w g now R) (hl : R.length ≤ 1000000) :
    Calls Tryd.prog 26 #[.pointer (some ⟨g, 0, none⟩), .int .u64 t] w fun ev w' => ∃ v, ev = .returned (.tuple #[v, .int .i64 ((goE now t : Nat) : Int)]) ∧ NewRow w w' v (goL now t R) ∧ RW w' g (goN now t) (goR now t R) ∧ Kp (fun b => b = g) w w' := by
  unfold goL goN goR
  by_cases ht : t ≤ TOP
  · by_cases hn : now ≤ t
    · have e : goE now t = 0 := by unfold goE; rw [if_neg (by omega), if_neg (by omega)]
      rw [e, if_pos rfl, if_pos rfl, if_pos rfl]
      refine (rgo_ok g now t R w h ht hn hl).mono ?_
      rintro ev w' ⟨v, rfl, h1, h2, h3⟩
      exact ⟨v, rfl, NewRow.of_own h1, h2, h3⟩
    · have e : goE now t = 22 := by unfold goE; rw [if_neg (by omega), if_pos (by omega)]
      rw [e, if_neg (by decide), if_neg (by decide), if_neg (by decide)]
      refine (rgo_old g now t R w h ht (by omega)).mono ?_
      rintro ev w' ⟨rfl, rfl⟩
      exact ⟨_, rfl, NewRow.nil _ _, h, Kp.refl _ _⟩
  · have e : goE now t = 11 := by unfold goE; rw [if_pos (by omega)]
    rw [e, if_neg (by decide), if_neg (by decide), if_neg (by decide)]
    refine (rgo_far g t w ht).mono ?_
    rintro ev w' ⟨rfl, rfl⟩
    exact ⟨_, rfl, NewRow.nil _ _, h, Kp.refl _ _⟩
theorem goR_len (now t : Nat) (R : Rows) : (goR now t R).length ≤ R.length := by
  unfold goR
  split
  · exact rrest_len_le t R
  · exact Nat.le_refl _
theorem sameInts_self (A B : Option Addr) (c d : Nat) (xs : List Int) (w : World) (hx : RdN w A xs) (hy : RdN w B xs) :
    Calls Tryd.prog 19 #[.slice A xs.length c, .slice B xs.length d] w fun e w' => e = .returned (.bool true) ∧ ∃ n, w' = w.drewN n := by
  refine (sameInts_any A B c d xs xs w hx.1 hy.1).mono ?_
  rintro e w' ⟨rfl, h⟩
  exact ⟨by simp, h⟩
/-- The blocks that both turn. -/
def S2 (F : Nat → Prop) (gr b : Nat) : Prop := F b ∨ b = gr
/-- What do leaves. -/
def DoPost (F : Nat → Prop) (g gr : Nat) (R : Rows) (w w' : World) : Prop := ∃ now' R', Whl (Grn F w) w' g now' R' ∧ RW w' gr now' R' ∧ R'.length ≤ R.length + 1 ∧ Kp (S2 F gr) w w'
/-- Both, in a world that came of wb by turns of both. -/
structure Bth (F : Nat → Prop) (wb W : World) (g n1 : Nat) (R1 : Rows) (gr n2 : Nat) (R2 : Rows) : Prop where
  whl : Whl (Grn F wb) W g n1 R1
  ref : RW W gr n2 R2
  kp : Kp (S2 F gr) wb W
theorem Bth.start {F : Nat → Prop} {wb : World} {g n1 gr n2 : Nat} {R1 R2 : Rows} (h : Whl F wb g n1 R1) (hr : RW wb gr n2 R2) : Bth F wb wb g n1 R1 gr n2 R2 := ⟨h.mono (fun b _ hb => .inl hb), hr, Kp.refl _ _⟩
theorem Bth.none_kept {F : Nat → Prop} {wb W W' : World} {g n1 gr n2 : Nat} {R1 R2 : Rows} (h : Bth F wb W g n1 R1 gr n2 R2) (hk : Kp (fun _ => False) W W') : Bth F wb W' g n1 R1 gr n2 R2 := ⟨h.whl.none_kept hk, h.ref.none_kept hk, h.kp.trans' (hk.mono (fun _ f => f.elim))⟩
theorem Bth.by_whl {F : Nat → Prop} {wb W W' : World} {g n1 n1' gr n2 : Nat} {R1 R1' R2 : Rows} (h : Bth F wb W g n1 R1 gr n2 R2) (hw : Whl (Grn (Grn F wb) W) W' g n1' R1') (hk : Kp (FK (Grn F wb) W) W W') : Bth F wb W' g n1' R1' gr n2 R2 := by
  refine ⟨hw.mono (fun b _ hb => ?_), h.ref.by_whl hk, h.kp.trans hk (fun b hb hf => ?_)⟩
  · rcases hb with hb | hb
    · exact hb
    · exact .inr (Nat.le_trans h.kp.size hb)
  · rcases hf.1 with h1 | h1
    · exact .inl h1
    · omega
theorem Bth.by_ref {F : Nat → Prop} {wb W W' : World} {g n1 gr n2 n2' : Nat} {R1 R2 R2' : Rows} (h : Bth F wb W g n1 R1 gr n2 R2) (hr : RW W' gr n2' R2') (hk : Kp (fun b => b = gr) W W') : Bth F wb W' g n1 R1 gr n2' R2' :=
  ⟨h.whl.by_ref h.ref hk, hr, h.kp.trans hk (fun b _ e => .inr e)⟩
theorem Bth.ends {F : Nat → Prop} {w wb W : World} {g n gr : Nat} {R R' : Rows} (h : Bth F wb W g n R' gr n R') (hk : Kp (fun _ => False) w wb) (hl : R'.length ≤ R.length + 1) : DoPost F g gr R w W :=
  ⟨n, R', h.whl.mono (fun b _ hb => by rcases hb with hb | hb; exact .inl hb; exact .inr (Nat.le_trans hk.size hb)), h.ref, hl, (hk.mono (fun _ f => f.elim)).trans' h.kp⟩
/-- Go, one behind the other. -/
theorem both_go1 (F : Nat → Prop) (wb W : World) (g gr n t : Nat) (R : Rows) (h : Bth F wb W g n R gr n R) (hT : Tab W) (h0 : ¬ F 0) (hp : 0 < wb.heap.size) (hl : R.length ≤ 1000000) :
    Calls Tryd.prog 18 #[.pointer (some ⟨g, 0, none⟩), .int .u64 t] W fun ev w' => ∃ A c, ev = .returned (.tuple #[.slice A (goL n t R).length c, .int .i64 ((goE n t : Nat) : Int)]) ∧ RdN w' A (goL n t R) ∧ (∀ b o, A = some ⟨b, o, none⟩ → W.heap.size ≤ b) ∧ Bth F wb w' g (goN n t) (goR n t R) gr n R := by
  refine (wgo_any (Grn F wb) g n t R W h.whl hT (fun hh => by rcases hh with hh | hh; exact h0 hh; omega) hl).mono ?_
  rintro ev w' ⟨v, rfl, ⟨A, c, rfl, hr, hb⟩, h2, h3⟩
  exact ⟨A, c, rfl, hr, hb, h.by_whl h2 h3⟩
theorem both_go2 (F : Nat → Prop) (wb W : World) (g gr n t : Nat) (R R1 : Rows) (n1 : Nat) (A : Option Addr) (l : List Int) (h : Bth F wb W g n1 R1 gr n R) (hA : RdN W A l) (hb : ∀ b o, A = some ⟨b, o, none⟩ → b ≠ gr) (hl : R.length ≤ 1000000) :
    Calls Tryd.prog 26 #[.pointer (some ⟨gr, 0, none⟩), .int .u64 t] W fun ev w' => ∃ B c, ev = .returned (.tuple #[.slice B (goL n t R).length c, .int .i64 ((goE n t : Nat) : Int)]) ∧ RdN w' B (goL n t R) ∧ RdN w' A l ∧ Bth F wb w' g n1 R1 gr (goN n t) (goR n t R) := by
  refine (rgo_any gr n t R W h.ref hl).mono ?_
  rintro ev w' ⟨v, rfl, ⟨B, c, rfl, hr, _⟩, h2, h3⟩
  exact ⟨B, c, rfl, hr, hA.kp h3 (fun b o _ e _ e2 => hb b o e e2), h.by_ref h2 h3⟩
set_option maxRecDepth 1000000 in
set_option maxHeartbeats 8000000 in
theorem do_set (F : Nat → Prop) (g gr now : Nat) (R : Rows) (a : Int) (d : Nat) (w : World) (h : Whl F w g now R) (hr : RW w gr now R) (hF : ∀ b, F b → b < w.heap.size) (ha : -9223372036854775808 ≤ a ∧ a ≤ 9223372036854775807) (hl : R.length ≤ 16384) :
    Calls Tryd.prog 11 #[.pointer (some ⟨g, 0, none⟩), .pointer (some ⟨gr, 0, none⟩), .agg #[.int .i64 0, .int .i64 a, .int .u64 d]] w fun ev w' => ev = .returned (.bool true) ∧ DoPost F g gr R w w' := by
  have hgr : gr < w.heap.size := by
    obtain ⟨v, hb, _⟩ := hr
    exact hb.lt
  have hrs := h.rs
  have K0 := Lib.hid ((Kp.refl (fun _ => False) w).alloc (.cells #[.int .i64 0, .int .i64 a, .int .u64 d] 25))
  have hb0 := Bk.new w 25 #[.int .i64 0, .int .i64 a, .int .u64 d]
  have B0 := Lib.hid (Bth.start (h.none_kept K0.out) (hr.none_kept K0.out))
  have q0 := hb0.cell 0
  have q1 := hb0.cell 1
  have q2 := hb0.cell 2
  have NB := Lib.hid (show ¬ S2 F gr w.heap.size from fun hh => by rcases hh with hh | hh; (have := hF _ hh; omega); omega)
  simp only [List.getElem?_toArray, List.getElem?_cons_zero, List.getElem?_cons_succ] at q0 q1 q2
  have HS1 := Lib.hid (show ∀ W, Kp (fun _ => False) (w.alloc (.cells #[.int .i64 0, .int .i64 a, .int .u64 d] 25)) W → Calls Tryd.prog 17 #[.pointer (some ⟨g, 0, none⟩), .int .i64 a, .int .u64 d] W fun ev w' => ev = .returned (.int .i64 ((setE R a d : Nat) : Int)) ∧ Bth F (w.alloc (.cells #[.int .i64 0, .int .i64 a, .int .u64 d] 25)) w' g now (setR R a d) gr now R from fun W k => by
    refine (wset _ g now R a d W (B0.out.none_kept k).whl ha).mono ?_
    rintro ev w' ⟨rfl, h2, h3⟩
    exact ⟨rfl, (B0.out.none_kept k).by_whl (h2) h3⟩)
  have HS2 := Lib.hid (show ∀ W, Bth F (w.alloc (.cells #[.int .i64 0, .int .i64 a, .int .u64 d] 25)) W g now (setR R a d) gr now R → Calls Tryd.prog 24 #[.pointer (some ⟨gr, 0, none⟩), .int .i64 a, .int .u64 d] W fun ev w' => ev = .returned (.int .i64 ((setE R a d : Nat) : Int)) ∧ Bth F (w.alloc (.cells #[.int .i64 0, .int .i64 a, .int .u64 d] 25)) w' g now (setR R a d) gr now (setR R a d) from fun W hB => by
    refine (rset_ gr now R a d W hB.ref hrs hl).mono ?_
    rintro ev w' ⟨rfl, h2, h3⟩
    exact ⟨rfl, hB.by_ref h2 h3⟩)
  have HLN : Hid ((setR R a d).length ≤ R.length + 1) := Lib.hid (setR_len R a d)
  generalize setR R a d = R1 at *
  generalize setE R a d = E at *
  generalize hwb : w.alloc (.cells #[.int .i64 0, .int .i64 a, .int .u64 d] 25) = wb at *
  have HWB := Lib.hid hwb
  have C1 := Lib.hid q1
  have C2 := Lib.hid q2
  have KC := Lib.hid ((Kp.refl (S2 F gr) wb).drew)
  have KC0 := Lib.hid ((Kp.refl (fun _ => False) wb).drew)
  clear h hr hF hb0 q1 q2 B0 ha hwb
  go_enter Tryd.func11, Tryd.ntmps11
  go_wp2_with fail
  rw [HWB.out]
  clear HWB
  go_wp2_with fail
  refine wp_region_held_drew (S := (fun w' => Kp (S2 F gr) wb w')) (by kernel_rfl) (KC.out) (fun hHeld => ?_)
  refine wpAnyH_take (i := 0) (v := ?v0_0) rfl (by kernel_rfl) (by kernel_rfl) (by kernel_rfl) (fun _ _ _ h => h) (Or.inl ⟨by rfl, ?y0_0⟩) (by assumption) ?r0_0
  case y0_0 => (intro w hSw; (try dsimp only at hSw); go_simp; first | done | with_reducible rfl)
  try simp only [Act.put, List.getElem_toArray, List.getElem_cons_succ, List.getElem_cons_zero, List.setIfInBounds_toArray, List.set_cons_zero, List.set_cons_succ]
  refine wpAnyH_take (i := 1) (v := ?v1_1) rfl (by kernel_rfl) (by kernel_rfl) (by kernel_rfl) (fun _ _ _ h => h) (Or.inl ⟨by rfl, ?y1_1⟩) (by assumption) ?r1_1
  case y1_1 => (intro w hSw; (try dsimp only at hSw); go_simp; first | done | with_reducible rfl)
  try simp only [Act.put, List.getElem_toArray, List.getElem_cons_succ, List.getElem_cons_zero, List.setIfInBounds_toArray, List.set_cons_zero, List.set_cons_succ]
  refine wpAnyH_take (i := 2) (v := ?v2_2) rfl (by kernel_rfl) (by kernel_rfl) (by kernel_rfl) (fun _ _ _ h => h) (Or.inl ⟨by rfl, ?y2_2⟩) (by assumption) ?r2_2
  case y2_2 => (intro w hSw; (try dsimp only at hSw); have d1 := kp_kc' C1.out hSw NB.out; go_simp; first | done | with_reducible rfl)
  try simp only [Act.put, List.getElem_toArray, List.getElem_cons_succ, List.getElem_cons_zero, List.setIfInBounds_toArray, List.set_cons_zero, List.set_cons_succ]
  refine wpAnyH_take (i := 3) (v := ?v3_3) rfl (by kernel_rfl) (by kernel_rfl) (by kernel_rfl) (fun _ _ _ h => h) (Or.inl ⟨by rfl, ?y3_3⟩) (by assumption) ?r3_3
  case y3_3 => (intro w hSw; (try dsimp only at hSw); go_simp; first | done | with_reducible rfl)
  try simp only [Act.put, List.getElem_toArray, List.getElem_cons_succ, List.getElem_cons_zero, List.setIfInBounds_toArray, List.set_cons_zero, List.set_cons_succ]
  refine wpAnyH_take (i := 4) (v := ?v4_4) rfl (by kernel_rfl) (by kernel_rfl) (by kernel_rfl) (fun _ _ _ h => h) (Or.inl ⟨by rfl, ?y4_4⟩) (by assumption) ?r4_4
  case y4_4 => (intro w hSw; (try dsimp only at hSw); have d2 := kp_kc' C2.out hSw NB.out; go_simp; first | done | with_reducible rfl)
  try simp only [Act.put, List.getElem_toArray, List.getElem_cons_succ, List.getElem_cons_zero, List.setIfInBounds_toArray, List.set_cons_zero, List.set_cons_succ]
  refine wpAnyH_take (i := 6) (v := ?v6_5) rfl (by kernel_rfl) (by kernel_rfl) (by kernel_rfl) (fun _ _ _ h => h) (Or.inl ⟨by rfl, ?y6_5⟩) (by assumption) ?r6_5
  case y6_5 => (intro w hSw; (try dsimp only at hSw); go_simp; first | done | with_reducible rfl)
  try simp only [Act.put, List.getElem_toArray, List.getElem_cons_succ, List.getElem_cons_zero, List.setIfInBounds_toArray, List.set_cons_zero, List.set_cons_succ]
  refine wpAnyH_take (i := 7) (v := ?v7_6) rfl (by kernel_rfl) (by kernel_rfl) (by kernel_rfl) (fun _ _ _ h => h) (Or.inl ⟨by rfl, ?y7_6⟩) (by assumption) ?r7_6
  case y7_6 => (intro w hSw; (try dsimp only at hSw); go_simp; first | done | with_reducible rfl)
  try simp only [Act.put, List.getElem_toArray, List.getElem_cons_succ, List.getElem_cons_zero, List.setIfInBounds_toArray, List.set_cons_zero, List.set_cons_succ]
  refine wpAnyH_take (i := 8) (v := ?v8_7) rfl (by kernel_rfl) (by kernel_rfl) (by kernel_rfl) (fun _ _ _ h => h) (Or.inl ⟨by rfl, ?y8_7⟩) (by assumption) ?r8_7
  case y8_7 => (intro w hSw; (try dsimp only at hSw); have d1 := kp_kc' C1.out hSw NB.out; go_simp; first | done | with_reducible rfl)
  try simp only [Act.put, List.getElem_toArray, List.getElem_cons_succ, List.getElem_cons_zero, List.setIfInBounds_toArray, List.set_cons_zero, List.set_cons_succ]
  refine wpAnyH_take (i := 9) (v := ?v9_8) rfl (by kernel_rfl) (by kernel_rfl) (by kernel_rfl) (fun _ _ _ h => h) (Or.inl ⟨by rfl, ?y9_8⟩) (by assumption) ?r9_8
  case y9_8 => (intro w hSw; (try dsimp only at hSw); go_simp; first | done | with_reducible rfl)
  try simp only [Act.put, List.getElem_toArray, List.getElem_cons_succ, List.getElem_cons_zero, List.setIfInBounds_toArray, List.set_cons_zero, List.set_cons_succ]
  refine wpAnyH_take (i := 10) (v := ?v10_9) rfl (by kernel_rfl) (by kernel_rfl) (by kernel_rfl) (fun _ _ _ h => h) (Or.inl ⟨by rfl, ?y10_9⟩) (by assumption) ?r10_9
  case y10_9 => (intro w hSw; (try dsimp only at hSw); have d2 := kp_kc' C2.out hSw NB.out; go_simp; first | done | with_reducible rfl)
  try simp only [Act.put, List.getElem_toArray, List.getElem_cons_succ, List.getElem_cons_zero, List.setIfInBounds_toArray, List.set_cons_zero, List.set_cons_succ]
  refine wpAnyH_ready (rs := [5]) (by kernel_rfl) (by simp) ?_
  refine AllReadyH.cons rfl (fun K hK => ?_) AllReadyH.nil
  go_simp
  with_reducible refine (HS1.out _ KC0.out).mono ?_
  rintro ev w4 ⟨rfl, b4⟩
  have KC := Lib.hid b4.kp
  have B4 := Lib.hid b4
  clear b4
  try dsimp only
  refine hK.out _ _ (KC.out) (fun hHeld => ?_)
  clear hK K
  try simp only [Act.put, List.getElem_toArray, List.getElem_cons_succ, List.getElem_cons_zero, List.setIfInBounds_toArray, List.set_cons_zero, List.set_cons_succ]
  refine wpAnyH_ready (rs := [11]) (by kernel_rfl) (by simp) ?_
  refine AllReadyH.cons rfl (fun K hK => ?_) AllReadyH.nil
  go_simp
  with_reducible refine (HS2.out _ B4.out).mono ?_
  rintro ev w5 ⟨rfl, b5⟩
  have KC := Lib.hid b5.kp
  have B5 := Lib.hid b5
  clear b5
  try dsimp only
  refine hK.out _ _ (KC.out) (fun hHeld => ?_)
  clear hK K
  try simp only [Act.put, List.getElem_toArray, List.getElem_cons_succ, List.getElem_cons_zero, List.setIfInBounds_toArray, List.set_cons_zero, List.set_cons_succ]
  refine wpAnyH_take (i := 12) (v := ?v12_10) rfl (by kernel_rfl) (by kernel_rfl) (by kernel_rfl) (fun _ _ _ h => h) (Or.inl ⟨by rfl, ?y12_10⟩) (by assumption) ?r12_10
  case y12_10 => (intro w hSw; (try dsimp only at hSw); go_simp; first | done | with_reducible rfl)
  try simp only [Act.put, List.getElem_toArray, List.getElem_cons_succ, List.getElem_cons_zero, List.setIfInBounds_toArray, List.set_cons_zero, List.set_cons_succ]
  refine wpAnyH_take (i := 13) (v := ?v13_11) rfl (by kernel_rfl) (by kernel_rfl) (by kernel_rfl) (fun _ _ _ h => h) (Or.inl ⟨by rfl, ?y13_11⟩) (by assumption) ?r13_11
  case y13_11 => (intro w hSw; (try dsimp only at hSw); go_simp; first | done | with_reducible rfl)
  try simp only [Act.put, List.getElem_toArray, List.getElem_cons_succ, List.getElem_cons_zero, List.setIfInBounds_toArray, List.set_cons_zero, List.set_cons_succ]
  refine wpAnyH_done (by kernel_rfl) ?_ _
  go_wp2_with fail
  exact bodyPost_ret (results_tmp rfl _ _ _) rfl ⟨rfl, B5.out.ends K0.out HLN.out⟩
set_option maxRecDepth 1000000 in
set_option maxHeartbeats 8000000 in
theorem do_cancel (F : Nat → Prop) (g gr now : Nat) (R : Rows) (a : Int) (d : Nat) (w : World) (h : Whl F w g now R) (hr : RW w gr now R) (hF : ∀ b, F b → b < w.heap.size) (ha : -9223372036854775808 ≤ a ∧ a ≤ 9223372036854775807) (hl : R.length ≤ 16384) :
    Calls Tryd.prog 11 #[.pointer (some ⟨g, 0, none⟩), .pointer (some ⟨gr, 0, none⟩), .agg #[.int .i64 1, .int .i64 a, .int .u64 d]] w fun ev w' => ev = .returned (.bool true) ∧ DoPost F g gr R w w' := by
  have hgr : gr < w.heap.size := by
    obtain ⟨v, hb, _⟩ := hr
    exact hb.lt
  have hrs := h.rs
  have K0 := Lib.hid ((Kp.refl (fun _ => False) w).alloc (.cells #[.int .i64 1, .int .i64 a, .int .u64 d] 25))
  have hb0 := Bk.new w 25 #[.int .i64 1, .int .i64 a, .int .u64 d]
  have B0 := Lib.hid (Bth.start (h.none_kept K0.out) (hr.none_kept K0.out))
  have q0 := hb0.cell 0
  have q1 := hb0.cell 1
  have q2 := hb0.cell 2
  have NB := Lib.hid (show ¬ S2 F gr w.heap.size from fun hh => by rcases hh with hh | hh; (have := hF _ hh; omega); omega)
  simp only [List.getElem?_toArray, List.getElem?_cons_zero, List.getElem?_cons_succ] at q0 q1 q2
  have HS1 := Lib.hid (show ∀ W, Kp (fun _ => False) (w.alloc (.cells #[.int .i64 1, .int .i64 a, .int .u64 d] 25)) W → Calls Tryd.prog 21 #[.pointer (some ⟨g, 0, none⟩), .int .i64 a] W fun ev w' => ev = .returned (.bool (rdue a R).isSome) ∧ Bth F (w.alloc (.cells #[.int .i64 1, .int .i64 a, .int .u64 d] 25)) w' g now (rdel a R) gr now R from fun W k => by
    refine (wcancel _ g now R a W (B0.out.none_kept k).whl).mono ?_
    rintro ev w' ⟨rfl, h2, h3⟩
    exact ⟨rfl, (B0.out.none_kept k).by_whl (h2.mono (fun b _ hb => .inl hb)) h3⟩)
  have HS2 := Lib.hid (show ∀ W, Bth F (w.alloc (.cells #[.int .i64 1, .int .i64 a, .int .u64 d] 25)) W g now (rdel a R) gr now R → Calls Tryd.prog 25 #[.pointer (some ⟨gr, 0, none⟩), .int .i64 a] W fun ev w' => ev = .returned (.bool (rdue a R).isSome) ∧ Bth F (w.alloc (.cells #[.int .i64 1, .int .i64 a, .int .u64 d] 25)) w' g now (rdel a R) gr now (rdel a R) from fun W hB => by
    refine (rcancel gr now R a W hB.ref hrs (by omega)).mono ?_
    rintro ev w' ⟨rfl, h2, h3⟩
    exact ⟨rfl, hB.by_ref h2 h3⟩)
  have HLN : Hid ((rdel a R).length ≤ R.length + 1) := Lib.hid (Nat.le_succ_of_le (List.length_filter_le ..))
  generalize rdel a R = R1 at *
  generalize (rdue a R).isSome = E at *
  generalize hwb : w.alloc (.cells #[.int .i64 1, .int .i64 a, .int .u64 d] 25) = wb at *
  have HWB := Lib.hid hwb
  have C1 := Lib.hid q1
  have C2 := Lib.hid q2
  have KC := Lib.hid ((Kp.refl (S2 F gr) wb).drew)
  have KC0 := Lib.hid ((Kp.refl (fun _ => False) wb).drew)
  clear h hr hF hb0 q1 q2 B0 ha hwb
  go_enter Tryd.func11, Tryd.ntmps11
  go_wp2_with fail
  rw [HWB.out]
  clear HWB
  go_wp2_with fail
  refine wp_region_held_drew (S := (fun w' => Kp (S2 F gr) wb w')) (by kernel_rfl) (KC.out) (fun hHeld => ?_)
  refine wpAnyH_take (i := 0) (v := ?v0_12) rfl (by kernel_rfl) (by kernel_rfl) (by kernel_rfl) (fun _ _ _ h => h) (Or.inl ⟨by rfl, ?y0_12⟩) (by assumption) ?r0_12
  case y0_12 => (intro w hSw; (try dsimp only at hSw); go_simp; first | done | with_reducible rfl)
  try simp only [Act.put, List.getElem_toArray, List.getElem_cons_succ, List.getElem_cons_zero, List.setIfInBounds_toArray, List.set_cons_zero, List.set_cons_succ]
  refine wpAnyH_take (i := 1) (v := ?v1_13) rfl (by kernel_rfl) (by kernel_rfl) (by kernel_rfl) (fun _ _ _ h => h) (Or.inl ⟨by rfl, ?y1_13⟩) (by assumption) ?r1_13
  case y1_13 => (intro w hSw; (try dsimp only at hSw); go_simp; first | done | with_reducible rfl)
  try simp only [Act.put, List.getElem_toArray, List.getElem_cons_succ, List.getElem_cons_zero, List.setIfInBounds_toArray, List.set_cons_zero, List.set_cons_succ]
  refine wpAnyH_take (i := 2) (v := ?v2_14) rfl (by kernel_rfl) (by kernel_rfl) (by kernel_rfl) (fun _ _ _ h => h) (Or.inl ⟨by rfl, ?y2_14⟩) (by assumption) ?r2_14
  case y2_14 => (intro w hSw; (try dsimp only at hSw); have d1 := kp_kc' C1.out hSw NB.out; go_simp; first | done | with_reducible rfl)
  try simp only [Act.put, List.getElem_toArray, List.getElem_cons_succ, List.getElem_cons_zero, List.setIfInBounds_toArray, List.set_cons_zero, List.set_cons_succ]
  refine wpAnyH_take (i := 4) (v := ?v4_15) rfl (by kernel_rfl) (by kernel_rfl) (by kernel_rfl) (fun _ _ _ h => h) (Or.inl ⟨by rfl, ?y4_15⟩) (by assumption) ?r4_15
  case y4_15 => (intro w hSw; (try dsimp only at hSw); go_simp; first | done | with_reducible rfl)
  try simp only [Act.put, List.getElem_toArray, List.getElem_cons_succ, List.getElem_cons_zero, List.setIfInBounds_toArray, List.set_cons_zero, List.set_cons_succ]
  refine wpAnyH_take (i := 5) (v := ?v5_16) rfl (by kernel_rfl) (by kernel_rfl) (by kernel_rfl) (fun _ _ _ h => h) (Or.inl ⟨by rfl, ?y5_16⟩) (by assumption) ?r5_16
  case y5_16 => (intro w hSw; (try dsimp only at hSw); go_simp; first | done | with_reducible rfl)
  try simp only [Act.put, List.getElem_toArray, List.getElem_cons_succ, List.getElem_cons_zero, List.setIfInBounds_toArray, List.set_cons_zero, List.set_cons_succ]
  refine wpAnyH_take (i := 6) (v := ?v6_17) rfl (by kernel_rfl) (by kernel_rfl) (by kernel_rfl) (fun _ _ _ h => h) (Or.inl ⟨by rfl, ?y6_17⟩) (by assumption) ?r6_17
  case y6_17 => (intro w hSw; (try dsimp only at hSw); have d1 := kp_kc' C1.out hSw NB.out; go_simp; first | done | with_reducible rfl)
  try simp only [Act.put, List.getElem_toArray, List.getElem_cons_succ, List.getElem_cons_zero, List.setIfInBounds_toArray, List.set_cons_zero, List.set_cons_succ]
  refine wpAnyH_ready (rs := [3]) (by kernel_rfl) (by simp) ?_
  refine AllReadyH.cons rfl (fun K hK => ?_) AllReadyH.nil
  go_simp
  with_reducible refine (HS1.out _ KC0.out).mono ?_
  rintro ev w4 ⟨rfl, b4⟩
  have KC := Lib.hid b4.kp
  have B4 := Lib.hid b4
  clear b4
  try dsimp only
  refine hK.out _ _ (KC.out) (fun hHeld => ?_)
  clear hK K
  try simp only [Act.put, List.getElem_toArray, List.getElem_cons_succ, List.getElem_cons_zero, List.setIfInBounds_toArray, List.set_cons_zero, List.set_cons_succ]
  refine wpAnyH_ready (rs := [7]) (by kernel_rfl) (by simp) ?_
  refine AllReadyH.cons rfl (fun K hK => ?_) AllReadyH.nil
  go_simp
  with_reducible refine (HS2.out _ B4.out).mono ?_
  rintro ev w5 ⟨rfl, b5⟩
  have KC := Lib.hid b5.kp
  have B5 := Lib.hid b5
  clear b5
  try dsimp only
  refine hK.out _ _ (KC.out) (fun hHeld => ?_)
  clear hK K
  try simp only [Act.put, List.getElem_toArray, List.getElem_cons_succ, List.getElem_cons_zero, List.setIfInBounds_toArray, List.set_cons_zero, List.set_cons_succ]
  refine wpAnyH_take (i := 8) (v := ?v8_18) rfl (by kernel_rfl) (by kernel_rfl) (by kernel_rfl) (fun _ _ _ h => h) (Or.inl ⟨by rfl, ?y8_18⟩) (by assumption) ?r8_18
  case y8_18 => (intro w hSw; (try dsimp only at hSw); go_simp; first | done | with_reducible rfl)
  try simp only [Act.put, List.getElem_toArray, List.getElem_cons_succ, List.getElem_cons_zero, List.setIfInBounds_toArray, List.set_cons_zero, List.set_cons_succ]
  refine wpAnyH_take (i := 9) (v := ?v9_19) rfl (by kernel_rfl) (by kernel_rfl) (by kernel_rfl) (fun _ _ _ h => h) (Or.inl ⟨by rfl, ?y9_19⟩) (by assumption) ?r9_19
  case y9_19 => (intro w hSw; (try dsimp only at hSw); go_simp; first | done | with_reducible rfl)
  try simp only [Act.put, List.getElem_toArray, List.getElem_cons_succ, List.getElem_cons_zero, List.setIfInBounds_toArray, List.set_cons_zero, List.set_cons_succ]
  refine wpAnyH_done (by kernel_rfl) ?_ _
  go_wp2_with fail
  exact bodyPost_ret (results_tmp rfl _ _ _) rfl ⟨rfl, B5.out.ends K0.out HLN.out⟩
set_option maxRecDepth 1000000 in
set_option maxHeartbeats 8000000 in
theorem do_go (F : Nat → Prop) (g gr now : Nat) (R : Rows) (a : Int) (d : Nat) (w : World) (h : Whl F w g now R) (hr : RW w gr now R) (hF : ∀ b, F b → b < w.heap.size) (ha : -9223372036854775808 ≤ a ∧ a ≤ 9223372036854775807) (hl : R.length ≤ 16384) (hT : Tab w) (h0 : ¬ F 0) :
    Calls Tryd.prog 11 #[.pointer (some ⟨g, 0, none⟩), .pointer (some ⟨gr, 0, none⟩), .agg #[.int .i64 2, .int .i64 a, .int .u64 d]] w fun ev w' => ev = .returned (.bool true) ∧ DoPost F g gr R w w' := by
  have hgr : gr < w.heap.size := by
    obtain ⟨v, hb, _⟩ := hr
    exact hb.lt
  have K0 := Lib.hid ((Kp.refl (fun _ => False) w).alloc (.cells #[.int .i64 2, .int .i64 a, .int .u64 d] 25))
  have hb0 := Bk.new w 25 #[.int .i64 2, .int .i64 a, .int .u64 d]
  have B0 := Lib.hid (Bth.start (h.none_kept K0.out) (hr.none_kept K0.out))
  have q0 := hb0.cell 0
  have q1 := hb0.cell 1
  have q2 := hb0.cell 2
  have NB := Lib.hid (show ¬ S2 F gr w.heap.size from fun hh => by rcases hh with hh | hh; (have := hF _ hh; omega); omega)
  simp only [List.getElem?_toArray, List.getElem?_cons_zero, List.getElem?_cons_succ] at q0 q1 q2
  have hsz : (w.alloc (.cells #[.int .i64 2, .int .i64 a, .int .u64 d] 25)).heap.size = w.heap.size + 1 := by simp
  have HG1 := Lib.hid (both_go1 F _ _ g gr now (d) R B0.out (hT.kept K0.out (fun f => f)) h0 (by omega) (by omega))
  have HG2 := Lib.hid (fun W A (hB : Bth F (w.alloc (.cells #[.int .i64 2, .int .i64 a, .int .u64 d] 25)) W g (goN now (d)) (goR now (d) R) gr now R) hA hb => both_go2 F _ W g gr now (d) R (goR now (d) R) (goN now (d)) A (goL now (d) R) hB hA hb (by omega))
  have HLN : Hid ((goR now (d) R).length ≤ R.length + 1) := Lib.hid (Nat.le_succ_of_le (goR_len ..))
  generalize goR now (d) R = R1 at *
  generalize goN now (d) = N1 at *
  generalize goE now (d) = E1 at *
  generalize goL now (d) R = L1 at *
  generalize hwb : w.alloc (.cells #[.int .i64 2, .int .i64 a, .int .u64 d] 25) = wb at *
  have HWB := Lib.hid hwb
  clear h hr hF hb0 ha hwb hT h0
  go_enter Tryd.func11, Tryd.ntmps11
  go_wp2_with fail
  rw [HWB.out]
  clear HWB
  go_wp2_with fail
  refine HG1.out.mono ?_
  rintro ev w4 ⟨A, c, rfl, r4, a4, b4⟩
  have Q4 := Lib.hid (kp_kc' q0 b4.kp NB.out)
  have R4 := Lib.hid r4
  have A4 := Lib.hid (fun b o (e : A = some ⟨b, o, none⟩) => show b ≠ gr by have := a4 b o e; omega)
  have B4 := Lib.hid b4
  clear r4 a4 b4
  go_wp2_with fail
  refine (HG2.out _ A B4.out R4.out A4.out).mono ?_
  rintro ev w5 ⟨B, c2, rfl, r5, r5', b5⟩
  have R5 := Lib.hid r5
  have R5' := Lib.hid r5'
  have B5 := Lib.hid b5
  clear r5 r5' b5
  go_wp2_with fail
  refine (sameInts_self A B c c2 _ _ R5'.out R5.out).mono ?_
  rintro ev w6 ⟨rfl, n, rfl⟩
  go_wp2_with fail
  exact bodyPost_ret (results_tmp rfl _ _ _) rfl ⟨rfl, (B5.out.none_kept ((Kp.refl _ _).drewN n)).ends K0.out HLN.out⟩
set_option maxRecDepth 1000000 in
set_option maxHeartbeats 8000000 in
theorem do_on (F : Nat → Prop) (g gr now : Nat) (R : Rows) (a : Int) (d : Nat) (w : World) (h : Whl F w g now R) (hr : RW w gr now R) (hF : ∀ b, F b → b < w.heap.size) (ha : -9223372036854775808 ≤ a ∧ a ≤ 9223372036854775807) (hl : R.length ≤ 16384) (hT : Tab w) (h0 : ¬ F 0) (hd : d ≤ 2305843009213693952) (hn : now ≤ 2305843009213693952) :
    Calls Tryd.prog 11 #[.pointer (some ⟨g, 0, none⟩), .pointer (some ⟨gr, 0, none⟩), .agg #[.int .i64 3, .int .i64 a, .int .u64 d]] w fun ev w' => ev = .returned (.bool true) ∧ DoPost F g gr R w w' := by
  have hgr : gr < w.heap.size := by
    obtain ⟨v, hb, _⟩ := hr
    exact hb.lt
  have K0 := Lib.hid ((Kp.refl (fun _ => False) w).alloc (.cells #[.int .i64 3, .int .i64 a, .int .u64 d] 25))
  have hb0 := Bk.new w 25 #[.int .i64 3, .int .i64 a, .int .u64 d]
  have B0 := Lib.hid (Bth.start (h.none_kept K0.out) (hr.none_kept K0.out))
  have q0 := hb0.cell 0
  have q1 := hb0.cell 1
  have q2 := hb0.cell 2
  have NB := Lib.hid (show ¬ S2 F gr w.heap.size from fun hh => by rcases hh with hh | hh; (have := hF _ hh; omega); omega)
  simp only [List.getElem?_toArray, List.getElem?_cons_zero, List.getElem?_cons_succ] at q0 q1 q2
  have hsz : (w.alloc (.cells #[.int .i64 3, .int .i64 a, .int .u64 d] 25)).heap.size = w.heap.size + 1 := by simp
  have HG1 := Lib.hid (both_go1 F _ _ g gr now (d + now) R B0.out (hT.kept K0.out (fun f => f)) h0 (by omega) (by omega))
  have HG2 := Lib.hid (fun W A (hB : Bth F (w.alloc (.cells #[.int .i64 3, .int .i64 a, .int .u64 d] 25)) W g (goN now (d + now)) (goR now (d + now) R) gr now R) hA hb => both_go2 F _ W g gr now (d + now) R (goR now (d + now) R) (goN now (d + now)) A (goL now (d + now) R) hB hA hb (by omega))
  have HLN : Hid ((goR now (d + now) R).length ≤ R.length + 1) := Lib.hid (Nat.le_succ_of_le (goR_len ..))
  have x1 : ¬ (2305843009213693952 : Int) < (d : Int) := by omega
  have x2 : ¬ (2305843009213693952 : Int) < (now : Int) := by omega
  have x3 : IntKind.u64.wrap ((d : Int) + (now : Int)) = ((d + now : Nat) : Int) := by
    show ((d : Int) + (now : Int)) % 18446744073709551616 = _
    omega
  obtain ⟨A0, cap0, c00, -, -⟩ := (hr.none_kept K0.out).read
  obtain ⟨A1, cap1, c01, -, -⟩ := hr.read
  clear A0 cap0
  generalize hDN : d + now = T at *
  clear hDN
  generalize goR now T R = R1 at *
  generalize goN now T = N1 at *
  generalize goE now T = E1 at *
  generalize goL now T R = L1 at *
  generalize hwb : w.alloc (.cells #[.int .i64 3, .int .i64 a, .int .u64 d] 25) = wb at *
  have HWB := Lib.hid hwb
  clear h hr hF hb0 ha hwb hT h0
  go_enter Tryd.func11, Tryd.ntmps11
  go_wp2_with fail
  rw [HWB.out]
  clear HWB
  go_wp2_with fail
  refine HG1.out.mono ?_
  rintro ev w4 ⟨A, c, rfl, r4, a4, b4⟩
  have Q4 := Lib.hid (kp_kc' q0 b4.kp NB.out)
  have R4 := Lib.hid r4
  have A4 := Lib.hid (fun b o (e : A = some ⟨b, o, none⟩) => show b ≠ gr by have := a4 b o e; omega)
  have B4 := Lib.hid b4
  clear r4 a4 b4
  go_wp2_with fail
  refine (HG2.out _ A B4.out R4.out A4.out).mono ?_
  rintro ev w5 ⟨B, c2, rfl, r5, r5', b5⟩
  have R5 := Lib.hid r5
  have R5' := Lib.hid r5'
  have B5 := Lib.hid b5
  clear r5 r5' b5
  go_wp2_with fail
  refine (sameInts_self A B c c2 _ _ R5'.out R5.out).mono ?_
  rintro ev w6 ⟨rfl, n, rfl⟩
  go_wp2_with fail
  exact bodyPost_ret (results_tmp rfl _ _ _) rfl ⟨rfl, (B5.out.none_kept ((Kp.refl _ _).drewN n)).ends K0.out HLN.out⟩
set_option maxRecDepth 1000000 in
set_option maxHeartbeats 8000000 in
theorem do_far (F : Nat → Prop) (g gr now : Nat) (R : Rows) (a : Int) (d : Nat) (w : World) (h : Whl F w g now R) (hr : RW w gr now R) (hF : ∀ b, F b → b < w.heap.size) (ha : -9223372036854775808 ≤ a ∧ a ≤ 9223372036854775807) (hl : R.length ≤ 16384) (hd : 2305843009213693952 < d ∨ d ≤ 2305843009213693952 ∧ 2305843009213693952 < now) :
    Calls Tryd.prog 11 #[.pointer (some ⟨g, 0, none⟩), .pointer (some ⟨gr, 0, none⟩), .agg #[.int .i64 3, .int .i64 a, .int .u64 d]] w fun ev w' => ev = .returned (.bool true) ∧ DoPost F g gr R w w' := by
  have hgr : gr < w.heap.size := by
    obtain ⟨v, hb, _⟩ := hr
    exact hb.lt
  have K0 := Lib.hid ((Kp.refl (fun _ => False) w).alloc (.cells #[.int .i64 3, .int .i64 a, .int .u64 d] 25))
  have hb0 := Bk.new w 25 #[.int .i64 3, .int .i64 a, .int .u64 d]
  have B0 := Lib.hid (Bth.start (h.none_kept K0.out) (hr.none_kept K0.out))
  have q0 := hb0.cell 0
  have q1 := hb0.cell 1
  have q2 := hb0.cell 2
  have NB := Lib.hid (show ¬ S2 F gr w.heap.size from fun hh => by rcases hh with hh | hh; (have := hF _ hh; omega); omega)
  simp only [List.getElem?_toArray, List.getElem?_cons_zero, List.getElem?_cons_succ] at q0 q1 q2
  obtain ⟨A0, cap0, c00, -, -⟩ := (hr.none_kept K0.out).read
  obtain ⟨A1, cap1, c01, -, -⟩ := hr.read
  generalize hwb : w.alloc (.cells #[.int .i64 3, .int .i64 a, .int .u64 d] 25) = wb at *
  have HWB := Lib.hid hwb
  clear h hr hF hb0 ha hwb
  rcases hd with hd | ⟨hd, hd2⟩
  all_goals
    first
      | (have x1 : ¬ (2305843009213693952 : Int) < (d : Int) := by omega
         have x2 : (2305843009213693952 : Int) < (now : Int) := by omega)
      | have x1 : (2305843009213693952 : Int) < (d : Int) := by omega
    go_enter Tryd.func11, Tryd.ntmps11
    go_wp2_with fail
    rw [HWB.out]
    exact bodyPost_ret (results_tmp rfl _ _ _) rfl ⟨rfl, B0.out.ends K0.out (by omega)⟩
set_option maxRecDepth 1000000 in
set_option maxHeartbeats 8000000 in
theorem do_none (F : Nat → Prop) (g gr now : Nat) (R : Rows) (x a : Int) (d : Nat) (w : World) (h : Whl F w g now R) (hr : RW w gr now R) (h0 : (x == 0) = false) (h1 : (x == 1) = false) (h2 : (x == 2) = false) (h3 : (x == 3) = false) :
    Calls Tryd.prog 11 #[.pointer (some ⟨g, 0, none⟩), .pointer (some ⟨gr, 0, none⟩), .agg #[.int .i64 x, .int .i64 a, .int .u64 d]] w fun ev w' => ev = .returned (.bool true) ∧ DoPost F g gr R w w' := by
  have K0 := Lib.hid ((Kp.refl (fun _ => False) w).alloc (.cells #[.int .i64 x, .int .i64 a, .int .u64 d] 25))
  have B0 := Lib.hid (Bth.start (h.none_kept K0.out) (hr.none_kept K0.out))
  clear h hr
  go_enter Tryd.func11, Tryd.ntmps11
  go_wp2_with fail
  exact bodyPost_ret (results_tmp rfl _ _ _) rfl ⟨rfl, B0.out.ends K0.out (by omega)⟩
/-- do, whatever the call. -/
theorem do_any (F : Nat → Prop) (g gr now : Nat) (R : Rows) (x a : Int) (d : Nat) (w : World) (h : Whl F w g now R) (hr : RW w gr now R) (ha : -9223372036854775808 ≤ a ∧ a ≤ 9223372036854775807) (hl : R.length ≤ 16384) (hT : Tab w) (h0 : ¬ F 0) :
    Calls Tryd.prog 11 #[.pointer (some ⟨g, 0, none⟩), .pointer (some ⟨gr, 0, none⟩), .agg #[.int .i64 x, .int .i64 a, .int .u64 d]] w fun ev w' => ev = .returned (.bool true) ∧ DoPost F g gr R w w' := by
  have key : Calls Tryd.prog 11 #[.pointer (some ⟨g, 0, none⟩), .pointer (some ⟨gr, 0, none⟩), .agg #[.int .i64 x, .int .i64 a, .int .u64 d]] w fun ev w' => ev = .returned (.bool true) ∧ DoPost (fun b => F b ∧ b < w.heap.size) g gr R w w' := by
    have h' : Whl (fun b => F b ∧ b < w.heap.size) w g now R := h.mono (fun b hb hf => ⟨hf, hb⟩)
    have hF : ∀ b, (F b ∧ b < w.heap.size) → b < w.heap.size := fun b hb => hb.2
    have h0' : ¬ (F 0 ∧ 0 < w.heap.size) := fun hh => h0 hh.1
    by_cases x0 : x = 0
    · subst x0; exact do_set _ g gr now R a d w h' hr hF ha hl
    by_cases x1 : x = 1
    · subst x1; exact do_cancel _ g gr now R a d w h' hr hF ha hl
    by_cases x2 : x = 2
    · subst x2; exact do_go _ g gr now R a d w h' hr hF ha hl hT h0'
    by_cases x3 : x = 3
    · subst x3
      by_cases hd : d ≤ 2305843009213693952
      · by_cases hn : now ≤ 2305843009213693952
        · exact do_on _ g gr now R a d w h' hr hF ha hl hT h0' hd hn
        · exact do_far _ g gr now R a d w h' hr hF ha hl (.inr ⟨hd, by omega⟩)
      · exact do_far _ g gr now R a d w h' hr hF ha hl (.inl (by omega))
    exact do_none _ g gr now R x a d w h' hr (by simpa using x0) (by simpa using x1) (by simpa using x2) (by simpa using x3)
  refine key.mono ?_
  rintro ev w' ⟨e, n, R', a1, a2, a3, a4⟩
  exact ⟨e, n, R', a1.mono (fun b _ hb => hb.imp And.left id), a2, a3, a4.mono (fun b hb => hb.imp And.left id)⟩
end Go.Proofs.YtdakkmaahgcjfaaDoor
