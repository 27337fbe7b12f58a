/- The walks of a range's inner functions that call: lay, free. -/
import Derived.Test.YtconpcnmccmbiaaDoorPa
namespace Go.Proofs.YtconpcnmccmbiaaDoor
open Go.RowKit

/-- A range's own cells, for a walk. -/
theorem Raw.cells {w : World} {g gw l m mk lf : Nat} {ws : Nat → Nat} (h : Raw w g gw l m mk lf ws) :
    w.cell? ⟨g, 0, none⟩ = some (.int .i64 l) ∧ w.cell? ⟨g, 1, none⟩ = some (.int .i64 m) ∧ w.cell? ⟨g, 2, none⟩ = some (.int .i64 mk) ∧ w.cell? ⟨g, 3, none⟩ = some (.int .i64 lf) ∧
    w.frozen? ⟨g, 2, none⟩ = false ∧ w.frozen? ⟨g, 3, none⟩ = false ∧ 1 ≤ m ∧ 1 ≤ l ∧ l + m ≤ 65536 ∧ mk ≤ 65535 ∧ lf ≤ m := by
  obtain ⟨n, c, cs, h1, h2, h3, h4, h5, h6, h7, h8⟩ := h
  exact ⟨by rw [h1.cell 0]; rfl, by rw [h1.cell 1]; rfl, by rw [h1.cell 2]; rfl, by rw [h1.cell 3]; rfl, h1.frozen 2, h1.frozen 3, h8⟩
theorem Raw.put_left {w : World} {g gw l m mk lf : Nat} {ws : Nat → Nat} (h : Raw w g gw l m mk lf ws) (x : Nat) (hx : x ≤ m) : Raw (w.setCell ⟨g, 3, none⟩ (.int .i64 (x : Int))) g gw l m mk x ws := by
  have hne := h.ne
  obtain ⟨n, c, cs, h1, h2, h3, h4, h5, h6, h7, h8, h9, h10, h11, h12⟩ := h
  exact ⟨n, c, cs, by simpa using h1.put 3 (.int .i64 (x : Int)), h2.far (p := ⟨g, 3, none⟩) hne.symm _, h3, h4, h5, h6, h7, h8, h9, h10, h11, hx⟩
theorem Raw.put_mark {w : World} {g gw l m mk lf : Nat} {ws : Nat → Nat} (h : Raw w g gw l m mk lf ws) (x : Nat) (hx : x ≤ 65535) : Raw (w.setCell ⟨g, 2, none⟩ (.int .i64 (x : Int))) g gw l m x lf ws := by
  have hne := h.ne
  obtain ⟨n, c, cs, h1, h2, h3, h4, h5, h6, h7, h8, h9, h10, h11, h12⟩ := h
  exact ⟨n, c, cs, by simpa using h1.put 2 (.int .i64 (x : Int)), h2.far (p := ⟨g, 2, none⟩) hne.symm _, h3, h4, h5, h6, h7, h8, h9, h10, hx, h12⟩
theorem Raw.drewN {w : World} {g gw l m mk lf : Nat} {ws : Nat → Nat} (h : Raw w g gw l m mk lf ws) (n : Nat) : Raw (w.drewN n) g gw l m mk lf ws := h
theorem Raw.lt {w : World} {g gw l m mk lf : Nat} {ws : Nat → Nat} (h : Raw w g gw l m mk lf ws) : g < w.heap.size ∧ gw < w.heap.size := by
  obtain ⟨n, c, cs, h1, h2, r⟩ := h
  exact ⟨h1.lt, h2.lt⟩

set_option maxHeartbeats 400000 in
theorem lay_any (g gw l m mk lf : Nat) (ws : Nat → Nat) (a : Int) (w : World) (h : Raw w g gw l m mk lf ws) (h0 : 0 ≤ a) (ha : a < m) (hl : 1 ≤ lf) :
    Calls Tryd.prog 63 #[.pointer (some ⟨g, 0, none⟩), .int .i64 a] w fun e w' => e = .returned (.int .i64 (a + l)) ∧ Raw w' g gw l m mk (lf - 1) (flipW ws a.toNat) ∧ Kp (fun b => b = g ∨ b = gw) w w' := by
  obtain ⟨_, _, _, _, _, _, b1, b2, b3, b4, b5⟩ := h.cells
  go_enter Tryd.func63, Tryd.ntmps63
  go_wp2_with fail
  refine (flip_any g gw l m mk lf ws a _ h h0 (by omega) (fun n h1 h2 => by omega)).mono ?_
  rintro e w1 ⟨rfl, hr, hk⟩
  obtain ⟨c0, c1, c2, c3, f2, f3, _⟩ := hr.cells
  go_wp2
  go_ret
  refine ⟨ret_int rfl, ?_, ?_⟩
  · rw [show ((lf : Int) - 1) = ((lf - 1 : Nat) : Int) from by omega]
    exact hr.put_left _ (by omega)
  · exact Kp.setCell (hk.mono (fun k hk => .inr hk)) (p := ⟨g, 3, none⟩) (.inl (.inl rfl)) _

/-! ### free: the first free place from one on -/
theorem ctz_bit (x : Nat) (h0 : x ≠ 0) (h : x < 18446744073709551616) : x.testBit (Lib.ctz 64 x) = true ∧ ∀ i, i < Lib.ctz 64 x → x.testBit i = false := by
  have e : Lib.ctz 64 x = Lib.ctzFrom 64 x := by simp [Lib.ctz, h0]
  obtain ⟨m, hm, hk⟩ := Lib.ctzFrom_spec 64 x (by omega) h
  rw [e]
  generalize Lib.ctzFrom 64 x = c at *
  subst hm
  refine ⟨?_, fun i hi => ?_⟩
  · rw [Nat.mul_comm, Nat.testBit_mul_two_pow]; simp [Nat.testBit_zero]
  · rw [Nat.mul_comm, Nat.testBit_mul_two_pow]; simp; omega
/-- The open places of a word, from bit i on. -/
def openW (x i : Nat) : Nat := (18446744073709551615 - x) &&& (18446744073709551615 - (2 ^ i - 1))
theorem testBit_openW (x i j : Nat) (hx : x < 18446744073709551616) (hi : i < 64) : (openW x i).testBit j = (decide (j < 64) && decide (i ≤ j) && !x.testBit j) := by
  unfold openW
  have h1 : 18446744073709551615 - x = 2 ^ 64 - (x + 1) := by omega
  have h2 : 2 ^ i - 1 < 2 ^ 64 := by
    have : 2 ^ i < 2 ^ 64 := Nat.pow_lt_pow_right (by omega) hi
    omega
  have h3 : 18446744073709551615 - (2 ^ i - 1) = 2 ^ 64 - ((2 ^ i - 1) + 1) := by
    generalize 2 ^ i - 1 = z at h2; omega
  rw [h1, h3, Nat.testBit_and, Nat.testBit_two_pow_sub_succ hx, Nat.testBit_two_pow_sub_succ h2, Nat.testBit_two_pow_sub_one]
  cases x.testBit j <;> by_cases hj : j < 64 <;> by_cases hij : i ≤ j <;> simp [hj, hij] <;> omega
theorem openW_lt (x i : Nat) : openW x i < 18446744073709551616 :=
  Nat.lt_of_le_of_lt Nat.and_le_left (by omega)
theorem openW_zero (x i : Nat) (hx : x < 18446744073709551616) (hi : i < 64) (h : openW x i = 0) : ∀ j, i ≤ j → j < 64 → x.testBit j = true := by
  intro j h1 h2
  have := testBit_openW x i j hx hi
  rw [h] at this
  simp [h1, h2] at this
  exact this
theorem openW_first (x i : Nat) (hx : x < 18446744073709551616) (hi : i < 64) (h : openW x i ≠ 0) :
    i ≤ Lib.ctz 64 (openW x i) ∧ Lib.ctz 64 (openW x i) < 64 ∧ x.testBit (Lib.ctz 64 (openW x i)) = false ∧ ∀ j, i ≤ j → j < Lib.ctz 64 (openW x i) → x.testBit j = true := by
  obtain ⟨h1, h2⟩ := ctz_bit _ h (openW_lt x i)
  rw [testBit_openW x i _ hx hi] at h1
  simp at h1
  refine ⟨h1.1.2, h1.1.1, h1.2, fun j hj hk => ?_⟩
  have := h2 j hk
  rw [testBit_openW x i _ hx hi] at this
  have hj64 : j < 64 := by omega
  simp [hj, hj64] at this
  exact this
end Go.Proofs.YtconpcnmccmbiaaDoor
