/- The walk of a range's free. -/
import Derived.Test.YtconpcnmccmbiaaDoorPb
namespace Go.Proofs.YtconpcnmccmbiaaDoor
open Go.RowKit

/-- What free tells. -/
def FreeIs (T : Nat → Bool) (a N : Nat) (r : Int) : Prop := (∃ k : Nat, r = k ∧ First T a N k) ∨ r = -1 ∧ Full T a N

theorem neg_val (x : Nat) (hx : x < 18446744073709551616) : bits BinOp.xor IntKind.u64 (if IntKind.u64.signed = true then -1 else IntKind.u64.max) (x : Int) = ((openW x 0 : Nat) : Int) := by
  have e : (if IntKind.u64.signed = true then (-1 : Int) else IntKind.u64.max) = ((18446744073709551615 : Nat) : Int) := by decide
  rw [e, u64_xor_nat _ _ (by omega) hx]
  congr 1
  apply Nat.eq_of_testBit_eq
  intro i
  rw [testBit_openW x 0 i hx (by omega), Nat.testBit_xor, show 18446744073709551615 = 2 ^ 64 - 1 from rfl, Nat.testBit_two_pow_sub_one]
  by_cases hi : i < 64
  · simp [hi]
  · have : x.testBit i = false := by
      cases h : x.testBit i with
      | false => rfl
      | true => exact absurd (testBit_lt x i hx h) hi
    simp [hi, this]
theorem open_val (x i : Nat) (hx : x < 18446744073709551616) (hi : i < 64) : bits BinOp.and IntKind.u64 ((openW x 0 : Nat) : Int) (IntKind.u64.wrap (18446744073709551615 * 2 ^ i)) = ((openW x i : Nat) : Int) := by
  have h2 : 2 ^ i < 2 ^ 64 := Nat.pow_lt_pow_right (by omega) hi
  have hp : 0 < 2 ^ i := Nat.pow_pos (by omega)
  have e : IntKind.u64.wrap (18446744073709551615 * 2 ^ i) = ((18446744073709551615 - (2 ^ i - 1) : Nat) : Int) := by
    have e2 : (18446744073709551615 * 2 ^ i : Int) = 18446744073709551615 * ((2 ^ i : Nat) : Int) := by simp
    rw [IntKind.wrap_u64, e2]
    have h3 : 2 ^ i < 18446744073709551616 := h2
    generalize 2 ^ i = z at h3 hp
    omega
  rw [e, u64_and_nat _ _ (openW_lt x 0) (by omega)]
  congr 1
  unfold openW
  rw [show (18446744073709551615 - (2 ^ 0 - 1)) = 2 ^ 64 - 1 from rfl, Nat.and_two_pow_sub_one_eq_mod, Nat.mod_eq_of_lt (by omega)]

set_option maxHeartbeats 1000000 in
theorem free_any (g gw l m mk lf : Nat) (ws : Nat → Nat) (a : Int) (w : World) (h : Raw w g gw l m mk lf ws) (hT : Tab w) (h0 : 0 ≤ a) (ha : a < m) :
    Calls Tryd.prog 64 #[.pointer (some ⟨g, 0, none⟩), .int .i64 a] w fun e w' => ∃ r, e = .returned (.int .i64 r) ∧ FreeIs (bit ws) a.toNat (64 * ((m + 63) / 64)) r ∧ w = w' := by
  obtain ⟨k, rfl⟩ := Int.eq_ofNat_of_zero_le h0
  obtain ⟨n, c, cs, h1, h2, h3, h4, h5, h6, h7, h8, h9, h10, h11⟩ := h
  have hn : (m + 63) / 64 = n := by omega
  have c4 := h1.cell 4
  simp at c4
  have hcell : ∀ j, j < n → w.cell? ⟨gw, j, none⟩ = some (.int .u64 (ws j)) := fun j hj => (h2.cell j).trans (h4 j hj)
  have hk1 : (0 : Int) ≤ (k : Int) / 64 := by omega
  have hk2 : (k : Int) / 64 < (n : Int) := by omega
  have hk3 : (0 : Int) ≤ (k : Int) % 64 := by omega
  have hk4 : (k : Int) % 64 < 64 := by omega
  have hn2 : n ≤ 65536 := by omega
  have Hn := Lib.hid hn
  have Hcell := Lib.hid hcell
  have Hws := Lib.hid h5
  have HT := Lib.hid hT
  clear hn hcell h5 hT h1 h2 h3 h4
  go_enter Tryd.func64, Tryd.ntmps64
  go_wp2
  go_loop [5] (fun v => ∃ j : Nat, v = .int .i64 j ∧ k / 64 ≤ j ∧ j ≤ n ∧ ∀ p, k ≤ p → p < 64 * j → bit ws p = true) (fun v => n - (intOf v).toNat)
  case atStart => exact ⟨k / 64, by go_num, by omega, by omega, fun p h1 h2 => by omega⟩
  case round =>
    obtain ⟨j, rfl, hj1, hj2, hj3⟩ := hrel
    have Hj3 := Lib.hid hj3
    clear hj3
    by_cases hlt : j < n
    · have hc := Hcell.out j hlt
      have hx := Hws.out j
      have hj5 : (0 : Int) ≤ (j : Int) := by omega
      have hj6 : (j : Int) < (n : Int) := by omega
      by_cases he : j = k / 64
      · have he2 : (k : Int) / 64 = (j : Int) := by omega
        have He := Lib.hid he
        have hv1 := neg_val (ws j) hx
        have hv2 := open_val (ws j) (k % 64) hx (by omega)
        by_cases ho : openW (ws j) (k % 64) = 0
        · have ho2 : (((openW (ws j) (k % 64) : Nat) : Int) != 0) = false := by simp; exact ho
          have Ho := Lib.hid ho
          clear he hk1 hk2 hj1 ho
          go_wp2_with fail
          go_round
          case rel => exact ⟨j + 1, by go_num, by have := He.out; omega, by omega, by
            intro p h1 h2
            by_cases hp : p < 64 * j
            · exact Hj3.out p h1 hp
            · have := openW_zero _ _ hx (by omega) Ho.out (p % 64) (by have := He.out; omega) (by omega)
              unfold bit; rw [show p / 64 = j from by omega]; exact this⟩
          case measure => simp [intOf]; omega
        · have ho2 : (((openW (ws j) (k % 64) : Nat) : Int) != 0) = true := by simp; exact ho
          have Ho := Lib.hid ho
          have hct := ctz_any _ (openW_lt (ws j) (k % 64)) ho w HT.out
          have Hct := Lib.hid hct
          have hcl := (openW_first _ _ hx (by omega) ho).2.1
          clear he hk1 hk2 hj1 ho hct
          go_wp2_with fail
          refine Hct.out.mono ?_
          rintro e w1 ⟨rfl, rfl⟩
          go_wp2
          go_ret
          refine ⟨_, rfl, .inl ⟨64 * j + Lib.ctz 64 (openW (ws j) (k % 64)), by omega, ?_⟩, rfl⟩
          rw [Hn.out]
          obtain ⟨f1, f2, f3, f4⟩ := openW_first _ _ hx (show k % 64 < 64 by omega) Ho.out
          have he := He.out
          generalize Lib.ctz 64 (openW (ws j) (k % 64)) = z at f1 f2 f3 f4
          refine ⟨by simp; omega, by omega, ?_, ?_⟩
          · unfold bit; rw [show (64 * j + z) / 64 = j from by omega, show (64 * j + z) % 64 = z from by omega]; exact f3
          · intro p h1 h2
            have h1' : k ≤ p := by simpa using h1
            by_cases hp : p < 64 * j
            · exact Hj3.out p h1' hp
            · unfold bit; rw [show p / 64 = j from by omega]; exact f4 _ (by omega) (by omega)
      · have he2 : ((j : Int) == (k : Int) / 64) = false := by simp; omega
        have he3 : k / 64 + 1 ≤ j := by omega
        have He := Lib.hid he
        have hv1 := neg_val (ws j) hx
        by_cases ho : openW (ws j) 0 = 0
        · have ho2 : (((openW (ws j) 0 : Nat) : Int) != 0) = false := by simp; exact ho
          have Ho := Lib.hid ho
          clear he ho
          go_wp2_with fail
          go_round
          case rel => exact ⟨j + 1, by go_num, by omega, by omega, by
            intro p h1 h2
            by_cases hp : p < 64 * j
            · exact Hj3.out p h1 hp
            · have := openW_zero _ _ hx (by omega) Ho.out (p % 64) (by omega) (by omega)
              unfold bit; rw [show p / 64 = j from by omega]; exact this⟩
          case measure => simp [intOf]; omega
        · have ho2 : (((openW (ws j) 0 : Nat) : Int) != 0) = true := by simp; exact ho
          have Ho := Lib.hid ho
          have hct := ctz_any _ (openW_lt (ws j) 0) ho w HT.out
          have Hct := Lib.hid hct
          have hcl := (openW_first _ _ hx (by omega) ho).2.1
          clear he ho hct
          go_wp2_with fail
          refine Hct.out.mono ?_
          rintro e w1 ⟨rfl, rfl⟩
          go_wp2
          go_ret
          refine ⟨_, rfl, .inl ⟨64 * j + Lib.ctz 64 (openW (ws j) 0), by omega, ?_⟩, rfl⟩
          rw [Hn.out]
          obtain ⟨f1, f2, f3, f4⟩ := openW_first _ _ hx (show 0 < 64 by omega) Ho.out
          generalize Lib.ctz 64 (openW (ws j) 0) = z at f1 f2 f3 f4
          refine ⟨by simp; omega, by omega, ?_, ?_⟩
          · unfold bit; rw [show (64 * j + z) / 64 = j from by omega, show (64 * j + z) % 64 = z from by omega]; exact f3
          · intro p h1 h2
            have h1' : k ≤ p := by simpa using h1
            by_cases hp : p < 64 * j
            · exact Hj3.out p h1' hp
            · unfold bit; rw [show p / 64 = j from by omega]; exact f4 _ (by omega) (by omega)
    · go_wp2
      go_ret
      refine ⟨_, rfl, .inr ⟨rfl, ?_⟩, rfl⟩
      rw [Hn.out]
      intro p h1 h2
      exact Hj3.out p (by simpa using h1) (by omega)
end Go.Proofs.YtconpcnmccmbiaaDoor
