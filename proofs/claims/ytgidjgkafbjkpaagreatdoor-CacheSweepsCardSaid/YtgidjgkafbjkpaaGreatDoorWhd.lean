/- Wheel: first. -/
import Derived.Test.YtgidjgkafbjkpaaGreatDoorWhc
import Derived.Lib.TrailingZeros
set_option linter.unusedVariables false
set_option linter.unusedSimpArgs false
namespace Go.Proofs.YtgidjgkafbjkpaaGreatDoor
open Go.RowKit

/-- The table of math/bits, as its initialiser lays it. -/
def Tab (w : World) : Prop := ∀ j, j < 64 → w.cell? ⟨0, j, none⟩ = some (.int .u8 (Lib.deBruijn64tab.getD j 0))
theorem Tab.lt {w : World} (h : Tab w) : 0 < w.heap.size := World.block_lt_of_cell? w _ (h 0 (by omega))
theorem Tab.kept {w w' : World} {S : Nat → Prop} (h : Tab w) (hk : Kp S w w') (hn : ¬ S 0) : Tab w' := fun j hj => (hk.cell (p := ⟨0, j, none⟩) h.lt hn).trans (h j hj)
theorem tz64_key (x a : Nat) (hx : x < 18446744073709551616) (hx0 : x ≠ 0) (hlow : x &&& (18446744073709551616 - x) = a) :
    IntKind.u64.wrap (bits BinOp.and IntKind.u64 (x : Int) (IntKind.u64.wrap (-(x : Int))) * 285870213051353865) / 288230376151711744 = ((a * 285870213051353865 % 18446744073709551616 / 288230376151711744 : Nat) : Int) := by
  have e1 : IntKind.u64.wrap (-(x : Int)) = ((18446744073709551616 - x : Nat) : Int) := by rw [IntKind.wrap_u64]; omega
  rw [e1, u64_and_nat x _ hx (by omega), hlow, IntKind.wrap_u64]
  omega
set_option maxHeartbeats 400000 in
theorem ctz_core (x k idx : Nat) (w : World) (hx0 : ((x : Int) == 0) = false)
    (key : IntKind.u64.wrap (bits BinOp.and IntKind.u64 (x : Int) (IntKind.u64.wrap (-(x : Int))) * 285870213051353865) / 288230376151711744 = (idx : Int))
    (hi : idx < 64) (hk : k < 64) (hcell : w.cell? ⟨0, idx, none⟩ = some (.int .u8 k)) :
    Calls Tryz.prog 78 #[.int .u64 x] w fun e w' => e = .returned (.int .i64 k) ∧ w = w' := by
  go_enter Tryz.func78, Tryz.ntmps78
  go_wp2_with (simp only [key])
  go_ret
  exact ⟨rfl, rfl⟩
theorem ctz_any (x : Nat) (hx : x < 18446744073709551616) (hx0 : x ≠ 0) (w : World) (hT : Tab w) :
    Calls Tryz.prog 78 #[.int .u64 x] w fun e w' => e = .returned (.int .i64 (Lib.ctz 64 x)) ∧ w = w' := by
  obtain ⟨hlow, hk⟩ := Lib.lowest_bit 64 x hx0 hx
  obtain ⟨hi, htab⟩ := Lib.deBruijn64_at _ hk
  have hcell := hT _ hi
  rw [htab] at hcell
  exact ctz_core x _ _ w (by simp; omega) (tz64_key x _ hx hx0 hlow) hi hk hcell
theorem ctz_bit (x : Nat) (h0 : x ≠ 0) (h : x < 18446744073709551616) : x.testBit (Lib.ctz 64 x) = true ∧ ∀ i, i < Lib.ctz 64 x → x.testBit i = false := by
  have e : Lib.ctz 64 x = Lib.ctzFrom 64 x := by simp [Lib.ctz, h0]
  obtain ⟨m, hm, hk⟩ := Lib.ctzFrom_spec 64 x (by omega) h
  rw [e]
  generalize Lib.ctzFrom 64 x = c at *
  subst hm
  refine ⟨?_, fun i hi => ?_⟩
  · rw [Nat.mul_comm, Nat.testBit_mul_two_pow]; simp [Nat.testBit_zero]
  · rw [Nat.mul_comm, Nat.testBit_mul_two_pow]; simp; omega
theorem results_tmp4 {fn : Func} {t u v x : Tmp} (h : fn.results = #[.tmp t, .tmp u, .tmp v, .tmp x]) (tmps : Array Value) (P : Program) (w : World) :
    (results fn tmps).run P w = .ok (.tuple #[tmps.getD t undef, tmps.getD u undef, tmps.getD v undef, tmps.getD x undef]) w := by
  simp [results, h]
theorem First.ctz {full : Nat → Nat} {k j : Nat} (h : First full k j) (hl : full k < 2 ^ 64) : full k ≠ 0 ∧ Lib.ctz 64 (full k) = j := by
  have h0 : full k ≠ 0 := fun e => by have := h.bit; rw [e] at this; simp at this
  obtain ⟨h1, h2⟩ := ctz_bit (full k) h0 hl
  refine ⟨h0, ?_⟩
  rcases Nat.lt_trichotomy (Lib.ctz 64 (full k)) j with hlt | rfl | hgt
  · rw [h.least _ hlt] at h1; cases h1
  · rfl
  · have := h2 j hgt; rw [h.bit] at this; cases this
theorem from_bits {now k j : Nat} (hn : now ≤ TOP) (hk : k < 11) (hj : j < 64) (hf : fromOf now k j ≤ TOP) :
    bits BinOp.or IntKind.u64 (IntKind.u64.wrap ((now : Int) / 2 ^ min (6 * (k + 1)) 64 * 2 ^ min (6 * (k + 1)) 64)) (IntKind.u64.wrap ((j : Int) * 2 ^ (6 * k))) = ((fromOf now k j : Nat) : Int) := by
  unfold TOP at hn hf
  have p1 : (64 : Nat) ^ (k + 1) = 2 ^ (6 * (k + 1)) := by rw [Nat.pow_mul]
  have p2 : (64 : Nat) ^ k = 2 ^ (6 * k) := by rw [Nat.pow_mul]
  have hA : now / 2 ^ min (6 * (k + 1)) 64 * 2 ^ min (6 * (k + 1)) 64 = now / 2 ^ (6 * (k + 1)) * 2 ^ (6 * (k + 1)) := by
    rcases Nat.lt_or_ge (6 * (k + 1)) 65 with h | h
    · rw [Nat.min_eq_left (by omega)]
    · have h2 : now < 2 ^ 64 := by omega
      have h3 : (2 : Nat) ^ 64 ≤ 2 ^ (6 * (k + 1)) := Nat.pow_le_pow_right (by omega) (by omega)
      rw [Nat.min_eq_right (by omega), Nat.div_eq_of_lt h2, Nat.div_eq_of_lt (Nat.lt_of_lt_of_le h2 h3)]
      simp
  have e1 : (now : Int) / 2 ^ min (6 * (k + 1)) 64 * 2 ^ min (6 * (k + 1)) 64 = ((now / 2 ^ (6 * (k + 1)) * 2 ^ (6 * (k + 1)) : Nat) : Int) := by
    rw [← hA]; simp
  have e2 : (j : Int) * 2 ^ (6 * k) = ((j * 2 ^ (6 * k) : Nat) : Int) := by simp
  unfold fromOf at hf ⊢
  rw [p1, p2] at hf ⊢
  rw [e1, e2]
  have hB : j * 2 ^ (6 * k) < 2 ^ (6 * (k + 1)) := by
    rw [show 6 * (k + 1) = 6 * k + 6 by omega, Nat.pow_add, Nat.mul_comm]
    exact Nat.mul_lt_mul_of_pos_left (by omega) (Nat.pow_pos (by omega))
  have hor := Nat.two_pow_add_eq_or_of_lt hB (now / 2 ^ (6 * (k + 1)))
  rw [Nat.mul_comm] at hor
  generalize now / 2 ^ (6 * (k + 1)) * 2 ^ (6 * (k + 1)) = A at *
  generalize j * 2 ^ (6 * k) = B at *
  have wA : IntKind.u64.wrap (A : Int) = (A : Int) := by show (A : Int) % 18446744073709551616 = _; omega
  have wB : IntKind.u64.wrap (B : Int) = (B : Int) := by show (B : Int) % 18446744073709551616 = _; omega
  rw [wA, wB, u64_or_nat A B (by omega) (by omega), ← hor]
set_option maxRecDepth 1000000 in
set_option maxHeartbeats 8000000 in
theorem first_some (g now k j : Nat) (s : WS) (w : World) (h : WM w g now s) (inv : Inv now s.tm.L s.ov.L s.sls s.full (fun _ => False)) (hT : Tab w) (hf : First s.full k j) :
    Calls Tryz.prog 66 #[.pointer (some ⟨g, 0, none⟩)] w fun ev w' => ev = .returned (.tuple #[.int .i64 k, .int .i64 j, .int .u64 (fromOf now k j), .bool true]) ∧ ∃ n, w' = w.drewN n := by
  obtain ⟨i0, d0, hg0, ha0, ht0⟩ := inv.first_at hf
  have hk := ha0.lt11 inv.now_le ht0
  have hj := hf.jlt
  obtain ⟨hne, hctz⟩ := hf.ctz (inv.full_lt k)
  have hc : ∀ i, i < 11 → w.cell? ⟨g, 2 + i * 65 + 64, none⟩ = some (.int .u64 (s.full i)) := fun i hi => (h.bk.cell _).trans (WC_full _ _ _ _ _ hi)
  have c0 : w.cell? ⟨g, 0, none⟩ = some (.int .u64 now) := (h.bk.cell _).trans (WC_now ..)
  have hct := ctz_any (s.full k) (inv.full_lt k) hne w hT
  rw [hctz] at hct
  have HC := Lib.hid hc
  have HF := Lib.hid hf
  have HT := Lib.hid hct
  have HN := Lib.hid hne
  have HFB := Lib.hid (from_bits inv.now_le hk hj (Nat.le_trans ha0.from.1 ht0))
  have I := Lib.hid inv
  clear h inv hT hc hct hctz hf hg0 ha0
  go_enter Tryz.func66, Tryz.ntmps66
  go_wp2_with fail
  go_loop [10] (fun v => ∃ i : Nat, v = .int .i64 i ∧ i ≤ k) (fun v => 20 - (intOf v).toNat)
  case atStart => exact ⟨0, rfl, by omega⟩
  case round =>
    obtain ⟨i, rfl, hi⟩ := hrel
    have ci := HC.out i (by omega)
    have i1 : (0 : Int) ≤ (i : Int) := by omega
    have i2 : (i : Int) < 11 := by omega
    by_cases hlt : i < k
    · have h0 := HF.out.low i hlt
      replace ci : w.cell? ⟨g, 2 + i * 65 + 64, none⟩ = some (.int .u64 0) := by rw [ci, h0]; rfl
      clear h0
      go_wp2_with fail
      exact ⟨⟨i + 1, by simp, by omega⟩, by simp [intOf]; omega⟩
    · obtain rfl : i = k := by omega
      have hs1 : (0 : Int) ≤ 6 * ((i : Int) + 1) := by omega
      have hs2 : (0 : Int) ≤ 6 * (i : Int) := by omega
      have hs3 : ¬ (6 * ((i : Int) + 1) < 0) := by omega
      have hs4 : ¬ (6 * (i : Int) < 0) := by omega
      have h0 : (((s.full i : Nat) : Int) == 0) = false := by have := HN.out; simp only [beq_eq_false_iff_ne]; omega
      go_wp2_with fail
      refine HT.out.mono ?_
      rintro ev w1 ⟨rfl, rfl⟩
      go_wp2_with fail
      go_quiet (fail)
      go_wp2_with fail
      rw [HFB.out]
      exact bodyPost_ret (results_tmp4 rfl _ _ _) rfl ⟨rfl, _, rfl⟩
set_option maxRecDepth 1000000 in
set_option maxHeartbeats 8000000 in
theorem first_none (g now : Nat) (s : WS) (w : World) (h : WM w g now s) (hz : ∀ k, k < 11 → s.full k = 0) :
    Calls Tryz.prog 66 #[.pointer (some ⟨g, 0, none⟩)] w fun ev w' => ev = .returned (.tuple #[.int .i64 0, .int .i64 0, .int .u64 0, .bool false]) ∧ ∃ n, w' = w.drewN n := by
  have hc : ∀ i, i < 11 → w.cell? ⟨g, 2 + i * 65 + 64, none⟩ = some (.int .u64 0) := fun i hi => ((h.bk.cell _).trans (WC_full _ _ _ _ _ hi)).trans (by rw [hz i hi]; rfl)
  have HC := Lib.hid hc
  clear h hz hc
  go_enter Tryz.func66, Tryz.ntmps66
  go_wp2_with fail
  go_loop [10] (fun v => ∃ i : Nat, v = .int .i64 i ∧ i ≤ 11) (fun v => 20 - (intOf v).toNat)
  case atStart => exact ⟨0, rfl, by omega⟩
  case round =>
    obtain ⟨i, rfl, hi⟩ := hrel
    have i1 : (0 : Int) ≤ (i : Int) := by omega
    by_cases hlt : i < 11
    · have ci := HC.out i (by omega)
      have i2 : (i : Int) < 11 := by omega
      go_wp2_with fail
      exact ⟨⟨i + 1, by simp, by omega⟩, by simp [intOf]; omega⟩
    · obtain rfl : i = 11 := by omega
      go_wp2_with fail
      exact bodyPost_ret (results_tmp4 rfl _ _ _) rfl ⟨rfl, 0, rfl⟩
end Go.Proofs.YtgidjgkafbjkpaaGreatDoor
