/- Wheel: where a timer hangs (the program's where). -/
import Derived.Test.YtgidjgkafbjkpaaGreatDoorWmem
import Derived.Test.YtgidjgkafbjkpaaGreatDoorWsh
import Derived.Laws.BitsAllLaws
import Derived.Laws.ShiftsVar
import Derived.Laws.Bits64b
import Derived.Lib.ItoaNum
import Derived.LoopTactic
import Derived.Deep.QuietTactic
import Derived.BigQuiet
import Derived.OwnWalk
import Derived.IntWalk
import Derived.Laws.Rows
set_option linter.unusedVariables false
set_option linter.unusedSimpArgs false
namespace Go.Proofs.YtgidjgkafbjkpaaGreatDoor
open Go.RowKit

theorem hi75 : (Tryz.prog.info? 118).map (·.size) = some 3 := by kernel_rfl
set_option maxRecDepth 100000 in
set_option maxHeartbeats 1000000 in
theorem where_over (g now d : Nat) (w : World) (hc : w.cell? ⟨g, 0, none⟩ = some (.int .u64 now)) (h : d ≤ now) :
    Calls Tryz.prog 65 #[.pointer (some ⟨g, 0, none⟩), .int .u64 d] w fun ev w' => ev = .returned (spotV d .over) ∧ Kp (fun _ => False) w w' := by
  have hd : ((d : Int) ≤ (now : Int)) := by omega
  have kA := (Kp.refl (fun _ => False) w).alloc (.cells #[.int .u64 0, .int .i64 0, .int .i64 0] 118)
  have hc1 := (kA.cell (p := ⟨g, 0, none⟩) (World.block_lt_of_cell? w _ hc) (fun f => f)).trans hc
  have HB := Lib.hid (Bk.new w 118 #[.int .u64 d, .int .i64 (-1), .int .i64 0])
  clear kA hc
  go_enter Tryz.func65, Tryz.ntmps65
  go_wp2_with fail
  refine bodyPost_ret (results_cell_row rfl _ _ w.heap.size 118 #[.int .u64 d, .int .i64 (-1), .int .i64 0] (0, 0) _ rfl HB.out Tryz.underlying118 rfl hi75) rfl ?_
  exact ⟨rfl, (Kp.refl _ _).alloc _⟩
theorem len_at {now d k j : Nat} (h : At now d k j) (hn : now ≤ TOP) (hd : d ≤ TOP) : 6 * k + 1 ≤ Lib.bitLen (d ^^^ now) ∧ Lib.bitLen (d ^^^ now) ≤ 6 * k + 6 ∧ d ^^^ now < 18446744073709551616 := by
  obtain ⟨h1, h2⟩ := h.xor
  have hk := h.lt11 hn hd
  have hlt : d ^^^ now < 2 ^ 64 := Nat.xor_lt_two_pow (Nat.lt_of_le_of_lt hd (by decide)) (Nat.lt_of_le_of_lt hn (by decide))
  have hne : d ^^^ now ≠ 0 := by have := p64 k; omega
  obtain ⟨h3, h4, h5⟩ := Lib.bitLenAux_bounds 64 (d ^^^ now) hlt hne
  have e : ∀ m, 64 ^ m = 2 ^ (6 * m) := fun m => by rw [Nat.pow_mul]
  rw [e] at h1 h2
  refine ⟨?_, ?_, hlt⟩
  · have : 6 * k < Lib.bitLen (d ^^^ now) := (Nat.pow_lt_pow_iff_right (a := 2) (by omega)).1 (Nat.lt_of_le_of_lt h1 h5)
    omega
  · have : Lib.bitLen (d ^^^ now) - 1 < 6 * (k + 1) := (Nat.pow_lt_pow_iff_right (a := 2) (by omega)).1 (Nat.lt_of_le_of_lt h4 h2)
    omega
set_option maxRecDepth 100000 in
set_option maxHeartbeats 1000000 in
theorem where_slot (g now d k j : Nat) (w : World) (hc : w.cell? ⟨g, 0, none⟩ = some (.int .u64 now)) (h : At now d k j) (hn : now ≤ TOP) (hd : d ≤ TOP) :
    Calls Tryz.prog 65 #[.pointer (some ⟨g, 0, none⟩), .int .u64 d] w fun ev w' => ev = .returned (spotV d (.slot k j)) ∧ Kp (fun _ => False) w w' := by
  have hl : ¬ ((d : Int) ≤ (now : Int)) := by have := h.lt; omega
  have kA := (Kp.refl (fun _ => False) w).alloc (.cells #[.int .u64 0, .int .i64 0, .int .i64 0] 118)
  have hc1 := (kA.cell (p := ⟨g, 0, none⟩) (World.block_lt_of_cell? w _ hc) (fun f => f)).trans hc
  obtain ⟨l1, l2, l3⟩ := len_at h hn hd
  have hk := h.lt11 hn hd
  have hd9 : d < 18446744073709551616 := Nat.lt_of_le_of_lt hd (by decide)
  have hx : bits .xor .u64 (d : Int) (now : Int) = ((d ^^^ now : Nat) : Int) := u64_xor_nat d now hd9 (Nat.lt_of_le_of_lt hn (by decide))
  obtain ⟨x, hxx⟩ : ∃ x, d ^^^ now = x := ⟨_, rfl⟩
  rw [hxx] at hx l1 l2 l3
  have hlen := Tryz.bits_Len64 (x : Int) (w.alloc (.cells #[.int .u64 0, .int .i64 0, .int .i64 0] 118)) (by omega) (by omega)
  rw [Int.toNat_natCast] at hlen
  obtain ⟨l, hll⟩ : ∃ l, Lib.bitLen x = l := ⟨_, rfl⟩
  rw [hll] at hlen l1 l2
  have HL := Lib.hid hlen
  have HA := Lib.hid h
  have e1 : IntKind.i64.wrap ((l : Int) - 1) = (l : Int) - 1 := IntWalk.i64_in _ (by omega)
  have e2 : ((l : Int) - 1).tdiv 6 = (k : Int) := by rw [Int.tdiv_eq_ediv_of_nonneg (by omega)]; omega
  have hj := h.slot
  have e3 : bits .and .u64 ((d : Int) / 2 ^ (6 * k)) 63 = (j : Int) := by
    have e0 : (d : Int) / 2 ^ (6 * k) = ((d / 64 ^ k : Nat) : Int) := by
      rw [show (64 : Nat) ^ k = 2 ^ (6 * k) by rw [Nat.pow_mul]]
      simp
    have e1 := u64_and_nat (d / 64 ^ k) 63 (Nat.lt_of_le_of_lt (Nat.div_le_self ..) hd9) (by decide)
    rw [nat_mask6, h.2.2] at e1
    rw [e0]
    exact e1
  have e4 : wrap64 (bits .and .u64 ((d : Int) / 2 ^ (6 * k)) 63) = (j : Int) := by rw [e3]; unfold wrap64; omega
  clear e3 hj
  have HB := Lib.hid (Bk.new w 118 #[.int .u64 d, .int .i64 k, .int .i64 j])
  clear kA hc hlen hxx hll h
  go_enter Tryz.func65, Tryz.ntmps65
  go_wp2_with fail
  refine (HL.out).mono ?_
  rintro ev w1 ⟨rfl, rfl⟩
  go_wp2_with fail
  refine bodyPost_ret (results_cell_row rfl _ _ w.heap.size 118 #[.int .u64 d, .int .i64 k, .int .i64 j] (0, 0) _ rfl HB.out Tryz.underlying118 rfl hi75) rfl ?_
  exact ⟨rfl, (Kp.refl _ _).alloc _⟩
end Go.Proofs.YtgidjgkafbjkpaaGreatDoor
