/- Place: the walks of the subnets' functions. -/
import Derived.Test.YtkafdpidhelfdaaDoorNpl
import Derived.Test.YtkafdpidhelfdaaDoorOwn
import Derived.Test.YtkafdpidhelfdaaDoorProg
import Derived.Lib.Hide
import Derived.Deep.RegionHeld
import Derived.WalkSpells
import Derived.Carry
import Derived.IntWalk
import Derived.Deep.RegionHeld3
import Derived.Laws.BitsAllLaws
set_option linter.unusedVariables false
set_option linter.unusedSimpArgs false
namespace Go.Proofs.YtkafdpidhelfdaaDoor
open Go.RowKit

theorem kp_kc0 {w w' : World} {p : Addr} {v : Value} (h : w.cell? p = some v) (k : Kp (fun _ => False) w w') : w'.cell? p = some v := (k.cell (World.block_lt_of_cell? w _ h) (fun f => f)).trans h
/-- A subnet, as a value. -/
abbrev netV (ip : Nat) (b : Int) : Value := .agg #[.int .u32 (ip : Int), .int .i64 b]
set_option maxRecDepth 1000000 in
set_option maxHeartbeats 8000000 in
theorem bounded_ (ip : Nat) (b : Int) (w : World) : Calls Tryd.prog 37 #[netV ip b] w fun ev w' => ev = .returned (.bool (bnd b)) ∧ Kp (fun _ => False) w w' := by
  have K0 := Lib.hid ((Kp.refl (fun _ => False) w).alloc (.cells #[.int .u32 (ip : Int), .int .i64 b] 24))
  by_cases h1 : 8 ≤ b
  · by_cases h2 : b ≤ 30
    · rw [show bnd b = true by simp [bnd, h1, h2]]
      go_enter Tryd.func37, Tryd.ntmps37
      go_wp2_with fail
      exact bodyPost_ret (results_tmp rfl _ _ _) rfl ⟨rfl, K0.out⟩
    · rw [show bnd b = false by simp [bnd, h2]]
      go_enter Tryd.func37, Tryd.ntmps37
      go_wp2_with fail
      exact bodyPost_ret (results_tmp rfl _ _ _) rfl ⟨rfl, K0.out⟩
  · rw [show bnd b = false by simp [bnd, h1]]
    go_enter Tryd.func37, Tryd.ntmps37
    go_wp2_with fail
    exact bodyPost_ret (results_tmp rfl _ _ _) rfl ⟨rfl, K0.out⟩
theorem shl_mask {s : Nat} (hs : s ≤ 32) : IntKind.u32.wrap (4294967295 * 2 ^ s) = ((4294967296 - 2 ^ s : Nat) : Int) := by
  have hp := pow_le32 hs
  have hq : 0 < 2 ^ s := Nat.pow_pos (by omega)
  rw [show ((2 : Int) ^ s) = ((2 ^ s : Nat) : Int) by simp]
  generalize (2 : Nat) ^ s = n at *
  show (4294967295 * (n : Int)) % 4294967296 = _
  omega
set_option maxRecDepth 1000000 in
set_option maxHeartbeats 8000000 in
theorem mask_ (ip : Nat) (b : Int) (w : World) : Calls Tryd.prog 19 #[netV ip b] w fun ev w' => ev = .returned (.int .u32 ((nmask b : Nat) : Int)) ∧ Kp (fun _ => False) w w' := by
  have K0 := Lib.hid ((Kp.refl (fun _ => False) w).alloc (.cells #[.int .u32 (ip : Int), .int .i64 b] 24))
  have hb0 := Bk.new w 24 #[.int .u32 (ip : Int), .int .i64 b]
  have q0 := hb0.cell 0
  have q1 := hb0.cell 1
  simp only [List.getElem?_toArray, List.getElem?_cons_zero, List.getElem?_cons_succ] at q0 q1
  generalize hW : w.alloc (.cells #[.int .u32 (ip : Int), .int .i64 b] 24) = wb at K0 q0 q1
  have HW := Lib.hid hW
  have C0 := Lib.hid q0
  have C1 := Lib.hid q1
  clear hb0 hW
  by_cases hb : bnd b = true
  · obtain ⟨t, h1, h2, rfl, he⟩ := bnd_nsz hb
    have e : nmask (32 - (t : Int)) = 4294967296 - 2 ^ t := by unfold nmask; rw [if_pos hb, he]
    rw [e]
    have x1 : IntKind.i64.wrap (32 - (32 - (t : Int))) = (t : Int) := by
      rw [show (32 - (32 - (t : Int))) = (t : Int) by omega]
      exact IntWalk.i64_in _ (by omega)
    have x2 : ¬ (t : Int) < 0 := by omega
    have x3 := shl_mask (s := t) (by omega)
    have hB := bounded_ ip (32 - (t : Int)) wb
    rw [hb] at hB
    go_enter Tryd.func19, Tryd.ntmps19
    go_wp2_with fail
    rw [HW.out]
    clear HW
    refine hB.mono ?_
    rintro ev w1 ⟨rfl, k1⟩
    have c1 := kp_kc0 C1.out k1
    go_wp2_with fail
    exact bodyPost_ret (results_tmp rfl _ _ _) rfl ⟨rfl, K0.out.trans' k1⟩
  · have hb' : bnd b = false := by simpa using hb
    have e : nmask b = 0 := by unfold nmask; rw [if_neg hb]
    rw [e]
    have hB := bounded_ ip b wb
    rw [hb'] at hB
    go_enter Tryd.func19, Tryd.ntmps19
    go_wp2_with fail
    rw [HW.out]
    clear HW
    refine hB.mono ?_
    rintro ev w1 ⟨rfl, k1⟩
    go_wp2_with fail
    exact bodyPost_ret (results_tmp rfl _ _ _) rfl ⟨rfl, K0.out.trans' k1⟩
theorem and_nmask {x : Nat} (hx : x < 4294967296) {b : Int} : x &&& nmask b = if bnd b then x / nsz b * nsz b else 0 := by
  unfold nmask
  split
  · rename_i hb
    obtain ⟨t, h1, h2, rfl, he⟩ := bnd_nsz hb
    rw [he, and_mask hx (by omega)]
  · simp
theorem nmask_lt (b : Int) : nmask b < 4294967296 := by
  unfold nmask
  split
  · have := nsz_pos b
    omega
  · omega
set_option maxRecDepth 1000000 in
set_option maxHeartbeats 8000000 in
theorem base_ (ip : Nat) (b : Int) (w : World) (hip : ip < 4294967296) : Calls Tryd.prog 11 #[netV ip b] w fun ev w' => ev = .returned (.int .u32 ((nbase ip b : Nat) : Int)) ∧ Kp (fun _ => False) w w' := by
  have K0 := Lib.hid ((Kp.refl (fun _ => False) w).alloc (.cells #[.int .u32 (ip : Int), .int .i64 b] 24))
  have hb0 := Bk.new w 24 #[.int .u32 (ip : Int), .int .i64 b]
  have q0 := hb0.cell 0
  have q1 := hb0.cell 1
  simp only [List.getElem?_toArray, List.getElem?_cons_zero, List.getElem?_cons_succ] at q0 q1
  generalize hW : w.alloc (.cells #[.int .u32 (ip : Int), .int .i64 b] 24) = wb at K0 q0 q1
  have HW := Lib.hid hW
  have C0 := Lib.hid q0
  have C1 := Lib.hid q1
  clear hb0 hW
  have hA : Go.bits .and .u32 (ip : Int) ((nmask b : Nat) : Int) = ((nbase ip b : Nat) : Int) := by
    rw [u32_and_nat ip (nmask b) hip (nmask_lt b), and_nmask hip]
    rfl
  have HM := Lib.hid (fun W => mask_ ip b W)
  generalize nmask b = m at *
  generalize nbase ip b = r at *
  have KC := Lib.hid ((Kp.refl (fun _ => False) wb).drew)
  clear q0 q1
  go_enter Tryd.func11, Tryd.ntmps11
  go_wp2_with fail
  rw [HW.out]
  clear HW
  refine wp_region_held_drew (S := (fun w' => Kp (fun _ => False) wb w')) (by kernel_rfl) (KC.out) (fun hHeld => ?_)
  refine wpAnyH_take (i := 0) (v := ?v0_0) rfl (by kernel_rfl) (by kernel_rfl) (by kernel_rfl) (fun _ _ _ h => h) (Or.inl ⟨by rfl, ?y0_0⟩) (by assumption) ?r0_0
  case y0_0 => (intro w hSw; (try dsimp only at hSw); go_simp; first | done | with_reducible rfl)
  try simp only [Act.put, List.getElem_toArray, List.getElem_cons_succ, List.getElem_cons_zero, List.setIfInBounds_toArray, List.set_cons_zero, List.set_cons_succ]
  refine wpAnyH_take (i := 1) (v := ?v1_1) rfl (by kernel_rfl) (by kernel_rfl) (by kernel_rfl) (fun _ _ _ h => h) (Or.inl ⟨by rfl, ?y1_1⟩) (by assumption) ?r1_1
  case y1_1 => (intro w hSw; (try dsimp only at hSw); have c0 := kp_kc0 C0.out hSw; go_simp; first | done | with_reducible rfl)
  try simp only [Act.put, List.getElem_toArray, List.getElem_cons_succ, List.getElem_cons_zero, List.setIfInBounds_toArray, List.set_cons_zero, List.set_cons_succ]
  refine wpAnyH_take (i := 2) (v := ?v2_2) rfl (by kernel_rfl) (by kernel_rfl) (by kernel_rfl) (fun _ _ _ h => h) (Or.inl ⟨by rfl, ?y2_2⟩) (by assumption) ?r2_2
  case y2_2 => (intro w hSw; (try dsimp only at hSw); have c0 := kp_kc0 C0.out hSw; have c1 := kp_kc0 C1.out hSw; go_simp; first | done | with_reducible rfl)
  try simp only [Act.put, List.getElem_toArray, List.getElem_cons_succ, List.getElem_cons_zero, List.setIfInBounds_toArray, List.set_cons_zero, List.set_cons_succ]
  refine wpAnyH_ready (rs := [3]) (by kernel_rfl) (by simp) ?_
  refine AllReadyH.cons rfl (fun K hK => ?_) AllReadyH.nil
  go_simp
  with_reducible refine (HM.out _).mono ?_
  rintro ev v3 ⟨rfl, k3⟩
  have KC := Lib.hid (KC.out.trans' k3)
  clear k3
  try dsimp only
  refine hK.out _ _ (KC.out) (fun hHeld => ?_)
  clear hK K
  try simp only [Act.put, List.getElem_toArray, List.getElem_cons_succ, List.getElem_cons_zero, List.setIfInBounds_toArray, List.set_cons_zero, List.set_cons_succ]
  refine wpAnyH_take (i := 4) (v := ?v4_3) rfl (by kernel_rfl) (by kernel_rfl) (by kernel_rfl) (fun _ _ _ h => h) (Or.inl ⟨by rfl, ?y4_3⟩) (by assumption) ?r4_3
  case y4_3 => (intro w hSw; (try dsimp only at hSw); go_simp; first | done | with_reducible rfl)
  try simp only [Act.put, List.getElem_toArray, List.getElem_cons_succ, List.getElem_cons_zero, List.setIfInBounds_toArray, List.set_cons_zero, List.set_cons_succ]
  refine wpAnyH_take (i := 5) (v := ?v5_4) rfl (by kernel_rfl) (by kernel_rfl) (by kernel_rfl) (fun _ _ _ h => h) (Or.inl ⟨by rfl, ?y5_4⟩) (by assumption) ?r5_4
  case y5_4 => (intro w hSw; (try dsimp only at hSw); go_simp; first | done | with_reducible rfl)
  try simp only [Act.put, List.getElem_toArray, List.getElem_cons_succ, List.getElem_cons_zero, List.setIfInBounds_toArray, List.set_cons_zero, List.set_cons_succ]
  refine wpAnyH_done (by kernel_rfl) ?_ _
  go_wp2_with fail
  exact bodyPost_ret (results_tmp rfl _ _ _) rfl ⟨rfl, K0.out.trans' KC.out⟩
theorem xor_mask {t : Nat} (ht : t ≤ 32) : 4294967295 ^^^ (4294967296 - 2 ^ t) = 2 ^ t - 1 := by
  have e : 4294967296 - 2 ^ t = (2 ^ (32 - t) - 1) * 2 ^ t := by
    rw [Nat.sub_mul, ← Nat.pow_add, show 32 - t + t = 32 by omega]; simp
  apply Nat.eq_of_testBit_eq
  intro i
  rw [e, Nat.testBit_xor, Nat.testBit_mul_two_pow, show (4294967295 : Nat) = 2 ^ 32 - 1 by rfl, Nat.testBit_two_pow_sub_one, Nat.testBit_two_pow_sub_one, Nat.testBit_two_pow_sub_one]
  by_cases h1 : i < 32 <;> by_cases h2 : t ≤ i
  · simp [h1, h2, show i - t < 32 - t by omega, show ¬ i < t by omega]
  · simp [h1, h2, show i < t by omega]
  · simp [h1, h2, show ¬ i - t < 32 - t by omega, show ¬ i < t by omega]
  · omega
set_option maxRecDepth 1000000 in
set_option maxHeartbeats 8000000 in
theorem last_ (ip : Nat) (b : Int) (w : World) (hip : ip < 4294967296) : Calls Tryd.prog 13 #[netV ip b] w fun ev w' => ev = .returned (.int .u32 ((nlast ip b : Nat) : Int)) ∧ Kp (fun _ => False) w w' := by
  have K0 := Lib.hid ((Kp.refl (fun _ => False) w).alloc (.cells #[.int .u32 (ip : Int), .int .i64 b] 24))
  have hb0 := Bk.new w 24 #[.int .u32 (ip : Int), .int .i64 b]
  have q0 := hb0.cell 0
  have q1 := hb0.cell 1
  simp only [List.getElem?_toArray, List.getElem?_cons_zero, List.getElem?_cons_succ] at q0 q1
  generalize hW : w.alloc (.cells #[.int .u32 (ip : Int), .int .i64 b] 24) = wb at K0 q0 q1
  have HW := Lib.hid hW
  have C0 := Lib.hid q0
  have C1 := Lib.hid q1
  clear hb0 hW
  by_cases hb : bnd b = true
  · have hA : Go.bits .or .u32 (ip : Int) ((4294967295 - nmask b : Nat) : Int) = ((nlast ip b : Nat) : Int) := by
      obtain ⟨t, h1, h2, rfl, he⟩ := bnd_nsz hb
      have h3 := pow_le32 (s := t) (by omega)
      have h4 : 0 < 2 ^ t := Nat.pow_pos (by omega)
      rw [u32_or_nat ip _ hip (by omega)]
      unfold nmask nlast
      rw [if_pos hb, if_pos hb, he, show 4294967295 - (4294967296 - 2 ^ t) = 2 ^ t - 1 by omega, or_rest]
    have hX : Go.bits .xor .u32 IntKind.u32.max ((nmask b : Nat) : Int) = ((4294967295 - nmask b : Nat) : Int) := by
      rw [show IntKind.u32.max = ((4294967295 : Nat) : Int) by rfl, u32_xor_nat _ _ (by omega) (nmask_lt b)]
      obtain ⟨t, h1, h2, rfl, he⟩ := bnd_nsz hb
      have h3 := pow_le32 (s := t) (by omega)
      have h4 : 0 < 2 ^ t := Nat.pow_pos (by omega)
      have e : nmask (32 - (t : Int)) = 4294967296 - 2 ^ t := by unfold nmask; rw [if_pos hb, he]
      rw [e, xor_mask (by omega)]
      omega
    have hB := bounded_ ip b wb
    rw [hb] at hB
    have HM := Lib.hid (fun W => mask_ ip b W)
    generalize nmask b = m at *
    generalize nlast ip b = r at *
    go_enter Tryd.func13, Tryd.ntmps13
    go_wp2_with fail
    rw [HW.out]
    clear HW
    refine hB.mono ?_
    rintro ev w1 ⟨rfl, k1⟩
    have K1 := Lib.hid (K0.out.trans' k1)
    replace C0 := Lib.hid (kp_kc0 C0.out k1)
    replace C1 := Lib.hid (kp_kc0 C1.out k1)
    have KC := Lib.hid ((Kp.refl (fun _ => False) w1).drew)
    clear k1 q0 q1
    go_wp2_with fail
    refine wp_region_held_drew (S := (fun w' => Kp (fun _ => False) w1 w')) (by kernel_rfl) (KC.out) (fun hHeld => ?_)
    refine wpAnyH_take (i := 0) (v := ?v0_5) rfl (by kernel_rfl) (by kernel_rfl) (by kernel_rfl) (fun _ _ _ h => h) (Or.inl ⟨by rfl, ?y0_5⟩) (by assumption) ?r0_5
    case y0_5 => (intro w hSw; (try dsimp only at hSw); go_simp; first | done | with_reducible rfl)
    try simp only [Act.put, List.getElem_toArray, List.getElem_cons_succ, List.getElem_cons_zero, List.setIfInBounds_toArray, List.set_cons_zero, List.set_cons_succ]
    refine wpAnyH_take (i := 1) (v := ?v1_6) rfl (by kernel_rfl) (by kernel_rfl) (by kernel_rfl) (fun _ _ _ h => h) (Or.inl ⟨by rfl, ?y1_6⟩) (by assumption) ?r1_6
    case y1_6 => (intro w hSw; (try dsimp only at hSw); have c0 := kp_kc0 C0.out hSw; go_simp; first | done | with_reducible rfl)
    try simp only [Act.put, List.getElem_toArray, List.getElem_cons_succ, List.getElem_cons_zero, List.setIfInBounds_toArray, List.set_cons_zero, List.set_cons_succ]
    refine wpAnyH_take (i := 2) (v := ?v2_7) rfl (by kernel_rfl) (by kernel_rfl) (by kernel_rfl) (fun _ _ _ h => h) (Or.inl ⟨by rfl, ?y2_7⟩) (by assumption) ?r2_7
    case y2_7 => (intro w hSw; (try dsimp only at hSw); have c0 := kp_kc0 C0.out hSw; have c1 := kp_kc0 C1.out hSw; go_simp; first | done | with_reducible rfl)
    try simp only [Act.put, List.getElem_toArray, List.getElem_cons_succ, List.getElem_cons_zero, List.setIfInBounds_toArray, List.set_cons_zero, List.set_cons_succ]
    refine wpAnyH_ready (rs := [3]) (by kernel_rfl) (by simp) ?_
    refine AllReadyH.cons rfl (fun K hK => ?_) AllReadyH.nil
    go_simp
    with_reducible refine (HM.out _).mono ?_
    rintro ev v3 ⟨rfl, k3⟩
    have KC := Lib.hid (KC.out.trans' k3)
    clear k3
    try dsimp only
    refine hK.out _ _ (KC.out) (fun hHeld => ?_)
    clear hK K
    try simp only [Act.put, List.getElem_toArray, List.getElem_cons_succ, List.getElem_cons_zero, List.setIfInBounds_toArray, List.set_cons_zero, List.set_cons_succ]
    refine wpAnyH_take (i := 4) (v := ?v4_8) rfl (by kernel_rfl) (by kernel_rfl) (by kernel_rfl) (fun _ _ _ h => h) (Or.inl ⟨by rfl, ?y4_8⟩) (by assumption) ?r4_8
    case y4_8 => (intro w hSw; (try dsimp only at hSw); go_simp; first | done | with_reducible rfl)
    try simp only [Act.put, List.getElem_toArray, List.getElem_cons_succ, List.getElem_cons_zero, List.setIfInBounds_toArray, List.set_cons_zero, List.set_cons_succ]
    refine wpAnyH_take (i := 5) (v := ?v5_9) rfl (by kernel_rfl) (by kernel_rfl) (by kernel_rfl) (fun _ _ _ h => h) (Or.inl ⟨by rfl, ?y5_9⟩) (by assumption) ?r5_9
    case y5_9 => (intro w hSw; (try dsimp only at hSw); go_simp; first | done | with_reducible rfl)
    try simp only [Act.put, List.getElem_toArray, List.getElem_cons_succ, List.getElem_cons_zero, List.setIfInBounds_toArray, List.set_cons_zero, List.set_cons_succ]
    refine wpAnyH_take (i := 6) (v := ?v6_10) rfl (by kernel_rfl) (by kernel_rfl) (by kernel_rfl) (fun _ _ _ h => h) (Or.inl ⟨by rfl, ?y6_10⟩) (by assumption) ?r6_10
    case y6_10 => (intro w hSw; (try dsimp only at hSw); go_simp; first | done | with_reducible rfl)
    try simp only [Act.put, List.getElem_toArray, List.getElem_cons_succ, List.getElem_cons_zero, List.setIfInBounds_toArray, List.set_cons_zero, List.set_cons_succ]
    refine wpAnyH_done (by kernel_rfl) ?_ _
    go_wp2_with fail
    exact bodyPost_ret (results_tmp rfl _ _ _) rfl ⟨rfl, K1.out.trans' KC.out⟩
  · have hb' : bnd b = false := by simpa using hb
    rw [show nlast ip b = 0 by unfold nlast; rw [if_neg hb]]
    have hB := bounded_ ip b wb
    rw [hb'] at hB
    go_enter Tryd.func13, Tryd.ntmps13
    go_wp2_with fail
    rw [HW.out]
    clear HW
    refine hB.mono ?_
    rintro ev w1 ⟨rfl, k1⟩
    go_wp2_with fail
    exact bodyPost_ret (results_tmp rfl _ _ _) rfl ⟨rfl, K0.out.trans' k1⟩
set_option maxRecDepth 1000000 in
set_option maxHeartbeats 8000000 in
theorem has_ (ip x : Nat) (b : Int) (w : World) (hip : ip < 4294967296) (hx : x < 4294967296) : Calls Tryd.prog 15 #[netV ip b, .int .u32 (x : Int)] w fun ev w' => ev = .returned (.bool (nhas ip b x)) ∧ Kp (fun _ => False) w w' := by
  have K0 := Lib.hid ((Kp.refl (fun _ => False) w).alloc (.cells #[.int .u32 (ip : Int), .int .i64 b] 24))
  have hb0 := Bk.new w 24 #[.int .u32 (ip : Int), .int .i64 b]
  have q0 := hb0.cell 0
  have q1 := hb0.cell 1
  simp only [List.getElem?_toArray, List.getElem?_cons_zero, List.getElem?_cons_succ] at q0 q1
  generalize hW : w.alloc (.cells #[.int .u32 (ip : Int), .int .i64 b] 24) = wb at K0 q0 q1
  have HW := Lib.hid hW
  have C0 := Lib.hid q0
  have C1 := Lib.hid q1
  clear hb0 hW
  have KC := Lib.hid ((Kp.refl (fun _ => False) wb).drew)
  clear q0 q1
  by_cases hb : bnd b = true
  · have hA : Go.bits .and .u32 (x : Int) ((nmask b : Nat) : Int) = ((x / nsz b * nsz b : Nat) : Int) := by
      rw [u32_and_nat x (nmask b) hx (nmask_lt b), and_nmask hx, if_pos hb]
    have hE : (((x / nsz b * nsz b : Nat) : Int) == ((nbase ip b : Nat) : Int)) = nhas ip b x := by
      unfold nhas nbase
      simp only [hb, if_true, Bool.true_and]
      rw [Bool.eq_iff_iff, beq_iff_eq, decide_eq_true_eq]
      have hp := nsz_pos b
      constructor
      · intro h
        have h : x / nsz b * nsz b = ip / nsz b * nsz b := by omega
        exact Nat.eq_of_mul_eq_mul_right hp h
      · intro h; rw [h]
    have HB := Lib.hid (fun W => bounded_ ip b W)
    have HM := Lib.hid (fun W => mask_ ip b W)
    have HS := Lib.hid (fun W => base_ ip b W hip)
    rw [hb] at HB
    generalize nhas ip b x = p at *
    generalize nmask b = m at *
    generalize nbase ip b = r at *
    generalize x / nsz b * nsz b = y at *
    go_enter Tryd.func15, Tryd.ntmps15
    go_wp2_with fail
    rw [HW.out]
    clear HW
    refine wp_region_held_drew (S := (fun w' => Kp (fun _ => False) wb w')) (by kernel_rfl) (KC.out) (fun hHeld => ?_)
    refine wpAnyH_take (i := 0) (v := ?v0_11) rfl (by kernel_rfl) (by kernel_rfl) (by kernel_rfl) (fun _ _ _ h => h) (Or.inl ⟨by rfl, ?y0_11⟩) (by assumption) ?r0_11
    case y0_11 => (intro w hSw; (try dsimp only at hSw); have c0 := kp_kc0 C0.out hSw; have c1 := kp_kc0 C1.out hSw; go_simp; first | done | with_reducible rfl)
    try simp only [Act.put, List.getElem_toArray, List.getElem_cons_succ, List.getElem_cons_zero, List.setIfInBounds_toArray, List.set_cons_zero, List.set_cons_succ]
    refine wpAnyH_ready (rs := [1]) (by kernel_rfl) (by simp) ?_
    refine AllReadyH.cons rfl (fun K hK => ?_) AllReadyH.nil
    go_simp
    with_reducible refine (HB.out _).mono ?_
    rintro ev v1 ⟨rfl, k1⟩
    have KC := Lib.hid (KC.out.trans' k1)
    clear k1
    try dsimp only
    refine hK.out _ _ (KC.out) (fun hHeld => ?_)
    clear hK K
    try simp only [Act.put, List.getElem_toArray, List.getElem_cons_succ, List.getElem_cons_zero, List.setIfInBounds_toArray, List.set_cons_zero, List.set_cons_succ]
    refine wpAnyH_take (i := 2) (v := ?v2_12) rfl (by kernel_rfl) (by kernel_rfl) (by kernel_rfl) (fun _ _ _ h => h) (Or.inl ⟨by rfl, ?y2_12⟩) (by assumption) ?r2_12
    case y2_12 => (intro w hSw; (try dsimp only at hSw); go_simp; first | done | with_reducible rfl)
    try simp only [Act.put, List.getElem_toArray, List.getElem_cons_succ, List.getElem_cons_zero, List.setIfInBounds_toArray, List.set_cons_zero, List.set_cons_succ]
    refine wpAnyH_take (i := 3) (v := ?v3_13) rfl (by kernel_rfl) (by kernel_rfl) (by kernel_rfl) (fun _ _ _ h => h) (Or.inl ⟨by rfl, ?y3_13⟩) (by assumption) ?r3_13
    case y3_13 => (intro w hSw; (try dsimp only at hSw); go_simp; first | done | with_reducible rfl)
    try simp only [Act.put, List.getElem_toArray, List.getElem_cons_succ, List.getElem_cons_zero, List.setIfInBounds_toArray, List.set_cons_zero, List.set_cons_succ]
    refine wpAnyH_take (i := 4) (v := ?v4_14) rfl (by kernel_rfl) (by kernel_rfl) (by kernel_rfl) (fun _ _ _ h => h) (Or.inl ⟨by rfl, ?y4_14⟩) (by assumption) ?r4_14
    case y4_14 => (intro w hSw; (try dsimp only at hSw); have c0 := kp_kc0 C0.out hSw; have c1 := kp_kc0 C1.out hSw; go_simp; first | done | with_reducible rfl)
    try simp only [Act.put, List.getElem_toArray, List.getElem_cons_succ, List.getElem_cons_zero, List.setIfInBounds_toArray, List.set_cons_zero, List.set_cons_succ]
    refine wpAnyH_take (i := 7) (v := ?v7_15) rfl (by kernel_rfl) (by kernel_rfl) (by kernel_rfl) (fun _ _ _ h => h) (Or.inl ⟨by rfl, ?y7_15⟩) (by assumption) ?r7_15
    case y7_15 => (intro w hSw; (try dsimp only at hSw); have c0 := kp_kc0 C0.out hSw; have c1 := kp_kc0 C1.out hSw; go_simp; first | done | with_reducible rfl)
    try simp only [Act.put, List.getElem_toArray, List.getElem_cons_succ, List.getElem_cons_zero, List.setIfInBounds_toArray, List.set_cons_zero, List.set_cons_succ]
    refine wpAnyH_ready (rs := [5]) (by kernel_rfl) (by simp) ?_
    refine AllReadyH.cons rfl (fun K hK => ?_) AllReadyH.nil
    go_simp
    with_reducible refine (HM.out _).mono ?_
    rintro ev v5 ⟨rfl, k5⟩
    have KC := Lib.hid (KC.out.trans' k5)
    clear k5
    try dsimp only
    refine hK.out _ _ (KC.out) (fun hHeld => ?_)
    clear hK K
    try simp only [Act.put, List.getElem_toArray, List.getElem_cons_succ, List.getElem_cons_zero, List.setIfInBounds_toArray, List.set_cons_zero, List.set_cons_succ]
    refine wpAnyH_take (i := 6) (v := ?v6_16) rfl (by kernel_rfl) (by kernel_rfl) (by kernel_rfl) (fun _ _ _ h => h) (Or.inl ⟨by rfl, ?y6_16⟩) (by assumption) ?r6_16
    case y6_16 => (intro w hSw; (try dsimp only at hSw); go_simp; first | done | with_reducible rfl)
    try simp only [Act.put, List.getElem_toArray, List.getElem_cons_succ, List.getElem_cons_zero, List.setIfInBounds_toArray, List.set_cons_zero, List.set_cons_succ]
    refine wpAnyH_ready (rs := [8]) (by kernel_rfl) (by simp) ?_
    refine AllReadyH.cons rfl (fun K hK => ?_) AllReadyH.nil
    go_simp
    with_reducible refine (HS.out _).mono ?_
    rintro ev v8 ⟨rfl, k8⟩
    have KC := Lib.hid (KC.out.trans' k8)
    clear k8
    try dsimp only
    refine hK.out _ _ (KC.out) (fun hHeld => ?_)
    clear hK K
    try simp only [Act.put, List.getElem_toArray, List.getElem_cons_succ, List.getElem_cons_zero, List.setIfInBounds_toArray, List.set_cons_zero, List.set_cons_succ]
    refine wpAnyH_take (i := 9) (v := ?v9_17) rfl (by kernel_rfl) (by kernel_rfl) (by kernel_rfl) (fun _ _ _ h => h) (Or.inl ⟨by rfl, ?y9_17⟩) (by assumption) ?r9_17
    case y9_17 => (intro w hSw; (try dsimp only at hSw); go_simp; first | done | with_reducible rfl)
    try simp only [Act.put, List.getElem_toArray, List.getElem_cons_succ, List.getElem_cons_zero, List.setIfInBounds_toArray, List.set_cons_zero, List.set_cons_succ]
    refine wpAnyH_take (i := 10) (v := ?v10_18) rfl (by kernel_rfl) (by kernel_rfl) (by kernel_rfl) (fun _ _ _ h => h) (Or.inl ⟨by rfl, ?y10_18⟩) (by assumption) ?r10_18
    case y10_18 => (intro w hSw; (try dsimp only at hSw); go_simp; first | done | with_reducible rfl)
    try simp only [Act.put, List.getElem_toArray, List.getElem_cons_succ, List.getElem_cons_zero, List.setIfInBounds_toArray, List.set_cons_zero, List.set_cons_succ]
    refine wpAnyH_take (i := 11) (v := ?v11_19) rfl (by kernel_rfl) (by kernel_rfl) (by kernel_rfl) (fun _ _ _ h => h) (Or.inl ⟨by rfl, ?y11_19⟩) (by assumption) ?r11_19
    case y11_19 => (intro w hSw; (try dsimp only at hSw); go_simp; first | done | with_reducible rfl)
    try simp only [Act.put, List.getElem_toArray, List.getElem_cons_succ, List.getElem_cons_zero, List.setIfInBounds_toArray, List.set_cons_zero, List.set_cons_succ]
    refine wpAnyH_done (by kernel_rfl) ?_ _
    go_wp2_with fail
    exact bodyPost_ret (results_tmp rfl _ _ _) rfl ⟨rfl, K0.out.trans' KC.out⟩
  · have hb' : bnd b = false := by simpa using hb
    rw [show nhas ip b x = false by unfold nhas; rw [hb']; rfl]
    have HB := Lib.hid (fun W => bounded_ ip b W)
    rw [hb'] at HB
    go_enter Tryd.func15, Tryd.ntmps15
    go_wp2_with fail
    rw [HW.out]
    clear HW
    refine wp_region_held_drew (S := (fun w' => Kp (fun _ => False) wb w')) (by kernel_rfl) (KC.out) (fun hHeld => ?_)
    refine wpAnyH_take (i := 0) (v := ?v0_20) rfl (by kernel_rfl) (by kernel_rfl) (by kernel_rfl) (fun _ _ _ h => h) (Or.inl ⟨by rfl, ?y0_20⟩) (by assumption) ?r0_20
    case y0_20 => (intro w hSw; (try dsimp only at hSw); have c0 := kp_kc0 C0.out hSw; have c1 := kp_kc0 C1.out hSw; go_simp; first | done | with_reducible rfl)
    try simp only [Act.put, List.getElem_toArray, List.getElem_cons_succ, List.getElem_cons_zero, List.setIfInBounds_toArray, List.set_cons_zero, List.set_cons_succ]
    refine wpAnyH_ready (rs := [1]) (by kernel_rfl) (by simp) ?_
    refine AllReadyH.cons rfl (fun K hK => ?_) AllReadyH.nil
    go_simp
    with_reducible refine (HB.out _).mono ?_
    rintro ev v1 ⟨rfl, k1⟩
    have KC := Lib.hid (KC.out.trans' k1)
    clear k1
    try dsimp only
    refine hK.out _ _ (KC.out) (fun hHeld => ?_)
    clear hK K
    try simp only [Act.put, List.getElem_toArray, List.getElem_cons_succ, List.getElem_cons_zero, List.setIfInBounds_toArray, List.set_cons_zero, List.set_cons_succ]
    refine wpAnyH_take (i := 2) (v := ?v2_21) rfl (by kernel_rfl) (by kernel_rfl) (by kernel_rfl) (fun _ _ _ h => h) (Or.inl ⟨by rfl, ?y2_21⟩) (by assumption) ?r2_21
    case y2_21 => (intro w hSw; (try dsimp only at hSw); go_simp; first | done | with_reducible rfl)
    try simp only [Act.put, List.getElem_toArray, List.getElem_cons_succ, List.getElem_cons_zero, List.setIfInBounds_toArray, List.set_cons_zero, List.set_cons_succ]
    refine wpAnyH_take (i := 3) (v := undef) rfl (by kernel_rfl) (by kernel_rfl) (by kernel_rfl) (fun _ _ _ h => h) (Or.inr ⟨by rfl, rfl⟩) (by assumption) ?_
    try simp only [Act.put, List.getElem_toArray, List.getElem_cons_succ, List.getElem_cons_zero, List.setIfInBounds_toArray, List.set_cons_zero, List.set_cons_succ]
    refine wpAnyH_take (i := 4) (v := undef) rfl (by kernel_rfl) (by kernel_rfl) (by kernel_rfl) (fun _ _ _ h => h) (Or.inr ⟨by rfl, rfl⟩) (by assumption) ?_
    try simp only [Act.put, List.getElem_toArray, List.getElem_cons_succ, List.getElem_cons_zero, List.setIfInBounds_toArray, List.set_cons_zero, List.set_cons_succ]
    refine wpAnyH_take (i := 5) (v := undef) rfl (by kernel_rfl) (by kernel_rfl) (by kernel_rfl) (fun _ _ _ h => h) (Or.inr ⟨by rfl, rfl⟩) (by assumption) ?_
    try simp only [Act.put, List.getElem_toArray, List.getElem_cons_succ, List.getElem_cons_zero, List.setIfInBounds_toArray, List.set_cons_zero, List.set_cons_succ]
    refine wpAnyH_take (i := 6) (v := undef) rfl (by kernel_rfl) (by kernel_rfl) (by kernel_rfl) (fun _ _ _ h => h) (Or.inr ⟨by rfl, rfl⟩) (by assumption) ?_
    try simp only [Act.put, List.getElem_toArray, List.getElem_cons_succ, List.getElem_cons_zero, List.setIfInBounds_toArray, List.set_cons_zero, List.set_cons_succ]
    refine wpAnyH_take (i := 7) (v := undef) rfl (by kernel_rfl) (by kernel_rfl) (by kernel_rfl) (fun _ _ _ h => h) (Or.inr ⟨by rfl, rfl⟩) (by assumption) ?_
    try simp only [Act.put, List.getElem_toArray, List.getElem_cons_succ, List.getElem_cons_zero, List.setIfInBounds_toArray, List.set_cons_zero, List.set_cons_succ]
    refine wpAnyH_take (i := 8) (v := undef) rfl (by kernel_rfl) (by kernel_rfl) (by kernel_rfl) (fun _ _ _ h => h) (Or.inr ⟨by rfl, rfl⟩) (by assumption) ?_
    try simp only [Act.put, List.getElem_toArray, List.getElem_cons_succ, List.getElem_cons_zero, List.setIfInBounds_toArray, List.set_cons_zero, List.set_cons_succ]
    refine wpAnyH_take (i := 9) (v := undef) rfl (by kernel_rfl) (by kernel_rfl) (by kernel_rfl) (fun _ _ _ h => h) (Or.inr ⟨by rfl, rfl⟩) (by assumption) ?_
    try simp only [Act.put, List.getElem_toArray, List.getElem_cons_succ, List.getElem_cons_zero, List.setIfInBounds_toArray, List.set_cons_zero, List.set_cons_succ]
    refine wpAnyH_take (i := 10) (v := ?v10_22) rfl (by kernel_rfl) (by kernel_rfl) (by kernel_rfl) (fun _ _ _ h => h) (Or.inl ⟨by rfl, ?y10_22⟩) (by assumption) ?r10_22
    case y10_22 => (intro w hSw; (try dsimp only at hSw); go_simp; first | done | with_reducible rfl)
    try simp only [Act.put, List.getElem_toArray, List.getElem_cons_succ, List.getElem_cons_zero, List.setIfInBounds_toArray, List.set_cons_zero, List.set_cons_succ]
    refine wpAnyH_take (i := 11) (v := ?v11_23) rfl (by kernel_rfl) (by kernel_rfl) (by kernel_rfl) (fun _ _ _ h => h) (Or.inl ⟨by rfl, ?y11_23⟩) (by assumption) ?r11_23
    case y11_23 => (intro w hSw; (try dsimp only at hSw); go_simp; first | done | with_reducible rfl)
    try simp only [Act.put, List.getElem_toArray, List.getElem_cons_succ, List.getElem_cons_zero, List.setIfInBounds_toArray, List.set_cons_zero, List.set_cons_succ]
    refine wpAnyH_done (by kernel_rfl) ?_ _
    go_wp2_with fail
    exact bodyPost_ret (results_tmp rfl _ _ _) rfl ⟨rfl, K0.out.trans' KC.out⟩
set_option maxRecDepth 1000000 in
set_option maxHeartbeats 8000000 in
theorem host_ (ip x : Nat) (b : Int) (w : World) (hip : ip < 4294967296) (hx : x < 4294967296) : Calls Tryd.prog 17 #[netV ip b, .int .u32 (x : Int)] w fun ev w' => ev = .returned (.bool (nhost ip b x)) ∧ Kp (fun _ => False) w w' := by
  have K0 := Lib.hid ((Kp.refl (fun _ => False) w).alloc (.cells #[.int .u32 (ip : Int), .int .i64 b] 24))
  have hb0 := Bk.new w 24 #[.int .u32 (ip : Int), .int .i64 b]
  have q0 := hb0.cell 0
  have q1 := hb0.cell 1
  simp only [List.getElem?_toArray, List.getElem?_cons_zero, List.getElem?_cons_succ] at q0 q1
  generalize hW : w.alloc (.cells #[.int .u32 (ip : Int), .int .i64 b] 24) = wb at K0 q0 q1
  have HW := Lib.hid hW
  have C0 := Lib.hid q0
  have C1 := Lib.hid q1
  clear hb0 hW
  have HB := Lib.hid (fun W => has_ ip x b W hip hx)
  have HS := Lib.hid (fun W => base_ ip b W hip)
  have HL := Lib.hid (fun W => last_ ip b W hip)
  unfold nhost
  clear q0 q1
  cases hh : nhas ip b x with
  | false =>
    rw [hh] at HB
    go_enter Tryd.func17, Tryd.ntmps17
    go_wp2_with fail
    rw [HW.out]
    clear HW
    refine (HB.out _).mono ?_
    rintro ev w1 ⟨rfl, k1⟩
    go_wp2_with fail
    exact bodyPost_ret (results_tmp rfl _ _ _) rfl ⟨rfl, K0.out.trans' k1⟩
  | true =>
    rw [hh] at HB
    have e1 : ((x : Int) != ((nbase ip b : Nat) : Int)) = decide (x ≠ nbase ip b) := by
      by_cases h : x = nbase ip b
      · simp [← h]
      · have : ¬ (x : Int) = ((nbase ip b : Nat) : Int) := by omega
        simp [h, this]
    have e2 : ((x : Int) != ((nlast ip b : Nat) : Int)) = decide (x ≠ nlast ip b) := by
      by_cases h : x = nlast ip b
      · simp [← h]
      · have : ¬ (x : Int) = ((nlast ip b : Nat) : Int) := by omega
        simp [h, this]
    generalize decide (x ≠ nbase ip b) = p1 at *
    generalize decide (x ≠ nlast ip b) = p2 at *
    generalize nbase ip b = r1 at *
    generalize nlast ip b = r2 at *
    cases p1
    all_goals
      go_enter Tryd.func17, Tryd.ntmps17
      go_wp2_with fail
      rw [HW.out]
      clear HW
      refine (HB.out _).mono ?_
      rintro ev w1 ⟨rfl, k1⟩
      have c0 := kp_kc0 C0.out k1
      have c1 := kp_kc0 C1.out k1
      go_wp2_with fail
      refine (HS.out _).mono ?_
      rintro ev w2 ⟨rfl, k2⟩
      have c0' := kp_kc0 c0 k2
      have c1' := kp_kc0 c1 k2
      have K2 := Lib.hid ((K0.out.trans' k1).trans' k2)
      clear k1 k2 c0 c1
      go_wp2_with fail
      first
        | exact bodyPost_ret (results_tmp rfl _ _ _) rfl ⟨rfl, K2.out⟩
        | (refine (HL.out _).mono ?_
           rintro ev w3 ⟨rfl, k3⟩
           go_wp2_with fail
           exact bodyPost_ret (results_tmp rfl _ _ _) rfl ⟨rfl, K2.out.trans' k3⟩)
set_option maxRecDepth 1000000 in
set_option maxHeartbeats 8000000 in
theorem single_ (ip : Nat) (w : World) (hip : ip < 4294967296) : Calls Tryd.prog 23 #[.int .u32 (ip : Int)] w fun ev w' => ev = .returned (.bool (single ip)) ∧ Kp (fun _ => False) w w' := by
  have hS : ((ip : Int) / 16777216) = ((ip / 16777216 : Nat) : Int) := by omega
  unfold single
  generalize ip / 16777216 = f at *
  have hcase : (f < 1) ∨ (1 ≤ f ∧ 223 < f) ∨ (1 ≤ f ∧ f ≤ 223 ∧ f = 127) ∨ (1 ≤ f ∧ f ≤ 223 ∧ f ≠ 127) := by omega
  rcases hcase with h | ⟨h, h2⟩ | ⟨h, h2, h3⟩ | ⟨h, h2, h3⟩
  · rw [show (decide (1 ≤ f) && decide (f ≤ 223) && decide (f ≠ 127)) = false by simp; omega]
    have a1 : ¬ (1 : Int) ≤ (f : Int) := by omega
    have a1' : ¬ 1 ≤ f := by omega
    go_enter Tryd.func23, Tryd.ntmps23
    go_wp2_with fail
    exact bodyPost_ret (results_tmp rfl _ _ _) rfl ⟨rfl, Kp.refl _ _⟩
  · rw [show (decide (1 ≤ f) && decide (f ≤ 223) && decide (f ≠ 127)) = false by simp; omega]
    have a1 : (1 : Int) ≤ (f : Int) := by omega
    have a2 : ¬ (f : Int) ≤ 223 := by omega
    have a2' : ¬ f ≤ 223 := by omega
    have a1' : 1 ≤ f := h
    go_enter Tryd.func23, Tryd.ntmps23
    go_wp2_with fail
    exact bodyPost_ret (results_tmp rfl _ _ _) rfl ⟨rfl, Kp.refl _ _⟩
  · subst h3
    rw [show (decide (1 ≤ 127) && decide (127 ≤ 223) && decide (127 ≠ 127)) = false by decide]
    go_enter Tryd.func23, Tryd.ntmps23
    go_wp2_with fail
    exact bodyPost_ret (results_tmp rfl _ _ _) rfl ⟨rfl, Kp.refl _ _⟩
  · rw [show (decide (1 ≤ f) && decide (f ≤ 223) && decide (f ≠ 127)) = true by simp; omega]
    have a1 : (1 : Int) ≤ (f : Int) := by omega
    have a2 : (f : Int) ≤ 223 := by omega
    have a3 : ((f : Int) != 127) = true := by rw [bne_iff_ne]; omega
    have a3' : ((f : Int) == 127) = false := by rw [beq_eq_false_iff_ne]; omega
    go_enter Tryd.func23, Tryd.ntmps23
    go_wp2_with fail
    exact bodyPost_ret (results_tmp rfl _ _ _) rfl ⟨rfl, Kp.refl _ _⟩
end Go.Proofs.YtkafdpidhelfdaaDoor
