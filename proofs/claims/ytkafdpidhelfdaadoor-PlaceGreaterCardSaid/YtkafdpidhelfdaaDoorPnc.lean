/- Place: the walks of the reference's subnets. -/
import Derived.Test.YtkafdpidhelfdaaDoorPnb
set_option linter.unusedVariables false
set_option linter.unusedSimpArgs false
namespace Go.Proofs.YtkafdpidhelfdaaDoor
open Go.RowKit

set_option maxRecDepth 1000000 in
set_option maxHeartbeats 8000000 in
theorem rbase (ip : Nat) (b : Int) (w : World) (hip : ip < 4294967296) : Calls Tryd.prog 12 #[netV ip b] w fun ev w' => ev = .returned (.int .u32 ((nbase ip b : Nat) : Int)) ∧ Kp (fun _ => False) w w' := by
  have K0 := Lib.hid ((Kp.refl (fun _ => False) w).alloc (.cells #[.int .u32 (ip : Int), .int .i64 b] 26))
  have hb0 := Bk.new w 26 #[.int .u32 (ip : Int), .int .i64 b]
  have q0 := hb0.cell 0
  have q1 := hb0.cell 1
  simp only [List.getElem?_toArray, List.getElem?_cons_zero, List.getElem?_cons_succ] at q0 q1
  generalize hW : w.alloc (.cells #[.int .u32 (ip : Int), .int .i64 b] 26) = wb at K0 q0 q1
  have HW := Lib.hid hW
  have C0 := Lib.hid q0
  have C1 := Lib.hid q1
  clear hb0 hW
  by_cases hb : bnd b = true
  · rw [show nbase ip b = ip / nsz b * nsz b by unfold nbase; rw [if_pos hb]]
    have hp := nsz_pos b
    obtain ⟨t, t1, t2, te, he⟩ := bnd_nsz hb
    have hp32 := pow_le32 (s := t) (by omega)
    rw [← he] at hp32
    have y1 : IntKind.u64.wrap (ip : Int) = (ip : Int) := by
      show (ip : Int) % 18446744073709551616 = _
      omega
    have y2 : Int.tdiv (ip : Int) ((nsz b : Nat) : Int) = ((ip / nsz b : Nat) : Int) := by rw [Int.tdiv_eq_ediv_of_nonneg (by omega)]; rfl
    have y3 : ((ip : Int) / ((nsz b : Nat) : Int)) = ((ip / nsz b : Nat) : Int) := rfl
    have hle : ip / nsz b * nsz b ≤ ip := Nat.div_mul_le_self ..
    have y4 : IntKind.u64.wrap (((ip / nsz b : Nat) : Int) * ((nsz b : Nat) : Int)) = ((ip / nsz b * nsz b : Nat) : Int) := by
      rw [← Int.natCast_mul]
      generalize ip / nsz b * nsz b = y at *
      show (y : Int) % 18446744073709551616 = _
      omega
    have y5 : IntKind.u32.wrap ((ip / nsz b * nsz b : Nat) : Int) = ((ip / nsz b * nsz b : Nat) : Int) := by
      generalize ip / nsz b * nsz b = y at *
      show (y : Int) % 4294967296 = _
      omega
    have y6 : ¬ ((nsz b : Nat) : Int) = 0 := by omega
    have y8 : ¬ nsz b = 0 := by omega
    have hq : ip / nsz b ≤ ip := Nat.div_le_self ..
    have y9 : IntKind.u64.wrap ((ip / nsz b : Nat) : Int) = ((ip / nsz b : Nat) : Int) := by
      generalize ip / nsz b = y at *
      show (y : Int) % 18446744073709551616 = _
      omega
    have y10 : IntKind.u64.wrap ((ip / nsz b * nsz b : Nat) : Int) = ((ip / nsz b * nsz b : Nat) : Int) := by
      generalize ip / nsz b * nsz b = y at *
      show (y : Int) % 18446744073709551616 = _
      omega
    have y7 : (((nsz b : Nat) : Int) == 0) = false := by rw [beq_eq_false_iff_ne]; omega
    clear te he t1 t2
    have hB := rbounds ip b wb
    rw [hb] at hB
    have HS := Lib.hid (fun W => rsize ip b W hb)
    generalize ip / nsz b * nsz b = r at *
    generalize ip / nsz b = q at *
    generalize nsz b = n at *
    go_enter Tryd.func12, Tryd.ntmps12
    go_wp2_with fail
    rw [HW.out]
    clear HW
    refine hB.mono ?_
    rintro ev w1 ⟨rfl, k1⟩
    have K1 := Lib.hid (K0.out.trans' k1)
    replace C0 := Lib.hid (kp_kc0 C0.out k1)
    replace C1 := Lib.hid (kp_kc0 C1.out k1)
    have KC := Lib.hid ((Kp.refl (fun _ => False) w1).drew)
    clear k1 q0 q1
    go_wp2_with fail
    refine wp_region_held_drew (S := (fun w' => Kp (fun _ => False) w1 w')) (by kernel_rfl) (KC.out) (fun hHeld => ?_)
    refine wpAnyH_take (i := 0) (v := ?v0_44) rfl (by kernel_rfl) (by kernel_rfl) (by kernel_rfl) (fun _ _ _ h => h) (Or.inl ⟨by rfl, ?y0_44⟩) (by assumption) ?r0_44
    case y0_44 => (intro w hSw; (try dsimp only at hSw); go_simp; first | done | with_reducible rfl)
    try simp only [Act.put, List.getElem_toArray, List.getElem_cons_succ, List.getElem_cons_zero, List.setIfInBounds_toArray, List.set_cons_zero, List.set_cons_succ]
    refine wpAnyH_take (i := 1) (v := ?v1_45) rfl (by kernel_rfl) (by kernel_rfl) (by kernel_rfl) (fun _ _ _ h => h) (Or.inl ⟨by rfl, ?y1_45⟩) (by assumption) ?r1_45
    case y1_45 => (intro w hSw; (try dsimp only at hSw); have c0 := kp_kc0 C0.out hSw; go_simp; first | done | with_reducible rfl)
    try simp only [Act.put, List.getElem_toArray, List.getElem_cons_succ, List.getElem_cons_zero, List.setIfInBounds_toArray, List.set_cons_zero, List.set_cons_succ]
    refine wpAnyH_take (i := 2) (v := ?v2_46) rfl (by kernel_rfl) (by kernel_rfl) (by kernel_rfl) (fun _ _ _ h => h) (Or.inl ⟨by rfl, ?y2_46⟩) (by assumption) ?r2_46
    case y2_46 => (intro w hSw; (try dsimp only at hSw); go_simp; first | done | with_reducible rfl)
    try simp only [Act.put, List.getElem_toArray, List.getElem_cons_succ, List.getElem_cons_zero, List.setIfInBounds_toArray, List.set_cons_zero, List.set_cons_succ]
    refine wpAnyH_take (i := 3) (v := ?v3_47) rfl (by kernel_rfl) (by kernel_rfl) (by kernel_rfl) (fun _ _ _ h => h) (Or.inl ⟨by rfl, ?y3_47⟩) (by assumption) ?r3_47
    case y3_47 => (intro w hSw; (try dsimp only at hSw); have c0 := kp_kc0 C0.out hSw; have c1 := kp_kc0 C1.out hSw; go_simp; first | done | with_reducible rfl)
    try simp only [Act.put, List.getElem_toArray, List.getElem_cons_succ, List.getElem_cons_zero, List.setIfInBounds_toArray, List.set_cons_zero, List.set_cons_succ]
    refine wpAnyH_take (i := 6) (v := ?v6_48) rfl (by kernel_rfl) (by kernel_rfl) (by kernel_rfl) (fun _ _ _ h => h) (Or.inl ⟨by rfl, ?y6_48⟩) (by assumption) ?r6_48
    case y6_48 => (intro w hSw; (try dsimp only at hSw); have c0 := kp_kc0 C0.out hSw; have c1 := kp_kc0 C1.out hSw; go_simp; first | done | with_reducible rfl)
    try simp only [Act.put, List.getElem_toArray, List.getElem_cons_succ, List.getElem_cons_zero, List.setIfInBounds_toArray, List.set_cons_zero, List.set_cons_succ]
    refine wpAnyH_ready (rs := [4]) (by kernel_rfl) (by simp) ?_
    refine AllReadyH.cons rfl (fun K hK => ?_) AllReadyH.nil
    go_simp
    with_reducible refine (HS.out _).mono ?_
    rintro ev v4 ⟨rfl, k4⟩
    have KC := Lib.hid (KC.out.trans' k4)
    clear k4
    try dsimp only
    refine hK.out _ _ (KC.out) (fun hHeld => ?_)
    clear hK K
    try simp only [Act.put, List.getElem_toArray, List.getElem_cons_succ, List.getElem_cons_zero, List.setIfInBounds_toArray, List.set_cons_zero, List.set_cons_succ]
    refine wpAnyH_take (i := 5) (v := ?v5_49) rfl (by kernel_rfl) (by kernel_rfl) (by kernel_rfl) (fun _ _ _ h => h) (Or.inl ⟨by rfl, ?y5_49⟩) (by assumption) ?r5_49
    case y5_49 => (intro w hSw; (try dsimp only at hSw); go_simp; first | done | with_reducible rfl)
    try simp only [Act.put, List.getElem_toArray, List.getElem_cons_succ, List.getElem_cons_zero, List.setIfInBounds_toArray, List.set_cons_zero, List.set_cons_succ]
    refine wpAnyH_ready (rs := [7]) (by kernel_rfl) (by simp) ?_
    refine AllReadyH.cons rfl (fun K hK => ?_) AllReadyH.nil
    go_simp
    with_reducible refine (HS.out _).mono ?_
    rintro ev v7 ⟨rfl, k7⟩
    have KC := Lib.hid (KC.out.trans' k7)
    clear k7
    try dsimp only
    refine hK.out _ _ (KC.out) (fun hHeld => ?_)
    clear hK K
    try simp only [Act.put, List.getElem_toArray, List.getElem_cons_succ, List.getElem_cons_zero, List.setIfInBounds_toArray, List.set_cons_zero, List.set_cons_succ]
    refine wpAnyH_take (i := 8) (v := ?v8_50) rfl (by kernel_rfl) (by kernel_rfl) (by kernel_rfl) (fun _ _ _ h => h) (Or.inl ⟨by rfl, ?y8_50⟩) (by assumption) ?r8_50
    case y8_50 => (intro w hSw; (try dsimp only at hSw); go_simp; first | done | with_reducible rfl)
    try simp only [Act.put, List.getElem_toArray, List.getElem_cons_succ, List.getElem_cons_zero, List.setIfInBounds_toArray, List.set_cons_zero, List.set_cons_succ]
    refine wpAnyH_take (i := 9) (v := ?v9_51) rfl (by kernel_rfl) (by kernel_rfl) (by kernel_rfl) (fun _ _ _ h => h) (Or.inl ⟨by rfl, ?y9_51⟩) (by assumption) ?r9_51
    case y9_51 => (intro w hSw; (try dsimp only at hSw); go_simp; first | done | with_reducible rfl)
    try simp only [Act.put, List.getElem_toArray, List.getElem_cons_succ, List.getElem_cons_zero, List.setIfInBounds_toArray, List.set_cons_zero, List.set_cons_succ]
    refine wpAnyH_take (i := 10) (v := ?v10_52) rfl (by kernel_rfl) (by kernel_rfl) (by kernel_rfl) (fun _ _ _ h => h) (Or.inl ⟨by rfl, ?y10_52⟩) (by assumption) ?r10_52
    case y10_52 => (intro w hSw; (try dsimp only at hSw); go_simp; first | done | with_reducible rfl)
    try simp only [Act.put, List.getElem_toArray, List.getElem_cons_succ, List.getElem_cons_zero, List.setIfInBounds_toArray, List.set_cons_zero, List.set_cons_succ]
    refine wpAnyH_done (by kernel_rfl) ?_ _
    go_wp2_with fail
    exact bodyPost_ret (results_tmp rfl _ _ _) rfl ⟨rfl, K1.out.trans' KC.out⟩
  · have hb' : bnd b = false := by simpa using hb
    rw [show nbase ip b = 0 by unfold nbase; rw [if_neg hb]]
    have hB := rbounds ip b wb
    rw [hb'] at hB
    go_enter Tryd.func12, Tryd.ntmps12
    go_wp2_with fail
    rw [HW.out]
    clear HW
    refine hB.mono ?_
    rintro ev w1 ⟨rfl, k1⟩
    go_wp2_with fail
    exact bodyPost_ret (results_tmp rfl _ _ _) rfl ⟨rfl, K0.out.trans' k1⟩
set_option maxRecDepth 1000000 in
set_option maxHeartbeats 8000000 in
theorem rlast (ip : Nat) (b : Int) (w : World) (hip : ip < 4294967296) : Calls Tryd.prog 14 #[netV ip b] w fun ev w' => ev = .returned (.int .u32 ((nlast ip b : Nat) : Int)) ∧ Kp (fun _ => False) w w' := by
  have K0 := Lib.hid ((Kp.refl (fun _ => False) w).alloc (.cells #[.int .u32 (ip : Int), .int .i64 b] 26))
  have hb0 := Bk.new w 26 #[.int .u32 (ip : Int), .int .i64 b]
  have q0 := hb0.cell 0
  have q1 := hb0.cell 1
  simp only [List.getElem?_toArray, List.getElem?_cons_zero, List.getElem?_cons_succ] at q0 q1
  generalize hW : w.alloc (.cells #[.int .u32 (ip : Int), .int .i64 b] 26) = wb at K0 q0 q1
  have HW := Lib.hid hW
  have C0 := Lib.hid q0
  have C1 := Lib.hid q1
  clear hb0 hW
  by_cases hb : bnd b = true
  · have hl := nlast_lt (b := b) hip
    have hbl := Nat.lt_of_le_of_lt (nbase_le ip b) hip
    have hsum : nbase ip b + nsz b = nlast ip b + 1 := by
      have := nsz_pos b
      unfold nbase nlast
      rw [if_pos hb, if_pos hb]
      omega
    have y1 : IntKind.u64.wrap ((nbase ip b : Nat) : Int) = ((nbase ip b : Nat) : Int) := by
      show ((nbase ip b : Nat) : Int) % 18446744073709551616 = _
      omega
    have y2 : IntKind.u64.wrap (((nbase ip b : Nat) : Int) + ((nsz b : Nat) : Int)) = ((nlast ip b + 1 : Nat) : Int) := by
      show (((nbase ip b : Nat) : Int) + ((nsz b : Nat) : Int)) % 18446744073709551616 = _
      omega
    have y3 : IntKind.u64.wrap (((nlast ip b + 1 : Nat) : Int) - 1) = ((nlast ip b : Nat) : Int) := by
      show (((nlast ip b + 1 : Nat) : Int) - 1) % 18446744073709551616 = _
      omega
    have y3' : IntKind.u64.wrap ((nlast ip b : Nat) : Int) = ((nlast ip b : Nat) : Int) := by
      show ((nlast ip b : Nat) : Int) % 18446744073709551616 = _
      omega
    have y4 : IntKind.u32.wrap ((nlast ip b : Nat) : Int) = ((nlast ip b : Nat) : Int) := by
      show ((nlast ip b : Nat) : Int) % 4294967296 = _
      omega
    have hB := rbounds ip b wb
    rw [hb] at hB
    have HS := Lib.hid (fun W => rsize ip b W hb)
    have HA := Lib.hid (fun W => rbase ip b W hip)
    generalize nlast ip b = l at *
    generalize nbase ip b = r at *
    generalize nsz b = n at *
    clear hl hbl
    go_enter Tryd.func14, Tryd.ntmps14
    go_wp2_with fail
    rw [HW.out]
    clear HW
    refine hB.mono ?_
    rintro ev w1 ⟨rfl, k1⟩
    have K1 := Lib.hid (K0.out.trans' k1)
    replace C0 := Lib.hid (kp_kc0 C0.out k1)
    replace C1 := Lib.hid (kp_kc0 C1.out k1)
    have KC := Lib.hid ((Kp.refl (fun _ => False) w1).drew)
    clear k1 q0 q1
    go_wp2_with fail
    refine wp_region_held_drew (S := (fun w' => Kp (fun _ => False) w1 w')) (by kernel_rfl) (KC.out) (fun hHeld => ?_)
    refine wpAnyH_take (i := 0) (v := ?v0_53) rfl (by kernel_rfl) (by kernel_rfl) (by kernel_rfl) (fun _ _ _ h => h) (Or.inl ⟨by rfl, ?y0_53⟩) (by assumption) ?r0_53
    case y0_53 => (intro w hSw; (try dsimp only at hSw); have c0 := kp_kc0 C0.out hSw; have c1 := kp_kc0 C1.out hSw; go_simp; first | done | with_reducible rfl)
    try simp only [Act.put, List.getElem_toArray, List.getElem_cons_succ, List.getElem_cons_zero, List.setIfInBounds_toArray, List.set_cons_zero, List.set_cons_succ]
    refine wpAnyH_take (i := 3) (v := ?v3_54) rfl (by kernel_rfl) (by kernel_rfl) (by kernel_rfl) (fun _ _ _ h => h) (Or.inl ⟨by rfl, ?y3_54⟩) (by assumption) ?r3_54
    case y3_54 => (intro w hSw; (try dsimp only at hSw); have c0 := kp_kc0 C0.out hSw; have c1 := kp_kc0 C1.out hSw; go_simp; first | done | with_reducible rfl)
    try simp only [Act.put, List.getElem_toArray, List.getElem_cons_succ, List.getElem_cons_zero, List.setIfInBounds_toArray, List.set_cons_zero, List.set_cons_succ]
    refine wpAnyH_ready (rs := [1]) (by kernel_rfl) (by simp) ?_
    refine AllReadyH.cons rfl (fun K hK => ?_) AllReadyH.nil
    go_simp
    with_reducible refine (HA.out _).mono ?_
    rintro ev v1 ⟨rfl, k1⟩
    have KC := Lib.hid (KC.out.trans' k1)
    clear k1
    try dsimp only
    refine hK.out _ _ (KC.out) (fun hHeld => ?_)
    clear hK K
    try simp only [Act.put, List.getElem_toArray, List.getElem_cons_succ, List.getElem_cons_zero, List.setIfInBounds_toArray, List.set_cons_zero, List.set_cons_succ]
    refine wpAnyH_take (i := 2) (v := ?v2_55) rfl (by kernel_rfl) (by kernel_rfl) (by kernel_rfl) (fun _ _ _ h => h) (Or.inl ⟨by rfl, ?y2_55⟩) (by assumption) ?r2_55
    case y2_55 => (intro w hSw; (try dsimp only at hSw); go_simp; first | done | with_reducible rfl)
    try simp only [Act.put, List.getElem_toArray, List.getElem_cons_succ, List.getElem_cons_zero, List.setIfInBounds_toArray, List.set_cons_zero, List.set_cons_succ]
    refine wpAnyH_ready (rs := [4]) (by kernel_rfl) (by simp) ?_
    refine AllReadyH.cons rfl (fun K hK => ?_) AllReadyH.nil
    go_simp
    with_reducible refine (HS.out _).mono ?_
    rintro ev v4 ⟨rfl, k4⟩
    have KC := Lib.hid (KC.out.trans' k4)
    clear k4
    try dsimp only
    refine hK.out _ _ (KC.out) (fun hHeld => ?_)
    clear hK K
    try simp only [Act.put, List.getElem_toArray, List.getElem_cons_succ, List.getElem_cons_zero, List.setIfInBounds_toArray, List.set_cons_zero, List.set_cons_succ]
    refine wpAnyH_take (i := 5) (v := ?v5_56) rfl (by kernel_rfl) (by kernel_rfl) (by kernel_rfl) (fun _ _ _ h => h) (Or.inl ⟨by rfl, ?y5_56⟩) (by assumption) ?r5_56
    case y5_56 => (intro w hSw; (try dsimp only at hSw); go_simp; first | done | with_reducible rfl)
    try simp only [Act.put, List.getElem_toArray, List.getElem_cons_succ, List.getElem_cons_zero, List.setIfInBounds_toArray, List.set_cons_zero, List.set_cons_succ]
    refine wpAnyH_take (i := 6) (v := ?v6_57) rfl (by kernel_rfl) (by kernel_rfl) (by kernel_rfl) (fun _ _ _ h => h) (Or.inl ⟨by rfl, ?y6_57⟩) (by assumption) ?r6_57
    case y6_57 => (intro w hSw; (try dsimp only at hSw); go_simp; first | done | with_reducible rfl)
    try simp only [Act.put, List.getElem_toArray, List.getElem_cons_succ, List.getElem_cons_zero, List.setIfInBounds_toArray, List.set_cons_zero, List.set_cons_succ]
    refine wpAnyH_take (i := 7) (v := ?v7_58) rfl (by kernel_rfl) (by kernel_rfl) (by kernel_rfl) (fun _ _ _ h => h) (Or.inl ⟨by rfl, ?y7_58⟩) (by assumption) ?r7_58
    case y7_58 => (intro w hSw; (try dsimp only at hSw); go_simp; first | done | with_reducible rfl)
    try simp only [Act.put, List.getElem_toArray, List.getElem_cons_succ, List.getElem_cons_zero, List.setIfInBounds_toArray, List.set_cons_zero, List.set_cons_succ]
    refine wpAnyH_take (i := 8) (v := ?v8_59) rfl (by kernel_rfl) (by kernel_rfl) (by kernel_rfl) (fun _ _ _ h => h) (Or.inl ⟨by rfl, ?y8_59⟩) (by assumption) ?r8_59
    case y8_59 => (intro w hSw; (try dsimp only at hSw); go_simp; first | done | with_reducible rfl)
    try simp only [Act.put, List.getElem_toArray, List.getElem_cons_succ, List.getElem_cons_zero, List.setIfInBounds_toArray, List.set_cons_zero, List.set_cons_succ]
    refine wpAnyH_done (by kernel_rfl) ?_ _
    go_wp2_with fail
    exact bodyPost_ret (results_tmp rfl _ _ _) rfl ⟨rfl, K1.out.trans' KC.out⟩
  · have hb' : bnd b = false := by simpa using hb
    rw [show nlast ip b = 0 by unfold nlast; rw [if_neg hb]]
    have hB := rbounds ip b wb
    rw [hb'] at hB
    go_enter Tryd.func14, Tryd.ntmps14
    go_wp2_with fail
    rw [HW.out]
    clear HW
    refine hB.mono ?_
    rintro ev w1 ⟨rfl, k1⟩
    go_wp2_with fail
    exact bodyPost_ret (results_tmp rfl _ _ _) rfl ⟨rfl, K0.out.trans' k1⟩
set_option maxRecDepth 1000000 in
set_option maxHeartbeats 8000000 in
theorem rmask (ip : Nat) (b : Int) (w : World) : Calls Tryd.prog 20 #[netV ip b] w fun ev w' => ev = .returned (.int .u32 ((nmask b : Nat) : Int)) ∧ Kp (fun _ => False) w w' := by
  have K0 := Lib.hid ((Kp.refl (fun _ => False) w).alloc (.cells #[.int .u32 (ip : Int), .int .i64 b] 26))
  have hb0 := Bk.new w 26 #[.int .u32 (ip : Int), .int .i64 b]
  have q0 := hb0.cell 0
  have q1 := hb0.cell 1
  simp only [List.getElem?_toArray, List.getElem?_cons_zero, List.getElem?_cons_succ] at q0 q1
  generalize hW : w.alloc (.cells #[.int .u32 (ip : Int), .int .i64 b] 26) = wb at K0 q0 q1
  have HW := Lib.hid hW
  have C0 := Lib.hid q0
  have C1 := Lib.hid q1
  clear hb0 hW
  by_cases hb : bnd b = true
  · have hl := nmask_lt b
    have hsum : nmask b + nsz b = 4294967296 := by
      obtain ⟨t, t1, t2, te, he⟩ := bnd_nsz hb
      have hp32 := pow_le32 (s := t) (by omega)
      unfold nmask
      rw [if_pos hb, he]
      omega
    have y2 : IntKind.u64.wrap (4294967296 - ((nsz b : Nat) : Int)) = ((nmask b : Nat) : Int) := by
      show (4294967296 - ((nsz b : Nat) : Int)) % 18446744073709551616 = _
      omega
    have y4 : IntKind.u32.wrap ((nmask b : Nat) : Int) = ((nmask b : Nat) : Int) := by
      show ((nmask b : Nat) : Int) % 4294967296 = _
      omega
    have hB := rbounds ip b wb
    rw [hb] at hB
    have HS := Lib.hid (fun W => rsize ip b W hb)
    generalize nmask b = l at *
    generalize nsz b = n at *
    clear hl
    go_enter Tryd.func20, Tryd.ntmps20
    go_wp2_with fail
    rw [HW.out]
    clear HW
    refine (hB).mono ?_
    rintro ev w0 ⟨rfl, k0⟩
    have K0' := Lib.hid ((K0.out).trans' k0)
    have D0 := Lib.hid (kp_kc0 C0.out k0)
    have E0 := Lib.hid (kp_kc0 C1.out k0)
    have d0 := D0.out
    have e0 := E0.out
    clear k0
    go_wp2_with fail
    refine (HS.out _).mono ?_
    rintro ev w1 ⟨rfl, k1⟩
    have K1' := Lib.hid ((K0'.out).trans' k1)
    have D1 := Lib.hid (kp_kc0 D0.out k1)
    have E1 := Lib.hid (kp_kc0 E0.out k1)
    have d1 := D1.out
    have e1 := E1.out
    clear k1 d0 e0
    go_wp2_with fail
    exact bodyPost_ret (results_tmp rfl _ _ _) rfl ⟨rfl, K1'.out⟩
  · have hb' : bnd b = false := by simpa using hb
    rw [show nmask b = 0 by unfold nmask; rw [if_neg hb]]
    have hB := rbounds ip b wb
    rw [hb'] at hB
    go_enter Tryd.func20, Tryd.ntmps20
    go_wp2_with fail
    rw [HW.out]
    clear HW
    refine (hB).mono ?_
    rintro ev w0 ⟨rfl, k0⟩
    have K0' := Lib.hid ((K0.out).trans' k0)
    have D0 := Lib.hid (kp_kc0 C0.out k0)
    have E0 := Lib.hid (kp_kc0 C1.out k0)
    have d0 := D0.out
    have e0 := E0.out
    clear k0
    go_wp2_with fail
    exact bodyPost_ret (results_tmp rfl _ _ _) rfl ⟨rfl, K0'.out⟩
set_option maxRecDepth 1000000 in
set_option maxHeartbeats 8000000 in
theorem rhas (ip x : Nat) (b : Int) (w : World) (hip : ip < 4294967296) : Calls Tryd.prog 16 #[netV ip b, .int .u32 (x : Int)] w fun ev w' => ev = .returned (.bool (nhas ip b x)) ∧ Kp (fun _ => False) w w' := by
  have K0 := Lib.hid ((Kp.refl (fun _ => False) w).alloc (.cells #[.int .u32 (ip : Int), .int .i64 b] 26))
  have hb0 := Bk.new w 26 #[.int .u32 (ip : Int), .int .i64 b]
  have q0 := hb0.cell 0
  have q1 := hb0.cell 1
  simp only [List.getElem?_toArray, List.getElem?_cons_zero, List.getElem?_cons_succ] at q0 q1
  generalize hW : w.alloc (.cells #[.int .u32 (ip : Int), .int .i64 b] 26) = wb at K0 q0 q1
  have HW := Lib.hid hW
  have C0 := Lib.hid q0
  have C1 := Lib.hid q1
  clear hb0 hW
  have HB := Lib.hid (fun W => rbounds ip b W)
  have HA := Lib.hid (fun W => rbase ip b W hip)
  have HL := Lib.hid (fun W => rlast ip b W hip)
  have hv : nhas ip b x = (bnd b && decide (nbase ip b ≤ x) && decide (x ≤ nlast ip b)) := by
    rw [Bool.eq_iff_iff, nhas_iff]
    simp [and_assoc]
  rw [hv]
  clear hv
  generalize nbase ip b = r at *
  generalize nlast ip b = l at *
  cases hb : bnd b with
  | false =>
    rw [hb] at HB
    rw [Bool.false_and, Bool.false_and]
    go_enter Tryd.func16, Tryd.ntmps16
    go_wp2_with fail
    rw [HW.out]
    clear HW
    refine (HB.out _).mono ?_
    rintro ev w0 ⟨rfl, k0⟩
    have K0' := Lib.hid ((K0.out).trans' k0)
    have D0 := Lib.hid (kp_kc0 C0.out k0)
    have E0 := Lib.hid (kp_kc0 C1.out k0)
    have d0 := D0.out
    have e0 := E0.out
    clear k0
    go_wp2_with fail
    exact bodyPost_ret (results_tmp rfl _ _ _) rfl ⟨rfl, K0'.out⟩
  | true =>
    rw [hb] at HB
    by_cases h1 : r ≤ x
    · have h1' : (r : Int) ≤ (x : Int) := by omega
      rw [show (true && decide (r ≤ x) && decide (x ≤ l)) = decide (x ≤ l) by simp [h1]]
      by_cases h2 : x ≤ l
      · have h2' : (x : Int) ≤ (l : Int) := by omega
        rw [decide_eq_true h2]
        go_enter Tryd.func16, Tryd.ntmps16
        go_wp2_with fail
        rw [HW.out]
        clear HW
        refine (HB.out _).mono ?_
        rintro ev w0 ⟨rfl, k0⟩
        have K0' := Lib.hid ((K0.out).trans' k0)
        have D0 := Lib.hid (kp_kc0 C0.out k0)
        have E0 := Lib.hid (kp_kc0 C1.out k0)
        have d0 := D0.out
        have e0 := E0.out
        clear k0
        go_wp2_with fail
        refine (HA.out _).mono ?_
        rintro ev w1 ⟨rfl, k1⟩
        have K1' := Lib.hid ((K0'.out).trans' k1)
        have D1 := Lib.hid (kp_kc0 D0.out k1)
        have E1 := Lib.hid (kp_kc0 E0.out k1)
        have d1 := D1.out
        have e1 := E1.out
        clear k1 d0 e0
        go_wp2_with fail
        refine (HL.out _).mono ?_
        rintro ev w2 ⟨rfl, k2⟩
        have K2' := Lib.hid ((K1'.out).trans' k2)
        have D2 := Lib.hid (kp_kc0 D1.out k2)
        have E2 := Lib.hid (kp_kc0 E1.out k2)
        have d2 := D2.out
        have e2 := E2.out
        clear k2 d1 e1
        go_wp2_with fail
        exact bodyPost_ret (results_tmp rfl _ _ _) rfl ⟨rfl, K2'.out⟩
      · have h2' : ¬ (x : Int) ≤ (l : Int) := by omega
        rw [decide_eq_false h2]
        go_enter Tryd.func16, Tryd.ntmps16
        go_wp2_with fail
        rw [HW.out]
        clear HW
        refine (HB.out _).mono ?_
        rintro ev w0 ⟨rfl, k0⟩
        have K0' := Lib.hid ((K0.out).trans' k0)
        have D0 := Lib.hid (kp_kc0 C0.out k0)
        have E0 := Lib.hid (kp_kc0 C1.out k0)
        have d0 := D0.out
        have e0 := E0.out
        clear k0
        go_wp2_with fail
        refine (HA.out _).mono ?_
        rintro ev w1 ⟨rfl, k1⟩
        have K1' := Lib.hid ((K0'.out).trans' k1)
        have D1 := Lib.hid (kp_kc0 D0.out k1)
        have E1 := Lib.hid (kp_kc0 E0.out k1)
        have d1 := D1.out
        have e1 := E1.out
        clear k1 d0 e0
        go_wp2_with fail
        refine (HL.out _).mono ?_
        rintro ev w2 ⟨rfl, k2⟩
        have K2' := Lib.hid ((K1'.out).trans' k2)
        have D2 := Lib.hid (kp_kc0 D1.out k2)
        have E2 := Lib.hid (kp_kc0 E1.out k2)
        have d2 := D2.out
        have e2 := E2.out
        clear k2 d1 e1
        go_wp2_with fail
        exact bodyPost_ret (results_tmp rfl _ _ _) rfl ⟨rfl, K2'.out⟩
    · have h1' : ¬ (r : Int) ≤ (x : Int) := by omega
      rw [show (true && decide (r ≤ x) && decide (x ≤ l)) = false by simp [h1]]
      go_enter Tryd.func16, Tryd.ntmps16
      go_wp2_with fail
      rw [HW.out]
      clear HW
      refine (HB.out _).mono ?_
      rintro ev w0 ⟨rfl, k0⟩
      have K0' := Lib.hid ((K0.out).trans' k0)
      have D0 := Lib.hid (kp_kc0 C0.out k0)
      have E0 := Lib.hid (kp_kc0 C1.out k0)
      have d0 := D0.out
      have e0 := E0.out
      clear k0
      go_wp2_with fail
      refine (HA.out _).mono ?_
      rintro ev w1 ⟨rfl, k1⟩
      have K1' := Lib.hid ((K0'.out).trans' k1)
      have D1 := Lib.hid (kp_kc0 D0.out k1)
      have E1 := Lib.hid (kp_kc0 E0.out k1)
      have d1 := D1.out
      have e1 := E1.out
      clear k1 d0 e0
      go_wp2_with fail
      exact bodyPost_ret (results_tmp rfl _ _ _) rfl ⟨rfl, K1'.out⟩
end Go.Proofs.YtkafdpidhelfdaaDoor
