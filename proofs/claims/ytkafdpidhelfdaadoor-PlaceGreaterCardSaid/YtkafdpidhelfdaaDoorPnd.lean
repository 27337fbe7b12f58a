/- Place: the walks of the reference's Host, Single, Right and Apart. -/
import Derived.Test.YtkafdpidhelfdaaDoorPnc
set_option linter.unusedVariables false
set_option linter.unusedSimpArgs false
namespace Go.Proofs.YtkafdpidhelfdaaDoor
open Go.RowKit

set_option maxRecDepth 1000000 in
set_option maxHeartbeats 8000000 in
theorem rhost (ip x : Nat) (b : Int) (w : World) (hip : ip < 4294967296) : Calls Tryd.prog 18 #[netV ip b, .int .u32 (x : Int)] w fun ev w' => ev = .returned (.bool (nhost ip b x)) ∧ Kp (fun _ => False) w w' := by
  have K0 := Lib.hid ((Kp.refl (fun _ => False) w).alloc (.cells #[.int .u32 (ip : Int), .int .i64 b] 26))
  have hb0 := Bk.new w 26 #[.int .u32 (ip : Int), .int .i64 b]
  have q0 := hb0.cell 0
  have q1 := hb0.cell 1
  simp only [List.getElem?_toArray, List.getElem?_cons_zero, List.getElem?_cons_succ] at q0 q1
  generalize hW : w.alloc (.cells #[.int .u32 (ip : Int), .int .i64 b] 26) = wb at K0 q0 q1
  have HW := Lib.hid hW
  have C0 := Lib.hid q0
  have C1 := Lib.hid q1
  clear hb0 hW
  have HB := Lib.hid (fun W => rhas ip x b W hip)
  have HS := Lib.hid (fun W => rbase ip b W hip)
  have HL := Lib.hid (fun W => rlast ip b W hip)
  unfold nhost
  clear q0 q1
  cases hh : nhas ip b x with
  | false =>
    rw [hh] at HB
    go_enter Tryd.func18, Tryd.ntmps18
    go_wp2_with fail
    rw [HW.out]
    clear HW
    refine (HB.out _).mono ?_
    rintro ev w0 ⟨rfl, k0⟩
    have K0' := Lib.hid ((K0.out).trans' k0)
    have D0 := Lib.hid (kp_kc0 C0.out k0)
    have E0 := Lib.hid (kp_kc0 C1.out k0)
    have d0 := D0.out
    have e0 := E0.out
    clear k0
    go_wp2_with fail
    exact bodyPost_ret (results_tmp rfl _ _ _) rfl ⟨rfl, K0'.out⟩
  | true =>
    rw [hh] at HB
    have e1 : ((x : Int) != ((nbase ip b : Nat) : Int)) = decide (x ≠ nbase ip b) := by
      by_cases h : x = nbase ip b
      · simp [← h]
      · have : ¬ (x : Int) = ((nbase ip b : Nat) : Int) := by omega
        simp [h, this]
    have e2 : ((x : Int) != ((nlast ip b : Nat) : Int)) = decide (x ≠ nlast ip b) := by
      by_cases h : x = nlast ip b
      · simp [← h]
      · have : ¬ (x : Int) = ((nlast ip b : Nat) : Int) := by omega
        simp [h, this]
    generalize decide (x ≠ nbase ip b) = p1 at *
    generalize decide (x ≠ nlast ip b) = p2 at *
    generalize nbase ip b = r1 at *
    generalize nlast ip b = r2 at *
    cases p1 with
    | false =>
      go_enter Tryd.func18, Tryd.ntmps18
      go_wp2_with fail
      rw [HW.out]
      clear HW
      refine (HB.out _).mono ?_
      rintro ev w0 ⟨rfl, k0⟩
      have K0' := Lib.hid ((K0.out).trans' k0)
      have D0 := Lib.hid (kp_kc0 C0.out k0)
      have E0 := Lib.hid (kp_kc0 C1.out k0)
      have d0 := D0.out
      have e0 := E0.out
      clear k0
      go_wp2_with fail
      refine (HS.out _).mono ?_
      rintro ev w1 ⟨rfl, k1⟩
      have K1' := Lib.hid ((K0'.out).trans' k1)
      have D1 := Lib.hid (kp_kc0 D0.out k1)
      have E1 := Lib.hid (kp_kc0 E0.out k1)
      have d1 := D1.out
      have e1 := E1.out
      clear k1 d0 e0
      go_wp2_with fail
      exact bodyPost_ret (results_tmp rfl _ _ _) rfl ⟨rfl, K1'.out⟩
    | true =>
      go_enter Tryd.func18, Tryd.ntmps18
      go_wp2_with fail
      rw [HW.out]
      clear HW
      refine (HB.out _).mono ?_
      rintro ev w0 ⟨rfl, k0⟩
      have K0' := Lib.hid ((K0.out).trans' k0)
      have D0 := Lib.hid (kp_kc0 C0.out k0)
      have E0 := Lib.hid (kp_kc0 C1.out k0)
      have d0 := D0.out
      have e0 := E0.out
      clear k0
      go_wp2_with fail
      refine (HS.out _).mono ?_
      rintro ev w1 ⟨rfl, k1⟩
      have K1' := Lib.hid ((K0'.out).trans' k1)
      have D1 := Lib.hid (kp_kc0 D0.out k1)
      have E1 := Lib.hid (kp_kc0 E0.out k1)
      have d1 := D1.out
      have e1 := E1.out
      clear k1 d0 e0
      go_wp2_with fail
      refine (HL.out _).mono ?_
      rintro ev w2 ⟨rfl, k2⟩
      have K2' := Lib.hid ((K1'.out).trans' k2)
      have D2 := Lib.hid (kp_kc0 D1.out k2)
      have E2 := Lib.hid (kp_kc0 E1.out k2)
      have d2 := D2.out
      have e2 := E2.out
      clear k2 d1 e1
      go_wp2_with fail
      exact bodyPost_ret (results_tmp rfl _ _ _) rfl ⟨rfl, K2'.out⟩
set_option maxRecDepth 1000000 in
set_option maxHeartbeats 8000000 in
theorem rsingle (ip : Nat) (w : World) (hip : ip < 4294967296) : Calls Tryd.prog 24 #[.int .u32 (ip : Int)] w fun ev w' => ev = .returned (.bool (single ip)) ∧ Kp (fun _ => False) w w' := by
  have hS : ((ip : Int) / 16777216) = ((ip / 16777216 : Nat) : Int) := by omega
  have hT : Int.tdiv (ip : Int) 16777216 = ((ip / 16777216 : Nat) : Int) := by rw [Int.tdiv_eq_ediv_of_nonneg (by omega)]; exact hS
  have hU : IntKind.u32.wrap ((ip / 16777216 : Nat) : Int) = ((ip / 16777216 : Nat) : Int) := by
    have : ip / 16777216 < 256 := by omega
    generalize ip / 16777216 = y at *
    show (y : Int) % 4294967296 = _
    omega
  unfold single
  generalize ip / 16777216 = f at *
  have hcase : (f < 1) ∨ (1 ≤ f ∧ 223 < f) ∨ (1 ≤ f ∧ f ≤ 223 ∧ f = 127) ∨ (1 ≤ f ∧ f ≤ 223 ∧ f ≠ 127) := by omega
  rcases hcase with h | ⟨h, h2⟩ | ⟨h, h2, h3⟩ | ⟨h, h2, h3⟩
  · rw [show (decide (1 ≤ f) && decide (f ≤ 223) && decide (f ≠ 127)) = false by simp; omega]
    have a1 : ¬ (1 : Int) ≤ (f : Int) := by omega
    have a1' : ¬ 1 ≤ f := by omega
    go_enter Tryd.func24, Tryd.ntmps24
    go_wp2_with fail
    exact bodyPost_ret (results_tmp rfl _ _ _) rfl ⟨rfl, Kp.refl _ _⟩
  · rw [show (decide (1 ≤ f) && decide (f ≤ 223) && decide (f ≠ 127)) = false by simp; omega]
    have a1 : (1 : Int) ≤ (f : Int) := by omega
    have a2 : ¬ (f : Int) ≤ 223 := by omega
    have a2' : ¬ f ≤ 223 := by omega
    have a1' : 1 ≤ f := h
    go_enter Tryd.func24, Tryd.ntmps24
    go_wp2_with fail
    exact bodyPost_ret (results_tmp rfl _ _ _) rfl ⟨rfl, Kp.refl _ _⟩
  · subst h3
    rw [show (decide (1 ≤ 127) && decide (127 ≤ 223) && decide (127 ≠ 127)) = false by decide]
    go_enter Tryd.func24, Tryd.ntmps24
    go_wp2_with fail
    exact bodyPost_ret (results_tmp rfl _ _ _) rfl ⟨rfl, Kp.refl _ _⟩
  · rw [show (decide (1 ≤ f) && decide (f ≤ 223) && decide (f ≠ 127)) = true by simp; omega]
    have a1 : (1 : Int) ≤ (f : Int) := by omega
    have a2 : (f : Int) ≤ 223 := by omega
    have a3 : ((f : Int) != 127) = true := by rw [bne_iff_ne]; omega
    have a3' : ((f : Int) == 127) = false := by rw [beq_eq_false_iff_ne]; omega
    go_enter Tryd.func24, Tryd.ntmps24
    go_wp2_with fail
    exact bodyPost_ret (results_tmp rfl _ _ _) rfl ⟨rfl, Kp.refl _ _⟩
set_option maxRecDepth 1000000 in
set_option maxHeartbeats 8000000 in
theorem rright (ip : Nat) (b : Int) (w : World) (hip : ip < 4294967296) : Calls Tryd.prog 10 #[netV ip b] w fun ev w' => ev = .returned (.bool (nright ip b)) ∧ Kp (fun _ => False) w w' := by
  have K0 := Lib.hid ((Kp.refl (fun _ => False) w).alloc (.cells #[.int .u32 (ip : Int), .int .i64 b] 26))
  have hb0 := Bk.new w 26 #[.int .u32 (ip : Int), .int .i64 b]
  have q0 := hb0.cell 0
  have q1 := hb0.cell 1
  simp only [List.getElem?_toArray, List.getElem?_cons_zero, List.getElem?_cons_succ] at q0 q1
  generalize hW : w.alloc (.cells #[.int .u32 (ip : Int), .int .i64 b] 26) = wb at K0 q0 q1
  have HW := Lib.hid hW
  have C0 := Lib.hid q0
  have C1 := Lib.hid q1
  clear hb0 hW
  have HB := Lib.hid (fun W => rbounds ip b W)
  have HH := Lib.hid (fun W => rhost ip ip b W hip)
  have HS := Lib.hid (fun W => rsingle ip W hip)
  cases hb : bnd b with
  | false =>
    rw [hb] at HB
    rw [show nright ip b = false by unfold nright nhost nhas; rw [hb]; rfl]
    go_enter Tryd.func10, Tryd.ntmps10
    go_wp2_with fail
    rw [HW.out]
    clear HW
    refine (HB.out _).mono ?_
    rintro ev w0 ⟨rfl, k0⟩
    have K0' := Lib.hid ((K0.out).trans' k0)
    have D0 := Lib.hid (kp_kc0 C0.out k0)
    have E0 := Lib.hid (kp_kc0 C1.out k0)
    have d0 := D0.out
    have e0 := E0.out
    clear k0
    go_wp2_with fail
    exact bodyPost_ret (results_tmp rfl _ _ _) rfl ⟨rfl, K0'.out⟩
  | true =>
    rw [hb] at HB
    unfold nright
    cases hh : nhost ip b ip with
    | false =>
      rw [hh] at HH
      go_enter Tryd.func10, Tryd.ntmps10
      go_wp2_with fail
      rw [HW.out]
      clear HW
      refine (HB.out _).mono ?_
      rintro ev w0 ⟨rfl, k0⟩
      have K0' := Lib.hid ((K0.out).trans' k0)
      have D0 := Lib.hid (kp_kc0 C0.out k0)
      have E0 := Lib.hid (kp_kc0 C1.out k0)
      have d0 := D0.out
      have e0 := E0.out
      clear k0
      go_wp2_with fail
      refine (HH.out _).mono ?_
      rintro ev w1 ⟨rfl, k1⟩
      have K1' := Lib.hid ((K0'.out).trans' k1)
      have D1 := Lib.hid (kp_kc0 D0.out k1)
      have E1 := Lib.hid (kp_kc0 E0.out k1)
      have d1 := D1.out
      have e1 := E1.out
      clear k1 d0 e0
      go_wp2_with fail
      exact bodyPost_ret (results_tmp rfl _ _ _) rfl ⟨rfl, K1'.out⟩
    | true =>
      rw [hh] at HH
      generalize single ip = p at *
      go_enter Tryd.func10, Tryd.ntmps10
      go_wp2_with fail
      rw [HW.out]
      clear HW
      refine (HB.out _).mono ?_
      rintro ev w0 ⟨rfl, k0⟩
      have K0' := Lib.hid ((K0.out).trans' k0)
      have D0 := Lib.hid (kp_kc0 C0.out k0)
      have E0 := Lib.hid (kp_kc0 C1.out k0)
      have d0 := D0.out
      have e0 := E0.out
      clear k0
      go_wp2_with fail
      refine (HH.out _).mono ?_
      rintro ev w1 ⟨rfl, k1⟩
      have K1' := Lib.hid ((K0'.out).trans' k1)
      have D1 := Lib.hid (kp_kc0 D0.out k1)
      have E1 := Lib.hid (kp_kc0 E0.out k1)
      have d1 := D1.out
      have e1 := E1.out
      clear k1 d0 e0
      go_wp2_with fail
      refine (HS.out _).mono ?_
      rintro ev w2 ⟨rfl, k2⟩
      have K2' := Lib.hid ((K1'.out).trans' k2)
      have D2 := Lib.hid (kp_kc0 D1.out k2)
      have E2 := Lib.hid (kp_kc0 E1.out k2)
      have d2 := D2.out
      have e2 := E2.out
      clear k2 d1 e1
      go_wp2_with fail
      exact bodyPost_ret (results_tmp rfl _ _ _) rfl ⟨rfl, K2'.out⟩
set_option maxRecDepth 1000000 in
set_option maxHeartbeats 8000000 in
theorem rapart (i j : Nat) (a b : Int) (w : World) (hi : i < 4294967296) (hj : j < 4294967296) : Calls Tryd.prog 22 #[netV i a, netV j b] w fun ev w' => ev = .returned (.bool (napart i a j b)) ∧ Kp (fun _ => False) w w' := by
  have hb0 := (Bk.new w 26 #[.int .u32 (i : Int), .int .i64 a]).alloc (.cells #[.int .u32 (j : Int), .int .i64 b] 26)
  have hb1 := Bk.new (w.alloc (.cells #[.int .u32 (i : Int), .int .i64 a] 26)) 26 #[.int .u32 (j : Int), .int .i64 b]
  rw [show (w.alloc (.cells #[.int .u32 (i : Int), .int .i64 a] 26)).heap.size = w.heap.size + 1 by simp] at hb1
  have q0 := hb0.cell 0
  have q1 := hb0.cell 1
  have q2 := hb1.cell 0
  have q3 := hb1.cell 1
  simp only [List.getElem?_toArray, List.getElem?_cons_zero, List.getElem?_cons_succ] at q0 q1 q2 q3
  have K0 := Lib.hid (((Kp.refl (fun _ => False) w).alloc (.cells #[.int .u32 (i : Int), .int .i64 a] 26)).alloc (.cells #[.int .u32 (j : Int), .int .i64 b] 26))
  generalize hW : (w.alloc (.cells #[.int .u32 (i : Int), .int .i64 a] 26)).alloc (.cells #[.int .u32 (j : Int), .int .i64 b] 26) = wb at K0 q0 q1 q2 q3
  have HW := Lib.hid hW
  have C0 := Lib.hid q0
  have C1 := Lib.hid q1
  have C2 := Lib.hid q2
  have C3 := Lib.hid q3
  have KC := Lib.hid ((Kp.refl (fun _ => False) wb).drew)
  clear hb0 hb1 hW q0 q1 q2 q3
  have RA := Lib.hid (fun W => rright i a W hi)
  have RB := Lib.hid (fun W => rright j b W hj)
  cases ra : nright i a with
  | false =>
    rw [ra] at RA
    rw [show napart i a j b = false by unfold napart; rw [ra]; rfl]
    go_enter Tryd.func22, Tryd.ntmps22
    go_wp2_with fail
    rw [HW.out]
    clear HW
    refine wp_region_held_drew (S := (fun w' => Kp (fun _ => False) wb w')) (by kernel_rfl) (KC.out) (fun hHeld => ?_)
    refine wpAnyH_take (i := 0) (v := ?v0_44) rfl (by kernel_rfl) (by kernel_rfl) (by kernel_rfl) (fun _ _ _ h => h) (Or.inl ⟨by rfl, ?y0_44⟩) (by assumption) ?r0_44
    case y0_44 => (intro w hSw; (try dsimp only at hSw); have c0 := kp_kc0 C0.out hSw; have c1 := kp_kc0 C1.out hSw; go_simp; first | done | with_reducible rfl)
    try simp only [Act.put, List.getElem_toArray, List.getElem_cons_succ, List.getElem_cons_zero, List.setIfInBounds_toArray, List.set_cons_zero, List.set_cons_succ]
    refine wpAnyH_ready (rs := [1]) (by kernel_rfl) (by simp) ?_
    refine AllReadyH.cons rfl (fun K hK => ?_) AllReadyH.nil
    go_simp
    with_reducible refine (RA.out _).mono ?_
    rintro ev v1 ⟨rfl, k1⟩
    have KC := Lib.hid (KC.out.trans' k1)
    clear k1
    try dsimp only
    refine hK.out _ _ (KC.out) (fun hHeld => ?_)
    clear hK K
    try simp only [Act.put, List.getElem_toArray, List.getElem_cons_succ, List.getElem_cons_zero, List.setIfInBounds_toArray, List.set_cons_zero, List.set_cons_succ]
    refine wpAnyH_take (i := 2) (v := ?v2_45) rfl (by kernel_rfl) (by kernel_rfl) (by kernel_rfl) (fun _ _ _ h => h) (Or.inl ⟨by rfl, ?y2_45⟩) (by assumption) ?r2_45
    case y2_45 => (intro w hSw; (try dsimp only at hSw); go_simp; first | done | with_reducible rfl)
    try simp only [Act.put, List.getElem_toArray, List.getElem_cons_succ, List.getElem_cons_zero, List.setIfInBounds_toArray, List.set_cons_zero, List.set_cons_succ]
    refine wpAnyH_take (i := 3) (v := undef) rfl (by kernel_rfl) (by kernel_rfl) (by kernel_rfl) (fun _ _ _ h => h) (Or.inr ⟨by rfl, rfl⟩) (by assumption) ?_
    try simp only [Act.put, List.getElem_toArray, List.getElem_cons_succ, List.getElem_cons_zero, List.setIfInBounds_toArray, List.set_cons_zero, List.set_cons_succ]
    refine wpAnyH_take (i := 4) (v := undef) rfl (by kernel_rfl) (by kernel_rfl) (by kernel_rfl) (fun _ _ _ h => h) (Or.inr ⟨by rfl, rfl⟩) (by assumption) ?_
    try simp only [Act.put, List.getElem_toArray, List.getElem_cons_succ, List.getElem_cons_zero, List.setIfInBounds_toArray, List.set_cons_zero, List.set_cons_succ]
    refine wpAnyH_take (i := 5) (v := ?v5_46) rfl (by kernel_rfl) (by kernel_rfl) (by kernel_rfl) (fun _ _ _ h => h) (Or.inl ⟨by rfl, ?y5_46⟩) (by assumption) ?r5_46
    case y5_46 => (intro w hSw; (try dsimp only at hSw); go_simp; first | done | with_reducible rfl)
    try simp only [Act.put, List.getElem_toArray, List.getElem_cons_succ, List.getElem_cons_zero, List.setIfInBounds_toArray, List.set_cons_zero, List.set_cons_succ]
    refine wpAnyH_take (i := 6) (v := ?v6_47) rfl (by kernel_rfl) (by kernel_rfl) (by kernel_rfl) (fun _ _ _ h => h) (Or.inl ⟨by rfl, ?y6_47⟩) (by assumption) ?r6_47
    case y6_47 => (intro w hSw; (try dsimp only at hSw); go_simp; first | done | with_reducible rfl)
    try simp only [Act.put, List.getElem_toArray, List.getElem_cons_succ, List.getElem_cons_zero, List.setIfInBounds_toArray, List.set_cons_zero, List.set_cons_succ]
    refine wpAnyH_take (i := 7) (v := undef) rfl (by kernel_rfl) (by kernel_rfl) (by kernel_rfl) (fun _ _ _ h => h) (Or.inr ⟨by rfl, rfl⟩) (by assumption) ?_
    try simp only [Act.put, List.getElem_toArray, List.getElem_cons_succ, List.getElem_cons_zero, List.setIfInBounds_toArray, List.set_cons_zero, List.set_cons_succ]
    refine wpAnyH_take (i := 8) (v := undef) rfl (by kernel_rfl) (by kernel_rfl) (by kernel_rfl) (fun _ _ _ h => h) (Or.inr ⟨by rfl, rfl⟩) (by assumption) ?_
    try simp only [Act.put, List.getElem_toArray, List.getElem_cons_succ, List.getElem_cons_zero, List.setIfInBounds_toArray, List.set_cons_zero, List.set_cons_succ]
    refine wpAnyH_take (i := 9) (v := undef) rfl (by kernel_rfl) (by kernel_rfl) (by kernel_rfl) (fun _ _ _ h => h) (Or.inr ⟨by rfl, rfl⟩) (by assumption) ?_
    try simp only [Act.put, List.getElem_toArray, List.getElem_cons_succ, List.getElem_cons_zero, List.setIfInBounds_toArray, List.set_cons_zero, List.set_cons_succ]
    refine wpAnyH_take (i := 10) (v := undef) rfl (by kernel_rfl) (by kernel_rfl) (by kernel_rfl) (fun _ _ _ h => h) (Or.inr ⟨by rfl, rfl⟩) (by assumption) ?_
    try simp only [Act.put, List.getElem_toArray, List.getElem_cons_succ, List.getElem_cons_zero, List.setIfInBounds_toArray, List.set_cons_zero, List.set_cons_succ]
    refine wpAnyH_take (i := 11) (v := undef) rfl (by kernel_rfl) (by kernel_rfl) (by kernel_rfl) (fun _ _ _ h => h) (Or.inr ⟨by rfl, rfl⟩) (by assumption) ?_
    try simp only [Act.put, List.getElem_toArray, List.getElem_cons_succ, List.getElem_cons_zero, List.setIfInBounds_toArray, List.set_cons_zero, List.set_cons_succ]
    refine wpAnyH_take (i := 12) (v := undef) rfl (by kernel_rfl) (by kernel_rfl) (by kernel_rfl) (fun _ _ _ h => h) (Or.inr ⟨by rfl, rfl⟩) (by assumption) ?_
    try simp only [Act.put, List.getElem_toArray, List.getElem_cons_succ, List.getElem_cons_zero, List.setIfInBounds_toArray, List.set_cons_zero, List.set_cons_succ]
    refine wpAnyH_take (i := 13) (v := undef) rfl (by kernel_rfl) (by kernel_rfl) (by kernel_rfl) (fun _ _ _ h => h) (Or.inr ⟨by rfl, rfl⟩) (by assumption) ?_
    try simp only [Act.put, List.getElem_toArray, List.getElem_cons_succ, List.getElem_cons_zero, List.setIfInBounds_toArray, List.set_cons_zero, List.set_cons_succ]
    refine wpAnyH_take (i := 14) (v := undef) rfl (by kernel_rfl) (by kernel_rfl) (by kernel_rfl) (fun _ _ _ h => h) (Or.inr ⟨by rfl, rfl⟩) (by assumption) ?_
    try simp only [Act.put, List.getElem_toArray, List.getElem_cons_succ, List.getElem_cons_zero, List.setIfInBounds_toArray, List.set_cons_zero, List.set_cons_succ]
    refine wpAnyH_take (i := 15) (v := undef) rfl (by kernel_rfl) (by kernel_rfl) (by kernel_rfl) (fun _ _ _ h => h) (Or.inr ⟨by rfl, rfl⟩) (by assumption) ?_
    try simp only [Act.put, List.getElem_toArray, List.getElem_cons_succ, List.getElem_cons_zero, List.setIfInBounds_toArray, List.set_cons_zero, List.set_cons_succ]
    refine wpAnyH_take (i := 16) (v := undef) rfl (by kernel_rfl) (by kernel_rfl) (by kernel_rfl) (fun _ _ _ h => h) (Or.inr ⟨by rfl, rfl⟩) (by assumption) ?_
    try simp only [Act.put, List.getElem_toArray, List.getElem_cons_succ, List.getElem_cons_zero, List.setIfInBounds_toArray, List.set_cons_zero, List.set_cons_succ]
    refine wpAnyH_take (i := 17) (v := undef) rfl (by kernel_rfl) (by kernel_rfl) (by kernel_rfl) (fun _ _ _ h => h) (Or.inr ⟨by rfl, rfl⟩) (by assumption) ?_
    try simp only [Act.put, List.getElem_toArray, List.getElem_cons_succ, List.getElem_cons_zero, List.setIfInBounds_toArray, List.set_cons_zero, List.set_cons_succ]
    refine wpAnyH_take (i := 18) (v := undef) rfl (by kernel_rfl) (by kernel_rfl) (by kernel_rfl) (fun _ _ _ h => h) (Or.inr ⟨by rfl, rfl⟩) (by assumption) ?_
    try simp only [Act.put, List.getElem_toArray, List.getElem_cons_succ, List.getElem_cons_zero, List.setIfInBounds_toArray, List.set_cons_zero, List.set_cons_succ]
    refine wpAnyH_take (i := 19) (v := ?v19_48) rfl (by kernel_rfl) (by kernel_rfl) (by kernel_rfl) (fun _ _ _ h => h) (Or.inl ⟨by rfl, ?y19_48⟩) (by assumption) ?r19_48
    case y19_48 => (intro w hSw; (try dsimp only at hSw); go_simp; first | done | with_reducible rfl)
    try simp only [Act.put, List.getElem_toArray, List.getElem_cons_succ, List.getElem_cons_zero, List.setIfInBounds_toArray, List.set_cons_zero, List.set_cons_succ]
    refine wpAnyH_take (i := 20) (v := ?v20_49) rfl (by kernel_rfl) (by kernel_rfl) (by kernel_rfl) (fun _ _ _ h => h) (Or.inl ⟨by rfl, ?y20_49⟩) (by assumption) ?r20_49
    case y20_49 => (intro w hSw; (try dsimp only at hSw); go_simp; first | done | with_reducible rfl)
    try simp only [Act.put, List.getElem_toArray, List.getElem_cons_succ, List.getElem_cons_zero, List.setIfInBounds_toArray, List.set_cons_zero, List.set_cons_succ]
    refine wpAnyH_done (by kernel_rfl) ?_ _
    go_wp2_with fail
    exact bodyPost_ret (results_tmp rfl _ _ _) rfl ⟨rfl, K0.out.trans' KC.out⟩
  | true =>
    cases rb : nright j b with
    | false =>
      rw [ra] at RA
      rw [rb] at RB
      rw [show napart i a j b = false by unfold napart; rw [ra, rb]; rfl]
      go_enter Tryd.func22, Tryd.ntmps22
      go_wp2_with fail
      rw [HW.out]
      clear HW
      refine wp_region_held_drew (S := (fun w' => Kp (fun _ => False) wb w')) (by kernel_rfl) (KC.out) (fun hHeld => ?_)
      refine wpAnyH_take (i := 0) (v := ?v0_50) rfl (by kernel_rfl) (by kernel_rfl) (by kernel_rfl) (fun _ _ _ h => h) (Or.inl ⟨by rfl, ?y0_50⟩) (by assumption) ?r0_50
      case y0_50 => (intro w hSw; (try dsimp only at hSw); have c0 := kp_kc0 C0.out hSw; have c1 := kp_kc0 C1.out hSw; go_simp; first | done | with_reducible rfl)
      try simp only [Act.put, List.getElem_toArray, List.getElem_cons_succ, List.getElem_cons_zero, List.setIfInBounds_toArray, List.set_cons_zero, List.set_cons_succ]
      refine wpAnyH_ready (rs := [1]) (by kernel_rfl) (by simp) ?_
      refine AllReadyH.cons rfl (fun K hK => ?_) AllReadyH.nil
      go_simp
      with_reducible refine (RA.out _).mono ?_
      rintro ev v1 ⟨rfl, k1⟩
      have KC := Lib.hid (KC.out.trans' k1)
      clear k1
      try dsimp only
      refine hK.out _ _ (KC.out) (fun hHeld => ?_)
      clear hK K
      try simp only [Act.put, List.getElem_toArray, List.getElem_cons_succ, List.getElem_cons_zero, List.setIfInBounds_toArray, List.set_cons_zero, List.set_cons_succ]
      refine wpAnyH_take (i := 2) (v := ?v2_51) rfl (by kernel_rfl) (by kernel_rfl) (by kernel_rfl) (fun _ _ _ h => h) (Or.inl ⟨by rfl, ?y2_51⟩) (by assumption) ?r2_51
      case y2_51 => (intro w hSw; (try dsimp only at hSw); go_simp; first | done | with_reducible rfl)
      try simp only [Act.put, List.getElem_toArray, List.getElem_cons_succ, List.getElem_cons_zero, List.setIfInBounds_toArray, List.set_cons_zero, List.set_cons_succ]
      refine wpAnyH_take (i := 3) (v := ?v3_52) rfl (by kernel_rfl) (by kernel_rfl) (by kernel_rfl) (fun _ _ _ h => h) (Or.inl ⟨by rfl, ?y3_52⟩) (by assumption) ?r3_52
      case y3_52 => (intro w hSw; (try dsimp only at hSw); have c2 := kp_kc0 C2.out hSw; have c3 := kp_kc0 C3.out hSw; go_simp; first | done | with_reducible rfl)
      try simp only [Act.put, List.getElem_toArray, List.getElem_cons_succ, List.getElem_cons_zero, List.setIfInBounds_toArray, List.set_cons_zero, List.set_cons_succ]
      refine wpAnyH_ready (rs := [4]) (by kernel_rfl) (by simp) ?_
      refine AllReadyH.cons rfl (fun K hK => ?_) AllReadyH.nil
      go_simp
      with_reducible refine (RB.out _).mono ?_
      rintro ev v4 ⟨rfl, k4⟩
      have KC := Lib.hid (KC.out.trans' k4)
      clear k4
      try dsimp only
      refine hK.out _ _ (KC.out) (fun hHeld => ?_)
      clear hK K
      try simp only [Act.put, List.getElem_toArray, List.getElem_cons_succ, List.getElem_cons_zero, List.setIfInBounds_toArray, List.set_cons_zero, List.set_cons_succ]
      refine wpAnyH_take (i := 5) (v := ?v5_53) rfl (by kernel_rfl) (by kernel_rfl) (by kernel_rfl) (fun _ _ _ h => h) (Or.inl ⟨by rfl, ?y5_53⟩) (by assumption) ?r5_53
      case y5_53 => (intro w hSw; (try dsimp only at hSw); go_simp; first | done | with_reducible rfl)
      try simp only [Act.put, List.getElem_toArray, List.getElem_cons_succ, List.getElem_cons_zero, List.setIfInBounds_toArray, List.set_cons_zero, List.set_cons_succ]
      refine wpAnyH_take (i := 6) (v := ?v6_54) rfl (by kernel_rfl) (by kernel_rfl) (by kernel_rfl) (fun _ _ _ h => h) (Or.inl ⟨by rfl, ?y6_54⟩) (by assumption) ?r6_54
      case y6_54 => (intro w hSw; (try dsimp only at hSw); go_simp; first | done | with_reducible rfl)
      try simp only [Act.put, List.getElem_toArray, List.getElem_cons_succ, List.getElem_cons_zero, List.setIfInBounds_toArray, List.set_cons_zero, List.set_cons_succ]
      refine wpAnyH_take (i := 7) (v := undef) rfl (by kernel_rfl) (by kernel_rfl) (by kernel_rfl) (fun _ _ _ h => h) (Or.inr ⟨by rfl, rfl⟩) (by assumption) ?_
      try simp only [Act.put, List.getElem_toArray, List.getElem_cons_succ, List.getElem_cons_zero, List.setIfInBounds_toArray, List.set_cons_zero, List.set_cons_succ]
      refine wpAnyH_take (i := 8) (v := undef) rfl (by kernel_rfl) (by kernel_rfl) (by kernel_rfl) (fun _ _ _ h => h) (Or.inr ⟨by rfl, rfl⟩) (by assumption) ?_
      try simp only [Act.put, List.getElem_toArray, List.getElem_cons_succ, List.getElem_cons_zero, List.setIfInBounds_toArray, List.set_cons_zero, List.set_cons_succ]
      refine wpAnyH_take (i := 9) (v := undef) rfl (by kernel_rfl) (by kernel_rfl) (by kernel_rfl) (fun _ _ _ h => h) (Or.inr ⟨by rfl, rfl⟩) (by assumption) ?_
      try simp only [Act.put, List.getElem_toArray, List.getElem_cons_succ, List.getElem_cons_zero, List.setIfInBounds_toArray, List.set_cons_zero, List.set_cons_succ]
      refine wpAnyH_take (i := 10) (v := undef) rfl (by kernel_rfl) (by kernel_rfl) (by kernel_rfl) (fun _ _ _ h => h) (Or.inr ⟨by rfl, rfl⟩) (by assumption) ?_
      try simp only [Act.put, List.getElem_toArray, List.getElem_cons_succ, List.getElem_cons_zero, List.setIfInBounds_toArray, List.set_cons_zero, List.set_cons_succ]
      refine wpAnyH_take (i := 11) (v := undef) rfl (by kernel_rfl) (by kernel_rfl) (by kernel_rfl) (fun _ _ _ h => h) (Or.inr ⟨by rfl, rfl⟩) (by assumption) ?_
      try simp only [Act.put, List.getElem_toArray, List.getElem_cons_succ, List.getElem_cons_zero, List.setIfInBounds_toArray, List.set_cons_zero, List.set_cons_succ]
      refine wpAnyH_take (i := 12) (v := undef) rfl (by kernel_rfl) (by kernel_rfl) (by kernel_rfl) (fun _ _ _ h => h) (Or.inr ⟨by rfl, rfl⟩) (by assumption) ?_
      try simp only [Act.put, List.getElem_toArray, List.getElem_cons_succ, List.getElem_cons_zero, List.setIfInBounds_toArray, List.set_cons_zero, List.set_cons_succ]
      refine wpAnyH_take (i := 13) (v := undef) rfl (by kernel_rfl) (by kernel_rfl) (by kernel_rfl) (fun _ _ _ h => h) (Or.inr ⟨by rfl, rfl⟩) (by assumption) ?_
      try simp only [Act.put, List.getElem_toArray, List.getElem_cons_succ, List.getElem_cons_zero, List.setIfInBounds_toArray, List.set_cons_zero, List.set_cons_succ]
      refine wpAnyH_take (i := 14) (v := undef) rfl (by kernel_rfl) (by kernel_rfl) (by kernel_rfl) (fun _ _ _ h => h) (Or.inr ⟨by rfl, rfl⟩) (by assumption) ?_
      try simp only [Act.put, List.getElem_toArray, List.getElem_cons_succ, List.getElem_cons_zero, List.setIfInBounds_toArray, List.set_cons_zero, List.set_cons_succ]
      refine wpAnyH_take (i := 15) (v := undef) rfl (by kernel_rfl) (by kernel_rfl) (by kernel_rfl) (fun _ _ _ h => h) (Or.inr ⟨by rfl, rfl⟩) (by assumption) ?_
      try simp only [Act.put, List.getElem_toArray, List.getElem_cons_succ, List.getElem_cons_zero, List.setIfInBounds_toArray, List.set_cons_zero, List.set_cons_succ]
      refine wpAnyH_take (i := 16) (v := undef) rfl (by kernel_rfl) (by kernel_rfl) (by kernel_rfl) (fun _ _ _ h => h) (Or.inr ⟨by rfl, rfl⟩) (by assumption) ?_
      try simp only [Act.put, List.getElem_toArray, List.getElem_cons_succ, List.getElem_cons_zero, List.setIfInBounds_toArray, List.set_cons_zero, List.set_cons_succ]
      refine wpAnyH_take (i := 17) (v := undef) rfl (by kernel_rfl) (by kernel_rfl) (by kernel_rfl) (fun _ _ _ h => h) (Or.inr ⟨by rfl, rfl⟩) (by assumption) ?_
      try simp only [Act.put, List.getElem_toArray, List.getElem_cons_succ, List.getElem_cons_zero, List.setIfInBounds_toArray, List.set_cons_zero, List.set_cons_succ]
      refine wpAnyH_take (i := 18) (v := undef) rfl (by kernel_rfl) (by kernel_rfl) (by kernel_rfl) (fun _ _ _ h => h) (Or.inr ⟨by rfl, rfl⟩) (by assumption) ?_
      try simp only [Act.put, List.getElem_toArray, List.getElem_cons_succ, List.getElem_cons_zero, List.setIfInBounds_toArray, List.set_cons_zero, List.set_cons_succ]
      refine wpAnyH_take (i := 19) (v := ?v19_55) rfl (by kernel_rfl) (by kernel_rfl) (by kernel_rfl) (fun _ _ _ h => h) (Or.inl ⟨by rfl, ?y19_55⟩) (by assumption) ?r19_55
      case y19_55 => (intro w hSw; (try dsimp only at hSw); go_simp; first | done | with_reducible rfl)
      try simp only [Act.put, List.getElem_toArray, List.getElem_cons_succ, List.getElem_cons_zero, List.setIfInBounds_toArray, List.set_cons_zero, List.set_cons_succ]
      refine wpAnyH_take (i := 20) (v := ?v20_56) rfl (by kernel_rfl) (by kernel_rfl) (by kernel_rfl) (fun _ _ _ h => h) (Or.inl ⟨by rfl, ?y20_56⟩) (by assumption) ?r20_56
      case y20_56 => (intro w hSw; (try dsimp only at hSw); go_simp; first | done | with_reducible rfl)
      try simp only [Act.put, List.getElem_toArray, List.getElem_cons_succ, List.getElem_cons_zero, List.setIfInBounds_toArray, List.set_cons_zero, List.set_cons_succ]
      refine wpAnyH_done (by kernel_rfl) ?_ _
      go_wp2_with fail
      exact bodyPost_ret (results_tmp rfl _ _ _) rfl ⟨rfl, K0.out.trans' KC.out⟩
    | true =>
      rw [napart_ref ra rb]
      rw [ra] at RA
      rw [rb] at RB
      have L1 := Lib.hid (fun W => rlast i a W hi)
      have B1 := Lib.hid (fun W => rbase j b W hj)
      have L2 := Lib.hid (fun W => rlast j b W hj)
      have B2 := Lib.hid (fun W => rbase i a W hi)
      generalize nlast i a = l1 at *
      generalize nlast j b = l2 at *
      generalize nbase i a = b1 at *
      generalize nbase j b = b2 at *
      by_cases h1 : l1 < b2
      · have h1' : (l1 : Int) < (b2 : Int) := by omega
        rw [show (decide (l1 < b2) || decide (l2 < b1)) = true by simp [h1]]
        go_enter Tryd.func22, Tryd.ntmps22
        go_wp2_with fail
        rw [HW.out]
        clear HW
        refine wp_region_held_drew (S := (fun w' => Kp (fun _ => False) wb w')) (by kernel_rfl) (KC.out) (fun hHeld => ?_)
        refine wpAnyH_take (i := 0) (v := ?v0_57) rfl (by kernel_rfl) (by kernel_rfl) (by kernel_rfl) (fun _ _ _ h => h) (Or.inl ⟨by rfl, ?y0_57⟩) (by assumption) ?r0_57
        case y0_57 => (intro w hSw; (try dsimp only at hSw); have c0 := kp_kc0 C0.out hSw; have c1 := kp_kc0 C1.out hSw; go_simp; first | done | with_reducible rfl)
        try simp only [Act.put, List.getElem_toArray, List.getElem_cons_succ, List.getElem_cons_zero, List.setIfInBounds_toArray, List.set_cons_zero, List.set_cons_succ]
        refine wpAnyH_ready (rs := [1]) (by kernel_rfl) (by simp) ?_
        refine AllReadyH.cons rfl (fun K hK => ?_) AllReadyH.nil
        go_simp
        with_reducible refine (RA.out _).mono ?_
        rintro ev v1 ⟨rfl, k1⟩
        have KC := Lib.hid (KC.out.trans' k1)
        clear k1
        try dsimp only
        refine hK.out _ _ (KC.out) (fun hHeld => ?_)
        clear hK K
        try simp only [Act.put, List.getElem_toArray, List.getElem_cons_succ, List.getElem_cons_zero, List.setIfInBounds_toArray, List.set_cons_zero, List.set_cons_succ]
        refine wpAnyH_take (i := 2) (v := ?v2_58) rfl (by kernel_rfl) (by kernel_rfl) (by kernel_rfl) (fun _ _ _ h => h) (Or.inl ⟨by rfl, ?y2_58⟩) (by assumption) ?r2_58
        case y2_58 => (intro w hSw; (try dsimp only at hSw); go_simp; first | done | with_reducible rfl)
        try simp only [Act.put, List.getElem_toArray, List.getElem_cons_succ, List.getElem_cons_zero, List.setIfInBounds_toArray, List.set_cons_zero, List.set_cons_succ]
        refine wpAnyH_take (i := 3) (v := ?v3_59) rfl (by kernel_rfl) (by kernel_rfl) (by kernel_rfl) (fun _ _ _ h => h) (Or.inl ⟨by rfl, ?y3_59⟩) (by assumption) ?r3_59
        case y3_59 => (intro w hSw; (try dsimp only at hSw); have c2 := kp_kc0 C2.out hSw; have c3 := kp_kc0 C3.out hSw; go_simp; first | done | with_reducible rfl)
        try simp only [Act.put, List.getElem_toArray, List.getElem_cons_succ, List.getElem_cons_zero, List.setIfInBounds_toArray, List.set_cons_zero, List.set_cons_succ]
        refine wpAnyH_ready (rs := [4]) (by kernel_rfl) (by simp) ?_
        refine AllReadyH.cons rfl (fun K hK => ?_) AllReadyH.nil
        go_simp
        with_reducible refine (RB.out _).mono ?_
        rintro ev v4 ⟨rfl, k4⟩
        have KC := Lib.hid (KC.out.trans' k4)
        clear k4
        try dsimp only
        refine hK.out _ _ (KC.out) (fun hHeld => ?_)
        clear hK K
        try simp only [Act.put, List.getElem_toArray, List.getElem_cons_succ, List.getElem_cons_zero, List.setIfInBounds_toArray, List.set_cons_zero, List.set_cons_succ]
        refine wpAnyH_take (i := 5) (v := ?v5_60) rfl (by kernel_rfl) (by kernel_rfl) (by kernel_rfl) (fun _ _ _ h => h) (Or.inl ⟨by rfl, ?y5_60⟩) (by assumption) ?r5_60
        case y5_60 => (intro w hSw; (try dsimp only at hSw); go_simp; first | done | with_reducible rfl)
        try simp only [Act.put, List.getElem_toArray, List.getElem_cons_succ, List.getElem_cons_zero, List.setIfInBounds_toArray, List.set_cons_zero, List.set_cons_succ]
        refine wpAnyH_take (i := 6) (v := ?v6_61) rfl (by kernel_rfl) (by kernel_rfl) (by kernel_rfl) (fun _ _ _ h => h) (Or.inl ⟨by rfl, ?y6_61⟩) (by assumption) ?r6_61
        case y6_61 => (intro w hSw; (try dsimp only at hSw); go_simp; first | done | with_reducible rfl)
        try simp only [Act.put, List.getElem_toArray, List.getElem_cons_succ, List.getElem_cons_zero, List.setIfInBounds_toArray, List.set_cons_zero, List.set_cons_succ]
        refine wpAnyH_take (i := 7) (v := ?v7_62) rfl (by kernel_rfl) (by kernel_rfl) (by kernel_rfl) (fun _ _ _ h => h) (Or.inl ⟨by rfl, ?y7_62⟩) (by assumption) ?r7_62
        case y7_62 => (intro w hSw; (try dsimp only at hSw); have c0 := kp_kc0 C0.out hSw; have c1 := kp_kc0 C1.out hSw; go_simp; first | done | with_reducible rfl)
        try simp only [Act.put, List.getElem_toArray, List.getElem_cons_succ, List.getElem_cons_zero, List.setIfInBounds_toArray, List.set_cons_zero, List.set_cons_succ]
        refine wpAnyH_take (i := 9) (v := ?v9_63) rfl (by kernel_rfl) (by kernel_rfl) (by kernel_rfl) (fun _ _ _ h => h) (Or.inl ⟨by rfl, ?y9_63⟩) (by assumption) ?r9_63
        case y9_63 => (intro w hSw; (try dsimp only at hSw); have c2 := kp_kc0 C2.out hSw; have c3 := kp_kc0 C3.out hSw; go_simp; first | done | with_reducible rfl)
        try simp only [Act.put, List.getElem_toArray, List.getElem_cons_succ, List.getElem_cons_zero, List.setIfInBounds_toArray, List.set_cons_zero, List.set_cons_succ]
        refine wpAnyH_ready (rs := [8]) (by kernel_rfl) (by simp) ?_
        refine AllReadyH.cons rfl (fun K hK => ?_) AllReadyH.nil
        go_simp
        with_reducible refine (L1.out _).mono ?_
        rintro ev v8 ⟨rfl, k8⟩
        have KC := Lib.hid (KC.out.trans' k8)
        clear k8
        try dsimp only
        refine hK.out _ _ (KC.out) (fun hHeld => ?_)
        clear hK K
        try simp only [Act.put, List.getElem_toArray, List.getElem_cons_succ, List.getElem_cons_zero, List.setIfInBounds_toArray, List.set_cons_zero, List.set_cons_succ]
        refine wpAnyH_ready (rs := [10]) (by kernel_rfl) (by simp) ?_
        refine AllReadyH.cons rfl (fun K hK => ?_) AllReadyH.nil
        go_simp
        with_reducible refine (B1.out _).mono ?_
        rintro ev v10 ⟨rfl, k10⟩
        have KC := Lib.hid (KC.out.trans' k10)
        clear k10
        try dsimp only
        refine hK.out _ _ (KC.out) (fun hHeld => ?_)
        clear hK K
        try simp only [Act.put, List.getElem_toArray, List.getElem_cons_succ, List.getElem_cons_zero, List.setIfInBounds_toArray, List.set_cons_zero, List.set_cons_succ]
        refine wpAnyH_take (i := 11) (v := ?v11_64) rfl (by kernel_rfl) (by kernel_rfl) (by kernel_rfl) (fun _ _ _ h => h) (Or.inl ⟨by rfl, ?y11_64⟩) (by assumption) ?r11_64
        case y11_64 => (intro w hSw; (try dsimp only at hSw); go_simp; first | done | with_reducible rfl)
        try simp only [Act.put, List.getElem_toArray, List.getElem_cons_succ, List.getElem_cons_zero, List.setIfInBounds_toArray, List.set_cons_zero, List.set_cons_succ]
        refine wpAnyH_take (i := 12) (v := ?v12_65) rfl (by kernel_rfl) (by kernel_rfl) (by kernel_rfl) (fun _ _ _ h => h) (Or.inl ⟨by rfl, ?y12_65⟩) (by assumption) ?r12_65
        case y12_65 => (intro w hSw; (try dsimp only at hSw); go_simp; first | done | with_reducible rfl)
        try simp only [Act.put, List.getElem_toArray, List.getElem_cons_succ, List.getElem_cons_zero, List.setIfInBounds_toArray, List.set_cons_zero, List.set_cons_succ]
        refine wpAnyH_take (i := 13) (v := undef) rfl (by kernel_rfl) (by kernel_rfl) (by kernel_rfl) (fun _ _ _ h => h) (Or.inr ⟨by rfl, rfl⟩) (by assumption) ?_
        try simp only [Act.put, List.getElem_toArray, List.getElem_cons_succ, List.getElem_cons_zero, List.setIfInBounds_toArray, List.set_cons_zero, List.set_cons_succ]
        refine wpAnyH_take (i := 14) (v := undef) rfl (by kernel_rfl) (by kernel_rfl) (by kernel_rfl) (fun _ _ _ h => h) (Or.inr ⟨by rfl, rfl⟩) (by assumption) ?_
        try simp only [Act.put, List.getElem_toArray, List.getElem_cons_succ, List.getElem_cons_zero, List.setIfInBounds_toArray, List.set_cons_zero, List.set_cons_succ]
        refine wpAnyH_take (i := 15) (v := undef) rfl (by kernel_rfl) (by kernel_rfl) (by kernel_rfl) (fun _ _ _ h => h) (Or.inr ⟨by rfl, rfl⟩) (by assumption) ?_
        try simp only [Act.put, List.getElem_toArray, List.getElem_cons_succ, List.getElem_cons_zero, List.setIfInBounds_toArray, List.set_cons_zero, List.set_cons_succ]
        refine wpAnyH_take (i := 16) (v := undef) rfl (by kernel_rfl) (by kernel_rfl) (by kernel_rfl) (fun _ _ _ h => h) (Or.inr ⟨by rfl, rfl⟩) (by assumption) ?_
        try simp only [Act.put, List.getElem_toArray, List.getElem_cons_succ, List.getElem_cons_zero, List.setIfInBounds_toArray, List.set_cons_zero, List.set_cons_succ]
        refine wpAnyH_take (i := 17) (v := undef) rfl (by kernel_rfl) (by kernel_rfl) (by kernel_rfl) (fun _ _ _ h => h) (Or.inr ⟨by rfl, rfl⟩) (by assumption) ?_
        try simp only [Act.put, List.getElem_toArray, List.getElem_cons_succ, List.getElem_cons_zero, List.setIfInBounds_toArray, List.set_cons_zero, List.set_cons_succ]
        refine wpAnyH_take (i := 18) (v := ?v18_66) rfl (by kernel_rfl) (by kernel_rfl) (by kernel_rfl) (fun _ _ _ h => h) (Or.inl ⟨by rfl, ?y18_66⟩) (by assumption) ?r18_66
        case y18_66 => (intro w hSw; (try dsimp only at hSw); go_simp; first | done | with_reducible rfl)
        try simp only [Act.put, List.getElem_toArray, List.getElem_cons_succ, List.getElem_cons_zero, List.setIfInBounds_toArray, List.set_cons_zero, List.set_cons_succ]
        refine wpAnyH_take (i := 19) (v := ?v19_67) rfl (by kernel_rfl) (by kernel_rfl) (by kernel_rfl) (fun _ _ _ h => h) (Or.inl ⟨by rfl, ?y19_67⟩) (by assumption) ?r19_67
        case y19_67 => (intro w hSw; (try dsimp only at hSw); go_simp; first | done | with_reducible rfl)
        try simp only [Act.put, List.getElem_toArray, List.getElem_cons_succ, List.getElem_cons_zero, List.setIfInBounds_toArray, List.set_cons_zero, List.set_cons_succ]
        refine wpAnyH_take (i := 20) (v := ?v20_68) rfl (by kernel_rfl) (by kernel_rfl) (by kernel_rfl) (fun _ _ _ h => h) (Or.inl ⟨by rfl, ?y20_68⟩) (by assumption) ?r20_68
        case y20_68 => (intro w hSw; (try dsimp only at hSw); go_simp; first | done | with_reducible rfl)
        try simp only [Act.put, List.getElem_toArray, List.getElem_cons_succ, List.getElem_cons_zero, List.setIfInBounds_toArray, List.set_cons_zero, List.set_cons_succ]
        refine wpAnyH_done (by kernel_rfl) ?_ _
        go_wp2_with fail
        exact bodyPost_ret (results_tmp rfl _ _ _) rfl ⟨rfl, K0.out.trans' KC.out⟩
      · have h1' : ¬ (l1 : Int) < (b2 : Int) := by omega
        rw [show (decide (l1 < b2) || decide (l2 < b1)) = decide (l2 < b1) by simp [h1]]
        by_cases h2 : l2 < b1
        · have h2' : (l2 : Int) < (b1 : Int) := by omega
          rw [decide_eq_true h2]
          go_enter Tryd.func22, Tryd.ntmps22
          go_wp2_with fail
          rw [HW.out]
          clear HW
          refine wp_region_held_drew (S := (fun w' => Kp (fun _ => False) wb w')) (by kernel_rfl) (KC.out) (fun hHeld => ?_)
          refine wpAnyH_take (i := 0) (v := ?v0_69) rfl (by kernel_rfl) (by kernel_rfl) (by kernel_rfl) (fun _ _ _ h => h) (Or.inl ⟨by rfl, ?y0_69⟩) (by assumption) ?r0_69
          case y0_69 => (intro w hSw; (try dsimp only at hSw); have c0 := kp_kc0 C0.out hSw; have c1 := kp_kc0 C1.out hSw; go_simp; first | done | with_reducible rfl)
          try simp only [Act.put, List.getElem_toArray, List.getElem_cons_succ, List.getElem_cons_zero, List.setIfInBounds_toArray, List.set_cons_zero, List.set_cons_succ]
          refine wpAnyH_ready (rs := [1]) (by kernel_rfl) (by simp) ?_
          refine AllReadyH.cons rfl (fun K hK => ?_) AllReadyH.nil
          go_simp
          with_reducible refine (RA.out _).mono ?_
          rintro ev v1 ⟨rfl, k1⟩
          have KC := Lib.hid (KC.out.trans' k1)
          clear k1
          try dsimp only
          refine hK.out _ _ (KC.out) (fun hHeld => ?_)
          clear hK K
          try simp only [Act.put, List.getElem_toArray, List.getElem_cons_succ, List.getElem_cons_zero, List.setIfInBounds_toArray, List.set_cons_zero, List.set_cons_succ]
          refine wpAnyH_take (i := 2) (v := ?v2_70) rfl (by kernel_rfl) (by kernel_rfl) (by kernel_rfl) (fun _ _ _ h => h) (Or.inl ⟨by rfl, ?y2_70⟩) (by assumption) ?r2_70
          case y2_70 => (intro w hSw; (try dsimp only at hSw); go_simp; first | done | with_reducible rfl)
          try simp only [Act.put, List.getElem_toArray, List.getElem_cons_succ, List.getElem_cons_zero, List.setIfInBounds_toArray, List.set_cons_zero, List.set_cons_succ]
          refine wpAnyH_take (i := 3) (v := ?v3_71) rfl (by kernel_rfl) (by kernel_rfl) (by kernel_rfl) (fun _ _ _ h => h) (Or.inl ⟨by rfl, ?y3_71⟩) (by assumption) ?r3_71
          case y3_71 => (intro w hSw; (try dsimp only at hSw); have c2 := kp_kc0 C2.out hSw; have c3 := kp_kc0 C3.out hSw; go_simp; first | done | with_reducible rfl)
          try simp only [Act.put, List.getElem_toArray, List.getElem_cons_succ, List.getElem_cons_zero, List.setIfInBounds_toArray, List.set_cons_zero, List.set_cons_succ]
          refine wpAnyH_ready (rs := [4]) (by kernel_rfl) (by simp) ?_
          refine AllReadyH.cons rfl (fun K hK => ?_) AllReadyH.nil
          go_simp
          with_reducible refine (RB.out _).mono ?_
          rintro ev v4 ⟨rfl, k4⟩
          have KC := Lib.hid (KC.out.trans' k4)
          clear k4
          try dsimp only
          refine hK.out _ _ (KC.out) (fun hHeld => ?_)
          clear hK K
          try simp only [Act.put, List.getElem_toArray, List.getElem_cons_succ, List.getElem_cons_zero, List.setIfInBounds_toArray, List.set_cons_zero, List.set_cons_succ]
          refine wpAnyH_take (i := 5) (v := ?v5_72) rfl (by kernel_rfl) (by kernel_rfl) (by kernel_rfl) (fun _ _ _ h => h) (Or.inl ⟨by rfl, ?y5_72⟩) (by assumption) ?r5_72
          case y5_72 => (intro w hSw; (try dsimp only at hSw); go_simp; first | done | with_reducible rfl)
          try simp only [Act.put, List.getElem_toArray, List.getElem_cons_succ, List.getElem_cons_zero, List.setIfInBounds_toArray, List.set_cons_zero, List.set_cons_succ]
          refine wpAnyH_take (i := 6) (v := ?v6_73) rfl (by kernel_rfl) (by kernel_rfl) (by kernel_rfl) (fun _ _ _ h => h) (Or.inl ⟨by rfl, ?y6_73⟩) (by assumption) ?r6_73
          case y6_73 => (intro w hSw; (try dsimp only at hSw); go_simp; first | done | with_reducible rfl)
          try simp only [Act.put, List.getElem_toArray, List.getElem_cons_succ, List.getElem_cons_zero, List.setIfInBounds_toArray, List.set_cons_zero, List.set_cons_succ]
          refine wpAnyH_take (i := 7) (v := ?v7_74) rfl (by kernel_rfl) (by kernel_rfl) (by kernel_rfl) (fun _ _ _ h => h) (Or.inl ⟨by rfl, ?y7_74⟩) (by assumption) ?r7_74
          case y7_74 => (intro w hSw; (try dsimp only at hSw); have c0 := kp_kc0 C0.out hSw; have c1 := kp_kc0 C1.out hSw; go_simp; first | done | with_reducible rfl)
          try simp only [Act.put, List.getElem_toArray, List.getElem_cons_succ, List.getElem_cons_zero, List.setIfInBounds_toArray, List.set_cons_zero, List.set_cons_succ]
          refine wpAnyH_take (i := 9) (v := ?v9_75) rfl (by kernel_rfl) (by kernel_rfl) (by kernel_rfl) (fun _ _ _ h => h) (Or.inl ⟨by rfl, ?y9_75⟩) (by assumption) ?r9_75
          case y9_75 => (intro w hSw; (try dsimp only at hSw); have c2 := kp_kc0 C2.out hSw; have c3 := kp_kc0 C3.out hSw; go_simp; first | done | with_reducible rfl)
          try simp only [Act.put, List.getElem_toArray, List.getElem_cons_succ, List.getElem_cons_zero, List.setIfInBounds_toArray, List.set_cons_zero, List.set_cons_succ]
          refine wpAnyH_ready (rs := [8]) (by kernel_rfl) (by simp) ?_
          refine AllReadyH.cons rfl (fun K hK => ?_) AllReadyH.nil
          go_simp
          with_reducible refine (L1.out _).mono ?_
          rintro ev v8 ⟨rfl, k8⟩
          have KC := Lib.hid (KC.out.trans' k8)
          clear k8
          try dsimp only
          refine hK.out _ _ (KC.out) (fun hHeld => ?_)
          clear hK K
          try simp only [Act.put, List.getElem_toArray, List.getElem_cons_succ, List.getElem_cons_zero, List.setIfInBounds_toArray, List.set_cons_zero, List.set_cons_succ]
          refine wpAnyH_ready (rs := [10]) (by kernel_rfl) (by simp) ?_
          refine AllReadyH.cons rfl (fun K hK => ?_) AllReadyH.nil
          go_simp
          with_reducible refine (B1.out _).mono ?_
          rintro ev v10 ⟨rfl, k10⟩
          have KC := Lib.hid (KC.out.trans' k10)
          clear k10
          try dsimp only
          refine hK.out _ _ (KC.out) (fun hHeld => ?_)
          clear hK K
          try simp only [Act.put, List.getElem_toArray, List.getElem_cons_succ, List.getElem_cons_zero, List.setIfInBounds_toArray, List.set_cons_zero, List.set_cons_succ]
          refine wpAnyH_take (i := 11) (v := ?v11_76) rfl (by kernel_rfl) (by kernel_rfl) (by kernel_rfl) (fun _ _ _ h => h) (Or.inl ⟨by rfl, ?y11_76⟩) (by assumption) ?r11_76
          case y11_76 => (intro w hSw; (try dsimp only at hSw); go_simp; first | done | with_reducible rfl)
          try simp only [Act.put, List.getElem_toArray, List.getElem_cons_succ, List.getElem_cons_zero, List.setIfInBounds_toArray, List.set_cons_zero, List.set_cons_succ]
          refine wpAnyH_take (i := 12) (v := ?v12_77) rfl (by kernel_rfl) (by kernel_rfl) (by kernel_rfl) (fun _ _ _ h => h) (Or.inl ⟨by rfl, ?y12_77⟩) (by assumption) ?r12_77
          case y12_77 => (intro w hSw; (try dsimp only at hSw); go_simp; first | done | with_reducible rfl)
          try simp only [Act.put, List.getElem_toArray, List.getElem_cons_succ, List.getElem_cons_zero, List.setIfInBounds_toArray, List.set_cons_zero, List.set_cons_succ]
          refine wpAnyH_take (i := 13) (v := ?v13_78) rfl (by kernel_rfl) (by kernel_rfl) (by kernel_rfl) (fun _ _ _ h => h) (Or.inl ⟨by rfl, ?y13_78⟩) (by assumption) ?r13_78
          case y13_78 => (intro w hSw; (try dsimp only at hSw); have c2 := kp_kc0 C2.out hSw; have c3 := kp_kc0 C3.out hSw; go_simp; first | done | with_reducible rfl)
          try simp only [Act.put, List.getElem_toArray, List.getElem_cons_succ, List.getElem_cons_zero, List.setIfInBounds_toArray, List.set_cons_zero, List.set_cons_succ]
          refine wpAnyH_take (i := 15) (v := ?v15_79) rfl (by kernel_rfl) (by kernel_rfl) (by kernel_rfl) (fun _ _ _ h => h) (Or.inl ⟨by rfl, ?y15_79⟩) (by assumption) ?r15_79
          case y15_79 => (intro w hSw; (try dsimp only at hSw); have c0 := kp_kc0 C0.out hSw; have c1 := kp_kc0 C1.out hSw; go_simp; first | done | with_reducible rfl)
          try simp only [Act.put, List.getElem_toArray, List.getElem_cons_succ, List.getElem_cons_zero, List.setIfInBounds_toArray, List.set_cons_zero, List.set_cons_succ]
          refine wpAnyH_ready (rs := [14]) (by kernel_rfl) (by simp) ?_
          refine AllReadyH.cons rfl (fun K hK => ?_) AllReadyH.nil
          go_simp
          with_reducible refine (L2.out _).mono ?_
          rintro ev v14 ⟨rfl, k14⟩
          have KC := Lib.hid (KC.out.trans' k14)
          clear k14
          try dsimp only
          refine hK.out _ _ (KC.out) (fun hHeld => ?_)
          clear hK K
          try simp only [Act.put, List.getElem_toArray, List.getElem_cons_succ, List.getElem_cons_zero, List.setIfInBounds_toArray, List.set_cons_zero, List.set_cons_succ]
          refine wpAnyH_ready (rs := [16]) (by kernel_rfl) (by simp) ?_
          refine AllReadyH.cons rfl (fun K hK => ?_) AllReadyH.nil
          go_simp
          with_reducible refine (B2.out _).mono ?_
          rintro ev v16 ⟨rfl, k16⟩
          have KC := Lib.hid (KC.out.trans' k16)
          clear k16
          try dsimp only
          refine hK.out _ _ (KC.out) (fun hHeld => ?_)
          clear hK K
          try simp only [Act.put, List.getElem_toArray, List.getElem_cons_succ, List.getElem_cons_zero, List.setIfInBounds_toArray, List.set_cons_zero, List.set_cons_succ]
          refine wpAnyH_take (i := 17) (v := ?v17_80) rfl (by kernel_rfl) (by kernel_rfl) (by kernel_rfl) (fun _ _ _ h => h) (Or.inl ⟨by rfl, ?y17_80⟩) (by assumption) ?r17_80
          case y17_80 => (intro w hSw; (try dsimp only at hSw); go_simp; first | done | with_reducible rfl)
          try simp only [Act.put, List.getElem_toArray, List.getElem_cons_succ, List.getElem_cons_zero, List.setIfInBounds_toArray, List.set_cons_zero, List.set_cons_succ]
          refine wpAnyH_take (i := 18) (v := ?v18_81) rfl (by kernel_rfl) (by kernel_rfl) (by kernel_rfl) (fun _ _ _ h => h) (Or.inl ⟨by rfl, ?y18_81⟩) (by assumption) ?r18_81
          case y18_81 => (intro w hSw; (try dsimp only at hSw); go_simp; first | done | with_reducible rfl)
          try simp only [Act.put, List.getElem_toArray, List.getElem_cons_succ, List.getElem_cons_zero, List.setIfInBounds_toArray, List.set_cons_zero, List.set_cons_succ]
          refine wpAnyH_take (i := 19) (v := ?v19_82) rfl (by kernel_rfl) (by kernel_rfl) (by kernel_rfl) (fun _ _ _ h => h) (Or.inl ⟨by rfl, ?y19_82⟩) (by assumption) ?r19_82
          case y19_82 => (intro w hSw; (try dsimp only at hSw); go_simp; first | done | with_reducible rfl)
          try simp only [Act.put, List.getElem_toArray, List.getElem_cons_succ, List.getElem_cons_zero, List.setIfInBounds_toArray, List.set_cons_zero, List.set_cons_succ]
          refine wpAnyH_take (i := 20) (v := ?v20_83) rfl (by kernel_rfl) (by kernel_rfl) (by kernel_rfl) (fun _ _ _ h => h) (Or.inl ⟨by rfl, ?y20_83⟩) (by assumption) ?r20_83
          case y20_83 => (intro w hSw; (try dsimp only at hSw); go_simp; first | done | with_reducible rfl)
          try simp only [Act.put, List.getElem_toArray, List.getElem_cons_succ, List.getElem_cons_zero, List.setIfInBounds_toArray, List.set_cons_zero, List.set_cons_succ]
          refine wpAnyH_done (by kernel_rfl) ?_ _
          go_wp2_with fail
          exact bodyPost_ret (results_tmp rfl _ _ _) rfl ⟨rfl, K0.out.trans' KC.out⟩
        · have h2' : ¬ (l2 : Int) < (b1 : Int) := by omega
          rw [decide_eq_false h2]
          go_enter Tryd.func22, Tryd.ntmps22
          go_wp2_with fail
          rw [HW.out]
          clear HW
          refine wp_region_held_drew (S := (fun w' => Kp (fun _ => False) wb w')) (by kernel_rfl) (KC.out) (fun hHeld => ?_)
          refine wpAnyH_take (i := 0) (v := ?v0_84) rfl (by kernel_rfl) (by kernel_rfl) (by kernel_rfl) (fun _ _ _ h => h) (Or.inl ⟨by rfl, ?y0_84⟩) (by assumption) ?r0_84
          case y0_84 => (intro w hSw; (try dsimp only at hSw); have c0 := kp_kc0 C0.out hSw; have c1 := kp_kc0 C1.out hSw; go_simp; first | done | with_reducible rfl)
          try simp only [Act.put, List.getElem_toArray, List.getElem_cons_succ, List.getElem_cons_zero, List.setIfInBounds_toArray, List.set_cons_zero, List.set_cons_succ]
          refine wpAnyH_ready (rs := [1]) (by kernel_rfl) (by simp) ?_
          refine AllReadyH.cons rfl (fun K hK => ?_) AllReadyH.nil
          go_simp
          with_reducible refine (RA.out _).mono ?_
          rintro ev v1 ⟨rfl, k1⟩
          have KC := Lib.hid (KC.out.trans' k1)
          clear k1
          try dsimp only
          refine hK.out _ _ (KC.out) (fun hHeld => ?_)
          clear hK K
          try simp only [Act.put, List.getElem_toArray, List.getElem_cons_succ, List.getElem_cons_zero, List.setIfInBounds_toArray, List.set_cons_zero, List.set_cons_succ]
          refine wpAnyH_take (i := 2) (v := ?v2_85) rfl (by kernel_rfl) (by kernel_rfl) (by kernel_rfl) (fun _ _ _ h => h) (Or.inl ⟨by rfl, ?y2_85⟩) (by assumption) ?r2_85
          case y2_85 => (intro w hSw; (try dsimp only at hSw); go_simp; first | done | with_reducible rfl)
          try simp only [Act.put, List.getElem_toArray, List.getElem_cons_succ, List.getElem_cons_zero, List.setIfInBounds_toArray, List.set_cons_zero, List.set_cons_succ]
          refine wpAnyH_take (i := 3) (v := ?v3_86) rfl (by kernel_rfl) (by kernel_rfl) (by kernel_rfl) (fun _ _ _ h => h) (Or.inl ⟨by rfl, ?y3_86⟩) (by assumption) ?r3_86
          case y3_86 => (intro w hSw; (try dsimp only at hSw); have c2 := kp_kc0 C2.out hSw; have c3 := kp_kc0 C3.out hSw; go_simp; first | done | with_reducible rfl)
          try simp only [Act.put, List.getElem_toArray, List.getElem_cons_succ, List.getElem_cons_zero, List.setIfInBounds_toArray, List.set_cons_zero, List.set_cons_succ]
          refine wpAnyH_ready (rs := [4]) (by kernel_rfl) (by simp) ?_
          refine AllReadyH.cons rfl (fun K hK => ?_) AllReadyH.nil
          go_simp
          with_reducible refine (RB.out _).mono ?_
          rintro ev v4 ⟨rfl, k4⟩
          have KC := Lib.hid (KC.out.trans' k4)
          clear k4
          try dsimp only
          refine hK.out _ _ (KC.out) (fun hHeld => ?_)
          clear hK K
          try simp only [Act.put, List.getElem_toArray, List.getElem_cons_succ, List.getElem_cons_zero, List.setIfInBounds_toArray, List.set_cons_zero, List.set_cons_succ]
          refine wpAnyH_take (i := 5) (v := ?v5_87) rfl (by kernel_rfl) (by kernel_rfl) (by kernel_rfl) (fun _ _ _ h => h) (Or.inl ⟨by rfl, ?y5_87⟩) (by assumption) ?r5_87
          case y5_87 => (intro w hSw; (try dsimp only at hSw); go_simp; first | done | with_reducible rfl)
          try simp only [Act.put, List.getElem_toArray, List.getElem_cons_succ, List.getElem_cons_zero, List.setIfInBounds_toArray, List.set_cons_zero, List.set_cons_succ]
          refine wpAnyH_take (i := 6) (v := ?v6_88) rfl (by kernel_rfl) (by kernel_rfl) (by kernel_rfl) (fun _ _ _ h => h) (Or.inl ⟨by rfl, ?y6_88⟩) (by assumption) ?r6_88
          case y6_88 => (intro w hSw; (try dsimp only at hSw); go_simp; first | done | with_reducible rfl)
          try simp only [Act.put, List.getElem_toArray, List.getElem_cons_succ, List.getElem_cons_zero, List.setIfInBounds_toArray, List.set_cons_zero, List.set_cons_succ]
          refine wpAnyH_take (i := 7) (v := ?v7_89) rfl (by kernel_rfl) (by kernel_rfl) (by kernel_rfl) (fun _ _ _ h => h) (Or.inl ⟨by rfl, ?y7_89⟩) (by assumption) ?r7_89
          case y7_89 => (intro w hSw; (try dsimp only at hSw); have c0 := kp_kc0 C0.out hSw; have c1 := kp_kc0 C1.out hSw; go_simp; first | done | with_reducible rfl)
          try simp only [Act.put, List.getElem_toArray, List.getElem_cons_succ, List.getElem_cons_zero, List.setIfInBounds_toArray, List.set_cons_zero, List.set_cons_succ]
          refine wpAnyH_take (i := 9) (v := ?v9_90) rfl (by kernel_rfl) (by kernel_rfl) (by kernel_rfl) (fun _ _ _ h => h) (Or.inl ⟨by rfl, ?y9_90⟩) (by assumption) ?r9_90
          case y9_90 => (intro w hSw; (try dsimp only at hSw); have c2 := kp_kc0 C2.out hSw; have c3 := kp_kc0 C3.out hSw; go_simp; first | done | with_reducible rfl)
          try simp only [Act.put, List.getElem_toArray, List.getElem_cons_succ, List.getElem_cons_zero, List.setIfInBounds_toArray, List.set_cons_zero, List.set_cons_succ]
          refine wpAnyH_ready (rs := [8]) (by kernel_rfl) (by simp) ?_
          refine AllReadyH.cons rfl (fun K hK => ?_) AllReadyH.nil
          go_simp
          with_reducible refine (L1.out _).mono ?_
          rintro ev v8 ⟨rfl, k8⟩
          have KC := Lib.hid (KC.out.trans' k8)
          clear k8
          try dsimp only
          refine hK.out _ _ (KC.out) (fun hHeld => ?_)
          clear hK K
          try simp only [Act.put, List.getElem_toArray, List.getElem_cons_succ, List.getElem_cons_zero, List.setIfInBounds_toArray, List.set_cons_zero, List.set_cons_succ]
          refine wpAnyH_ready (rs := [10]) (by kernel_rfl) (by simp) ?_
          refine AllReadyH.cons rfl (fun K hK => ?_) AllReadyH.nil
          go_simp
          with_reducible refine (B1.out _).mono ?_
          rintro ev v10 ⟨rfl, k10⟩
          have KC := Lib.hid (KC.out.trans' k10)
          clear k10
          try dsimp only
          refine hK.out _ _ (KC.out) (fun hHeld => ?_)
          clear hK K
          try simp only [Act.put, List.getElem_toArray, List.getElem_cons_succ, List.getElem_cons_zero, List.setIfInBounds_toArray, List.set_cons_zero, List.set_cons_succ]
          refine wpAnyH_take (i := 11) (v := ?v11_91) rfl (by kernel_rfl) (by kernel_rfl) (by kernel_rfl) (fun _ _ _ h => h) (Or.inl ⟨by rfl, ?y11_91⟩) (by assumption) ?r11_91
          case y11_91 => (intro w hSw; (try dsimp only at hSw); go_simp; first | done | with_reducible rfl)
          try simp only [Act.put, List.getElem_toArray, List.getElem_cons_succ, List.getElem_cons_zero, List.setIfInBounds_toArray, List.set_cons_zero, List.set_cons_succ]
          refine wpAnyH_take (i := 12) (v := ?v12_92) rfl (by kernel_rfl) (by kernel_rfl) (by kernel_rfl) (fun _ _ _ h => h) (Or.inl ⟨by rfl, ?y12_92⟩) (by assumption) ?r12_92
          case y12_92 => (intro w hSw; (try dsimp only at hSw); go_simp; first | done | with_reducible rfl)
          try simp only [Act.put, List.getElem_toArray, List.getElem_cons_succ, List.getElem_cons_zero, List.setIfInBounds_toArray, List.set_cons_zero, List.set_cons_succ]
          refine wpAnyH_take (i := 13) (v := ?v13_93) rfl (by kernel_rfl) (by kernel_rfl) (by kernel_rfl) (fun _ _ _ h => h) (Or.inl ⟨by rfl, ?y13_93⟩) (by assumption) ?r13_93
          case y13_93 => (intro w hSw; (try dsimp only at hSw); have c2 := kp_kc0 C2.out hSw; have c3 := kp_kc0 C3.out hSw; go_simp; first | done | with_reducible rfl)
          try simp only [Act.put, List.getElem_toArray, List.getElem_cons_succ, List.getElem_cons_zero, List.setIfInBounds_toArray, List.set_cons_zero, List.set_cons_succ]
          refine wpAnyH_take (i := 15) (v := ?v15_94) rfl (by kernel_rfl) (by kernel_rfl) (by kernel_rfl) (fun _ _ _ h => h) (Or.inl ⟨by rfl, ?y15_94⟩) (by assumption) ?r15_94
          case y15_94 => (intro w hSw; (try dsimp only at hSw); have c0 := kp_kc0 C0.out hSw; have c1 := kp_kc0 C1.out hSw; go_simp; first | done | with_reducible rfl)
          try simp only [Act.put, List.getElem_toArray, List.getElem_cons_succ, List.getElem_cons_zero, List.setIfInBounds_toArray, List.set_cons_zero, List.set_cons_succ]
          refine wpAnyH_ready (rs := [14]) (by kernel_rfl) (by simp) ?_
          refine AllReadyH.cons rfl (fun K hK => ?_) AllReadyH.nil
          go_simp
          with_reducible refine (L2.out _).mono ?_
          rintro ev v14 ⟨rfl, k14⟩
          have KC := Lib.hid (KC.out.trans' k14)
          clear k14
          try dsimp only
          refine hK.out _ _ (KC.out) (fun hHeld => ?_)
          clear hK K
          try simp only [Act.put, List.getElem_toArray, List.getElem_cons_succ, List.getElem_cons_zero, List.setIfInBounds_toArray, List.set_cons_zero, List.set_cons_succ]
          refine wpAnyH_ready (rs := [16]) (by kernel_rfl) (by simp) ?_
          refine AllReadyH.cons rfl (fun K hK => ?_) AllReadyH.nil
          go_simp
          with_reducible refine (B2.out _).mono ?_
          rintro ev v16 ⟨rfl, k16⟩
          have KC := Lib.hid (KC.out.trans' k16)
          clear k16
          try dsimp only
          refine hK.out _ _ (KC.out) (fun hHeld => ?_)
          clear hK K
          try simp only [Act.put, List.getElem_toArray, List.getElem_cons_succ, List.getElem_cons_zero, List.setIfInBounds_toArray, List.set_cons_zero, List.set_cons_succ]
          refine wpAnyH_take (i := 17) (v := ?v17_95) rfl (by kernel_rfl) (by kernel_rfl) (by kernel_rfl) (fun _ _ _ h => h) (Or.inl ⟨by rfl, ?y17_95⟩) (by assumption) ?r17_95
          case y17_95 => (intro w hSw; (try dsimp only at hSw); go_simp; first | done | with_reducible rfl)
          try simp only [Act.put, List.getElem_toArray, List.getElem_cons_succ, List.getElem_cons_zero, List.setIfInBounds_toArray, List.set_cons_zero, List.set_cons_succ]
          refine wpAnyH_take (i := 18) (v := ?v18_96) rfl (by kernel_rfl) (by kernel_rfl) (by kernel_rfl) (fun _ _ _ h => h) (Or.inl ⟨by rfl, ?y18_96⟩) (by assumption) ?r18_96
          case y18_96 => (intro w hSw; (try dsimp only at hSw); go_simp; first | done | with_reducible rfl)
          try simp only [Act.put, List.getElem_toArray, List.getElem_cons_succ, List.getElem_cons_zero, List.setIfInBounds_toArray, List.set_cons_zero, List.set_cons_succ]
          refine wpAnyH_take (i := 19) (v := ?v19_97) rfl (by kernel_rfl) (by kernel_rfl) (by kernel_rfl) (fun _ _ _ h => h) (Or.inl ⟨by rfl, ?y19_97⟩) (by assumption) ?r19_97
          case y19_97 => (intro w hSw; (try dsimp only at hSw); go_simp; first | done | with_reducible rfl)
          try simp only [Act.put, List.getElem_toArray, List.getElem_cons_succ, List.getElem_cons_zero, List.setIfInBounds_toArray, List.set_cons_zero, List.set_cons_succ]
          refine wpAnyH_take (i := 20) (v := ?v20_98) rfl (by kernel_rfl) (by kernel_rfl) (by kernel_rfl) (fun _ _ _ h => h) (Or.inl ⟨by rfl, ?y20_98⟩) (by assumption) ?r20_98
          case y20_98 => (intro w hSw; (try dsimp only at hSw); go_simp; first | done | with_reducible rfl)
          try simp only [Act.put, List.getElem_toArray, List.getElem_cons_succ, List.getElem_cons_zero, List.setIfInBounds_toArray, List.set_cons_zero, List.set_cons_succ]
          refine wpAnyH_done (by kernel_rfl) ?_ _
          go_wp2_with fail
          exact bodyPost_ret (results_tmp rfl _ _ _) rfl ⟨rfl, K0.out.trans' KC.out⟩
end Go.Proofs.YtkafdpidhelfdaaDoor
