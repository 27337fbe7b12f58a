/- Place: PlaceGreater's walk. -/
import Derived.Test.YtkafdpidhelfdaaDoorPml
set_option linter.unusedVariables false
set_option linter.unusedSimpArgs false
namespace Go.Proofs.YtkafdpidhelfdaaDoor
open Go.RowKit

theorem wrap_more {b : Int} {q : Nat} (h1 : -9223372036854775808 ≤ b) (h2 : b ≤ 9223372036854775807) (hq : q < 23) : ∃ c : Int, IntKind.i64.wrap (b + (q : Int)) = c ∧ (bnd b = true → c = b + (q : Int)) := by
  refine ⟨_, rfl, fun h => ?_⟩
  unfold bnd at h
  simp only [Bool.and_eq_true, decide_eq_true_eq] at h
  exact IntWalk.i64_in _ (by omega)
theorem mod23 (m : Nat) (hm : m < 256) : Int.tmod (m : Int) 23 = ((m % 23 : Nat) : Int) ∧ (m : Int) % 23 = ((m % 23 : Nat) : Int) ∧ IntKind.u8.wrap ((m % 23 : Nat) : Int) = ((m % 23 : Nat) : Int) ∧ IntKind.i64.wrap ((m % 23 : Nat) : Int) = ((m % 23 : Nat) : Int) := by
  refine ⟨by rw [Int.tmod_eq_emod_of_nonneg (by omega)]; rfl, rfl, ?_, IntWalk.i64_in _ (by omega)⟩
  show ((m % 23 : Nat) : Int) % 256 = _
  omega
set_option maxRecDepth 1000000 in
set_option maxHeartbeats 8000000 in
theorem greater_walk (i j m x : Nat) (a b : Int) (w : World) (hl : Laid2 w) (hi : i < 4294967296) (hj : j < 4294967296) (hm : m < 256) (hx : x < 4294967296) (h1 : -9223372036854775808 ≤ a) (h2 : a ≤ 9223372036854775807) : Calls Tryd.prog 6 #[netV i a, netV j b, .int .u8 (m : Int), .int .u32 (x : Int)] w fun ev w' => ev = .returned (.bool true) ∧ Kp (fun _ => False) w w' := by
  have K0 := ((Kp.refl (fun _ => False) w).alloc (.cells #[.int .u32 (i : Int), .int .i64 a] 24)).alloc (.cells #[.int .u32 (j : Int), .int .i64 b] 24)
  have HB0 := Lib.hid ((Bk.new w 24 #[.int .u32 (i : Int), .int .i64 a]).alloc (.cells #[.int .u32 (j : Int), .int .i64 b] 24))
  have HB1 := Bk.new (w.alloc (.cells #[.int .u32 (i : Int), .int .i64 a] 24)) 24 #[.int .u32 (j : Int), .int .i64 b]
  rw [World.size_alloc] at HB1
  have HB1 := Lib.hid HB1
  have K := Lib.hid K0
  have HL := Lib.hid (hl.keep K0)
  clear K0 hl
  obtain ⟨d1, d2, d3, d4⟩ := mod23 m hm
  have hq : m % 23 < 23 := Nat.mod_lt _ (by omega)
  generalize m % 23 = q at *
  obtain ⟨c, c1, hc⟩ := wrap_more h1 h2 hq
  go_enter Tryd.func6, Tryd.ntmps6
  go_wp2_with fail
  refine (alive04 _ HL.out).mono ?_
  rintro ev w1 ⟨rfl, k⟩
  have K := Lib.hid (K.out.trans' k)
  have HB0 := Lib.hid (HB0.out.kept k (fun f => f))
  have HB1 := Lib.hid (HB1.out.kept k (fun f => f))
  clear k
  have q0 : w1.cell? ⟨w.heap.size, 0, none⟩ = some (.int .u32 (i : Int)) := HB0.out.cell 0
  have q1 : w1.cell? ⟨w.heap.size, 1, none⟩ = some (.int .i64 a) := HB0.out.cell 1
  have q2 : w1.cell? ⟨w.heap.size + 1, 0, none⟩ = some (.int .u32 (j : Int)) := HB1.out.cell 0
  have q3 : w1.cell? ⟨w.heap.size + 1, 1, none⟩ = some (.int .i64 b) := HB1.out.cell 1
  have kA := (Kp.refl (fun _ => False) w1).alloc (.cells #[.int .u32 (i : Int), .int .i64 c] 24)
  have HB2 := Lib.hid (Bk.new w1 24 #[.int .u32 (i : Int), .int .i64 c])
  have hKn := K.out.trans' kA
  have n0 := HB0.out.kept kA (fun f => f)
  have n1 := HB1.out.kept kA (fun f => f)
  have CRN := Lib.hid (fun W => right_ i a W hi)
  have CRM := Lib.hid (fun W => right_ i c W hi)
  have CMX := Lib.hid (fun W => has_ i x c W hi hx)
  have CNX := Lib.hid (fun W => has_ i x a W hi hx)
  have CMB := Lib.hid (fun W => base_ i c W hi)
  have CNB := Lib.hid (fun W => base_ i a W hi)
  have CML := Lib.hid (fun W => last_ i c W hi)
  have CNL := Lib.hid (fun W => last_ i a W hi)
  have CMM := Lib.hid (fun W => mask_ i c W)
  have CNM := Lib.hid (fun W => mask_ i a W)
  have CAN := Lib.hid (fun W => apart_ i j a b W hi hj)
  have CAM := Lib.hid (fun W => apart_ i j c b W hi hj)
  have hle : nright i a = true → a ≤ c := fun h => by have := hc (nright_bnd h); omega
  have f1 : nright i a = true → nright i c = true → nhas i c x = true → nhas i a x = true := fun ha hm hh => has_more (nright_bnd ha) (hle ha) hh
  have f2 : nright i a = true → nright i c = true → ¬ ((nbase i c : Int) < (nbase i a : Int)) := fun ha hm => by have := base_more (ip := i) (nright_bnd ha) (nright_bnd hm) (hle ha); omega
  have f3 : nright i a = true → nright i c = true → ¬ ((nlast i a : Int) < (nlast i c : Int)) := fun ha hm => by have := last_more (ip := i) (nright_bnd ha) (nright_bnd hm) (hle ha); omega
  have f4 : nright i a = true → nright i c = true → bits BinOp.and IntKind.u32 ((nmask c : Nat) : Int) ((nmask a : Nat) : Int) = ((nmask a : Nat) : Int) := fun ha hm => by rw [u32_and_nat _ _ (nmask_lt c) (nmask_lt a), mask_more (nright_bnd ha) (nright_bnd hm) (hle ha)]
  have f5 : nright i a = true → nright i c = true → napart i a j b = true → napart i c j b = true := fun ha hm hap => apart_more hm (hle ha) hap
  clear hle hc h1 h2
  generalize nright i a = ra at *
  generalize nright i c = rc at *
  generalize nhas i c x = hcx at *
  generalize nhas i a x = hax at *
  generalize nbase i c = bc at *
  generalize nbase i a = ba at *
  generalize nlast i c = lc at *
  generalize nlast i a = la at *
  generalize nmask c = mc at *
  generalize nmask a = ma at *
  generalize napart i a j b = an at *
  generalize napart i c j b = am at *
  have p0 : (w1.alloc (.cells #[.int .u32 (i : Int), .int .i64 c] 24)).cell? ⟨w.heap.size, 0, none⟩ = some (.int .u32 (i : Int)) := n0.cell 0
  have p1 : (w1.alloc (.cells #[.int .u32 (i : Int), .int .i64 c] 24)).cell? ⟨w.heap.size, 1, none⟩ = some (.int .i64 a) := n0.cell 1
  go_wp2_with fail
  clear q0 q1 q2 q3 p0 p1
  obtain ⟨wa, hwa⟩ : ∃ wa, w1.alloc (.cells #[.int .u32 (i : Int), .int .i64 c] 24) = wa := ⟨_, rfl⟩
  rw [hwa] at HB2 hKn n0 n1 ⊢
  have K := Lib.hid hKn
  have HB0 := Lib.hid n0
  have HB1 := Lib.hid n1
  clear hKn n0 n1 kA hwa
  have q0 : wa.cell? ⟨w.heap.size, 0, none⟩ = some (.int .u32 (i : Int)) := HB0.out.cell 0
  have q1 : wa.cell? ⟨w.heap.size, 1, none⟩ = some (.int .i64 a) := HB0.out.cell 1
  have q2 : wa.cell? ⟨w.heap.size + 1, 0, none⟩ = some (.int .u32 (j : Int)) := HB1.out.cell 0
  have q3 : wa.cell? ⟨w.heap.size + 1, 1, none⟩ = some (.int .i64 b) := HB1.out.cell 1
  have q4 : wa.cell? ⟨w1.heap.size, 0, none⟩ = some (.int .u32 (i : Int)) := HB2.out.cell 0
  have q5 : wa.cell? ⟨w1.heap.size, 1, none⟩ = some (.int .i64 c) := HB2.out.cell 1
  refine (CRN.out _).mono ?_
  rintro ev w2 ⟨rfl, k⟩
  clear q0 q1 q2 q3 q4 q5
  have K := Lib.hid (K.out.trans' k)
  have HB0 := Lib.hid (HB0.out.kept k (fun f => f))
  have HB1 := Lib.hid (HB1.out.kept k (fun f => f))
  have HB2 := Lib.hid (HB2.out.kept k (fun f => f))
  clear k
  have q0 : w2.cell? ⟨w.heap.size, 0, none⟩ = some (.int .u32 (i : Int)) := HB0.out.cell 0
  have q1 : w2.cell? ⟨w.heap.size, 1, none⟩ = some (.int .i64 a) := HB0.out.cell 1
  have q2 : w2.cell? ⟨w.heap.size + 1, 0, none⟩ = some (.int .u32 (j : Int)) := HB1.out.cell 0
  have q3 : w2.cell? ⟨w.heap.size + 1, 1, none⟩ = some (.int .i64 b) := HB1.out.cell 1
  have q4 : w2.cell? ⟨w1.heap.size, 0, none⟩ = some (.int .u32 (i : Int)) := HB2.out.cell 0
  have q5 : w2.cell? ⟨w1.heap.size, 1, none⟩ = some (.int .i64 c) := HB2.out.cell 1
  cases ra with
  | false =>
    go_wp2_with fail
    exact bodyPost_ret (results_tmp rfl _ _ _) rfl ⟨rfl, K.out⟩
  | true =>
    go_wp2_with fail
    refine (CRM.out _).mono ?_
    rintro ev w3 ⟨rfl, k⟩
    clear q0 q1 q2 q3 q4 q5
    have K := Lib.hid (K.out.trans' k)
    have HB0 := Lib.hid (HB0.out.kept k (fun f => f))
    have HB1 := Lib.hid (HB1.out.kept k (fun f => f))
    have HB2 := Lib.hid (HB2.out.kept k (fun f => f))
    clear k
    have q0 : w3.cell? ⟨w.heap.size, 0, none⟩ = some (.int .u32 (i : Int)) := HB0.out.cell 0
    have q1 : w3.cell? ⟨w.heap.size, 1, none⟩ = some (.int .i64 a) := HB0.out.cell 1
    have q2 : w3.cell? ⟨w.heap.size + 1, 0, none⟩ = some (.int .u32 (j : Int)) := HB1.out.cell 0
    have q3 : w3.cell? ⟨w.heap.size + 1, 1, none⟩ = some (.int .i64 b) := HB1.out.cell 1
    have q4 : w3.cell? ⟨w1.heap.size, 0, none⟩ = some (.int .u32 (i : Int)) := HB2.out.cell 0
    have q5 : w3.cell? ⟨w1.heap.size, 1, none⟩ = some (.int .i64 c) := HB2.out.cell 1
    cases rc with
    | false =>
      go_wp2_with fail
      exact bodyPost_ret (results_tmp rfl _ _ _) rfl ⟨rfl, K.out⟩
    | true =>
      have g2 := f2 (by first | rfl | trivial) (by first | rfl | trivial)
      have g3 := f3 (by first | rfl | trivial) (by first | rfl | trivial)
      have g4 := f4 (by first | rfl | trivial) (by first | rfl | trivial)
      have g1 := f1 (by first | rfl | trivial) (by first | rfl | trivial)
      have g5 := f5 (by first | rfl | trivial) (by first | rfl | trivial)
      have g2n : ¬ (bc < ba) := by omega
      have g3n : ¬ (la < lc) := by omega
      have g2d : decide (bc < ba) = false := decide_eq_false g2n
      have g3d : decide (la < lc) = false := decide_eq_false g3n
      have g2e : decide ((bc : Int) < (ba : Int)) = false := decide_eq_false (by omega)
      have g3e : decide ((la : Int) < (lc : Int)) = false := decide_eq_false (by omega)
      clear f1 f2 f3 f4 f5
      go_wp2_with fail
      clear q0 q1 q2 q3 q4 q5
      have A0 := Lib.hid (show w3.cell? ⟨w.heap.size, 0, none⟩ = some (.int .u32 (i : Int)) from HB0.out.cell 0)
      have A1 := Lib.hid (show w3.cell? ⟨w.heap.size, 1, none⟩ = some (.int .i64 a) from HB0.out.cell 1)
      have X0 := Lib.hid (show w3.cell? ⟨w1.heap.size, 0, none⟩ = some (.int .u32 (i : Int)) from HB2.out.cell 0)
      have X1 := Lib.hid (show w3.cell? ⟨w1.heap.size, 1, none⟩ = some (.int .i64 c) from HB2.out.cell 1)
      have KC := Lib.hid (Kp.refl (fun _ => False) w3).drew
      have TAIL := Lib.hid (show True from trivial)
      cases hcx with
      | true =>
        obtain rfl : hax = true := g1 (by first | rfl | trivial)
        refine wp_region_held_drew (S := (fun w' => Kp (fun _ => False) w3 w')) (by kernel_rfl) (KC.out) (fun hHeld => ?_)
        refine wpAnyH_take (i := 0) (v := ?v0_0) rfl (by kernel_rfl) (by kernel_rfl) (by kernel_rfl) (fun _ _ _ h => h) (Or.inl ⟨by rfl, ?y0_0⟩) (by assumption) ?r0_0
        case y0_0 => (intro w hSw; (try dsimp only at hSw); have d0 := kp_kc0 X0.out hSw; have d1 := kp_kc0 X1.out hSw; go_simp; first | done | with_reducible rfl)
        try simp only [Act.put, List.getElem_toArray, List.getElem_cons_succ, List.getElem_cons_zero, List.setIfInBounds_toArray, List.set_cons_zero, List.set_cons_succ]
        refine wpAnyH_take (i := 1) (v := ?v1_1) rfl (by kernel_rfl) (by kernel_rfl) (by kernel_rfl) (fun _ _ _ h => h) (Or.inl ⟨by rfl, ?y1_1⟩) (by assumption) ?r1_1
        case y1_1 => (intro w hSw; (try dsimp only at hSw); go_simp; first | done | with_reducible rfl)
        try simp only [Act.put, List.getElem_toArray, List.getElem_cons_succ, List.getElem_cons_zero, List.setIfInBounds_toArray, List.set_cons_zero, List.set_cons_succ]
        refine wpAnyH_ready (rs := [2]) (by kernel_rfl) (by simp) ?_
        refine AllReadyH.cons rfl (fun K hK => ?_) AllReadyH.nil
        go_simp
        with_reducible refine (CMX.out _).mono ?_
        rintro ev v2 ⟨rfl, k2⟩
        have KC := Lib.hid (KC.out.trans' k2)
        clear k2
        try dsimp only
        refine hK.out _ _ (KC.out) (fun hHeld => ?_)
        clear hK K
        try simp only [Act.put, List.getElem_toArray, List.getElem_cons_succ, List.getElem_cons_zero, List.setIfInBounds_toArray, List.set_cons_zero, List.set_cons_succ]
        refine wpAnyH_take (i := 3) (v := ?v3_2) rfl (by kernel_rfl) (by kernel_rfl) (by kernel_rfl) (fun _ _ _ h => h) (Or.inl ⟨by rfl, ?y3_2⟩) (by assumption) ?r3_2
        case y3_2 => (intro w hSw; (try dsimp only at hSw); go_simp; first | done | with_reducible rfl)
        try simp only [Act.put, List.getElem_toArray, List.getElem_cons_succ, List.getElem_cons_zero, List.setIfInBounds_toArray, List.set_cons_zero, List.set_cons_succ]
        refine wpAnyH_take (i := 4) (v := ?v4_3) rfl (by kernel_rfl) (by kernel_rfl) (by kernel_rfl) (fun _ _ _ h => h) (Or.inl ⟨by rfl, ?y4_3⟩) (by assumption) ?r4_3
        case y4_3 => (intro w hSw; (try dsimp only at hSw); have d0 := kp_kc0 A0.out hSw; have d1 := kp_kc0 A1.out hSw; go_simp; first | done | with_reducible rfl)
        try simp only [Act.put, List.getElem_toArray, List.getElem_cons_succ, List.getElem_cons_zero, List.setIfInBounds_toArray, List.set_cons_zero, List.set_cons_succ]
        refine wpAnyH_take (i := 5) (v := ?v5_4) rfl (by kernel_rfl) (by kernel_rfl) (by kernel_rfl) (fun _ _ _ h => h) (Or.inl ⟨by rfl, ?y5_4⟩) (by assumption) ?r5_4
        case y5_4 => (intro w hSw; (try dsimp only at hSw); go_simp; first | done | with_reducible rfl)
        try simp only [Act.put, List.getElem_toArray, List.getElem_cons_succ, List.getElem_cons_zero, List.setIfInBounds_toArray, List.set_cons_zero, List.set_cons_succ]
        refine wpAnyH_ready (rs := [6]) (by kernel_rfl) (by simp) ?_
        refine AllReadyH.cons rfl (fun K hK => ?_) AllReadyH.nil
        go_simp
        with_reducible refine (CNX.out _).mono ?_
        rintro ev v6 ⟨rfl, k6⟩
        have KC := Lib.hid (KC.out.trans' k6)
        clear k6
        try dsimp only
        refine hK.out _ _ (KC.out) (fun hHeld => ?_)
        clear hK K
        try simp only [Act.put, List.getElem_toArray, List.getElem_cons_succ, List.getElem_cons_zero, List.setIfInBounds_toArray, List.set_cons_zero, List.set_cons_succ]
        refine wpAnyH_take (i := 7) (v := ?v7_5) rfl (by kernel_rfl) (by kernel_rfl) (by kernel_rfl) (fun _ _ _ h => h) (Or.inl ⟨by rfl, ?y7_5⟩) (by assumption) ?r7_5
        case y7_5 => (intro w hSw; (try dsimp only at hSw); go_simp; first | done | with_reducible rfl)
        try simp only [Act.put, List.getElem_toArray, List.getElem_cons_succ, List.getElem_cons_zero, List.setIfInBounds_toArray, List.set_cons_zero, List.set_cons_succ]
        refine wpAnyH_take (i := 8) (v := ?v8_6) rfl (by kernel_rfl) (by kernel_rfl) (by kernel_rfl) (fun _ _ _ h => h) (Or.inl ⟨by rfl, ?y8_6⟩) (by assumption) ?r8_6
        case y8_6 => (intro w hSw; (try dsimp only at hSw); go_simp; first | done | with_reducible rfl)
        try simp only [Act.put, List.getElem_toArray, List.getElem_cons_succ, List.getElem_cons_zero, List.setIfInBounds_toArray, List.set_cons_zero, List.set_cons_succ]
        refine wpAnyH_take (i := 9) (v := ?v9_7) rfl (by kernel_rfl) (by kernel_rfl) (by kernel_rfl) (fun _ _ _ h => h) (Or.inl ⟨by rfl, ?y9_7⟩) (by assumption) ?r9_7
        case y9_7 => (intro w hSw; (try dsimp only at hSw); go_simp; first | done | with_reducible rfl)
        try simp only [Act.put, List.getElem_toArray, List.getElem_cons_succ, List.getElem_cons_zero, List.setIfInBounds_toArray, List.set_cons_zero, List.set_cons_succ]
        refine wpAnyH_take (i := 10) (v := ?v10_8) rfl (by kernel_rfl) (by kernel_rfl) (by kernel_rfl) (fun _ _ _ h => h) (Or.inl ⟨by rfl, ?y10_8⟩) (by assumption) ?r10_8
        case y10_8 => (intro w hSw; (try dsimp only at hSw); have d0 := kp_kc0 X0.out hSw; have d1 := kp_kc0 X1.out hSw; go_simp; first | done | with_reducible rfl)
        try simp only [Act.put, List.getElem_toArray, List.getElem_cons_succ, List.getElem_cons_zero, List.setIfInBounds_toArray, List.set_cons_zero, List.set_cons_succ]
        refine wpAnyH_take (i := 12) (v := ?v12_9) rfl (by kernel_rfl) (by kernel_rfl) (by kernel_rfl) (fun _ _ _ h => h) (Or.inl ⟨by rfl, ?y12_9⟩) (by assumption) ?r12_9
        case y12_9 => (intro w hSw; (try dsimp only at hSw); have d0 := kp_kc0 A0.out hSw; have d1 := kp_kc0 A1.out hSw; go_simp; first | done | with_reducible rfl)
        try simp only [Act.put, List.getElem_toArray, List.getElem_cons_succ, List.getElem_cons_zero, List.setIfInBounds_toArray, List.set_cons_zero, List.set_cons_succ]
        refine wpAnyH_ready (rs := [11]) (by kernel_rfl) (by simp) ?_
        refine AllReadyH.cons rfl (fun K hK => ?_) AllReadyH.nil
        go_simp
        with_reducible refine (CMB.out _).mono ?_
        rintro ev v11 ⟨rfl, k11⟩
        have KC := Lib.hid (KC.out.trans' k11)
        clear k11
        try dsimp only
        refine hK.out _ _ (KC.out) (fun hHeld => ?_)
        clear hK K
        try simp only [Act.put, List.getElem_toArray, List.getElem_cons_succ, List.getElem_cons_zero, List.setIfInBounds_toArray, List.set_cons_zero, List.set_cons_succ]
        refine wpAnyH_ready (rs := [13]) (by kernel_rfl) (by simp) ?_
        refine AllReadyH.cons rfl (fun K hK => ?_) AllReadyH.nil
        go_simp
        with_reducible refine (CNB.out _).mono ?_
        rintro ev v13 ⟨rfl, k13⟩
        have KC := Lib.hid (KC.out.trans' k13)
        clear k13
        try dsimp only
        refine hK.out _ _ (KC.out) (fun hHeld => ?_)
        clear hK K
        try simp only [Act.put, List.getElem_toArray, List.getElem_cons_succ, List.getElem_cons_zero, List.setIfInBounds_toArray, List.set_cons_zero, List.set_cons_succ]
        refine wpAnyH_take (i := 14) (v := ?v14_10) rfl (by kernel_rfl) (by kernel_rfl) (by kernel_rfl) (fun _ _ _ h => h) (Or.inl ⟨by rfl, ?y14_10⟩) (by assumption) ?r14_10
        case y14_10 => (intro w hSw; (try dsimp only at hSw); go_simp; first | done | with_reducible rfl)
        try simp only [Act.put, List.getElem_toArray, List.getElem_cons_succ, List.getElem_cons_zero, List.setIfInBounds_toArray, List.set_cons_zero, List.set_cons_succ]
        refine wpAnyH_take (i := 15) (v := ?v15_11) rfl (by kernel_rfl) (by kernel_rfl) (by kernel_rfl) (fun _ _ _ h => h) (Or.inl ⟨by rfl, ?y15_11⟩) (by assumption) ?r15_11
        case y15_11 => (intro w hSw; (try dsimp only at hSw); go_simp; first | done | with_reducible rfl)
        try simp only [Act.put, List.getElem_toArray, List.getElem_cons_succ, List.getElem_cons_zero, List.setIfInBounds_toArray, List.set_cons_zero, List.set_cons_succ]
        refine wpAnyH_take (i := 16) (v := ?v16_12) rfl (by kernel_rfl) (by kernel_rfl) (by kernel_rfl) (fun _ _ _ h => h) (Or.inl ⟨by rfl, ?y16_12⟩) (by assumption) ?r16_12
        case y16_12 => (intro w hSw; (try dsimp only at hSw); go_simp; first | done | with_reducible rfl)
        try simp only [Act.put, List.getElem_toArray, List.getElem_cons_succ, List.getElem_cons_zero, List.setIfInBounds_toArray, List.set_cons_zero, List.set_cons_succ]
        refine wpAnyH_take (i := 17) (v := ?v17_13) rfl (by kernel_rfl) (by kernel_rfl) (by kernel_rfl) (fun _ _ _ h => h) (Or.inl ⟨by rfl, ?y17_13⟩) (by assumption) ?r17_13
        case y17_13 => (intro w hSw; (try dsimp only at hSw); have d0 := kp_kc0 X0.out hSw; have d1 := kp_kc0 X1.out hSw; go_simp; first | done | with_reducible rfl)
        try simp only [Act.put, List.getElem_toArray, List.getElem_cons_succ, List.getElem_cons_zero, List.setIfInBounds_toArray, List.set_cons_zero, List.set_cons_succ]
        refine wpAnyH_take (i := 19) (v := ?v19_14) rfl (by kernel_rfl) (by kernel_rfl) (by kernel_rfl) (fun _ _ _ h => h) (Or.inl ⟨by rfl, ?y19_14⟩) (by assumption) ?r19_14
        case y19_14 => (intro w hSw; (try dsimp only at hSw); have d0 := kp_kc0 A0.out hSw; have d1 := kp_kc0 A1.out hSw; go_simp; first | done | with_reducible rfl)
        try simp only [Act.put, List.getElem_toArray, List.getElem_cons_succ, List.getElem_cons_zero, List.setIfInBounds_toArray, List.set_cons_zero, List.set_cons_succ]
        refine wpAnyH_ready (rs := [18]) (by kernel_rfl) (by simp) ?_
        refine AllReadyH.cons rfl (fun K hK => ?_) AllReadyH.nil
        go_simp
        with_reducible refine (CML.out _).mono ?_
        rintro ev v18 ⟨rfl, k18⟩
        have KC := Lib.hid (KC.out.trans' k18)
        clear k18
        try dsimp only
        refine hK.out _ _ (KC.out) (fun hHeld => ?_)
        clear hK K
        try simp only [Act.put, List.getElem_toArray, List.getElem_cons_succ, List.getElem_cons_zero, List.setIfInBounds_toArray, List.set_cons_zero, List.set_cons_succ]
        refine wpAnyH_ready (rs := [20]) (by kernel_rfl) (by simp) ?_
        refine AllReadyH.cons rfl (fun K hK => ?_) AllReadyH.nil
        go_simp
        with_reducible refine (CNL.out _).mono ?_
        rintro ev v20 ⟨rfl, k20⟩
        have KC := Lib.hid (KC.out.trans' k20)
        clear k20
        try dsimp only
        refine hK.out _ _ (KC.out) (fun hHeld => ?_)
        clear hK K
        try simp only [Act.put, List.getElem_toArray, List.getElem_cons_succ, List.getElem_cons_zero, List.setIfInBounds_toArray, List.set_cons_zero, List.set_cons_succ]
        refine wpAnyH_take (i := 21) (v := ?v21_15) rfl (by kernel_rfl) (by kernel_rfl) (by kernel_rfl) (fun _ _ _ h => h) (Or.inl ⟨by rfl, ?y21_15⟩) (by assumption) ?r21_15
        case y21_15 => (intro w hSw; (try dsimp only at hSw); go_simp; first | done | with_reducible rfl)
        try simp only [Act.put, List.getElem_toArray, List.getElem_cons_succ, List.getElem_cons_zero, List.setIfInBounds_toArray, List.set_cons_zero, List.set_cons_succ]
        refine wpAnyH_take (i := 22) (v := ?v22_16) rfl (by kernel_rfl) (by kernel_rfl) (by kernel_rfl) (fun _ _ _ h => h) (Or.inl ⟨by rfl, ?y22_16⟩) (by assumption) ?r22_16
        case y22_16 => (intro w hSw; (try dsimp only at hSw); go_simp; first | done | with_reducible rfl)
        try simp only [Act.put, List.getElem_toArray, List.getElem_cons_succ, List.getElem_cons_zero, List.setIfInBounds_toArray, List.set_cons_zero, List.set_cons_succ]
        refine wpAnyH_take (i := 23) (v := ?v23_17) rfl (by kernel_rfl) (by kernel_rfl) (by kernel_rfl) (fun _ _ _ h => h) (Or.inl ⟨by rfl, ?y23_17⟩) (by assumption) ?r23_17
        case y23_17 => (intro w hSw; (try dsimp only at hSw); go_simp; first | done | with_reducible rfl)
        try simp only [Act.put, List.getElem_toArray, List.getElem_cons_succ, List.getElem_cons_zero, List.setIfInBounds_toArray, List.set_cons_zero, List.set_cons_succ]
        refine wpAnyH_take (i := 24) (v := ?v24_18) rfl (by kernel_rfl) (by kernel_rfl) (by kernel_rfl) (fun _ _ _ h => h) (Or.inl ⟨by rfl, ?y24_18⟩) (by assumption) ?r24_18
        case y24_18 => (intro w hSw; (try dsimp only at hSw); have d0 := kp_kc0 X0.out hSw; have d1 := kp_kc0 X1.out hSw; go_simp; first | done | with_reducible rfl)
        try simp only [Act.put, List.getElem_toArray, List.getElem_cons_succ, List.getElem_cons_zero, List.setIfInBounds_toArray, List.set_cons_zero, List.set_cons_succ]
        refine wpAnyH_take (i := 26) (v := ?v26_19) rfl (by kernel_rfl) (by kernel_rfl) (by kernel_rfl) (fun _ _ _ h => h) (Or.inl ⟨by rfl, ?y26_19⟩) (by assumption) ?r26_19
        case y26_19 => (intro w hSw; (try dsimp only at hSw); have d0 := kp_kc0 A0.out hSw; have d1 := kp_kc0 A1.out hSw; go_simp; first | done | with_reducible rfl)
        try simp only [Act.put, List.getElem_toArray, List.getElem_cons_succ, List.getElem_cons_zero, List.setIfInBounds_toArray, List.set_cons_zero, List.set_cons_succ]
        refine wpAnyH_take (i := 29) (v := ?v29_20) rfl (by kernel_rfl) (by kernel_rfl) (by kernel_rfl) (fun _ _ _ h => h) (Or.inl ⟨by rfl, ?y29_20⟩) (by assumption) ?r29_20
        case y29_20 => (intro w hSw; (try dsimp only at hSw); have d0 := kp_kc0 A0.out hSw; have d1 := kp_kc0 A1.out hSw; go_simp; first | done | with_reducible rfl)
        try simp only [Act.put, List.getElem_toArray, List.getElem_cons_succ, List.getElem_cons_zero, List.setIfInBounds_toArray, List.set_cons_zero, List.set_cons_succ]
        refine wpAnyH_ready (rs := [25]) (by kernel_rfl) (by simp) ?_
        refine AllReadyH.cons rfl (fun K hK => ?_) AllReadyH.nil
        go_simp
        with_reducible refine (CMM.out _).mono ?_
        rintro ev v25 ⟨rfl, k25⟩
        have KC := Lib.hid (KC.out.trans' k25)
        clear k25
        try dsimp only
        refine hK.out _ _ (KC.out) (fun hHeld => ?_)
        clear hK K
        try simp only [Act.put, List.getElem_toArray, List.getElem_cons_succ, List.getElem_cons_zero, List.setIfInBounds_toArray, List.set_cons_zero, List.set_cons_succ]
        refine wpAnyH_ready (rs := [27]) (by kernel_rfl) (by simp) ?_
        refine AllReadyH.cons rfl (fun K hK => ?_) AllReadyH.nil
        go_simp
        with_reducible refine (CNM.out _).mono ?_
        rintro ev v27 ⟨rfl, k27⟩
        have KC := Lib.hid (KC.out.trans' k27)
        clear k27
        try dsimp only
        refine hK.out _ _ (KC.out) (fun hHeld => ?_)
        clear hK K
        try simp only [Act.put, List.getElem_toArray, List.getElem_cons_succ, List.getElem_cons_zero, List.setIfInBounds_toArray, List.set_cons_zero, List.set_cons_succ]
        refine wpAnyH_take (i := 28) (v := ?v28_21) rfl (by kernel_rfl) (by kernel_rfl) (by kernel_rfl) (fun _ _ _ h => h) (Or.inl ⟨by rfl, ?y28_21⟩) (by assumption) ?r28_21
        case y28_21 => (intro w hSw; (try dsimp only at hSw); go_simp; first | done | with_reducible rfl)
        try simp only [Act.put, List.getElem_toArray, List.getElem_cons_succ, List.getElem_cons_zero, List.setIfInBounds_toArray, List.set_cons_zero, List.set_cons_succ]
        refine wpAnyH_ready (rs := [30]) (by kernel_rfl) (by simp) ?_
        refine AllReadyH.cons rfl (fun K hK => ?_) AllReadyH.nil
        go_simp
        with_reducible refine (CNM.out _).mono ?_
        rintro ev v30 ⟨rfl, k30⟩
        have KC := Lib.hid (KC.out.trans' k30)
        clear k30
        try dsimp only
        refine hK.out _ _ (KC.out) (fun hHeld => ?_)
        clear hK K
        try simp only [Act.put, List.getElem_toArray, List.getElem_cons_succ, List.getElem_cons_zero, List.setIfInBounds_toArray, List.set_cons_zero, List.set_cons_succ]
        refine wpAnyH_take (i := 31) (v := ?v31_22) rfl (by kernel_rfl) (by kernel_rfl) (by kernel_rfl) (fun _ _ _ h => h) (Or.inl ⟨by rfl, ?y31_22⟩) (by assumption) ?r31_22
        case y31_22 => (intro w hSw; (try dsimp only at hSw); go_simp; first | done | with_reducible rfl)
        try simp only [Act.put, List.getElem_toArray, List.getElem_cons_succ, List.getElem_cons_zero, List.setIfInBounds_toArray, List.set_cons_zero, List.set_cons_succ]
        refine wpAnyH_take (i := 32) (v := ?v32_23) rfl (by kernel_rfl) (by kernel_rfl) (by kernel_rfl) (fun _ _ _ h => h) (Or.inl ⟨by rfl, ?y32_23⟩) (by assumption) ?r32_23
        case y32_23 => (intro w hSw; (try dsimp only at hSw); go_simp; first | done | with_reducible rfl)
        try simp only [Act.put, List.getElem_toArray, List.getElem_cons_succ, List.getElem_cons_zero, List.setIfInBounds_toArray, List.set_cons_zero, List.set_cons_succ]
        refine wpAnyH_done (by kernel_rfl) ?_ _
        have K := Lib.hid (K.out.trans' KC.out)
        have HB0 := Lib.hid (HB0.out.kept KC.out (fun f => f))
        have HB1 := Lib.hid (HB1.out.kept KC.out (fun f => f))
        have HB2 := Lib.hid (HB2.out.kept KC.out (fun f => f))
        clear A0 A1 X0 X1 KC
        have q0 : v30.cell? ⟨w.heap.size, 0, none⟩ = some (.int .u32 (i : Int)) := HB0.out.cell 0
        have q1 : v30.cell? ⟨w.heap.size, 1, none⟩ = some (.int .i64 a) := HB0.out.cell 1
        have q2 : v30.cell? ⟨w.heap.size + 1, 0, none⟩ = some (.int .u32 (j : Int)) := HB1.out.cell 0
        have q3 : v30.cell? ⟨w.heap.size + 1, 1, none⟩ = some (.int .i64 b) := HB1.out.cell 1
        have q4 : v30.cell? ⟨w1.heap.size, 0, none⟩ = some (.int .u32 (i : Int)) := HB2.out.cell 0
        have q5 : v30.cell? ⟨w1.heap.size, 1, none⟩ = some (.int .i64 c) := HB2.out.cell 1
        go_wp2_with fail
        refine (CAN.out _).mono ?_
        rintro ev w5 ⟨rfl, k⟩
        clear q0 q1 q2 q3 q4 q5
        have K := Lib.hid (K.out.trans' k)
        have HB0 := Lib.hid (HB0.out.kept k (fun f => f))
        have HB1 := Lib.hid (HB1.out.kept k (fun f => f))
        have HB2 := Lib.hid (HB2.out.kept k (fun f => f))
        clear k
        have q0 : w5.cell? ⟨w.heap.size, 0, none⟩ = some (.int .u32 (i : Int)) := HB0.out.cell 0
        have q1 : w5.cell? ⟨w.heap.size, 1, none⟩ = some (.int .i64 a) := HB0.out.cell 1
        have q2 : w5.cell? ⟨w.heap.size + 1, 0, none⟩ = some (.int .u32 (j : Int)) := HB1.out.cell 0
        have q3 : w5.cell? ⟨w.heap.size + 1, 1, none⟩ = some (.int .i64 b) := HB1.out.cell 1
        have q4 : w5.cell? ⟨w1.heap.size, 0, none⟩ = some (.int .u32 (i : Int)) := HB2.out.cell 0
        have q5 : w5.cell? ⟨w1.heap.size, 1, none⟩ = some (.int .i64 c) := HB2.out.cell 1
        cases an with
        | false =>
          go_wp2_with fail
          exact bodyPost_ret (results_tmp rfl _ _ _) rfl ⟨rfl, K.out⟩
        | true =>
          obtain rfl : am = true := g5 (by first | rfl | trivial)
          go_wp2_with fail
          refine (CAM.out _).mono ?_
          rintro ev w6 ⟨rfl, k⟩
          clear q0 q1 q2 q3 q4 q5
          have K := Lib.hid (K.out.trans' k)
          have HB0 := Lib.hid (HB0.out.kept k (fun f => f))
          have HB1 := Lib.hid (HB1.out.kept k (fun f => f))
          have HB2 := Lib.hid (HB2.out.kept k (fun f => f))
          clear k
          have q0 : w6.cell? ⟨w.heap.size, 0, none⟩ = some (.int .u32 (i : Int)) := HB0.out.cell 0
          have q1 : w6.cell? ⟨w.heap.size, 1, none⟩ = some (.int .i64 a) := HB0.out.cell 1
          have q2 : w6.cell? ⟨w.heap.size + 1, 0, none⟩ = some (.int .u32 (j : Int)) := HB1.out.cell 0
          have q3 : w6.cell? ⟨w.heap.size + 1, 1, none⟩ = some (.int .i64 b) := HB1.out.cell 1
          have q4 : w6.cell? ⟨w1.heap.size, 0, none⟩ = some (.int .u32 (i : Int)) := HB2.out.cell 0
          have q5 : w6.cell? ⟨w1.heap.size, 1, none⟩ = some (.int .i64 c) := HB2.out.cell 1
          go_wp2_with fail
          exact bodyPost_ret (results_tmp rfl _ _ _) rfl ⟨rfl, K.out⟩
      | false =>
        refine wp_region_held_drew (S := (fun w' => Kp (fun _ => False) w3 w')) (by kernel_rfl) (KC.out) (fun hHeld => ?_)
        refine wpAnyH_take (i := 0) (v := ?v0_24) rfl (by kernel_rfl) (by kernel_rfl) (by kernel_rfl) (fun _ _ _ h => h) (Or.inl ⟨by rfl, ?y0_24⟩) (by assumption) ?r0_24
        case y0_24 => (intro w hSw; (try dsimp only at hSw); have d0 := kp_kc0 X0.out hSw; have d1 := kp_kc0 X1.out hSw; go_simp; first | done | with_reducible rfl)
        try simp only [Act.put, List.getElem_toArray, List.getElem_cons_succ, List.getElem_cons_zero, List.setIfInBounds_toArray, List.set_cons_zero, List.set_cons_succ]
        refine wpAnyH_take (i := 1) (v := ?v1_25) rfl (by kernel_rfl) (by kernel_rfl) (by kernel_rfl) (fun _ _ _ h => h) (Or.inl ⟨by rfl, ?y1_25⟩) (by assumption) ?r1_25
        case y1_25 => (intro w hSw; (try dsimp only at hSw); go_simp; first | done | with_reducible rfl)
        try simp only [Act.put, List.getElem_toArray, List.getElem_cons_succ, List.getElem_cons_zero, List.setIfInBounds_toArray, List.set_cons_zero, List.set_cons_succ]
        refine wpAnyH_ready (rs := [2]) (by kernel_rfl) (by simp) ?_
        refine AllReadyH.cons rfl (fun K hK => ?_) AllReadyH.nil
        go_simp
        with_reducible refine (CMX.out _).mono ?_
        rintro ev v2 ⟨rfl, k2⟩
        have KC := Lib.hid (KC.out.trans' k2)
        clear k2
        try dsimp only
        refine hK.out _ _ (KC.out) (fun hHeld => ?_)
        clear hK K
        try simp only [Act.put, List.getElem_toArray, List.getElem_cons_succ, List.getElem_cons_zero, List.setIfInBounds_toArray, List.set_cons_zero, List.set_cons_succ]
        refine wpAnyH_take (i := 3) (v := ?v3_26) rfl (by kernel_rfl) (by kernel_rfl) (by kernel_rfl) (fun _ _ _ h => h) (Or.inl ⟨by rfl, ?y3_26⟩) (by assumption) ?r3_26
        case y3_26 => (intro w hSw; (try dsimp only at hSw); go_simp; first | done | with_reducible rfl)
        try simp only [Act.put, List.getElem_toArray, List.getElem_cons_succ, List.getElem_cons_zero, List.setIfInBounds_toArray, List.set_cons_zero, List.set_cons_succ]
        refine wpAnyH_take (i := 4) (v := undef) rfl (by kernel_rfl) (by kernel_rfl) (by kernel_rfl) (fun _ _ _ h => h) (Or.inr ⟨by rfl, rfl⟩) (by assumption) ?_
        try simp only [Act.put, List.getElem_toArray, List.getElem_cons_succ, List.getElem_cons_zero, List.setIfInBounds_toArray, List.set_cons_zero, List.set_cons_succ]
        refine wpAnyH_take (i := 5) (v := undef) rfl (by kernel_rfl) (by kernel_rfl) (by kernel_rfl) (fun _ _ _ h => h) (Or.inr ⟨by rfl, rfl⟩) (by assumption) ?_
        try simp only [Act.put, List.getElem_toArray, List.getElem_cons_succ, List.getElem_cons_zero, List.setIfInBounds_toArray, List.set_cons_zero, List.set_cons_succ]
        refine wpAnyH_take (i := 6) (v := undef) rfl (by kernel_rfl) (by kernel_rfl) (by kernel_rfl) (fun _ _ _ h => h) (Or.inr ⟨by rfl, rfl⟩) (by assumption) ?_
        try simp only [Act.put, List.getElem_toArray, List.getElem_cons_succ, List.getElem_cons_zero, List.setIfInBounds_toArray, List.set_cons_zero, List.set_cons_succ]
        refine wpAnyH_take (i := 7) (v := undef) rfl (by kernel_rfl) (by kernel_rfl) (by kernel_rfl) (fun _ _ _ h => h) (Or.inr ⟨by rfl, rfl⟩) (by assumption) ?_
        try simp only [Act.put, List.getElem_toArray, List.getElem_cons_succ, List.getElem_cons_zero, List.setIfInBounds_toArray, List.set_cons_zero, List.set_cons_succ]
        refine wpAnyH_take (i := 8) (v := ?v8_27) rfl (by kernel_rfl) (by kernel_rfl) (by kernel_rfl) (fun _ _ _ h => h) (Or.inl ⟨by rfl, ?y8_27⟩) (by assumption) ?r8_27
        case y8_27 => (intro w hSw; (try dsimp only at hSw); go_simp; first | done | with_reducible rfl)
        try simp only [Act.put, List.getElem_toArray, List.getElem_cons_succ, List.getElem_cons_zero, List.setIfInBounds_toArray, List.set_cons_zero, List.set_cons_succ]
        refine wpAnyH_take (i := 9) (v := ?v9_28) rfl (by kernel_rfl) (by kernel_rfl) (by kernel_rfl) (fun _ _ _ h => h) (Or.inl ⟨by rfl, ?y9_28⟩) (by assumption) ?r9_28
        case y9_28 => (intro w hSw; (try dsimp only at hSw); go_simp; first | done | with_reducible rfl)
        try simp only [Act.put, List.getElem_toArray, List.getElem_cons_succ, List.getElem_cons_zero, List.setIfInBounds_toArray, List.set_cons_zero, List.set_cons_succ]
        refine wpAnyH_take (i := 10) (v := ?v10_29) rfl (by kernel_rfl) (by kernel_rfl) (by kernel_rfl) (fun _ _ _ h => h) (Or.inl ⟨by rfl, ?y10_29⟩) (by assumption) ?r10_29
        case y10_29 => (intro w hSw; (try dsimp only at hSw); have d0 := kp_kc0 X0.out hSw; have d1 := kp_kc0 X1.out hSw; go_simp; first | done | with_reducible rfl)
        try simp only [Act.put, List.getElem_toArray, List.getElem_cons_succ, List.getElem_cons_zero, List.setIfInBounds_toArray, List.set_cons_zero, List.set_cons_succ]
        refine wpAnyH_take (i := 12) (v := ?v12_30) rfl (by kernel_rfl) (by kernel_rfl) (by kernel_rfl) (fun _ _ _ h => h) (Or.inl ⟨by rfl, ?y12_30⟩) (by assumption) ?r12_30
        case y12_30 => (intro w hSw; (try dsimp only at hSw); have d0 := kp_kc0 A0.out hSw; have d1 := kp_kc0 A1.out hSw; go_simp; first | done | with_reducible rfl)
        try simp only [Act.put, List.getElem_toArray, List.getElem_cons_succ, List.getElem_cons_zero, List.setIfInBounds_toArray, List.set_cons_zero, List.set_cons_succ]
        refine wpAnyH_ready (rs := [11]) (by kernel_rfl) (by simp) ?_
        refine AllReadyH.cons rfl (fun K hK => ?_) AllReadyH.nil
        go_simp
        with_reducible refine (CMB.out _).mono ?_
        rintro ev v11 ⟨rfl, k11⟩
        have KC := Lib.hid (KC.out.trans' k11)
        clear k11
        try dsimp only
        refine hK.out _ _ (KC.out) (fun hHeld => ?_)
        clear hK K
        try simp only [Act.put, List.getElem_toArray, List.getElem_cons_succ, List.getElem_cons_zero, List.setIfInBounds_toArray, List.set_cons_zero, List.set_cons_succ]
        refine wpAnyH_ready (rs := [13]) (by kernel_rfl) (by simp) ?_
        refine AllReadyH.cons rfl (fun K hK => ?_) AllReadyH.nil
        go_simp
        with_reducible refine (CNB.out _).mono ?_
        rintro ev v13 ⟨rfl, k13⟩
        have KC := Lib.hid (KC.out.trans' k13)
        clear k13
        try dsimp only
        refine hK.out _ _ (KC.out) (fun hHeld => ?_)
        clear hK K
        try simp only [Act.put, List.getElem_toArray, List.getElem_cons_succ, List.getElem_cons_zero, List.setIfInBounds_toArray, List.set_cons_zero, List.set_cons_succ]
        refine wpAnyH_take (i := 14) (v := ?v14_31) rfl (by kernel_rfl) (by kernel_rfl) (by kernel_rfl) (fun _ _ _ h => h) (Or.inl ⟨by rfl, ?y14_31⟩) (by assumption) ?r14_31
        case y14_31 => (intro w hSw; (try dsimp only at hSw); go_simp; first | done | with_reducible rfl)
        try simp only [Act.put, List.getElem_toArray, List.getElem_cons_succ, List.getElem_cons_zero, List.setIfInBounds_toArray, List.set_cons_zero, List.set_cons_succ]
        refine wpAnyH_take (i := 15) (v := ?v15_32) rfl (by kernel_rfl) (by kernel_rfl) (by kernel_rfl) (fun _ _ _ h => h) (Or.inl ⟨by rfl, ?y15_32⟩) (by assumption) ?r15_32
        case y15_32 => (intro w hSw; (try dsimp only at hSw); go_simp; first | done | with_reducible rfl)
        try simp only [Act.put, List.getElem_toArray, List.getElem_cons_succ, List.getElem_cons_zero, List.setIfInBounds_toArray, List.set_cons_zero, List.set_cons_succ]
        refine wpAnyH_take (i := 16) (v := ?v16_33) rfl (by kernel_rfl) (by kernel_rfl) (by kernel_rfl) (fun _ _ _ h => h) (Or.inl ⟨by rfl, ?y16_33⟩) (by assumption) ?r16_33
        case y16_33 => (intro w hSw; (try dsimp only at hSw); go_simp; first | done | with_reducible rfl)
        try simp only [Act.put, List.getElem_toArray, List.getElem_cons_succ, List.getElem_cons_zero, List.setIfInBounds_toArray, List.set_cons_zero, List.set_cons_succ]
        refine wpAnyH_take (i := 17) (v := ?v17_34) rfl (by kernel_rfl) (by kernel_rfl) (by kernel_rfl) (fun _ _ _ h => h) (Or.inl ⟨by rfl, ?y17_34⟩) (by assumption) ?r17_34
        case y17_34 => (intro w hSw; (try dsimp only at hSw); have d0 := kp_kc0 X0.out hSw; have d1 := kp_kc0 X1.out hSw; go_simp; first | done | with_reducible rfl)
        try simp only [Act.put, List.getElem_toArray, List.getElem_cons_succ, List.getElem_cons_zero, List.setIfInBounds_toArray, List.set_cons_zero, List.set_cons_succ]
        refine wpAnyH_take (i := 19) (v := ?v19_35) rfl (by kernel_rfl) (by kernel_rfl) (by kernel_rfl) (fun _ _ _ h => h) (Or.inl ⟨by rfl, ?y19_35⟩) (by assumption) ?r19_35
        case y19_35 => (intro w hSw; (try dsimp only at hSw); have d0 := kp_kc0 A0.out hSw; have d1 := kp_kc0 A1.out hSw; go_simp; first | done | with_reducible rfl)
        try simp only [Act.put, List.getElem_toArray, List.getElem_cons_succ, List.getElem_cons_zero, List.setIfInBounds_toArray, List.set_cons_zero, List.set_cons_succ]
        refine wpAnyH_ready (rs := [18]) (by kernel_rfl) (by simp) ?_
        refine AllReadyH.cons rfl (fun K hK => ?_) AllReadyH.nil
        go_simp
        with_reducible refine (CML.out _).mono ?_
        rintro ev v18 ⟨rfl, k18⟩
        have KC := Lib.hid (KC.out.trans' k18)
        clear k18
        try dsimp only
        refine hK.out _ _ (KC.out) (fun hHeld => ?_)
        clear hK K
        try simp only [Act.put, List.getElem_toArray, List.getElem_cons_succ, List.getElem_cons_zero, List.setIfInBounds_toArray, List.set_cons_zero, List.set_cons_succ]
        refine wpAnyH_ready (rs := [20]) (by kernel_rfl) (by simp) ?_
        refine AllReadyH.cons rfl (fun K hK => ?_) AllReadyH.nil
        go_simp
        with_reducible refine (CNL.out _).mono ?_
        rintro ev v20 ⟨rfl, k20⟩
        have KC := Lib.hid (KC.out.trans' k20)
        clear k20
        try dsimp only
        refine hK.out _ _ (KC.out) (fun hHeld => ?_)
        clear hK K
        try simp only [Act.put, List.getElem_toArray, List.getElem_cons_succ, List.getElem_cons_zero, List.setIfInBounds_toArray, List.set_cons_zero, List.set_cons_succ]
        refine wpAnyH_take (i := 21) (v := ?v21_36) rfl (by kernel_rfl) (by kernel_rfl) (by kernel_rfl) (fun _ _ _ h => h) (Or.inl ⟨by rfl, ?y21_36⟩) (by assumption) ?r21_36
        case y21_36 => (intro w hSw; (try dsimp only at hSw); go_simp; first | done | with_reducible rfl)
        try simp only [Act.put, List.getElem_toArray, List.getElem_cons_succ, List.getElem_cons_zero, List.setIfInBounds_toArray, List.set_cons_zero, List.set_cons_succ]
        refine wpAnyH_take (i := 22) (v := ?v22_37) rfl (by kernel_rfl) (by kernel_rfl) (by kernel_rfl) (fun _ _ _ h => h) (Or.inl ⟨by rfl, ?y22_37⟩) (by assumption) ?r22_37
        case y22_37 => (intro w hSw; (try dsimp only at hSw); go_simp; first | done | with_reducible rfl)
        try simp only [Act.put, List.getElem_toArray, List.getElem_cons_succ, List.getElem_cons_zero, List.setIfInBounds_toArray, List.set_cons_zero, List.set_cons_succ]
        refine wpAnyH_take (i := 23) (v := ?v23_38) rfl (by kernel_rfl) (by kernel_rfl) (by kernel_rfl) (fun _ _ _ h => h) (Or.inl ⟨by rfl, ?y23_38⟩) (by assumption) ?r23_38
        case y23_38 => (intro w hSw; (try dsimp only at hSw); go_simp; first | done | with_reducible rfl)
        try simp only [Act.put, List.getElem_toArray, List.getElem_cons_succ, List.getElem_cons_zero, List.setIfInBounds_toArray, List.set_cons_zero, List.set_cons_succ]
        refine wpAnyH_take (i := 24) (v := ?v24_39) rfl (by kernel_rfl) (by kernel_rfl) (by kernel_rfl) (fun _ _ _ h => h) (Or.inl ⟨by rfl, ?y24_39⟩) (by assumption) ?r24_39
        case y24_39 => (intro w hSw; (try dsimp only at hSw); have d0 := kp_kc0 X0.out hSw; have d1 := kp_kc0 X1.out hSw; go_simp; first | done | with_reducible rfl)
        try simp only [Act.put, List.getElem_toArray, List.getElem_cons_succ, List.getElem_cons_zero, List.setIfInBounds_toArray, List.set_cons_zero, List.set_cons_succ]
        refine wpAnyH_take (i := 26) (v := ?v26_40) rfl (by kernel_rfl) (by kernel_rfl) (by kernel_rfl) (fun _ _ _ h => h) (Or.inl ⟨by rfl, ?y26_40⟩) (by assumption) ?r26_40
        case y26_40 => (intro w hSw; (try dsimp only at hSw); have d0 := kp_kc0 A0.out hSw; have d1 := kp_kc0 A1.out hSw; go_simp; first | done | with_reducible rfl)
        try simp only [Act.put, List.getElem_toArray, List.getElem_cons_succ, List.getElem_cons_zero, List.setIfInBounds_toArray, List.set_cons_zero, List.set_cons_succ]
        refine wpAnyH_take (i := 29) (v := ?v29_41) rfl (by kernel_rfl) (by kernel_rfl) (by kernel_rfl) (fun _ _ _ h => h) (Or.inl ⟨by rfl, ?y29_41⟩) (by assumption) ?r29_41
        case y29_41 => (intro w hSw; (try dsimp only at hSw); have d0 := kp_kc0 A0.out hSw; have d1 := kp_kc0 A1.out hSw; go_simp; first | done | with_reducible rfl)
        try simp only [Act.put, List.getElem_toArray, List.getElem_cons_succ, List.getElem_cons_zero, List.setIfInBounds_toArray, List.set_cons_zero, List.set_cons_succ]
        refine wpAnyH_ready (rs := [25]) (by kernel_rfl) (by simp) ?_
        refine AllReadyH.cons rfl (fun K hK => ?_) AllReadyH.nil
        go_simp
        with_reducible refine (CMM.out _).mono ?_
        rintro ev v25 ⟨rfl, k25⟩
        have KC := Lib.hid (KC.out.trans' k25)
        clear k25
        try dsimp only
        refine hK.out _ _ (KC.out) (fun hHeld => ?_)
        clear hK K
        try simp only [Act.put, List.getElem_toArray, List.getElem_cons_succ, List.getElem_cons_zero, List.setIfInBounds_toArray, List.set_cons_zero, List.set_cons_succ]
        refine wpAnyH_ready (rs := [27]) (by kernel_rfl) (by simp) ?_
        refine AllReadyH.cons rfl (fun K hK => ?_) AllReadyH.nil
        go_simp
        with_reducible refine (CNM.out _).mono ?_
        rintro ev v27 ⟨rfl, k27⟩
        have KC := Lib.hid (KC.out.trans' k27)
        clear k27
        try dsimp only
        refine hK.out _ _ (KC.out) (fun hHeld => ?_)
        clear hK K
        try simp only [Act.put, List.getElem_toArray, List.getElem_cons_succ, List.getElem_cons_zero, List.setIfInBounds_toArray, List.set_cons_zero, List.set_cons_succ]
        refine wpAnyH_take (i := 28) (v := ?v28_42) rfl (by kernel_rfl) (by kernel_rfl) (by kernel_rfl) (fun _ _ _ h => h) (Or.inl ⟨by rfl, ?y28_42⟩) (by assumption) ?r28_42
        case y28_42 => (intro w hSw; (try dsimp only at hSw); go_simp; first | done | with_reducible rfl)
        try simp only [Act.put, List.getElem_toArray, List.getElem_cons_succ, List.getElem_cons_zero, List.setIfInBounds_toArray, List.set_cons_zero, List.set_cons_succ]
        refine wpAnyH_ready (rs := [30]) (by kernel_rfl) (by simp) ?_
        refine AllReadyH.cons rfl (fun K hK => ?_) AllReadyH.nil
        go_simp
        with_reducible refine (CNM.out _).mono ?_
        rintro ev v30 ⟨rfl, k30⟩
        have KC := Lib.hid (KC.out.trans' k30)
        clear k30
        try dsimp only
        refine hK.out _ _ (KC.out) (fun hHeld => ?_)
        clear hK K
        try simp only [Act.put, List.getElem_toArray, List.getElem_cons_succ, List.getElem_cons_zero, List.setIfInBounds_toArray, List.set_cons_zero, List.set_cons_succ]
        refine wpAnyH_take (i := 31) (v := ?v31_43) rfl (by kernel_rfl) (by kernel_rfl) (by kernel_rfl) (fun _ _ _ h => h) (Or.inl ⟨by rfl, ?y31_43⟩) (by assumption) ?r31_43
        case y31_43 => (intro w hSw; (try dsimp only at hSw); go_simp; first | done | with_reducible rfl)
        try simp only [Act.put, List.getElem_toArray, List.getElem_cons_succ, List.getElem_cons_zero, List.setIfInBounds_toArray, List.set_cons_zero, List.set_cons_succ]
        refine wpAnyH_take (i := 32) (v := ?v32_44) rfl (by kernel_rfl) (by kernel_rfl) (by kernel_rfl) (fun _ _ _ h => h) (Or.inl ⟨by rfl, ?y32_44⟩) (by assumption) ?r32_44
        case y32_44 => (intro w hSw; (try dsimp only at hSw); go_simp; first | done | with_reducible rfl)
        try simp only [Act.put, List.getElem_toArray, List.getElem_cons_succ, List.getElem_cons_zero, List.setIfInBounds_toArray, List.set_cons_zero, List.set_cons_succ]
        refine wpAnyH_done (by kernel_rfl) ?_ _
        have K := Lib.hid (K.out.trans' KC.out)
        have HB0 := Lib.hid (HB0.out.kept KC.out (fun f => f))
        have HB1 := Lib.hid (HB1.out.kept KC.out (fun f => f))
        have HB2 := Lib.hid (HB2.out.kept KC.out (fun f => f))
        clear A0 A1 X0 X1 KC
        have q0 : v30.cell? ⟨w.heap.size, 0, none⟩ = some (.int .u32 (i : Int)) := HB0.out.cell 0
        have q1 : v30.cell? ⟨w.heap.size, 1, none⟩ = some (.int .i64 a) := HB0.out.cell 1
        have q2 : v30.cell? ⟨w.heap.size + 1, 0, none⟩ = some (.int .u32 (j : Int)) := HB1.out.cell 0
        have q3 : v30.cell? ⟨w.heap.size + 1, 1, none⟩ = some (.int .i64 b) := HB1.out.cell 1
        have q4 : v30.cell? ⟨w1.heap.size, 0, none⟩ = some (.int .u32 (i : Int)) := HB2.out.cell 0
        have q5 : v30.cell? ⟨w1.heap.size, 1, none⟩ = some (.int .i64 c) := HB2.out.cell 1
        go_wp2_with fail
        refine (CAN.out _).mono ?_
        rintro ev w5 ⟨rfl, k⟩
        clear q0 q1 q2 q3 q4 q5
        have K := Lib.hid (K.out.trans' k)
        have HB0 := Lib.hid (HB0.out.kept k (fun f => f))
        have HB1 := Lib.hid (HB1.out.kept k (fun f => f))
        have HB2 := Lib.hid (HB2.out.kept k (fun f => f))
        clear k
        have q0 : w5.cell? ⟨w.heap.size, 0, none⟩ = some (.int .u32 (i : Int)) := HB0.out.cell 0
        have q1 : w5.cell? ⟨w.heap.size, 1, none⟩ = some (.int .i64 a) := HB0.out.cell 1
        have q2 : w5.cell? ⟨w.heap.size + 1, 0, none⟩ = some (.int .u32 (j : Int)) := HB1.out.cell 0
        have q3 : w5.cell? ⟨w.heap.size + 1, 1, none⟩ = some (.int .i64 b) := HB1.out.cell 1
        have q4 : w5.cell? ⟨w1.heap.size, 0, none⟩ = some (.int .u32 (i : Int)) := HB2.out.cell 0
        have q5 : w5.cell? ⟨w1.heap.size, 1, none⟩ = some (.int .i64 c) := HB2.out.cell 1
        cases an with
        | false =>
          go_wp2_with fail
          exact bodyPost_ret (results_tmp rfl _ _ _) rfl ⟨rfl, K.out⟩
        | true =>
          obtain rfl : am = true := g5 (by first | rfl | trivial)
          go_wp2_with fail
          refine (CAM.out _).mono ?_
          rintro ev w6 ⟨rfl, k⟩
          clear q0 q1 q2 q3 q4 q5
          have K := Lib.hid (K.out.trans' k)
          have HB0 := Lib.hid (HB0.out.kept k (fun f => f))
          have HB1 := Lib.hid (HB1.out.kept k (fun f => f))
          have HB2 := Lib.hid (HB2.out.kept k (fun f => f))
          clear k
          have q0 : w6.cell? ⟨w.heap.size, 0, none⟩ = some (.int .u32 (i : Int)) := HB0.out.cell 0
          have q1 : w6.cell? ⟨w.heap.size, 1, none⟩ = some (.int .i64 a) := HB0.out.cell 1
          have q2 : w6.cell? ⟨w.heap.size + 1, 0, none⟩ = some (.int .u32 (j : Int)) := HB1.out.cell 0
          have q3 : w6.cell? ⟨w.heap.size + 1, 1, none⟩ = some (.int .i64 b) := HB1.out.cell 1
          have q4 : w6.cell? ⟨w1.heap.size, 0, none⟩ = some (.int .u32 (i : Int)) := HB2.out.cell 0
          have q5 : w6.cell? ⟨w1.heap.size, 1, none⟩ = some (.int .i64 c) := HB2.out.cell 1
          go_wp2_with fail
          exact bodyPost_ret (results_tmp rfl _ _ _) rfl ⟨rfl, K.out⟩
end Go.Proofs.YtkafdpidhelfdaaDoor
