/- Place: PlaceHosts' walk. -/
import Derived.Test.YtkafdpidhelfdaaDoorPml
set_option linter.unusedVariables false
set_option linter.unusedSimpArgs false
namespace Go.Proofs.YtkafdpidhelfdaaDoor
open Go.RowKit

theorem u32w {n : Nat} (h : n < 4294967296) : IntKind.u32.wrap (n : Int) = (n : Int) := by
  show (n : Int) % 4294967296 = _
  omega
theorem hosts_and {x : Nat} (i : Nat) {a : Int} (hx : x < 4294967296) (hb : bnd a = true) : (nhas i a x == ((x &&& nmask a) == nbase i a)) = true := by
  have e := and_nmask hx (b := a)
  rw [if_pos hb] at e
  have p := nsz_pos a
  unfold nhas nbase
  rw [if_pos hb, hb, e, Bool.true_and, beq_iff_eq]
  by_cases h : x / nsz a = i / nsz a
  · rw [h]; simp
  · have : ¬ (x / nsz a * nsz a = i / nsz a * nsz a) := fun q => h (Nat.eq_of_mul_eq_mul_right p q)
    simp [h, this]
theorem hosts_rest (i : Nat) {a : Int} (hb : bnd a = true) : nlast i a - nbase i a = 4294967295 - nmask a := by
  rw [last_base hb]
  unfold nmask
  rw [if_pos hb]
  have p := nsz_pos a
  obtain ⟨t, h1, h2, _, h4⟩ := bnd_nsz hb
  rw [h4] at p ⊢
  have := pow_le32 (s := t) (by omega)
  omega
theorem apart_not {i j : Nat} {a b : Int} (ha : nright i a = true) (hb : nright j b = true) (h : napart i a j b = false) : nhas i a (nbase j b) = true ∨ nhas j b (nbase i a) = true := by
  unfold napart at h
  rw [ha, hb] at h
  cases h1 : nhas i a (nbase j b)
  · cases h2 : nhas j b (nbase i a)
    · rw [h1, h2] at h; cases h
    · exact .inr rfl
  · exact .inl rfl
set_option maxRecDepth 1000000 in
set_option maxHeartbeats 8000000 in
theorem hosts_walk (i j x : Nat) (a b : Int) (w : World) (hl : Laid2 w) (hi : i < 4294967296) (hj : j < 4294967296) (hx : x < 4294967296) : Calls Tryd.prog 5 #[netV i a, netV j b, .int .u32 (x : Int)] w fun ev w' => ev = .returned (.bool true) ∧ Kp (fun _ => False) w w' := by
  have K0 := ((Kp.refl (fun _ => False) w).alloc (.cells #[.int .u32 (i : Int), .int .i64 a] 24)).alloc (.cells #[.int .u32 (j : Int), .int .i64 b] 24)
  have HB0 := Lib.hid ((Bk.new w 24 #[.int .u32 (i : Int), .int .i64 a]).alloc (.cells #[.int .u32 (j : Int), .int .i64 b] 24))
  have HB1 := Bk.new (w.alloc (.cells #[.int .u32 (i : Int), .int .i64 a] 24)) 24 #[.int .u32 (j : Int), .int .i64 b]
  rw [World.size_alloc] at HB1
  have HB1 := Lib.hid HB1
  have K := Lib.hid K0
  have HL := Lib.hid (hl.keep K0)
  clear K0 hl
  cases hra : nright i a with
  | false =>
    have CR := Lib.hid (show ∀ W, Calls Tryd.prog 9 #[netV i a] W fun ev w' => ev = .returned (.bool false) ∧ Kp (fun _ => False) W w' from fun W => by
      have q := right_ i a W hi
      rw [hra] at q
      exact q)
    have CA := Lib.hid (show ∀ W, Calls Tryd.prog 21 #[netV i a, netV j b] W fun ev w' => ev = .returned (.bool false) ∧ Kp (fun _ => False) W w' from fun W => by
      have q := apart_ i j a b W hi hj
      rw [show napart i a j b = false by unfold napart; rw [hra]; rfl] at q
      exact q)
    have CB := Lib.hid (show ∀ W, Calls Tryd.prog 21 #[netV j b, netV i a] W fun ev w' => ev = .returned (.bool false) ∧ Kp (fun _ => False) W w' from fun W => by
      have q := apart_ j i b a W hj hi
      rw [show napart j b i a = false by rw [napart_comm]; unfold napart; rw [hra]; rfl] at q
      exact q)
    go_enter Tryd.func5, Tryd.ntmps5
    go_wp2_with fail
    refine (alive04 _ HL.out).mono ?_
    rintro ev w1 ⟨rfl, k⟩
    have K := Lib.hid (K.out.trans' k)
    have HB0 := Lib.hid (HB0.out.kept k (fun f => f))
    have HB1 := Lib.hid (HB1.out.kept k (fun f => f))
    clear k
    have q0 : w1.cell? ⟨w.heap.size, 0, none⟩ = some (.int .u32 (i : Int)) := HB0.out.cell 0
    have q1 : w1.cell? ⟨w.heap.size, 1, none⟩ = some (.int .i64 a) := HB0.out.cell 1
    have q2 : w1.cell? ⟨w.heap.size + 1, 0, none⟩ = some (.int .u32 (j : Int)) := HB1.out.cell 0
    have q3 : w1.cell? ⟨w.heap.size + 1, 1, none⟩ = some (.int .i64 b) := HB1.out.cell 1
    go_wp2_with fail
    refine (CR.out _).mono ?_
    rintro ev w2 ⟨rfl, k⟩
    clear q0 q1 q2 q3
    have K := Lib.hid (K.out.trans' k)
    have HB0 := Lib.hid (HB0.out.kept k (fun f => f))
    have HB1 := Lib.hid (HB1.out.kept k (fun f => f))
    clear k
    have q0 : w2.cell? ⟨w.heap.size, 0, none⟩ = some (.int .u32 (i : Int)) := HB0.out.cell 0
    have q1 : w2.cell? ⟨w.heap.size, 1, none⟩ = some (.int .i64 a) := HB0.out.cell 1
    have q2 : w2.cell? ⟨w.heap.size + 1, 0, none⟩ = some (.int .u32 (j : Int)) := HB1.out.cell 0
    have q3 : w2.cell? ⟨w.heap.size + 1, 1, none⟩ = some (.int .i64 b) := HB1.out.cell 1
    go_wp2_with fail
    refine (CA.out _).mono ?_
    rintro ev w3 ⟨rfl, k⟩
    clear q0 q1 q2 q3
    have K := Lib.hid (K.out.trans' k)
    have HB0 := Lib.hid (HB0.out.kept k (fun f => f))
    have HB1 := Lib.hid (HB1.out.kept k (fun f => f))
    clear k
    have q0 : w3.cell? ⟨w.heap.size, 0, none⟩ = some (.int .u32 (i : Int)) := HB0.out.cell 0
    have q1 : w3.cell? ⟨w.heap.size, 1, none⟩ = some (.int .i64 a) := HB0.out.cell 1
    have q2 : w3.cell? ⟨w.heap.size + 1, 0, none⟩ = some (.int .u32 (j : Int)) := HB1.out.cell 0
    have q3 : w3.cell? ⟨w.heap.size + 1, 1, none⟩ = some (.int .i64 b) := HB1.out.cell 1
    go_wp2_with fail
    refine (CB.out _).mono ?_
    rintro ev w4 ⟨rfl, k⟩
    clear q0 q1 q2 q3
    have K := Lib.hid (K.out.trans' k)
    have HB0 := Lib.hid (HB0.out.kept k (fun f => f))
    have HB1 := Lib.hid (HB1.out.kept k (fun f => f))
    clear k
    have q0 : w4.cell? ⟨w.heap.size, 0, none⟩ = some (.int .u32 (i : Int)) := HB0.out.cell 0
    have q1 : w4.cell? ⟨w.heap.size, 1, none⟩ = some (.int .i64 a) := HB0.out.cell 1
    have q2 : w4.cell? ⟨w.heap.size + 1, 0, none⟩ = some (.int .u32 (j : Int)) := HB1.out.cell 0
    have q3 : w4.cell? ⟨w.heap.size + 1, 1, none⟩ = some (.int .i64 b) := HB1.out.cell 1
    go_wp2_with fail
    exact bodyPost_ret (results_tmp rfl _ _ _) rfl ⟨rfl, K.out⟩
  | true =>
    have hb := nright_bnd hra
    have CR := Lib.hid (show ∀ W, Calls Tryd.prog 9 #[netV i a] W fun ev w' => ev = .returned (.bool true) ∧ Kp (fun _ => False) W w' from fun W => by
      have q := right_ i a W hi
      rw [hra] at q
      exact q)
    have C3 := Lib.hid (show ∀ W, Calls Tryd.prog 17 #[netV i a, .int .u32 (i : Int)] W fun ev w' => ev = .returned (.bool true) ∧ Kp (fun _ => False) W w' from fun W => by
      have q := host_ i i a W hi hi
      rw [nright_host hra] at q
      exact q)
    have C9 := Lib.hid (show ∀ W, Calls Tryd.prog 17 #[netV i a, .int .u32 ((nbase i a : Nat) : Int)] W fun ev w' => ev = .returned (.bool false) ∧ Kp (fun _ => False) W w' from fun W => by
      have q := host_ i (nbase i a) a W hi (Nat.lt_of_le_of_lt (nbase_le i a) hi)
      rw [base_host i a] at q
      exact q)
    have C15 := Lib.hid (show ∀ W, Calls Tryd.prog 17 #[netV i a, .int .u32 ((nlast i a : Nat) : Int)] W fun ev w' => ev = .returned (.bool false) ∧ Kp (fun _ => False) W w' from fun W => by
      have q := host_ i (nlast i a) a W hi (nlast_lt hi)
      rw [last_host i a] at q
      exact q)
    have C21 := Lib.hid (show ∀ W, Calls Tryd.prog 15 #[netV i a, .int .u32 ((nbase i a : Nat) : Int)] W fun ev w' => ev = .returned (.bool true) ∧ Kp (fun _ => False) W w' from fun W => by
      have q := has_ i (nbase i a) a W hi (Nat.lt_of_le_of_lt (nbase_le i a) hi)
      rw [base_has hb] at q
      exact q)
    have C28 := Lib.hid (show ∀ W, Calls Tryd.prog 15 #[netV i a, .int .u32 ((nlast i a : Nat) : Int)] W fun ev w' => ev = .returned (.bool true) ∧ Kp (fun _ => False) W w' from fun W => by
      have q := has_ i (nlast i a) a W hi (nlast_lt hi)
      rw [last_has hb] at q
      exact q)
    have hm := nmask_lt a
    have hbl := Nat.lt_of_le_of_lt (nbase_le i a) hi
    have hll := nlast_lt (b := a) hi
    have hbb := base_le_last (ip := i) hb
    have E1 : bits BinOp.and IntKind.u32 (x : Int) ((nmask a : Nat) : Int) = ((x &&& nmask a : Nat) : Int) := u32_and_nat _ _ hx hm
    have hrest := hosts_rest i hb
    have E2 : IntKind.u32.wrap (((nlast i a : Nat) : Int) - ((nbase i a : Nat) : Int)) = ((4294967295 - nmask a : Nat) : Int) := by
      rw [← hrest, show ((nlast i a : Nat) : Int) - ((nbase i a : Nat) : Int) = ((nlast i a - nbase i a : Nat) : Int) by omega]
      exact u32w (by omega)
    have E4 : bits .xor .u32 IntKind.u32.max ((nmask a : Nat) : Int) = ((4294967295 - nmask a : Nat) : Int) := by
      rw [show IntKind.u32.max = ((4294967295 : Nat) : Int) by rfl, u32_xor_nat _ _ (by omega) hm]
      obtain ⟨t, h1, h2, h3, he⟩ := bnd_nsz hb
      have h4 := pow_le32 (s := t) (by omega)
      have h5 : 0 < 2 ^ t := Nat.pow_pos (by omega)
      have e : nmask a = 4294967296 - 2 ^ t := by unfold nmask; rw [if_pos hb, he]
      rw [e, xor_mask (by omega)]
      omega
    have E5 : bits .xor .u32 (if IntKind.u32.signed = true then -1 else IntKind.u32.max) ((nmask a : Nat) : Int) = ((4294967295 - nmask a : Nat) : Int) := by
      rw [if_neg (by decide)]
      exact E4
    have hand := hosts_and i hx hb
    have E3 : (((x &&& nmask a : Nat) : Int) == ((nbase i a : Nat) : Int)) = nhas i a x := by
      rw [beq_iff_eq.1 hand]
      by_cases h : (x &&& nmask a) = nbase i a
      · rw [h]; simp
      · have h' : ¬ (((x &&& nmask a : Nat) : Int) = ((nbase i a : Nat) : Int)) := by omega
        rw [beq_eq_false_iff_ne.2 h, beq_eq_false_iff_ne.2 h']
    have CX := Lib.hid (fun W => has_ i x a W hi hx)
    have CB := Lib.hid (fun W => base_ i a W hi)
    have CL := Lib.hid (fun W => last_ i a W hi)
    have CM := Lib.hid (fun W => mask_ i a W)
    have hHN := fun h => napart_none (i := i) (j := j) (x := x) (a := a) (b := b) h
    have hHI := fun h => napart_none (i := i) (j := j) (x := i) (a := a) (b := b) h
    have hHJ := fun h => napart_none (i := i) (j := j) (x := j) (a := a) (b := b) h
    have hself := self_has (ip := i) hb
    have hnr := fun h => (napart_iff (i := i) (j := j) (a := a) (b := b)).1 h
    have hnot := fun h1 h2 => apart_not (i := i) (j := j) (a := a) (b := b) hra h1 h2
    have CA := Lib.hid (fun W => apart_ i j a b W hi hj)
    have CA2 := Lib.hid (fun W => apart_ j i b a W hj hi)
    have CRJ := Lib.hid (fun W => right_ j b W hj)
    have CBJ := Lib.hid (fun W => base_ j b W hj)
    have CHB := Lib.hid (fun W => has_ i (nbase j b) a W hi (Nat.lt_of_le_of_lt (nbase_le j b) hj))
    have CHA := Lib.hid (fun W => has_ j (nbase i a) b W hj hbl)
    have CXJ := Lib.hid (fun W => has_ j x b W hj hx)
    have CIJ := Lib.hid (fun W => has_ i j a W hi hj)
    have CJI := Lib.hid (fun W => has_ j i b W hj hi)
    have hcm := napart_comm i a j b
    have hbj : nright j b = true → nhas j b j = true := fun h => self_has (nright_bnd h)
    have hbJl := Nat.lt_of_le_of_lt (nbase_le j b) hj
    clear hand hrest hbb
    generalize x &&& nmask a = XA at *
    generalize 4294967295 - nmask a = XM at *
    generalize nmask a = M at *
    generalize nlast i a = LL at *
    generalize nbase i a = BB at *
    generalize nbase j b = BJ at *
    generalize hh1 : nhas i a x = h1 at *
    generalize hh2 : nhas j b x = h2 at *
    generalize hh3 : nhas i a BJ = h3 at *
    generalize hh4 : nhas j b BB = h4 at *
    generalize hh5 : nhas i a j = h5 at *
    generalize hh6 : nhas j b i = h6 at *
    rw [← hcm] at CA2
    generalize hap : napart i a j b = ap at *
    generalize hrj : nright j b = rj at *
    clear hcm hra hb hh1 hh2 hh3 hh4 hh5 hh6 hap hrj
    rw [hself] at hHI
    go_enter Tryd.func5, Tryd.ntmps5
    go_wp2_with fail
    refine (alive04 _ HL.out).mono ?_
    rintro ev w1 ⟨rfl, k⟩
    have K := Lib.hid (K.out.trans' k)
    have HB0 := Lib.hid (HB0.out.kept k (fun f => f))
    have HB1 := Lib.hid (HB1.out.kept k (fun f => f))
    clear k
    have q0 : w1.cell? ⟨w.heap.size, 0, none⟩ = some (.int .u32 (i : Int)) := HB0.out.cell 0
    have q1 : w1.cell? ⟨w.heap.size, 1, none⟩ = some (.int .i64 a) := HB0.out.cell 1
    have q2 : w1.cell? ⟨w.heap.size + 1, 0, none⟩ = some (.int .u32 (j : Int)) := HB1.out.cell 0
    have q3 : w1.cell? ⟨w.heap.size + 1, 1, none⟩ = some (.int .i64 b) := HB1.out.cell 1
    go_wp2_with fail
    refine (CR.out _).mono ?_
    rintro ev w2 ⟨rfl, k⟩
    clear q0 q1 q2 q3
    have K := Lib.hid (K.out.trans' k)
    have HB0 := Lib.hid (HB0.out.kept k (fun f => f))
    have HB1 := Lib.hid (HB1.out.kept k (fun f => f))
    clear k
    have q0 : w2.cell? ⟨w.heap.size, 0, none⟩ = some (.int .u32 (i : Int)) := HB0.out.cell 0
    have q1 : w2.cell? ⟨w.heap.size, 1, none⟩ = some (.int .i64 a) := HB0.out.cell 1
    have q2 : w2.cell? ⟨w.heap.size + 1, 0, none⟩ = some (.int .u32 (j : Int)) := HB1.out.cell 0
    have q3 : w2.cell? ⟨w.heap.size + 1, 1, none⟩ = some (.int .i64 b) := HB1.out.cell 1
    clear q0 q1 q2 q3
    have A0 := Lib.hid (show w2.cell? ⟨w.heap.size, 0, none⟩ = some (.int .u32 (i : Int)) from HB0.out.cell 0)
    have A1 := Lib.hid (show w2.cell? ⟨w.heap.size, 1, none⟩ = some (.int .i64 a) from HB0.out.cell 1)
    have B0 := Lib.hid (show w2.cell? ⟨w.heap.size + 1, 0, none⟩ = some (.int .u32 (j : Int)) from HB1.out.cell 0)
    have B1 := Lib.hid (show w2.cell? ⟨w.heap.size + 1, 1, none⟩ = some (.int .i64 b) from HB1.out.cell 1)
    have KC := Lib.hid (Kp.refl (fun _ => False) w2).drew
    go_wp2_with fail
    refine wp_region_held_drew (S := (fun w' => Kp (fun _ => False) w2 w')) (by kernel_rfl) (KC.out) (fun hHeld => ?_)
    refine wpAnyH_take (i := 0) (v := ?v0_0) rfl (by kernel_rfl) (by kernel_rfl) (by kernel_rfl) (fun _ _ _ h => h) (Or.inl ⟨by rfl, ?y0_0⟩) (by assumption) ?r0_0
    case y0_0 => (intro w hSw; (try dsimp only at hSw); have d0 := kp_kc0 A0.out hSw; have d1 := kp_kc0 A1.out hSw; go_simp; first | done | with_reducible rfl)
    try simp only [Act.put, List.getElem_toArray, List.getElem_cons_succ, List.getElem_cons_zero, List.setIfInBounds_toArray, List.set_cons_zero, List.set_cons_succ]
    refine wpAnyH_take (i := 1) (v := ?v1_1) rfl (by kernel_rfl) (by kernel_rfl) (by kernel_rfl) (fun _ _ _ h => h) (Or.inl ⟨by rfl, ?y1_1⟩) (by assumption) ?r1_1
    case y1_1 => (intro w hSw; (try dsimp only at hSw); go_simp; first | done | with_reducible rfl)
    try simp only [Act.put, List.getElem_toArray, List.getElem_cons_succ, List.getElem_cons_zero, List.setIfInBounds_toArray, List.set_cons_zero, List.set_cons_succ]
    refine wpAnyH_take (i := 2) (v := ?v2_2) rfl (by kernel_rfl) (by kernel_rfl) (by kernel_rfl) (fun _ _ _ h => h) (Or.inl ⟨by rfl, ?y2_2⟩) (by assumption) ?r2_2
    case y2_2 => (intro w hSw; (try dsimp only at hSw); have d0 := kp_kc0 A0.out hSw; go_simp; first | done | with_reducible rfl)
    try simp only [Act.put, List.getElem_toArray, List.getElem_cons_succ, List.getElem_cons_zero, List.setIfInBounds_toArray, List.set_cons_zero, List.set_cons_succ]
    refine wpAnyH_ready (rs := [3]) (by kernel_rfl) (by simp) ?_
    refine AllReadyH.cons rfl (fun K hK => ?_) AllReadyH.nil
    go_simp
    with_reducible refine (C3.out _).mono ?_
    rintro ev v3 ⟨rfl, k3⟩
    have KC := Lib.hid (KC.out.trans' k3)
    clear k3
    try dsimp only
    refine hK.out _ _ (KC.out) (fun hHeld => ?_)
    clear hK K
    try simp only [Act.put, List.getElem_toArray, List.getElem_cons_succ, List.getElem_cons_zero, List.setIfInBounds_toArray, List.set_cons_zero, List.set_cons_succ]
    refine wpAnyH_take (i := 4) (v := ?v4_3) rfl (by kernel_rfl) (by kernel_rfl) (by kernel_rfl) (fun _ _ _ h => h) (Or.inl ⟨by rfl, ?y4_3⟩) (by assumption) ?r4_3
    case y4_3 => (intro w hSw; (try dsimp only at hSw); go_simp; first | done | with_reducible rfl)
    try simp only [Act.put, List.getElem_toArray, List.getElem_cons_succ, List.getElem_cons_zero, List.setIfInBounds_toArray, List.set_cons_zero, List.set_cons_succ]
    refine wpAnyH_take (i := 5) (v := ?v5_4) rfl (by kernel_rfl) (by kernel_rfl) (by kernel_rfl) (fun _ _ _ h => h) (Or.inl ⟨by rfl, ?y5_4⟩) (by assumption) ?r5_4
    case y5_4 => (intro w hSw; (try dsimp only at hSw); go_simp; first | done | with_reducible rfl)
    try simp only [Act.put, List.getElem_toArray, List.getElem_cons_succ, List.getElem_cons_zero, List.setIfInBounds_toArray, List.set_cons_zero, List.set_cons_succ]
    refine wpAnyH_take (i := 6) (v := ?v6_5) rfl (by kernel_rfl) (by kernel_rfl) (by kernel_rfl) (fun _ _ _ h => h) (Or.inl ⟨by rfl, ?y6_5⟩) (by assumption) ?r6_5
    case y6_5 => (intro w hSw; (try dsimp only at hSw); have d0 := kp_kc0 A0.out hSw; have d1 := kp_kc0 A1.out hSw; go_simp; first | done | with_reducible rfl)
    try simp only [Act.put, List.getElem_toArray, List.getElem_cons_succ, List.getElem_cons_zero, List.setIfInBounds_toArray, List.set_cons_zero, List.set_cons_succ]
    refine wpAnyH_take (i := 7) (v := ?v7_6) rfl (by kernel_rfl) (by kernel_rfl) (by kernel_rfl) (fun _ _ _ h => h) (Or.inl ⟨by rfl, ?y7_6⟩) (by assumption) ?r7_6
    case y7_6 => (intro w hSw; (try dsimp only at hSw); have d0 := kp_kc0 A0.out hSw; have d1 := kp_kc0 A1.out hSw; go_simp; first | done | with_reducible rfl)
    try simp only [Act.put, List.getElem_toArray, List.getElem_cons_succ, List.getElem_cons_zero, List.setIfInBounds_toArray, List.set_cons_zero, List.set_cons_succ]
    refine wpAnyH_ready (rs := [8]) (by kernel_rfl) (by simp) ?_
    refine AllReadyH.cons rfl (fun K hK => ?_) AllReadyH.nil
    go_simp
    with_reducible refine (CB.out _).mono ?_
    rintro ev v8 ⟨rfl, k8⟩
    have KC := Lib.hid (KC.out.trans' k8)
    clear k8
    try dsimp only
    refine hK.out _ _ (KC.out) (fun hHeld => ?_)
    clear hK K
    try simp only [Act.put, List.getElem_toArray, List.getElem_cons_succ, List.getElem_cons_zero, List.setIfInBounds_toArray, List.set_cons_zero, List.set_cons_succ]
    refine wpAnyH_ready (rs := [9]) (by kernel_rfl) (by simp) ?_
    refine AllReadyH.cons rfl (fun K hK => ?_) AllReadyH.nil
    go_simp
    with_reducible refine (C9.out _).mono ?_
    rintro ev v9 ⟨rfl, k9⟩
    have KC := Lib.hid (KC.out.trans' k9)
    clear k9
    try dsimp only
    refine hK.out _ _ (KC.out) (fun hHeld => ?_)
    clear hK K
    try simp only [Act.put, List.getElem_toArray, List.getElem_cons_succ, List.getElem_cons_zero, List.setIfInBounds_toArray, List.set_cons_zero, List.set_cons_succ]
    refine wpAnyH_take (i := 10) (v := ?v10_7) rfl (by kernel_rfl) (by kernel_rfl) (by kernel_rfl) (fun _ _ _ h => h) (Or.inl ⟨by rfl, ?y10_7⟩) (by assumption) ?r10_7
    case y10_7 => (intro w hSw; (try dsimp only at hSw); go_simp; first | done | with_reducible rfl)
    try simp only [Act.put, List.getElem_toArray, List.getElem_cons_succ, List.getElem_cons_zero, List.setIfInBounds_toArray, List.set_cons_zero, List.set_cons_succ]
    refine wpAnyH_take (i := 11) (v := ?v11_8) rfl (by kernel_rfl) (by kernel_rfl) (by kernel_rfl) (fun _ _ _ h => h) (Or.inl ⟨by rfl, ?y11_8⟩) (by assumption) ?r11_8
    case y11_8 => (intro w hSw; (try dsimp only at hSw); go_simp; first | done | with_reducible rfl)
    try simp only [Act.put, List.getElem_toArray, List.getElem_cons_succ, List.getElem_cons_zero, List.setIfInBounds_toArray, List.set_cons_zero, List.set_cons_succ]
    refine wpAnyH_take (i := 12) (v := ?v12_9) rfl (by kernel_rfl) (by kernel_rfl) (by kernel_rfl) (fun _ _ _ h => h) (Or.inl ⟨by rfl, ?y12_9⟩) (by assumption) ?r12_9
    case y12_9 => (intro w hSw; (try dsimp only at hSw); have d0 := kp_kc0 A0.out hSw; have d1 := kp_kc0 A1.out hSw; go_simp; first | done | with_reducible rfl)
    try simp only [Act.put, List.getElem_toArray, List.getElem_cons_succ, List.getElem_cons_zero, List.setIfInBounds_toArray, List.set_cons_zero, List.set_cons_succ]
    refine wpAnyH_take (i := 13) (v := ?v13_10) rfl (by kernel_rfl) (by kernel_rfl) (by kernel_rfl) (fun _ _ _ h => h) (Or.inl ⟨by rfl, ?y13_10⟩) (by assumption) ?r13_10
    case y13_10 => (intro w hSw; (try dsimp only at hSw); have d0 := kp_kc0 A0.out hSw; have d1 := kp_kc0 A1.out hSw; go_simp; first | done | with_reducible rfl)
    try simp only [Act.put, List.getElem_toArray, List.getElem_cons_succ, List.getElem_cons_zero, List.setIfInBounds_toArray, List.set_cons_zero, List.set_cons_succ]
    refine wpAnyH_ready (rs := [14]) (by kernel_rfl) (by simp) ?_
    refine AllReadyH.cons rfl (fun K hK => ?_) AllReadyH.nil
    go_simp
    with_reducible refine (CL.out _).mono ?_
    rintro ev v14 ⟨rfl, k14⟩
    have KC := Lib.hid (KC.out.trans' k14)
    clear k14
    try dsimp only
    refine hK.out _ _ (KC.out) (fun hHeld => ?_)
    clear hK K
    try simp only [Act.put, List.getElem_toArray, List.getElem_cons_succ, List.getElem_cons_zero, List.setIfInBounds_toArray, List.set_cons_zero, List.set_cons_succ]
    refine wpAnyH_ready (rs := [15]) (by kernel_rfl) (by simp) ?_
    refine AllReadyH.cons rfl (fun K hK => ?_) AllReadyH.nil
    go_simp
    with_reducible refine (C15.out _).mono ?_
    rintro ev v15 ⟨rfl, k15⟩
    have KC := Lib.hid (KC.out.trans' k15)
    clear k15
    try dsimp only
    refine hK.out _ _ (KC.out) (fun hHeld => ?_)
    clear hK K
    try simp only [Act.put, List.getElem_toArray, List.getElem_cons_succ, List.getElem_cons_zero, List.setIfInBounds_toArray, List.set_cons_zero, List.set_cons_succ]
    refine wpAnyH_take (i := 16) (v := ?v16_11) rfl (by kernel_rfl) (by kernel_rfl) (by kernel_rfl) (fun _ _ _ h => h) (Or.inl ⟨by rfl, ?y16_11⟩) (by assumption) ?r16_11
    case y16_11 => (intro w hSw; (try dsimp only at hSw); go_simp; first | done | with_reducible rfl)
    try simp only [Act.put, List.getElem_toArray, List.getElem_cons_succ, List.getElem_cons_zero, List.setIfInBounds_toArray, List.set_cons_zero, List.set_cons_succ]
    refine wpAnyH_take (i := 17) (v := ?v17_12) rfl (by kernel_rfl) (by kernel_rfl) (by kernel_rfl) (fun _ _ _ h => h) (Or.inl ⟨by rfl, ?y17_12⟩) (by assumption) ?r17_12
    case y17_12 => (intro w hSw; (try dsimp only at hSw); go_simp; first | done | with_reducible rfl)
    try simp only [Act.put, List.getElem_toArray, List.getElem_cons_succ, List.getElem_cons_zero, List.setIfInBounds_toArray, List.set_cons_zero, List.set_cons_succ]
    refine wpAnyH_take (i := 18) (v := ?v18_13) rfl (by kernel_rfl) (by kernel_rfl) (by kernel_rfl) (fun _ _ _ h => h) (Or.inl ⟨by rfl, ?y18_13⟩) (by assumption) ?r18_13
    case y18_13 => (intro w hSw; (try dsimp only at hSw); have d0 := kp_kc0 A0.out hSw; have d1 := kp_kc0 A1.out hSw; go_simp; first | done | with_reducible rfl)
    try simp only [Act.put, List.getElem_toArray, List.getElem_cons_succ, List.getElem_cons_zero, List.setIfInBounds_toArray, List.set_cons_zero, List.set_cons_succ]
    refine wpAnyH_take (i := 19) (v := ?v19_14) rfl (by kernel_rfl) (by kernel_rfl) (by kernel_rfl) (fun _ _ _ h => h) (Or.inl ⟨by rfl, ?y19_14⟩) (by assumption) ?r19_14
    case y19_14 => (intro w hSw; (try dsimp only at hSw); have d0 := kp_kc0 A0.out hSw; have d1 := kp_kc0 A1.out hSw; go_simp; first | done | with_reducible rfl)
    try simp only [Act.put, List.getElem_toArray, List.getElem_cons_succ, List.getElem_cons_zero, List.setIfInBounds_toArray, List.set_cons_zero, List.set_cons_succ]
    refine wpAnyH_ready (rs := [20]) (by kernel_rfl) (by simp) ?_
    refine AllReadyH.cons rfl (fun K hK => ?_) AllReadyH.nil
    go_simp
    with_reducible refine (CB.out _).mono ?_
    rintro ev v20 ⟨rfl, k20⟩
    have KC := Lib.hid (KC.out.trans' k20)
    clear k20
    try dsimp only
    refine hK.out _ _ (KC.out) (fun hHeld => ?_)
    clear hK K
    try simp only [Act.put, List.getElem_toArray, List.getElem_cons_succ, List.getElem_cons_zero, List.setIfInBounds_toArray, List.set_cons_zero, List.set_cons_succ]
    refine wpAnyH_ready (rs := [21]) (by kernel_rfl) (by simp) ?_
    refine AllReadyH.cons rfl (fun K hK => ?_) AllReadyH.nil
    go_simp
    with_reducible refine (C21.out _).mono ?_
    rintro ev v21 ⟨rfl, k21⟩
    have KC := Lib.hid (KC.out.trans' k21)
    clear k21
    try dsimp only
    refine hK.out _ _ (KC.out) (fun hHeld => ?_)
    clear hK K
    try simp only [Act.put, List.getElem_toArray, List.getElem_cons_succ, List.getElem_cons_zero, List.setIfInBounds_toArray, List.set_cons_zero, List.set_cons_succ]
    refine wpAnyH_take (i := 22) (v := ?v22_15) rfl (by kernel_rfl) (by kernel_rfl) (by kernel_rfl) (fun _ _ _ h => h) (Or.inl ⟨by rfl, ?y22_15⟩) (by assumption) ?r22_15
    case y22_15 => (intro w hSw; (try dsimp only at hSw); go_simp; first | done | with_reducible rfl)
    try simp only [Act.put, List.getElem_toArray, List.getElem_cons_succ, List.getElem_cons_zero, List.setIfInBounds_toArray, List.set_cons_zero, List.set_cons_succ]
    refine wpAnyH_take (i := 23) (v := ?v23_16) rfl (by kernel_rfl) (by kernel_rfl) (by kernel_rfl) (fun _ _ _ h => h) (Or.inl ⟨by rfl, ?y23_16⟩) (by assumption) ?r23_16
    case y23_16 => (intro w hSw; (try dsimp only at hSw); go_simp; first | done | with_reducible rfl)
    try simp only [Act.put, List.getElem_toArray, List.getElem_cons_succ, List.getElem_cons_zero, List.setIfInBounds_toArray, List.set_cons_zero, List.set_cons_succ]
    refine wpAnyH_take (i := 24) (v := ?v24_17) rfl (by kernel_rfl) (by kernel_rfl) (by kernel_rfl) (fun _ _ _ h => h) (Or.inl ⟨by rfl, ?y24_17⟩) (by assumption) ?r24_17
    case y24_17 => (intro w hSw; (try dsimp only at hSw); go_simp; first | done | with_reducible rfl)
    try simp only [Act.put, List.getElem_toArray, List.getElem_cons_succ, List.getElem_cons_zero, List.setIfInBounds_toArray, List.set_cons_zero, List.set_cons_succ]
    refine wpAnyH_take (i := 25) (v := ?v25_18) rfl (by kernel_rfl) (by kernel_rfl) (by kernel_rfl) (fun _ _ _ h => h) (Or.inl ⟨by rfl, ?y25_18⟩) (by assumption) ?r25_18
    case y25_18 => (intro w hSw; (try dsimp only at hSw); have d0 := kp_kc0 A0.out hSw; have d1 := kp_kc0 A1.out hSw; go_simp; first | done | with_reducible rfl)
    try simp only [Act.put, List.getElem_toArray, List.getElem_cons_succ, List.getElem_cons_zero, List.setIfInBounds_toArray, List.set_cons_zero, List.set_cons_succ]
    refine wpAnyH_take (i := 26) (v := ?v26_19) rfl (by kernel_rfl) (by kernel_rfl) (by kernel_rfl) (fun _ _ _ h => h) (Or.inl ⟨by rfl, ?y26_19⟩) (by assumption) ?r26_19
    case y26_19 => (intro w hSw; (try dsimp only at hSw); have d0 := kp_kc0 A0.out hSw; have d1 := kp_kc0 A1.out hSw; go_simp; first | done | with_reducible rfl)
    try simp only [Act.put, List.getElem_toArray, List.getElem_cons_succ, List.getElem_cons_zero, List.setIfInBounds_toArray, List.set_cons_zero, List.set_cons_succ]
    refine wpAnyH_ready (rs := [27]) (by kernel_rfl) (by simp) ?_
    refine AllReadyH.cons rfl (fun K hK => ?_) AllReadyH.nil
    go_simp
    with_reducible refine (CL.out _).mono ?_
    rintro ev v27 ⟨rfl, k27⟩
    have KC := Lib.hid (KC.out.trans' k27)
    clear k27
    try dsimp only
    refine hK.out _ _ (KC.out) (fun hHeld => ?_)
    clear hK K
    try simp only [Act.put, List.getElem_toArray, List.getElem_cons_succ, List.getElem_cons_zero, List.setIfInBounds_toArray, List.set_cons_zero, List.set_cons_succ]
    refine wpAnyH_ready (rs := [28]) (by kernel_rfl) (by simp) ?_
    refine AllReadyH.cons rfl (fun K hK => ?_) AllReadyH.nil
    go_simp
    with_reducible refine (C28.out _).mono ?_
    rintro ev v28 ⟨rfl, k28⟩
    have KC := Lib.hid (KC.out.trans' k28)
    clear k28
    try dsimp only
    refine hK.out _ _ (KC.out) (fun hHeld => ?_)
    clear hK K
    try simp only [Act.put, List.getElem_toArray, List.getElem_cons_succ, List.getElem_cons_zero, List.setIfInBounds_toArray, List.set_cons_zero, List.set_cons_succ]
    refine wpAnyH_take (i := 29) (v := ?v29_20) rfl (by kernel_rfl) (by kernel_rfl) (by kernel_rfl) (fun _ _ _ h => h) (Or.inl ⟨by rfl, ?y29_20⟩) (by assumption) ?r29_20
    case y29_20 => (intro w hSw; (try dsimp only at hSw); go_simp; first | done | with_reducible rfl)
    try simp only [Act.put, List.getElem_toArray, List.getElem_cons_succ, List.getElem_cons_zero, List.setIfInBounds_toArray, List.set_cons_zero, List.set_cons_succ]
    refine wpAnyH_take (i := 30) (v := ?v30_21) rfl (by kernel_rfl) (by kernel_rfl) (by kernel_rfl) (fun _ _ _ h => h) (Or.inl ⟨by rfl, ?y30_21⟩) (by assumption) ?r30_21
    case y30_21 => (intro w hSw; (try dsimp only at hSw); go_simp; first | done | with_reducible rfl)
    try simp only [Act.put, List.getElem_toArray, List.getElem_cons_succ, List.getElem_cons_zero, List.setIfInBounds_toArray, List.set_cons_zero, List.set_cons_succ]
    refine wpAnyH_take (i := 31) (v := ?v31_22) rfl (by kernel_rfl) (by kernel_rfl) (by kernel_rfl) (fun _ _ _ h => h) (Or.inl ⟨by rfl, ?y31_22⟩) (by assumption) ?r31_22
    case y31_22 => (intro w hSw; (try dsimp only at hSw); go_simp; first | done | with_reducible rfl)
    try simp only [Act.put, List.getElem_toArray, List.getElem_cons_succ, List.getElem_cons_zero, List.setIfInBounds_toArray, List.set_cons_zero, List.set_cons_succ]
    refine wpAnyH_take (i := 32) (v := ?v32_23) rfl (by kernel_rfl) (by kernel_rfl) (by kernel_rfl) (fun _ _ _ h => h) (Or.inl ⟨by rfl, ?y32_23⟩) (by assumption) ?r32_23
    case y32_23 => (intro w hSw; (try dsimp only at hSw); have d0 := kp_kc0 A0.out hSw; have d1 := kp_kc0 A1.out hSw; go_simp; first | done | with_reducible rfl)
    try simp only [Act.put, List.getElem_toArray, List.getElem_cons_succ, List.getElem_cons_zero, List.setIfInBounds_toArray, List.set_cons_zero, List.set_cons_succ]
    refine wpAnyH_take (i := 33) (v := ?v33_24) rfl (by kernel_rfl) (by kernel_rfl) (by kernel_rfl) (fun _ _ _ h => h) (Or.inl ⟨by rfl, ?y33_24⟩) (by assumption) ?r33_24
    case y33_24 => (intro w hSw; (try dsimp only at hSw); go_simp; first | done | with_reducible rfl)
    try simp only [Act.put, List.getElem_toArray, List.getElem_cons_succ, List.getElem_cons_zero, List.setIfInBounds_toArray, List.set_cons_zero, List.set_cons_succ]
    refine wpAnyH_take (i := 35) (v := ?v35_25) rfl (by kernel_rfl) (by kernel_rfl) (by kernel_rfl) (fun _ _ _ h => h) (Or.inl ⟨by rfl, ?y35_25⟩) (by assumption) ?r35_25
    case y35_25 => (intro w hSw; (try dsimp only at hSw); go_simp; first | done | with_reducible rfl)
    try simp only [Act.put, List.getElem_toArray, List.getElem_cons_succ, List.getElem_cons_zero, List.setIfInBounds_toArray, List.set_cons_zero, List.set_cons_succ]
    refine wpAnyH_take (i := 36) (v := ?v36_26) rfl (by kernel_rfl) (by kernel_rfl) (by kernel_rfl) (fun _ _ _ h => h) (Or.inl ⟨by rfl, ?y36_26⟩) (by assumption) ?r36_26
    case y36_26 => (intro w hSw; (try dsimp only at hSw); have d0 := kp_kc0 A0.out hSw; have d1 := kp_kc0 A1.out hSw; go_simp; first | done | with_reducible rfl)
    try simp only [Act.put, List.getElem_toArray, List.getElem_cons_succ, List.getElem_cons_zero, List.setIfInBounds_toArray, List.set_cons_zero, List.set_cons_succ]
    refine wpAnyH_take (i := 39) (v := ?v39_27) rfl (by kernel_rfl) (by kernel_rfl) (by kernel_rfl) (fun _ _ _ h => h) (Or.inl ⟨by rfl, ?y39_27⟩) (by assumption) ?r39_27
    case y39_27 => (intro w hSw; (try dsimp only at hSw); have d0 := kp_kc0 A0.out hSw; have d1 := kp_kc0 A1.out hSw; go_simp; first | done | with_reducible rfl)
    try simp only [Act.put, List.getElem_toArray, List.getElem_cons_succ, List.getElem_cons_zero, List.setIfInBounds_toArray, List.set_cons_zero, List.set_cons_succ]
    refine wpAnyH_ready (rs := [34]) (by kernel_rfl) (by simp) ?_
    refine AllReadyH.cons rfl (fun K hK => ?_) AllReadyH.nil
    go_simp
    with_reducible refine (CX.out _).mono ?_
    rintro ev v34 ⟨rfl, k34⟩
    have KC := Lib.hid (KC.out.trans' k34)
    clear k34
    try dsimp only
    refine hK.out _ _ (KC.out) (fun hHeld => ?_)
    clear hK K
    try simp only [Act.put, List.getElem_toArray, List.getElem_cons_succ, List.getElem_cons_zero, List.setIfInBounds_toArray, List.set_cons_zero, List.set_cons_succ]
    refine wpAnyH_ready (rs := [37]) (by kernel_rfl) (by simp) ?_
    refine AllReadyH.cons rfl (fun K hK => ?_) AllReadyH.nil
    go_simp
    with_reducible refine (CM.out _).mono ?_
    rintro ev v37 ⟨rfl, k37⟩
    have KC := Lib.hid (KC.out.trans' k37)
    clear k37
    try dsimp only
    refine hK.out _ _ (KC.out) (fun hHeld => ?_)
    clear hK K
    try simp only [Act.put, List.getElem_toArray, List.getElem_cons_succ, List.getElem_cons_zero, List.setIfInBounds_toArray, List.set_cons_zero, List.set_cons_succ]
    refine wpAnyH_take (i := 38) (v := ?v38_28) rfl (by kernel_rfl) (by kernel_rfl) (by kernel_rfl) (fun _ _ _ h => h) (Or.inl ⟨by rfl, ?y38_28⟩) (by assumption) ?r38_28
    case y38_28 => (intro w hSw; (try dsimp only at hSw); go_simp; first | done | with_reducible rfl)
    try simp only [Act.put, List.getElem_toArray, List.getElem_cons_succ, List.getElem_cons_zero, List.setIfInBounds_toArray, List.set_cons_zero, List.set_cons_succ]
    refine wpAnyH_ready (rs := [40]) (by kernel_rfl) (by simp) ?_
    refine AllReadyH.cons rfl (fun K hK => ?_) AllReadyH.nil
    go_simp
    with_reducible refine (CB.out _).mono ?_
    rintro ev v40 ⟨rfl, k40⟩
    have KC := Lib.hid (KC.out.trans' k40)
    clear k40
    try dsimp only
    refine hK.out _ _ (KC.out) (fun hHeld => ?_)
    clear hK K
    try simp only [Act.put, List.getElem_toArray, List.getElem_cons_succ, List.getElem_cons_zero, List.setIfInBounds_toArray, List.set_cons_zero, List.set_cons_succ]
    refine wpAnyH_take (i := 41) (v := ?v41_29) rfl (by kernel_rfl) (by kernel_rfl) (by kernel_rfl) (fun _ _ _ h => h) (Or.inl ⟨by rfl, ?y41_29⟩) (by assumption) ?r41_29
    case y41_29 => (intro w hSw; (try dsimp only at hSw); go_simp; first | done | with_reducible rfl)
    try simp only [Act.put, List.getElem_toArray, List.getElem_cons_succ, List.getElem_cons_zero, List.setIfInBounds_toArray, List.set_cons_zero, List.set_cons_succ]
    refine wpAnyH_take (i := 42) (v := ?v42_30) rfl (by kernel_rfl) (by kernel_rfl) (by kernel_rfl) (fun _ _ _ h => h) (Or.inl ⟨by rfl, ?y42_30⟩) (by assumption) ?r42_30
    case y42_30 => (intro w hSw; (try dsimp only at hSw); go_simp; first | done | with_reducible rfl)
    try simp only [Act.put, List.getElem_toArray, List.getElem_cons_succ, List.getElem_cons_zero, List.setIfInBounds_toArray, List.set_cons_zero, List.set_cons_succ]
    refine wpAnyH_take (i := 43) (v := ?v43_31) rfl (by kernel_rfl) (by kernel_rfl) (by kernel_rfl) (fun _ _ _ h => h) (Or.inl ⟨by rfl, ?y43_31⟩) (by assumption) ?r43_31
    case y43_31 => (intro w hSw; (try dsimp only at hSw); go_simp; first | done | with_reducible rfl)
    try simp only [Act.put, List.getElem_toArray, List.getElem_cons_succ, List.getElem_cons_zero, List.setIfInBounds_toArray, List.set_cons_zero, List.set_cons_succ]
    refine wpAnyH_take (i := 44) (v := ?v44_32) rfl (by kernel_rfl) (by kernel_rfl) (by kernel_rfl) (fun _ _ _ h => h) (Or.inl ⟨by rfl, ?y44_32⟩) (by assumption) ?r44_32
    case y44_32 => (intro w hSw; (try dsimp only at hSw); go_simp; first | done | with_reducible rfl)
    try simp only [Act.put, List.getElem_toArray, List.getElem_cons_succ, List.getElem_cons_zero, List.setIfInBounds_toArray, List.set_cons_zero, List.set_cons_succ]
    refine wpAnyH_take (i := 45) (v := ?v45_33) rfl (by kernel_rfl) (by kernel_rfl) (by kernel_rfl) (fun _ _ _ h => h) (Or.inl ⟨by rfl, ?y45_33⟩) (by assumption) ?r45_33
    case y45_33 => (intro w hSw; (try dsimp only at hSw); have d0 := kp_kc0 A0.out hSw; have d1 := kp_kc0 A1.out hSw; go_simp; first | done | with_reducible rfl)
    try simp only [Act.put, List.getElem_toArray, List.getElem_cons_succ, List.getElem_cons_zero, List.setIfInBounds_toArray, List.set_cons_zero, List.set_cons_succ]
    refine wpAnyH_take (i := 47) (v := ?v47_34) rfl (by kernel_rfl) (by kernel_rfl) (by kernel_rfl) (fun _ _ _ h => h) (Or.inl ⟨by rfl, ?y47_34⟩) (by assumption) ?r47_34
    case y47_34 => (intro w hSw; (try dsimp only at hSw); have d0 := kp_kc0 A0.out hSw; have d1 := kp_kc0 A1.out hSw; go_simp; first | done | with_reducible rfl)
    try simp only [Act.put, List.getElem_toArray, List.getElem_cons_succ, List.getElem_cons_zero, List.setIfInBounds_toArray, List.set_cons_zero, List.set_cons_succ]
    refine wpAnyH_take (i := 50) (v := ?v50_35) rfl (by kernel_rfl) (by kernel_rfl) (by kernel_rfl) (fun _ _ _ h => h) (Or.inl ⟨by rfl, ?y50_35⟩) (by assumption) ?r50_35
    case y50_35 => (intro w hSw; (try dsimp only at hSw); have d0 := kp_kc0 A0.out hSw; have d1 := kp_kc0 A1.out hSw; go_simp; first | done | with_reducible rfl)
    try simp only [Act.put, List.getElem_toArray, List.getElem_cons_succ, List.getElem_cons_zero, List.setIfInBounds_toArray, List.set_cons_zero, List.set_cons_succ]
    refine wpAnyH_ready (rs := [46]) (by kernel_rfl) (by simp) ?_
    refine AllReadyH.cons rfl (fun K hK => ?_) AllReadyH.nil
    go_simp
    with_reducible refine (CL.out _).mono ?_
    rintro ev v46 ⟨rfl, k46⟩
    have KC := Lib.hid (KC.out.trans' k46)
    clear k46
    try dsimp only
    refine hK.out _ _ (KC.out) (fun hHeld => ?_)
    clear hK K
    try simp only [Act.put, List.getElem_toArray, List.getElem_cons_succ, List.getElem_cons_zero, List.setIfInBounds_toArray, List.set_cons_zero, List.set_cons_succ]
    refine wpAnyH_ready (rs := [48]) (by kernel_rfl) (by simp) ?_
    refine AllReadyH.cons rfl (fun K hK => ?_) AllReadyH.nil
    go_simp
    with_reducible refine (CB.out _).mono ?_
    rintro ev v48 ⟨rfl, k48⟩
    have KC := Lib.hid (KC.out.trans' k48)
    clear k48
    try dsimp only
    refine hK.out _ _ (KC.out) (fun hHeld => ?_)
    clear hK K
    try simp only [Act.put, List.getElem_toArray, List.getElem_cons_succ, List.getElem_cons_zero, List.setIfInBounds_toArray, List.set_cons_zero, List.set_cons_succ]
    refine wpAnyH_take (i := 49) (v := ?v49_36) rfl (by kernel_rfl) (by kernel_rfl) (by kernel_rfl) (fun _ _ _ h => h) (Or.inl ⟨by rfl, ?y49_36⟩) (by assumption) ?r49_36
    case y49_36 => (intro w hSw; (try dsimp only at hSw); go_simp; first | done | with_reducible rfl)
    try simp only [Act.put, List.getElem_toArray, List.getElem_cons_succ, List.getElem_cons_zero, List.setIfInBounds_toArray, List.set_cons_zero, List.set_cons_succ]
    refine wpAnyH_ready (rs := [51]) (by kernel_rfl) (by simp) ?_
    refine AllReadyH.cons rfl (fun K hK => ?_) AllReadyH.nil
    go_simp
    with_reducible refine (CM.out _).mono ?_
    rintro ev v51 ⟨rfl, k51⟩
    have KC := Lib.hid (KC.out.trans' k51)
    clear k51
    try dsimp only
    refine hK.out _ _ (KC.out) (fun hHeld => ?_)
    clear hK K
    try simp only [Act.put, List.getElem_toArray, List.getElem_cons_succ, List.getElem_cons_zero, List.setIfInBounds_toArray, List.set_cons_zero, List.set_cons_succ]
    refine wpAnyH_take (i := 52) (v := ?v52_37) rfl (by kernel_rfl) (by kernel_rfl) (by kernel_rfl) (fun _ _ _ h => h) (Or.inl ⟨by rfl, ?y52_37⟩) (by assumption) ?r52_37
    case y52_37 => (intro w hSw; (try dsimp only at hSw); go_simp; first | done | with_reducible rfl)
    try simp only [Act.put, List.getElem_toArray, List.getElem_cons_succ, List.getElem_cons_zero, List.setIfInBounds_toArray, List.set_cons_zero, List.set_cons_succ]
    refine wpAnyH_take (i := 53) (v := ?v53_38) rfl (by kernel_rfl) (by kernel_rfl) (by kernel_rfl) (fun _ _ _ h => h) (Or.inl ⟨by rfl, ?y53_38⟩) (by assumption) ?r53_38
    case y53_38 => (intro w hSw; (try dsimp only at hSw); go_simp; first | done | with_reducible rfl)
    try simp only [Act.put, List.getElem_toArray, List.getElem_cons_succ, List.getElem_cons_zero, List.setIfInBounds_toArray, List.set_cons_zero, List.set_cons_succ]
    refine wpAnyH_take (i := 54) (v := ?v54_39) rfl (by kernel_rfl) (by kernel_rfl) (by kernel_rfl) (fun _ _ _ h => h) (Or.inl ⟨by rfl, ?y54_39⟩) (by assumption) ?r54_39
    case y54_39 => (intro w hSw; (try dsimp only at hSw); go_simp; first | done | with_reducible rfl)
    try simp only [Act.put, List.getElem_toArray, List.getElem_cons_succ, List.getElem_cons_zero, List.setIfInBounds_toArray, List.set_cons_zero, List.set_cons_succ]
    refine wpAnyH_done (by kernel_rfl) ?_ _
    have K := Lib.hid (K.out.trans' KC.out)
    have HB0 := Lib.hid (HB0.out.kept KC.out (fun f => f))
    have HB1 := Lib.hid (HB1.out.kept KC.out (fun f => f))
    clear A0 A1 B0 B1 KC
    have q0 : v51.cell? ⟨w.heap.size, 0, none⟩ = some (.int .u32 (i : Int)) := HB0.out.cell 0
    have q1 : v51.cell? ⟨w.heap.size, 1, none⟩ = some (.int .i64 a) := HB0.out.cell 1
    have q2 : v51.cell? ⟨w.heap.size + 1, 0, none⟩ = some (.int .u32 (j : Int)) := HB1.out.cell 0
    have q3 : v51.cell? ⟨w.heap.size + 1, 1, none⟩ = some (.int .i64 b) := HB1.out.cell 1
    cases ap with
    | false =>
      go_wp2_with fail
      refine (CA.out _).mono ?_
      rintro ev w3 ⟨rfl, k⟩
      clear q0 q1 q2 q3
      have K := Lib.hid (K.out.trans' k)
      have HB0 := Lib.hid (HB0.out.kept k (fun f => f))
      have HB1 := Lib.hid (HB1.out.kept k (fun f => f))
      clear k
      have A0 := Lib.hid (show w3.cell? ⟨w.heap.size, 0, none⟩ = some (.int .u32 (i : Int)) from HB0.out.cell 0)
      have A1 := Lib.hid (show w3.cell? ⟨w.heap.size, 1, none⟩ = some (.int .i64 a) from HB0.out.cell 1)
      have B0 := Lib.hid (show w3.cell? ⟨w.heap.size + 1, 0, none⟩ = some (.int .u32 (j : Int)) from HB1.out.cell 0)
      have B1 := Lib.hid (show w3.cell? ⟨w.heap.size + 1, 1, none⟩ = some (.int .i64 b) from HB1.out.cell 1)
      have KC := Lib.hid (Kp.refl (fun _ => False) w3).drew
      go_wp2_with fail
      cases rj with
      | false =>
        refine wp_region_held_drew (S := (fun w' => Kp (fun _ => False) w3 w')) (by kernel_rfl) (KC.out) (fun hHeld => ?_)
        refine wpAnyH_take (i := 0) (v := ?v0_40) rfl (by kernel_rfl) (by kernel_rfl) (by kernel_rfl) (fun _ _ _ h => h) (Or.inl ⟨by rfl, ?y0_40⟩) (by assumption) ?r0_40
        case y0_40 => (intro w hSw; (try dsimp only at hSw); have d0 := kp_kc0 B0.out hSw; have d1 := kp_kc0 B1.out hSw; go_simp; first | done | with_reducible rfl)
        try simp only [Act.put, List.getElem_toArray, List.getElem_cons_succ, List.getElem_cons_zero, List.setIfInBounds_toArray, List.set_cons_zero, List.set_cons_succ]
        refine wpAnyH_ready (rs := [1]) (by kernel_rfl) (by simp) ?_
        refine AllReadyH.cons rfl (fun K hK => ?_) AllReadyH.nil
        go_simp
        with_reducible refine (CRJ.out _).mono ?_
        rintro ev v1 ⟨rfl, k1⟩
        have KC := Lib.hid (KC.out.trans' k1)
        clear k1
        try dsimp only
        refine hK.out _ _ (KC.out) (fun hHeld => ?_)
        clear hK K
        try simp only [Act.put, List.getElem_toArray, List.getElem_cons_succ, List.getElem_cons_zero, List.setIfInBounds_toArray, List.set_cons_zero, List.set_cons_succ]
        refine wpAnyH_take (i := 2) (v := ?v2_41) rfl (by kernel_rfl) (by kernel_rfl) (by kernel_rfl) (fun _ _ _ h => h) (Or.inl ⟨by rfl, ?y2_41⟩) (by assumption) ?r2_41
        case y2_41 => (intro w hSw; (try dsimp only at hSw); go_simp; first | done | with_reducible rfl)
        try simp only [Act.put, List.getElem_toArray, List.getElem_cons_succ, List.getElem_cons_zero, List.setIfInBounds_toArray, List.set_cons_zero, List.set_cons_succ]
        refine wpAnyH_take (i := 3) (v := ?v3_42) rfl (by kernel_rfl) (by kernel_rfl) (by kernel_rfl) (fun _ _ _ h => h) (Or.inl ⟨by rfl, ?y3_42⟩) (by assumption) ?r3_42
        case y3_42 => (intro w hSw; (try dsimp only at hSw); go_simp; first | done | with_reducible rfl)
        try simp only [Act.put, List.getElem_toArray, List.getElem_cons_succ, List.getElem_cons_zero, List.setIfInBounds_toArray, List.set_cons_zero, List.set_cons_succ]
        refine wpAnyH_take (i := 4) (v := undef) rfl (by kernel_rfl) (by kernel_rfl) (by kernel_rfl) (fun _ _ _ h => h) (Or.inr ⟨by rfl, rfl⟩) (by assumption) ?_
        try simp only [Act.put, List.getElem_toArray, List.getElem_cons_succ, List.getElem_cons_zero, List.setIfInBounds_toArray, List.set_cons_zero, List.set_cons_succ]
        refine wpAnyH_take (i := 5) (v := undef) rfl (by kernel_rfl) (by kernel_rfl) (by kernel_rfl) (fun _ _ _ h => h) (Or.inr ⟨by rfl, rfl⟩) (by assumption) ?_
        try simp only [Act.put, List.getElem_toArray, List.getElem_cons_succ, List.getElem_cons_zero, List.setIfInBounds_toArray, List.set_cons_zero, List.set_cons_succ]
        refine wpAnyH_take (i := 6) (v := undef) rfl (by kernel_rfl) (by kernel_rfl) (by kernel_rfl) (fun _ _ _ h => h) (Or.inr ⟨by rfl, rfl⟩) (by assumption) ?_
        try simp only [Act.put, List.getElem_toArray, List.getElem_cons_succ, List.getElem_cons_zero, List.setIfInBounds_toArray, List.set_cons_zero, List.set_cons_succ]
        refine wpAnyH_take (i := 7) (v := undef) rfl (by kernel_rfl) (by kernel_rfl) (by kernel_rfl) (fun _ _ _ h => h) (Or.inr ⟨by rfl, rfl⟩) (by assumption) ?_
        try simp only [Act.put, List.getElem_toArray, List.getElem_cons_succ, List.getElem_cons_zero, List.setIfInBounds_toArray, List.set_cons_zero, List.set_cons_succ]
        refine wpAnyH_take (i := 8) (v := ?v8_43) rfl (by kernel_rfl) (by kernel_rfl) (by kernel_rfl) (fun _ _ _ h => h) (Or.inl ⟨by rfl, ?y8_43⟩) (by assumption) ?r8_43
        case y8_43 => (intro w hSw; (try dsimp only at hSw); go_simp; first | done | with_reducible rfl)
        try simp only [Act.put, List.getElem_toArray, List.getElem_cons_succ, List.getElem_cons_zero, List.setIfInBounds_toArray, List.set_cons_zero, List.set_cons_succ]
        refine wpAnyH_take (i := 9) (v := ?v9_44) rfl (by kernel_rfl) (by kernel_rfl) (by kernel_rfl) (fun _ _ _ h => h) (Or.inl ⟨by rfl, ?y9_44⟩) (by assumption) ?r9_44
        case y9_44 => (intro w hSw; (try dsimp only at hSw); go_simp; first | done | with_reducible rfl)
        try simp only [Act.put, List.getElem_toArray, List.getElem_cons_succ, List.getElem_cons_zero, List.setIfInBounds_toArray, List.set_cons_zero, List.set_cons_succ]
        refine wpAnyH_take (i := 10) (v := undef) rfl (by kernel_rfl) (by kernel_rfl) (by kernel_rfl) (fun _ _ _ h => h) (Or.inr ⟨by rfl, rfl⟩) (by assumption) ?_
        try simp only [Act.put, List.getElem_toArray, List.getElem_cons_succ, List.getElem_cons_zero, List.setIfInBounds_toArray, List.set_cons_zero, List.set_cons_succ]
        refine wpAnyH_take (i := 11) (v := undef) rfl (by kernel_rfl) (by kernel_rfl) (by kernel_rfl) (fun _ _ _ h => h) (Or.inr ⟨by rfl, rfl⟩) (by assumption) ?_
        try simp only [Act.put, List.getElem_toArray, List.getElem_cons_succ, List.getElem_cons_zero, List.setIfInBounds_toArray, List.set_cons_zero, List.set_cons_succ]
        refine wpAnyH_take (i := 12) (v := undef) rfl (by kernel_rfl) (by kernel_rfl) (by kernel_rfl) (fun _ _ _ h => h) (Or.inr ⟨by rfl, rfl⟩) (by assumption) ?_
        try simp only [Act.put, List.getElem_toArray, List.getElem_cons_succ, List.getElem_cons_zero, List.setIfInBounds_toArray, List.set_cons_zero, List.set_cons_succ]
        refine wpAnyH_take (i := 13) (v := undef) rfl (by kernel_rfl) (by kernel_rfl) (by kernel_rfl) (fun _ _ _ h => h) (Or.inr ⟨by rfl, rfl⟩) (by assumption) ?_
        try simp only [Act.put, List.getElem_toArray, List.getElem_cons_succ, List.getElem_cons_zero, List.setIfInBounds_toArray, List.set_cons_zero, List.set_cons_succ]
        refine wpAnyH_take (i := 14) (v := ?v14_45) rfl (by kernel_rfl) (by kernel_rfl) (by kernel_rfl) (fun _ _ _ h => h) (Or.inl ⟨by rfl, ?y14_45⟩) (by assumption) ?r14_45
        case y14_45 => (intro w hSw; (try dsimp only at hSw); go_simp; first | done | with_reducible rfl)
        try simp only [Act.put, List.getElem_toArray, List.getElem_cons_succ, List.getElem_cons_zero, List.setIfInBounds_toArray, List.set_cons_zero, List.set_cons_succ]
        refine wpAnyH_take (i := 15) (v := ?v15_46) rfl (by kernel_rfl) (by kernel_rfl) (by kernel_rfl) (fun _ _ _ h => h) (Or.inl ⟨by rfl, ?y15_46⟩) (by assumption) ?r15_46
        case y15_46 => (intro w hSw; (try dsimp only at hSw); go_simp; first | done | with_reducible rfl)
        try simp only [Act.put, List.getElem_toArray, List.getElem_cons_succ, List.getElem_cons_zero, List.setIfInBounds_toArray, List.set_cons_zero, List.set_cons_succ]
        refine wpAnyH_done (by kernel_rfl) ?_ _
        go_wp2_with fail
        exact bodyPost_ret (results_tmp rfl _ _ _) rfl ⟨rfl, K.out.trans' KC.out⟩
      | true =>
        cases h3 with
        | true =>
          refine wp_region_held_drew (S := (fun w' => Kp (fun _ => False) w3 w')) (by kernel_rfl) (KC.out) (fun hHeld => ?_)
          refine wpAnyH_take (i := 0) (v := ?v0_47) rfl (by kernel_rfl) (by kernel_rfl) (by kernel_rfl) (fun _ _ _ h => h) (Or.inl ⟨by rfl, ?y0_47⟩) (by assumption) ?r0_47
          case y0_47 => (intro w hSw; (try dsimp only at hSw); have d0 := kp_kc0 B0.out hSw; have d1 := kp_kc0 B1.out hSw; go_simp; first | done | with_reducible rfl)
          try simp only [Act.put, List.getElem_toArray, List.getElem_cons_succ, List.getElem_cons_zero, List.setIfInBounds_toArray, List.set_cons_zero, List.set_cons_succ]
          refine wpAnyH_ready (rs := [1]) (by kernel_rfl) (by simp) ?_
          refine AllReadyH.cons rfl (fun K hK => ?_) AllReadyH.nil
          go_simp
          with_reducible refine (CRJ.out _).mono ?_
          rintro ev v1 ⟨rfl, k1⟩
          have KC := Lib.hid (KC.out.trans' k1)
          clear k1
          try dsimp only
          refine hK.out _ _ (KC.out) (fun hHeld => ?_)
          clear hK K
          try simp only [Act.put, List.getElem_toArray, List.getElem_cons_succ, List.getElem_cons_zero, List.setIfInBounds_toArray, List.set_cons_zero, List.set_cons_succ]
          refine wpAnyH_take (i := 2) (v := ?v2_48) rfl (by kernel_rfl) (by kernel_rfl) (by kernel_rfl) (fun _ _ _ h => h) (Or.inl ⟨by rfl, ?y2_48⟩) (by assumption) ?r2_48
          case y2_48 => (intro w hSw; (try dsimp only at hSw); go_simp; first | done | with_reducible rfl)
          try simp only [Act.put, List.getElem_toArray, List.getElem_cons_succ, List.getElem_cons_zero, List.setIfInBounds_toArray, List.set_cons_zero, List.set_cons_succ]
          refine wpAnyH_take (i := 3) (v := ?v3_49) rfl (by kernel_rfl) (by kernel_rfl) (by kernel_rfl) (fun _ _ _ h => h) (Or.inl ⟨by rfl, ?y3_49⟩) (by assumption) ?r3_49
          case y3_49 => (intro w hSw; (try dsimp only at hSw); go_simp; first | done | with_reducible rfl)
          try simp only [Act.put, List.getElem_toArray, List.getElem_cons_succ, List.getElem_cons_zero, List.setIfInBounds_toArray, List.set_cons_zero, List.set_cons_succ]
          refine wpAnyH_take (i := 4) (v := ?v4_50) rfl (by kernel_rfl) (by kernel_rfl) (by kernel_rfl) (fun _ _ _ h => h) (Or.inl ⟨by rfl, ?y4_50⟩) (by assumption) ?r4_50
          case y4_50 => (intro w hSw; (try dsimp only at hSw); have d0 := kp_kc0 A0.out hSw; have d1 := kp_kc0 A1.out hSw; go_simp; first | done | with_reducible rfl)
          try simp only [Act.put, List.getElem_toArray, List.getElem_cons_succ, List.getElem_cons_zero, List.setIfInBounds_toArray, List.set_cons_zero, List.set_cons_succ]
          refine wpAnyH_take (i := 5) (v := ?v5_51) rfl (by kernel_rfl) (by kernel_rfl) (by kernel_rfl) (fun _ _ _ h => h) (Or.inl ⟨by rfl, ?y5_51⟩) (by assumption) ?r5_51
          case y5_51 => (intro w hSw; (try dsimp only at hSw); have d0 := kp_kc0 B0.out hSw; have d1 := kp_kc0 B1.out hSw; go_simp; first | done | with_reducible rfl)
          try simp only [Act.put, List.getElem_toArray, List.getElem_cons_succ, List.getElem_cons_zero, List.setIfInBounds_toArray, List.set_cons_zero, List.set_cons_succ]
          refine wpAnyH_ready (rs := [6]) (by kernel_rfl) (by simp) ?_
          refine AllReadyH.cons rfl (fun K hK => ?_) AllReadyH.nil
          go_simp
          with_reducible refine (CBJ.out _).mono ?_
          rintro ev v6 ⟨rfl, k6⟩
          have KC := Lib.hid (KC.out.trans' k6)
          clear k6
          try dsimp only
          refine hK.out _ _ (KC.out) (fun hHeld => ?_)
          clear hK K
          try simp only [Act.put, List.getElem_toArray, List.getElem_cons_succ, List.getElem_cons_zero, List.setIfInBounds_toArray, List.set_cons_zero, List.set_cons_succ]
          refine wpAnyH_ready (rs := [7]) (by kernel_rfl) (by simp) ?_
          refine AllReadyH.cons rfl (fun K hK => ?_) AllReadyH.nil
          go_simp
          with_reducible refine (CHB.out _).mono ?_
          rintro ev v7 ⟨rfl, k7⟩
          have KC := Lib.hid (KC.out.trans' k7)
          clear k7
          try dsimp only
          refine hK.out _ _ (KC.out) (fun hHeld => ?_)
          clear hK K
          try simp only [Act.put, List.getElem_toArray, List.getElem_cons_succ, List.getElem_cons_zero, List.setIfInBounds_toArray, List.set_cons_zero, List.set_cons_succ]
          refine wpAnyH_take (i := 8) (v := ?v8_52) rfl (by kernel_rfl) (by kernel_rfl) (by kernel_rfl) (fun _ _ _ h => h) (Or.inl ⟨by rfl, ?y8_52⟩) (by assumption) ?r8_52
          case y8_52 => (intro w hSw; (try dsimp only at hSw); go_simp; first | done | with_reducible rfl)
          try simp only [Act.put, List.getElem_toArray, List.getElem_cons_succ, List.getElem_cons_zero, List.setIfInBounds_toArray, List.set_cons_zero, List.set_cons_succ]
          refine wpAnyH_take (i := 9) (v := ?v9_53) rfl (by kernel_rfl) (by kernel_rfl) (by kernel_rfl) (fun _ _ _ h => h) (Or.inl ⟨by rfl, ?y9_53⟩) (by assumption) ?r9_53
          case y9_53 => (intro w hSw; (try dsimp only at hSw); go_simp; first | done | with_reducible rfl)
          try simp only [Act.put, List.getElem_toArray, List.getElem_cons_succ, List.getElem_cons_zero, List.setIfInBounds_toArray, List.set_cons_zero, List.set_cons_succ]
          refine wpAnyH_take (i := 10) (v := undef) rfl (by kernel_rfl) (by kernel_rfl) (by kernel_rfl) (fun _ _ _ h => h) (Or.inr ⟨by rfl, rfl⟩) (by assumption) ?_
          try simp only [Act.put, List.getElem_toArray, List.getElem_cons_succ, List.getElem_cons_zero, List.setIfInBounds_toArray, List.set_cons_zero, List.set_cons_succ]
          refine wpAnyH_take (i := 11) (v := undef) rfl (by kernel_rfl) (by kernel_rfl) (by kernel_rfl) (fun _ _ _ h => h) (Or.inr ⟨by rfl, rfl⟩) (by assumption) ?_
          try simp only [Act.put, List.getElem_toArray, List.getElem_cons_succ, List.getElem_cons_zero, List.setIfInBounds_toArray, List.set_cons_zero, List.set_cons_succ]
          refine wpAnyH_take (i := 12) (v := undef) rfl (by kernel_rfl) (by kernel_rfl) (by kernel_rfl) (fun _ _ _ h => h) (Or.inr ⟨by rfl, rfl⟩) (by assumption) ?_
          try simp only [Act.put, List.getElem_toArray, List.getElem_cons_succ, List.getElem_cons_zero, List.setIfInBounds_toArray, List.set_cons_zero, List.set_cons_succ]
          refine wpAnyH_take (i := 13) (v := undef) rfl (by kernel_rfl) (by kernel_rfl) (by kernel_rfl) (fun _ _ _ h => h) (Or.inr ⟨by rfl, rfl⟩) (by assumption) ?_
          try simp only [Act.put, List.getElem_toArray, List.getElem_cons_succ, List.getElem_cons_zero, List.setIfInBounds_toArray, List.set_cons_zero, List.set_cons_succ]
          refine wpAnyH_take (i := 14) (v := ?v14_54) rfl (by kernel_rfl) (by kernel_rfl) (by kernel_rfl) (fun _ _ _ h => h) (Or.inl ⟨by rfl, ?y14_54⟩) (by assumption) ?r14_54
          case y14_54 => (intro w hSw; (try dsimp only at hSw); go_simp; first | done | with_reducible rfl)
          try simp only [Act.put, List.getElem_toArray, List.getElem_cons_succ, List.getElem_cons_zero, List.setIfInBounds_toArray, List.set_cons_zero, List.set_cons_succ]
          refine wpAnyH_take (i := 15) (v := ?v15_55) rfl (by kernel_rfl) (by kernel_rfl) (by kernel_rfl) (fun _ _ _ h => h) (Or.inl ⟨by rfl, ?y15_55⟩) (by assumption) ?r15_55
          case y15_55 => (intro w hSw; (try dsimp only at hSw); go_simp; first | done | with_reducible rfl)
          try simp only [Act.put, List.getElem_toArray, List.getElem_cons_succ, List.getElem_cons_zero, List.setIfInBounds_toArray, List.set_cons_zero, List.set_cons_succ]
          refine wpAnyH_done (by kernel_rfl) ?_ _
          go_wp2_with fail
          exact bodyPost_ret (results_tmp rfl _ _ _) rfl ⟨rfl, K.out.trans' KC.out⟩
        | false =>
          obtain rfl : h4 = true := by
            rcases hnot (by first | rfl | trivial) (by first | rfl | trivial) with h | h
            · cases h
            · exact h
          refine wp_region_held_drew (S := (fun w' => Kp (fun _ => False) w3 w')) (by kernel_rfl) (KC.out) (fun hHeld => ?_)
          refine wpAnyH_take (i := 0) (v := ?v0_56) rfl (by kernel_rfl) (by kernel_rfl) (by kernel_rfl) (fun _ _ _ h => h) (Or.inl ⟨by rfl, ?y0_56⟩) (by assumption) ?r0_56
          case y0_56 => (intro w hSw; (try dsimp only at hSw); have d0 := kp_kc0 B0.out hSw; have d1 := kp_kc0 B1.out hSw; go_simp; first | done | with_reducible rfl)
          try simp only [Act.put, List.getElem_toArray, List.getElem_cons_succ, List.getElem_cons_zero, List.setIfInBounds_toArray, List.set_cons_zero, List.set_cons_succ]
          refine wpAnyH_ready (rs := [1]) (by kernel_rfl) (by simp) ?_
          refine AllReadyH.cons rfl (fun K hK => ?_) AllReadyH.nil
          go_simp
          with_reducible refine (CRJ.out _).mono ?_
          rintro ev v1 ⟨rfl, k1⟩
          have KC := Lib.hid (KC.out.trans' k1)
          clear k1
          try dsimp only
          refine hK.out _ _ (KC.out) (fun hHeld => ?_)
          clear hK K
          try simp only [Act.put, List.getElem_toArray, List.getElem_cons_succ, List.getElem_cons_zero, List.setIfInBounds_toArray, List.set_cons_zero, List.set_cons_succ]
          refine wpAnyH_take (i := 2) (v := ?v2_57) rfl (by kernel_rfl) (by kernel_rfl) (by kernel_rfl) (fun _ _ _ h => h) (Or.inl ⟨by rfl, ?y2_57⟩) (by assumption) ?r2_57
          case y2_57 => (intro w hSw; (try dsimp only at hSw); go_simp; first | done | with_reducible rfl)
          try simp only [Act.put, List.getElem_toArray, List.getElem_cons_succ, List.getElem_cons_zero, List.setIfInBounds_toArray, List.set_cons_zero, List.set_cons_succ]
          refine wpAnyH_take (i := 3) (v := ?v3_58) rfl (by kernel_rfl) (by kernel_rfl) (by kernel_rfl) (fun _ _ _ h => h) (Or.inl ⟨by rfl, ?y3_58⟩) (by assumption) ?r3_58
          case y3_58 => (intro w hSw; (try dsimp only at hSw); go_simp; first | done | with_reducible rfl)
          try simp only [Act.put, List.getElem_toArray, List.getElem_cons_succ, List.getElem_cons_zero, List.setIfInBounds_toArray, List.set_cons_zero, List.set_cons_succ]
          refine wpAnyH_take (i := 4) (v := ?v4_59) rfl (by kernel_rfl) (by kernel_rfl) (by kernel_rfl) (fun _ _ _ h => h) (Or.inl ⟨by rfl, ?y4_59⟩) (by assumption) ?r4_59
          case y4_59 => (intro w hSw; (try dsimp only at hSw); have d0 := kp_kc0 A0.out hSw; have d1 := kp_kc0 A1.out hSw; go_simp; first | done | with_reducible rfl)
          try simp only [Act.put, List.getElem_toArray, List.getElem_cons_succ, List.getElem_cons_zero, List.setIfInBounds_toArray, List.set_cons_zero, List.set_cons_succ]
          refine wpAnyH_take (i := 5) (v := ?v5_60) rfl (by kernel_rfl) (by kernel_rfl) (by kernel_rfl) (fun _ _ _ h => h) (Or.inl ⟨by rfl, ?y5_60⟩) (by assumption) ?r5_60
          case y5_60 => (intro w hSw; (try dsimp only at hSw); have d0 := kp_kc0 B0.out hSw; have d1 := kp_kc0 B1.out hSw; go_simp; first | done | with_reducible rfl)
          try simp only [Act.put, List.getElem_toArray, List.getElem_cons_succ, List.getElem_cons_zero, List.setIfInBounds_toArray, List.set_cons_zero, List.set_cons_succ]
          refine wpAnyH_ready (rs := [6]) (by kernel_rfl) (by simp) ?_
          refine AllReadyH.cons rfl (fun K hK => ?_) AllReadyH.nil
          go_simp
          with_reducible refine (CBJ.out _).mono ?_
          rintro ev v6 ⟨rfl, k6⟩
          have KC := Lib.hid (KC.out.trans' k6)
          clear k6
          try dsimp only
          refine hK.out _ _ (KC.out) (fun hHeld => ?_)
          clear hK K
          try simp only [Act.put, List.getElem_toArray, List.getElem_cons_succ, List.getElem_cons_zero, List.setIfInBounds_toArray, List.set_cons_zero, List.set_cons_succ]
          refine wpAnyH_ready (rs := [7]) (by kernel_rfl) (by simp) ?_
          refine AllReadyH.cons rfl (fun K hK => ?_) AllReadyH.nil
          go_simp
          with_reducible refine (CHB.out _).mono ?_
          rintro ev v7 ⟨rfl, k7⟩
          have KC := Lib.hid (KC.out.trans' k7)
          clear k7
          try dsimp only
          refine hK.out _ _ (KC.out) (fun hHeld => ?_)
          clear hK K
          try simp only [Act.put, List.getElem_toArray, List.getElem_cons_succ, List.getElem_cons_zero, List.setIfInBounds_toArray, List.set_cons_zero, List.set_cons_succ]
          refine wpAnyH_take (i := 8) (v := ?v8_61) rfl (by kernel_rfl) (by kernel_rfl) (by kernel_rfl) (fun _ _ _ h => h) (Or.inl ⟨by rfl, ?y8_61⟩) (by assumption) ?r8_61
          case y8_61 => (intro w hSw; (try dsimp only at hSw); go_simp; first | done | with_reducible rfl)
          try simp only [Act.put, List.getElem_toArray, List.getElem_cons_succ, List.getElem_cons_zero, List.setIfInBounds_toArray, List.set_cons_zero, List.set_cons_succ]
          refine wpAnyH_take (i := 9) (v := ?v9_62) rfl (by kernel_rfl) (by kernel_rfl) (by kernel_rfl) (fun _ _ _ h => h) (Or.inl ⟨by rfl, ?y9_62⟩) (by assumption) ?r9_62
          case y9_62 => (intro w hSw; (try dsimp only at hSw); go_simp; first | done | with_reducible rfl)
          try simp only [Act.put, List.getElem_toArray, List.getElem_cons_succ, List.getElem_cons_zero, List.setIfInBounds_toArray, List.set_cons_zero, List.set_cons_succ]
          refine wpAnyH_take (i := 10) (v := ?v10_63) rfl (by kernel_rfl) (by kernel_rfl) (by kernel_rfl) (fun _ _ _ h => h) (Or.inl ⟨by rfl, ?y10_63⟩) (by assumption) ?r10_63
          case y10_63 => (intro w hSw; (try dsimp only at hSw); have d0 := kp_kc0 B0.out hSw; have d1 := kp_kc0 B1.out hSw; go_simp; first | done | with_reducible rfl)
          try simp only [Act.put, List.getElem_toArray, List.getElem_cons_succ, List.getElem_cons_zero, List.setIfInBounds_toArray, List.set_cons_zero, List.set_cons_succ]
          refine wpAnyH_take (i := 11) (v := ?v11_64) rfl (by kernel_rfl) (by kernel_rfl) (by kernel_rfl) (fun _ _ _ h => h) (Or.inl ⟨by rfl, ?y11_64⟩) (by assumption) ?r11_64
          case y11_64 => (intro w hSw; (try dsimp only at hSw); have d0 := kp_kc0 A0.out hSw; have d1 := kp_kc0 A1.out hSw; go_simp; first | done | with_reducible rfl)
          try simp only [Act.put, List.getElem_toArray, List.getElem_cons_succ, List.getElem_cons_zero, List.setIfInBounds_toArray, List.set_cons_zero, List.set_cons_succ]
          refine wpAnyH_ready (rs := [12]) (by kernel_rfl) (by simp) ?_
          refine AllReadyH.cons rfl (fun K hK => ?_) AllReadyH.nil
          go_simp
          with_reducible refine (CB.out _).mono ?_
          rintro ev v12 ⟨rfl, k12⟩
          have KC := Lib.hid (KC.out.trans' k12)
          clear k12
          try dsimp only
          refine hK.out _ _ (KC.out) (fun hHeld => ?_)
          clear hK K
          try simp only [Act.put, List.getElem_toArray, List.getElem_cons_succ, List.getElem_cons_zero, List.setIfInBounds_toArray, List.set_cons_zero, List.set_cons_succ]
          refine wpAnyH_ready (rs := [13]) (by kernel_rfl) (by simp) ?_
          refine AllReadyH.cons rfl (fun K hK => ?_) AllReadyH.nil
          go_simp
          with_reducible refine (CHA.out _).mono ?_
          rintro ev v13 ⟨rfl, k13⟩
          have KC := Lib.hid (KC.out.trans' k13)
          clear k13
          try dsimp only
          refine hK.out _ _ (KC.out) (fun hHeld => ?_)
          clear hK K
          try simp only [Act.put, List.getElem_toArray, List.getElem_cons_succ, List.getElem_cons_zero, List.setIfInBounds_toArray, List.set_cons_zero, List.set_cons_succ]
          refine wpAnyH_take (i := 14) (v := ?v14_65) rfl (by kernel_rfl) (by kernel_rfl) (by kernel_rfl) (fun _ _ _ h => h) (Or.inl ⟨by rfl, ?y14_65⟩) (by assumption) ?r14_65
          case y14_65 => (intro w hSw; (try dsimp only at hSw); go_simp; first | done | with_reducible rfl)
          try simp only [Act.put, List.getElem_toArray, List.getElem_cons_succ, List.getElem_cons_zero, List.setIfInBounds_toArray, List.set_cons_zero, List.set_cons_succ]
          refine wpAnyH_take (i := 15) (v := ?v15_66) rfl (by kernel_rfl) (by kernel_rfl) (by kernel_rfl) (fun _ _ _ h => h) (Or.inl ⟨by rfl, ?y15_66⟩) (by assumption) ?r15_66
          case y15_66 => (intro w hSw; (try dsimp only at hSw); go_simp; first | done | with_reducible rfl)
          try simp only [Act.put, List.getElem_toArray, List.getElem_cons_succ, List.getElem_cons_zero, List.setIfInBounds_toArray, List.set_cons_zero, List.set_cons_succ]
          refine wpAnyH_done (by kernel_rfl) ?_ _
          go_wp2_with fail
          exact bodyPost_ret (results_tmp rfl _ _ _) rfl ⟨rfl, K.out.trans' KC.out⟩
    | true =>
      obtain ⟨_, hrj, _, _⟩ := hnr (by first | rfl | trivial)
      subst hrj
      obtain rfl : h5 = false := by
        have := hHJ (by first | rfl | trivial)
        rw [hbj (by first | rfl | trivial)] at this
        cases h5
        · rfl
        · simp at this
      obtain rfl : h6 = false := by
        have := hHI (by first | rfl | trivial)
        cases h6
        · rfl
        · simp at this
      go_wp2_with fail
      refine (CA.out _).mono ?_
      rintro ev w3 ⟨rfl, k⟩
      clear q0 q1 q2 q3
      have K := Lib.hid (K.out.trans' k)
      have HB0 := Lib.hid (HB0.out.kept k (fun f => f))
      have HB1 := Lib.hid (HB1.out.kept k (fun f => f))
      clear k
      have q0 : w3.cell? ⟨w.heap.size, 0, none⟩ = some (.int .u32 (i : Int)) := HB0.out.cell 0
      have q1 : w3.cell? ⟨w.heap.size, 1, none⟩ = some (.int .i64 a) := HB0.out.cell 1
      have q2 : w3.cell? ⟨w.heap.size + 1, 0, none⟩ = some (.int .u32 (j : Int)) := HB1.out.cell 0
      have q3 : w3.cell? ⟨w.heap.size + 1, 1, none⟩ = some (.int .i64 b) := HB1.out.cell 1
      go_wp2_with fail
      refine (CA2.out _).mono ?_
      rintro ev w4 ⟨rfl, k⟩
      clear q0 q1 q2 q3
      have K := Lib.hid (K.out.trans' k)
      have HB0 := Lib.hid (HB0.out.kept k (fun f => f))
      have HB1 := Lib.hid (HB1.out.kept k (fun f => f))
      clear k
      have q0 : w4.cell? ⟨w.heap.size, 0, none⟩ = some (.int .u32 (i : Int)) := HB0.out.cell 0
      have q1 : w4.cell? ⟨w.heap.size, 1, none⟩ = some (.int .i64 a) := HB0.out.cell 1
      have q2 : w4.cell? ⟨w.heap.size + 1, 0, none⟩ = some (.int .u32 (j : Int)) := HB1.out.cell 0
      have q3 : w4.cell? ⟨w.heap.size + 1, 1, none⟩ = some (.int .i64 b) := HB1.out.cell 1
      cases h1 with
      | true =>
        obtain rfl : h2 = false := by
          have := hHN (by first | rfl | trivial)
          cases h2
          · rfl
          · simp at this
        go_wp2_with fail
        refine (CX.out _).mono ?_
        rintro ev w5 ⟨rfl, k⟩
        clear q0 q1 q2 q3
        have K := Lib.hid (K.out.trans' k)
        have HB0 := Lib.hid (HB0.out.kept k (fun f => f))
        have HB1 := Lib.hid (HB1.out.kept k (fun f => f))
        clear k
        have q0 : w5.cell? ⟨w.heap.size, 0, none⟩ = some (.int .u32 (i : Int)) := HB0.out.cell 0
        have q1 : w5.cell? ⟨w.heap.size, 1, none⟩ = some (.int .i64 a) := HB0.out.cell 1
        have q2 : w5.cell? ⟨w.heap.size + 1, 0, none⟩ = some (.int .u32 (j : Int)) := HB1.out.cell 0
        have q3 : w5.cell? ⟨w.heap.size + 1, 1, none⟩ = some (.int .i64 b) := HB1.out.cell 1
        go_wp2_with fail
        refine (CXJ.out _).mono ?_
        rintro ev w6 ⟨rfl, k⟩
        clear q0 q1 q2 q3
        have K := Lib.hid (K.out.trans' k)
        have HB0 := Lib.hid (HB0.out.kept k (fun f => f))
        have HB1 := Lib.hid (HB1.out.kept k (fun f => f))
        clear k
        have q0 : w6.cell? ⟨w.heap.size, 0, none⟩ = some (.int .u32 (i : Int)) := HB0.out.cell 0
        have q1 : w6.cell? ⟨w.heap.size, 1, none⟩ = some (.int .i64 a) := HB0.out.cell 1
        have q2 : w6.cell? ⟨w.heap.size + 1, 0, none⟩ = some (.int .u32 (j : Int)) := HB1.out.cell 0
        have q3 : w6.cell? ⟨w.heap.size + 1, 1, none⟩ = some (.int .i64 b) := HB1.out.cell 1
        go_wp2_with fail
        refine (CIJ.out _).mono ?_
        rintro ev w7 ⟨rfl, k⟩
        clear q0 q1 q2 q3
        have K := Lib.hid (K.out.trans' k)
        have HB0 := Lib.hid (HB0.out.kept k (fun f => f))
        have HB1 := Lib.hid (HB1.out.kept k (fun f => f))
        clear k
        have q0 : w7.cell? ⟨w.heap.size, 0, none⟩ = some (.int .u32 (i : Int)) := HB0.out.cell 0
        have q1 : w7.cell? ⟨w.heap.size, 1, none⟩ = some (.int .i64 a) := HB0.out.cell 1
        have q2 : w7.cell? ⟨w.heap.size + 1, 0, none⟩ = some (.int .u32 (j : Int)) := HB1.out.cell 0
        have q3 : w7.cell? ⟨w.heap.size + 1, 1, none⟩ = some (.int .i64 b) := HB1.out.cell 1
        go_wp2_with fail
        refine (CJI.out _).mono ?_
        rintro ev w8 ⟨rfl, k⟩
        clear q0 q1 q2 q3
        have K := Lib.hid (K.out.trans' k)
        have HB0 := Lib.hid (HB0.out.kept k (fun f => f))
        have HB1 := Lib.hid (HB1.out.kept k (fun f => f))
        clear k
        have q0 : w8.cell? ⟨w.heap.size, 0, none⟩ = some (.int .u32 (i : Int)) := HB0.out.cell 0
        have q1 : w8.cell? ⟨w.heap.size, 1, none⟩ = some (.int .i64 a) := HB0.out.cell 1
        have q2 : w8.cell? ⟨w.heap.size + 1, 0, none⟩ = some (.int .u32 (j : Int)) := HB1.out.cell 0
        have q3 : w8.cell? ⟨w.heap.size + 1, 1, none⟩ = some (.int .i64 b) := HB1.out.cell 1
        go_wp2_with fail
        exact bodyPost_ret (results_tmp rfl _ _ _) rfl ⟨rfl, K.out⟩
      | false =>
        go_wp2_with fail
        refine (CX.out _).mono ?_
        rintro ev w5 ⟨rfl, k⟩
        clear q0 q1 q2 q3
        have K := Lib.hid (K.out.trans' k)
        have HB0 := Lib.hid (HB0.out.kept k (fun f => f))
        have HB1 := Lib.hid (HB1.out.kept k (fun f => f))
        clear k
        have q0 : w5.cell? ⟨w.heap.size, 0, none⟩ = some (.int .u32 (i : Int)) := HB0.out.cell 0
        have q1 : w5.cell? ⟨w.heap.size, 1, none⟩ = some (.int .i64 a) := HB0.out.cell 1
        have q2 : w5.cell? ⟨w.heap.size + 1, 0, none⟩ = some (.int .u32 (j : Int)) := HB1.out.cell 0
        have q3 : w5.cell? ⟨w.heap.size + 1, 1, none⟩ = some (.int .i64 b) := HB1.out.cell 1
        go_wp2_with fail
        refine (CIJ.out _).mono ?_
        rintro ev w7 ⟨rfl, k⟩
        clear q0 q1 q2 q3
        have K := Lib.hid (K.out.trans' k)
        have HB0 := Lib.hid (HB0.out.kept k (fun f => f))
        have HB1 := Lib.hid (HB1.out.kept k (fun f => f))
        clear k
        have q0 : w7.cell? ⟨w.heap.size, 0, none⟩ = some (.int .u32 (i : Int)) := HB0.out.cell 0
        have q1 : w7.cell? ⟨w.heap.size, 1, none⟩ = some (.int .i64 a) := HB0.out.cell 1
        have q2 : w7.cell? ⟨w.heap.size + 1, 0, none⟩ = some (.int .u32 (j : Int)) := HB1.out.cell 0
        have q3 : w7.cell? ⟨w.heap.size + 1, 1, none⟩ = some (.int .i64 b) := HB1.out.cell 1
        go_wp2_with fail
        refine (CJI.out _).mono ?_
        rintro ev w8 ⟨rfl, k⟩
        clear q0 q1 q2 q3
        have K := Lib.hid (K.out.trans' k)
        have HB0 := Lib.hid (HB0.out.kept k (fun f => f))
        have HB1 := Lib.hid (HB1.out.kept k (fun f => f))
        clear k
        have q0 : w8.cell? ⟨w.heap.size, 0, none⟩ = some (.int .u32 (i : Int)) := HB0.out.cell 0
        have q1 : w8.cell? ⟨w.heap.size, 1, none⟩ = some (.int .i64 a) := HB0.out.cell 1
        have q2 : w8.cell? ⟨w.heap.size + 1, 0, none⟩ = some (.int .u32 (j : Int)) := HB1.out.cell 0
        have q3 : w8.cell? ⟨w.heap.size + 1, 1, none⟩ = some (.int .i64 b) := HB1.out.cell 1
        go_wp2_with fail
        exact bodyPost_ret (results_tmp rfl _ _ _) rfl ⟨rfl, K.out⟩
end Go.Proofs.YtkafdpidhelfdaaDoor
