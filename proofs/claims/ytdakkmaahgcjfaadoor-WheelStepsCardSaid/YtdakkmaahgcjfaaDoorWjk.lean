/- Wheel: the walk of WheelNext. -/
import Derived.Test.YtdakkmaahgcjfaaDoorWjv
set_option linter.unusedVariables false
set_option linter.unusedSimpArgs false
namespace Go.Proofs.YtdakkmaahgcjfaaDoor
open Go.RowKit

theorem rgot_none {t : Nat} : ∀ {R : Rows}, (R = [] ∨ t < rfst R) → rgot t R = [] ∧ rrest t R = R
  | [], _ => ⟨rfl, rfl⟩
  | y :: R, h => by
    have h : t < y.2 := h.resolve_left (by simp)
    unfold rgot rrest
    rw [if_neg (by omega), if_neg (by omega)]
    exact ⟨rfl, rfl⟩
theorem rgot_some {t : Nat} : ∀ {R : Rows}, R ≠ [] → rfst R ≤ t → 0 < (rgot t R).length ∧ ((rgot t R).getD 0 0, rfst R) ∈ R
  | [], h, _ => absurd rfl h
  | y :: R, _, h => by
    have h : y.2 ≤ t := h
    unfold rgot
    rw [if_pos h]
    exact ⟨by simp, by show (y.1, y.2) ∈ _; exact List.mem_cons_self⟩
theorem rrest_fst {t : Nat} {R : Rows} (h : RS R) (hne : rrest t R ≠ []) : t < rfst (rrest t R) := by
  rcases e : rrest t R with _ | ⟨y, S⟩
  · exact absurd e hne
  · have : y ∈ rrest t R := by rw [e]; exact List.mem_cons_self
    exact (h.mem_rest.1 this).2
theorem rfst_top {R : Rows} (h : ∀ x ∈ R, x.2 ≤ TOP) : rfst R ≤ TOP := by
  cases R with
  | nil => exact Nat.zero_le _
  | cons y R => exact h y List.mem_cons_self
set_option maxRecDepth 1000000 in
set_option maxHeartbeats 8000000 in
theorem next_walk (now : Nat) (A : Option Addr) (c : Nat) (xs : List (Int × Int × Nat)) (w : World) (hT : Tab w) (hx : RdC w A xs)
    (hbd : ∀ j, -9223372036854775808 ≤ (xs.getD j (0, 0, 0)).2.1 ∧ (xs.getD j (0, 0, 0)).2.1 ≤ 9223372036854775807) :
    Calls Tryd.prog 7 #[.int .u64 now, .slice A xs.length c] w fun e w' => e = .returned (.bool true) ∧ Kp (fun _ => False) w w' := by
  have HT := Lib.hid hT
  have Hb := Lib.hid hbd
  have Hx := Lib.hid hx
  have hpos := hT.lt
  clear hT hbd hx
  by_cases hl1 : (100 : Int) < (xs.length : Int)
  · go_enter Tryd.func7, Tryd.ntmps7
    go_wp2_with fail
    refine (alive13 _ HT.out).mono ?_
    rintro e w1 ⟨rfl, k1⟩
    go_wp2_with fail
    exact bodyPost_ret (results_tmp rfl _ _ _) rfl ⟨rfl, k1⟩
  by_cases hl2 : (1152921504606846976 : Int) < (now : Int)
  · go_enter Tryd.func7, Tryd.ntmps7
    go_wp2_with fail
    refine (alive13 _ HT.out).mono ?_
    rintro e w1 ⟨rfl, k1⟩
    go_wp2_with fail
    exact bodyPost_ret (results_tmp rfl _ _ _) rfl ⟨rfl, k1⟩
  go_enter Tryd.func7, Tryd.ntmps7
  go_wp2_with fail
  refine (alive13 _ HT.out).mono ?_
  rintro e w1 ⟨rfl, k1⟩
  go_wp2_with fail
  refine (xnew now w w1 (by unfold TOP; omega) (HT.out.kept k1 (fun f => f)) hpos k1).mono ?_
  rintro e w2 ⟨g, rfl, h2, _⟩
  have X2 := Lib.hid h2
  clear h2 k1
  go_wp2_with fail
  go_loopw [7] (fun v wr => ∃ (i : Nat) (R : Rows), v = .int .i64 i ∧ i ≤ xs.length ∧ Wx w 0 0 wr g now R ∧ R.length ≤ i) (fun v _ => xs.length - (intOf v).toNat)
  case atStart => exact ⟨0, [], rfl, Nat.zero_le _, X2.out, Nat.le_refl _⟩
  case round =>
    obtain ⟨i, R, rfl, hi, hX, hlR⟩ := hrel
    have HX := Lib.hid hX
    have i0 : (0 : Int) ≤ (i : Int) := by omega
    clear hX
    by_cases hlt : i < xs.length
    · have i1 : (i : Int) < (xs.length : Int) := by omega
      have hyy := Hb.out i
      have HXW := Lib.hid (Hx.out.at_ hlt)
      obtain ⟨b, o, rfl, e0, e1, e2⟩ := (Hx.out.kp HX.out.kp).at_ hlt
      obtain ⟨b', o', hbo, e0', e1', e2'⟩ := HXW.out
      cases hbo
      generalize xs.getD i (0, 0, 0) = u at *
      obtain ⟨u0, u1, u2⟩ := u
      simp only at e0 e1 e2 hyy e0' e1' e2'
      have Y0 := Lib.hid e0'
      have Y1 := Lib.hid e1'
      have Y2 := Lib.hid e2'
      clear HXW e0' e1' e2'
      have HLN : Hid ((setR R u1 u2).length ≤ i + 1) := Lib.hid (Nat.le_trans (setR_len ..) (by omega))
      have HST := Lib.hid (show ∀ W, Kp (fun _ => False) w W → Kp (fun _ => False) wr W → Calls Tryd.prog 17 #[.pointer (some ⟨g, 0, none⟩), .int .i64 u1, .int .u64 (u2 : Int)] W fun ev w' => ev = .returned (.int .i64 ((setE R u1 u2 : Nat) : Int)) ∧ Wx w 0 0 w' g now (setR R u1 u2) from fun W _ k2 => by
        refine (xset g now R u1 u2 W (HX.out.none_kept k2) hyy).mono ?_
        rintro ev w' ⟨rfl, h1, h2⟩
        exact ⟨rfl, h1⟩)
      generalize setR R u1 u2 = R4 at *
      generalize setE R u1 u2 = E4 at *
      have KC0 := Lib.hid ((Kp.refl (fun _ => False) wr).drew)
      have KC := Lib.hid HX.out.kp.drew
      by_cases hu0 : u0 = 0
      · subst hu0
        clear e1 e2 hyy
        go_wp2_with fail
        refine wp_region_held_drew (S := (fun w' => Kp (fun _ => False) w w')) (by kernel_rfl) (KC.out) (fun hHeld => ?_)
        refine wpAnyH_take (i := 0) (v := ?v0_0) rfl (by kernel_rfl) (by kernel_rfl) (by kernel_rfl) (fun _ _ _ h => h) (Or.inl ⟨by rfl, ?y0_0⟩) (by assumption) ?r0_0
        case y0_0 => (intro w hSw; (try dsimp only at hSw); go_simp; first | done | with_reducible rfl)
        try simp only [Act.put, List.getElem_toArray, List.getElem_cons_succ, List.getElem_cons_zero, List.setIfInBounds_toArray, List.set_cons_zero, List.set_cons_succ]
        refine wpAnyH_take (i := 1) (v := ?v1_1) rfl (by kernel_rfl) (by kernel_rfl) (by kernel_rfl) (fun _ _ _ h => h) (Or.inl ⟨by rfl, ?y1_1⟩) (by assumption) ?r1_1
        case y1_1 => (intro w hSw; (try dsimp only at hSw); go_simp; first | done | with_reducible rfl)
        try simp only [Act.put, List.getElem_toArray, List.getElem_cons_succ, List.getElem_cons_zero, List.setIfInBounds_toArray, List.set_cons_zero, List.set_cons_succ]
        refine wpAnyH_take (i := 2) (v := ?v2_2) rfl (by kernel_rfl) (by kernel_rfl) (by kernel_rfl) (fun _ _ _ h => h) (Or.inl ⟨by rfl, ?y2_2⟩) (by assumption) ?r2_2
        case y2_2 => (intro w hSw; (try dsimp only at hSw); go_simp; first | done | with_reducible rfl)
        try simp only [Act.put, List.getElem_toArray, List.getElem_cons_succ, List.getElem_cons_zero, List.setIfInBounds_toArray, List.set_cons_zero, List.set_cons_succ]
        refine wpAnyH_take (i := 3) (v := ?v3_3) rfl (by kernel_rfl) (by kernel_rfl) (by kernel_rfl) (fun _ _ _ h => h) (Or.inl ⟨by rfl, ?y3_3⟩) (by assumption) ?r3_3
        case y3_3 => (intro w hSw; (try dsimp only at hSw); go_simp; first | done | with_reducible rfl)
        try simp only [Act.put, List.getElem_toArray, List.getElem_cons_succ, List.getElem_cons_zero, List.setIfInBounds_toArray, List.set_cons_zero, List.set_cons_succ]
        refine wpAnyH_take (i := 4) (v := ?v4_4) rfl (by kernel_rfl) (by kernel_rfl) (by kernel_rfl) (fun _ _ _ h => h) (Or.inl ⟨by rfl, ?y4_4⟩) (by assumption) ?r4_4
        case y4_4 => (intro w hSw; (try dsimp only at hSw); go_simp; first | done | with_reducible rfl)
        try simp only [Act.put, List.getElem_toArray, List.getElem_cons_succ, List.getElem_cons_zero, List.setIfInBounds_toArray, List.set_cons_zero, List.set_cons_succ]
        refine wpAnyH_take (i := 5) (v := ?v5_5) rfl (by kernel_rfl) (by kernel_rfl) (by kernel_rfl) (fun _ _ _ h => h) (Or.inl ⟨by rfl, ?y5_5⟩) (by assumption) ?r5_5
        case y5_5 => (intro w hSw; (try dsimp only at hSw); have y1 := kp_kc0 Y1.out hSw; go_simp; first | done | with_reducible rfl)
        try simp only [Act.put, List.getElem_toArray, List.getElem_cons_succ, List.getElem_cons_zero, List.setIfInBounds_toArray, List.set_cons_zero, List.set_cons_succ]
        refine wpAnyH_take (i := 6) (v := ?v6_6) rfl (by kernel_rfl) (by kernel_rfl) (by kernel_rfl) (fun _ _ _ h => h) (Or.inl ⟨by rfl, ?y6_6⟩) (by assumption) ?r6_6
        case y6_6 => (intro w hSw; (try dsimp only at hSw); go_simp; first | done | with_reducible rfl)
        try simp only [Act.put, List.getElem_toArray, List.getElem_cons_succ, List.getElem_cons_zero, List.setIfInBounds_toArray, List.set_cons_zero, List.set_cons_succ]
        refine wpAnyH_take (i := 7) (v := ?v7_7) rfl (by kernel_rfl) (by kernel_rfl) (by kernel_rfl) (fun _ _ _ h => h) (Or.inl ⟨by rfl, ?y7_7⟩) (by assumption) ?r7_7
        case y7_7 => (intro w hSw; (try dsimp only at hSw); go_simp; first | done | with_reducible rfl)
        try simp only [Act.put, List.getElem_toArray, List.getElem_cons_succ, List.getElem_cons_zero, List.setIfInBounds_toArray, List.set_cons_zero, List.set_cons_succ]
        refine wpAnyH_take (i := 8) (v := ?v8_8) rfl (by kernel_rfl) (by kernel_rfl) (by kernel_rfl) (fun _ _ _ h => h) (Or.inl ⟨by rfl, ?y8_8⟩) (by assumption) ?r8_8
        case y8_8 => (intro w hSw; (try dsimp only at hSw); go_simp; first | done | with_reducible rfl)
        try simp only [Act.put, List.getElem_toArray, List.getElem_cons_succ, List.getElem_cons_zero, List.setIfInBounds_toArray, List.set_cons_zero, List.set_cons_succ]
        refine wpAnyH_take (i := 9) (v := ?v9_9) rfl (by kernel_rfl) (by kernel_rfl) (by kernel_rfl) (fun _ _ _ h => h) (Or.inl ⟨by rfl, ?y9_9⟩) (by assumption) ?r9_9
        case y9_9 => (intro w hSw; (try dsimp only at hSw); go_simp; first | done | with_reducible rfl)
        try simp only [Act.put, List.getElem_toArray, List.getElem_cons_succ, List.getElem_cons_zero, List.setIfInBounds_toArray, List.set_cons_zero, List.set_cons_succ]
        refine wpAnyH_take (i := 10) (v := ?v10_10) rfl (by kernel_rfl) (by kernel_rfl) (by kernel_rfl) (fun _ _ _ h => h) (Or.inl ⟨by rfl, ?y10_10⟩) (by assumption) ?r10_10
        case y10_10 => (intro w hSw; (try dsimp only at hSw); have y2 := kp_kc0 Y2.out hSw; go_simp; first | done | with_reducible rfl)
        try simp only [Act.put, List.getElem_toArray, List.getElem_cons_succ, List.getElem_cons_zero, List.setIfInBounds_toArray, List.set_cons_zero, List.set_cons_succ]
        refine wpAnyH_ready (rs := [11]) (by kernel_rfl) (by simp) ?_
        refine AllReadyH.cons rfl (fun K hK => ?_) AllReadyH.nil
        go_simp
        with_reducible refine (HST.out _ (by exact KC.out) (by exact KC0.out)).mono ?_
        rintro ev w4 ⟨rfl, x4⟩
        have KC := Lib.hid x4.kp
        have X4 := Lib.hid x4
        clear x4
        try dsimp only
        refine hK.out _ _ (KC.out) (fun hHeld => ?_)
        clear hK K
        try simp only [Act.put, List.getElem_toArray, List.getElem_cons_succ, List.getElem_cons_zero, List.setIfInBounds_toArray, List.set_cons_zero, List.set_cons_succ]
        refine wpAnyH_done (by kernel_rfl) ?_ _
        have e4 := kp_kc0 Y0.out X4.out.kp
        go_wp2_with fail
        go_roundw
        case rel => exact ⟨i + 1, R4, by go_num, hlt, X4.out, HLN.out⟩
        case measure => simp [intOf]; omega
      · have hb0 : (u0 == 0) = false := by simpa using hu0
        by_cases hu1 : u0 = 1
        · subst hu1
          clear hb0 hu0 e2 HST HLN
          go_wp2_with fail
          refine (xcancel g now R u1 _ HX.out).mono ?_
          rintro ev w4 ⟨rfl, x4, _⟩
          have X4 := Lib.hid x4
          clear x4
          go_wp2_with fail
          go_roundw
          case rel => exact ⟨i + 1, _, by go_num, hlt, X4.out, Nat.le_trans (List.length_filter_le ..) (by omega)⟩
          case measure => simp [intOf]; omega
        · have hb1 : (u0 == 1) = false := by simpa using hu1
          clear hu0 hu1 e1 e2 HST HLN
          go_wp2_with fail
          go_roundw
          case rel => exact ⟨i + 1, R, by go_num, hlt, HX.out, by omega⟩
          case measure => simp [intOf]; omega
    · have hRl : R.length ≤ 1000000 := by omega
      have hnow : now ≤ 1152921504606846976 := by omega
      have htop := rfst_top HX.out.whl.top
      go_wp2_with fail
      refine (xnext g now R _ HX.out).mono ?_
      rintro ev w3 ⟨rfl, k3⟩
      have X3 := Lib.hid (HX.out.none_kept k3)
      clear k3
      by_cases hne : R = []
      · subst hne
        rw [show rfst ([] : Rows) = 0 from rfl, show (!List.isEmpty ([] : Rows)) = false from rfl]
        go_wp2_with fail
        refine (xlen g now [] _ X3.out).mono ?_
        rintro ev w4 ⟨rfl, rfl⟩
        rw [show (([] : Rows).length : Int) = 0 by decide]
        go_wp2_with fail
        exact bodyPost_ret (results_tmp rfl _ _ _) rfl ⟨rfl, X3.out.kp⟩
      have hem : (!R.isEmpty) = true := by
        rcases R with _ | ⟨y, S⟩
        · exact absurd rfl hne
        · rfl
      rw [hem]
      obtain ⟨n, hnn⟩ : ∃ n, rfst R = n := ⟨_, rfl⟩
      rw [hnn]
      unfold TOP at htop
      by_cases hgt : now < n
      · have c1 : (now : Int) < (n : Int) := by omega
        have c2 : IntKind.u64.wrap ((n : Int) - 1) = ((n - 1 : Nat) : Int) := by
          rw [show ((n : Int) - 1) = ((n - 1 : Nat) : Int) by omega]
          show ((n - 1 : Nat) : Int) % 18446744073709551616 = _
          omega
        have c3 : ¬ (n : Int) < (now : Int) := by omega
        have c4 : ¬ (n : Int) ≤ (now : Int) := by omega
        have c5 : (now : Int) ≤ (n : Int) := by omega
        have c6 : max (n : Int) (now : Int) = (n : Int) := by omega
        have HG1 := xgo g now (n - 1) R w3 X3.out hRl
        obtain ⟨g1, g2, g3⟩ := goL_ok (n := now) (t := n - 1) (by omega) (by unfold TOP; omega) R
        obtain ⟨e1, e2⟩ := rgot_none (t := n - 1) (R := R) (.inr (by omega))
        rw [g1, g2, g3, goE_ok (n := now) (t := n - 1) (by omega) (by unfold TOP; omega), e1, e2] at HG1
        replace HG1 : Calls Tryd.prog 18 #[.pointer (some ⟨g, 0, none⟩), .int .u64 ((n - 1 : Nat) : Int)] w3 fun ev w' => ∃ A c, ev = .returned (.tuple #[.slice A 0 c, .int .i64 0]) ∧ RdN w' A [] ∧ (∀ b o, A = some ⟨b, o, none⟩ → w3.heap.size ≤ b) ∧ Wx w 0 0 w' g (n - 1) R ∧ Kp (FW w 0 0 w3) w3 w' := HG1
        clear g1 g2 g3 e1 e2
        have hle : rfst R ≤ n := by omega
        obtain ⟨hl0, hmem⟩ := rgot_some hne hle
        have hdu := HX.out.rs.due.2 hmem
        have HDR := Lib.hid (show rdI R ((rgot n R).getD 0 0) = n ∧ (rdue ((rgot n R).getD 0 0) R).isSome = true by unfold rdI; rw [hdu, hnn]; exact ⟨rfl, rfl⟩)
        have hR2 : (!(rrest n R).isEmpty) = false ∨ (!(rrest n R).isEmpty) = true ∧ n < rfst (rrest n R) := by
          rcases e : rrest n R with _ | ⟨y, S⟩
          · exact .inl rfl
          · refine .inr ⟨rfl, ?_⟩
            rw [← e]
            exact rrest_fst HX.out.rs (by rw [e]; simp)
        have HGT := Lib.hid (show ∀ s1 s2 W, Wx w s1 s2 W g (n - 1) R → Calls Tryd.prog 18 #[.pointer (some ⟨g, 0, none⟩), .int .u64 (n : Int)] W fun ev w' => ∃ A c, ev = .returned (.tuple #[.slice A (rgot n R).length c, .int .i64 0]) ∧ RdN w' A (rgot n R) ∧ Wx w s1 s2 w' g n (rrest n R) ∧ Kp (FW w s1 s2 W) W w' from fun s1 s2 W hW => by
          have hh := xgo g (n - 1) n R W hW (by omega)
          obtain ⟨g1, g2, g3⟩ := goL_ok (n := (n - 1)) (t := n) (by omega) (by unfold TOP; omega) R
          rw [g1, g2, g3, goE_ok (n := (n - 1)) (t := n) (by omega) (by unfold TOP; omega)] at hh
          refine hh.mono ?_
          rintro ev w' ⟨A, c, rfl, r, _, x, k⟩
          exact ⟨A, c, rfl, r, x, k⟩)
        clear hmem hdu hle
        generalize rgot n R = l at *
        generalize rrest n R = R2 at *
        obtain ⟨m, hm⟩ : ∃ m, n - 1 = m := ⟨_, rfl⟩
        rw [hm] at c2 HG1 HGT
        have hmn : m < n := by omega
        clear hm
        go_wp2_with fail
        refine HG1.mono ?_
        rintro ev w4 ⟨A4, c4', rfl, _, _, x4, _⟩
        have XB := Lib.hid x4
        clear x4 HG1
        go_wp2_with fail
        refine (xclone g m R _ XB.out).mono ?_
        rintro ev w5 ⟨g2, rfl, x5, c5, _⟩
        have X5 := Lib.hid x5
        have C5 := Lib.hid c5
        clear x5 c5
        go_wp2_with fail
        refine (HGT.out _ _ _ X5.out).mono ?_
        rintro ev w6 ⟨A6, c6, rfl, r6, x6, k6⟩
        have X6 := Lib.hid x6
        have C6 := Lib.hid (C5.out.beside k6)
        obtain ⟨lb, lo, hA6, lc⟩ := r6.at_ hl0
        subst hA6
        have lc0 := lc 0 hl0
        rw [Nat.add_zero] at lc0
        have ll0 : (((l.length : Nat) : Int) == 0) = false := by rw [beq_eq_false_iff_ne]; omega
        have ll1 : (0 : Int) < ((l.length : Nat) : Int) := by omega
        clear x6 k6 r6 lc
        generalize l.getD 0 0 = x0 at *
        go_wp2_with fail
        have HDU := wdue _ g2 m R x0 w6 C6.out
        rw [HDR.out.1, HDR.out.2] at HDU
        refine HDU.mono ?_
        rintro ev w7 ⟨rfl, k7⟩
        have X7 := Lib.hid (X6.out.none_kept k7)
        clear k7 HDU
        go_wp2_with fail
        refine (xnext g n R2 _ X7.out).mono ?_
        rintro ev w8 ⟨rfl, k8⟩
        have K8 := Lib.hid (X7.out.kp.trans' k8)
        clear k8
        rcases hR2 with hR2 | ⟨hR2, hlt2⟩
        · rw [hR2]
          go_wp2_with fail
          exact bodyPost_ret (results_tmp rfl _ _ _) rfl ⟨rfl, K8.out⟩
        · rw [hR2]
          have hq : (n : Int) < ((rfst R2 : Nat) : Int) := by omega
          generalize rfst R2 = n2 at *
          go_wp2_with fail
          exact bodyPost_ret (results_tmp rfl _ _ _) rfl ⟨rfl, K8.out⟩
      · have c1 : ¬ (now : Int) < (n : Int) := by omega
        have c3 : (n : Int) ≤ (now : Int) := by omega
        have c6 : max (n : Int) (now : Int) = (now : Int) := by omega
        have XB := X3
        have hle : rfst R ≤ now := by omega
        obtain ⟨hl0, hmem⟩ := rgot_some hne hle
        have hdu := HX.out.rs.due.2 hmem
        have HDR := Lib.hid (show rdI R ((rgot now R).getD 0 0) = n ∧ (rdue ((rgot now R).getD 0 0) R).isSome = true by unfold rdI; rw [hdu, hnn]; exact ⟨rfl, rfl⟩)
        have hR2 : (!(rrest now R).isEmpty) = false ∨ (!(rrest now R).isEmpty) = true ∧ now < rfst (rrest now R) := by
          rcases e : rrest now R with _ | ⟨y, S⟩
          · exact .inl rfl
          · refine .inr ⟨rfl, ?_⟩
            rw [← e]
            exact rrest_fst HX.out.rs (by rw [e]; simp)
        have HGT := Lib.hid (show ∀ s1 s2 W, Wx w s1 s2 W g now R → Calls Tryd.prog 18 #[.pointer (some ⟨g, 0, none⟩), .int .u64 (now : Int)] W fun ev w' => ∃ A c, ev = .returned (.tuple #[.slice A (rgot now R).length c, .int .i64 0]) ∧ RdN w' A (rgot now R) ∧ Wx w s1 s2 w' g now (rrest now R) ∧ Kp (FW w s1 s2 W) W w' from fun s1 s2 W hW => by
          have hh := xgo g now now R W hW (by omega)
          obtain ⟨g1, g2, g3⟩ := goL_ok (n := now) (t := now) (by omega) (by unfold TOP; omega) R
          rw [g1, g2, g3, goE_ok (n := now) (t := now) (by omega) (by unfold TOP; omega)] at hh
          refine hh.mono ?_
          rintro ev w' ⟨A, c, rfl, r, _, x, k⟩
          exact ⟨A, c, rfl, r, x, k⟩)
        clear hmem hdu hle
        generalize rgot now R = l at *
        generalize rrest now R = R2 at *
        go_wp2_with fail
        refine (xclone g now R _ XB.out).mono ?_
        rintro ev w5 ⟨g2, rfl, x5, c5, _⟩
        have X5 := Lib.hid x5
        have C5 := Lib.hid c5
        clear x5 c5
        go_wp2_with fail
        refine (HGT.out _ _ _ X5.out).mono ?_
        rintro ev w6 ⟨A6, c6, rfl, r6, x6, k6⟩
        have X6 := Lib.hid x6
        have C6 := Lib.hid (C5.out.beside k6)
        obtain ⟨lb, lo, hA6, lc⟩ := r6.at_ hl0
        subst hA6
        have lc0 := lc 0 hl0
        rw [Nat.add_zero] at lc0
        have ll0 : (((l.length : Nat) : Int) == 0) = false := by rw [beq_eq_false_iff_ne]; omega
        have ll1 : (0 : Int) < ((l.length : Nat) : Int) := by omega
        clear x6 k6 r6 lc
        generalize l.getD 0 0 = x0 at *
        go_wp2_with fail
        have HDU := wdue _ g2 now R x0 w6 C6.out
        rw [HDR.out.1, HDR.out.2] at HDU
        refine HDU.mono ?_
        rintro ev w7 ⟨rfl, k7⟩
        have X7 := Lib.hid (X6.out.none_kept k7)
        clear k7 HDU
        go_wp2_with fail
        refine (xnext g now R2 _ X7.out).mono ?_
        rintro ev w8 ⟨rfl, k8⟩
        have K8 := Lib.hid (X7.out.kp.trans' k8)
        clear k8
        rcases hR2 with hR2 | ⟨hR2, hlt2⟩
        · rw [hR2]
          go_wp2_with fail
          exact bodyPost_ret (results_tmp rfl _ _ _) rfl ⟨rfl, K8.out⟩
        · rw [hR2]
          have hq : (now : Int) < ((rfst R2 : Nat) : Int) := by omega
          generalize rfst R2 = n2 at *
          go_wp2_with fail
          exact bodyPost_ret (results_tmp rfl _ _ _) rfl ⟨rfl, K8.out⟩
end Go.Proofs.YtdakkmaahgcjfaaDoor
