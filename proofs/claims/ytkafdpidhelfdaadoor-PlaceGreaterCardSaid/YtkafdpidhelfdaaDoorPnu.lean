/- Place: the reference's decimal. -/
import Derived.Test.YtkafdpidhelfdaaDoorPnt
import Derived.Laws.Strings3
import Derived.Laws.Concat
set_option linter.unusedVariables false
set_option linter.unusedSimpArgs false
namespace Go.Proofs.YtkafdpidhelfdaaDoor
open Go.RowKit

abbrev dStr : ByteArray := ⟨#[48, 49, 50, 51, 52, 53, 54, 55, 56, 57]⟩
theorem d_cut : ∀ a < 10, dStr.extract a (a + 1) = ⟨#[48 + UInt8.ofNat a]⟩ := by decide +kernel
theorem dec3 : ∀ n < 256, 100 ≤ n → Lib.decDigits n = [48 + UInt8.ofNat (n / 100), 48 + UInt8.ofNat (n / 10 % 10), 48 + UInt8.ofNat (n % 10)] := by decide +kernel
theorem dec2 : ∀ n < 100, 10 ≤ n → Lib.decDigits n = [48 + UInt8.ofNat (n / 10), 48 + UInt8.ofNat (n % 10)] := by decide +kernel
theorem dec1 : ∀ n < 10, Lib.decDigits n = [48 + UInt8.ofNat n] := by decide +kernel
theorem ba_add (x y : List UInt8) : (⟨x.toArray⟩ : ByteArray) ++ ⟨y.toArray⟩ = ⟨(x ++ y).toArray⟩ := by
  apply ByteArray.ext
  simp
theorem wrapn {n : Nat} (h : n < 4294967296) : IntKind.u32.wrap (n : Int) = (n : Int) := by
  show (n : Int) % 4294967296 = _
  omega
set_option maxRecDepth 1000000 in
set_option maxHeartbeats 8000000 in
theorem decimal_ (n : Nat) (w : World) (hn : n < 256) : Calls Tryd.prog 44 #[.int .u32 (n : Int)] w fun ev w' => ev = .returned (strV (Lib.decDigits n)) ∧ Kp (fun _ => False) w w' := by
  have KC := Lib.hid ((Kp.refl (fun _ => False) w).drew)
  by_cases h1 : 100 ≤ n
  · have h1' : (100 : Int) ≤ (n : Int) := by omega
    have a1 : Int.tdiv (n : Int) 100 = ((n / 100 : Nat) : Int) := by rw [Int.tdiv_eq_ediv_of_nonneg (by omega)]; rfl
    have a1' : (n : Int) / 100 = ((n / 100 : Nat) : Int) := rfl
    have a2 : Int.tdiv (n : Int) 10 = ((n / 10 : Nat) : Int) := by rw [Int.tdiv_eq_ediv_of_nonneg (by omega)]; rfl
    have a2' : (n : Int) / 10 = ((n / 10 : Nat) : Int) := rfl
    have a3 : Int.tmod (n : Int) 10 = ((n % 10 : Nat) : Int) := by rw [Int.tmod_eq_emod_of_nonneg (by omega)]; rfl
    have a3' : (n : Int) % 10 = ((n % 10 : Nat) : Int) := rfl
    have a4 : Int.tmod ((n / 10 : Nat) : Int) 10 = ((n / 10 % 10 : Nat) : Int) := by rw [Int.tmod_eq_emod_of_nonneg (by omega)]; rfl
    have a4' : ((n / 10 : Nat) : Int) % 10 = ((n / 10 % 10 : Nat) : Int) := rfl
    rw [dec3 n hn h1]
    have hA : n / 100 < 10 := by omega
    have hB : n / 10 % 10 < 10 := by omega
    have hC : n % 10 < 10 := by omega
    have w1 := wrapn (n := n / 100) (by omega)
    have w2 := wrapn (n := n / 10) (by omega)
    have w3 := wrapn (n := n / 10 % 10) (by omega)
    have w4 := wrapn (n := n % 10) (by omega)
    generalize n / 100 = a at *
    generalize n / 10 % 10 = b at *
    generalize n % 10 = c at *
    generalize n / 10 = m at *
    have s1 : IntKind.u32.wrap ((a : Int) + 1) = ((a + 1 : Nat) : Int) := wrapn (n := a + 1) (by omega)
    have s2 : IntKind.u32.wrap ((b : Int) + 1) = ((b + 1 : Nat) : Int) := wrapn (n := b + 1) (by omega)
    have s3 : IntKind.u32.wrap ((c : Int) + 1) = ((c + 1 : Nat) : Int) := wrapn (n := c + 1) (by omega)
    have e1 := d_cut a hA
    have e2 := d_cut b hB
    have e3 := d_cut c hC
    have f1 : (0 : Int) ≤ (a : Int) + 1 ∧ (a : Int) + 1 ≤ 10 := by omega
    have f2 : (0 : Int) ≤ (b : Int) + 1 ∧ (b : Int) + 1 ≤ 10 := by omega
    have f3 : (0 : Int) ≤ (c : Int) + 1 ∧ (c : Int) + 1 ≤ 10 := by omega
    have g1 : (a : Int) ≤ (a : Int) + 1 := by omega
    have g2 : (b : Int) ≤ (b : Int) + 1 := by omega
    have g3 : (c : Int) ≤ (c : Int) + 1 := by omega
    go_enter Tryd.func44, Tryd.ntmps44
    go_wp2_with fail
    refine wp_region_held_drew (S := (fun w' => Kp (fun _ => False) w w')) (by kernel_rfl) (KC.out) (fun hHeld => ?_)
    refine wpAnyH_take (i := 0) (v := ?v0_44) rfl (by kernel_rfl) (by kernel_rfl) (by kernel_rfl) (fun _ _ _ h => h) (Or.inl ⟨by rfl, ?y0_44⟩) (by assumption) ?r0_44
    case y0_44 => (intro w hSw; (try dsimp only at hSw); go_simp; first | done | with_reducible rfl)
    try simp only [Act.put, List.getElem_toArray, List.getElem_cons_succ, List.getElem_cons_zero, List.setIfInBounds_toArray, List.set_cons_zero, List.set_cons_succ]
    refine wpAnyH_take (i := 1) (v := ?v1_45) rfl (by kernel_rfl) (by kernel_rfl) (by kernel_rfl) (fun _ _ _ h => h) (Or.inl ⟨by rfl, ?y1_45⟩) (by assumption) ?r1_45
    case y1_45 => (intro w hSw; (try dsimp only at hSw); go_simp; first | done | with_reducible rfl)
    try simp only [Act.put, List.getElem_toArray, List.getElem_cons_succ, List.getElem_cons_zero, List.setIfInBounds_toArray, List.set_cons_zero, List.set_cons_succ]
    refine wpAnyH_take (i := 2) (v := ?v2_46) rfl (by kernel_rfl) (by kernel_rfl) (by kernel_rfl) (fun _ _ _ h => h) (Or.inl ⟨by rfl, ?y2_46⟩) (by assumption) ?r2_46
    case y2_46 => (intro w hSw; (try dsimp only at hSw); go_simp; first | done | with_reducible rfl)
    try simp only [Act.put, List.getElem_toArray, List.getElem_cons_succ, List.getElem_cons_zero, List.setIfInBounds_toArray, List.set_cons_zero, List.set_cons_succ]
    refine wpAnyH_take (i := 3) (v := ?v3_47) rfl (by kernel_rfl) (by kernel_rfl) (by kernel_rfl) (fun _ _ _ h => h) (Or.inl ⟨by rfl, ?y3_47⟩) (by assumption) ?r3_47
    case y3_47 => (intro w hSw; (try dsimp only at hSw); go_simp; first | done | with_reducible rfl)
    try simp only [Act.put, List.getElem_toArray, List.getElem_cons_succ, List.getElem_cons_zero, List.setIfInBounds_toArray, List.set_cons_zero, List.set_cons_succ]
    refine wpAnyH_take (i := 4) (v := ?v4_48) rfl (by kernel_rfl) (by kernel_rfl) (by kernel_rfl) (fun _ _ _ h => h) (Or.inl ⟨by rfl, ?y4_48⟩) (by assumption) ?r4_48
    case y4_48 => (intro w hSw; (try dsimp only at hSw); go_simp; first | done | with_reducible rfl)
    try simp only [Act.put, List.getElem_toArray, List.getElem_cons_succ, List.getElem_cons_zero, List.setIfInBounds_toArray, List.set_cons_zero, List.set_cons_succ]
    refine wpAnyH_take (i := 5) (v := ?v5_49) rfl (by kernel_rfl) (by kernel_rfl) (by kernel_rfl) (fun _ _ _ h => h) (Or.inl ⟨by rfl, ?y5_49⟩) (by assumption) ?r5_49
    case y5_49 => (intro w hSw; (try dsimp only at hSw); go_simp; first | done | with_reducible rfl)
    try simp only [Act.put, List.getElem_toArray, List.getElem_cons_succ, List.getElem_cons_zero, List.setIfInBounds_toArray, List.set_cons_zero, List.set_cons_succ]
    refine wpAnyH_take (i := 6) (v := ?v6_50) rfl (by kernel_rfl) (by kernel_rfl) (by kernel_rfl) (fun _ _ _ h => h) (Or.inl ⟨by rfl, ?y6_50⟩) (by assumption) ?r6_50
    case y6_50 => (intro w hSw; (try dsimp only at hSw); go_simp; first | done | with_reducible rfl)
    try simp only [Act.put, List.getElem_toArray, List.getElem_cons_succ, List.getElem_cons_zero, List.setIfInBounds_toArray, List.set_cons_zero, List.set_cons_succ]
    refine wpAnyH_take (i := 7) (v := ?v7_51) rfl (by kernel_rfl) (by kernel_rfl) (by kernel_rfl) (fun _ _ _ h => h) (Or.inl ⟨by rfl, ?y7_51⟩) (by assumption) ?r7_51
    case y7_51 => (intro w hSw; (try dsimp only at hSw); go_simp; first | done | with_reducible rfl)
    try simp only [Act.put, List.getElem_toArray, List.getElem_cons_succ, List.getElem_cons_zero, List.setIfInBounds_toArray, List.set_cons_zero, List.set_cons_succ]
    refine wpAnyH_take (i := 8) (v := ?v8_52) rfl (by kernel_rfl) (by kernel_rfl) (by kernel_rfl) (fun _ _ _ h => h) (Or.inl ⟨by rfl, ?y8_52⟩) (by assumption) ?r8_52
    case y8_52 => (intro w hSw; (try dsimp only at hSw); go_simp; first | done | with_reducible rfl)
    try simp only [Act.put, List.getElem_toArray, List.getElem_cons_succ, List.getElem_cons_zero, List.setIfInBounds_toArray, List.set_cons_zero, List.set_cons_succ]
    refine wpAnyH_take (i := 9) (v := ?v9_53) rfl (by kernel_rfl) (by kernel_rfl) (by kernel_rfl) (fun _ _ _ h => h) (Or.inl ⟨by rfl, ?y9_53⟩) (by assumption) ?r9_53
    case y9_53 => (intro w hSw; (try dsimp only at hSw); go_simp; first | done | with_reducible rfl)
    try simp only [Act.put, List.getElem_toArray, List.getElem_cons_succ, List.getElem_cons_zero, List.setIfInBounds_toArray, List.set_cons_zero, List.set_cons_succ]
    refine wpAnyH_take (i := 10) (v := ?v10_54) rfl (by kernel_rfl) (by kernel_rfl) (by kernel_rfl) (fun _ _ _ h => h) (Or.inl ⟨by rfl, ?y10_54⟩) (by assumption) ?r10_54
    case y10_54 => (intro w hSw; (try dsimp only at hSw); go_simp; first | done | with_reducible rfl)
    try simp only [Act.put, List.getElem_toArray, List.getElem_cons_succ, List.getElem_cons_zero, List.setIfInBounds_toArray, List.set_cons_zero, List.set_cons_succ]
    refine wpAnyH_take (i := 11) (v := ?v11_55) rfl (by kernel_rfl) (by kernel_rfl) (by kernel_rfl) (fun _ _ _ h => h) (Or.inl ⟨by rfl, ?y11_55⟩) (by assumption) ?r11_55
    case y11_55 => (intro w hSw; (try dsimp only at hSw); go_simp; first | done | with_reducible rfl)
    try simp only [Act.put, List.getElem_toArray, List.getElem_cons_succ, List.getElem_cons_zero, List.setIfInBounds_toArray, List.set_cons_zero, List.set_cons_succ]
    refine wpAnyH_take (i := 12) (v := ?v12_56) rfl (by kernel_rfl) (by kernel_rfl) (by kernel_rfl) (fun _ _ _ h => h) (Or.inl ⟨by rfl, ?y12_56⟩) (by assumption) ?r12_56
    case y12_56 => (intro w hSw; (try dsimp only at hSw); go_simp; first | done | with_reducible rfl)
    try simp only [Act.put, List.getElem_toArray, List.getElem_cons_succ, List.getElem_cons_zero, List.setIfInBounds_toArray, List.set_cons_zero, List.set_cons_succ]
    refine wpAnyH_take (i := 13) (v := ?v13_57) rfl (by kernel_rfl) (by kernel_rfl) (by kernel_rfl) (fun _ _ _ h => h) (Or.inl ⟨by rfl, ?y13_57⟩) (by assumption) ?r13_57
    case y13_57 => (intro w hSw; (try dsimp only at hSw); go_simp; first | done | with_reducible rfl)
    try simp only [Act.put, List.getElem_toArray, List.getElem_cons_succ, List.getElem_cons_zero, List.setIfInBounds_toArray, List.set_cons_zero, List.set_cons_succ]
    refine wpAnyH_take (i := 14) (v := ?v14_58) rfl (by kernel_rfl) (by kernel_rfl) (by kernel_rfl) (fun _ _ _ h => h) (Or.inl ⟨by rfl, ?y14_58⟩) (by assumption) ?r14_58
    case y14_58 => (intro w hSw; (try dsimp only at hSw); go_simp; first | done | with_reducible rfl)
    try simp only [Act.put, List.getElem_toArray, List.getElem_cons_succ, List.getElem_cons_zero, List.setIfInBounds_toArray, List.set_cons_zero, List.set_cons_succ]
    refine wpAnyH_take (i := 15) (v := ?v15_59) rfl (by kernel_rfl) (by kernel_rfl) (by kernel_rfl) (fun _ _ _ h => h) (Or.inl ⟨by rfl, ?y15_59⟩) (by assumption) ?r15_59
    case y15_59 => (intro w hSw; (try dsimp only at hSw); go_simp; first | done | with_reducible rfl)
    try simp only [Act.put, List.getElem_toArray, List.getElem_cons_succ, List.getElem_cons_zero, List.setIfInBounds_toArray, List.set_cons_zero, List.set_cons_succ]
    refine wpAnyH_take (i := 16) (v := ?v16_60) rfl (by kernel_rfl) (by kernel_rfl) (by kernel_rfl) (fun _ _ _ h => h) (Or.inl ⟨by rfl, ?y16_60⟩) (by assumption) ?r16_60
    case y16_60 => (intro w hSw; (try dsimp only at hSw); go_simp; first | done | with_reducible rfl)
    try simp only [Act.put, List.getElem_toArray, List.getElem_cons_succ, List.getElem_cons_zero, List.setIfInBounds_toArray, List.set_cons_zero, List.set_cons_succ]
    refine wpAnyH_take (i := 17) (v := ?v17_61) rfl (by kernel_rfl) (by kernel_rfl) (by kernel_rfl) (fun _ _ _ h => h) (Or.inl ⟨by rfl, ?y17_61⟩) (by assumption) ?r17_61
    case y17_61 => (intro w hSw; (try dsimp only at hSw); go_simp; first | done | with_reducible rfl)
    try simp only [Act.put, List.getElem_toArray, List.getElem_cons_succ, List.getElem_cons_zero, List.setIfInBounds_toArray, List.set_cons_zero, List.set_cons_succ]
    refine wpAnyH_take (i := 18) (v := ?v18_62) rfl (by kernel_rfl) (by kernel_rfl) (by kernel_rfl) (fun _ _ _ h => h) (Or.inl ⟨by rfl, ?y18_62⟩) (by assumption) ?r18_62
    case y18_62 => (intro w hSw; (try dsimp only at hSw); go_simp; first | done | with_reducible rfl)
    try simp only [Act.put, List.getElem_toArray, List.getElem_cons_succ, List.getElem_cons_zero, List.setIfInBounds_toArray, List.set_cons_zero, List.set_cons_succ]
    refine wpAnyH_take (i := 19) (v := ?v19_63) rfl (by kernel_rfl) (by kernel_rfl) (by kernel_rfl) (fun _ _ _ h => h) (Or.inl ⟨by rfl, ?y19_63⟩) (by assumption) ?r19_63
    case y19_63 => (intro w hSw; (try dsimp only at hSw); go_simp; first | done | with_reducible rfl)
    try simp only [Act.put, List.getElem_toArray, List.getElem_cons_succ, List.getElem_cons_zero, List.setIfInBounds_toArray, List.set_cons_zero, List.set_cons_succ]
    refine wpAnyH_take (i := 20) (v := ?v20_64) rfl (by kernel_rfl) (by kernel_rfl) (by kernel_rfl) (fun _ _ _ h => h) (Or.inl ⟨by rfl, ?y20_64⟩) (by assumption) ?r20_64
    case y20_64 => (intro w hSw; (try dsimp only at hSw); go_simp; first | done | with_reducible rfl)
    try simp only [Act.put, List.getElem_toArray, List.getElem_cons_succ, List.getElem_cons_zero, List.setIfInBounds_toArray, List.set_cons_zero, List.set_cons_succ]
    refine wpAnyH_take (i := 21) (v := ?v21_65) rfl (by kernel_rfl) (by kernel_rfl) (by kernel_rfl) (fun _ _ _ h => h) (Or.inl ⟨by rfl, ?y21_65⟩) (by assumption) ?r21_65
    case y21_65 => (intro w hSw; (try dsimp only at hSw); go_simp; first | done | with_reducible rfl)
    try simp only [Act.put, List.getElem_toArray, List.getElem_cons_succ, List.getElem_cons_zero, List.setIfInBounds_toArray, List.set_cons_zero, List.set_cons_succ]
    refine wpAnyH_take (i := 22) (v := ?v22_66) rfl (by kernel_rfl) (by kernel_rfl) (by kernel_rfl) (fun _ _ _ h => h) (Or.inl ⟨by rfl, ?y22_66⟩) (by assumption) ?r22_66
    case y22_66 => (intro w hSw; (try dsimp only at hSw); go_simp; first | done | with_reducible rfl)
    try simp only [Act.put, List.getElem_toArray, List.getElem_cons_succ, List.getElem_cons_zero, List.setIfInBounds_toArray, List.set_cons_zero, List.set_cons_succ]
    refine wpAnyH_take (i := 23) (v := ?v23_67) rfl (by kernel_rfl) (by kernel_rfl) (by kernel_rfl) (fun _ _ _ h => h) (Or.inl ⟨by rfl, ?y23_67⟩) (by assumption) ?r23_67
    case y23_67 => (intro w hSw; (try dsimp only at hSw); go_simp; first | done | with_reducible rfl)
    try simp only [Act.put, List.getElem_toArray, List.getElem_cons_succ, List.getElem_cons_zero, List.setIfInBounds_toArray, List.set_cons_zero, List.set_cons_succ]
    refine wpAnyH_take (i := 24) (v := ?v24_68) rfl (by kernel_rfl) (by kernel_rfl) (by kernel_rfl) (fun _ _ _ h => h) (Or.inl ⟨by rfl, ?y24_68⟩) (by assumption) ?r24_68
    case y24_68 => (intro w hSw; (try dsimp only at hSw); go_simp; first | done | with_reducible rfl)
    try simp only [Act.put, List.getElem_toArray, List.getElem_cons_succ, List.getElem_cons_zero, List.setIfInBounds_toArray, List.set_cons_zero, List.set_cons_succ]
    refine wpAnyH_take (i := 25) (v := ?v25_69) rfl (by kernel_rfl) (by kernel_rfl) (by kernel_rfl) (fun _ _ _ h => h) (Or.inl ⟨by rfl, ?y25_69⟩) (by assumption) ?r25_69
    case y25_69 => (intro w hSw; (try dsimp only at hSw); go_simp; first | done | with_reducible rfl)
    try simp only [Act.put, List.getElem_toArray, List.getElem_cons_succ, List.getElem_cons_zero, List.setIfInBounds_toArray, List.set_cons_zero, List.set_cons_succ]
    refine wpAnyH_done (by kernel_rfl) ?_ _
    go_wp2_with fail
    exact bodyPost_ret (results_tmp rfl _ _ _) rfl ⟨by show Ending.returned (Value.string ((⟨[_].toArray⟩ : ByteArray) ++ ⟨[_].toArray⟩ ++ ⟨[_].toArray⟩)) = _; rw [ba_add, ba_add]; rfl, KC.out⟩
  · have h1' : ¬ (100 : Int) ≤ (n : Int) := by omega
    by_cases h2 : 10 ≤ n
    · have h2' : (10 : Int) ≤ (n : Int) := by omega
      have a2 : Int.tdiv (n : Int) 10 = ((n / 10 : Nat) : Int) := by rw [Int.tdiv_eq_ediv_of_nonneg (by omega)]; rfl
      have a2' : (n : Int) / 10 = ((n / 10 : Nat) : Int) := rfl
      have a3 : Int.tmod (n : Int) 10 = ((n % 10 : Nat) : Int) := by rw [Int.tmod_eq_emod_of_nonneg (by omega)]; rfl
      have a3' : (n : Int) % 10 = ((n % 10 : Nat) : Int) := rfl
      rw [dec2 n (by omega) h2]
      have hB : n / 10 < 10 := by omega
      have hC : n % 10 < 10 := by omega
      have w3 := wrapn (n := n / 10) (by omega)
      have w4 := wrapn (n := n % 10) (by omega)
      generalize n / 10 = b at *
      generalize n % 10 = c at *
      have s2 : IntKind.u32.wrap ((b : Int) + 1) = ((b + 1 : Nat) : Int) := wrapn (n := b + 1) (by omega)
      have s3 : IntKind.u32.wrap ((c : Int) + 1) = ((c + 1 : Nat) : Int) := wrapn (n := c + 1) (by omega)
      have e2 := d_cut b hB
      have e3 := d_cut c hC
      have f2 : (0 : Int) ≤ (b : Int) + 1 ∧ (b : Int) + 1 ≤ 10 := by omega
      have f3 : (0 : Int) ≤ (c : Int) + 1 ∧ (c : Int) + 1 ≤ 10 := by omega
      have g2 : (b : Int) ≤ (b : Int) + 1 := by omega
      have g3 : (c : Int) ≤ (c : Int) + 1 := by omega
      go_enter Tryd.func44, Tryd.ntmps44
      go_wp2_with fail
      refine wp_region_held_drew (S := (fun w' => Kp (fun _ => False) w w')) (by kernel_rfl) (KC.out) (fun hHeld => ?_)
      refine wpAnyH_take (i := 0) (v := ?v0_70) rfl (by kernel_rfl) (by kernel_rfl) (by kernel_rfl) (fun _ _ _ h => h) (Or.inl ⟨by rfl, ?y0_70⟩) (by assumption) ?r0_70
      case y0_70 => (intro w hSw; (try dsimp only at hSw); go_simp; first | done | with_reducible rfl)
      try simp only [Act.put, List.getElem_toArray, List.getElem_cons_succ, List.getElem_cons_zero, List.setIfInBounds_toArray, List.set_cons_zero, List.set_cons_succ]
      refine wpAnyH_take (i := 1) (v := ?v1_71) rfl (by kernel_rfl) (by kernel_rfl) (by kernel_rfl) (fun _ _ _ h => h) (Or.inl ⟨by rfl, ?y1_71⟩) (by assumption) ?r1_71
      case y1_71 => (intro w hSw; (try dsimp only at hSw); go_simp; first | done | with_reducible rfl)
      try simp only [Act.put, List.getElem_toArray, List.getElem_cons_succ, List.getElem_cons_zero, List.setIfInBounds_toArray, List.set_cons_zero, List.set_cons_succ]
      refine wpAnyH_take (i := 2) (v := ?v2_72) rfl (by kernel_rfl) (by kernel_rfl) (by kernel_rfl) (fun _ _ _ h => h) (Or.inl ⟨by rfl, ?y2_72⟩) (by assumption) ?r2_72
      case y2_72 => (intro w hSw; (try dsimp only at hSw); go_simp; first | done | with_reducible rfl)
      try simp only [Act.put, List.getElem_toArray, List.getElem_cons_succ, List.getElem_cons_zero, List.setIfInBounds_toArray, List.set_cons_zero, List.set_cons_succ]
      refine wpAnyH_take (i := 3) (v := ?v3_73) rfl (by kernel_rfl) (by kernel_rfl) (by kernel_rfl) (fun _ _ _ h => h) (Or.inl ⟨by rfl, ?y3_73⟩) (by assumption) ?r3_73
      case y3_73 => (intro w hSw; (try dsimp only at hSw); go_simp; first | done | with_reducible rfl)
      try simp only [Act.put, List.getElem_toArray, List.getElem_cons_succ, List.getElem_cons_zero, List.setIfInBounds_toArray, List.set_cons_zero, List.set_cons_succ]
      refine wpAnyH_take (i := 4) (v := ?v4_74) rfl (by kernel_rfl) (by kernel_rfl) (by kernel_rfl) (fun _ _ _ h => h) (Or.inl ⟨by rfl, ?y4_74⟩) (by assumption) ?r4_74
      case y4_74 => (intro w hSw; (try dsimp only at hSw); go_simp; first | done | with_reducible rfl)
      try simp only [Act.put, List.getElem_toArray, List.getElem_cons_succ, List.getElem_cons_zero, List.setIfInBounds_toArray, List.set_cons_zero, List.set_cons_succ]
      refine wpAnyH_take (i := 5) (v := ?v5_75) rfl (by kernel_rfl) (by kernel_rfl) (by kernel_rfl) (fun _ _ _ h => h) (Or.inl ⟨by rfl, ?y5_75⟩) (by assumption) ?r5_75
      case y5_75 => (intro w hSw; (try dsimp only at hSw); go_simp; first | done | with_reducible rfl)
      try simp only [Act.put, List.getElem_toArray, List.getElem_cons_succ, List.getElem_cons_zero, List.setIfInBounds_toArray, List.set_cons_zero, List.set_cons_succ]
      refine wpAnyH_take (i := 6) (v := ?v6_76) rfl (by kernel_rfl) (by kernel_rfl) (by kernel_rfl) (fun _ _ _ h => h) (Or.inl ⟨by rfl, ?y6_76⟩) (by assumption) ?r6_76
      case y6_76 => (intro w hSw; (try dsimp only at hSw); go_simp; first | done | with_reducible rfl)
      try simp only [Act.put, List.getElem_toArray, List.getElem_cons_succ, List.getElem_cons_zero, List.setIfInBounds_toArray, List.set_cons_zero, List.set_cons_succ]
      refine wpAnyH_take (i := 7) (v := ?v7_77) rfl (by kernel_rfl) (by kernel_rfl) (by kernel_rfl) (fun _ _ _ h => h) (Or.inl ⟨by rfl, ?y7_77⟩) (by assumption) ?r7_77
      case y7_77 => (intro w hSw; (try dsimp only at hSw); go_simp; first | done | with_reducible rfl)
      try simp only [Act.put, List.getElem_toArray, List.getElem_cons_succ, List.getElem_cons_zero, List.setIfInBounds_toArray, List.set_cons_zero, List.set_cons_succ]
      refine wpAnyH_take (i := 8) (v := ?v8_78) rfl (by kernel_rfl) (by kernel_rfl) (by kernel_rfl) (fun _ _ _ h => h) (Or.inl ⟨by rfl, ?y8_78⟩) (by assumption) ?r8_78
      case y8_78 => (intro w hSw; (try dsimp only at hSw); go_simp; first | done | with_reducible rfl)
      try simp only [Act.put, List.getElem_toArray, List.getElem_cons_succ, List.getElem_cons_zero, List.setIfInBounds_toArray, List.set_cons_zero, List.set_cons_succ]
      refine wpAnyH_take (i := 9) (v := ?v9_79) rfl (by kernel_rfl) (by kernel_rfl) (by kernel_rfl) (fun _ _ _ h => h) (Or.inl ⟨by rfl, ?y9_79⟩) (by assumption) ?r9_79
      case y9_79 => (intro w hSw; (try dsimp only at hSw); go_simp; first | done | with_reducible rfl)
      try simp only [Act.put, List.getElem_toArray, List.getElem_cons_succ, List.getElem_cons_zero, List.setIfInBounds_toArray, List.set_cons_zero, List.set_cons_succ]
      refine wpAnyH_take (i := 10) (v := ?v10_80) rfl (by kernel_rfl) (by kernel_rfl) (by kernel_rfl) (fun _ _ _ h => h) (Or.inl ⟨by rfl, ?y10_80⟩) (by assumption) ?r10_80
      case y10_80 => (intro w hSw; (try dsimp only at hSw); go_simp; first | done | with_reducible rfl)
      try simp only [Act.put, List.getElem_toArray, List.getElem_cons_succ, List.getElem_cons_zero, List.setIfInBounds_toArray, List.set_cons_zero, List.set_cons_succ]
      refine wpAnyH_take (i := 11) (v := ?v11_81) rfl (by kernel_rfl) (by kernel_rfl) (by kernel_rfl) (fun _ _ _ h => h) (Or.inl ⟨by rfl, ?y11_81⟩) (by assumption) ?r11_81
      case y11_81 => (intro w hSw; (try dsimp only at hSw); go_simp; first | done | with_reducible rfl)
      try simp only [Act.put, List.getElem_toArray, List.getElem_cons_succ, List.getElem_cons_zero, List.setIfInBounds_toArray, List.set_cons_zero, List.set_cons_succ]
      refine wpAnyH_take (i := 12) (v := ?v12_82) rfl (by kernel_rfl) (by kernel_rfl) (by kernel_rfl) (fun _ _ _ h => h) (Or.inl ⟨by rfl, ?y12_82⟩) (by assumption) ?r12_82
      case y12_82 => (intro w hSw; (try dsimp only at hSw); go_simp; first | done | with_reducible rfl)
      try simp only [Act.put, List.getElem_toArray, List.getElem_cons_succ, List.getElem_cons_zero, List.setIfInBounds_toArray, List.set_cons_zero, List.set_cons_succ]
      refine wpAnyH_take (i := 13) (v := ?v13_83) rfl (by kernel_rfl) (by kernel_rfl) (by kernel_rfl) (fun _ _ _ h => h) (Or.inl ⟨by rfl, ?y13_83⟩) (by assumption) ?r13_83
      case y13_83 => (intro w hSw; (try dsimp only at hSw); go_simp; first | done | with_reducible rfl)
      try simp only [Act.put, List.getElem_toArray, List.getElem_cons_succ, List.getElem_cons_zero, List.setIfInBounds_toArray, List.set_cons_zero, List.set_cons_succ]
      refine wpAnyH_take (i := 14) (v := ?v14_84) rfl (by kernel_rfl) (by kernel_rfl) (by kernel_rfl) (fun _ _ _ h => h) (Or.inl ⟨by rfl, ?y14_84⟩) (by assumption) ?r14_84
      case y14_84 => (intro w hSw; (try dsimp only at hSw); go_simp; first | done | with_reducible rfl)
      try simp only [Act.put, List.getElem_toArray, List.getElem_cons_succ, List.getElem_cons_zero, List.setIfInBounds_toArray, List.set_cons_zero, List.set_cons_succ]
      refine wpAnyH_take (i := 15) (v := ?v15_85) rfl (by kernel_rfl) (by kernel_rfl) (by kernel_rfl) (fun _ _ _ h => h) (Or.inl ⟨by rfl, ?y15_85⟩) (by assumption) ?r15_85
      case y15_85 => (intro w hSw; (try dsimp only at hSw); go_simp; first | done | with_reducible rfl)
      try simp only [Act.put, List.getElem_toArray, List.getElem_cons_succ, List.getElem_cons_zero, List.setIfInBounds_toArray, List.set_cons_zero, List.set_cons_succ]
      refine wpAnyH_done (by kernel_rfl) ?_ _
      go_wp2_with fail
      exact bodyPost_ret (results_tmp rfl _ _ _) rfl ⟨by show Ending.returned (Value.string ((⟨[_].toArray⟩ : ByteArray) ++ ⟨[_].toArray⟩)) = _; rw [ba_add]; rfl, KC.out⟩
    · have h2' : ¬ (10 : Int) ≤ (n : Int) := by omega
      have hC : n < 10 := by omega
      rw [dec1 n hC]
      have s3 : IntKind.u32.wrap ((n : Int) + 1) = ((n + 1 : Nat) : Int) := wrapn (n := n + 1) (by omega)
      have e3 := d_cut n hC
      have f3 : (0 : Int) ≤ (n : Int) + 1 ∧ (n : Int) + 1 ≤ 10 := by omega
      have g3 : (n : Int) ≤ (n : Int) + 1 := by omega
      go_enter Tryd.func44, Tryd.ntmps44
      go_wp2_with fail
      exact bodyPost_ret (results_tmp rfl _ _ _) rfl ⟨rfl, Kp.refl _ _⟩
set_option maxRecDepth 1000000 in
set_option maxHeartbeats 8000000 in
theorem rtext_ (ip : Nat) (w : World) (hip : ip < 4294967296) : Calls Tryd.prog 30 #[.int .u32 (ip : Int)] w fun ev w' => ev = .returned (strV (textL ip)) ∧ Kp (fun _ => False) w w' := by
  have q (d : Nat) : Int.tdiv (ip : Int) (d : Int) = ((ip / d : Nat) : Int) := by rw [Int.tdiv_eq_ediv_of_nonneg (by omega)]; rfl
  have r (m : Nat) : Int.tmod (m : Int) (256 : Int) = ((m % 256 : Nat) : Int) := by rw [Int.tmod_eq_emod_of_nonneg (by omega)]; rfl
  have a1 : Int.tdiv (ip : Int) 16777216 = ((ip / 16777216 : Nat) : Int) := q 16777216
  have a2 : Int.tdiv (ip : Int) 65536 = ((ip / 65536 : Nat) : Int) := q 65536
  have a3 : Int.tdiv (ip : Int) 256 = ((ip / 256 : Nat) : Int) := q 256
  have a1' : (ip : Int) / 16777216 = ((ip / 16777216 : Nat) : Int) := rfl
  have a2' : (ip : Int) / 65536 = ((ip / 65536 : Nat) : Int) := rfl
  have a3' : (ip : Int) / 256 = ((ip / 256 : Nat) : Int) := rfl
  have b2 := r (ip / 65536)
  have b3 := r (ip / 256)
  have b4 := r ip
  have b2' : ((ip / 65536 : Nat) : Int) % 256 = ((ip / 65536 % 256 : Nat) : Int) := rfl
  have b3' : ((ip / 256 : Nat) : Int) % 256 = ((ip / 256 % 256 : Nat) : Int) := rfl
  have b4' : (ip : Int) % 256 = ((ip % 256 : Nat) : Int) := rfl
  have w1 := wrapn (n := ip / 16777216) (by omega)
  have w2 := wrapn (n := ip / 65536) (by omega)
  have w3 := wrapn (n := ip / 256) (by omega)
  have w4 := wrapn (n := ip / 65536 % 256) (by omega)
  have w5 := wrapn (n := ip / 256 % 256) (by omega)
  have w6 := wrapn (n := ip % 256) (by omega)
  have hA : ip / 16777216 < 256 := by omega
  have hB : ip / 65536 % 256 < 256 := by omega
  have hC : ip / 256 % 256 < 256 := by omega
  have hD : ip % 256 < 256 := by omega
  have HDA := Lib.hid (show ∀ (W : World), Calls Tryd.prog 44 #[.int .u32 ((ip / 16777216 : Nat) : Int)] W fun ev w' => ev = .returned (.string ⟨(Lib.decDigits (ip / 16777216)).toArray⟩) ∧ Kp (fun _ => False) W w' from fun W => decimal_ _ W hA)
  have HDB := Lib.hid (show ∀ (W : World), Calls Tryd.prog 44 #[.int .u32 ((ip / 65536 % 256 : Nat) : Int)] W fun ev w' => ev = .returned (.string ⟨(Lib.decDigits (ip / 65536 % 256)).toArray⟩) ∧ Kp (fun _ => False) W w' from fun W => decimal_ _ W hB)
  have HDC := Lib.hid (show ∀ (W : World), Calls Tryd.prog 44 #[.int .u32 ((ip / 256 % 256 : Nat) : Int)] W fun ev w' => ev = .returned (.string ⟨(Lib.decDigits (ip / 256 % 256)).toArray⟩) ∧ Kp (fun _ => False) W w' from fun W => decimal_ _ W hC)
  have HDD := Lib.hid (show ∀ (W : World), Calls Tryd.prog 44 #[.int .u32 ((ip % 256 : Nat) : Int)] W fun ev w' => ev = .returned (.string ⟨(Lib.decDigits (ip % 256)).toArray⟩) ∧ Kp (fun _ => False) W w' from fun W => decimal_ _ W hD)
  have HT := Lib.hid (show textL ip = Lib.decDigits (ip / 16777216) ++ [46] ++ Lib.decDigits (ip / 65536 % 256) ++ [46] ++ Lib.decDigits (ip / 256 % 256) ++ [46] ++ Lib.decDigits (ip % 256) by
    unfold textL ds Lib.join
    rw [Nat.mod_eq_of_lt hA]
    simp [List.intercalate, List.intersperse])
  have lA := dec_len _ hA
  have lB := dec_len _ hB
  have lC := dec_len _ hC
  have lD := dec_len _ hD
  clear q r
  generalize ip / 65536 % 256 = B at *
  generalize ip / 256 % 256 = C at *
  generalize ip % 256 = D at *
  generalize ip / 16777216 = A at *
  generalize ip / 65536 = X at *
  generalize ip / 256 = Y at *
  generalize Lib.decDigits A = DA at *
  generalize Lib.decDigits B = DB at *
  generalize Lib.decDigits C = DC at *
  generalize Lib.decDigits D = DD at *
  have p0 : ∀ W, (Op.stringOp .add ⟨(DA).toArray⟩ ⟨#[46]⟩).run Tryd.prog W = .ok (.string ⟨(DA ++ [46]).toArray⟩) W := fun W => by
    have h := run_string_add_sum (P := Tryd.prog) (w := W) ⟨(DA).toArray⟩ ⟨#[46]⟩ (by
      show (DA).toArray.size + (#[46]).size ≤ _
      simp only [List.size_toArray, List.length_append, List.length_cons, List.length_nil]
      omega)
    rw [h]
    congr 1
  have p1 : ∀ W, (Op.stringOp .add ⟨(DA ++ [46]).toArray⟩ ⟨DB.toArray⟩).run Tryd.prog W = .ok (.string ⟨(DA ++ [46] ++ DB).toArray⟩) W := fun W => by
    have h := run_string_add_sum (P := Tryd.prog) (w := W) ⟨(DA ++ [46]).toArray⟩ ⟨DB.toArray⟩ (by
      show (DA ++ [46]).toArray.size + (DB.toArray).size ≤ _
      simp only [List.size_toArray, List.length_append, List.length_cons, List.length_nil]
      omega)
    rw [h]
    congr 1
  have p2 : ∀ W, (Op.stringOp .add ⟨(DA ++ [46] ++ DB).toArray⟩ ⟨#[46]⟩).run Tryd.prog W = .ok (.string ⟨(DA ++ [46] ++ DB ++ [46]).toArray⟩) W := fun W => by
    have h := run_string_add_sum (P := Tryd.prog) (w := W) ⟨(DA ++ [46] ++ DB).toArray⟩ ⟨#[46]⟩ (by
      show (DA ++ [46] ++ DB).toArray.size + (#[46]).size ≤ _
      simp only [List.size_toArray, List.length_append, List.length_cons, List.length_nil]
      omega)
    rw [h]
    congr 1
  have p3 : ∀ W, (Op.stringOp .add ⟨(DA ++ [46] ++ DB ++ [46]).toArray⟩ ⟨DC.toArray⟩).run Tryd.prog W = .ok (.string ⟨(DA ++ [46] ++ DB ++ [46] ++ DC).toArray⟩) W := fun W => by
    have h := run_string_add_sum (P := Tryd.prog) (w := W) ⟨(DA ++ [46] ++ DB ++ [46]).toArray⟩ ⟨DC.toArray⟩ (by
      show (DA ++ [46] ++ DB ++ [46]).toArray.size + (DC.toArray).size ≤ _
      simp only [List.size_toArray, List.length_append, List.length_cons, List.length_nil]
      omega)
    rw [h]
    congr 1
  have p4 : ∀ W, (Op.stringOp .add ⟨(DA ++ [46] ++ DB ++ [46] ++ DC).toArray⟩ ⟨#[46]⟩).run Tryd.prog W = .ok (.string ⟨(DA ++ [46] ++ DB ++ [46] ++ DC ++ [46]).toArray⟩) W := fun W => by
    have h := run_string_add_sum (P := Tryd.prog) (w := W) ⟨(DA ++ [46] ++ DB ++ [46] ++ DC).toArray⟩ ⟨#[46]⟩ (by
      show (DA ++ [46] ++ DB ++ [46] ++ DC).toArray.size + (#[46]).size ≤ _
      simp only [List.size_toArray, List.length_append, List.length_cons, List.length_nil]
      omega)
    rw [h]
    congr 1
  have p5 : ∀ W, (Op.stringOp .add ⟨(DA ++ [46] ++ DB ++ [46] ++ DC ++ [46]).toArray⟩ ⟨DD.toArray⟩).run Tryd.prog W = .ok (.string ⟨(DA ++ [46] ++ DB ++ [46] ++ DC ++ [46] ++ DD).toArray⟩) W := fun W => by
    have h := run_string_add_sum (P := Tryd.prog) (w := W) ⟨(DA ++ [46] ++ DB ++ [46] ++ DC ++ [46]).toArray⟩ ⟨DD.toArray⟩ (by
      show (DA ++ [46] ++ DB ++ [46] ++ DC ++ [46]).toArray.size + (DD.toArray).size ≤ _
      simp only [List.size_toArray, List.length_append, List.length_cons, List.length_nil]
      omega)
    rw [h]
    congr 1

  go_enter Tryd.func30, Tryd.ntmps30
  go_wp2_with fail
  refine (HDA.out _).mono ?_
  rintro ev vA ⟨rfl, kA⟩
  go_wp2_with fail
  refine (HDB.out _).mono ?_
  rintro ev vB ⟨rfl, kB⟩
  go_wp2_with fail
  refine (HDC.out _).mono ?_
  rintro ev vC ⟨rfl, kC⟩
  go_wp2_with fail
  refine (HDD.out _).mono ?_
  rintro ev vD ⟨rfl, kD⟩
  go_wp2_with fail
  exact bodyPost_ret (results_tmp rfl _ _ _) rfl ⟨by
    rw [HT.out]
    refine congrArg Ending.returned (congrArg Value.string ?_)
    apply ByteArray.ext
    simp, ((kA.trans' kB).trans' kC).trans' kD⟩
end Go.Proofs.YtkafdpidhelfdaaDoor
