/- Place: the walk of the reference's Parse. -/
import Derived.Test.YtkafdpidhelfdaaDoorPnu
import Derived.LoopTactic
import Derived.Laws.Strings3
set_option linter.unusedVariables false
set_option linter.unusedSimpArgs false
namespace Go.Proofs.YtkafdpidhelfdaaDoor
open Go.RowKit

/-- One byte more, as the reference reads it. -/
def rstep (o : Option (Nat × Nat)) (c : UInt8) : Option (Nat × Nat) := match o with
  | none => none
  | some (n, p) => if c = 46 then some ((n * 256 + p) % 4294967296, 0) else if c.toNat < 48 ∨ 57 < c.toNat then none else some (n, (p * 10 + (c.toNat - 48)) % 4294967296)
def rfold (l : List UInt8) : Option (Nat × Nat) := l.foldl rstep (some (0, 0))
theorem rfold_snoc (l : List UInt8) (c : UInt8) : rfold (l ++ [c]) = rstep (rfold l) c := by unfold rfold; rw [List.foldl_append]; rfl
theorem rfold_none {l : List UInt8} {k : Nat} (h : rfold (l.take k) = none) : rfold l = none := by
  have e : l = l.take k ++ l.drop k := (List.take_append_drop k l).symm
  rw [e]
  unfold rfold at h ⊢
  rw [List.foldl_append, h]
  generalize l.drop k = t
  induction t with
  | nil => rfl
  | cons x t ih => exact ih
/-- What the reference's Parse answers. -/
def rparseV (s : ByteArray) : Value := match rfold (s.data.toList.take 15) with
  | none => .tuple #[.int .u32 0, .int .i64 10]
  | some (n, p) => if textL ((n * 256 + p) % 4294967296) = s.data.toList then .tuple #[.int .u32 (((n * 256 + p) % 4294967296 : Nat) : Int), .int .i64 0] else .tuple #[.int .u32 0, .int .i64 10]
set_option maxRecDepth 1000000 in
set_option maxHeartbeats 8000000 in
theorem rparse_ (s : ByteArray) (w : World) (hs : s.size ≤ 1000) : Calls Tryd.prog 26 #[.string s] w fun ev w' => ev = .returned (rparseV s) ∧ Kp (fun _ => False) w w' := by
  have HS := Lib.hid hs
  go_enter Tryd.func26, Tryd.ntmps26
  go_wp2_with fail
  go_loopw [4, 5, 6] (fun nv pv iv wr => ∃ i n p : Nat, i ≤ s.size ∧ i ≤ 15 ∧ n < 4294967296 ∧ p < 4294967296 ∧ rfold (s.data.toList.take i) = some (n, p) ∧ nv = .int .u32 (n : Int) ∧ pv = .int .u32 (p : Int) ∧ iv = .int .i64 (i : Int) ∧ wr = w) (fun _ _ iv _ => (32 - intOf iv).toNat)
  case atStart => exact ⟨0, 0, 0, Nat.zero_le _, Nat.zero_le _, by omega, by omega, rfl, rfl, rfl, rfl, rfl⟩
  case round =>
    obtain ⟨i, n, p, hi, hi15, hn, hp, hf, rfl, rfl, rfl, rfl⟩ := hrel
    by_cases h1 : i < s.size
    · have h1' : (i : Int) < (s.size : Int) := by omega
      by_cases h2 : i < 15
      · have h2' : (i : Int) < 15 := by omega
        have ht : s.data.toList.take (i + 1) = s.data.toList.take i ++ [s[i]] := by
          have hl : i < s.data.toList.length := by simpa using h1
          rw [List.take_succ_eq_append_getElem hl]
          rfl
        have hst : rfold (s.data.toList.take (i + 1)) = rstep (some (n, p)) s[i] := by rw [ht, rfold_snoc, hf]
        have hb := s[i].toNat_lt
        have x2 : IntKind.i64.wrap ((i : Int) + 1) = ((i + 1 : Nat) : Int) := IntWalk.i64_in _ (by omega)
        by_cases h46 : s[i] = 46
        · have y : s[i].toNat = 46 := by rw [h46]; rfl
          have e46 : ((s[i].toNat : Int) == 46) = true := by rw [y]; rfl
          have HR := Lib.hid (show rfold (s.data.toList.take (i + 1)) = some ((n * 256 + p) % 4294967296, 0) by rw [hst]; exact if_pos h46)
          clear hst ht
          go_wp2_with fail
          go_roundw
          case rel => exact ⟨i + 1, _, 0, h1, h2, Nat.mod_lt _ (by omega), by omega, HR.out, by congr 1; omega, rfl, rfl, trivial⟩
          case measure => simp [intOf]; omega
        · have y : s[i].toNat ≠ 46 := fun h => h46 (UInt8.toNat_inj.1 h)
          have e46 : ((s[i].toNat : Int) == 46) = false := by rw [beq_eq_false_iff_ne]; omega
          by_cases hd : s[i].toNat < 48 ∨ 57 < s[i].toNat
          · have hbad : rfold (s.data.toList.take (i + 1)) = none := by rw [hst]; exact (if_neg h46).trans (if_pos hd)
            have hv : rparseV s = .tuple #[.int .u32 0, .int .i64 10] := by
              unfold rparseV
              rw [rfold_none (l := s.data.toList.take 15) (k := i + 1) (by rw [List.take_take, Nat.min_eq_left h2]; exact hbad)]
            have HV := Lib.hid hv
            clear hst ht hbad hv
            rcases Nat.lt_or_ge s[i].toNat 48 with h48 | h48
            · have f1 : (s[i].toNat : Int) < 48 := by omega
              go_wp2_with fail
              exact bodyPost_ret (results_tmp2 rfl _ _ _) rfl ⟨by rw [HV.out]; rfl, Kp.refl _ _⟩
            · have f1 : ¬ (s[i].toNat : Int) < 48 := by omega
              have f2 : (57 : Int) < (s[i].toNat : Int) := by omega
              go_wp2_with fail
              exact bodyPost_ret (results_tmp2 rfl _ _ _) rfl ⟨by rw [HV.out]; rfl, Kp.refl _ _⟩
          · have HR := Lib.hid (show rfold (s.data.toList.take (i + 1)) = some (n, (p * 10 + (s[i].toNat - 48)) % 4294967296) by rw [hst]; exact (if_neg h46).trans (if_neg hd))
            have f1 : ¬ (s[i].toNat : Int) < 48 := by omega
            have f2 : ¬ (57 : Int) < (s[i].toNat : Int) := by omega
            clear hst ht
            go_wp2_with fail
            go_roundw
            case rel => exact ⟨i + 1, n, _, h1, h2, hn, Nat.mod_lt _ (by omega), HR.out, rfl, by congr 1; omega, rfl, trivial⟩
            case measure => simp [intOf]; omega
      · have h2' : ¬ (i : Int) < 15 := by omega
        obtain rfl : i = 15 := by omega
        have hv : rparseV s = if textL ((n * 256 + p) % 4294967296) = s.data.toList then .tuple #[.int .u32 (((n * 256 + p) % 4294967296 : Nat) : Int), .int .i64 0] else .tuple #[.int .u32 0, .int .i64 10] := by unfold rparseV; rw [hf]
        have hm : (((n : Int) * 256 % 4294967296 + (p : Int)) % 4294967296) = (((n * 256 + p) % 4294967296 : Nat) : Int) := by omega
        have hml : (n * 256 + p) % 4294967296 < 4294967296 := Nat.mod_lt _ (by omega)
        generalize (n * 256 + p) % 4294967296 = m at *
        obtain ⟨T, hT⟩ : ∃ T : ByteArray, T = ⟨(textL m).toArray⟩ := ⟨_, rfl⟩
        have HT : Hid (∀ W, Calls Tryd.prog 30 #[.int .u32 (m : Int)] W fun ev w' => ev = .returned (.string T) ∧ Kp (fun _ => False) W w') := Lib.hid (fun W => by rw [hT]; exact rtext_ m W hml)
        by_cases hTs : T = s
        · rw [if_pos (by rw [← hTs, hT])] at hv
          have HV := Lib.hid hv
          rw [hTs] at HT
          clear hTs hT hv
          go_wp2_with fail
          refine (HT.out _).mono ?_
          rintro ev w1 ⟨rfl, k1⟩
          go_wp2_with fail
          exact bodyPost_ret (results_tmp2 rfl _ _ _) rfl ⟨by rw [HV.out]; rfl, k1⟩
        · have hne : (T.toList == s.toList) = false := by
            rw [beq_eq_false_iff_ne, ByteArray.toList_eq, ByteArray.toList_eq]
            exact fun h => hTs (ByteArray.ext (by simpa using h))
          rw [if_neg (fun h => hTs (by rw [hT, h]))] at hv
          have HV := Lib.hid hv
          clear hT hv
          go_wp2_with fail
          refine (HT.out _).mono ?_
          rintro ev w1 ⟨rfl, k1⟩
          go_wp2_with fail
          exact bodyPost_ret (results_tmp2 rfl _ _ _) rfl ⟨by rw [HV.out]; rfl, k1⟩
    · have h1' : ¬ (i : Int) < (s.size : Int) := by omega
      obtain rfl : i = s.size := by omega
      have hf' : rfold (s.data.toList.take 15) = some (n, p) := by
        rw [List.take_of_length_le (by simpa using hi15)]
        rw [List.take_of_length_le (by simp)] at hf
        exact hf
      have hv : rparseV s = if textL ((n * 256 + p) % 4294967296) = s.data.toList then .tuple #[.int .u32 (((n * 256 + p) % 4294967296 : Nat) : Int), .int .i64 0] else .tuple #[.int .u32 0, .int .i64 10] := by unfold rparseV; rw [hf']
      have hm : (((n : Int) * 256 % 4294967296 + (p : Int)) % 4294967296) = (((n * 256 + p) % 4294967296 : Nat) : Int) := by omega
      have hml : (n * 256 + p) % 4294967296 < 4294967296 := Nat.mod_lt _ (by omega)
      generalize (n * 256 + p) % 4294967296 = m at *
      obtain ⟨T, hT⟩ : ∃ T : ByteArray, T = ⟨(textL m).toArray⟩ := ⟨_, rfl⟩
      have HT : Hid (∀ W, Calls Tryd.prog 30 #[.int .u32 (m : Int)] W fun ev w' => ev = .returned (.string T) ∧ Kp (fun _ => False) W w') := Lib.hid (fun W => by rw [hT]; exact rtext_ m W hml)
      by_cases hTs : T = s
      · rw [if_pos (by rw [← hTs, hT])] at hv
        have HV := Lib.hid hv
        rw [hTs] at HT
        clear hTs hT hv
        go_wp2_with fail
        refine (HT.out _).mono ?_
        rintro ev w1 ⟨rfl, k1⟩
        go_wp2_with fail
        exact bodyPost_ret (results_tmp2 rfl _ _ _) rfl ⟨by rw [HV.out]; rfl, k1⟩
      · have hne : (T.toList == s.toList) = false := by
          rw [beq_eq_false_iff_ne, ByteArray.toList_eq, ByteArray.toList_eq]
          exact fun h => hTs (ByteArray.ext (by simpa using h))
        rw [if_neg (fun h => hTs (by rw [hT, h]))] at hv
        have HV := Lib.hid hv
        clear hT hv
        go_wp2_with fail
        refine (HT.out _).mono ?_
        rintro ev w1 ⟨rfl, k1⟩
        go_wp2_with fail
        exact bodyPost_ret (results_tmp2 rfl _ _ _) rfl ⟨by rw [HV.out]; rfl, k1⟩
end Go.Proofs.YtkafdpidhelfdaaDoor
