/- Place: the public strconv.ParseUint at base 16. -/
import Derived.Test.YtkafdpidhelfdaaDoorPme
set_option linter.unusedVariables false
set_option linter.unusedSimpArgs false
namespace Go.Proofs.YtkafdpidhelfdaaDoor
open Go.RowKit

/-- A part's number at base 16. -/
def hexv (l : List UInt8) : Option Nat := if l = [] then none else hexu 0 l
theorem hexv_le {l : List UInt8} {n : Nat} (h : hexv l = some n) : n ≤ 255 := by
  unfold hexv at h
  split at h
  · cases h
  · exact hexu_le l 0 n (by omega) h
theorem hexv_two : ∀ u < 256, hexv (two u) = some u := by decide +kernel
set_option maxRecDepth 1000000 in
set_option maxHeartbeats 8000000 in
theorem pux_ok (t : ByteArray) (ht : t.size ≤ 2000) (w : World) (n : Nat) (h : hexv t.data.toList = some n) : Calls Tryd.prog 39 #[.string t, .int .i64 16, .int .i64 8] w fun ev w' => ev = .returned (.tuple #[.int .u64 (n : Int), .nilIface]) ∧ Kp (fun _ => False) w w' := by
  unfold hexv at h
  by_cases he : t.data.toList = []
  · rw [if_pos he] at h; cases h
  · rw [if_neg he] at h
    have hI := pux_in t ht (fun hz => he (by
      have : t.data.size = 0 := hz
      exact List.eq_nil_of_length_eq_zero (by simpa using this))) w
    rw [h] at hI
    have hI : Calls Tryd.prog 47 #[.string t, .int .i64 16, .int .i64 8] w fun e w' => e = .returned (.tuple #[.int .u64 (n : Int), .nilIface]) ∧ Kp (fun _ => False) w w' := hI
    go_enter Tryd.func39, Tryd.ntmps39
    go_wp2_with fail
    refine hI.mono ?_
    rintro ev w1 ⟨rfl, k1⟩
    go_wp2_with fail
    exact bodyPost_ret (results_tmp2 rfl _ _ _) rfl ⟨rfl, k1⟩
set_option maxRecDepth 1000000 in
set_option maxHeartbeats 8000000 in
theorem pux_err (t : ByteArray) (ht : t.size ≤ 2000) (w : World) (hl : Laid w) (h : hexv t.data.toList = none) : Calls Tryd.prog 39 #[.string t, .int .i64 16, .int .i64 8] w fun ev w' => ∃ (n : Int) (N : Nat), ev = .returned (.tuple #[.int .u64 n, .iface 84 (.pointer (some ⟨N, 0, none⟩))]) ∧ Kp (fun _ => False) w w' := by
  have HL := Lib.hid hl
  clear hl
  unfold hexv at h
  by_cases he : t.data.toList = []
  · obtain rfl : t = ⟨#[]⟩ := ByteArray.ext (by simpa using he)
    have hI := Tryd.internal_strconv_ParseUint_empty 16 8 w
    clear h he
    go_enter Tryd.func39, Tryd.ntmps39
    go_wp2_with fail
    refine hI.mono ?_
    rintro ev w1 ⟨rfl, hw1⟩
    have K1 := Lib.hid (show Kp (fun _ => False) w w1 by rw [hw1]; exact Kp.refl (fun _ => False) w)
    clear hw1 hI
    have HL1 := Lib.hid (HL.out.keep K1.out)
    obtain ⟨ev0, hv0, hv1⟩ := HL1.out.syn
    have HE := Lib.hid (Tryd.strconv_toError_syntax ⟨#[80, 97, 114, 115, 101, 85, 105, 110, 116]⟩ ⟨#[]⟩ 16 8 ev0 w1 (Nat.le_trans ht (by omega)) hv0 hv1)
    clear hv0 hv1 ht
    go_wp2_with fail
    refine HE.out.mono ?_
    rintro ev w2 ⟨N, rfl, _, _, k2⟩
    have K2 := Lib.hid (K1.out.trans' (Kp.of_below k2 (fun _ => False)))
    clear k2 HE
    go_wp2_with fail
    exact bodyPost_ret (results_tmp2 rfl _ _ _) rfl ⟨_, N, rfl, K2.out⟩
  · rw [if_neg he] at h
    have hI := pux_in t ht (fun hz => he (by
      have : t.data.size = 0 := hz
      exact List.eq_nil_of_length_eq_zero (by simpa using this))) w
    rw [h] at hI
    have hI : Calls Tryd.prog 47 #[.string t, .int .i64 16, .int .i64 8] w fun e w' => (∃ (v k : Int), e = .returned (.tuple #[.int .u64 v, .iface 83 (.int .i64 k)]) ∧ (k = 1 ∨ k = 2)) ∧ Kp (fun _ => False) w w' := hI
    clear h he
    go_enter Tryd.func39, Tryd.ntmps39
    go_wp2_with fail
    refine hI.mono ?_
    rintro ev w1 ⟨⟨v, k, rfl, rfl | rfl⟩, k1⟩
    · have K1 := Lib.hid k1
      clear k1 hI
      have HL1 := Lib.hid (HL.out.keep K1.out)
      obtain ⟨ev0, hv0, hv1⟩ := HL1.out.rng
      have HE := Lib.hid (Tryd.strconv_toError_range ⟨#[80, 97, 114, 115, 101, 85, 105, 110, 116]⟩ t 16 8 ev0 w1 (Nat.le_trans ht (by omega)) hv0 hv1)
      clear hv0 hv1 ht
      go_wp2_with fail
      refine HE.out.mono ?_
      rintro ev w2 ⟨N, rfl, _, _, k2⟩
      have K2 := Lib.hid (K1.out.trans' (Kp.of_below k2 (fun _ => False)))
      clear k2 HE
      go_wp2_with fail
      exact bodyPost_ret (results_tmp2 rfl _ _ _) rfl ⟨_, N, rfl, K2.out⟩
    · have K1 := Lib.hid k1
      clear k1 hI
      have HL1 := Lib.hid (HL.out.keep K1.out)
      obtain ⟨ev0, hv0, hv1⟩ := HL1.out.syn
      have HE := Lib.hid (Tryd.strconv_toError_syntax ⟨#[80, 97, 114, 115, 101, 85, 105, 110, 116]⟩ t 16 8 ev0 w1 (Nat.le_trans ht (by omega)) hv0 hv1)
      clear hv0 hv1 ht
      go_wp2_with fail
      refine HE.out.mono ?_
      rintro ev w2 ⟨N, rfl, _, _, k2⟩
      have K2 := Lib.hid (K1.out.trans' (Kp.of_below k2 (fun _ => False)))
      clear k2 HE
      go_wp2_with fail
      exact bodyPost_ret (results_tmp2 rfl _ _ _) rfl ⟨_, N, rfl, K2.out⟩
end Go.Proofs.YtkafdpidhelfdaaDoor
