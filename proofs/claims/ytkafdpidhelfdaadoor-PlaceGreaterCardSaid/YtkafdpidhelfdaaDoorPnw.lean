/- Place: strconv.ParseUint at base 10, 8 bits. -/
import Derived.Test.YtkafdpidhelfdaaDoorLda
import Derived.Lib.ConvBytes
import Derived.Lib.AtoiErrMem
import Derived.LoopTactic
import Derived.WalkKit
set_option linter.unusedVariables false
set_option linter.unusedSimpArgs false
namespace Go.Proofs.YtkafdpidhelfdaaDoor
open Go.RowKit

/-- A part's number, if it is one. -/
def part8 (l : List UInt8) : Option Nat := if l = [] then none else match Lib.parseUintM 255 0 l with | .ok n => some n | _ => none
set_option maxRecDepth 1000000 in
set_option maxHeartbeats 8000000 in
theorem pu_ok (t : ByteArray) (ht : t.size ≤ 2000) (w : World) (n : Nat) (h : part8 t.data.toList = some n) : Calls Tryd.prog 39 #[.string t, .int .i64 10, .int .i64 8] w fun ev w' => ev = .returned (.tuple #[.int .u64 (n : Int), .nilIface]) ∧ Kp (fun _ => False) w w' := by
  unfold part8 at h
  by_cases he : t.data.toList = []
  · rw [if_pos he] at h; cases h
  · rw [if_neg he] at h
    have hne : t.size ≠ 0 := fun hz => he (by
      have : t.data.size = 0 := hz
      exact List.eq_nil_of_length_eq_zero (by simpa using this))
    have hI := Tryd.internal_strconv_ParseUint_10_b8 t hne (by omega) w
    rcases hp : Lib.parseUintM 255 0 t.data.toList with m | _ | _
    · rw [hp] at h hI
      obtain rfl : m = n := by injection h
      have hI : Calls Tryd.prog 47 #[.string t, .int .i64 10, .int .i64 8] w fun e w' => e = .returned (.tuple #[.int .u64 (m : Int), .nilIface]) ∧ w' = Lib.bytesWorld w 5 t := hI
      go_enter Tryd.func39, Tryd.ntmps39
      go_wp2_with fail
      refine hI.mono ?_
      rintro ev w1 ⟨rfl, rfl⟩
      have K1 := Lib.hid (Kp.of_below (Lib.bytesWorld_below w 5 t) (fun _ => False))
      generalize Lib.bytesWorld w 5 t = w1 at *
      go_wp2_with fail
      exact bodyPost_ret (results_tmp2 rfl _ _ _) rfl ⟨rfl, K1.out⟩
    · rw [hp] at h; cases h
    · rw [hp] at h; cases h
set_option maxRecDepth 1000000 in
set_option maxHeartbeats 8000000 in
theorem pu_err (t : ByteArray) (ht : t.size ≤ 2000) (w : World) (hl : Laid w) (h : part8 t.data.toList = none) : Calls Tryd.prog 39 #[.string t, .int .i64 10, .int .i64 8] w fun ev w' => ∃ (n : Int) (N : Nat), ev = .returned (.tuple #[.int .u64 n, .iface 84 (.pointer (some ⟨N, 0, none⟩))]) ∧ Kp (fun _ => False) w w' := by
  have HL := Lib.hid hl
  clear hl
  unfold part8 at h
  by_cases he : t.data.toList = []
  · obtain rfl : t = ⟨#[]⟩ := ByteArray.ext (by simpa using he)
    have hI := Tryd.internal_strconv_ParseUint_empty 10 8 w
    clear h he
    go_enter Tryd.func39, Tryd.ntmps39
    go_wp2_with fail
    refine hI.mono ?_
    rintro ev w1 ⟨rfl, hw1⟩
    have K1 := Lib.hid (show Kp (fun _ => False) w w1 by rw [hw1]; exact Kp.refl (fun _ => False) w)
    clear hw1 hI
    have HL1 := Lib.hid (HL.out.keep K1.out)
    obtain ⟨ev0, hv0, hv1⟩ := HL1.out.syn
    have HE := Lib.hid (Tryd.strconv_toError_syntax ⟨#[80, 97, 114, 115, 101, 85, 105, 110, 116]⟩ ⟨#[]⟩ 10 8 ev0 w1 (Nat.le_trans ht (by omega)) hv0 hv1)
    clear hv0 hv1 ht
    go_wp2_with fail
    refine HE.out.mono ?_
    rintro ev w2 ⟨N, rfl, _, _, k2⟩
    have K2 := Lib.hid (K1.out.trans' (Kp.of_below k2 (fun _ => False)))
    clear k2 HE
    go_wp2_with fail
    exact bodyPost_ret (results_tmp2 rfl _ _ _) rfl ⟨_, N, rfl, K2.out⟩
  · rw [if_neg he] at h
    have hne : t.size ≠ 0 := fun hz => he (by
      have : t.data.size = 0 := hz
      exact List.eq_nil_of_length_eq_zero (by simpa using this))
    have hI := Tryd.internal_strconv_ParseUint_10_b8 t hne (by omega) w
    rcases hp : Lib.parseUintM 255 0 t.data.toList with m | _ | _
    · rw [hp] at h; cases h
    · rw [hp] at hI
      clear h hne he hp
      have hI : Calls Tryd.prog 47 #[.string t, .int .i64 10, .int .i64 8] w fun e w' => e = .returned (.tuple #[.int .u64 0, .iface 83 (.int .i64 2)]) ∧ w' = Lib.bytesWorld w 5 t := hI
      go_enter Tryd.func39, Tryd.ntmps39
      go_wp2_with fail
      refine hI.mono ?_
      rintro ev w1 ⟨rfl, hw1⟩
      have K1 := Lib.hid (show Kp (fun _ => False) w w1 by rw [hw1]; exact Kp.of_below (Lib.bytesWorld_below w 5 t) (fun _ => False))
      clear hw1 hI
      have HL1 := Lib.hid (HL.out.keep K1.out)
      obtain ⟨ev0, hv0, hv1⟩ := HL1.out.syn
      have HE := Lib.hid (Tryd.strconv_toError_syntax ⟨#[80, 97, 114, 115, 101, 85, 105, 110, 116]⟩ t 10 8 ev0 w1 (Nat.le_trans ht (by omega)) hv0 hv1)
      clear hv0 hv1 ht
      go_wp2_with fail
      refine HE.out.mono ?_
      rintro ev w2 ⟨N, rfl, _, _, k2⟩
      have K2 := Lib.hid (K1.out.trans' (Kp.of_below k2 (fun _ => False)))
      clear k2 HE
      go_wp2_with fail
      exact bodyPost_ret (results_tmp2 rfl _ _ _) rfl ⟨_, N, rfl, K2.out⟩
    · rw [hp] at hI
      clear h hne he hp
      have hI : Calls Tryd.prog 47 #[.string t, .int .i64 10, .int .i64 8] w fun e w' => e = .returned (.tuple #[.int .u64 255, .iface 83 (.int .i64 1)]) ∧ w' = Lib.bytesWorld w 5 t := hI
      go_enter Tryd.func39, Tryd.ntmps39
      go_wp2_with fail
      refine hI.mono ?_
      rintro ev w1 ⟨rfl, hw1⟩
      have K1 := Lib.hid (show Kp (fun _ => False) w w1 by rw [hw1]; exact Kp.of_below (Lib.bytesWorld_below w 5 t) (fun _ => False))
      clear hw1 hI
      have HL1 := Lib.hid (HL.out.keep K1.out)
      obtain ⟨ev0, hv0, hv1⟩ := HL1.out.rng
      have HE := Lib.hid (Tryd.strconv_toError_range ⟨#[80, 97, 114, 115, 101, 85, 105, 110, 116]⟩ t 10 8 ev0 w1 (Nat.le_trans ht (by omega)) hv0 hv1)
      clear hv0 hv1 ht
      go_wp2_with fail
      refine HE.out.mono ?_
      rintro ev w2 ⟨N, rfl, _, _, k2⟩
      have K2 := Lib.hid (K1.out.trans' (Kp.of_below k2 (fun _ => False)))
      clear k2 HE
      go_wp2_with fail
      exact bodyPost_ret (results_tmp2 rfl _ _ _) rfl ⟨_, N, rfl, K2.out⟩

end Go.Proofs.YtkafdpidhelfdaaDoor
