/- Place: strconv.FormatUint at base 16, a byte. -/
import Derived.Test.YtkafdpidhelfdaaDoorPhy
set_option linter.unusedVariables false
set_option linter.unusedSimpArgs false
namespace Go.Proofs.YtkafdpidhelfdaaDoor
open Go.RowKit

set_option maxRecDepth 1000000 in
set_option maxHeartbeats 8000000 in
theorem fui_ (u : Nat) (hu : u < 256) (w : World) (hT : w.cell? ⟨7, 15, none⟩ = some (.int .u8 4)) : Calls Tryd.prog 54 #[.int .u64 (u : Int), .int .i64 16] w fun ev w' => ev = .returned (strV (hexT u)) ∧ Kp (fun _ => False) w w' := by
  have H := Lib.hid (hexbits u hu w hT)
  go_enter Tryd.func54, Tryd.ntmps54
  go_wp2_with fail
  refine H.out.mono ?_
  rintro ev w1 ⟨rfl, k1⟩
  go_wp2_with fail
  exact bodyPost_ret (results_tmp rfl _ _ _) rfl ⟨rfl, k1⟩
set_option maxRecDepth 1000000 in
set_option maxHeartbeats 8000000 in
theorem fu_ (u : Nat) (hu : u < 256) (w : World) (hT : w.cell? ⟨7, 15, none⟩ = some (.int .u8 4)) : Calls Tryd.prog 45 #[.int .u64 (u : Int), .int .i64 16] w fun ev w' => ev = .returned (strV (hexT u)) ∧ Kp (fun _ => False) w w' := by
  have H := Lib.hid (fui_ u hu w hT)
  go_enter Tryd.func45, Tryd.ntmps45
  go_wp2_with fail
  refine H.out.mono ?_
  rintro ev w1 ⟨rfl, k1⟩
  go_wp2_with fail
  exact bodyPost_ret (results_tmp rfl _ _ _) rfl ⟨rfl, k1⟩
end Go.Proofs.YtkafdpidhelfdaaDoor
