/- Place: strconv.FormatUint at base 16, a byte. -/
import Derived.Test.YtkafdpidhelfdaaDoorPsm
import Derived.LoopTactic
set_option linter.unusedVariables false
set_option linter.unusedSimpArgs false
namespace Go.Proofs.YtkafdpidhelfdaaDoor
open Go.RowKit

set_option maxRecDepth 1000000 in
set_option maxHeartbeats 8000000 in
theorem tz64_16 (w : World) (hT : w.cell? ⟨7, 15, none⟩ = some (.int .u8 4)) : Calls Tryd.prog 91 #[.int .u64 16] w fun ev w' => ev = .returned (.int .i64 4) ∧ w' = w := by
  have e1 : bits BinOp.and IntKind.u64 16 18446744073709551600 = 16 := by decide +kernel
  have e0 : IntKind.u64.wrap (-16) = 18446744073709551600 := by decide +kernel
  have e2 : IntKind.u64.wrap 4573923408821661840 = 4573923408821661840 := by decide +kernel
  go_enter Tryd.func91, Tryd.ntmps91
  go_wp2_with fail
  exact bodyPost_ret (results_tmp rfl _ _ _) rfl ⟨rfl, rfl⟩
set_option maxRecDepth 1000000 in
set_option maxHeartbeats 8000000 in
theorem tz_16 (w : World) (hT : w.cell? ⟨7, 15, none⟩ = some (.int .u8 4)) : Calls Tryd.prog 85 #[.int .u64 16] w fun ev w' => ev = .returned (.int .i64 4) ∧ w' = w := by
  have H := Lib.hid (tz64_16 w hT)
  go_enter Tryd.func85, Tryd.ntmps85
  go_wp2_with fail
  refine H.out.mono ?_
  rintro ev w1 ⟨rfl, hw⟩
  go_wp2_with fail
  exact bodyPost_ret (results_tmp rfl _ _ _) rfl ⟨rfl, rfl⟩
set_option maxRecDepth 1000000 in
set_option maxHeartbeats 8000000 in
theorem pow2_16 (w : World) : Calls Tryd.prog 84 #[.int .i64 16] w fun ev w' => ev = .returned (.bool true) ∧ w' = w := by
  have e1 : bits BinOp.and IntKind.i64 16 15 = 0 := by decide +kernel
  have e2 : IntKind.i64.wrap (16 - 1) = 15 := by decide +kernel
  go_enter Tryd.func84, Tryd.ntmps84
  go_wp2_with fail
  exact bodyPost_ret (results_tmp rfl _ _ _) rfl ⟨rfl, rfl⟩
end Go.Proofs.YtkafdpidhelfdaaDoor
