/- Place: the reference's digit. -/
import Derived.Test.YtkafdpidhelfdaaDoorPmt
set_option linter.unusedVariables false
set_option linter.unusedSimpArgs false
namespace Go.Proofs.YtkafdpidhelfdaaDoor
open Go.RowKit

/-- A hex digit's value; 0 of what is none. -/
def digv (c : Nat) : Nat := if 48 ≤ c ∧ c ≤ 57 then c - 48 else if 97 ≤ c ∧ c ≤ 102 then c - 87 else 0
set_option maxRecDepth 1000000 in
set_option maxHeartbeats 8000000 in
theorem digit_ (c : Nat) (w : World) (hc : c < 256) : Calls Tryd.prog 41 #[.int .u8 (c : Int)] w fun ev w' => ev = .returned (.int .u8 ((digv c : Nat) : Int)) ∧ w' = w := by
  have y1 : 48 ≤ c → IntKind.u8.wrap ((c : Int) - 48) = ((c - 48 : Nat) : Int) := fun h => by
    show ((c : Int) - 48) % 256 = _
    omega
  have y2 : 97 ≤ c → IntKind.u8.wrap ((c : Int) - 97) = ((c - 97 : Nat) : Int) := fun h => by
    show ((c : Int) - 97) % 256 = _
    omega
  have y3 : 97 ≤ c → c ≤ 102 → IntKind.u8.wrap (((c - 97 : Nat) : Int) + 10) = ((c - 87 : Nat) : Int) := fun h h' => by
    show (((c - 97 : Nat) : Int) + 10) % 256 = _
    omega
  rcases (show c < 48 ∨ (48 ≤ c ∧ c ≤ 57) ∨ (57 < c ∧ c < 97) ∨ (97 ≤ c ∧ c ≤ 102) ∨ 102 < c by omega) with h | h | h | h | h
  · have HV := Lib.hid (show digv c = 0 by unfold digv; (repeat' split) <;> omega)
    have f0 : ¬ (48 : Int) ≤ (c : Int) := by omega
    have f1 : ¬ (97 : Int) ≤ (c : Int) := by omega
    clear y1 y2 y3
    go_enter Tryd.func41, Tryd.ntmps41
    go_wp2_with fail
    exact bodyPost_ret (results_tmp rfl _ _ _) rfl ⟨by rw [HV.out]; rfl, rfl⟩
  · have HV := Lib.hid (show digv c = c - 48 by unfold digv; (repeat' split) <;> omega)
    have f0 : (48 : Int) ≤ (c : Int) := by omega
    have f1 : (c : Int) ≤ 57 := by omega
    have y := y1 h.1
    clear y1 y2 y3
    go_enter Tryd.func41, Tryd.ntmps41
    go_wp2_with fail
    exact bodyPost_ret (results_tmp rfl _ _ _) rfl ⟨by rw [HV.out]; rfl, rfl⟩
  · have HV := Lib.hid (show digv c = 0 by unfold digv; (repeat' split) <;> omega)
    have f0 : (48 : Int) ≤ (c : Int) := by omega
    have f1 : ¬ (c : Int) ≤ 57 := by omega
    have f2 : ¬ (97 : Int) ≤ (c : Int) := by omega
    clear y1 y2 y3
    go_enter Tryd.func41, Tryd.ntmps41
    go_wp2_with fail
    exact bodyPost_ret (results_tmp rfl _ _ _) rfl ⟨by rw [HV.out]; rfl, rfl⟩
  · have HV := Lib.hid (show digv c = c - 87 by unfold digv; (repeat' split) <;> omega)
    have f0 : (48 : Int) ≤ (c : Int) := by omega
    have f1 : ¬ (c : Int) ≤ 57 := by omega
    have f2 : (97 : Int) ≤ (c : Int) := by omega
    have f3 : (c : Int) ≤ 102 := by omega
    have y := y2 h.1
    have yy := y3 h.1 h.2
    clear y1 y2 y3
    go_enter Tryd.func41, Tryd.ntmps41
    go_wp2_with fail
    exact bodyPost_ret (results_tmp rfl _ _ _) rfl ⟨by rw [HV.out]; rfl, rfl⟩
  · have HV := Lib.hid (show digv c = 0 by unfold digv; (repeat' split) <;> omega)
    have f0 : (48 : Int) ≤ (c : Int) := by omega
    have f1 : ¬ (c : Int) ≤ 57 := by omega
    have f2 : (97 : Int) ≤ (c : Int) := by omega
    have f3 : ¬ (c : Int) ≤ 102 := by omega
    clear y1 y2 y3
    go_enter Tryd.func41, Tryd.ntmps41
    go_wp2_with fail
    exact bodyPost_ret (results_tmp rfl _ _ _) rfl ⟨by rw [HV.out]; rfl, rfl⟩
end Go.Proofs.YtkafdpidhelfdaaDoor
