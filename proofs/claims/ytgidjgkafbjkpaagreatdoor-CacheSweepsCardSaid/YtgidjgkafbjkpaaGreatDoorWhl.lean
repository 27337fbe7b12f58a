/- Wheel: comparing timers. -/
import Derived.Test.YtgidjgkafbjkpaaGreatDoorWhk
import Derived.Shelf.SlSortCmp.NoneTotal
import Derived.Shelf.SlIterI.Collect
set_option linter.unusedVariables false
set_option linter.unusedSimpArgs false
namespace Go.Proofs.YtgidjgkafbjkpaaGreatDoor
open Go.RowKit

open Go.Shelf Go.Sort
set_option maxRecDepth 1000000 in
set_option maxHeartbeats 8000000 in
theorem cmp_u (a b : Int) (w : World) : Calls Tryz.prog 72 #[.int .u64 a, .int .u64 b] w fun ev w' => ev = .returned (.int .i64 (Lib.compareInt a b)) ∧ w' = w := by
  unfold Lib.compareInt
  by_cases h1 : a < b
  · have h2 : ¬ b < a := by omega
    simp only [h1, if_true]
    go_enter Tryz.func72, Tryz.ntmps72
    go_wp2
    go_ret
    exact ⟨rfl, rfl⟩
  · by_cases h2 : b < a
    · simp only [h1, h2, if_true, if_false]
      go_enter Tryz.func72, Tryz.ntmps72
      go_wp2
      go_ret
      exact ⟨rfl, rfl⟩
    · simp only [h1, h2, if_false]
      go_enter Tryz.func72, Tryz.ntmps72
      go_wp2
      go_ret
      exact ⟨rfl, rfl⟩
set_option maxRecDepth 1000000 in
set_option maxHeartbeats 8000000 in
theorem cmp_i (a b : Int) (w : World) : Calls Tryz.prog 33 #[.int .i64 a, .int .i64 b] w fun ev w' => ev = .returned (.int .i64 (Lib.compareInt a b)) ∧ w' = w := by
  unfold Lib.compareInt
  by_cases h1 : a < b
  · have h2 : ¬ b < a := by omega
    simp only [h1, if_true]
    go_enter Tryz.func33, Tryz.ntmps33
    go_wp2
    go_ret
    exact ⟨rfl, rfl⟩
  · by_cases h2 : b < a
    · simp only [h1, h2, if_true, if_false]
      go_enter Tryz.func33, Tryz.ntmps33
      go_wp2
      go_ret
      exact ⟨rfl, rfl⟩
    · simp only [h1, h2, if_false]
      go_enter Tryz.func33, Tryz.ntmps33
      go_wp2
      go_ret
      exact ⟨rfl, rfl⟩
set_option maxRecDepth 1000000 in
set_option maxHeartbeats 8000000 in
/-- cmp.Or of two. -/
theorem or_two (a b : Int) (blk : Nat) (w : World) (h0 : w.cell? ⟨blk, 0, none⟩ = some (.int .i64 a)) (h1 : w.cell? ⟨blk, 1, none⟩ = some (.int .i64 b)) :
    Calls Tryz.prog 71 #[.slice (some ⟨blk, 0, none⟩) 2 2] w fun ev w' => ev = .returned (.int .i64 (if a = 0 then b else a)) ∧ w' = w := by
  by_cases ha : a = 0
  · subst ha
    by_cases hb : b = 0
    · subst hb
      go_enter Tryz.func71, Tryz.ntmps71
      go_wp2
      refine wp_loop_rounds 3 ?_
      rw [rounds_succ]
      go_wp2
      rw [rounds_succ]
      go_wp2
      rw [rounds_succ]
      go_wp2
      go_ret
      exact ⟨rfl, rfl⟩
    · have hb' : (b == 0) = false := by simpa using hb
      go_enter Tryz.func71, Tryz.ntmps71
      go_wp2
      refine wp_loop_rounds 2 ?_
      rw [rounds_succ]
      go_wp2
      rw [rounds_succ]
      go_wp2
      go_ret
      exact ⟨rfl, rfl⟩
  · have ha' : (a == 0) = false := by simpa using ha
    simp only [ha, if_false]
    go_enter Tryz.func71, Tryz.ntmps71
    go_wp2
    refine wp_loop_rounds 1 ?_
    rw [rounds_succ]
    go_wp2
    go_ret
    exact ⟨rfl, rfl⟩
end Go.Proofs.YtgidjgkafbjkpaaGreatDoor
