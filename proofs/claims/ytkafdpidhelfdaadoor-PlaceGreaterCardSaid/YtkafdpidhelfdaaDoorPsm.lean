/- Place: Of, Group, All. -/
import Derived.Test.YtkafdpidhelfdaaDoorPpt
import Derived.Test.YtkafdpidhelfdaaDoorPnd
import Derived.LoopTactic
import Derived.Laws.Rows
set_option linter.unusedVariables false
set_option linter.unusedSimpArgs false
namespace Go.Proofs.YtkafdpidhelfdaaDoor
open Go.RowKit

set_option maxRecDepth 1000000 in
set_option maxHeartbeats 8000000 in
theorem of_ (ip : Nat) (b : Int) (w : World) : Calls Tryd.prog 8 #[netV ip b] w fun ev w' => ev = .returned (netV ip b) ∧ Kp (fun _ => False) w w' := by
  have K0 := Lib.hid ((Kp.refl (fun _ => False) w).alloc (.cells #[.int .u32 (ip : Int), .int .i64 b] 24))
  go_enter Tryd.func8, Tryd.ntmps8
  go_wp2_with fail
  refine bodyPost_ret (results_cell_row rfl _ _ (w.heap.size + 1) 26 #[.int .u32 (ip : Int), .int .i64 b] (0, 0) _ (by simp) (by
    have hb := Bk.new (w.alloc (.cells #[.int .u32 (ip : Int), .int .i64 b] 24)) 26 #[.int .u32 (ip : Int), .int .i64 b]
    simp only [World.size_alloc] at hb
    exact hb) Tryd.underlying26 rfl (by kernel_rfl)) rfl ?_
  exact ⟨rfl, ((Kp.refl _ _).alloc _).alloc _⟩
/-- A Mac, as a value. -/
abbrev macV (a b c d e f : Nat) : Value := .agg #[.int .u8 (a : Int), .int .u8 (b : Int), .int .u8 (c : Int), .int .u8 (d : Int), .int .u8 (e : Int), .int .u8 (f : Int)]
set_option maxRecDepth 1000000 in
set_option maxHeartbeats 8000000 in
theorem group_ (a b c d e f : Nat) (w : World) (ha : a < 256) : Calls Tryd.prog 33 #[macV a b c d e f] w fun ev w' => ev = .returned (.bool (decide (a % 2 = 1))) ∧ Kp (fun _ => False) w w' := by
  have K0 := Lib.hid ((Kp.refl (fun _ => False) w).alloc (.cells #[.int .u8 (a : Int), .int .u8 (b : Int), .int .u8 (c : Int), .int .u8 (d : Int), .int .u8 (e : Int), .int .u8 (f : Int)] 37))
  have ho : (bits BinOp.and IntKind.u8 (a : Int) 1 != 0) = decide (a % 2 = 1) := by
    have e : bits BinOp.and IntKind.u8 (a : Int) 1 = ((a % 2 : Nat) : Int) := by
      rw [show (1 : Int) = ((1 : Nat) : Int) by rfl, u8_and_nat a 1 ha (by omega), Nat.and_one_is_mod]
    rw [e]
    rcases Nat.mod_two_eq_zero_or_one a with h | h <;> rw [h] <;> rfl
  have HO := Lib.hid ho
  clear ho
  go_enter Tryd.func33, Tryd.ntmps33
  go_wp2_with fail
  exact bodyPost_ret (results_tmp rfl _ _ _) rfl ⟨by rw [← HO.out]; rfl, K0.out⟩
set_option maxRecDepth 1000000 in
set_option maxHeartbeats 8000000 in
theorem all_ (w : World) : Calls Tryd.prog 34 #[] w fun ev w' => ev = .returned (macV 255 255 255 255 255 255) ∧ Kp (fun _ => False) w w' := by
  go_enter Tryd.func34, Tryd.ntmps34
  go_wp2_with fail
  refine wp_loop_rounds 7 ?_
  rw [rounds_succ]
  go_wp2_with fail
  rw [rounds_succ]
  go_wp2_with fail
  rw [rounds_succ]
  go_wp2_with fail
  rw [rounds_succ]
  go_wp2_with fail
  rw [rounds_succ]
  go_wp2_with fail
  rw [rounds_succ]
  go_wp2_with fail
  rw [rounds_succ]
  go_wp2_with fail
  refine bodyPost_ret (results_cell_row rfl _ _ w.heap.size 37 #[.int .u8 255, .int .u8 255, .int .u8 255, .int .u8 255, .int .u8 255, .int .u8 255] (0, 0) _ rfl ((Bk.new w 37 #[.int .u8 255, .int .u8 255, .int .u8 255, .int .u8 255, .int .u8 255, .int .u8 255]).alloc (.cells #[.int .u8 255, .int .u8 255, .int .u8 255, .int .u8 255, .int .u8 255, .int .u8 255] 37)) Tryd.underlying37 rfl (by kernel_rfl)) rfl ?_
  exact ⟨rfl, ((Kp.refl _ _).alloc _).alloc _⟩
end Go.Proofs.YtkafdpidhelfdaaDoor
