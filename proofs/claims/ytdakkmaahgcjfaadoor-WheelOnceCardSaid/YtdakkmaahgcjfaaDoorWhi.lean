/- Wheel: Due, New. -/
import Derived.Test.YtdakkmaahgcjfaaDoorWhh
set_option linter.unusedVariables false
set_option linter.unusedSimpArgs false
namespace Go.Proofs.YtdakkmaahgcjfaaDoor
open Go.RowKit

set_option maxRecDepth 1000000 in
set_option maxHeartbeats 8000000 in
theorem due_none (g now : Nat) (s : WS) (i : Int) (w : World) (h : WM w g now s) (hg : mget i s.tm.L = none) :
    Calls Tryd.prog 14 #[.pointer (some ⟨g, 0, none⟩), .int .i64 i] w fun ev w' => ev = .returned (.tuple #[.int .u64 0, .bool false]) ∧ Kp (fun _ => False) w w' := by
  have z1 := (h.bk.cell 1).trans (WC_tm ..)
  have hl0 := (h.tm.run_lookup (P := Tryd.prog) (T := 62) (E := 75) (K := 3) Tryd.underlying62 Tryd.underlying3 (z := .agg #[.int .u64 0, .int .i64 0, .int .i64 0]) (by kernel_rfl) i).2
  rw [hg] at hl0
  have hl : (Instr.lookup 62 (.map (some s.tm.b)) (.int .i64 i) true).run Tryd.prog w = .ok (.tuple #[.agg #[.int .u64 0, .int .i64 0, .int .i64 0], .bool false]) w := hl0
  clear hl0
  have kA := Lib.hid ((Kp.refl (fun _ => False) w).alloc (.cells #[.int .u64 0, .int .i64 0, .int .i64 0] 75))
  clear h hg
  go_enter Tryd.func14, Tryd.ntmps14
  go_wp2_with fail
  exact bodyPost_ret (results_tmp2 rfl _ _ _) rfl ⟨rfl, kA.out⟩
set_option maxRecDepth 1000000 in
set_option maxHeartbeats 8000000 in
theorem due_some (g now : Nat) (s : WS) (i : Int) (d : Nat) (a b : Int) (w : World) (h : WM w g now s) (hg : mget i s.tm.L = some (.agg #[.int .u64 d, .int .i64 a, .int .i64 b])) :
    Calls Tryd.prog 14 #[.pointer (some ⟨g, 0, none⟩), .int .i64 i] w fun ev w' => ev = .returned (.tuple #[.int .u64 d, .bool true]) ∧ Kp (fun _ => False) w w' := by
  have z1 := (h.bk.cell 1).trans (WC_tm ..)
  have hl0 := (h.tm.run_lookup (P := Tryd.prog) (T := 62) (E := 75) (K := 3) Tryd.underlying62 Tryd.underlying3 (z := .agg #[.int .u64 0, .int .i64 0, .int .i64 0]) (by kernel_rfl) i).2
  rw [hg] at hl0
  have hl : (Instr.lookup 62 (.map (some s.tm.b)) (.int .i64 i) true).run Tryd.prog w = .ok (.tuple #[.agg #[.int .u64 d, .int .i64 a, .int .i64 b], .bool true]) w := hl0
  clear hl0
  have kA := Lib.hid ((Kp.refl (fun _ => False) w).alloc (.cells #[.int .u64 d, .int .i64 a, .int .i64 b] 75))
  clear h hg
  go_enter Tryd.func14, Tryd.ntmps14
  go_wp2_with fail
  exact bodyPost_ret (results_tmp2 rfl _ _ _) rfl ⟨rfl, kA.out⟩
theorem spotV_agg (d : Nat) (p : Pos) : ∃ a b : Int, spotV d p = .agg #[.int .u64 d, .int .i64 a, .int .i64 b] := by
  rcases p with _ | ⟨k', j'⟩
  · exact ⟨_, _, rfl⟩
  · exact ⟨_, _, rfl⟩
theorem due_some' (g now : Nat) (s : WS) (i : Int) (d : Nat) (p : Pos) (w : World) (h : WM w g now s) (hg : mget i s.tm.L = some (spotV d p)) :
    Calls Tryd.prog 14 #[.pointer (some ⟨g, 0, none⟩), .int .i64 i] w fun ev w' => ev = .returned (.tuple #[.int .u64 d, .bool true]) ∧ Kp (fun _ => False) w w' := by
  obtain ⟨a, b, hab⟩ := spotV_agg d p
  exact due_some g now s i d a b w h (hg.trans (by rw [hab]))
end Go.Proofs.YtdakkmaahgcjfaaDoor
