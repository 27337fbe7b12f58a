/- Cache: the reference, on a cache that knows nothing. -/
import Derived.Test.YtgidjgkafbjkpaaGreatDoorCqp
import Derived.Deep.RegionLaw
import Derived.Deep.QuietTactic
set_option linter.unusedVariables false
set_option linter.unusedSimpArgs false
namespace Go.Proofs.YtgidjgkafbjkpaaGreatDoor
open Go.RowKit

/-- A reference cache that knows nothing. -/
def rC (room wait life pat : Nat) : Array Value := #[.int .i64 (room : Int), .int .i64 (wait : Int), .int .u64 (life : Int), .int .u64 (pat : Int), .slice none 0 0, .slice none 0 0]
def RC0 (w : World) (g room wait life pat : Nat) : Prop := Bk w g 93 (rC room wait life pat)
theorem RC0.cells {w : World} {g room wait life pat : Nat} (h : RC0 w g room wait life pat) : w.cell? ⟨g, 0, none⟩ = some (.int .i64 (room : Int)) ∧ w.cell? ⟨g, 1, none⟩ = some (.int .i64 (wait : Int)) ∧ w.cell? ⟨g, 2, none⟩ = some (.int .u64 (life : Int)) ∧ w.cell? ⟨g, 3, none⟩ = some (.int .u64 (pat : Int)) ∧ w.cell? ⟨g, 4, none⟩ = some (.slice none 0 0) ∧ w.cell? ⟨g, 5, none⟩ = some (.slice none 0 0) :=
  ⟨(Bk.cell h 0).trans rfl, (Bk.cell h 1).trans rfl, (Bk.cell h 2).trans rfl, (Bk.cell h 3).trans rfl, (Bk.cell h 4).trans rfl, (Bk.cell h 5).trans rfl⟩
set_option maxRecDepth 1000000 in
set_option maxHeartbeats 16000000 in
theorem rtime (now : Nat) (w : World) : Calls Tryz.prog 58 #[.int .u64 (now : Int)] w fun ev w' => ev = .returned (.int .u64 ((min now MT : Nat) : Int)) ∧ w' = w := by
  have hmin : (min (now : Int) 2305843009213693952) = ((min now MT : Nat) : Int) := by unfold MT; omega
  generalize min now MT = mn at *
  go_enter Tryz.func58, Tryz.ntmps58
  go_wp2_with fail
  exact bodyPost_ret (results_tmp rfl _ _ _) rfl ⟨rfl, rfl⟩
set_option maxRecDepth 1000000 in
set_option maxHeartbeats 16000000 in
theorem rfind0 (g : Nat) (ip : Nat) (w : World) (c4 : w.cell? ⟨g, 4, none⟩ = some (.slice none 0 0)) :
    Calls Tryz.prog 57 #[.pointer (some ⟨g, 0, none⟩), .int .u32 (ip : Int)] w fun ev w' => ev = .returned (.int .i64 (-1)) ∧ w' = w := by
  go_enter Tryz.func57, Tryz.ntmps57
  go_wp2_with fail
  go_loopw [5] (fun v wr => v = .int .i64 0 ∧ wr = w) (fun _ _ => 0)
  case atStart => exact ⟨rfl, rfl⟩
  case round =>
    obtain ⟨rfl, rfl⟩ := hrel
    go_wp2_with fail
    exact bodyPost_ret (results_tmp rfl _ _ _) rfl ⟨rfl, rfl⟩
set_option maxRecDepth 1000000 in
set_option maxHeartbeats 16000000 in
theorem rrow0 (g : Nat) (ip : Nat) (w : World) (c5 : w.cell? ⟨g, 5, none⟩ = some (.slice none 0 0)) :
    Calls Tryz.prog 59 #[.pointer (some ⟨g, 0, none⟩), .int .u32 (ip : Int)] w fun ev w' => ev = .returned (.int .i64 (-1)) ∧ w' = w := by
  go_enter Tryz.func59, Tryz.ntmps59
  go_wp2_with fail
  go_loopw [5] (fun v wr => v = .int .i64 0 ∧ wr = w) (fun _ _ => 0)
  case atStart => exact ⟨rfl, rfl⟩
  case round =>
    obtain ⟨rfl, rfl⟩ := hrel
    go_wp2_with fail
    exact bodyPost_ret (results_tmp rfl _ _ _) rfl ⟨rfl, rfl⟩
set_option maxRecDepth 1000000 in
set_option maxHeartbeats 16000000 in
/-- New. -/
theorem rnew0 (room wait life pat : Nat) (w : World) (hr : Rgt (room : Int) (wait : Int) life pat) :
    Calls Tryz.prog 17 #[.int .i64 (room : Int), .int .i64 (wait : Int), .int .u64 (life : Int), .int .u64 (pat : Int)] w fun ev w' => ∃ g, ev = .returned (.tuple #[.pointer (some ⟨g, 0, none⟩), .int .i64 0]) ∧ RC0 w' g room wait life pat ∧ w.heap.size ≤ g ∧ Kp (fun _ => False) w w' := by
  obtain ⟨h1, h2, h3, h4, h5, h6⟩ := hr
  have a1 : ¬ (room : Int) < 1 := by omega
  have a2 : ¬ (256 : Int) < (room : Int) := by omega
  have a3 : ¬ (wait : Int) < 1 := by omega
  have a4 : ¬ (64 : Int) < (wait : Int) := by omega
  have a5 : ¬ (life : Int) < 1 := by omega
  have a6 : ¬ (4294967296 : Int) < (life : Int) := by omega
  have a7 : ¬ (pat : Int) < 1 := by omega
  have a8 : ¬ (4294967296 : Int) < (pat : Int) := by omega
  clear h1 h2 h3 h4 h5 h6
  go_enter Tryz.func17, Tryz.ntmps17
  go_wp2_with fail
  exact bodyPost_ret (results_tmp2 rfl _ _ _) rfl ⟨w.heap.size, rfl, Bk.new w 93 _, Nat.le_refl _, (Kp.refl _ w).alloc _⟩
end Go.Proofs.YtgidjgkafbjkpaaGreatDoor
