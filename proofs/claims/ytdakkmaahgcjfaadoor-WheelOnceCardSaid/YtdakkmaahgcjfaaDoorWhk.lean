/- Wheel: New, contract. -/
import Derived.Test.YtdakkmaahgcjfaaDoorWhj
set_option linter.unusedVariables false
set_option linter.unusedSimpArgs false
namespace Go.Proofs.YtdakkmaahgcjfaaDoor
open Go.RowKit

/-- A wheel with no timers. -/
def emptyWS (b : Nat) : WS := ⟨⟨b, 0, []⟩, ⟨b + 1, 0, []⟩, fun _ _ => none, noFull⟩
theorem inv_empty {now : Nat} (hn : now ≤ TOP) (b : Nat) : Inv now (emptyWS b).tm.L (emptyWS b).ov.L (emptyWS b).sls (emptyWS b).full (fun _ => False) := by
  refine ⟨hn, fun i v h => (by cases h), fun i _ => ⟨fun h => absurd h (has_nil i), fun ⟨d, h⟩ => by cases h⟩, fun k j i _ => ⟨fun h => absurd h (has_nil i), fun ⟨d, h⟩ => by cases h⟩, fun i h => h.elim, fun k j _ => ⟨fun h => ?_, fun ⟨i, h⟩ => absurd h (has_nil i)⟩, fun k => ?_⟩
  · have : Nat.testBit 0 j = true := h
    simp at this
  · show 0 < 2 ^ 64
    decide
/-- What New leaves. -/
def NewPost (g now : Nat) (w w' : World) : Prop :=
  ∃ s, WM w' g now s ∧ Inv now s.tm.L s.ov.L s.sls s.full (fun _ => False) ∧ s.tm.L = [] ∧ Kp (fun _ => False) w w' ∧ ∀ b, fp g s b → w.heap.size ≤ b
theorem new_post (now : Nat) (w : World) (hn : now ≤ TOP) : NewPost (w.heap.size + 2) now w (((w.alloc (.map #[] 0)).alloc (.map #[] 0)).alloc (.cells (WC now w.heap.size (w.heap.size + 1) noSl noFull) 68)) := by
  have k1 := (Kp.refl (fun _ => False) w).alloc (.map #[] 0)
  have e1 : (w.alloc (.map #[] 0)).heap.size = w.heap.size + 1 := by show (w.heap.push _).size = _; simp
  have e2 : ((w.alloc (.map #[] 0)).alloc (.map #[] 0)).heap.size = w.heap.size + 2 := by show ((w.heap.push _).push _).size = _; simp
  have m1 := IMap.made w
  have m2 := IMap.made (w.alloc (.map #[] 0))
  rw [e1] at m2
  have k2 := (Kp.refl (fun _ => False) (w.alloc (.map #[] 0))).alloc (.map #[] 0)
  have k3 := (Kp.refl (fun _ => False) ((w.alloc (.map #[] 0)).alloc (.map #[] 0))).alloc (.cells (WC now w.heap.size (w.heap.size + 1) noSl noFull) 68)
  have hb := Bk.new ((w.alloc (.map #[] 0)).alloc (.map #[] 0)) 68 (WC now w.heap.size (w.heap.size + 1) noSl noFull)
  rw [e2] at hb
  refine ⟨emptyWS w.heap.size, ⟨hb, (m1.kept k2 (fun f => f)).kept k3 (fun f => f), m2.kept k3 (fun f => f), fun k j m h => (by cases h), ?_, fun k j m h => (by cases h), fun k j k' j' m m' h => (by cases h)⟩, inv_empty hn _, rfl, (k1.trans' k2).trans' k3, ?_⟩
  · show w.heap.size ≠ w.heap.size + 1
    omega
  · rintro b (rfl | rfl | rfl | ⟨k, j, m, h, _⟩)
    · omega
    · exact Nat.le_refl _
    · exact Nat.le_succ _
    · cases h
set_option maxRecDepth 1000000 in
set_option maxHeartbeats 8000000 in
theorem new_far (now : Nat) (w : World) (hn : ¬ now ≤ TOP) :
    Calls Tryd.prog 9 #[.int .u64 now] w fun ev w' => ev = .returned (.tuple #[.pointer none, .int .i64 11]) ∧ w' = w := by
  have h1 : (4611686018427387904 : Int) < (now : Int) := by unfold TOP at hn; omega
  have h2 : ¬ ((now : Int) ≤ 4611686018427387904) := by omega
  go_enter Tryd.func9, Tryd.ntmps9
  go_wp2_with fail
  exact bodyPost_ret (results_tmp2 rfl _ _ _) rfl ⟨rfl, rfl⟩
set_option maxRecDepth 1000000 in
set_option maxHeartbeats 8000000 in
theorem new_ok (now : Nat) (w : World) (hn : now ≤ TOP) :
    Calls Tryd.prog 9 #[.int .u64 now] w fun ev w' => ∃ g, ev = .returned (.tuple #[.pointer (some ⟨g, 0, none⟩), .int .i64 0]) ∧ NewPost g now w w' := by
  have h1 : ¬ (4611686018427387904 : Int) < (now : Int) := by unfold TOP at hn; omega
  have h2 : (now : Int) ≤ 4611686018427387904 := by unfold TOP at hn; omega
  have hmm := @run_makeMap Tryd.prog
  have NP := Lib.hid (new_post now w hn)
  go_enter Tryd.func9, Tryd.ntmps9
  go_wp2_with fail
  rw [zero68]
  exact bodyPost_ret (results_tmp2 rfl _ _ _) rfl ⟨_, rfl, NP.out⟩
end Go.Proofs.YtdakkmaahgcjfaaDoor
