/- Wheel: Due, New. Wheel: New. Wheel: New, contract. -/
import Derived.Test.YtgidjgkafbjkpaaGreatDoorWhg
set_option linter.unusedVariables false
set_option linter.unusedSimpArgs false
namespace Go.Proofs.YtgidjgkafbjkpaaGreatDoor
open Go.RowKit

set_option maxRecDepth 1000000 in
set_option maxHeartbeats 8000000 in
theorem due_none (g now : Nat) (s : WS) (i : Int) (w : World) (h : WM w g now s) (hg : mget i s.tm.L = none) :
    Calls Tryz.prog 34 #[.pointer (some ⟨g, 0, none⟩), .int .i64 i] w fun ev w' => ev = .returned (.tuple #[.int .u64 0, .bool false]) ∧ Kp (fun _ => False) w w' := by
  have z1 := (h.bk.cell 1).trans (WC_tm ..)
  have hl0 := (h.tm.run_lookup (P := Tryz.prog) (T := 106) (E := 118) (K := 3) Tryz.underlying106 Tryz.underlying3 (z := .agg #[.int .u64 0, .int .i64 0, .int .i64 0]) (by kernel_rfl) i).2
  rw [hg] at hl0
  have hl : (Instr.lookup 106 (.map (some s.tm.b)) (.int .i64 i) true).run Tryz.prog w = .ok (.tuple #[.agg #[.int .u64 0, .int .i64 0, .int .i64 0], .bool false]) w := hl0
  clear hl0
  have kA := Lib.hid ((Kp.refl (fun _ => False) w).alloc (.cells #[.int .u64 0, .int .i64 0, .int .i64 0] 118))
  clear h hg
  go_enter Tryz.func34, Tryz.ntmps34
  go_wp2_with fail
  exact bodyPost_ret (results_tmp2 rfl _ _ _) rfl ⟨rfl, kA.out⟩
set_option maxRecDepth 1000000 in
set_option maxHeartbeats 8000000 in
theorem due_some (g now : Nat) (s : WS) (i : Int) (d : Nat) (a b : Int) (w : World) (h : WM w g now s) (hg : mget i s.tm.L = some (.agg #[.int .u64 d, .int .i64 a, .int .i64 b])) :
    Calls Tryz.prog 34 #[.pointer (some ⟨g, 0, none⟩), .int .i64 i] w fun ev w' => ev = .returned (.tuple #[.int .u64 d, .bool true]) ∧ Kp (fun _ => False) w w' := by
  have z1 := (h.bk.cell 1).trans (WC_tm ..)
  have hl0 := (h.tm.run_lookup (P := Tryz.prog) (T := 106) (E := 118) (K := 3) Tryz.underlying106 Tryz.underlying3 (z := .agg #[.int .u64 0, .int .i64 0, .int .i64 0]) (by kernel_rfl) i).2
  rw [hg] at hl0
  have hl : (Instr.lookup 106 (.map (some s.tm.b)) (.int .i64 i) true).run Tryz.prog w = .ok (.tuple #[.agg #[.int .u64 d, .int .i64 a, .int .i64 b], .bool true]) w := hl0
  clear hl0
  have kA := Lib.hid ((Kp.refl (fun _ => False) w).alloc (.cells #[.int .u64 d, .int .i64 a, .int .i64 b] 118))
  clear h hg
  go_enter Tryz.func34, Tryz.ntmps34
  go_wp2_with fail
  exact bodyPost_ret (results_tmp2 rfl _ _ _) rfl ⟨rfl, kA.out⟩
theorem spotV_agg (d : Nat) (p : Pos) : ∃ a b : Int, spotV d p = .agg #[.int .u64 d, .int .i64 a, .int .i64 b] := by
  rcases p with _ | ⟨k', j'⟩
  · exact ⟨_, _, rfl⟩
  · exact ⟨_, _, rfl⟩
theorem due_some' (g now : Nat) (s : WS) (i : Int) (d : Nat) (p : Pos) (w : World) (h : WM w g now s) (hg : mget i s.tm.L = some (spotV d p)) :
    Calls Tryz.prog 34 #[.pointer (some ⟨g, 0, none⟩), .int .i64 i] w fun ev w' => ev = .returned (.tuple #[.int .u64 d, .bool true]) ∧ Kp (fun _ => False) w w' := by
  obtain ⟨a, b, hab⟩ := spotV_agg d p
  exact due_some g now s i d a b w h (hg.trans (by rw [hab]))
theorem first_or (full : Nat → Nat) (hl : ∀ k, full k < 2 ^ 64) : (∀ k, k < 11 → full k = 0) ∨ ∃ k j, k < 11 ∧ First full k j := by
  have key : ∀ n, (∀ k, k < n → full k = 0) ∨ ∃ k j, k < n ∧ First full k j := by
    intro n
    induction n with
    | zero => exact .inl (fun k hk => absurd hk (Nat.not_lt_zero _))
    | succ n ih =>
      rcases ih with ih | ⟨k, j, hk, hf⟩
      · by_cases h0 : full n = 0
        · left
          intro k hk
          rcases Nat.lt_or_ge k n with h | h
          · exact ih k h
          · rw [show k = n by omega]; exact h0
        · right
          obtain ⟨h1, h2⟩ := ctz_bit (full n) h0 (hl n)
          refine ⟨n, _, Nat.lt_succ_self _, h1, ?_, ih, h2⟩
          rcases Nat.lt_or_ge (Lib.ctz 64 (full n)) 64 with h | h
          · exact h
          · rw [Nat.testBit_lt_two_pow (Nat.lt_of_lt_of_le (hl n) (Nat.pow_le_pow_right (by omega) h))] at h1
            cases h1
      · exact .inr ⟨k, j, by omega, hf⟩
  exact key 11
end Go.Proofs.YtgidjgkafbjkpaaGreatDoor
namespace Go.Proofs.YtgidjgkafbjkpaaGreatDoor
open Go.RowKit

def noSl : Nat → Nat → Option Nat := fun _ _ => none
def noFull : Nat → Nat := fun _ => 0
set_option maxRecDepth 1000000 in
theorem zero68 (now tb ob : Nat) : ((Tryz.zeroCells113.setIfInBounds 0 (.int .u64 (now : Int))).setIfInBounds 1 (.map (some tb))).setIfInBounds 717 (.map (some ob)) = WC now tb ob noSl noFull := by kernel_rfl
end Go.Proofs.YtgidjgkafbjkpaaGreatDoor
namespace Go.Proofs.YtgidjgkafbjkpaaGreatDoor
open Go.RowKit

/-- A wheel with no timers. -/
def emptyWS (b : Nat) : WS := ⟨⟨b, 0, []⟩, ⟨b + 1, 0, []⟩, fun _ _ => none, noFull⟩
theorem inv_empty {now : Nat} (hn : now ≤ TOP) (b : Nat) : Inv now (emptyWS b).tm.L (emptyWS b).ov.L (emptyWS b).sls (emptyWS b).full (fun _ => False) := by
  refine ⟨hn, fun i v h => (by cases h), fun i _ => ⟨fun h => absurd h (has_nil i), fun ⟨d, h⟩ => by cases h⟩, fun k j i _ => ⟨fun h => absurd h (has_nil i), fun ⟨d, h⟩ => by cases h⟩, fun i h => h.elim, fun k j _ => ⟨fun h => ?_, fun ⟨i, h⟩ => absurd h (has_nil i)⟩, fun k => ?_⟩
  · have : Nat.testBit 0 j = true := h
    simp at this
  · show 0 < 2 ^ 64
    decide
/-- What New leaves. -/
def NewPost (g now : Nat) (w w' : World) : Prop :=
  ∃ s, WM w' g now s ∧ Inv now s.tm.L s.ov.L s.sls s.full (fun _ => False) ∧ s.tm.L = [] ∧ Kp (fun _ => False) w w' ∧ ∀ b, fp g s b → w.heap.size ≤ b
theorem new_post (now : Nat) (w : World) (hn : now ≤ TOP) : NewPost (w.heap.size + 2) now w (((w.alloc (.map #[] 0)).alloc (.map #[] 0)).alloc (.cells (WC now w.heap.size (w.heap.size + 1) noSl noFull) 113)) := by
  have k1 := (Kp.refl (fun _ => False) w).alloc (.map #[] 0)
  have e1 : (w.alloc (.map #[] 0)).heap.size = w.heap.size + 1 := by show (w.heap.push _).size = _; simp
  have e2 : ((w.alloc (.map #[] 0)).alloc (.map #[] 0)).heap.size = w.heap.size + 2 := by show ((w.heap.push _).push _).size = _; simp
  have m1 := IMap.made w
  have m2 := IMap.made (w.alloc (.map #[] 0))
  rw [e1] at m2
  have k2 := (Kp.refl (fun _ => False) (w.alloc (.map #[] 0))).alloc (.map #[] 0)
  have k3 := (Kp.refl (fun _ => False) ((w.alloc (.map #[] 0)).alloc (.map #[] 0))).alloc (.cells (WC now w.heap.size (w.heap.size + 1) noSl noFull) 113)
  have hb := Bk.new ((w.alloc (.map #[] 0)).alloc (.map #[] 0)) 113 (WC now w.heap.size (w.heap.size + 1) noSl noFull)
  rw [e2] at hb
  refine ⟨emptyWS w.heap.size, ⟨hb, (m1.kept k2 (fun f => f)).kept k3 (fun f => f), m2.kept k3 (fun f => f), fun k j m h => (by cases h), ?_, fun k j m h => (by cases h), fun k j k' j' m m' h => (by cases h)⟩, inv_empty hn _, rfl, (k1.trans' k2).trans' k3, ?_⟩
  · show w.heap.size ≠ w.heap.size + 1
    omega
  · rintro b (rfl | rfl | rfl | ⟨k, j, m, h, _⟩)
    · omega
    · exact Nat.le_refl _
    · exact Nat.le_succ _
    · cases h
set_option maxRecDepth 1000000 in
set_option maxHeartbeats 8000000 in
theorem new_far (now : Nat) (w : World) (hn : ¬ now ≤ TOP) :
    Calls Tryz.prog 22 #[.int .u64 now] w fun ev w' => ev = .returned (.tuple #[.pointer none, .int .i64 11]) ∧ w' = w := by
  have h1 : (4611686018427387904 : Int) < (now : Int) := by unfold TOP at hn; omega
  have h2 : ¬ ((now : Int) ≤ 4611686018427387904) := by omega
  go_enter Tryz.func22, Tryz.ntmps22
  go_wp2_with fail
  exact bodyPost_ret (results_tmp2 rfl _ _ _) rfl ⟨rfl, rfl⟩
set_option maxRecDepth 1000000 in
set_option maxHeartbeats 8000000 in
theorem new_ok (now : Nat) (w : World) (hn : now ≤ TOP) :
    Calls Tryz.prog 22 #[.int .u64 now] w fun ev w' => ∃ g, ev = .returned (.tuple #[.pointer (some ⟨g, 0, none⟩), .int .i64 0]) ∧ NewPost g now w w' := by
  have h1 : ¬ (4611686018427387904 : Int) < (now : Int) := by unfold TOP at hn; omega
  have h2 : (now : Int) ≤ 4611686018427387904 := by unfold TOP at hn; omega
  have hmm := @run_makeMap Tryz.prog
  have NP := Lib.hid (new_post now w hn)
  go_enter Tryz.func22, Tryz.ntmps22
  go_wp2_with fail
  rw [zero68]
  exact bodyPost_ret (results_tmp2 rfl _ _ _) rfl ⟨_, rfl, NP.out⟩
end Go.Proofs.YtgidjgkafbjkpaaGreatDoor
