/- Wheel's reference: its state in memory. -/
import Derived.Test.YtdakkmaahgcjfaaDoorWhk
set_option linter.unusedVariables false
set_option linter.unusedSimpArgs false
namespace Go.Proofs.YtdakkmaahgcjfaaDoor
open Go.RowKit

/-- A row of one's own, from a lesser block on. -/
theorem own_base {w : World} {base base' : Nat} {e : TypeId} {size n : Nat} {v : Value} {xs : List Value} (h : w.ownsRow base e size v n xs) (hb : base' ≤ base) : w.ownsRow base' e size v n xs := by
  refine ⟨h.1, ?_⟩
  rcases h.2 with h | ⟨g, cap, cur, hv, hg, r⟩
  · exact .inl h
  · exact .inr ⟨g, cap, cur, hv, by omega, r⟩
/-- The cells of rows. -/
def rowsC : List (Int × Nat) → List Value
  | [] => []
  | r :: R => .int .i64 r.1 :: .int .u64 (r.2 : Int) :: rowsC R
theorem rowsC_len : ∀ R : List (Int × Nat), (rowsC R).length = R.length * 2
  | [] => rfl
  | r :: R => by simp [rowsC, rowsC_len R]; omega
theorem rowsC_append : ∀ R S : List (Int × Nat), rowsC (R ++ S) = rowsC R ++ rowsC S
  | [], S => rfl
  | r :: R, S => by simp [rowsC, rowsC_append R S]
theorem rowsC_at : ∀ (R : List (Int × Nat)) (i : Nat) (h : i < R.length), (rowsC R)[2 * i]? = some (.int .i64 (R[i]'h).1) ∧ (rowsC R)[2 * i + 1]? = some (.int .u64 ((R[i]'h).2 : Int))
  | r :: R, 0, h => ⟨rfl, rfl⟩
  | r :: R, i + 1, h => by
    have := rowsC_at R i (by simpa using h)
    constructor
    · rw [show 2 * (i + 1) = 2 * i + 1 + 1 by omega]
      exact this.1
    · rw [show 2 * (i + 1) + 1 = (2 * i + 1) + 1 + 1 by omega]
      exact this.2
theorem rowsC_take : ∀ (R : List (Int × Nat)) (i : Nat), rowsC (R.take i) = (rowsC R).take (2 * i)
  | [], i => by simp [rowsC]
  | r :: R, 0 => by simp [rowsC]
  | r :: R, i + 1 => by
    rw [show 2 * (i + 1) = 2 * i + 1 + 1 by omega]
    simp [rowsC, rowsC_take R i]
theorem rowsC_drop : ∀ (R : List (Int × Nat)) (i : Nat), rowsC (R.drop i) = (rowsC R).drop (2 * i)
  | [], i => by simp [rowsC]
  | r :: R, 0 => by simp [rowsC]
  | r :: R, i + 1 => by
    rw [show 2 * (i + 1) = 2 * i + 1 + 1 by omega]
    simp [rowsC, rowsC_drop R i]
theorem rowsC_one : ∀ (R : List (Int × Nat)), ∀ u ∈ rowsC R, u.oneCell' = true
  | [], u, h => by cases h
  | r :: R, u, h => by
    simp only [rowsC, List.mem_cons] at h
    rcases h with rfl | rfl | h
    · rfl
    · rfl
    · exact rowsC_one R u h
/-- Block g is a reference wheel. -/
def RW (w : World) (g now : Nat) (R : List (Int × Nat)) : Prop := ∃ v, Bk w g 71 #[.int .u64 now, v] ∧ w.ownsRow 0 73 2 v R.length (rowsC R)
/-- The row that a reference wheel holds is of another kind than g. -/
theorem own_other {w : World} {g t : Nat} {cs : Array Value} {v : Value} {n : Nat} {xs : List Value} (hb : Bk w g t cs) (ht : t ≠ 73) (h : w.ownsRow 0 73 2 v n xs) : ∀ k, v.ownBlock = some k → k ≠ g := by
  rintro k hk rfl
  rcases h.2 with ⟨rfl, _⟩ | ⟨gb, cap, cur, rfl, _, hgb, _⟩
  · cases hk
  · obtain rfl : gb = k := Option.some.inj hk
    unfold Bk at hb
    rw [hb] at hgb
    injection hgb with h
    injection h with _ h2
    exact ht h2
theorem RW.kept {S : Nat → Prop} {w w' : World} {g now : Nat} {R : List (Int × Nat)} (h : RW w g now R) (hk : Kp S w w') (hg : ¬ S g) (hS : ∀ b cs, Bk w b 73 cs → ¬ S b) : RW w' g now R := by
  obtain ⟨v, hb, ho⟩ := h
  refine ⟨v, hb.kept hk hg, own_kp ho hk (fun k hk' => ?_)⟩
  rcases ho.2 with ⟨rfl, _⟩ | ⟨gb, cap, cur, rfl, _, hgb, _⟩
  · cases hk'
  · obtain rfl : gb = k := Option.some.inj hk'
    exact hS gb cur hgb
theorem RW.none_kept {w w' : World} {g now : Nat} {R : List (Int × Nat)} (h : RW w g now R) (hk : Kp (fun _ => False) w w') : RW w' g now R := h.kept hk (fun f => f) (fun _ _ _ f => f)
/-- A wheel's blocks are of other kinds than the reference's. -/
theorem fp_kind {w : World} {g now : Nat} {s : WS} (h : WM w g now s) {b : Nat} (hb : fp g s b) : (∃ cs, Bk w b 68 cs) ∨ ∃ es c, w.heap[b]? = some (.map es c) := by
  rcases hb with rfl | rfl | rfl | ⟨k, j, m, hm, rfl⟩
  · exact .inl ⟨_, h.bk⟩
  · exact .inr ⟨_, _, h.tm.at_⟩
  · exact .inr ⟨_, _, h.ov.at_⟩
  · exact .inr ⟨_, _, (h.sl k j m hm).at_⟩
theorem fp_not {w : World} {g now : Nat} {s : WS} (h : WM w g now s) {b t : Nat} {cs : Array Value} (hb : Bk w b t cs) (ht : t ≠ 68) : ¬ fp g s b := by
  intro hf
  unfold Bk at hb
  rcases fp_kind h hf with ⟨cs', h'⟩ | ⟨es, c, h'⟩
  · unfold Bk at h'
    rw [hb] at h'
    injection h' with h'
    injection h' with _ h2
    exact ht h2
  · rw [hb] at h'; cases h'
theorem RW.by_wheel {w w' : World} {g g2 now now2 : Nat} {s : WS} {R : List (Int × Nat)} (h : RW w g now R) (hw : WM w g2 now2 s) (hk : Kp (fp g2 s) w w') : RW w' g now R := by
  have hb : ∃ v, Bk w g 71 #[.int .u64 now, v] := by
    obtain ⟨v, hb, _⟩ := h
    exact ⟨v, hb⟩
  obtain ⟨v, hb⟩ := hb
  exact h.kept hk (fp_not hw hb (by decide)) (fun b cs hb => fp_not hw hb (by decide))
theorem WM.by_ref {w w' : World} {g g2 now now2 : Nat} {s : WS} {R : List (Int × Nat)} (h : WM w g2 now2 s) (hr : RW w g now R) (hk : Kp (fun b => b = g) w w') : WM w' g2 now2 s := by
  obtain ⟨v, hb, _⟩ := hr
  exact h.kept hk (fun b hf e => fp_not h hb (by decide) (e ▸ hf))
end Go.Proofs.YtdakkmaahgcjfaaDoor
