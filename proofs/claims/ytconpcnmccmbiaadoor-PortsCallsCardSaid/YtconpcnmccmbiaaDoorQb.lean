/- The reference's lay: a port is put into the rising row. -/
import Derived.Test.YtconpcnmccmbiaaDoorQa
namespace Go.Proofs.YtconpcnmccmbiaaDoor
open Go.RowKit

/-- One round of lay: an element is handed on, the port ahead of it where it is due. -/
def insStep (p : Int) (s : List Int × Bool) (x : Int) : List Int × Bool := if s.2 = false ∧ p < x then (s.1 ++ [p] ++ [x], true) else (s.1 ++ [x], s.2)
def insFold (p : Int) (xs : List Int) : List Int × Bool := xs.foldl (insStep p) ([], false)
theorem insFold_snoc (p : Int) (xs : List Int) (x : Int) : insFold p (xs ++ [x]) = insStep p (insFold p xs) x := by simp [insFold]
theorem insFold_len (p : Int) (xs : List Int) : (insFold p xs).1.length ≤ 2 * xs.length := by
  have : ∀ (ys : List Int) (s : List Int × Bool), (ys.foldl (insStep p) s).1.length ≤ s.1.length + 2 * ys.length := by
    intro ys
    induction ys with
    | nil => intro s; simp
    | cons y ys ih =>
      intro s
      rw [List.foldl_cons]
      have := ih (insStep p s y)
      have h2 : (insStep p s y).1.length ≤ s.1.length + 2 := by unfold insStep; split <;> simp
      simp only [List.length_cons]
      omega
  simpa [insFold] using this xs ([], false)
theorem takenL_upd_below (T : Nat → Bool) (l k j : Nat) (b : Bool) (h : j ≤ k) : takenL (upd T k b) l j = takenL T l j := by
  unfold takenL
  congr 1
  apply List.filter_congr
  intro x hx
  have : x < j := by simpa using hx
  unfold upd
  rw [if_neg (by omega)]
open Classical in
theorem ins_taken (T : Nat → Bool) (l k : Nat) (hT : T k = false) : ∀ j, insFold ((k : Int) + l) (takenL T l j) = (if j ≤ k then (takenL T l j, false) else if (∀ t, k < t → t < j → T t = false) then (takenL T l j, false) else (takenL (upd T k true) l j, true))
  | 0 => by simp [takenL, insFold]
  | j + 1 => by
    have ih := ins_taken T l k hT j
    cases hTj : T j with
    | false =>
      rw [takenL_no _ _ _ hTj, ih]
      by_cases h1 : j + 1 ≤ k
      · rw [if_pos (by omega), if_pos h1]
      · rw [if_neg h1]
        by_cases h2 : j = k
        · subst h2
          rw [if_pos (Nat.le_refl _), if_pos (fun t h1 h2 => by omega)]
        · rw [if_neg (by omega)]
          have e : (∀ t, k < t → t < j → T t = false) ↔ (∀ t, k < t → t < j + 1 → T t = false) := by
            constructor
            · intro h t a b
              by_cases hj : t = j
              · subst hj; exact hTj
              · exact h t a (by omega)
            · intro h t a b; exact h t a (by omega)
          have e2 : takenL (upd T k true) l (j + 1) = takenL (upd T k true) l j := takenL_no _ _ _ (by unfold upd; rw [if_neg h2]; exact hTj)
          rw [e2]
          by_cases h3 : ∀ t, k < t → t < j → T t = false
          · rw [if_pos h3, if_pos (e.1 h3)]
          · rw [if_neg h3, if_neg (fun h => h3 (e.2 h))]
    | true =>
      have hjk : j ≠ k := fun h => by subst h; rw [hT] at hTj; cases hTj
      rw [takenL_yes _ _ _ hTj, insFold_snoc, ih]
      by_cases h1 : j + 1 ≤ k
      · rw [if_pos (by omega), if_pos h1]
        unfold insStep
        rw [if_neg (by simp; omega)]
      · rw [if_neg h1]
        have hkj : k < j := by omega
        rw [if_neg (by omega)]
        have hnot : ¬ (∀ t, k < t → t < j + 1 → T t = false) := fun h => by have := h j hkj (by omega); rw [hTj] at this; cases this
        rw [if_neg hnot]
        have e2 : takenL (upd T k true) l (j + 1) = takenL (upd T k true) l j ++ [(j : Int) + l] := takenL_yes _ _ _ (by unfold upd; rw [if_neg hjk]; exact hTj)
        by_cases h3 : ∀ t, k < t → t < j → T t = false
        · rw [if_pos h3, e2]
          unfold insStep
          rw [if_pos ⟨rfl, by omega⟩]
          have e3 : takenL (upd T k true) l j = takenL T l j ++ [(k : Int) + l] := by
            have : ∀ d, k + 1 + d ≤ j → takenL (upd T k true) l (k + 1 + d) = takenL T l (k + 1 + d) ++ [(k : Int) + l] := by
              intro d
              induction d with
              | zero =>
                intro _
                rw [Nat.add_zero, takenL_yes _ _ _ (by simp [upd]), takenL_upd_below _ _ _ _ _ (Nat.le_refl _), takenL_no _ _ _ hT]
              | succ d ih2 =>
                intro hd
                have hf : T (k + 1 + d) = false := h3 _ (by omega) (by omega)
                rw [show k + 1 + (d + 1) = (k + 1 + d) + 1 from by omega, takenL_no _ _ _ (by unfold upd; rw [if_neg (by omega)]; exact hf), takenL_no _ _ _ hf]
                exact ih2 (by omega)
            have := this (j - (k + 1)) (by omega)
            rwa [show k + 1 + (j - (k + 1)) = j from by omega] at this
          rw [e3]
        · rw [if_neg h3, e2]
          unfold insStep
          rw [if_neg (by simp)]
open Classical in
/-- What lay's row is in the end. -/
theorem ins_all (T : Nat → Bool) (l m k : Nat) (hk : k < m) (hT : T k = false) :
    (if (insFold ((k : Int) + l) (takenL T l m)).2 = false then (insFold ((k : Int) + l) (takenL T l m)).1 ++ [(k : Int) + l] else (insFold ((k : Int) + l) (takenL T l m)).1) = takenL (upd T k true) l m := by
  have e := ins_taken T l k hT m
  rw [if_neg (show ¬ m ≤ k by omega)] at e
  rw [e]
  by_cases h3 : ∀ t, k < t → t < m → T t = false
  · rw [if_pos h3]
    simp only [if_true]
    have : ∀ d, k + 1 + d ≤ m → takenL (upd T k true) l (k + 1 + d) = takenL T l (k + 1 + d) ++ [(k : Int) + l] := by
      intro d
      induction d with
      | zero =>
        intro _
        rw [Nat.add_zero, takenL_yes _ _ _ (by simp [upd]), takenL_upd_below _ _ _ _ _ (Nat.le_refl _), takenL_no _ _ _ hT]
      | succ d ih2 =>
        intro hd
        have hf : T (k + 1 + d) = false := h3 _ (by omega) (by omega)
        rw [show k + 1 + (d + 1) = (k + 1 + d) + 1 from by omega, takenL_no _ _ _ (by unfold upd; rw [if_neg (by omega)]; exact hf), takenL_no _ _ _ hf]
        exact ih2 (by omega)
    have := this (m - (k + 1)) (by omega)
    rw [show k + 1 + (m - (k + 1)) = m from by omega] at this
    exact this.symm
  · rw [if_neg h3]
    simp
end Go.Proofs.YtconpcnmccmbiaaDoor
