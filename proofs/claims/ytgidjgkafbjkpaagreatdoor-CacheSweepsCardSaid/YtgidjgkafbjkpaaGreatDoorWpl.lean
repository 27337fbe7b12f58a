/- Wheel: the plain law: where a timer hangs, by its time and the wheel's, in groups of six bits. -/
namespace Go.Proofs.YtgidjgkafbjkpaaGreatDoor

/-- A timer that is due at `due` hangs in level k, slot j, at time `now`. -/
def At (now due k j : Nat) : Prop := due / 64 ^ (k + 1) = now / 64 ^ (k + 1) ∧ now / 64 ^ k < due / 64 ^ k ∧ due / 64 ^ k % 64 = j
/-- When a slot begins. -/
def fromOf (now k j : Nat) : Nat := now / 64 ^ (k + 1) * 64 ^ (k + 1) + j * 64 ^ k

theorem p64 (k : Nat) : 0 < 64 ^ k := Nat.pow_pos (by omega)
theorem p64s (k : Nat) : 64 ^ (k + 1) = 64 ^ k * 64 := Nat.pow_succ ..
theorem div64s (n k : Nat) : n / 64 ^ (k + 1) = n / 64 ^ k / 64 := by rw [p64s, Nat.div_div_eq_div_mul]
/-- Equal groups stay equal above. -/
theorem div_up {a b k m : Nat} (h : a / 64 ^ k = b / 64 ^ k) (hm : k ≤ m) : a / 64 ^ m = b / 64 ^ m := by
  obtain ⟨d, rfl⟩ : ∃ d, m = k + d := ⟨m - k, by omega⟩
  rw [Nat.pow_add, ← Nat.div_div_eq_div_mul, ← Nat.div_div_eq_div_mul, h]
theorem At.lt {now due k j : Nat} (h : At now due k j) : now < due := by
  rcases Nat.lt_or_ge now due with h1 | h1
  · exact h1
  · have := Nat.div_le_div_right (c := 64 ^ k) h1
    have := h.2.1
    omega
theorem At.slot {now due k j : Nat} (h : At now due k j) : j < 64 := by rw [← h.2.2]; exact Nat.mod_lt _ (by omega)
theorem At.uniq {now due k j k' j' : Nat} (h : At now due k j) (h' : At now due k' j') : k = k' ∧ j = j' := by
  have hk : k = k' := by
    rcases Nat.lt_trichotomy k k' with hl | rfl | hl
    · have := div_up h.1 (show k + 1 ≤ k' by omega)
      have := h'.2.1
      omega
    · rfl
    · have := div_up h'.1 (show k' + 1 ≤ k by omega)
      have := h.2.1
      omega
  subst hk
  exact ⟨rfl, by rw [← h.2.2, ← h'.2.2]⟩
/-- Every time that is to come has its level, below one in which they are equal. -/
theorem At.ex {now due m : Nat} (h : now < due) (he : due / 64 ^ m = now / 64 ^ m) : ∃ k j, k < m ∧ j < 64 ∧ At now due k j := by
  induction m with
  | zero => simp at he; omega
  | succ m ih =>
    by_cases hm : due / 64 ^ m = now / 64 ^ m
    · obtain ⟨k, j, h1, h2, h3⟩ := ih hm
      exact ⟨k, j, by omega, h2, h3⟩
    · have hle := Nat.div_le_div_right (c := 64 ^ m) (Nat.le_of_lt h)
      exact ⟨m, due / 64 ^ m % 64, by omega, Nat.mod_lt _ (by omega), he, by omega, rfl⟩
/-- Its group, by the wheel's. -/
theorem At.group {now due k j : Nat} (h : At now due k j) : due / 64 ^ k = now / 64 ^ (k + 1) * 64 + j := by
  have h1 := Nat.div_add_mod (due / 64 ^ k) 64
  rw [h.2.2, ← div64s, h.1] at h1
  omega
theorem fromOf_eq (now k j : Nat) : fromOf now k j = (now / 64 ^ (k + 1) * 64 + j) * 64 ^ k := by
  unfold fromOf
  rw [p64s, Nat.add_mul, Nat.mul_assoc, Nat.mul_comm 64]
theorem At.from {now due k j : Nat} (h : At now due k j) : fromOf now k j ≤ due ∧ due < fromOf now k j + 64 ^ k ∧ now < fromOf now k j := by
  have hp := p64 k
  have h1 := Nat.div_add_mod due (64 ^ k)
  have h2 := Nat.mod_lt due hp
  have h3 := Nat.div_add_mod now (64 ^ k)
  have h4 := Nat.mod_lt now hp
  have h5 := h.2.1
  rw [fromOf_eq, ← h.group]
  rw [Nat.mul_comm] at h1 h3
  refine ⟨by omega, by omega, ?_⟩
  have : (now / 64 ^ k + 1) * 64 ^ k ≤ due / 64 ^ k * 64 ^ k := Nat.mul_le_mul_right _ h5
  rw [Nat.add_mul] at this
  omega
/-- A time is less than the end of its own group, and that group's end is no later than a greater one's. -/
theorem up_le (a k m : Nat) (h : k ≤ m) : (a / 64 ^ k + 1) * 64 ^ k ≤ (a / 64 ^ m + 1) * 64 ^ m := by
  obtain ⟨d, rfl⟩ : ∃ d, m = k + d := ⟨m - k, by omega⟩
  rw [Nat.pow_add, ← Nat.div_div_eq_div_mul, ← Nat.mul_assoc, Nat.mul_right_comm]
  refine Nat.mul_le_mul_right _ ?_
  have h1 := Nat.div_add_mod (a / 64 ^ k) (64 ^ d)
  have h2 := Nat.mod_lt (a / 64 ^ k) (p64 d)
  rw [Nat.mul_comm] at h1
  rw [Nat.add_mul]
  omega
theorem lt_up (a k : Nat) : a < (a / 64 ^ k + 1) * 64 ^ k := by
  have h1 := Nat.div_add_mod a (64 ^ k)
  have h2 := Nat.mod_lt a (p64 k)
  rw [Nat.mul_comm] at h1
  rw [Nat.add_mul]
  omega
theorem fromOf_up {now k j : Nat} (hj : j < 64) : fromOf now k j + 64 ^ k ≤ (now / 64 ^ (k + 1) + 1) * 64 ^ (k + 1) := by
  rw [fromOf_eq, p64s, Nat.mul_comm (64 ^ k) 64, ← Nat.mul_assoc]
  have : (now / (64 * 64 ^ k) * 64 + j + 1) * 64 ^ k ≤ ((now / (64 * 64 ^ k) + 1) * 64) * 64 ^ k := Nat.mul_le_mul_right _ (by omega)
  rw [Nat.add_mul, Nat.one_mul] at this
  exact this
/-- Level and slot ahead of another. -/
def Ahead (k j k' j' : Nat) : Prop := k < k' ∨ k = k' ∧ j < j'
/-- What hangs ahead is due first. -/
theorem At.ahead {now due' k j k' j' : Nat} (hj : j < 64) (h' : At now due' k' j') (ha : Ahead k j k' j') : fromOf now k j + 64 ^ k ≤ due' := by
  rcases ha with ha | ⟨rfl, ha⟩
  · refine Nat.le_trans (fromOf_up hj) (Nat.le_trans (up_le now (k + 1) k' (by omega)) ?_)
    refine Nat.le_trans (Nat.mul_le_mul_right _ h'.2.1) ?_
    exact Nat.div_mul_le_self ..
  · refine Nat.le_trans ?_ h'.from.1
    rw [fromOf_eq, fromOf_eq]
    have : (now / 64 ^ (k + 1) * 64 + j + 1) * 64 ^ k ≤ (now / 64 ^ (k + 1) * 64 + j') * 64 ^ k := Nat.mul_le_mul_right _ (by omega)
    rw [Nat.add_mul, Nat.one_mul] at this
    exact this
/-- Between a time and a group's end the groups from there on are equal. -/
theorem div_between {now t k m : Nat} (h1 : now ≤ t) (h2 : t < (now / 64 ^ k + 1) * 64 ^ k) (hm : k ≤ m) : t / 64 ^ m = now / 64 ^ m := by
  refine div_up ?_ hm
  have h3 := Nat.div_le_div_right (c := 64 ^ k) h1
  have h4 := (Nat.div_lt_iff_lt_mul (p64 k)).2 h2
  omega
/-- Time goes on, but not to the first slot's beginning: all hang as they did. -/
theorem At.move {now t due k j k0 j0 : Nat} (h : At now due k j) (h1 : now ≤ t) (hj0 : j0 < 64) (h2 : t < fromOf now k0 j0) (ha : k0 < k ∨ k0 = k ∧ j0 ≤ j) : At t due k j := by
  have h3 : t < (now / 64 ^ (k0 + 1) + 1) * 64 ^ (k0 + 1) := by have := fromOf_up (now := now) (k := k0) hj0; have := p64 k0; omega
  have h4 := div_between h1 h3 (m := k + 1) (by omega)
  refine ⟨by rw [h.1, h4], ?_, h.2.2⟩
  rcases ha with ha | ⟨rfl, ha⟩
  · rw [div_between h1 h3 (m := k) (by omega)]
    exact h.2.1
  · rw [Nat.div_lt_iff_lt_mul (p64 k0), h.group]
    refine Nat.lt_of_lt_of_le h2 ?_
    rw [fromOf_eq]
    exact Nat.mul_le_mul_right _ (by omega)
/-- The groups of the moment at which a slot begins. -/
theorem fromOf_div {now k j m : Nat} (hj : j < 64) (h : now < fromOf now k j) (hm : k + 1 ≤ m) : fromOf now k j / 64 ^ m = now / 64 ^ m := by
  have h3 : fromOf now k j < (now / 64 ^ (k + 1) + 1) * 64 ^ (k + 1) := by have := fromOf_up (now := now) (k := k) hj; have := p64 k; omega
  exact div_between (Nat.le_of_lt h) h3 hm
theorem fromOf_div0 (now k j : Nat) : fromOf now k j / 64 ^ k = now / 64 ^ (k + 1) * 64 + j := by rw [fromOf_eq, Nat.mul_div_cancel _ (p64 k)]
/-- A slot's timers are hung up anew: the others hang as they did. -/
theorem At.spill {now due k j k0 j0 : Nat} (h : At now due k j) (hj0 : j0 < 64) (h0 : now < fromOf now k0 j0) (ha : Ahead k0 j0 k j) : At (fromOf now k0 j0) due k j := by
  have hk : k0 ≤ k := by rcases ha with ha | ⟨rfl, _⟩ <;> omega
  refine ⟨by rw [h.1, fromOf_div hj0 h0 (by omega)], ?_, h.2.2⟩
  rcases ha with ha | ⟨rfl, ha⟩
  · rw [fromOf_div hj0 h0 (by omega)]
    exact h.2.1
  · rw [fromOf_div0, h.group]
    omega
/-- .. and they themselves hang lower, or are over. -/
theorem At.lower {now due k j : Nat} (h : At now due k j) (hl : fromOf now k j < due) : ∃ k' j', k' < k ∧ j' < 64 ∧ At (fromOf now k j) due k' j' := by
  refine At.ex hl ?_
  rw [fromOf_div0, h.group]
/-- The level by the bits in which they differ. -/
theorem At.xor {now due k j : Nat} (h : At now due k j) : 64 ^ k ≤ (due ^^^ now) ∧ (due ^^^ now) < 64 ^ (k + 1) := by
  have e : ∀ m, 64 ^ m = 2 ^ (6 * m) := fun m => by rw [Nat.pow_mul]
  have hx : ∀ m, (due ^^^ now) / 64 ^ m = (due / 64 ^ m) ^^^ (now / 64 ^ m) := fun m => by
    rw [e, ← Nat.shiftRight_eq_div_pow, ← Nat.shiftRight_eq_div_pow, ← Nat.shiftRight_eq_div_pow, Nat.shiftRight_xor_distrib]
  constructor
  · rcases Nat.lt_or_ge (due ^^^ now) (64 ^ k) with hl | hl
    · have h0 := Nat.div_eq_of_lt hl
      rw [hx] at h0
      have h1 : due / 64 ^ k = now / 64 ^ k := by
        apply Nat.eq_of_testBit_eq
        intro i
        have := congrArg (fun n => n.testBit i) h0
        simpa using this
      have := h.2.1
      omega
    · exact hl
  · rcases Nat.lt_or_ge (due ^^^ now) (64 ^ (k + 1)) with hl | hl
    · exact hl
    · have h0 : (due ^^^ now) / 64 ^ (k + 1) = 0 := by rw [hx, h.1, Nat.xor_self]
      have := Nat.div_pos hl (p64 (k + 1))
      omega
end Go.Proofs.YtgidjgkafbjkpaaGreatDoor
