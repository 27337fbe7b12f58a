/- Ports that are taken, as bits of words: plain facts on numbers and functions. -/
namespace Go.Proofs.YtconpcnmccmbiaaDoor

/-- A port's bit. -/
def bit (ws : Nat → Nat) (k : Nat) : Bool := (ws (k / 64)).testBit (k % 64)
/-- A port's bit is turned. -/
def flipW (ws : Nat → Nat) (k : Nat) : Nat → Nat := fun j => if j = k / 64 then ws j ^^^ 2 ^ (k % 64) else ws j
/-- A function turned at one place. -/
def upd (T : Nat → Bool) (k : Nat) (b : Bool) : Nat → Bool := fun j => if j = k then b else T j
/-- At how many places below m a function says no. -/
def cnt (T : Nat → Bool) : Nat → Nat
  | 0 => 0
  | m + 1 => cnt T m + if T m then 0 else 1

theorem bit_flip (ws : Nat → Nat) (k j : Nat) : bit (flipW ws k) j = if j = k then !bit ws k else bit ws j := by
  unfold bit flipW
  by_cases h : j = k
  · subst h; simp [Nat.testBit_xor, Nat.testBit_two_pow_self]
  · rw [if_neg h]
    by_cases h2 : j / 64 = k / 64
    · rw [if_pos h2, Nat.testBit_xor, Nat.testBit_two_pow_of_ne (by omega)]; simp
    · rw [if_neg h2]
theorem flipW_lt (ws : Nat → Nat) (h : ∀ j, ws j < 18446744073709551616) (k : Nat) : ∀ j, flipW ws k j < 18446744073709551616 := by
  intro j
  unfold flipW
  split
  · have h1 : ws j < 2 ^ 64 := h j
    have h2 : 2 ^ (k % 64) < 2 ^ 64 := Nat.pow_lt_pow_right (by omega) (by omega)
    exact Nat.xor_lt_two_pow h1 h2
  · exact h j
theorem flipW_at (ws : Nat → Nat) (k : Nat) : flipW ws k (k / 64) = ws (k / 64) ^^^ 2 ^ (k % 64) := by simp [flipW]
theorem flipW_other (ws : Nat → Nat) (k j : Nat) (h : j ≠ k / 64) : flipW ws k j = ws j := by simp [flipW, h]

theorem cnt_congr (T U : Nat → Bool) : ∀ m, (∀ k, k < m → T k = U k) → cnt T m = cnt U m
  | 0, _ => rfl
  | m + 1, h => by unfold cnt; rw [cnt_congr T U m (fun k hk => h k (by omega)), h m (by omega)]
theorem cnt_le (T : Nat → Bool) : ∀ m, cnt T m ≤ m
  | 0 => Nat.le_refl _
  | m + 1 => by have := cnt_le T m; unfold cnt; split <;> omega
theorem cnt_zero (T : Nat → Bool) : ∀ m, cnt T m = 0 → ∀ k, k < m → T k = true
  | 0, _, k, hk => by omega
  | m + 1, h, k, hk => by
    unfold cnt at h
    by_cases hm : T m
    · by_cases he : k = m
      · subst he; exact hm
      · exact cnt_zero T m (by omega) k (by omega)
    · rw [if_neg hm] at h; omega
theorem cnt_all (T : Nat → Bool) : ∀ m, (∀ k, k < m → T k = true) → cnt T m = 0
  | 0, _ => rfl
  | m + 1, h => by unfold cnt; rw [cnt_all T m (fun k hk => h k (by omega)), h m (by omega)]; rfl
theorem cnt_none (T : Nat → Bool) : ∀ m, (∀ k, k < m → T k = false) → cnt T m = m
  | 0, _ => rfl
  | m + 1, h => by unfold cnt; rw [cnt_none T m (fun k hk => h k (by omega)), h m (by omega)]; rfl
theorem cnt_lay (T : Nat → Bool) (k : Nat) : ∀ m, k < m → T k = false → cnt (upd T k true) m + 1 = cnt T m
  | 0, h, _ => by omega
  | m + 1, h, hT => by
    unfold cnt
    by_cases he : k = m
    · subst he
      rw [cnt_congr (upd T k true) T k (fun j hj => by simp [upd]; omega), hT]
      simp [upd]
    · have := cnt_lay T k m (by omega) hT
      have e : upd T k true m = T m := by simp [upd]; omega
      rw [e]; omega
theorem cnt_give (T : Nat → Bool) (k : Nat) : ∀ m, k < m → T k = true → cnt (upd T k false) m = cnt T m + 1
  | 0, h, _ => by omega
  | m + 1, h, hT => by
    unfold cnt
    by_cases he : k = m
    · subst he
      rw [cnt_congr (upd T k false) T k (fun j hj => by simp [upd]; omega), hT]
      simp [upd]
    · have := cnt_give T k m (by omega) hT
      have e : upd T k false m = T m := by simp [upd]; omega
      rw [e]; omega
theorem cnt_pos (T : Nat → Bool) (m : Nat) (h : cnt T m ≠ 0) : ∃ k, k < m ∧ T k = false := by
  apply Classical.byContradiction
  intro hn
  apply h
  apply cnt_all
  intro k hk
  cases hT : T k with
  | true => rfl
  | false => exact absurd ⟨k, hk, hT⟩ hn

/-- k is the first place from a on, below m, at which T says no. -/
def First (T : Nat → Bool) (a m k : Nat) : Prop := a ≤ k ∧ k < m ∧ T k = false ∧ ∀ j, a ≤ j → j < k → T j = true
/-- There is none. -/
def Full (T : Nat → Bool) (a m : Nat) : Prop := ∀ j, a ≤ j → j < m → T j = true
theorem First.unique {T : Nat → Bool} {a m k l : Nat} (h : First T a m k) (h' : First T a m l) : k = l := by
  rcases Nat.lt_trichotomy k l with hl | he | hg
  · have := h'.2.2.2 k h.1 hl; rw [h.2.2.1] at this; cases this
  · exact he
  · have := h.2.2.2 l h'.1 hg; rw [h'.2.2.1] at this; cases this
theorem first_or (T : Nat → Bool) (m : Nat) : ∀ d a, m - a = d → Full T a m ∨ ∃ k, First T a m k
  | 0, a, h => .inl (fun j hj hm => by omega)
  | d + 1, a, h => by
    cases hT : T a with
    | false => exact .inr ⟨a, Nat.le_refl _, by omega, hT, fun j h1 h2 => by omega⟩
    | true =>
      rcases first_or T m d (a + 1) (by omega) with hf | ⟨k, h1, h2, h3, h4⟩
      · exact .inl (fun j hj hm => by
          by_cases he : j = a
          · subst he; exact hT
          · exact hf j (by omega) hm)
      · exact .inr ⟨k, by omega, h2, h3, fun j hj hk => by
          by_cases he : j = a
          · subst he; exact hT
          · exact h4 j (by omega) hk⟩
/-- The port that is taken where none is wished for: the first free one from the mark on, else the first free one. -/
def Next (T : Nat → Bool) (mark m k : Nat) : Prop := First T mark m k ∨ Full T mark m ∧ First T 0 m k
theorem next_or (T : Nat → Bool) (mark m : Nat) (h : cnt T m ≠ 0) : ∃ k, Next T mark m k := by
  rcases first_or T m _ mark rfl with hf | ⟨k, hk⟩
  · rcases first_or T m _ 0 rfl with hf0 | ⟨k, hk⟩
    · exact absurd (cnt_all T m (fun k hk => hf0 k (Nat.zero_le _) hk)) h
    · exact ⟨k, .inr ⟨hf, hk⟩⟩
  · exact ⟨k, .inl hk⟩
theorem Next.lt {T : Nat → Bool} {mark m k : Nat} (h : Next T mark m k) : k < m := by
  rcases h with h | h
  · exact h.2.1
  · exact h.2.2.1
theorem Next.free {T : Nat → Bool} {mark m k : Nat} (h : Next T mark m k) : T k = false := by
  rcases h with h | h
  · exact h.2.2.1
  · exact h.2.2.2.1
theorem Next.unique {T : Nat → Bool} {mark m k l : Nat} (h : Next T mark m k) (h' : Next T mark m l) : k = l := by
  rcases h with h | ⟨hf, h⟩ <;> rcases h' with h' | ⟨hf', h'⟩
  · exact h.unique h'
  · have := hf' k h.1 h.2.1; rw [h.2.2.1] at this; cases this
  · have := hf l h'.1 h'.2.1; rw [h'.2.2.1] at this; cases this
  · exact h.unique h'

/-! ### words -/
theorem shr_and_one (x i : Nat) : ((x >>> i) &&& 1 != 0) = x.testBit i := by
  rw [Nat.testBit, Nat.and_comm]
theorem testBit_lt (x i : Nat) (hx : x < 18446744073709551616) (h : x.testBit i = true) : i < 64 := by
  apply Classical.byContradiction
  intro hn
  have : x < 2 ^ i := Nat.lt_of_lt_of_le (show x < 2 ^ 64 from hx) (Nat.pow_le_pow_right (by omega) (by omega))
  rw [Nat.testBit_lt_two_pow this] at h
  cases h
end Go.Proofs.YtconpcnmccmbiaaDoor
