/- Wheel: what the wheel's maps hold: the invariant, and what hanging up, cancelling and time do to it. -/
import Derived.Test.YtgidjgkafbjkpaaGreatDoorWpl
import Derived.Test.YtgidjgkafbjkpaaGreatDoorMp
namespace Go.Proofs.YtgidjgkafbjkpaaGreatDoor
open Go.RowKit

/-- Where a timer hangs. -/
inductive Pos where
  | over
  | slot (k j : Nat)
deriving DecidableEq
/-- A timer's spot. -/
def spotV (d : Nat) : Pos → Value
  | .over => .agg #[.int .u64 d, .int .i64 (-1), .int .i64 0]
  | .slot k j => .agg #[.int .u64 d, .int .i64 k, .int .i64 j]
theorem spotV_inj {d d' : Nat} {p p' : Pos} (h : spotV d p = spotV d' p') : d = d' ∧ p = p' := by
  cases p with
  | over =>
    cases p' with
    | over => simp [spotV] at h; exact ⟨by omega, rfl⟩
    | slot k j => simp [spotV] at h
  | slot k j =>
    cases p' with
    | over => simp [spotV] at h
    | slot k' j' =>
      simp [spotV] at h
      obtain ⟨h1, h2, h3⟩ := h
      obtain rfl : k = k' := by omega
      obtain rfl : j = j' := by omega
      exact ⟨by omega, rfl⟩
def Hangs (now d : Nat) : Pos → Prop
  | .over => d ≤ now
  | .slot k j => At now d k j
theorem Hangs.uniq {now d : Nat} {p p' : Pos} (h : Hangs now d p) (h' : Hangs now d p') : p = p' := by
  cases p <;> cases p'
  · rfl
  · have := At.lt h'; simp only [Hangs] at h; omega
  · have := At.lt h; simp only [Hangs] at h'; omega
  · obtain ⟨rfl, rfl⟩ := At.uniq h h'; rfl
/-- The greatest time. -/
def TOP : Nat := 4611686018427387904
theorem lt_top {d : Nat} (h : d ≤ TOP) : d / 64 ^ 11 = 0 := Nat.div_eq_of_lt (Nat.lt_of_le_of_lt h (by decide))
theorem Hangs.ex {now d : Nat} (hn : now ≤ TOP) (h : d ≤ TOP) : d ≤ now ∨ ∃ k j, k < 11 ∧ j < 64 ∧ At now d k j := by
  rcases Nat.lt_or_ge now d with hl | hl
  · exact .inr (At.ex hl (by rw [lt_top hn, lt_top h]))
  · exact .inl hl
theorem At.lt11 {now d k j : Nat} (hn : now ≤ TOP) (h : d ≤ TOP) (ha : At now d k j) : k < 11 := by
  obtain ⟨k', j', h1, h2, h3⟩ := At.ex ha.lt (m := 11) (by rw [lt_top hn, lt_top h])
  obtain ⟨rfl, _⟩ := At.uniq ha h3
  exact h1
/-- Is a key there? -/
def has (i : Int) (M : List Ent) : Prop := (mget i M).isSome = true
theorem has_nil (i : Int) : ¬ has i [] := by simp [has, mget]
theorem mget_mput (i j : Int) (v : Value) (c : Nat) (L : List Ent) : mget j (mput i v c L) = if j = i then some v else mget j L := by
  unfold mput
  by_cases h : (mget i L).isSome = true
  · rw [if_pos h, mget_mset]
    obtain ⟨u, hu⟩ := Option.isSome_iff_exists.1 h
    rw [hu]
    rfl
  · rw [if_neg h, mget_append]
    have h0 : mget i L = none := by simpa using h
    by_cases hj : j = i
    · subst hj; simp [h0, mget]
    · have : ¬ i = j := fun e => hj e.symm
      simp [hj, mget, this]
theorem has_mput (i j : Int) (v : Value) (c : Nat) (M : List Ent) : has j (mput i v c M) ↔ j = i ∨ has j M := by
  unfold has
  rw [mget_mput]
  by_cases h : j = i <;> simp [h]
theorem has_mdel {i j : Int} {M : List Ent} (hn : (M.map Ent.k).Nodup) : has j (mdel i M) ↔ j ≠ i ∧ has j M := by
  unfold has
  rw [mget_mdel i j M hn]
  by_cases h : j = i <;> simp [h]
theorem has_of_ne {M : List Ent} (h : M ≠ []) : ∃ i, has i M := by
  cases M with
  | nil => exact absurd rfl h
  | cons e es => exact ⟨e.k, by simp [has, mget]⟩
def upd2 (sl : Nat → Nat → List Ent) (k j : Nat) (M : List Ent) : Nat → Nat → List Ent := fun k' j' => if k' = k ∧ j' = j then M else sl k' j'
def upd1 (full : Nat → Nat) (k v : Nat) : Nat → Nat := fun k' => if k' = k then v else full k'
/-- THE INVARIANT, but for the timers of X, which hang nowhere. -/
structure Inv (now : Nat) (L ov : List Ent) (sl : Nat → Nat → List Ent) (full : Nat → Nat) (X : Int → Prop) : Prop where
  now_le : now ≤ TOP
  spot : ∀ i v, mget i L = some v → ∃ d p, v = spotV d p ∧ d ≤ TOP ∧ (¬ X i → Hangs now d p)
  over : ∀ i, ¬ X i → (has i ov ↔ ∃ d, mget i L = some (spotV d .over))
  slots : ∀ k j i, ¬ X i → (has i (sl k j) ↔ ∃ d, mget i L = some (spotV d (.slot k j)))
  nowhere : ∀ i, X i → (mget i L).isSome = true ∧ ¬ has i ov ∧ ∀ k j, ¬ has i (sl k j)
  bits : ∀ k j, j < 64 → ((full k).testBit j = true ↔ ∃ i, has i (sl k j))
  full_lt : ∀ k, full k < 2 ^ 64
theorem Inv.congr {now : Nat} {L ov : List Ent} {sl : Nat → Nat → List Ent} {full : Nat → Nat} {X Y : Int → Prop} (h : Inv now L ov sl full X) (e : ∀ i, X i ↔ Y i) : Inv now L ov sl full Y := by
  obtain rfl : X = Y := funext fun i => propext (e i)
  exact h
variable {now : Nat} {L ov : List Ent} {sl : Nat → Nat → List Ent} {full : Nat → Nat} {X : Int → Prop}
theorem Inv.spot_of (h : Inv now L ov sl full X) {i : Int} {d : Nat} {p : Pos} (hg : mget i L = some (spotV d p)) (hX : ¬ X i) : Hangs now d p ∧ d ≤ TOP := by
  obtain ⟨d', p', e, h1, h2⟩ := h.spot i _ hg
  obtain ⟨rfl, rfl⟩ := spotV_inj e
  exact ⟨h2 hX, h1⟩
theorem testBit_or_pow (n j i : Nat) : (n ||| 2 ^ j).testBit i = (n.testBit i || decide (j = i)) := by
  rw [Nat.testBit_or, Nat.testBit_two_pow]
theorem or_pow_lt {n j : Nat} (h : n < 2 ^ 64) (hj : j < 64) : n ||| 2 ^ j < 2 ^ 64 := Nat.or_lt_two_pow h (Nat.pow_lt_pow_right (by omega) hj)
/-- A timer that hangs nowhere, or isn't there, is hung up over. -/
theorem Inv.hang_over (h : Inv now L ov sl full X) {i : Int} {d c c' : Nat} (hi : X i ∨ mget i L = none) (hd : d ≤ now) :
    Inv now (mput i (spotV d .over) c L) (mput i (.bool true) c' ov) sl full (fun x => X x ∧ x ≠ i) := by
  refine ⟨h.now_le, ?_, ?_, ?_, ?_, h.bits, h.full_lt⟩
  · intro x v hv
    rw [mget_mput] at hv
    by_cases hx : x = i
    · rw [if_pos hx] at hv
      exact ⟨d, .over, (by cases hv; rfl), Nat.le_trans hd h.now_le, fun _ => hd⟩
    · rw [if_neg hx] at hv
      obtain ⟨d', p', e, h1, h2⟩ := h.spot x v hv
      exact ⟨d', p', e, h1, fun hX => h2 (fun hx' => hX ⟨hx', hx⟩)⟩
  · intro x hX
    rw [has_mput, mget_mput]
    by_cases hx : x = i
    · simp only [hx, if_true, true_or, true_iff]
      exact ⟨d, rfl⟩
    · simp only [hx, if_false, false_or]
      exact h.over x (fun hx' => hX ⟨hx', hx⟩)
  · intro k j x hX
    rw [mget_mput]
    by_cases hx : x = i
    · simp only [hx, if_true]
      constructor
      · intro hs
        exfalso
        rcases hi with hi | hi
        · exact (h.nowhere i hi).2.2 k j hs
        · by_cases hXi : X i
          · exact (h.nowhere i hXi).2.2 k j hs
          · obtain ⟨d', e⟩ := (h.slots k j i hXi).1 hs
            rw [hi] at e; cases e
      · rintro ⟨d', e⟩
        have := spotV_inj (Option.some.inj e)
        cases this.2
    · simp only [hx, if_false]
      exact h.slots k j x (fun hx' => hX ⟨hx', hx⟩)
  · rintro x ⟨hX, hx⟩
    obtain ⟨h1, h2, h3⟩ := h.nowhere x hX
    refine ⟨?_, ?_, h3⟩
    · rw [mget_mput, if_neg hx]; exact h1
    · rw [has_mput]
      rintro (he | he)
      · exact hx he
      · exact h2 he
/-- .. or into a slot. -/
theorem Inv.hang_slot (h : Inv now L ov sl full X) {i : Int} {d c c' k j : Nat} (hi : X i ∨ mget i L = none) (hd : d ≤ TOP) (ha : At now d k j) :
    Inv now (mput i (spotV d (.slot k j)) c L) ov (upd2 sl k j (mput i (.bool true) c' (sl k j))) (upd1 full k (full k ||| 2 ^ j)) (fun x => X x ∧ x ≠ i) := by
  have hnot : ∀ M, (M = ov ∨ ∃ k j, M = sl k j) → ¬ has i M := by
    intro M hM hs
    rcases hi with hi | hi
    · rcases hM with rfl | ⟨k, j, rfl⟩
      · exact (h.nowhere i hi).2.1 hs
      · exact (h.nowhere i hi).2.2 k j hs
    · by_cases hXi : X i
      · have := (h.nowhere i hXi).1; rw [hi] at this; cases this
      · rcases hM with rfl | ⟨k, j, rfl⟩
        · obtain ⟨d', e⟩ := (h.over i hXi).1 hs; rw [hi] at e; cases e
        · obtain ⟨d', e⟩ := (h.slots k j i hXi).1 hs; rw [hi] at e; cases e
  refine ⟨h.now_le, ?_, ?_, ?_, ?_, ?_, ?_⟩
  · intro x v hv
    rw [mget_mput] at hv
    by_cases hx : x = i
    · rw [if_pos hx] at hv
      exact ⟨d, .slot k j, (by cases hv; rfl), hd, fun _ => ha⟩
    · rw [if_neg hx] at hv
      obtain ⟨d', p', e, h1, h2⟩ := h.spot x v hv
      exact ⟨d', p', e, h1, fun hX => h2 (fun hx' => hX ⟨hx', hx⟩)⟩
  · intro x hX
    rw [mget_mput]
    by_cases hx : x = i
    · simp only [hx, if_true]
      constructor
      · intro hs; exact absurd hs (hnot ov (.inl rfl))
      · rintro ⟨d', e⟩
        have := spotV_inj (Option.some.inj e)
        cases this.2
    · simp only [hx, if_false]
      exact h.over x (fun hx' => hX ⟨hx', hx⟩)
  · intro k' j' x hX
    rw [mget_mput]
    unfold upd2
    by_cases hkj : k' = k ∧ j' = j
    · obtain ⟨rfl, rfl⟩ := hkj
      simp only [and_self, if_true]
      rw [has_mput]
      by_cases hx : x = i
      · simp only [hx, if_true, true_or, true_iff]
        exact ⟨d, rfl⟩
      · simp only [hx, if_false, false_or]
        exact h.slots k' j' x (fun hx' => hX ⟨hx', hx⟩)
    · simp only [hkj, if_false]
      by_cases hx : x = i
      · simp only [hx, if_true]
        constructor
        · intro hs; exact absurd hs (hnot _ (.inr ⟨k', j', rfl⟩))
        · rintro ⟨d', e⟩
          have := spotV_inj (Option.some.inj e)
          injection this.2 with h1 h2
          exact absurd ⟨h1.symm, h2.symm⟩ hkj
      · simp only [hx, if_false]
        exact h.slots k' j' x (fun hx' => hX ⟨hx', hx⟩)
  · rintro x ⟨hX, hx⟩
    obtain ⟨h1, h2, h3⟩ := h.nowhere x hX
    refine ⟨?_, h2, fun k' j' => ?_⟩
    · rw [mget_mput, if_neg hx]; exact h1
    · unfold upd2
      by_cases hkj : k' = k ∧ j' = j
      · obtain ⟨rfl, rfl⟩ := hkj
        simp only [and_self, if_true]
        rw [has_mput]
        rintro (he | he)
        · exact hx he
        · exact h3 k' j' he
      · simp only [hkj, if_false]; exact h3 k' j'
  · intro k' j' hj'
    unfold upd1 upd2
    by_cases hk : k' = k
    · subst hk
      simp only [if_true, true_and]
      rw [testBit_or_pow]
      by_cases hj : j' = j
      · subst hj
        simp only [decide_true, Bool.or_true, if_true, true_iff]
        exact ⟨i, by rw [has_mput]; exact .inl rfl⟩
      · have : ¬ j = j' := fun e => hj e.symm
        simp only [this, decide_false, Bool.or_false, hj, if_false]
        exact h.bits k' j' hj'
    · simp only [hk, false_and, if_false]
      exact h.bits k' j' hj'
  · intro k'
    unfold upd1
    by_cases hk : k' = k
    · simp only [hk, if_true]; exact or_pow_lt (h.full_lt k) ha.slot
    · simp only [hk, if_false]; exact h.full_lt k'
/-- A timer that is over is cancelled. -/
theorem Inv.del_over (h : Inv now L ov sl full (fun _ => False)) {i : Int} {d : Nat} (hg : mget i L = some (spotV d .over)) (hL : (L.map Ent.k).Nodup) (ho : (ov.map Ent.k).Nodup) :
    Inv now (mdel i L) (mdel i ov) sl full (fun _ => False) := by
  refine ⟨h.now_le, ?_, ?_, ?_, fun _ f => f.elim, h.bits, h.full_lt⟩
  · intro x v hv
    rw [mget_mdel i x L hL] at hv
    by_cases hx : x = i
    · rw [if_pos hx] at hv; cases hv
    · rw [if_neg hx] at hv; exact h.spot x v hv
  · intro x hX
    rw [has_mdel ho, mget_mdel i x L hL]
    by_cases hx : x = i
    · simp [hx]
    · simp only [hx, if_false, ne_eq, not_false_eq_true, true_and]; exact h.over x hX
  · intro k j x hX
    rw [mget_mdel i x L hL]
    by_cases hx : x = i
    · simp only [hx, if_true]
      constructor
      · intro hs
        obtain ⟨d', e⟩ := (h.slots k j i (fun f => f)).1 hs
        rw [hg] at e
        have := spotV_inj (Option.some.inj e)
        cases this.2
      · rintro ⟨_, e⟩; cases e
    · simp only [hx, if_false]; exact h.slots k j x hX
/-- A bit is 0. -/
def clr (n j : Nat) : Nat := if n.testBit j then n - 2 ^ j else n
theorem Inv.del_slot (h : Inv now L ov sl full (fun _ => False)) {i : Int} {d k j f' : Nat} (hg : mget i L = some (spotV d (.slot k j))) (hL : (L.map Ent.k).Nodup) (hs : ((sl k j).map Ent.k).Nodup)
    (hf : f' < 2 ^ 64) (hb : ∀ x, x < 64 → (f'.testBit x = true ↔ if x = j then mdel i (sl k j) ≠ [] else (full k).testBit x = true)) :
    Inv now (mdel i L) ov (upd2 sl k j (mdel i (sl k j))) (upd1 full k f') (fun _ => False) := by
  refine ⟨h.now_le, ?_, ?_, ?_, fun _ f => f.elim, ?_, ?_⟩
  · intro x v hv
    rw [mget_mdel i x L hL] at hv
    by_cases hx : x = i
    · rw [if_pos hx] at hv; cases hv
    · rw [if_neg hx] at hv; exact h.spot x v hv
  · intro x hX
    rw [mget_mdel i x L hL]
    by_cases hx : x = i
    · simp only [hx, if_true]
      constructor
      · intro ho
        obtain ⟨d', e⟩ := (h.over i (fun f => f)).1 ho
        rw [hg] at e
        have := spotV_inj (Option.some.inj e)
        cases this.2
      · rintro ⟨_, e⟩; cases e
    · simp only [hx, if_false]; exact h.over x hX
  · intro k' j' x hX
    rw [mget_mdel i x L hL]
    unfold upd2
    by_cases hkj : k' = k ∧ j' = j
    · obtain ⟨rfl, rfl⟩ := hkj
      simp only [and_self, if_true]
      rw [has_mdel hs]
      by_cases hx : x = i
      · simp [hx]
      · simp only [hx, if_false, ne_eq, not_false_eq_true, true_and]; exact h.slots k' j' x hX
    · simp only [hkj, if_false]
      by_cases hx : x = i
      · simp only [hx, if_true]
        constructor
        · intro ho
          obtain ⟨d', e⟩ := (h.slots k' j' i (fun f => f)).1 ho
          rw [hg] at e
          have := (spotV_inj (Option.some.inj e)).2
          injection this with h1 h2
          exact absurd ⟨h1.symm, h2.symm⟩ hkj
        · rintro ⟨_, e⟩; cases e
      · simp only [hx, if_false]; exact h.slots k' j' x hX
  · intro k' j' hj'
    unfold upd1 upd2
    by_cases hk : k' = k
    · subst hk
      simp only [if_true, true_and]
      rw [hb j' hj']
      by_cases hj : j' = j
      · simp only [hj, if_true]
        constructor
        · exact has_of_ne
        · rintro ⟨x, hx⟩ he; rw [he] at hx; exact has_nil x hx
      · simp only [hj, if_false]; exact h.bits k' j' hj'
    · simp only [hk, false_and, if_false]; exact h.bits k' j' hj'
  · intro k'
    unfold upd1
    by_cases hk : k' = k
    · simp only [hk, if_true]; exact hf
    · simp only [hk, if_false]; exact h.full_lt k'
/-- The first slot with timers. -/
structure First (full : Nat → Nat) (k j : Nat) : Prop where
  bit : (full k).testBit j = true
  jlt : j < 64
  low : ∀ k', k' < k → full k' = 0
  least : ∀ j', j' < j → (full k).testBit j' = false
theorem Inv.first_ahead (h : Inv now L ov sl full (fun _ => False)) {k j : Nat} (hf : First full k j) {i : Int} {d k' j' : Nat} (hg : mget i L = some (spotV d (.slot k' j'))) : k' = k ∧ j' = j ∨ Ahead k j k' j' := by
  have hj' := ((h.spot_of hg (fun f => f)).1 : At now d k' j').slot
  have hb := (h.bits k' j' hj').2 ⟨i, (h.slots k' j' i (fun f => f)).2 ⟨d, hg⟩⟩
  rcases Nat.lt_trichotomy k' k with hl | rfl | hl
  · rw [hf.low k' hl] at hb; simp at hb
  · rcases Nat.lt_trichotomy j' j with hl | rfl | hl
    · rw [hf.least j' hl] at hb; cases hb
    · exact .inl ⟨rfl, rfl⟩
    · exact .inr (.inr ⟨rfl, hl⟩)
  · exact .inr (.inl hl)
theorem Inv.first_at (h : Inv now L ov sl full (fun _ => False)) {k j : Nat} (hf : First full k j) : ∃ i d, mget i L = some (spotV d (.slot k j)) ∧ At now d k j ∧ d ≤ TOP := by
  obtain ⟨i, hi⟩ := (h.bits k j hf.jlt).1 hf.bit
  obtain ⟨d, hd⟩ := (h.slots k j i (fun f => f)).1 hi
  exact ⟨i, d, hd, h.spot_of hd (fun f => f)⟩
/-- The first slot's timers are taken down, at the moment at which it begins. -/
theorem Inv.spill (h : Inv now L ov sl full (fun _ => False)) {k j f' : Nat} (hf : First full k j) (hfl : f' < 2 ^ 64) (hb : ∀ x, x < 64 → (f'.testBit x = true ↔ x ≠ j ∧ (full k).testBit x = true)) :
    Inv (fromOf now k j) L ov (upd2 sl k j []) (upd1 full k f') (fun i => has i (sl k j)) := by
  obtain ⟨i0, d0, hg0, ha0, ht0⟩ := h.first_at hf
  have hfr := ha0.from
  refine ⟨Nat.le_trans hfr.1 ht0, ?_, ?_, ?_, ?_, ?_, ?_⟩
  · intro x v hv
    obtain ⟨d, p, e, h1, h2⟩ := h.spot x v hv
    refine ⟨d, p, e, h1, fun hX => ?_⟩
    subst e
    have h3 := h2 (fun f => f)
    cases p with
    | over => exact Nat.le_trans h3 (Nat.le_of_lt hfr.2.2)
    | slot k' j' =>
      rcases h.first_ahead hf hv with ⟨rfl, rfl⟩ | ha
      · exact absurd ((h.slots k' j' x (fun f => f)).2 ⟨d, hv⟩) hX
      · exact At.spill h3 hf.jlt hfr.2.2 ha
  · intro x hX; exact h.over x (fun f => f)
  · intro k' j' x hX
    unfold upd2
    by_cases hkj : k' = k ∧ j' = j
    · obtain ⟨rfl, rfl⟩ := hkj
      simp only [and_self, if_true]
      constructor
      · intro hs; exact absurd hs (has_nil x)
      · rintro ⟨d, hd⟩
        exact absurd ((h.slots k' j' x (fun f => f)).2 ⟨d, hd⟩) hX
    · simp only [hkj, if_false]; exact h.slots k' j' x (fun f => f)
  · intro x hX
    obtain ⟨d, hd⟩ := (h.slots k j x (fun f => f)).1 hX
    refine ⟨by rw [hd]; rfl, fun ho => ?_, fun k' j' => ?_⟩
    · obtain ⟨d', e⟩ := (h.over x (fun f => f)).1 ho
      rw [hd] at e
      have := (spotV_inj (Option.some.inj e)).2
      cases this
    · unfold upd2
      by_cases hkj : k' = k ∧ j' = j
      · simp only [hkj, and_self, if_true]; exact has_nil x
      · simp only [hkj, if_false]
        intro hs
        obtain ⟨d', e⟩ := (h.slots k' j' x (fun f => f)).1 hs
        rw [hd] at e
        have := (spotV_inj (Option.some.inj e)).2
        injection this with h1 h2
        exact hkj ⟨h1.symm, h2.symm⟩
  · intro k' j' hj'
    unfold upd1 upd2
    by_cases hk : k' = k
    · subst hk
      simp only [if_true, true_and]
      rw [hb j' hj']
      by_cases hj : j' = j
      · simp only [hj, ne_eq, not_true_eq_false, false_and, if_true, false_iff]
        rintro ⟨x, hx⟩; exact has_nil x hx
      · simp only [hj, ne_eq, not_false_eq_true, true_and, if_false]; exact h.bits k' j' hj'
    · simp only [hk, false_and, if_false]; exact h.bits k' j' hj'
  · intro k'
    unfold upd1
    by_cases hk : k' = k
    · simp only [hk, if_true]; exact hfl
    · simp only [hk, if_false]; exact h.full_lt k'
/-- The time goes on to t, and no slot begins before. -/
theorem Inv.time (h : Inv now L ov sl full (fun _ => False)) {t : Nat} (h1 : now ≤ t) (h2 : t ≤ TOP) (hf : ∀ k j, First full k j → t < fromOf now k j) (hn : (∀ k, k < 11 → full k = 0) ∨ ∃ k j, First full k j) :
    Inv t L ov sl full (fun _ => False) ∧ ∀ i d p, mget i L = some (spotV d p) → (p = .over ↔ d ≤ t) := by
  have key : ∀ i d k j, mget i L = some (spotV d (.slot k j)) → At t d k j := by
    intro i d k j hg
    have ha : At now d k j := (h.spot_of hg (fun f => f)).1
    rcases hn with hn | ⟨k0, j0, h0⟩
    · have hb := (h.bits k j ha.slot).2 ⟨i, (h.slots k j i (fun f => f)).2 ⟨d, hg⟩⟩
      rw [hn k (ha.lt11 h.now_le (h.spot_of hg (fun f => f)).2)] at hb
      simp at hb
    · refine ha.move h1 h0.jlt (hf k0 j0 h0) ?_
      rcases h.first_ahead h0 hg with ⟨rfl, rfl⟩ | ha2
      · exact .inr ⟨rfl, Nat.le_refl _⟩
      · rcases ha2 with ha2 | ⟨rfl, ha2⟩
        · exact .inl ha2
        · exact .inr ⟨rfl, Nat.le_of_lt ha2⟩
  refine ⟨⟨h2, ?_, h.over, h.slots, fun _ f => f.elim, h.bits, h.full_lt⟩, ?_⟩
  · intro x v hv
    obtain ⟨d, p, e, h3, h4⟩ := h.spot x v hv
    subst e
    refine ⟨d, p, rfl, h3, fun _ => ?_⟩
    cases p with
    | over => exact Nat.le_trans (h4 (fun f => f)) h1
    | slot k j => exact key x d k j hv
  · intro i d p hg
    cases p with
    | over => exact ⟨fun _ => Nat.le_trans (h.spot_of hg (fun f => f)).1 h1, fun _ => rfl⟩
    | slot k j =>
      have := (key i d k j hg).lt
      constructor
      · intro e; cases e
      · intro hd; omega
end Go.Proofs.YtgidjgkafbjkpaaGreatDoor
