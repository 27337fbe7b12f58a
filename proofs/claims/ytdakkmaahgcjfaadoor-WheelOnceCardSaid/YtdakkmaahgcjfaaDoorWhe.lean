/- Ranging over a map with int keys. -/
import Derived.Test.YtdakkmaahgcjfaaDoorMp
import Derived.Maps.RangeRun
set_option linter.unusedVariables false
set_option linter.unusedSimpArgs false
namespace Go.Proofs.YtdakkmaahgcjfaaDoor
open Go.RowKit

open Go.ChangeMaps (setBlock)
/-- Block r goes over the map in block b; the keys in D have been. -/
def IIt (w : World) (r b clock : Nat) (L : List Ent) (D : List Int) : Prop :=
  ∃ since seen c0, w.heap[r]? = some (.mapIter (some b) since seen c0) ∧ (since ≤ c0 ∧ since ≤ clock) ∧ (∀ e ∈ L, e.born < since) ∧ ∀ e ∈ L, (seen.contains e.born = true ↔ e.k ∈ D)
theorem IIt.lt {w : World} {r b clock : Nat} {L : List Ent} {D : List Int} (h : IIt w r b clock L D) : r < w.heap.size := by
  obtain ⟨_, _, _, h1, _⟩ := h
  rcases Nat.lt_or_ge r w.heap.size with h | h
  · exact h
  · rw [Array.getElem?_eq_none h] at h1; cases h1
theorem IIt.kept {S : Nat → Prop} {w w' : World} {r b clock : Nat} {L : List Ent} {D : List Int} (h : IIt w r b clock L D) (hk : Kp S w w') (hn : ¬ S r) : IIt w' r b clock L D := by
  have hlt := h.lt
  obtain ⟨since, seen, c0, h1, h2⟩ := h
  exact ⟨since, seen, c0, (hk.block r hlt hn).trans h1, h2⟩
theorem nodup_inj {α β : Type} {f : α → β} : ∀ {L : List α}, (L.map f).Nodup → ∀ {x y : α}, x ∈ L → y ∈ L → f x = f y → x = y
  | [], _, _, _, h, _, _ => by cases h
  | a :: L, hn, x, y, hx, hy, e => by
    simp only [List.map_cons, List.nodup_cons, List.mem_map, not_exists, not_and] at hn
    rcases List.mem_cons.1 hx with h1 | h1 <;> rcases List.mem_cons.1 hy with h2 | h2
    · exact h1.trans h2.symm
    · subst h1; exact absurd e.symm (hn.1 _ h2)
    · subst h2; exact absurd e (hn.1 _ h1)
    · exact nodup_inj hn.2 h1 h2 e
theorem IMap.born_nd {w : World} {b clock : Nat} {L : List Ent} (h : IMap w b clock L) : (L.map Ent.born).Nodup := h.borns.imp (fun h => Nat.ne_of_lt h)
section
variable {P : Program} {T E K : TypeId}
theorem IMap.run_range {w : World} {b clock : Nat} {L : List Ent} (h : IMap w b clock L) (hT : P.underlying T = some (.map K E)) :
    (Instr.range T (.map (some b))).run P w = .ok (.pointer (some ⟨w.heap.size, 0, none⟩)) (w.alloc (.mapIter (some b) clock #[] clock)) ∧ IIt (w.alloc (.mapIter (some b) clock #[] clock)) w.heap.size b clock L [] := by
  refine ⟨run_range_map w T K E b _ clock hT h.at_, clock, #[], clock, heap_alloc_new w _, ⟨Nat.le_refl _, Nat.le_refl _⟩, h.below, fun e he => by simp⟩
theorem IMap.next {w : World} {r b clock : Nat} {L : List Ent} {D : List Int} (h : IMap w b clock L) (hi : IIt w r b clock L D) (ty : TypeId) :
    ((∀ e ∈ L, e.k ∈ D) ∧ (Instr.next (.pointer (some ⟨r, 0, none⟩)) false ty).run P w = .ok (.tuple #[.bool false]) w) ∨
    ∃ e ∈ L, e.k ∉ D ∧ ∃ w' : World, (Instr.next (.pointer (some ⟨r, 0, none⟩)) false ty).run P w = .ok (.tuple #[.bool true, .int .i64 e.k, e.v]) w' ∧ Kp (fun x => x = r) w w' ∧ IMap w' b clock L ∧ IIt w' r b clock L (e.k :: D) ∧
      (Instr.entry (.pointer (some ⟨r, 0, none⟩))).run P w' = .ok (.tuple #[.int .i64 e.k, e.v]) w' := by
  have hbr : b ≠ r := by
    rintro rfl
    obtain ⟨_, _, _, h1, _⟩ := hi
    rw [h.at_] at h1
    cases h1
  have hrlt := hi.lt
  obtain ⟨since, seen, c0, h1, h2, h3, h4⟩ := hi
  rcases run_next_at (P := P) w ty r b since c0 seen _ clock h1 h.at_ (by intro x hx; simp at hx; obtain ⟨e, he, rfl⟩ := hx; exact h3 e he) h2.1 with ⟨h0, hrun⟩ | ⟨me, hme, w1, hal, hrun⟩
  · left
    refine ⟨fun e he => ?_, hrun⟩
    rw [← h4 e he]
    have : leftOf (L.map Ent.me).toArray seen = #[] := Array.eq_empty_of_size_eq_zero h0
    unfold leftOf at this
    rw [Array.filter_eq_empty_iff] at this
    have := this e.me (by simp; exact ⟨e, he, rfl⟩)
    simpa [Ent.me] using this
  · right
    unfold leftOf at hme
    simp only [Array.toList_filter, List.mem_filter, List.mem_map] at hme
    obtain ⟨⟨e, he, rfl⟩, hns⟩ := hme
    have hnD : e.k ∉ D := by
      rw [← h4 e he]
      simpa [Ent.me] using hns
    have hr1 : w1.heap[r]? = some (.mapIter (some b) since seen c0) := by rcases hal with rfl | rfl <;> exact h1
    have hb1 : w1.heap[b]? = some (.map (L.map Ent.me).toArray clock) := by rcases hal with rfl | rfl <;> exact h.at_
    have hlt1 : r < w1.heap.size := by rcases hal with rfl | rfl <;> exact hrlt
    have hset : (setBlock w1 r (.mapIter (some b) since (seen.push e.me.born) clock)).heap[r]? = some (.mapIter (some b) since (seen.push e.me.born) clock) := by
      show (w1.heap.setIfInBounds r _)[r]? = _
      rw [Array.getElem?_setIfInBounds_self_of_lt hlt1]
    have hk : Kp (fun x => x = r) w (setBlock w1 r (.mapIter (some b) since (seen.push e.me.born) clock)) := by
      have : ∀ i, i ≠ r → (setBlock w1 r (.mapIter (some b) since (seen.push e.me.born) clock)).heap[i]? = w1.heap[i]? := by
        intro i hi
        show (w1.heap.setIfInBounds r _)[i]? = _
        rw [Array.getElem?_setIfInBounds_ne (fun e => hi e.symm)]
      rcases hal with rfl | rfl
      · exact ⟨rfl, rfl, rfl, by simp [setBlock], fun i _ hi => this i hi⟩
      · exact ⟨rfl, rfl, rfl, by simp [setBlock], fun i _ hi => this i hi⟩
    have hm' := h.kept hk hbr
    refine ⟨e, he, hnD, _, hrun, hk, hm', ⟨since, seen.push e.born, clock, hset, ?_, h3, ?_⟩, ?_⟩
    · exact ⟨h2.2, h2.2⟩
    · intro x hx
      rw [Array.contains_push]
      simp only [Bool.or_eq_true, beq_iff_eq, List.mem_cons]
      rw [h4 x hx]
      constructor
      · rintro (h5 | h5)
        · exact .inr h5
        · exact .inl (congrArg Ent.k (nodup_inj h.born_nd hx he h5))
      · rintro (h5 | h5)
        · exact .inr (congrArg Ent.born (nodup_inj h.keys hx he h5))
        · exact .inl h5
    · exact run_entry_at _ r b since seen _ clock e.me hset hm'.at_ (by simp; exact ⟨e, he, rfl⟩) (by
        rw [List.toList_toArray, List.map_map]
        exact h.born_nd)
end
end Go.Proofs.YtdakkmaahgcjfaaDoor
