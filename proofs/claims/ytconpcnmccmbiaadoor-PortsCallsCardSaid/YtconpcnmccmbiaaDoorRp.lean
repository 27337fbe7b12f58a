/- An argument that is a slice of pairs of numbers. -/
import Derived.Test.YtconpcnmccmbiaaDoorPl
import Derived.Test.YtconpcnmccmbiaaDoorLawKit
import Derived.Deep.SlicePairs
namespace Go.Proofs.YtconpcnmccmbiaaDoor
open Go.ChangeShapes Go.WideShapes Go.ChangeAt Go.RowKit Go.Deep

theorem add_plain' {a : Addr} (h : a.spot = none) (j : Nat) : a.add j = ⟨a.block, a.off + j, none⟩ := by
  obtain ⟨b, o, s⟩ := a
  simp at h
  subst h
  unfold Addr.add
  split <;> simp_all
theorem spot_none {w : World} {a : Addr} {v : Value} (h : w.cell? a = some v) : a.spot = none := by
  cases hs : a.spot with
  | none => rfl
  | some q => simp [World.cell?, hs] at h; split at h <;> cases h

section
variable {H : Type} {enc : TypeId × Value → H}
theorem open_rdp {P : Program} {W : World} {base : Nat} {t e : TypeId} {f0 f1 : Field} {v : Value} {d : DataW H} {p : List MemPlace} (ht : P.underlying t = some (.slice e)) (he : P.underlying e = some (.struct #[f0, f1]))
    (ce : P.cellsOf e = 2) (o0 : f0.offset = 0) (o1 : f1.offset = 1) (c0 : P.cellsOf f0.type = 1) (c1 : P.cellsOf f1.type = 1) (i0 : P.underlying f0.type = some (.int .i64)) (i1 : P.underlying f1.type = some (.int .i64))
    (hv : Value.okWide P W .any base t v) (h : DataW.Trod enc P W 0 (fun _ => true) true t v d p) :
    ∃ A xs c, v = .slice A xs.length c ∧ RdP W A xs ∧ ∀ x ∈ xs, (Lit.int .i64 x.1).wf = true ∧ (Lit.int .i64 x.2).wf = true := by
  obtain ⟨a0, len, cap, rfl⟩ := okWide_slice ht hv
  obtain ⟨fuel, hf⟩ := h
  rcases open_slice_pairs ht he ce o0 o1 c0 c1 hf with ⟨hcs, hx⟩ | ⟨a, len', cap', m, n, V0, V1, D0, D1, P0, P1, hcs, _, hl, hm, hmm, hx, hat⟩
  · simp [Value.cells] at hcs
    obtain ⟨rfl, rfl, rfl⟩ := hcs
    exact ⟨none, [], 0, rfl, ⟨by simp, .inl rfl⟩, fun x hx => by cases hx⟩
  · simp [Value.cells] at hcs
    obtain ⟨rfl, rfl, rfl⟩ := hcs
    simp at hmm
    subst hmm
    have hget : ∀ i, i < len → ∃ x y, V0 i = .int .i64 x ∧ V1 i = .int .i64 y ∧ (Lit.int .i64 x).wf = true ∧ (Lit.int .i64 y).wf = true := by
      intro i hi
      obtain ⟨_, _, h3, h4⟩ := hat i (by omega)
      obtain ⟨x, e0, _, wx⟩ := DataW.trod_int i0 h3
      obtain ⟨y, e1, _, wy⟩ := DataW.trod_int i1 h4
      simp at e0 e1
      exact ⟨x, y, e0, e1, wx, wy⟩
    obtain ⟨X, hX⟩ : ∃ X : Nat → Int × Int, ∀ i, i < len → V0 i = .int .i64 (X i).1 ∧ V1 i = .int .i64 (X i).2 ∧ (Lit.int .i64 (X i).1).wf = true ∧ (Lit.int .i64 (X i).2).wf = true := by
      refine ⟨fun i => if hi : i < len then ((hget i hi).choose, (hget i hi).choose_spec.choose) else (0, 0), fun i hi => ?_⟩
      simp only [hi, dif_pos]
      have := (hget i hi).choose_spec.choose_spec
      exact this
    have hlen : ((List.range len).map X).length = len := by simp
    refine ⟨some a, (List.range len).map X, m, by rw [hlen], ⟨by rw [hlen]; unfold maxLen at hm; omega, ?_⟩, fun x hx => ?_⟩
    · by_cases h0 : len = 0
      · exact .inl (by rw [hlen]; exact h0)
      · right
        have hsp : a.spot = none := by
          have h1 := (hat 0 (by omega)).1
          have := spot_none h1
          simpa [Addr.add] using this
        refine ⟨a.block, a.off, by obtain ⟨b, o, s⟩ := a; simp at hsp; subst hsp; rfl, fun j hj => ?_⟩
        rw [hlen] at hj
        obtain ⟨g1, g2, _, _⟩ := hat j (by omega)
        rw [add_plain' hsp] at g1 g2
        obtain ⟨q1, q2, _⟩ := hX j hj
        have e : ((List.range len).map X).getD j (0, 0) = X j := by simp [hj]
        rw [e]
        exact ⟨by rw [g1, q1], by rw [show a.off + j * 2 + 1 = a.off + (j * 2 + 1) from by omega, g2, q2]⟩
    · obtain ⟨i, hi, rfl⟩ := List.mem_map.1 hx
      have := hX i (by simpa using hi)
      exact this.2.2
theorem getD_pair {xs : List (Int × Int)} (h : ∀ x ∈ xs, (Lit.int .i64 x.1).wf = true ∧ (Lit.int .i64 x.2).wf = true) (j : Nat) : -9223372036854775808 ≤ (xs.getD j (0, 0)).2 ∧ (xs.getD j (0, 0)).2 ≤ 9223372036854775807 := by
  by_cases hj : j < xs.length
  · have h1 := bounds_i64 (h (xs[j]) (List.getElem_mem hj)).2
    simp [hj]
    omega
  · rw [List.getD_eq_getElem?_getD, List.getElem?_eq_none (by omega)]; simp
end
end Go.Proofs.YtconpcnmccmbiaaDoor
