/- Wheel's rows: arguments that are slices of calls, a call, slices of whole numbers from 0 on. -/
import Derived.Test.YtdakkmaahgcjfaaDoorLawKit
import Derived.Test.YtdakkmaahgcjfaaDoorWjh
import Derived.Deep.SlicePairs
import Derived.Lib.SmallJoins
set_option linter.unusedVariables false
set_option linter.unusedSimpArgs false
namespace Go.Proofs.YtdakkmaahgcjfaaDoor
open Go.ChangeShapes Go.WideShapes Go.ChangeAt Go.RowKit Go.Deep Go.Joins

theorem add_plain' {a : Addr} (h : a.spot = none) (j : Nat) : a.add j = ⟨a.block, a.off + j, none⟩ := by
  obtain ⟨b, o, s⟩ := a
  simp at h
  subst h
  unfold Addr.add
  split <;> simp_all
theorem spot_none {w : World} {a : Addr} {v : Value} (h : w.cell? a = some v) : a.spot = none := by
  cases hs : a.spot with
  | none => rfl
  | some q => simp [World.cell?, hs] at h; split at h <;> cases h
/-- A slice's cells are these whole numbers. -/
def RdU (w : World) (k : IntKind) (A : Option Addr) (xs : List Nat) : Prop := xs.length ≤ 9223372036854775807 ∧ (xs.length = 0 ∨ ∃ b o, A = some ⟨b, o, none⟩ ∧ ∀ j, j < xs.length → w.cell? ⟨b, o + j, none⟩ = some (.int k ((xs.getD j 0 : Nat) : Int)))
theorem RdU.kp {w w' : World} {k : IntKind} {A : Option Addr} {xs : List Nat} (h : RdU w k A xs) (hk : Kp (fun _ => False) w w') : RdU w' k A xs := by
  refine ⟨h.1, ?_⟩
  rcases h.2 with h | ⟨b, o, rfl, hc⟩
  · exact .inl h
  · exact .inr ⟨b, o, rfl, fun j hj => kp_kc0 (hc j hj) hk⟩
theorem RdU.at_ {w : World} {k : IntKind} {A : Option Addr} {xs : List Nat} (h : RdU w k A xs) {j : Nat} (hj : j < xs.length) : ∃ b o, A = some ⟨b, o, none⟩ ∧ w.cell? ⟨b, o + j, none⟩ = some (.int k ((xs.getD j 0 : Nat) : Int)) := by
  rcases h.2 with h | ⟨b, o, rfl, hc⟩
  · omega
  · exact ⟨b, o, rfl, hc j hj⟩
theorem RdU.of_rdi {w : World} {k : IntKind} {A : Option Addr} {xs : List Int} (h : RdI w k A xs) (hp : ∀ x ∈ xs, 0 ≤ x) : ∃ ys : List Nat, ys.length = xs.length ∧ RdU w k A ys ∧ ∀ j, ((ys.getD j 0 : Nat) : Int) = xs.getD j 0 := by
  have hg : ∀ j, (((xs.map Int.toNat).getD j 0 : Nat) : Int) = xs.getD j 0 := by
    intro j
    by_cases hj : j < xs.length
    · have := hp xs[j] (List.getElem_mem hj)
      simp [hj]
      omega
    · rw [List.getD_eq_getElem?_getD, List.getD_eq_getElem?_getD, List.getElem?_eq_none (by simp; omega), List.getElem?_eq_none (by omega)]; rfl
  refine ⟨xs.map Int.toNat, by simp, ⟨by simpa using h.1, ?_⟩, hg⟩
  rcases h.2 with h | ⟨b, o, hA, hc⟩
  · exact .inl (by simpa using h)
  · exact .inr ⟨b, o, hA, fun j hj => by rw [hg]; exact hc j (by simpa using hj)⟩
section
variable {H : Type} {enc : TypeId × Value → H}
theorem open_rdc {P : Program} {W : World} {base : Nat} {t e : TypeId} {f0 f1 f2 : Field} {v : Value} {d : DataW H} {p : List MemPlace} (ht : P.underlying t = some (.slice e)) (he : P.underlying e = some (.struct #[f0, f1, f2]))
    (ce : P.cellsOf e = 3) (o0 : f0.offset = 0) (o1 : f1.offset = 1) (o2 : f2.offset = 2) (c0 : P.cellsOf f0.type = 1) (c1 : P.cellsOf f1.type = 1) (c2 : P.cellsOf f2.type = 1)
    (i0 : P.underlying f0.type = some (.int .i64)) (i1 : P.underlying f1.type = some (.int .i64)) (i2 : P.underlying f2.type = some (.int .u64))
    (hv : Value.okWide P W .any base t v) (h : DataW.Trod enc P W 0 (fun _ => true) true t v d p) :
    ∃ A xs c, v = .slice A xs.length c ∧ RdC W A xs ∧ ∀ j, -9223372036854775808 ≤ (xs.getD j (0, 0, 0)).2.1 ∧ (xs.getD j (0, 0, 0)).2.1 ≤ 9223372036854775807 := by
  obtain ⟨a0, len, cap, rfl⟩ := okWide_slice ht hv
  obtain ⟨fuel, hf⟩ := h
  rcases open_slice ht hf with ⟨hcs, hx⟩ | ⟨a, len', cap', m, n, D, Pl, hcs, _, hl, hm, hmm, hx, hat⟩
  · simp [Value.cells] at hcs
    obtain ⟨rfl, rfl, rfl⟩ := hcs
    exact ⟨none, [], 0, rfl, ⟨by simp, .inl rfl⟩, fun j => by simp⟩
  · simp [Value.cells] at hcs
    obtain ⟨rfl, rfl, rfl⟩ := hcs
    simp at hmm
    subst hmm
    have hget : ∀ i, i < len → ∃ (x y : Int) (z : Nat), W.cell? (a.add (i * 3)) = some (.int .i64 x) ∧ W.cell? (a.add (i * 3 + 1)) = some (.int .i64 y) ∧ W.cell? (a.add (i * 3 + 2)) = some (.int .u64 (z : Int)) ∧ (Lit.int .i64 y).wf = true := by
      intro i hi
      obtain ⟨cs', h1, h2⟩ := hat i (by omega)
      rw [ce] at h1
      obtain ⟨_, hlen, hcell⟩ := World.cells?_some h1
      obtain ⟨y0, y1, y2, n', _, _, g0, g1, g2⟩ := trod_struct3 he h2
      match cs', hlen with
      | [v0, v1, v2], _ =>
        simp [o0, o1, o2, c0, c1, c2] at g0 g1 g2
        have e0 := hcell 0 (by omega)
        have e1 := hcell 1 (by omega)
        have e2 := hcell 2 (by omega)
        rw [add_add] at e0 e1 e2
        obtain ⟨x, q0, _, wx⟩ := DataW.trod_int i0 g0
        obtain ⟨y, q1, _, wy⟩ := DataW.trod_int i1 g1
        obtain ⟨z, q2, _, wz⟩ := DataW.trod_int i2 g2
        simp at q0 q1 q2
        subst q0 q1 q2
        have := bounds_u64 wz
        refine ⟨x, y, z.toNat, by simpa using e0, by simpa using e1, ?_, wy⟩
        rw [show ((z.toNat : Nat) : Int) = z by omega]
        simpa using e2
    obtain ⟨X, hX⟩ : ∃ X : Nat → Int × Int × Nat, ∀ i, i < len → W.cell? (a.add (i * 3)) = some (.int .i64 (X i).1) ∧ W.cell? (a.add (i * 3 + 1)) = some (.int .i64 (X i).2.1) ∧ W.cell? (a.add (i * 3 + 2)) = some (.int .u64 ((X i).2.2 : Int)) ∧ (Lit.int .i64 (X i).2.1).wf = true := by
      refine ⟨fun i => if hi : i < len then ((hget i hi).choose, (hget i hi).choose_spec.choose, (hget i hi).choose_spec.choose_spec.choose) else (0, 0, 0), fun i hi => ?_⟩
      simp only [hi, dif_pos]
      exact (hget i hi).choose_spec.choose_spec.choose_spec
    have hlen : ((List.range len).map X).length = len := by simp
    refine ⟨some a, (List.range len).map X, m, by rw [hlen], ⟨by rw [hlen]; unfold maxLen at hm; omega, ?_⟩, fun j => ?_⟩
    · by_cases h0 : len = 0
      · exact .inl (by rw [hlen]; exact h0)
      · right
        have hsp : a.spot = none := by
          have := spot_none (hX 0 (by omega)).1
          simpa [Addr.add] using this
        refine ⟨a.block, a.off, by obtain ⟨b, o, s⟩ := a; simp at hsp; subst hsp; rfl, fun j hj => ?_⟩
        rw [hlen] at hj
        obtain ⟨g1, g2, g3, _⟩ := hX j hj
        rw [add_plain' hsp] at g1 g2 g3
        have e : ((List.range len).map X).getD j (0, 0, 0) = X j := by simp [hj]
        rw [e]
        exact ⟨g1, by rw [← g2, Nat.add_assoc], by rw [← g3, Nat.add_assoc]⟩
    · by_cases hj : j < len
      · have e : ((List.range len).map X).getD j (0, 0, 0) = X j := by simp [hj]
        rw [e]
        exact bounds_i64 (hX j hj).2.2.2
      · rw [List.getD_eq_getElem?_getD, List.getElem?_eq_none (by rw [hlen]; omega)]; simp
theorem open_call {P : Program} {w : World} {base : Nat} {spare : Nat → Bool} {held : Bool} {r : Reach} {b0 : Nat} {t : TypeId} {f0 f1 f2 : Field} {v : Value} {d : DataW H} {p : List MemPlace}
    (hs : P.underlying t = some (.struct #[f0, f1, f2])) (hone : Go.Deep.oneCellFields P #[f0, f1, f2] = true) (hC : P.cellsOf t = 3) (i0 : P.underlying f0.type = some (.int .i64)) (i1 : P.underlying f1.type = some (.int .i64)) (i2 : P.underlying f2.type = some (.int .u64))
    (hv : Value.okWide P w r b0 t v) (h : DataW.Trod enc P w base spare held t v d p) :
    ∃ (x y : Int) (z : Nat), v = .agg #[.int .i64 x, .int .i64 y, .int .u64 (z : Int)] ∧ d = .agg [.lit (.int .i64 x), .lit (.int .i64 y), .lit (.int .u64 (z : Int))] ∧ p = [] ∧ (-9223372036854775808 ≤ y ∧ y ≤ 9223372036854775807) := by
  obtain ⟨c0, c1, c2, y0, y1, y2, m, rfl, rfl, rfl, hy0, hy1, hy2⟩ := open_agg3 hs hone hC hv h
  obtain ⟨a, e0, rfl, wa⟩ := DataW.trod_int i0 hy0
  obtain ⟨b, e1, rfl, wb⟩ := DataW.trod_int i1 hy1
  obtain ⟨z, e2, rfl, wz⟩ := DataW.trod_int i2 hy2
  simp at e0 e1 e2
  subst e0 e1 e2
  have := bounds_u64 wz
  obtain ⟨n, rfl⟩ := Int.eq_ofNat_of_zero_le this.1
  exact ⟨a, b, n, rfl, rfl, rfl, bounds_i64 wb⟩
end
end Go.Proofs.YtdakkmaahgcjfaaDoor
