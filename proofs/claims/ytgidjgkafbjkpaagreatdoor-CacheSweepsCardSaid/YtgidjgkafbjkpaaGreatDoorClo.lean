/- Cache's rows: arguments that are Macs, slices of Ips. -/
import Derived.Test.YtgidjgkafbjkpaaGreatDoorLawTab
import Derived.Test.YtgidjgkafbjkpaaGreatDoorCap
import Derived.Deep.SlicePairs
import Derived.Lib.SmallJoins
set_option linter.unusedVariables false
set_option linter.unusedSimpArgs false
namespace Go.Proofs.YtgidjgkafbjkpaaGreatDoor
open Go.ChangeShapes Go.WideShapes Go.ChangeAt Go.RowKit Go.Deep Go.Joins

section
variable {H : Type} {enc : TypeId × Value → H} {w : World} {base : Nat} {spare : Nat → Bool} {held : Bool} {fuel : Nat}
theorem cells32 : Tryz.prog.cellsOf 32 = 6 := by kernel_rfl
theorem cells5o : Tryz.prog.cellsOf 5 = 1 := by kernel_rfl
set_option maxRecDepth 100000 in
theorem trod_mac_ {cs : List Value} {x : DataW H × List MemPlace} (h : DataW.trod enc Tryz.prog w base spare held fuel 32 cs = some x) :
    ∃ a b c d e f : Nat, cs = (macC a b c d e f).toList ∧ x.2 = [] ∧ a < 256 ∧ b < 256 ∧ c < 256 ∧ d < 256 ∧ e < 256 ∧ f < 256 := by
  obtain ⟨xs, n, rfl, rfl, hl, hxs, hi⟩ := DataW.trod_array Tryz.underlying32 h
  rw [cells32] at hl
  simp only [cells5o, Nat.mul_one] at hi
  match xs, hxs with
  | [y0, y1, y2, y3, y4, y5], _ =>
    match cs, hl with
    | [c0, c1, c2, c3, c4, c5], _ =>
      have t0 := DataW.trod_int Tryz.underlying5 (by simpa using hi 0 (by omega))
      have t1 := DataW.trod_int Tryz.underlying5 (by simpa using hi 1 (by omega))
      have t2 := DataW.trod_int Tryz.underlying5 (by simpa using hi 2 (by omega))
      have t3 := DataW.trod_int Tryz.underlying5 (by simpa using hi 3 (by omega))
      have t4 := DataW.trod_int Tryz.underlying5 (by simpa using hi 4 (by omega))
      have t5 := DataW.trod_int Tryz.underlying5 (by simpa using hi 5 (by omega))
      obtain ⟨n0, e0, rfl, w0⟩ := t0
      obtain ⟨n1, e1, rfl, w1⟩ := t1
      obtain ⟨n2, e2, rfl, w2⟩ := t2
      obtain ⟨n3, e3, rfl, w3⟩ := t3
      obtain ⟨n4, e4, rfl, w4⟩ := t4
      obtain ⟨n5, e5, rfl, w5⟩ := t5
      simp only [List.cons.injEq, and_true] at e0 e1 e2 e3 e4 e5
      subst e0 e1 e2 e3 e4 e5
      have b0 := bounds_u8 w0
      obtain ⟨x0, rfl⟩ := Int.eq_ofNat_of_zero_le b0.1
      have b1 := bounds_u8 w1
      obtain ⟨x1, rfl⟩ := Int.eq_ofNat_of_zero_le b1.1
      have b2 := bounds_u8 w2
      obtain ⟨x2, rfl⟩ := Int.eq_ofNat_of_zero_le b2.1
      have b3 := bounds_u8 w3
      obtain ⟨x3, rfl⟩ := Int.eq_ofNat_of_zero_le b3.1
      have b4 := bounds_u8 w4
      obtain ⟨x4, rfl⟩ := Int.eq_ofNat_of_zero_le b4.1
      have b5 := bounds_u8 w5
      obtain ⟨x5, rfl⟩ := Int.eq_ofNat_of_zero_le b5.1
      exact ⟨x0, x1, x2, x3, x4, x5, rfl, rfl, by omega, by omega, by omega, by omega, by omega, by omega⟩
set_option maxRecDepth 100000 in
theorem open_mac_ {r : Reach} {b0 : Nat} {v : Value} {d : DataW H} {p : List MemPlace} (hv : Value.okWide Tryz.prog w r b0 32 v) (h : DataW.Trod enc Tryz.prog w base spare held 32 v d p) :
    ∃ a b c d e f : Nat, v = macV ⟨a, b, c, d, e, f⟩ ∧ p = [] ∧ a < 256 ∧ b < 256 ∧ c < 256 ∧ d < 256 ∧ e < 256 ∧ f < 256 := by
  obtain ⟨cs, rfl, _⟩ : ∃ cs, v = .agg cs ∧ cs.size = Tryz.prog.cellsOf 32 := by
    unfold Value.okWide at hv
    rw [Tryz.underlying32] at hv
    obtain ⟨cs, h1, h2, _⟩ := hv
    exact ⟨cs, h1, h2⟩
  obtain ⟨fuel, hf⟩ := h
  obtain ⟨a, b, c, d, e, f, h1, h2, h3⟩ := trod_mac_ hf
  exact ⟨a, b, c, d, e, f, by rw [show cs = macC a b c d e f from Array.ext' h1]; rfl, h2, h3⟩
end
end Go.Proofs.YtgidjgkafbjkpaaGreatDoor
