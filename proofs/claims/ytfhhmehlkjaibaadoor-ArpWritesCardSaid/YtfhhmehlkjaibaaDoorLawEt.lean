/- What why's rows list: errors.errorType; a world for the witness. -/
import Derived.Test.YtfhhmehlkjaibaaDoorRows
import Derived.Test.YtfhhmehlkjaibaaDoorLawKit
import Derived.Test.YtfhhmehlkjaibaaDoorWd
import Derived.LaidHandle
import Derived.LaidLaws
namespace Go.Proofs.YtfhhmehlkjaibaaDoor
open Go.ChangeShapes Go.WideShapes Go.ChangeAt Go.RowKit

theorem gEt : Tryd.prog.globalNamed "errors.errorType" = some 0 := by kernel_rfl
theorem rtEt : (Tryd.prog.cutTypes.find? (·.1 == "internal/reflectlite.rtype")).map (·.2) = some 113 := by kernel_rfl
theorem oneRowEt : ((List.range 158).filter fun t => Tryd.prog.rowNamed t [101, 114, 114, 111, 114]) = [26] := by kernel_rfl
theorem typesEt : Tryd.prog.types.size = 158 := by kernel_rfl

/-- What the row's list gives: the variable's cell. -/
theorem etOf {W : World} (h : laidMetH Tryd.prog [("errors.errorType", Rows.laid_errors_errorType)] W) : Et W := by
  have h' : laidMet Tryd.prog [] W ∧ handlesMet Tryd.prog [("errors.errorType", Rows.laid_errors_errorType)] W := h
  obtain ⟨name, u, ty, e1, e2, e3, e4, e5⟩ := h'.2 _ (List.mem_singleton.2 rfl)
  have en : name = [101, 114, 114, 111, 114] := (Option.some.inj e1).symm
  subst en
  obtain rfl := Option.some.inj (rtEt.symm.trans e2)
  have hm : ty ∈ (List.range 158).filter fun t => Tryd.prog.rowNamed t [101, 114, 114, 111, 114] := List.mem_filter.2 ⟨List.mem_range.2 (by rw [← typesEt]; exact e3), e4⟩
  rw [oneRowEt] at hm
  obtain rfl := List.mem_singleton.1 hm
  have hh : typeHandle Tryd.prog 26 = .pointer (some ⟨1, 26, none⟩) := by kernel_rfl
  rw [hh] at e5
  have := World.var?_cell gEt e5 0
  unfold Et
  simpa using this

/-- A world that meets the list: the settled one, the variable's cell laid. -/
noncomputable def etWorld (os : Os) : World :=
  let w0 := World.holding Tryd.prog os ⟨#[], #[], []⟩
  { w0 with heap := w0.heap.modify 0 fun
      | .cells _ t frozen => .cells #[.iface 113 (.agg #[.pointer (some ⟨1, 26, none⟩)])] t frozen
      | o => o }
end Go.Proofs.YtfhhmehlkjaibaaDoor
