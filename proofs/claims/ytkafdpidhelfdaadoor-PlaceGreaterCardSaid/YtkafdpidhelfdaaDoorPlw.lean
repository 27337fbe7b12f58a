/- Place: what the rows list, as the walks ask for it; a world for the witness. -/
import Derived.Test.YtkafdpidhelfdaaDoorRows
import Derived.Test.YtkafdpidhelfdaaDoorLawKit
import Derived.Test.YtkafdpidhelfdaaDoorPml
import Derived.Lib.LaidTab
import Derived.Lib.LaidU8
import Derived.Stop.LaidErr
import Derived.Shelf.Vars
import Derived.MakeChecks
import Derived.Lay
set_option linter.unusedVariables false
set_option linter.unusedSimpArgs false
namespace Go.Proofs.YtkafdpidhelfdaaDoor
open Go.RowKit

/-- The rows' list. -/
def plLaid : List (String × DataW Unit) := [("math/bits.deBruijn32tab", Rows.laid_math_bits_deBruijn32tab), ("math/bits.deBruijn64tab", Rows.laid_math_bits_deBruijn64tab), ("internal/strconv.uint64pow10", Rows.laid_internal_strconv_uint64pow10), ("unicode/utf8.acceptRanges", Rows.laid_unicode_utf8_acceptRanges), ("strconv.ErrRange", Rows.laid_strconv_ErrRange), ("strconv.ErrSyntax", Rows.laid_strconv_ErrSyntax), ("unicode/utf8.first", Rows.laid_unicode_utf8_first)]
theorem pg64 : Tryd.prog.globalNamed "math/bits.deBruijn64tab" = some 7 := by kernel_rfl
theorem pg64t : (Tryd.prog.globals[7]?).map (·.type) = some 121 := by kernel_rfl
theorem pgPow : Tryd.prog.globalNamed "internal/strconv.uint64pow10" = some 2 := by kernel_rfl
theorem pgPowt : (Tryd.prog.globals[2]?).map (·.type) = some 106 := by kernel_rfl
theorem pgRng : Tryd.prog.globalNamed "strconv.ErrRange" = some 1 := by kernel_rfl
theorem pgRngt : (Tryd.prog.globals[1]?).map (·.type) = some 59 := by kernel_rfl
theorem pgSyn : Tryd.prog.globalNamed "strconv.ErrSyntax" = some 0 := by kernel_rfl
theorem pgSynt : (Tryd.prog.globals[0]?).map (·.type) = some 59 := by kernel_rfl
theorem pstar : "*" ++ "errors.errorString" = "*errors.errorString" := by decide
theorem prow (u : TypeId) (h : Tryd.prog.typeName? 3 u = some "*errors.errorString") : u = 114 :=
  typeName_ptr_named (nm := "errors.errorString") (by rw [pstar]; kernel_rfl) (by kernel_rfl) (by decide) u (by rw [pstar]; exact h)
theorem laidOf {W : World} (h0 : laidMetH Tryd.prog plLaid W) (hs : W.ShapedOpen Tryd.prog) : Laid2 W := by
  have h : laidMet Tryd.prog plLaid W := h0
  have t64 : Lib.TabIs Tryd.prog W "math/bits.deBruijn64tab" .u8 [0, 1, 56, 2, 57, 49, 28, 3, 61, 58, 42, 50, 38, 29, 17, 4, 62, 47, 59, 36, 45, 43, 51, 22, 53, 39, 33, 30, 24, 18, 12, 5, 63, 55, 48, 27, 60, 41, 37, 16, 46, 35, 44, 21, 52, 32, 23, 11, 54, 26, 40, 15, 34, 20, 31, 10, 25, 14, 19, 9, 13, 8, 7, 6] := Lib.tabIs_of_head pg64 pg64t Tryd.underlying121 Tryd.underlying5 (by kernel_rfl) (by kernel_rfl) h.tail
  have tp : Lib.TabIs Tryd.prog W "internal/strconv.uint64pow10" .u64 Lib.pow10Tab := Lib.tabIs_of_head pgPow pgPowt Tryd.underlying106 Tryd.underlying52 (by kernel_rfl) (by kernel_rfl) h.tail.tail
  obtain ⟨a1, s1, hv1, _⟩ := laid_sentinel h.tail.tail.tail.tail pgRng pgRngt Tryd.underlying59 prow Tryd.underlying114 Tryd.underlying116 rfl rfl Tryd.underlying9 (by kernel_rfl) (by kernel_rfl)
  obtain ⟨a0, s0, hv0, _⟩ := laid_sentinel h.tail.tail.tail.tail.tail pgSyn pgSynt Tryd.underlying59 prow Tryd.underlying114 Tryd.underlying116 rfl rfl Tryd.underlying9 (by kernel_rfl) (by kernel_rfl)
  refine ⟨⟨⟨_, by simpa using World.var?_cell pgSyn hv0 0, .inr ⟨_, _, rfl⟩⟩, ⟨_, by simpa using World.var?_cell pgRng hv1 0, .inr ⟨_, _, rfl⟩⟩, ?_, tp⟩, t64.cell pg64 15 (by decide)⟩
  exact cell_of_shapedOpen_int (g := 5) (t := 3) (zero := #[.int .i64 0]) hs (by rw [show Tryd.prog.globals.size = 8 by kernel_rfl]; omega) (by kernel_rfl) rfl (by kernel_rfl) (by kernel_rfl) Tryd.underlying3
/-- A world that meets the list. -/
noncomputable def plWorld (os : Os) : World := World.laidAll Tryd.prog os plLaid
theorem plFits (os : Os) : (World.holding Tryd.prog os ⟨#[], #[], []⟩).layFits Tryd.prog plLaid [] = true := by kernel_rfl
theorem plIfaces (os : Os) : (World.holding Tryd.prog os ⟨#[], #[], []⟩).layIfaces Tryd.prog plLaid (World.laidAll Tryd.prog os plLaid) = true := by kernel_rfl
theorem plMet (os : Os) (args : Array Value) : laidMetH Tryd.prog plLaid ((plWorld os).forCall (fun _ _ => 0) ⟨#[], args, []⟩).memory := by
  rw [MakeChecks.laidMetH_plain _ _ _ (by kernel_rfl)]
  exact laidMet_laidAll args (plFits os) (plIfaces os)
end Go.Proofs.YtkafdpidhelfdaaDoor
