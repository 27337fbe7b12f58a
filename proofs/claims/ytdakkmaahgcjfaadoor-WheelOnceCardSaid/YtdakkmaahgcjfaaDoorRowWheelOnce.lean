/- For all times and every row of steps: vizardlaw13.WheelOnce returns true, and its arguments read as they did. Condition: the table math/bits.deBruijn64tab is as the program's text lays it (the card ties it). -/
import Derived.Test.YtdakkmaahgcjfaaDoorCards
import Derived.Test.YtdakkmaahgcjfaaDoorTie
import Derived.Test.YtdakkmaahgcjfaaDoorLawTab
import Derived.Test.YtdakkmaahgcjfaaDoorWrc
import Derived.Test.YtdakkmaahgcjfaaDoorWji
namespace Go.Proofs.YtdakkmaahgcjfaaDoor.wheelOnce
open Go.ChangeShapes Go.WideShapes Go.ChangeAt Go.RowKit

set_option maxRecDepth 100000 in
theorem contract (H : Type) (enc : TypeId × Value → H) (W : World) (base : Nat) (args : Array Value) (ds gs : List (DataW H)) (before : List MemPlace)
    (hval : ∀ (j : Nat) t v, Tryd.f4.params[j]? = some t → args[j]? = some v → Value.okWide Tryd.prog W .any base t v)
    (hW : DataW.Whole enc Tryd.prog Tryd.f4.params.toList Rows.wheelOnceSpec.vars false W args.toList ds gs before) (hL : laidMetH Tryd.prog Rows.wheelOnceRow.laid W) :
    Calls Tryd.prog 4 args W fun e W' => ∃ v, e = .returned v ∧ Rows.wheelOnceSpec.post enc Tryd.prog Tryd.f4 false true false false W args v W' := by
  have hW' := hW
  obtain ⟨p, q, hA0, hV, rfl, hfz, hnd⟩ := hW
  have hA : DataW.TrodAll enc Tryd.prog W 0 (fun _ => true) true Tryd.f4.params.toList args.toList ds p := hA0
  rw [Tryd.params4] at hA hval
  obtain ⟨v0, vs0, d0, ds0, p0, q0, hargs, rfl, rfl, h0, r0⟩ := trodAll_cons hA
  obtain ⟨v1, vs1, d1, ds1, p1, q1, rfl, rfl, rfl, h1, r1⟩ := trodAll_cons r0
  obtain ⟨rfl, rfl, rfl⟩ := trodAll_nil r1
  obtain rfl : args = #[v0, v1] := Array.ext' hargs
  obtain ⟨A0, a0, c0, rfl, rd0, w0⟩ := open_rdi Tryd.underlying42 Tryd.underlying22 (show Tryd.prog.cellsOf 22 = 1 by kernel_rfl) (hval 0 42 v0 rfl rfl) h0
  obtain ⟨A1, a1, c1, rfl, rd1, w1⟩ := open_rdi Tryd.underlying43 Tryd.underlying46 (show Tryd.prog.cellsOf 46 = 1 by kernel_rfl) (hval 1 43 v1 rfl rfl) h1
  obtain ⟨rfl, rfl⟩ := trodVars_none hV
  obtain ⟨b0, eb0, ru0, hu0⟩ := RdU.of_rdi rd0 (fun x hx => (bounds_u64 (w0 x hx)).1)
  obtain ⟨b1, eb1, ru1, hu1⟩ := RdU.of_rdi rd1 (fun x hx => (bounds_u32 (w1 x hx)).1)
  have mu1 : ∀ j, b1.getD j 0 ≤ 4294967295 := fun j => by
    have h1 := hu1 j
    by_cases hj : j < a1.length
    · have h2 := bounds_u32 (w1 a1[j] (List.getElem_mem hj))
      have h3 : a1.getD j 0 = a1[j] := by simp [hj]
      omega
    · have h3 : a1.getD j 0 = 0 := by rw [List.getD_eq_getElem?_getD, List.getElem?_eq_none (by omega)]; rfl
      omega
  rw [← eb1] at hW' ⊢
  rw [← eb0] at hW' ⊢
  refine (once_walk A0 A1 c0 c1 b0 b1 W (tabOf hL) ru0 ru1 mu1).mono fun e W' ⟨he, hk⟩ => ?_
  subst he
  exact ⟨_, rfl, law_post hW' rfl (by kernel_rfl) (show Tryd.f4.resultTypes = #[4] by kernel_rfl) Tryd.underlying4 rfl hk.below⟩

theorem laid_met (os : Os) : laidMet Tryd.prog Rows.wheelOnceRow.laid ((tabWorld os).forCall (fun _ _ => 0) ⟨#[], #[.slice none 0 0, .slice none 0 0], []⟩).memory :=
  laidMet_of_run' 8 (by kernel_rfl) (by kernel_rfl)
theorem reads (os : Os) {H : Type} (enc : TypeId × Value → H) : ∃ places, DataW.whole enc Tryd.prog ((tabWorld os).forCall (fun _ _ => 0) ⟨#[], #[.slice none 0 0, .slice none 0 0], []⟩).memory Tryd.f4.params.toList Rows.wheelOnceSpec.vars false #[Value.slice none 0 0, .slice none 0 0].toList 8 = some ([.nil, .nil], [], places) :=
  ⟨[], by kernel_rfl⟩

set_option maxRecDepth 100000 in
theorem lifted (os : Os) (started : os.Started) (H : Type) (enc : TypeId × Value → H) (F : Stop.Interp) :
    ReturnsInHanded {} Tryd.checked os 4 .any ((OpenSpec.ofChange Rows.wheelOnceSpec).preRow enc Tryd.prog Tryd.f4 Rows.wheelOnceRow.domain false Rows.wheelOnceRow.laid) (((OpenSpec.ofChange Rows.wheelOnceSpec).at F).post enc Tryd.prog Tryd.f4 false true false false) := by
  obtain ⟨places, hx⟩ := reads os enc
  refine returnsInHanded_of_row (C := Tryd.checked) (s := OpenSpec.ofChange Rows.wheelOnceSpec) own started (by kernel_rfl) Tryd.func4
    (witness_row_at (enc := enc) (C := Tryd.checked) false (tabWorld os) #[.slice none 0 0, .slice none 0 0] rfl (by kernel_rfl) (by kernel_rfl) (by kernel_rfl)
      (OpenSpec.preRow_of_cond 8 hx (by kernel_rfl) (fun k hk => by cases hk) (by kernel_rfl) (laid_met os))) ?_
  intro W base args ds gs before hval hW _ _ _ hL _ _
  exact contract H enc W base args ds gs before hval hW hL

theorem said : Rows.WheelOnceSaid :=
  OpenClaim.holds_of_cond 4 Tryd.f4 rfl rfl rfl rfl rfl rfl rfl ⟨rfl, rfl, rfl, rfl, rfl⟩ rfl rfl rfl rfl rfl (by kernel_rfl) Tryd.func4 (by kernel_rfl)
    (of_decide_eq_true (by kernel_rfl)) (by unfold Func.isWrapper; first | (rw [if_pos (by decide +kernel)]; kernel_rfl) | (rw [if_neg (by decide +kernel)]; exact ⟨rfl, rfl⟩))
    (fun os started H enc _ F => by rw [OpenClaim.pre_eq_preRow]; exact lifted os started H enc F)

theorem plain (f : FuncId) (fn : Func) (hf : Tryd.pinned.checked.prog.funcNamed "vizard/vizardlaw13.WheelOnce" = some f) (hfn : Tryd.pinned.checked.prog.funcs[f]? = some fn) :
    false = Tryd.pinned.checked.prog.looks [] ∧ ∀ (j : Nat) t, fn.params[j]? = some t → Tryd.pinned.checked.prog.wantsStandIn t = false := by
  obtain rfl : f = 4 := Option.some.inj ((show Tryd.prog.funcNamed "vizard/vizardlaw13.WheelOnce" = some 4 by kernel_rfl).symm.trans hf) |>.symm
  obtain rfl : fn = Tryd.f4 := (Option.some.inj (Tryd.func4.symm.trans hfn)).symm
  refine ⟨by kernel_rfl, fun j t ht => ?_⟩
  have h := List.all_eq_true.1 (show (Tryd.f4.params.toList.all fun t => !Tryd.prog.wantsStandIn t) = true by kernel_rfl) t (by simpa using Array.mem_of_getElem? ht)
  exact (show Tryd.prog.wantsStandIn t = false by simpa using h)

theorem card : Rows.WheelOnceCardSaid :=
  Claim7.holds_tied_plain_at .later [] _ _ _ _ said (fun _ h => by cases h) (by kernel_rfl) (fun _ h => by cases h) wheelOnce_row_tie rfl ⟨rfl, rfl⟩ (by kernel_rfl) rfl plain (by kernel_rfl)
#print axioms card
end Go.Proofs.YtdakkmaahgcjfaaDoor.wheelOnce
