/- For every time, every row of calls and every row of steps: vizardlaw13.WheelSteps returns true, and its arguments read as they did. Condition: the table math/bits.deBruijn64tab is as the program's text lays it (the card ties it). -/
import Derived.Test.YtdakkmaahgcjfaaDoorCards
import Derived.Test.YtdakkmaahgcjfaaDoorTie
import Derived.Test.YtdakkmaahgcjfaaDoorLawTab
import Derived.Test.YtdakkmaahgcjfaaDoorWrc
import Derived.Test.YtdakkmaahgcjfaaDoorWjl
namespace Go.Proofs.YtdakkmaahgcjfaaDoor.wheelSteps
open Go.ChangeShapes Go.WideShapes Go.ChangeAt Go.RowKit

set_option maxRecDepth 100000 in
theorem contract (H : Type) (enc : TypeId × Value → H) (W : World) (base : Nat) (args : Array Value) (ds gs : List (DataW H)) (before : List MemPlace)
    (hval : ∀ (j : Nat) t v, Tryd.f5.params[j]? = some t → args[j]? = some v → Value.okWide Tryd.prog W .any base t v)
    (hW : DataW.Whole enc Tryd.prog Tryd.f5.params.toList Rows.wheelStepsSpec.vars false W args.toList ds gs before) (hL : laidMetH Tryd.prog Rows.wheelStepsRow.laid W) :
    Calls Tryd.prog 5 args W fun e W' => ∃ v, e = .returned v ∧ Rows.wheelStepsSpec.post enc Tryd.prog Tryd.f5 false true false false W args v W' := by
  have hW' := hW
  obtain ⟨p, q, hA0, hV, rfl, hfz, hnd⟩ := hW
  have hA : DataW.TrodAll enc Tryd.prog W 0 (fun _ => true) true Tryd.f5.params.toList args.toList ds p := hA0
  rw [Tryd.params5] at hA hval
  obtain ⟨v0, vs0, d0, ds0, p0, q0, hargs, rfl, rfl, h0, r0⟩ := trodAll_cons hA
  obtain ⟨v1, vs1, d1, ds1, p1, q1, rfl, rfl, rfl, h1, r1⟩ := trodAll_cons r0
  obtain ⟨v2, vs2, d2, ds2, p2, q2, rfl, rfl, rfl, h2, r2⟩ := trodAll_cons r1
  obtain ⟨rfl, rfl, rfl⟩ := trodAll_nil r2
  obtain rfl : args = #[v0, v1, v2] := Array.ext' hargs
  obtain ⟨a0, rfl, rfl, rfl, w0⟩ := open_int Tryd.underlying22 (hval 0 22 v0 rfl rfl) h0
  obtain ⟨A1, a1, c1, rfl, rd1, w1⟩ := open_rdc Tryd.underlying23 Tryd.underlying25 (show Tryd.prog.cellsOf 25 = 3 by kernel_rfl) rfl rfl rfl (show Tryd.prog.cellsOf 3 = 1 by kernel_rfl) (show Tryd.prog.cellsOf 3 = 1 by kernel_rfl) (show Tryd.prog.cellsOf 22 = 1 by kernel_rfl) Tryd.underlying3 Tryd.underlying3 Tryd.underlying22 (hval 1 23 v1 rfl rfl) h1
  obtain ⟨A2, a2, c2, rfl, rd2, w2⟩ := open_rdi Tryd.underlying51 Tryd.underlying52 (show Tryd.prog.cellsOf 52 = 1 by kernel_rfl) (hval 2 51 v2 rfl rfl) h2
  obtain ⟨rfl, rfl⟩ := trodVars_none hV
  obtain ⟨n0, rfl⟩ := Int.eq_ofNat_of_zero_le (bounds_u64 w0).1
  obtain ⟨b2, eb2, ru2, hu2⟩ := RdU.of_rdi rd2 (fun x hx => (bounds_u16 (w2 x hx)).1)
  have mu2 : ∀ j, b2.getD j 0 ≤ 65535 := fun j => by
    have h1 := hu2 j
    by_cases hj : j < a2.length
    · have h2 := bounds_u16 (w2 a2[j] (List.getElem_mem hj))
      have h3 : a2.getD j 0 = a2[j] := by simp [hj]
      omega
    · have h3 : a2.getD j 0 = 0 := by rw [List.getD_eq_getElem?_getD, List.getElem?_eq_none (by omega)]; rfl
      omega
  rw [← eb2] at hW' ⊢
  refine (steps_walk n0 A1 A2 c1 c2 a1 b2 W (tabOf hL) rd1 ru2 mu2 w1).mono fun e W' ⟨he, hk⟩ => ?_
  subst he
  exact ⟨_, rfl, law_post hW' rfl (by kernel_rfl) (show Tryd.f5.resultTypes = #[4] by kernel_rfl) Tryd.underlying4 rfl hk.below⟩

theorem laid_met (os : Os) : laidMet Tryd.prog Rows.wheelStepsRow.laid ((tabWorld os).forCall (fun _ _ => 0) ⟨#[], #[.int .u64 0, .slice none 0 0, .slice none 0 0], []⟩).memory :=
  laidMet_of_run' 8 (by kernel_rfl) (by kernel_rfl)
theorem reads (os : Os) {H : Type} (enc : TypeId × Value → H) : ∃ places, DataW.whole enc Tryd.prog ((tabWorld os).forCall (fun _ _ => 0) ⟨#[], #[.int .u64 0, .slice none 0 0, .slice none 0 0], []⟩).memory Tryd.f5.params.toList Rows.wheelStepsSpec.vars false #[Value.int .u64 0, .slice none 0 0, .slice none 0 0].toList 8 = some ([.lit (.int .u64 0), .nil, .nil], [], places) :=
  ⟨[], by kernel_rfl⟩

set_option maxRecDepth 100000 in
theorem lifted (os : Os) (started : os.Started) (H : Type) (enc : TypeId × Value → H) (F : Stop.Interp) :
    ReturnsInHanded {} Tryd.checked os 5 .any ((OpenSpec.ofChange Rows.wheelStepsSpec).preRow enc Tryd.prog Tryd.f5 Rows.wheelStepsRow.domain false Rows.wheelStepsRow.laid) (((OpenSpec.ofChange Rows.wheelStepsSpec).at F).post enc Tryd.prog Tryd.f5 false true false false) := by
  obtain ⟨places, hx⟩ := reads os enc
  refine returnsInHanded_of_row (C := Tryd.checked) (s := OpenSpec.ofChange Rows.wheelStepsSpec) own started (by kernel_rfl) Tryd.func5
    (witness_row_at (enc := enc) (C := Tryd.checked) false (tabWorld os) #[.int .u64 0, .slice none 0 0, .slice none 0 0] rfl (by kernel_rfl) (by kernel_rfl) (by kernel_rfl)
      (OpenSpec.preRow_of_cond 8 hx (by kernel_rfl) (fun k hk => by cases hk) (by kernel_rfl) (laid_met os))) ?_
  intro W base args ds gs before hval hW _ _ _ hL _ _
  exact contract H enc W base args ds gs before hval hW hL

theorem said : Rows.WheelStepsSaid :=
  OpenClaim.holds_of_cond 5 Tryd.f5 rfl rfl rfl rfl rfl rfl rfl ⟨rfl, rfl, rfl, rfl, rfl⟩ rfl rfl rfl rfl rfl (by kernel_rfl) Tryd.func5 (by kernel_rfl)
    (of_decide_eq_true (by kernel_rfl)) (by unfold Func.isWrapper; first | (rw [if_pos (by decide +kernel)]; kernel_rfl) | (rw [if_neg (by decide +kernel)]; exact ⟨rfl, rfl⟩))
    (fun os started H enc _ F => by rw [OpenClaim.pre_eq_preRow]; exact lifted os started H enc F)

theorem plain (f : FuncId) (fn : Func) (hf : Tryd.pinned.checked.prog.funcNamed "vizard/vizardlaw13.WheelSteps" = some f) (hfn : Tryd.pinned.checked.prog.funcs[f]? = some fn) :
    false = Tryd.pinned.checked.prog.looks [] ∧ ∀ (j : Nat) t, fn.params[j]? = some t → Tryd.pinned.checked.prog.wantsStandIn t = false := by
  obtain rfl : f = 5 := Option.some.inj ((show Tryd.prog.funcNamed "vizard/vizardlaw13.WheelSteps" = some 5 by kernel_rfl).symm.trans hf) |>.symm
  obtain rfl : fn = Tryd.f5 := (Option.some.inj (Tryd.func5.symm.trans hfn)).symm
  refine ⟨by kernel_rfl, fun j t ht => ?_⟩
  have h := List.all_eq_true.1 (show (Tryd.f5.params.toList.all fun t => !Tryd.prog.wantsStandIn t) = true by kernel_rfl) t (by simpa using Array.mem_of_getElem? ht)
  exact (show Tryd.prog.wantsStandIn t = false by simpa using h)

theorem card : Rows.WheelStepsCardSaid :=
  Claim7.holds_tied_plain_at .later [] _ _ _ _ said (fun _ h => by cases h) (by kernel_rfl) (fun _ h => by cases h) wheelSteps_row_tie rfl ⟨rfl, rfl⟩ (by kernel_rfl) rfl plain (by kernel_rfl)
#print axioms card
end Go.Proofs.YtdakkmaahgcjfaaDoor.wheelSteps
