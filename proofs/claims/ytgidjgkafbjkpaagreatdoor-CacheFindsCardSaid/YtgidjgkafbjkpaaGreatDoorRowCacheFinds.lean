/- For every room, every life, every row of Ips and all times: vizardlaw14.CacheFinds returns true, and its arguments read as they did. Condition: the table math/bits.deBruijn64tab is as the program's text lays it (the card ties it). -/
import Derived.Test.YtgidjgkafbjkpaaGreatDoorCards
import Derived.Test.YtgidjgkafbjkpaaGreatDoorTie
import Derived.Test.YtgidjgkafbjkpaaGreatDoorClo
import Derived.Test.YtgidjgkafbjkpaaGreatDoorCqd
namespace Go.Proofs.YtgidjgkafbjkpaaGreatDoor.cacheFinds
open Go.ChangeShapes Go.WideShapes Go.ChangeAt Go.RowKit

set_option maxRecDepth 100000 in
theorem contract (H : Type) (enc : TypeId × Value → H) (W : World) (base : Nat) (args : Array Value) (ds gs : List (DataW H)) (before : List MemPlace)
    (hval : ∀ (j : Nat) t v, Tryz.f4.params[j]? = some t → args[j]? = some v → Value.okWide Tryz.prog W .any base t v)
    (hW : DataW.Whole enc Tryz.prog Tryz.f4.params.toList Rows.cacheFindsSpec.vars false W args.toList ds gs before) (hL : laidMetH Tryz.prog Rows.cacheFindsRow.laid W) :
    Calls Tryz.prog 4 args W fun e W' => ∃ v, e = .returned v ∧ Rows.cacheFindsSpec.post enc Tryz.prog Tryz.f4 false true false false W args v W' := by
  have hW' := hW
  obtain ⟨p, q, hA0, hV, rfl, hfz, hnd⟩ := hW
  have hA : DataW.TrodAll enc Tryz.prog W 0 (fun _ => true) true Tryz.f4.params.toList args.toList ds p := hA0
  rw [Tryz.params4] at hA hval
  obtain ⟨v0, vs0, d0, ds0, p0, q0, hargs, rfl, rfl, h0, r0⟩ := trodAll_cons hA
  obtain ⟨v1, vs1, d1, ds1, p1, q1, rfl, rfl, rfl, h1, r1⟩ := trodAll_cons r0
  obtain ⟨v2, vs2, d2, ds2, p2, q2, rfl, rfl, rfl, h2, r2⟩ := trodAll_cons r1
  obtain ⟨v3, vs3, d3, ds3, p3, q3, rfl, rfl, rfl, h3, r3⟩ := trodAll_cons r2
  obtain ⟨v4, vs4, d4, ds4, p4, q4, rfl, rfl, rfl, h4, r4⟩ := trodAll_cons r3
  obtain ⟨rfl, rfl, rfl⟩ := trodAll_nil r4
  obtain rfl : args = #[v0, v1, v2, v3, v4] := Array.ext' hargs
  obtain ⟨a0, rfl, rfl, rfl, w0⟩ := open_int Tryz.underlying3 (hval 0 3 v0 rfl rfl) h0
  obtain ⟨a1, rfl, rfl, rfl, w1⟩ := open_int Tryz.underlying22 (hval 1 22 v1 rfl rfl) h1
  obtain ⟨A2, a2, c2, rfl, rd2, w2⟩ := open_rdi Tryz.underlying44 Tryz.underlying30 (show Tryz.prog.cellsOf 30 = 1 by kernel_rfl) (hval 2 44 v2 rfl rfl) h2
  obtain ⟨a3, rfl, rfl, rfl, w3⟩ := open_int Tryz.underlying22 (hval 3 22 v3 rfl rfl) h3
  obtain ⟨a4, rfl, rfl, rfl, w4⟩ := open_int Tryz.underlying22 (hval 4 22 v4 rfl rfl) h4
  obtain ⟨rfl, rfl⟩ := trodVars_none hV
  obtain ⟨n1, rfl⟩ := Int.eq_ofNat_of_zero_le (bounds_u64 w1).1
  obtain ⟨n3, rfl⟩ := Int.eq_ofNat_of_zero_le (bounds_u64 w3).1
  obtain ⟨n4, rfl⟩ := Int.eq_ofNat_of_zero_le (bounds_u64 w4).1
  obtain ⟨b2, hb2⟩ := nats_of (l := a2) (fun x hx => (bounds_u32 (w2 x hx)).1)
  subst hb2
  rw [List.length_map] at hW' ⊢
  have hi2 : ∀ i ∈ b2, i < 4294967296 := fun i hi => by
    have := (bounds_u32 (w2 (i : Int) (List.mem_map_of_mem hi))).2
    omega
  refine (finds_walk a0 n1 n3 n4 A2 c2 b2 W (tabOf hL) rd2 hi2).mono fun e W' ⟨he, hk⟩ => ?_
  subst he
  exact ⟨_, rfl, law_post hW' rfl (by kernel_rfl) (show Tryz.f4.resultTypes = #[4] by kernel_rfl) Tryz.underlying4 rfl hk.below⟩

theorem laid_met (os : Os) : laidMet Tryz.prog Rows.cacheFindsRow.laid ((tabWorld os).forCall (fun _ _ => 0) ⟨#[], #[.int .i64 0, .int .u64 0, .slice none 0 0, .int .u64 0, .int .u64 0], []⟩).memory :=
  laidMet_of_run' 8 (by kernel_rfl) (by kernel_rfl)
theorem reads (os : Os) {H : Type} (enc : TypeId × Value → H) : ∃ places, DataW.whole enc Tryz.prog ((tabWorld os).forCall (fun _ _ => 0) ⟨#[], #[.int .i64 0, .int .u64 0, .slice none 0 0, .int .u64 0, .int .u64 0], []⟩).memory Tryz.f4.params.toList Rows.cacheFindsSpec.vars false #[Value.int .i64 0, .int .u64 0, .slice none 0 0, .int .u64 0, .int .u64 0].toList 8 = some ([.lit (.int .i64 0), .lit (.int .u64 0), .nil, .lit (.int .u64 0), .lit (.int .u64 0)], [], places) :=
  ⟨[], by kernel_rfl⟩

set_option maxRecDepth 100000 in
theorem lifted (os : Os) (started : os.Started) (H : Type) (enc : TypeId × Value → H) (F : Stop.Interp) :
    ReturnsInHanded {} Tryz.checked os 4 .any ((OpenSpec.ofChange Rows.cacheFindsSpec).preRow enc Tryz.prog Tryz.f4 Rows.cacheFindsRow.domain false Rows.cacheFindsRow.laid) (((OpenSpec.ofChange Rows.cacheFindsSpec).at F).post enc Tryz.prog Tryz.f4 false true false false) := by
  obtain ⟨places, hx⟩ := reads os enc
  refine returnsInHanded_of_row (C := Tryz.checked) (s := OpenSpec.ofChange Rows.cacheFindsSpec) own started (by kernel_rfl) Tryz.func4
    (witness_row_at (enc := enc) (C := Tryz.checked) false (tabWorld os) #[.int .i64 0, .int .u64 0, .slice none 0 0, .int .u64 0, .int .u64 0] rfl (by kernel_rfl) (by kernel_rfl) (by kernel_rfl)
      (OpenSpec.preRow_of_cond 8 hx (by kernel_rfl) (fun k hk => by cases hk) (by kernel_rfl) (laid_met os))) ?_
  intro W base args ds gs before hval hW _ _ _ hL _ _
  exact contract H enc W base args ds gs before hval hW hL

theorem said : Rows.CacheFindsSaid :=
  OpenClaim.holds_of_cond 4 Tryz.f4 rfl rfl rfl rfl rfl rfl rfl ⟨rfl, rfl, rfl, rfl, rfl⟩ rfl rfl rfl rfl rfl (by kernel_rfl) Tryz.func4 (by kernel_rfl)
    (of_decide_eq_true (by kernel_rfl)) (by unfold Func.isWrapper; first | (rw [if_pos (by decide +kernel)]; kernel_rfl) | (rw [if_neg (by decide +kernel)]; exact ⟨rfl, rfl⟩))
    (fun os started H enc _ F => by rw [OpenClaim.pre_eq_preRow]; exact lifted os started H enc F)

theorem plain (f : FuncId) (fn : Func) (hf : Tryz.pinned.checked.prog.funcNamed "vizard/vizardlaw14.CacheFinds" = some f) (hfn : Tryz.pinned.checked.prog.funcs[f]? = some fn) :
    true = Tryz.pinned.checked.prog.looks [] ∧ ∀ (j : Nat) t, fn.params[j]? = some t → Tryz.pinned.checked.prog.wantsStandIn t = false := by
  obtain rfl : f = 4 := Option.some.inj ((show Tryz.prog.funcNamed "vizard/vizardlaw14.CacheFinds" = some 4 by kernel_rfl).symm.trans hf) |>.symm
  obtain rfl : fn = Tryz.f4 := (Option.some.inj (Tryz.func4.symm.trans hfn)).symm
  refine ⟨by kernel_rfl, fun j t ht => ?_⟩
  have h := List.all_eq_true.1 (show (Tryz.f4.params.toList.all fun t => !Tryz.prog.wantsStandIn t) = true by kernel_rfl) t (by simpa using Array.mem_of_getElem? ht)
  exact (show Tryz.prog.wantsStandIn t = false by simpa using h)

theorem card : Rows.CacheFindsCardSaid :=
  Claim7.holds_tied_plain_at .later [] _ _ _ _ said (fun _ h => by cases h) (by kernel_rfl) (fun _ h => by cases h) cacheFinds_row_tie rfl ⟨rfl, rfl⟩ (by kernel_rfl) rfl plain (by kernel_rfl)
#print axioms card
end Go.Proofs.YtgidjgkafbjkpaaGreatDoor.cacheFinds
