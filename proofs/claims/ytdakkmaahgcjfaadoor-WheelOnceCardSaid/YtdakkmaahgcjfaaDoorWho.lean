/- Wheel: the keys of a map, as the kit reads maps. -/
import Derived.Test.YtdakkmaahgcjfaaDoorWhm
import Derived.Test.YtdakkmaahgcjfaaDoorWsi
set_option linter.unusedVariables false
set_option linter.unusedSimpArgs false
namespace Go.Proofs.YtdakkmaahgcjfaaDoor
open Go.RowKit

open Go.Shelf Go.Sort Go.Maps
open Go.WideElems (Fit rg pl)
def RB : Value → Option (DataW Nat × List MemPlace) := fun _ => some (.lit (.bool true), [])
theorem wf64 {a : Int} (h1 : -9223372036854775808 ≤ a) (h2 : a ≤ 9223372036854775807) : (Lit.int .i64 a).wf = true := by
  exact WalkArith.wf_i64 ⟨h1, h2⟩
theorem IMap.owns {w : World} {b c : Nat} {L : List Ent} (h : IMap w b c L) (hr : ∀ e ∈ L, -9223372036854775808 ≤ e.k ∧ e.k ≤ 9223372036854775807) (hl : L.length ≤ maxLen) :
    ∃ D, w.ownsMap Tryd.prog 3 RB b L.length D ∧ (intKeys D).Perm (L.map Ent.k) ∧ Maps.size D = L.length := by
  have hrg : ∀ e ∈ L, WideElems.rd Tryd.prog 3 RB e.me = some (.int .i64 e.k, .lit (.bool true)) := by
    intro e he
    unfold WideElems.rd
    rw [show e.me.key = .int .i64 e.k from rfl, keyOf_int_mk Tryd.underlying3 (wf64 (hr e he).1 (hr e he).2)]
    rfl
  refine ⟨_, ⟨_, c, h.at_, ⟨by simpa using hl, ⟨?_, ?_, ?_⟩, ?_⟩, by simp, rfl⟩, ?_, ?_⟩
  · intro x hx
    simp only [List.mem_map] at hx
    obtain ⟨e, he, rfl⟩ := hx
    exact h.below e he
  · rw [List.toList_toArray, List.map_map]
    exact h.born_nd
  · rw [List.toList_toArray, List.map_map]
    have := h.keys
    show (L.map (fun e => Value.int .i64 e.k)).Nodup
    rw [show L.map (fun e => Value.int IntKind.i64 e.k) = (L.map Ent.k).map (fun k => Value.int .i64 k) by rw [List.map_map]; rfl]
    exact List.Pairwise.map _ (fun a b hne e => hne (by injection e)) this
  · intro x hx
    simp only [List.mem_map] at hx
    obtain ⟨e, he, rfl⟩ := hx
    exact ⟨_, hrg e he⟩
  · unfold intKeys
    refine ((WideShapes.sorted_perm _).map _).trans ?_
    rw [List.toList_toArray, List.map_map, List.map_map]
    refine List.Perm.of_eq (List.map_congr_left ?_)
    intro e he
    simp only [Function.comp_apply]
    unfold rg
    rw [hrg e he]
    rfl
  · show (((L.map Ent.me).toArray.toList.map (rg Tryd.prog 3 RB)).foldr DataW.insert []).length = _
    rw [length_sorted]
    simp
end Go.Proofs.YtdakkmaahgcjfaaDoor
