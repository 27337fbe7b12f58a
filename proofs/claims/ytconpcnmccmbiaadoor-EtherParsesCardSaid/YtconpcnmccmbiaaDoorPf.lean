/- A range's All: the taken ones in a row of its own. -/
import Derived.Test.YtconpcnmccmbiaaDoorPe
import Derived.LoopTactic
import Derived.Deep.DeepMust
import Derived.Laws.OwnMore
import Derived.Maps.AppendAt
namespace Go.Proofs.YtconpcnmccmbiaaDoor
open Go.RowKit

theorem intInfo : (Tryd.prog.info? 3).map (fun i => (i.zero, i.size, i.bytes)) = some (some (.int .i64 0), 1, 8) := by kernel_rfl
/-- The taken ones below the k-th. -/
def takenL (T : Nat → Bool) (l k : Nat) : List Int := ((List.range k).filter T).map fun (j : Nat) => (j : Int) + (l : Int)
theorem takenL_yes (T : Nat → Bool) (l k : Nat) (h : T k = true) : takenL T l (k + 1) = takenL T l k ++ [(k : Int) + l] := by
  unfold takenL; rw [List.range_succ, List.filter_append, List.map_append]; simp [h]
theorem takenL_no (T : Nat → Bool) (l k : Nat) (h : T k = false) : takenL T l (k + 1) = takenL T l k := by
  unfold takenL; rw [List.range_succ, List.filter_append, List.map_append]; simp [h]
theorem takenL_len (T : Nat → Bool) (l k : Nat) : (takenL T l k).length ≤ k := by
  unfold takenL; rw [List.length_map]; exact Nat.le_trans (List.length_filter_le _ _) (by simp)
theorem takenL_cnt (T : Nat → Bool) (l : Nat) : ∀ k, (takenL T l k).length + cnt T k = k
  | 0 => rfl
  | k + 1 => by
    have := takenL_cnt T l k
    cases h : T k with
    | true => rw [takenL_yes _ _ _ h]; simp [cnt, h]; omega
    | false => rw [takenL_no _ _ _ h]; simp [cnt, h]; omega
def ints (xs : List Int) : List Value := xs.map fun x => .int .i64 x

set_option maxRecDepth 100000 in
set_option maxHeartbeats 1000000 in
theorem all_any (g gw l m mk : Nat) (T : Nat → Bool) (w : World) (h : Rng w g gw l m mk T) :
    Calls Tryd.prog 28 #[.pointer (some ⟨g, 0, none⟩)] w fun e w' => ∃ v, e = .returned v ∧ w'.ownsRow w.heap.size 3 1 v (takenL T l m).length (ints (takenL T l m)) ∧ Kp (fun _ => False) w w' := by
  obtain ⟨ws, hr, h3, h4, h5, h6, h7, h8⟩ := h
  obtain ⟨c0, c1, c2, c3, _, _, b1, b2, b3, b4, b5⟩ := hr.cells
  obtain ⟨g1, g2⟩ := hr.lt
  obtain ⟨i0, hi0, hz0, hz1, hz2⟩ := info_parts intInfo
  have Hr := Lib.hid hr
  have H4 := Lib.hid h4
  clear hr h4 h5 h6
  go_enter Tryd.func28, Tryd.ntmps28
  go_wp2_with fail
  go_loopw [3, 9] (fun v i wr => ∃ k : Nat, k ≤ m ∧ i = .int .i64 k ∧ wr.ownsRow w.heap.size 3 1 v (takenL T l k).length (ints (takenL T l k)) ∧ Kp (fun _ => False) w wr) (fun _ i _ => m - (intOf i).toNat)
  case atStart => exact ⟨0, Nat.zero_le _, rfl, by simpa [takenL, ints] using World.ownsRow_nil w w.heap.size 3 1, Kp.refl _ _⟩
  case round =>
    obtain ⟨k, hk, rfl, hown, hkp⟩ := hrel
    by_cases hlt : k < m
    · have hkl := takenL_len T l k
      have hrw := Hr.out.kept hkp (fun f => f) (fun f => f)
      have Hrw := Lib.hid hrw
      obtain ⟨d0, d1, d2, d3, _⟩ := hrw.cells
      clear hrw
      have hsz := hkp.size
      have Hown := Lib.hid hown
      have Hkp := Lib.hid hkp
      clear hown hkp
      go_wp2_with fail
      refine (taken_any g gw l m mk _ ws k _ Hrw.out (by omega) (by omega)).mono ?_
      rintro e w1 ⟨rfl, rfl⟩
      cases hT : T k with
      | false =>
        have hb : bit ws ((k : Int)).toNat = false := (H4.out k hlt).trans hT
        have HT := Lib.hid hT
        rw [hb]
        clear hT hb
        go_wp2_with fail
        go_roundw
        case rel => exact ⟨k + 1, by omega, by go_num, by rw [takenL_no _ _ _ HT.out]; exact Hown.out, Hkp.out⟩
        case measure => simp [intOf]; omega
      | true =>
        have hb : bit ws ((k : Int)).toNat = true := (H4.out k hlt).trans hT
        have HT := Lib.hid hT
        rw [hb]
        clear hT hb
        go_wp2_with (at_builtin; go_must (refine wpList_append_own _ rfl (.tmp 15) (.tmp 22) _ rfl w.heap.size 3 i0 _ 1 8 Tryd.underlying45 hi0 hz0 hz1 hz2 rfl (by omega) _ _ _ rfl (Hown.out.alloc _) ⟨wr.heap.size, 0, none⟩ 1 1 [.int .i64 ((k : Int) + l)] rfl rfl (cell_one_new _ _ _) (fun x hx => by simp at hx; subst hx; rfl) (by unfold maxLen; omega) (by omega) (by simp; omega) ?_); intro v1 w1 hown1 hgrow1 _)
        go_roundw
        case rel => exact ⟨k + 1, by omega, by go_num, by rw [takenL_yes _ _ _ HT.out]; simpa [ints] using hown1, (Hkp.out.alloc _).grown hgrow1 (fun j hj => .inr (Hown.out.lt j hj).1)⟩
        case measure => simp [intOf]; omega
    · go_wp2_with fail
      go_ret
      obtain rfl : k = m := by omega
      exact ⟨_, rfl, hown, hkp⟩
end Go.Proofs.YtconpcnmccmbiaaDoor
