/- Place: the walk of MacText. -/
import Derived.Test.YtkafdpidhelfdaaDoorPhz
import Derived.Test.YtkafdpidhelfdaaDoorPnt
import Derived.Maps.OwnRows
import Derived.LoopTactic
import Derived.WalkKit
set_option linter.unusedVariables false
set_option linter.unusedSimpArgs false
namespace Go.Proofs.YtkafdpidhelfdaaDoor
open Go.RowKit

/-- A byte's two hex digits. -/
def two (u : Nat) : List UInt8 := [hexd (u / 16), hexd (u % 16)]
/-- A Mac's text. -/
def macL (ms : List Nat) : List UInt8 := Lib.join (ms.map two) [58]
def mpts (ms : List Nat) (k : Nat) : List ByteArray := (ms.take k).map fun u => ⟨(two u).toArray⟩
theorem mpts_succ {ms : List Nat} {k : Nat} (h : k < ms.length) : mpts ms (k + 1) = mpts ms k ++ [⟨(two (ms[k]'h)).toArray⟩] := by
  unfold mpts
  rw [List.take_succ_eq_append_getElem h, List.map_append]
  rfl
theorem mpts_len {ms : List Nat} {k : Nat} (h : k ≤ ms.length) : (mpts ms k).length = k := by
  unfold mpts
  rw [List.length_map, List.length_take]
  omega
/-- "0" + FormatUint(u, 16), its last two bytes. -/
theorem two_cut {u : Nat} (hu : u < 256) : ∃ T : ByteArray, 2 ≤ T.size ∧ T.size ≤ 3 ∧ T.extract (T.size - 2) T.size = ⟨(two u).toArray⟩ ∧ ∀ W, (Op.stringOp .add ⟨#[48]⟩ ⟨(hexT u).toArray⟩).run Tryd.prog W = .ok (.string T) W := by
  have run : ∀ x : List UInt8, x.length ≤ 2 → ∀ W, (Op.stringOp .add ⟨#[48]⟩ ⟨x.toArray⟩).run Tryd.prog W = .ok (.string ⟨(48 :: x).toArray⟩) W := fun x hx W => by
    rw [run_string_add_sum (P := Tryd.prog) (w := W) ⟨#[48]⟩ ⟨x.toArray⟩ (by
      show 1 + x.toArray.size ≤ _
      rw [List.size_toArray]; omega)]
    congr 2
  by_cases h : u < 16
  · have e : hexT u = [hexd u] := if_pos h
    rw [e]
    refine ⟨⟨(48 :: [hexd u]).toArray⟩, by show 2 ≤ 2; omega, by show 2 ≤ 3; omega, ?_, run _ (by simp)⟩
    have : two u = [48, hexd u] := by
      unfold two
      rw [Nat.div_eq_of_lt h, Nat.mod_eq_of_lt h]
      rfl
    rw [this]
    apply ByteArray.ext
    rfl
  · have e : hexT u = [hexd (u / 16), hexd (u % 16)] := if_neg h
    rw [e]
    refine ⟨⟨(48 :: [hexd (u / 16), hexd (u % 16)]).toArray⟩, by show 2 ≤ 3; omega, by show 3 ≤ 3; omega, ?_, run _ (by simp)⟩
    apply ByteArray.ext
    rfl
set_option maxRecDepth 1000000 in
set_option maxHeartbeats 8000000 in
theorem mactext_ (a b c d e f : Nat) (w : World) (h0 : a < 256) (h1 : b < 256) (h2 : c < 256) (h3 : d < 256) (h4 : e < 256) (h5 : f < 256) (hT : w.cell? ⟨7, 15, none⟩ = some (.int .u8 4)) : Calls Tryd.prog 31 #[macV a b c d e f] w fun ev w' => ev = .returned (strV (macL [a, b, c, d, e, f])) ∧ Kp (fun _ => False) w w' := by
  obtain ⟨i9, hi9, hy0, hy1, hy2⟩ := info9
  have K0 := Lib.hid ((Kp.refl (fun _ => False) w).alloc (.cells #[.int .u8 (a : Int), .int .u8 (b : Int), .int .u8 (c : Int), .int .u8 (d : Int), .int .u8 (e : Int), .int .u8 (f : Int)] 37))
  have hT' := Lib.hid hT
  go_enter Tryd.func31, Tryd.ntmps31
  go_wp2_with fail
  generalize hW : w.alloc (.cells #[.int .u8 (a : Int), .int .u8 (b : Int), .int .u8 (c : Int), .int .u8 (d : Int), .int .u8 (e : Int), .int .u8 (f : Int)] 37) = wb at *
  clear hW
  go_loopw [3, 8] (fun v iv wr => ∃ (k : Nat) (s : Int), k ≤ 6 ∧ s = (k : Int) ∧ iv = .int .i64 s ∧ wr.ownsRow w.heap.size 9 1 v k ((mpts [a, b, c, d, e, f] k).map Value.string) ∧ (k ≠ 0 → v ≠ .slice none 0 0) ∧ Kp (fun _ => False) w wr) (fun _ iv _ => (32 - intOf iv).toNat)
  case atStart => exact ⟨0, 0, Nat.zero_le _, rfl, rfl, ⟨rfl, .inl ⟨rfl, rfl⟩⟩, fun h => absurd rfl h, K0.out⟩
  case round =>
    obtain ⟨k, s, hk, hs, rfl, hown, hnn, hkp⟩ := hrel
    have HO := Lib.hid hown
    have HK := Lib.hid hkp
    have HN := Lib.hid hnn
    clear hown hkp hnn
    rcases (show k = 0 ∨ k = 1 ∨ k = 2 ∨ k = 3 ∨ k = 4 ∨ k = 5 ∨ k = 6 by omega) with rfl | rfl | rfl | rfl | rfl | rfl | rfl
    · obtain rfl : s = 0 := by omega
      clear hk hs
      obtain ⟨T, t1, t2, t3, t4⟩ := two_cut h0
      have hP := mpts_succ (ms := [a, b, c, d, e, f]) (k := 0) (by show 0 < 6; omega)
      have HF := Lib.hid (show Calls Tryd.prog 45 #[.int .u64 (a : Int), .int .i64 16] wr fun ev w' => ev = .returned (.string ⟨(hexT a).toArray⟩) ∧ Kp (fun _ => False) wr w' from fu_ a h0 wr (kp_kc0 hT'.out HK.out))
      have x1 : wrap64 ((T.size : Int) - 2) = ((T.size - 2 : Nat) : Int) := by
        rw [show (T.size : Int) - 2 = ((T.size - 2 : Nat) : Int) by omega]
        exact IntWalk.wrap64_in _ (by omega)
      have s1 : IntKind.u64.wrap (a : Int) = (a : Int) := by
        show (a : Int) % 18446744073709551616 = _
        omega
      have hix : ∀ W, (Instr.index 37 (.agg #[.int .u8 (a : Int), .int .u8 (b : Int), .int .u8 (c : Int), .int .u8 (d : Int), .int .u8 (e : Int), .int .u8 (f : Int)]) (.int .i64 0)).run Tryd.prog W = .ok (.int .u8 (a : Int)) W := fun W => by
        simp [Instr.index, run_underlying Tryd.underlying37, asIntOf, part, isAgg, go_sem]
      go_wp2_with fail
      try rw [s1]
      refine HF.out.mono ?_
      rintro ev w1 ⟨rfl, k1⟩
      have z1 : (0 : Int) ≤ ((T.size - 2 : Nat) : Int) ∧ ((T.size - 2 : Nat) : Int) ≤ (T.size : Int) := by omega
      have k2 := k1.alloc (.cells #[strV (two a)] 9)
      have O2 := Lib.hid (own_kp HO.out k2 (fun _ _ f => f))
      have K2 := Lib.hid (HK.out.trans' k2)
      have hbk := Bk.new w1 9 #[strV (two a)]
      have hc := hbk.cell 0
      simp only [List.getElem?_toArray, List.getElem?_cons_zero, List.getElem?_cons_succ] at hc
      generalize hA : w1.alloc (.cells #[strV (two a)] 9) = wA at O2 K2 hc
      have HA := Lib.hid hA
      have HC := Lib.hid hc
      have hb3 : w.heap.size ≤ wA.heap.size := K2.out.size
      clear hA hc hbk k1 k2 HF
      go_wp2_with
        (at_builtin
         go_must (
           try rw [HA.out]
           refine wpList_append_own _ rfl (.tmp 15) (.tmp 21) _ rfl w.heap.size 9 i9 _ 1 16 Tryd.underlying62 hi9 hy0 hy1 hy2 rfl (by omega) u3 0 ((mpts [a, b, c, d, e, f] 0).map Value.string) rfl O2.out ⟨w1.heap.size, 0, none⟩ 1 1 [strV (two a)] rfl rfl (one_cell HC.out) (one_one rfl) (by unfold maxLen; omega) (by omega) hb3 ?_
           intro v4 w4 own4 hgrow4 hnil4
           have K4 := Lib.hid (Kp.trans K2.out ((Kp.refl (fun b => u3.ownBlock = some b) wA).grown hgrow4 (fun i hi => .inl hi)) (fun b hb h => absurd hb (by have := own_ge O2.out h; omega)))
           have O4 := Lib.hid own4
           have N4 := Lib.hid (fun e => hnil4.1 e)
           clear own4 hgrow4 hnil4))
      go_roundw
      case rel => exact ⟨1, 1, by omega, rfl, rfl, by rw [hP, List.map_append]; exact O4.out, fun _ e => absurd (N4.out e).2 (by omega), K4.out⟩
      case measure => simp [intOf]
    · obtain rfl : s = 1 := by omega
      clear hk hs
      obtain ⟨T, t1, t2, t3, t4⟩ := two_cut h1
      have hP := mpts_succ (ms := [a, b, c, d, e, f]) (k := 1) (by show 1 < 6; omega)
      have HF := Lib.hid (show Calls Tryd.prog 45 #[.int .u64 (b : Int), .int .i64 16] wr fun ev w' => ev = .returned (.string ⟨(hexT b).toArray⟩) ∧ Kp (fun _ => False) wr w' from fu_ b h1 wr (kp_kc0 hT'.out HK.out))
      have x1 : wrap64 ((T.size : Int) - 2) = ((T.size - 2 : Nat) : Int) := by
        rw [show (T.size : Int) - 2 = ((T.size - 2 : Nat) : Int) by omega]
        exact IntWalk.wrap64_in _ (by omega)
      have s1 : IntKind.u64.wrap (b : Int) = (b : Int) := by
        show (b : Int) % 18446744073709551616 = _
        omega
      have hix : ∀ W, (Instr.index 37 (.agg #[.int .u8 (a : Int), .int .u8 (b : Int), .int .u8 (c : Int), .int .u8 (d : Int), .int .u8 (e : Int), .int .u8 (f : Int)]) (.int .i64 1)).run Tryd.prog W = .ok (.int .u8 (b : Int)) W := fun W => by
        simp [Instr.index, run_underlying Tryd.underlying37, asIntOf, part, isAgg, go_sem]
      go_wp2_with fail
      try rw [s1]
      refine HF.out.mono ?_
      rintro ev w1 ⟨rfl, k1⟩
      have z1 : (0 : Int) ≤ ((T.size - 2 : Nat) : Int) ∧ ((T.size - 2 : Nat) : Int) ≤ (T.size : Int) := by omega
      have k2 := k1.alloc (.cells #[strV (two b)] 9)
      have O2 := Lib.hid (own_kp HO.out k2 (fun _ _ f => f))
      have K2 := Lib.hid (HK.out.trans' k2)
      have hbk := Bk.new w1 9 #[strV (two b)]
      have hc := hbk.cell 0
      simp only [List.getElem?_toArray, List.getElem?_cons_zero, List.getElem?_cons_succ] at hc
      generalize hA : w1.alloc (.cells #[strV (two b)] 9) = wA at O2 K2 hc
      have HA := Lib.hid hA
      have HC := Lib.hid hc
      have hb3 : w.heap.size ≤ wA.heap.size := K2.out.size
      clear hA hc hbk k1 k2 HF
      go_wp2_with
        (at_builtin
         go_must (
           try rw [HA.out]
           refine wpList_append_own _ rfl (.tmp 15) (.tmp 21) _ rfl w.heap.size 9 i9 _ 1 16 Tryd.underlying62 hi9 hy0 hy1 hy2 rfl (by omega) u3 1 ((mpts [a, b, c, d, e, f] 1).map Value.string) rfl O2.out ⟨w1.heap.size, 0, none⟩ 1 1 [strV (two b)] rfl rfl (one_cell HC.out) (one_one rfl) (by unfold maxLen; omega) (by omega) hb3 ?_
           intro v4 w4 own4 hgrow4 hnil4
           have K4 := Lib.hid (Kp.trans K2.out ((Kp.refl (fun b => u3.ownBlock = some b) wA).grown hgrow4 (fun i hi => .inl hi)) (fun b hb h => absurd hb (by have := own_ge O2.out h; omega)))
           have O4 := Lib.hid own4
           have N4 := Lib.hid (fun e => hnil4.1 e)
           clear own4 hgrow4 hnil4))
      go_roundw
      case rel => exact ⟨2, 2, by omega, rfl, rfl, by rw [hP, List.map_append]; exact O4.out, fun _ e => absurd (N4.out e).2 (by omega), K4.out⟩
      case measure => simp [intOf]
    · obtain rfl : s = 2 := by omega
      clear hk hs
      obtain ⟨T, t1, t2, t3, t4⟩ := two_cut h2
      have hP := mpts_succ (ms := [a, b, c, d, e, f]) (k := 2) (by show 2 < 6; omega)
      have HF := Lib.hid (show Calls Tryd.prog 45 #[.int .u64 (c : Int), .int .i64 16] wr fun ev w' => ev = .returned (.string ⟨(hexT c).toArray⟩) ∧ Kp (fun _ => False) wr w' from fu_ c h2 wr (kp_kc0 hT'.out HK.out))
      have x1 : wrap64 ((T.size : Int) - 2) = ((T.size - 2 : Nat) : Int) := by
        rw [show (T.size : Int) - 2 = ((T.size - 2 : Nat) : Int) by omega]
        exact IntWalk.wrap64_in _ (by omega)
      have s1 : IntKind.u64.wrap (c : Int) = (c : Int) := by
        show (c : Int) % 18446744073709551616 = _
        omega
      have hix : ∀ W, (Instr.index 37 (.agg #[.int .u8 (a : Int), .int .u8 (b : Int), .int .u8 (c : Int), .int .u8 (d : Int), .int .u8 (e : Int), .int .u8 (f : Int)]) (.int .i64 2)).run Tryd.prog W = .ok (.int .u8 (c : Int)) W := fun W => by
        simp [Instr.index, run_underlying Tryd.underlying37, asIntOf, part, isAgg, go_sem]
      go_wp2_with fail
      try rw [s1]
      refine HF.out.mono ?_
      rintro ev w1 ⟨rfl, k1⟩
      have z1 : (0 : Int) ≤ ((T.size - 2 : Nat) : Int) ∧ ((T.size - 2 : Nat) : Int) ≤ (T.size : Int) := by omega
      have k2 := k1.alloc (.cells #[strV (two c)] 9)
      have O2 := Lib.hid (own_kp HO.out k2 (fun _ _ f => f))
      have K2 := Lib.hid (HK.out.trans' k2)
      have hbk := Bk.new w1 9 #[strV (two c)]
      have hc := hbk.cell 0
      simp only [List.getElem?_toArray, List.getElem?_cons_zero, List.getElem?_cons_succ] at hc
      generalize hA : w1.alloc (.cells #[strV (two c)] 9) = wA at O2 K2 hc
      have HA := Lib.hid hA
      have HC := Lib.hid hc
      have hb3 : w.heap.size ≤ wA.heap.size := K2.out.size
      clear hA hc hbk k1 k2 HF
      go_wp2_with
        (at_builtin
         go_must (
           try rw [HA.out]
           refine wpList_append_own _ rfl (.tmp 15) (.tmp 21) _ rfl w.heap.size 9 i9 _ 1 16 Tryd.underlying62 hi9 hy0 hy1 hy2 rfl (by omega) u3 2 ((mpts [a, b, c, d, e, f] 2).map Value.string) rfl O2.out ⟨w1.heap.size, 0, none⟩ 1 1 [strV (two c)] rfl rfl (one_cell HC.out) (one_one rfl) (by unfold maxLen; omega) (by omega) hb3 ?_
           intro v4 w4 own4 hgrow4 hnil4
           have K4 := Lib.hid (Kp.trans K2.out ((Kp.refl (fun b => u3.ownBlock = some b) wA).grown hgrow4 (fun i hi => .inl hi)) (fun b hb h => absurd hb (by have := own_ge O2.out h; omega)))
           have O4 := Lib.hid own4
           have N4 := Lib.hid (fun e => hnil4.1 e)
           clear own4 hgrow4 hnil4))
      go_roundw
      case rel => exact ⟨3, 3, by omega, rfl, rfl, by rw [hP, List.map_append]; exact O4.out, fun _ e => absurd (N4.out e).2 (by omega), K4.out⟩
      case measure => simp [intOf]
    · obtain rfl : s = 3 := by omega
      clear hk hs
      obtain ⟨T, t1, t2, t3, t4⟩ := two_cut h3
      have hP := mpts_succ (ms := [a, b, c, d, e, f]) (k := 3) (by show 3 < 6; omega)
      have HF := Lib.hid (show Calls Tryd.prog 45 #[.int .u64 (d : Int), .int .i64 16] wr fun ev w' => ev = .returned (.string ⟨(hexT d).toArray⟩) ∧ Kp (fun _ => False) wr w' from fu_ d h3 wr (kp_kc0 hT'.out HK.out))
      have x1 : wrap64 ((T.size : Int) - 2) = ((T.size - 2 : Nat) : Int) := by
        rw [show (T.size : Int) - 2 = ((T.size - 2 : Nat) : Int) by omega]
        exact IntWalk.wrap64_in _ (by omega)
      have s1 : IntKind.u64.wrap (d : Int) = (d : Int) := by
        show (d : Int) % 18446744073709551616 = _
        omega
      have hix : ∀ W, (Instr.index 37 (.agg #[.int .u8 (a : Int), .int .u8 (b : Int), .int .u8 (c : Int), .int .u8 (d : Int), .int .u8 (e : Int), .int .u8 (f : Int)]) (.int .i64 3)).run Tryd.prog W = .ok (.int .u8 (d : Int)) W := fun W => by
        simp [Instr.index, run_underlying Tryd.underlying37, asIntOf, part, isAgg, go_sem]
      go_wp2_with fail
      try rw [s1]
      refine HF.out.mono ?_
      rintro ev w1 ⟨rfl, k1⟩
      have z1 : (0 : Int) ≤ ((T.size - 2 : Nat) : Int) ∧ ((T.size - 2 : Nat) : Int) ≤ (T.size : Int) := by omega
      have k2 := k1.alloc (.cells #[strV (two d)] 9)
      have O2 := Lib.hid (own_kp HO.out k2 (fun _ _ f => f))
      have K2 := Lib.hid (HK.out.trans' k2)
      have hbk := Bk.new w1 9 #[strV (two d)]
      have hc := hbk.cell 0
      simp only [List.getElem?_toArray, List.getElem?_cons_zero, List.getElem?_cons_succ] at hc
      generalize hA : w1.alloc (.cells #[strV (two d)] 9) = wA at O2 K2 hc
      have HA := Lib.hid hA
      have HC := Lib.hid hc
      have hb3 : w.heap.size ≤ wA.heap.size := K2.out.size
      clear hA hc hbk k1 k2 HF
      go_wp2_with
        (at_builtin
         go_must (
           try rw [HA.out]
           refine wpList_append_own _ rfl (.tmp 15) (.tmp 21) _ rfl w.heap.size 9 i9 _ 1 16 Tryd.underlying62 hi9 hy0 hy1 hy2 rfl (by omega) u3 3 ((mpts [a, b, c, d, e, f] 3).map Value.string) rfl O2.out ⟨w1.heap.size, 0, none⟩ 1 1 [strV (two d)] rfl rfl (one_cell HC.out) (one_one rfl) (by unfold maxLen; omega) (by omega) hb3 ?_
           intro v4 w4 own4 hgrow4 hnil4
           have K4 := Lib.hid (Kp.trans K2.out ((Kp.refl (fun b => u3.ownBlock = some b) wA).grown hgrow4 (fun i hi => .inl hi)) (fun b hb h => absurd hb (by have := own_ge O2.out h; omega)))
           have O4 := Lib.hid own4
           have N4 := Lib.hid (fun e => hnil4.1 e)
           clear own4 hgrow4 hnil4))
      go_roundw
      case rel => exact ⟨4, 4, by omega, rfl, rfl, by rw [hP, List.map_append]; exact O4.out, fun _ e => absurd (N4.out e).2 (by omega), K4.out⟩
      case measure => simp [intOf]
    · obtain rfl : s = 4 := by omega
      clear hk hs
      obtain ⟨T, t1, t2, t3, t4⟩ := two_cut h4
      have hP := mpts_succ (ms := [a, b, c, d, e, f]) (k := 4) (by show 4 < 6; omega)
      have HF := Lib.hid (show Calls Tryd.prog 45 #[.int .u64 (e : Int), .int .i64 16] wr fun ev w' => ev = .returned (.string ⟨(hexT e).toArray⟩) ∧ Kp (fun _ => False) wr w' from fu_ e h4 wr (kp_kc0 hT'.out HK.out))
      have x1 : wrap64 ((T.size : Int) - 2) = ((T.size - 2 : Nat) : Int) := by
        rw [show (T.size : Int) - 2 = ((T.size - 2 : Nat) : Int) by omega]
        exact IntWalk.wrap64_in _ (by omega)
      have s1 : IntKind.u64.wrap (e : Int) = (e : Int) := by
        show (e : Int) % 18446744073709551616 = _
        omega
      have hix : ∀ W, (Instr.index 37 (.agg #[.int .u8 (a : Int), .int .u8 (b : Int), .int .u8 (c : Int), .int .u8 (d : Int), .int .u8 (e : Int), .int .u8 (f : Int)]) (.int .i64 4)).run Tryd.prog W = .ok (.int .u8 (e : Int)) W := fun W => by
        simp [Instr.index, run_underlying Tryd.underlying37, asIntOf, part, isAgg, go_sem]
      go_wp2_with fail
      try rw [s1]
      refine HF.out.mono ?_
      rintro ev w1 ⟨rfl, k1⟩
      have z1 : (0 : Int) ≤ ((T.size - 2 : Nat) : Int) ∧ ((T.size - 2 : Nat) : Int) ≤ (T.size : Int) := by omega
      have k2 := k1.alloc (.cells #[strV (two e)] 9)
      have O2 := Lib.hid (own_kp HO.out k2 (fun _ _ f => f))
      have K2 := Lib.hid (HK.out.trans' k2)
      have hbk := Bk.new w1 9 #[strV (two e)]
      have hc := hbk.cell 0
      simp only [List.getElem?_toArray, List.getElem?_cons_zero, List.getElem?_cons_succ] at hc
      generalize hA : w1.alloc (.cells #[strV (two e)] 9) = wA at O2 K2 hc
      have HA := Lib.hid hA
      have HC := Lib.hid hc
      have hb3 : w.heap.size ≤ wA.heap.size := K2.out.size
      clear hA hc hbk k1 k2 HF
      go_wp2_with
        (at_builtin
         go_must (
           try rw [HA.out]
           refine wpList_append_own _ rfl (.tmp 15) (.tmp 21) _ rfl w.heap.size 9 i9 _ 1 16 Tryd.underlying62 hi9 hy0 hy1 hy2 rfl (by omega) u3 4 ((mpts [a, b, c, d, e, f] 4).map Value.string) rfl O2.out ⟨w1.heap.size, 0, none⟩ 1 1 [strV (two e)] rfl rfl (one_cell HC.out) (one_one rfl) (by unfold maxLen; omega) (by omega) hb3 ?_
           intro v4 w4 own4 hgrow4 hnil4
           have K4 := Lib.hid (Kp.trans K2.out ((Kp.refl (fun b => u3.ownBlock = some b) wA).grown hgrow4 (fun i hi => .inl hi)) (fun b hb h => absurd hb (by have := own_ge O2.out h; omega)))
           have O4 := Lib.hid own4
           have N4 := Lib.hid (fun e => hnil4.1 e)
           clear own4 hgrow4 hnil4))
      go_roundw
      case rel => exact ⟨5, 5, by omega, rfl, rfl, by rw [hP, List.map_append]; exact O4.out, fun _ e => absurd (N4.out e).2 (by omega), K4.out⟩
      case measure => simp [intOf]
    · obtain rfl : s = 5 := by omega
      clear hk hs
      obtain ⟨T, t1, t2, t3, t4⟩ := two_cut h5
      have hP := mpts_succ (ms := [a, b, c, d, e, f]) (k := 5) (by show 5 < 6; omega)
      have HF := Lib.hid (show Calls Tryd.prog 45 #[.int .u64 (f : Int), .int .i64 16] wr fun ev w' => ev = .returned (.string ⟨(hexT f).toArray⟩) ∧ Kp (fun _ => False) wr w' from fu_ f h5 wr (kp_kc0 hT'.out HK.out))
      have x1 : wrap64 ((T.size : Int) - 2) = ((T.size - 2 : Nat) : Int) := by
        rw [show (T.size : Int) - 2 = ((T.size - 2 : Nat) : Int) by omega]
        exact IntWalk.wrap64_in _ (by omega)
      have s1 : IntKind.u64.wrap (f : Int) = (f : Int) := by
        show (f : Int) % 18446744073709551616 = _
        omega
      have hix : ∀ W, (Instr.index 37 (.agg #[.int .u8 (a : Int), .int .u8 (b : Int), .int .u8 (c : Int), .int .u8 (d : Int), .int .u8 (e : Int), .int .u8 (f : Int)]) (.int .i64 5)).run Tryd.prog W = .ok (.int .u8 (f : Int)) W := fun W => by
        simp [Instr.index, run_underlying Tryd.underlying37, asIntOf, part, isAgg, go_sem]
      go_wp2_with fail
      try rw [s1]
      refine HF.out.mono ?_
      rintro ev w1 ⟨rfl, k1⟩
      have z1 : (0 : Int) ≤ ((T.size - 2 : Nat) : Int) ∧ ((T.size - 2 : Nat) : Int) ≤ (T.size : Int) := by omega
      have k2 := k1.alloc (.cells #[strV (two f)] 9)
      have O2 := Lib.hid (own_kp HO.out k2 (fun _ _ f => f))
      have K2 := Lib.hid (HK.out.trans' k2)
      have hbk := Bk.new w1 9 #[strV (two f)]
      have hc := hbk.cell 0
      simp only [List.getElem?_toArray, List.getElem?_cons_zero, List.getElem?_cons_succ] at hc
      generalize hA : w1.alloc (.cells #[strV (two f)] 9) = wA at O2 K2 hc
      have HA := Lib.hid hA
      have HC := Lib.hid hc
      have hb3 : w.heap.size ≤ wA.heap.size := K2.out.size
      clear hA hc hbk k1 k2 HF
      go_wp2_with
        (at_builtin
         go_must (
           try rw [HA.out]
           refine wpList_append_own _ rfl (.tmp 15) (.tmp 21) _ rfl w.heap.size 9 i9 _ 1 16 Tryd.underlying62 hi9 hy0 hy1 hy2 rfl (by omega) u3 5 ((mpts [a, b, c, d, e, f] 5).map Value.string) rfl O2.out ⟨w1.heap.size, 0, none⟩ 1 1 [strV (two f)] rfl rfl (one_cell HC.out) (one_one rfl) (by unfold maxLen; omega) (by omega) hb3 ?_
           intro v4 w4 own4 hgrow4 hnil4
           have K4 := Lib.hid (Kp.trans K2.out ((Kp.refl (fun b => u3.ownBlock = some b) wA).grown hgrow4 (fun i hi => .inl hi)) (fun b hb h => absurd hb (by have := own_ge O2.out h; omega)))
           have O4 := Lib.hid own4
           have N4 := Lib.hid (fun e => hnil4.1 e)
           clear own4 hgrow4 hnil4))
      go_roundw
      case rel => exact ⟨6, 6, by omega, rfl, rfl, by rw [hP, List.map_append]; exact O4.out, fun _ e => absurd (N4.out e).2 (by omega), K4.out⟩
      case measure => simp [intOf]
    · obtain rfl : s = 6 := by omega
      clear hk hs hT
      have ho := HO.out
      rcases ho.2 with ⟨e, _⟩ | ⟨g, cap, cur, rfl, hge, hgt, hc1, hc2, hc3, hc4⟩
      · exact absurd e (HN.out (by omega))
      have HJ := Lib.hid (Tryd.strings_Join g 0 cap (mpts [a, b, c, d, e, f] 6) ⟨#[58]⟩ wr (fun j x hx => by
        have hh := ho.cells (g := g) rfl j (Value.string x) (by rw [List.getElem?_map, hx]; rfl)
        by_cases hj : j = 0
        · subst hj; exact hh
        · simpa [Addr.add, hj] using hh) (by rcases Nat.lt_or_ge g wr.heap.size with h | h; exact h; rw [Array.getElem?_eq_none h] at hgt; cases hgt) (by rw [mpts_len (Nat.le_refl 6)]; omega) (by rw [mpts_len (Nat.le_refl 6)]; omega) (by
          show 17 ≤ _
          omega))
      have HJ : Hid (Calls Tryd.prog 43 #[.slice (some ⟨g, 0, none⟩) 6 cap, .string ⟨#[58]⟩] wr fun ev w' => ev = .returned (strV (macL [a, b, c, d, e, f])) ∧ Below wr.heap.size wr w') := HJ
      clear ho hgt hc4 HO HN
      obtain ⟨R, hR⟩ : ∃ R, R = macL [a, b, c, d, e, f] := ⟨_, rfl⟩
      rw [← hR] at HJ
      have HR := Lib.hid hR
      clear hR
      go_wp2_with fail
      refine HJ.out.mono ?_
      rintro ev w1 ⟨rfl, k1⟩
      have K1 := Lib.hid (HK.out.trans' (Kp.of_below k1 (fun _ => False)))
      clear k1 HJ
      go_wp2_with fail
      exact bodyPost_ret (results_tmp rfl _ _ _) rfl ⟨by rw [← HR.out]; rfl, K1.out⟩
end Go.Proofs.YtkafdpidhelfdaaDoor
