/- Place: the walk of Text. -/
import Derived.Test.YtkafdpidhelfdaaDoorLda
import Derived.Maps.OwnRows
import Derived.LoopTactic
import Derived.WalkKit
set_option linter.unusedVariables false
set_option linter.unusedSimpArgs false
namespace Go.Proofs.YtkafdpidhelfdaaDoor
open Go.RowKit

theorem info9 : ∃ i, Tryd.prog.info? 9 = some i ∧ i.zero = some (.string ByteArray.empty) ∧ i.size = 1 ∧ i.bytes = 16 := by
  have h : (Tryd.prog.info? 9).map (fun i => (i.zero, i.size, i.bytes)) = some (some (.string ByteArray.empty), 1, 16) := by kernel_rfl
  rcases hi : Tryd.prog.info? 9 with _ | i
  · rw [hi] at h; cases h
  · rw [hi] at h
    simp only [Option.map_some, Option.some.injEq, Prod.mk.injEq] at h
    exact ⟨i, rfl, h.1, h.2.1, h.2.2⟩
/-- The first k parts of a text, as values. -/
def pts (ip k : Nat) : List ByteArray := ((ds ip).take k).map fun d => ⟨(Lib.decDigits d).toArray⟩
theorem pts_succ {ip k : Nat} (h : k < 4) : pts ip (k + 1) = pts ip k ++ [⟨(Lib.decDigits ((ds ip).getD k 0)).toArray⟩] := by
  rcases (show k = 0 ∨ k = 1 ∨ k = 2 ∨ k = 3 by omega) with rfl | rfl | rfl | rfl <;> rfl
theorem pts_len {ip k : Nat} (h : k ≤ 4) : (pts ip k).length = k := by
  rcases (show k = 0 ∨ k = 1 ∨ k = 2 ∨ k = 3 ∨ k = 4 by omega) with rfl | rfl | rfl | rfl | rfl <;> rfl
theorem shr_and {ip k : Nat} (h : k < 4) : ip / 2 ^ (24 - 8 * k) % 256 = (ds ip).getD k 0 := by
  rcases (show k = 0 ∨ k = 1 ∨ k = 2 ∨ k = 3 by omega) with rfl | rfl | rfl | rfl
  · rfl
  · rfl
  · rfl
  · show ip / 1 % 256 = ip % 256
    rw [Nat.div_one]
theorem itoa_nat (n : Nat) : Lib.itoa (n : Int) = Lib.decDigits n := by
  unfold Lib.itoa
  rw [if_neg (by omega)]
  rfl
theorem one_cell {w : World} {g : Nat} {v : Value} (h : w.cell? ⟨g, 0, none⟩ = some v) (j : Nat) (u : Value) (hj : [v][j]? = some u) : w.cell? ((⟨g, 0, none⟩ : Addr).add j) = some u := by
  rcases j with _ | j
  · injection hj with hj; subst hj; exact h
  · cases hj
theorem one_one {v : Value} (h : v.oneCell' = true) : ∀ u ∈ [v], u.oneCell' = true := fun u hu => by
  rcases List.mem_singleton.1 hu with rfl
  exact h
theorem own_ge {w : World} {base e size n : Nat} {v : Value} {xs : List Value} (h : w.ownsRow base e size v n xs) {k : Nat} (hk : v.ownBlock = some k) : base ≤ k := by
  obtain ⟨h1, h2⟩ := h
  rcases h2 with ⟨rfl, _⟩ | ⟨g, cap, cur, rfl, hb, hg, r⟩
  · cases hk
  · have : g = k := by simpa [Value.ownBlock] using hk
    omega
set_option maxRecDepth 1000000 in
set_option maxHeartbeats 8000000 in
theorem text_ (ip : Nat) (w : World) (hip : ip < 4294967296) (hl : Laid w) : Calls Tryd.prog 29 #[.int .u32 (ip : Int)] w fun ev w' => ev = .returned (strV (textL ip)) ∧ Kp (fun _ => False) w w' := by
  obtain ⟨i9, hi9, hy0, hy1, hy2⟩ := info9
  have HLD := Lib.hid hl
  clear hl
  go_enter Tryd.func29, Tryd.ntmps29
  go_wp2_with fail
  go_loopw [3, 4] (fun v iv wr => ∃ (k : Nat) (s : Int), k ≤ 4 ∧ s = 24 - 8 * (k : Int) ∧ iv = .int .i64 s ∧ wr.ownsRow w.heap.size 9 1 v k ((pts ip k).map Value.string) ∧ (k ≠ 0 → v ≠ .slice none 0 0) ∧ Kp (fun _ => False) w wr) (fun _ iv _ => (32 + intOf iv).toNat)
  case atStart => exact ⟨0, 24, Nat.zero_le _, rfl, rfl, ⟨rfl, .inl ⟨rfl, rfl⟩⟩, fun h => absurd rfl h, Kp.refl _ _⟩
  case round =>
    obtain ⟨k, s, hk, hs, rfl, hown, hnn, hkp⟩ := hrel
    have HO := Lib.hid hown
    have HK := Lib.hid hkp
    have HN := Lib.hid hnn
    clear hown hkp hnn
    rcases (show k = 0 ∨ k = 1 ∨ k = 2 ∨ k = 3 ∨ k = 4 by omega) with rfl | rfl | rfl | rfl | rfl
    · obtain rfl : s = 24 := by omega
      clear hk hs
      have hd : (ds ip).getD 0 0 = ip / 16777216 % 256 := rfl
      have hlt := ds_lt (ip := ip) (show 0 < 4 by omega)
      have hN : wrap64 (bits BinOp.and IntKind.u32 ((ip : Int) / 16777216) 255) = (((ds ip).getD 0 0 : Nat) : Int) := by
        rw [show ((ip : Int) / 16777216) = ((ip / 16777216 : Nat) : Int) by rfl, show (255 : Int) = ((255 : Nat) : Int) by rfl, u32_and_nat _ _ (by omega) (by omega), Nat.and_two_pow_sub_one_eq_mod _ 8, hd]
        show wrap64 ((ip / 16777216 % 256 : Nat) : Int) = _
        exact IntWalk.wrap64_in _ (by omega)
      clear hd
      have hP := pts_succ (ip := ip) (show 0 < 4 by omega)
      generalize (ds ip).getD 0 0 = d at *
      have HI := Lib.hid (Tryd.strconv_Itoa (d : Int) (by omega) (by omega) wr (tab_kp HLD.out.pow HK.out))
      rw [itoa_nat] at HI
      generalize Lib.decDigits d = D at *
      go_wp2_with fail
      rw [hN]
      refine HI.out.mono ?_
      rintro ev w1 ⟨rfl, q, os, hw1⟩
      have k1 := hw1 ▸ kp_grow wr q os
      clear hw1
      have k2 := k1.alloc (.cells #[strV D] 9)
      have O2 := Lib.hid (own_kp HO.out k2 (fun _ _ f => f))
      have K2 := Lib.hid (HK.out.trans' k2)
      have hbk := Bk.new w1 9 #[strV D]
      have hc := hbk.cell 0
      simp only [List.getElem?_toArray, List.getElem?_cons_zero, List.getElem?_cons_succ] at hc
      generalize hA : w1.alloc (.cells #[strV D] 9) = wA at O2 K2 hc
      have HA := Lib.hid hA
      have HC := Lib.hid hc
      clear hA hc hbk k1 k2 HI hN
      have hb3 : w.heap.size ≤ wA.heap.size := K2.out.size
      go_wp2_with
        (at_builtin
         go_must (
           try rw [HA.out]
           refine wpList_append_own _ rfl (.tmp 9) (.tmp 16) _ rfl w.heap.size 9 i9 _ 1 16 Tryd.underlying62 hi9 hy0 hy1 hy2 rfl (by omega) u3 0 ((pts ip 0).map Value.string) rfl O2.out ⟨w1.heap.size, 0, none⟩ 1 1 [strV D] rfl rfl (one_cell HC.out) (one_one rfl) (by unfold maxLen; omega) (by omega) hb3 ?_
           intro v4 w4 own4 hgrow4 hnil4
           have K4 := Lib.hid (Kp.trans K2.out ((Kp.refl (fun b => u3.ownBlock = some b) wA).grown hgrow4 (fun i hi => .inl hi)) (fun b hb h => absurd hb (by have := own_ge O2.out h; omega)))
           have O4 := Lib.hid own4
           have N4 := Lib.hid (fun e => hnil4.1 e)
           clear own4 hgrow4 hnil4))
      go_roundw
      case rel => exact ⟨1, 16, by omega, by omega, rfl, by rw [hP, List.map_append]; exact O4.out, fun _ e => absurd (N4.out e).2 (by omega), K4.out⟩
      case measure => simp [intOf]
    · obtain rfl : s = 16 := by omega
      clear hk hs
      have hd : (ds ip).getD 1 0 = ip / 65536 % 256 := rfl
      have hlt := ds_lt (ip := ip) (show 1 < 4 by omega)
      have hN : wrap64 (bits BinOp.and IntKind.u32 ((ip : Int) / 65536) 255) = (((ds ip).getD 1 0 : Nat) : Int) := by
        rw [show ((ip : Int) / 65536) = ((ip / 65536 : Nat) : Int) by rfl, show (255 : Int) = ((255 : Nat) : Int) by rfl, u32_and_nat _ _ (by omega) (by omega), Nat.and_two_pow_sub_one_eq_mod _ 8, hd]
        show wrap64 ((ip / 65536 % 256 : Nat) : Int) = _
        exact IntWalk.wrap64_in _ (by omega)
      clear hd
      have hP := pts_succ (ip := ip) (show 1 < 4 by omega)
      generalize (ds ip).getD 1 0 = d at *
      have HI := Lib.hid (Tryd.strconv_Itoa (d : Int) (by omega) (by omega) wr (tab_kp HLD.out.pow HK.out))
      rw [itoa_nat] at HI
      generalize Lib.decDigits d = D at *
      go_wp2_with fail
      rw [hN]
      refine HI.out.mono ?_
      rintro ev w1 ⟨rfl, q, os, hw1⟩
      have k1 := hw1 ▸ kp_grow wr q os
      clear hw1
      have k2 := k1.alloc (.cells #[strV D] 9)
      have O2 := Lib.hid (own_kp HO.out k2 (fun _ _ f => f))
      have K2 := Lib.hid (HK.out.trans' k2)
      have hbk := Bk.new w1 9 #[strV D]
      have hc := hbk.cell 0
      simp only [List.getElem?_toArray, List.getElem?_cons_zero, List.getElem?_cons_succ] at hc
      generalize hA : w1.alloc (.cells #[strV D] 9) = wA at O2 K2 hc
      have HA := Lib.hid hA
      have HC := Lib.hid hc
      clear hA hc hbk k1 k2 HI hN
      have hb3 : w.heap.size ≤ wA.heap.size := K2.out.size
      go_wp2_with
        (at_builtin
         go_must (
           try rw [HA.out]
           refine wpList_append_own _ rfl (.tmp 9) (.tmp 16) _ rfl w.heap.size 9 i9 _ 1 16 Tryd.underlying62 hi9 hy0 hy1 hy2 rfl (by omega) u3 1 ((pts ip 1).map Value.string) rfl O2.out ⟨w1.heap.size, 0, none⟩ 1 1 [strV D] rfl rfl (one_cell HC.out) (one_one rfl) (by unfold maxLen; omega) (by omega) hb3 ?_
           intro v4 w4 own4 hgrow4 hnil4
           have K4 := Lib.hid (Kp.trans K2.out ((Kp.refl (fun b => u3.ownBlock = some b) wA).grown hgrow4 (fun i hi => .inl hi)) (fun b hb h => absurd hb (by have := own_ge O2.out h; omega)))
           have O4 := Lib.hid own4
           have N4 := Lib.hid (fun e => hnil4.1 e)
           clear own4 hgrow4 hnil4))
      go_roundw
      case rel => exact ⟨2, 8, by omega, by omega, rfl, by rw [hP, List.map_append]; exact O4.out, fun _ e => absurd (N4.out e).2 (by omega), K4.out⟩
      case measure => simp [intOf]
    · obtain rfl : s = 8 := by omega
      clear hk hs
      have hd : (ds ip).getD 2 0 = ip / 256 % 256 := rfl
      have hlt := ds_lt (ip := ip) (show 2 < 4 by omega)
      have hN : wrap64 (bits BinOp.and IntKind.u32 ((ip : Int) / 256) 255) = (((ds ip).getD 2 0 : Nat) : Int) := by
        rw [show ((ip : Int) / 256) = ((ip / 256 : Nat) : Int) by rfl, show (255 : Int) = ((255 : Nat) : Int) by rfl, u32_and_nat _ _ (by omega) (by omega), Nat.and_two_pow_sub_one_eq_mod _ 8, hd]
        show wrap64 ((ip / 256 % 256 : Nat) : Int) = _
        exact IntWalk.wrap64_in _ (by omega)
      clear hd
      have hP := pts_succ (ip := ip) (show 2 < 4 by omega)
      generalize (ds ip).getD 2 0 = d at *
      have HI := Lib.hid (Tryd.strconv_Itoa (d : Int) (by omega) (by omega) wr (tab_kp HLD.out.pow HK.out))
      rw [itoa_nat] at HI
      generalize Lib.decDigits d = D at *
      go_wp2_with fail
      rw [hN]
      refine HI.out.mono ?_
      rintro ev w1 ⟨rfl, q, os, hw1⟩
      have k1 := hw1 ▸ kp_grow wr q os
      clear hw1
      have k2 := k1.alloc (.cells #[strV D] 9)
      have O2 := Lib.hid (own_kp HO.out k2 (fun _ _ f => f))
      have K2 := Lib.hid (HK.out.trans' k2)
      have hbk := Bk.new w1 9 #[strV D]
      have hc := hbk.cell 0
      simp only [List.getElem?_toArray, List.getElem?_cons_zero, List.getElem?_cons_succ] at hc
      generalize hA : w1.alloc (.cells #[strV D] 9) = wA at O2 K2 hc
      have HA := Lib.hid hA
      have HC := Lib.hid hc
      clear hA hc hbk k1 k2 HI hN
      have hb3 : w.heap.size ≤ wA.heap.size := K2.out.size
      go_wp2_with
        (at_builtin
         go_must (
           try rw [HA.out]
           refine wpList_append_own _ rfl (.tmp 9) (.tmp 16) _ rfl w.heap.size 9 i9 _ 1 16 Tryd.underlying62 hi9 hy0 hy1 hy2 rfl (by omega) u3 2 ((pts ip 2).map Value.string) rfl O2.out ⟨w1.heap.size, 0, none⟩ 1 1 [strV D] rfl rfl (one_cell HC.out) (one_one rfl) (by unfold maxLen; omega) (by omega) hb3 ?_
           intro v4 w4 own4 hgrow4 hnil4
           have K4 := Lib.hid (Kp.trans K2.out ((Kp.refl (fun b => u3.ownBlock = some b) wA).grown hgrow4 (fun i hi => .inl hi)) (fun b hb h => absurd hb (by have := own_ge O2.out h; omega)))
           have O4 := Lib.hid own4
           have N4 := Lib.hid (fun e => hnil4.1 e)
           clear own4 hgrow4 hnil4))
      go_roundw
      case rel => exact ⟨3, 0, by omega, by omega, rfl, by rw [hP, List.map_append]; exact O4.out, fun _ e => absurd (N4.out e).2 (by omega), K4.out⟩
      case measure => simp [intOf]
    · obtain rfl : s = 0 := by omega
      clear hk hs
      have hd : (ds ip).getD 3 0 = ip % 256 := rfl
      have hlt := ds_lt (ip := ip) (show 3 < 4 by omega)
      have hN : wrap64 (bits BinOp.and IntKind.u32 (ip : Int) 255) = (((ds ip).getD 3 0 : Nat) : Int) := by
        rw [show (ip : Int) = ((ip : Nat) : Int) by rfl, show (255 : Int) = ((255 : Nat) : Int) by rfl, u32_and_nat _ _ (by omega) (by omega), Nat.and_two_pow_sub_one_eq_mod _ 8, hd]
        show wrap64 ((ip % 256 : Nat) : Int) = _
        exact IntWalk.wrap64_in _ (by omega)
      clear hd
      have hP := pts_succ (ip := ip) (show 3 < 4 by omega)
      generalize (ds ip).getD 3 0 = d at *
      have HI := Lib.hid (Tryd.strconv_Itoa (d : Int) (by omega) (by omega) wr (tab_kp HLD.out.pow HK.out))
      rw [itoa_nat] at HI
      generalize Lib.decDigits d = D at *
      go_wp2_with fail
      rw [hN]
      refine HI.out.mono ?_
      rintro ev w1 ⟨rfl, q, os, hw1⟩
      have k1 := hw1 ▸ kp_grow wr q os
      clear hw1
      have k2 := k1.alloc (.cells #[strV D] 9)
      have O2 := Lib.hid (own_kp HO.out k2 (fun _ _ f => f))
      have K2 := Lib.hid (HK.out.trans' k2)
      have hbk := Bk.new w1 9 #[strV D]
      have hc := hbk.cell 0
      simp only [List.getElem?_toArray, List.getElem?_cons_zero, List.getElem?_cons_succ] at hc
      generalize hA : w1.alloc (.cells #[strV D] 9) = wA at O2 K2 hc
      have HA := Lib.hid hA
      have HC := Lib.hid hc
      clear hA hc hbk k1 k2 HI hN
      have hb3 : w.heap.size ≤ wA.heap.size := K2.out.size
      go_wp2_with
        (at_builtin
         go_must (
           try rw [HA.out]
           refine wpList_append_own _ rfl (.tmp 9) (.tmp 16) _ rfl w.heap.size 9 i9 _ 1 16 Tryd.underlying62 hi9 hy0 hy1 hy2 rfl (by omega) u3 3 ((pts ip 3).map Value.string) rfl O2.out ⟨w1.heap.size, 0, none⟩ 1 1 [strV D] rfl rfl (one_cell HC.out) (one_one rfl) (by unfold maxLen; omega) (by omega) hb3 ?_
           intro v4 w4 own4 hgrow4 hnil4
           have K4 := Lib.hid (Kp.trans K2.out ((Kp.refl (fun b => u3.ownBlock = some b) wA).grown hgrow4 (fun i hi => .inl hi)) (fun b hb h => absurd hb (by have := own_ge O2.out h; omega)))
           have O4 := Lib.hid own4
           have N4 := Lib.hid (fun e => hnil4.1 e)
           clear own4 hgrow4 hnil4))
      go_roundw
      case rel => exact ⟨4, -8, by omega, by omega, rfl, by rw [hP, List.map_append]; exact O4.out, fun _ e => absurd (N4.out e).2 (by omega), K4.out⟩
      case measure => simp [intOf]
    · obtain rfl : s = -8 := by omega
      clear hk hs
      have ho := HO.out
      rcases ho.2 with ⟨e, _⟩ | ⟨g, cap, cur, rfl, hge, hgt, hc1, hc2, hc3, hc4⟩
      · exact absurd e (HN.out (by omega))
      have hJ : (Lib.join ((pts ip 4).map (·.data.toList)) [46]) = textL ip := rfl
      have HJ := Lib.hid (Tryd.strings_Join g 0 cap (pts ip 4) ⟨#[46]⟩ wr (fun j x hx => by
        have hh := ho.cells (g := g) rfl j (Value.string x) (by rw [List.getElem?_map, hx]; rfl)
        by_cases hj : j = 0
        · subst hj; exact hh
        · simpa [Addr.add, hj] using hh) (by rcases Nat.lt_or_ge g wr.heap.size with h | h; exact h; rw [Array.getElem?_eq_none h] at hgt; cases hgt) (by rw [pts_len (by omega)]; omega) (by rw [pts_len (by omega)]; omega) (by
          show (textL ip).length ≤ _
          have := text_len ip
          omega))
      rw [hJ, pts_len (by omega)] at HJ
      clear hJ ho hgt hc4 HO HN HLD
      obtain ⟨R, hR⟩ : ∃ R, R = textL ip := ⟨_, rfl⟩
      rw [← hR] at HJ
      have HR := Lib.hid hR
      clear hR
      go_wp2_with fail
      refine HJ.out.mono ?_
      rintro ev w1 ⟨rfl, k1⟩
      have K1 := Lib.hid (HK.out.trans' (Kp.of_below k1 (fun _ => False)))
      clear k1 HJ
      go_wp2_with fail
      exact bodyPost_ret (results_tmp rfl _ _ _) rfl ⟨by rw [← HR.out]; rfl, K1.out⟩
end Go.Proofs.YtkafdpidhelfdaaDoor
