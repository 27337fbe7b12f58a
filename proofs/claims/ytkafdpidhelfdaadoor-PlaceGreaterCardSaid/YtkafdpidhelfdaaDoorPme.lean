/- Place: strconv.ParseUint at base 16, 8 bits. -/
import Derived.Test.YtkafdpidhelfdaaDoorPmd
import Derived.Test.YtkafdpidhelfdaaDoorPnw
import Derived.Lib.Strings
import Derived.Lib.Walk
import Derived.Lib.ConvBytes
import Derived.Lib.AtoiAllMem
import Derived.Lib.Hide
import Derived.Laws.Strings3
import Derived.Laws.Closers25
import Derived.Laws.Closers25b
import Derived.WalkKit
import Derived.BigCall
import Derived.BigGuard
import Derived.LoopTactic
set_option linter.unusedVariables false
set_option linter.unusedSimpArgs false
namespace Go.Proofs.YtkafdpidhelfdaaDoor
open Go.RowKit

/-- A hex digit's value, as strconv reads it. -/
def hexval (c : UInt8) : Option Nat := if 48 ≤ c.toNat ∧ c.toNat ≤ 57 then some (c.toNat - 48) else if 97 ≤ bits .or .u8 (c.toNat : Int) 32 ∧ bits .or .u8 (c.toNat : Int) 32 ≤ 102 then some ((bits .or .u8 (c.toNat : Int) 32).toNat - 87) else none
/-- The number of hex digits, if it is at most 255. -/
def hexu : Nat → List UInt8 → Option Nat
  | acc, [] => some acc
  | acc, c :: r => match hexval c with | none => none | some d => if acc * 16 + d ≤ 255 then hexu (acc * 16 + d) r else none
theorem hexu_bad {acc : Nat} {c : UInt8} {r : List UInt8} (h : hexval c = none) : hexu acc (c :: r) = none := by unfold hexu; rw [h]
theorem hexu_far {acc d : Nat} {c : UInt8} {r : List UInt8} (h : hexval c = some d) (hd : 255 < acc * 16 + d) : hexu acc (c :: r) = none := by unfold hexu; rw [h]; exact if_neg (by omega)
theorem hexu_go {acc d : Nat} {c : UInt8} {r : List UInt8} (h : hexval c = some d) (hd : acc * 16 + d ≤ 255) : hexu acc (c :: r) = hexu (acc * 16 + d) r := by rw [hexu, h]; exact if_pos hd
theorem hexu_le : ∀ (l : List UInt8) (acc n : Nat), acc ≤ 255 → hexu acc l = some n → n ≤ 255
  | [], acc, n, ha, h => by unfold hexu at h; injection h with h; omega
  | c :: r, acc, n, ha, h => by
    unfold hexu at h
    split at h
    · cases h
    · split at h
      · exact hexu_le r _ n (by omega) h
      · cases h
/-- What a part's number is answered by. -/
def HexP (o : Option Nat) (ev : Ending) : Prop := match o with | some n => ev = .returned (.tuple #[.int .u64 (n : Int), .nilIface]) | none => ∃ (v k : Int), ev = .returned (.tuple #[.int .u64 v, .iface 83 (.int .i64 k)]) ∧ (k = 1 ∨ k = 2)
theorem HexP.bad {o : Option Nat} (h : o = none) (v k : Int) (hk : k = 1 ∨ k = 2) : HexP o (.returned (.tuple #[.int .u64 v, .iface 83 (.int .i64 k)])) := by
  subst h
  exact ⟨v, k, rfl, hk⟩
theorem HexP.good {o : Option Nat} {n : Nat} (h : o = some n) : HexP o (.returned (.tuple #[.int .u64 (n : Int), .nilIface])) := by
  subst h
  exact rfl
set_option maxRecDepth 1000000 in
set_option maxHeartbeats 8000000 in
theorem pux_in (t : ByteArray) (hmax : t.size ≤ 2000) (hne : t.size ≠ 0) (w : World) : Calls Tryd.prog 47 #[.string t, .int .i64 16, .int .i64 8] w fun ev w' => HexP (hexu 0 t.data.toList) ev ∧ Kp (fun _ => False) w w' := by
  have hemp : t.toList.isEmpty = false := by
    rw [← decide_eq_emptyBytes]
    exact decide_eq_false (fun h => hne (by rw [h]; rfl))
  have hcv := Lib.run_convert_string_bytes (P := Tryd.prog) w 9 68 5 t (u := .string) Tryd.underlying9 Tryd.underlying68 Tryd.underlying5
  have hB : ∀ j, j < t.size → (Lib.bytesWorld w 5 t).cell? ⟨w.heap.size, j, none⟩ = some (.int .u8 (t.data.toList.getD j 0).toNat) := fun j hj => Lib.bytesWorld_cell w 5 t j hj
  have K1 := Lib.hid (Kp.of_below (Lib.bytesWorld_below w 5 t) (fun _ => False))
  obtain ⟨W1, hW1⟩ : ∃ W1, W1 = Lib.bytesWorld w 5 t := ⟨_, rfl⟩
  rw [← hW1] at hcv hB K1
  clear hW1
  obtain ⟨bs, hL⟩ : ∃ bs, bs = t.data.toList := ⟨_, rfl⟩
  have hLn : bs.length = t.size := by rw [hL, Lib.size_eq]
  rw [← hL] at hB ⊢
  clear hL
  have hmv : IntKind.u64.wrap (IntKind.u64.wrap 256 - 1) = 255 := by decide
  go_enter Tryd.func47, Tryd.ntmps47
  go_wp2_with fail
  go_loop [12, 13, 101] (fun vu vn vi => ∃ (k acc : Nat) (a : Int), vu = .bool false ∧ vn = .int .u64 a ∧ vi = .int .i64 k ∧ k ≤ t.size ∧ Hid (a = (acc : Int) ∧ acc ≤ 255 ∧ hexu 0 bs = hexu acc (bs.drop k)))
    (fun _ _ vi => t.size - (intOf vi).toNat)
  case atStart => exact ⟨0, 0, 0, rfl, rfl, rfl, by omega, rfl, by omega, rfl⟩
  case round =>
    obtain ⟨k, acc, a, rfl, rfl, rfl, hk, hh⟩ := hrel
    obtain ⟨ha, hacc, hdec⟩ := hh.out
    clear hh
    have a0 : 0 ≤ a := by omega
    have a1 : a ≤ 255 := by omega
    have a2 : ¬ 1152921504606846976 ≤ a := by omega
    by_cases hkn : k < t.size
    · have hc := hB k hkn
      have hdrop : bs.drop k = bs[k]'(by omega) :: bs.drop (k + 1) := List.drop_eq_getElem_cons (by omega)
      have hget : bs.getD k 0 = bs[k]'(by omega) := by simp [List.getD, List.getElem?_eq_getElem (show k < bs.length by omega)]
      rw [hdrop] at hdec
      rw [hget] at hc
      generalize bs[k]'(by omega) = c at hc hdec
      have hc256 : c.toNat < 256 := c.toNat_lt
      clear hB hdrop hget
      by_cases hdig : 48 ≤ c.toNat ∧ c.toNat ≤ 57
      · obtain ⟨D, hDv⟩ : ∃ D, D = c.toNat - 48 := ⟨_, rfl⟩
        have hD : hexval c = some D := by rw [hDv]; exact if_pos hdig
        obtain ⟨hd0, hd1⟩ := hdig
        have HDI := Lib.hid (show (D : Int) = (c.toNat : Int) - 48 by omega)
        have dI : IntKind.u8.wrap ((c.toNat : Int) - 48) = (D : Int) := by
          show ((c.toNat : Int) - 48) % 256 = _
          omega
        have d16 : ¬ (16 : Int) ≤ (D : Int) := by omega
        have x95 : ((c.toNat : Int) == 95) = false := by rw [beq_eq_false_iff_ne]; omega
        have e0 : (48 : Int) ≤ (c.toNat : Int) := by omega
        have e1 : (c.toNat : Int) ≤ 57 := by omega
        clear hDv
        by_cases hov : 255 < acc * 16 + D
        · have hF := hexu_far (acc := acc) (r := bs.drop (k + 1)) hD hov
          have HB := Lib.hid (hdec.trans hF)
          have iov : (255 : Int) < a * 16 + (D : Int) := by omega
          clear hov ha hF hdec hD hacc
          go_wp2_with fail
          exact bodyPost_ret (results_tmp2 rfl _ _ _) rfl ⟨by exact HexP.bad HB.out 255 1 (.inl rfl), K1.out⟩
        · have hF := hexu_go (acc := acc) (r := bs.drop (k + 1)) hD (by omega)
          have HN : Hid (a * 16 + (D : Int) = ((acc * 16 + D : Nat) : Int) ∧ acc * 16 + D ≤ 255 ∧ hexu 0 bs = hexu (acc * 16 + D) (bs.drop (k + 1))) := Lib.hid ⟨by omega, by omega, hdec.trans hF⟩
          have iov : a * 16 + (D : Int) ≤ 255 := by omega
          have ige : a * 16 ≤ a * 16 + (D : Int) := by omega
          clear hov ha hF hdec hD hacc
          go_wp2_with fail
          refine ⟨⟨k + 1, acc * 16 + D, a * 16 + (D : Int), rfl, (by first | rfl | (congr 1; have := HDI.out; omega)), (by first | rfl | (congr 1; omega)), by omega, HN⟩, by simp [intOf]; omega⟩
      · have hl0 := bits_lo_u8 .or (c.toNat : Int) 32
        have hl1 := bits_hi_u8 .or (c.toNat : Int) 32
        have hv : hexval c = if 97 ≤ bits .or .u8 (c.toNat : Int) 32 ∧ bits .or .u8 (c.toNat : Int) 32 ≤ 102 then some ((bits .or .u8 (c.toNat : Int) 32).toNat - 87) else none := if_neg hdig
        by_cases h95 : c.toNat = 95
        · have hF := hexu_bad (acc := acc) (r := bs.drop (k + 1)) (c := c) (by rw [hv, h95]; decide +kernel)
          have HB := Lib.hid (hdec.trans hF)
          have HLc := Lib.hid (show bits BinOp.or IntKind.u8 95 32 = 127 by decide +kernel)
          rw [h95] at hc
          clear hF hdec hacc ha hv hl0 hl1 hdig
          go_wp2_with fail
          refine (Tryd.internal_strconv_lower _ _).mono ?_
          rintro e w' ⟨rfl, rfl⟩
          rw [HLc.out]
          go_wp2_with fail
          refine (Tryd.internal_strconv_lower _ _).mono ?_
          rintro e w' ⟨rfl, rfl⟩
          rw [HLc.out]
          go_wp2_with fail
          exact bodyPost_ret (results_tmp2 rfl _ _ _) rfl ⟨by exact HexP.bad HB.out 0 2 (.inr rfl), K1.out⟩
        · have x95 : ((c.toNat : Int) == 95) = false := by rw [beq_eq_false_iff_ne]; omega
          obtain ⟨L, hL⟩ : ∃ L : Int, bits BinOp.or IntKind.u8 (c.toNat : Int) 32 = L := ⟨_, rfl⟩
          rw [hL] at hv hl0 hl1
          have HLc := Lib.hid hL
          clear hL
          have hcd : c.toNat < 48 ∨ (48 ≤ c.toNat ∧ 57 < c.toNat) := by omega
          clear hdig
          by_cases hin : 97 ≤ L ∧ L ≤ 102
          · obtain ⟨D, hDv⟩ : ∃ D, D = L.toNat - 87 := ⟨_, rfl⟩
            have hD : hexval c = some D := by rw [hv, if_pos hin, hDv]
            obtain ⟨l0, l1⟩ := hin
            have l2 : L ≤ 122 := by omega
            have dI : IntKind.u8.wrap (IntKind.u8.wrap (L - 97) + 10) = (D : Int) := by
              show ((L - 97) % 256 + 10) % 256 = _
              omega
            have d16 : ¬ (16 : Int) ≤ (D : Int) := by omega
            have HDI := Lib.hid (show (D : Int) = L - 87 by omega)
            clear hDv hv hl0 hl1
            rcases hcd with hcd | ⟨hcd, hce⟩
            · have e0 : ¬ (48 : Int) ≤ (c.toNat : Int) := by omega
              by_cases hov : 255 < acc * 16 + D
              · have hF := hexu_far (acc := acc) (r := bs.drop (k + 1)) hD hov
                have HB := Lib.hid (hdec.trans hF)
                have iov : (255 : Int) < a * 16 + (D : Int) := by omega
                clear hov ha hF hdec hD hacc
                go_wp2_with fail
                refine (Tryd.internal_strconv_lower _ _).mono ?_
                rintro e w' ⟨rfl, rfl⟩
                rw [HLc.out]
                go_wp2_with fail
                refine (Tryd.internal_strconv_lower _ _).mono ?_
                rintro e w' ⟨rfl, rfl⟩
                rw [HLc.out]
                go_wp2_with fail
                refine (Tryd.internal_strconv_lower _ _).mono ?_
                rintro e w' ⟨rfl, rfl⟩
                rw [HLc.out]
                go_wp2_with fail
                exact bodyPost_ret (results_tmp2 rfl _ _ _) rfl ⟨by exact HexP.bad HB.out 255 1 (.inl rfl), K1.out⟩
              · have hF := hexu_go (acc := acc) (r := bs.drop (k + 1)) hD (by omega)
                have HN : Hid (a * 16 + (D : Int) = ((acc * 16 + D : Nat) : Int) ∧ acc * 16 + D ≤ 255 ∧ hexu 0 bs = hexu (acc * 16 + D) (bs.drop (k + 1))) := Lib.hid ⟨by omega, by omega, hdec.trans hF⟩
                have iov : a * 16 + (D : Int) ≤ 255 := by omega
                have ige : a * 16 ≤ a * 16 + (D : Int) := by omega
                clear hov ha hF hdec hD hacc
                go_wp2_with fail
                refine (Tryd.internal_strconv_lower _ _).mono ?_
                rintro e w' ⟨rfl, rfl⟩
                rw [HLc.out]
                go_wp2_with fail
                refine (Tryd.internal_strconv_lower _ _).mono ?_
                rintro e w' ⟨rfl, rfl⟩
                rw [HLc.out]
                go_wp2_with fail
                refine (Tryd.internal_strconv_lower _ _).mono ?_
                rintro e w' ⟨rfl, rfl⟩
                rw [HLc.out]
                go_wp2_with fail
                refine ⟨⟨k + 1, acc * 16 + D, a * 16 + (D : Int), rfl, (by first | rfl | (congr 1; have := HDI.out; omega)), (by first | rfl | (congr 1; omega)), by omega, HN⟩, by simp [intOf]; omega⟩
            · have e0 : (48 : Int) ≤ (c.toNat : Int) := by omega
              have e1 : ¬ (c.toNat : Int) ≤ 57 := by omega
              by_cases hov : 255 < acc * 16 + D
              · have hF := hexu_far (acc := acc) (r := bs.drop (k + 1)) hD hov
                have HB := Lib.hid (hdec.trans hF)
                have iov : (255 : Int) < a * 16 + (D : Int) := by omega
                clear hov ha hF hdec hD hacc
                go_wp2_with fail
                refine (Tryd.internal_strconv_lower _ _).mono ?_
                rintro e w' ⟨rfl, rfl⟩
                rw [HLc.out]
                go_wp2_with fail
                refine (Tryd.internal_strconv_lower _ _).mono ?_
                rintro e w' ⟨rfl, rfl⟩
                rw [HLc.out]
                go_wp2_with fail
                refine (Tryd.internal_strconv_lower _ _).mono ?_
                rintro e w' ⟨rfl, rfl⟩
                rw [HLc.out]
                go_wp2_with fail
                exact bodyPost_ret (results_tmp2 rfl _ _ _) rfl ⟨by exact HexP.bad HB.out 255 1 (.inl rfl), K1.out⟩
              · have hF := hexu_go (acc := acc) (r := bs.drop (k + 1)) hD (by omega)
                have HN : Hid (a * 16 + (D : Int) = ((acc * 16 + D : Nat) : Int) ∧ acc * 16 + D ≤ 255 ∧ hexu 0 bs = hexu (acc * 16 + D) (bs.drop (k + 1))) := Lib.hid ⟨by omega, by omega, hdec.trans hF⟩
                have iov : a * 16 + (D : Int) ≤ 255 := by omega
                have ige : a * 16 ≤ a * 16 + (D : Int) := by omega
                clear hov ha hF hdec hD hacc
                go_wp2_with fail
                refine (Tryd.internal_strconv_lower _ _).mono ?_
                rintro e w' ⟨rfl, rfl⟩
                rw [HLc.out]
                go_wp2_with fail
                refine (Tryd.internal_strconv_lower _ _).mono ?_
                rintro e w' ⟨rfl, rfl⟩
                rw [HLc.out]
                go_wp2_with fail
                refine (Tryd.internal_strconv_lower _ _).mono ?_
                rintro e w' ⟨rfl, rfl⟩
                rw [HLc.out]
                go_wp2_with fail
                refine ⟨⟨k + 1, acc * 16 + D, a * 16 + (D : Int), rfl, (by first | rfl | (congr 1; have := HDI.out; omega)), (by first | rfl | (congr 1; omega)), by omega, HN⟩, by simp [intOf]; omega⟩
          · have hF := hexu_bad (acc := acc) (r := bs.drop (k + 1)) (c := c) (by rw [hv, if_neg hin])
            have HB := Lib.hid (hdec.trans hF)
            clear hF hdec hacc ha hv
            have hlc : ¬ 97 ≤ L ∨ (97 ≤ L ∧ ¬ L ≤ 122) ∨ (97 ≤ L ∧ L ≤ 122 ∧ 103 ≤ L) := by
              by_cases q : 97 ≤ L
              · by_cases r : L ≤ 122
                · exact .inr (.inr ⟨q, r, by omega⟩)
                · exact .inr (.inl ⟨q, r⟩)
              · exact .inl q
            clear hin hl0 hl1
            rcases hcd with hcd | ⟨hcd, hce⟩
            · have e0 : ¬ (48 : Int) ≤ (c.toNat : Int) := by omega
              rcases hlc with q | ⟨q, r⟩ | ⟨q, r, r'⟩
              · go_wp2_with fail
                refine (Tryd.internal_strconv_lower _ _).mono ?_
                rintro e w' ⟨rfl, rfl⟩
                rw [HLc.out]
                go_wp2_with fail
                exact bodyPost_ret (results_tmp2 rfl _ _ _) rfl ⟨by exact HexP.bad HB.out 0 2 (.inr rfl), K1.out⟩
              · go_wp2_with fail
                refine (Tryd.internal_strconv_lower _ _).mono ?_
                rintro e w' ⟨rfl, rfl⟩
                rw [HLc.out]
                go_wp2_with fail
                refine (Tryd.internal_strconv_lower _ _).mono ?_
                rintro e w' ⟨rfl, rfl⟩
                rw [HLc.out]
                go_wp2_with fail
                exact bodyPost_ret (results_tmp2 rfl _ _ _) rfl ⟨by exact HexP.bad HB.out 0 2 (.inr rfl), K1.out⟩
              · go_wp2_with fail
                refine (Tryd.internal_strconv_lower _ _).mono ?_
                rintro e w' ⟨rfl, rfl⟩
                rw [HLc.out]
                go_wp2_with fail
                refine (Tryd.internal_strconv_lower _ _).mono ?_
                rintro e w' ⟨rfl, rfl⟩
                rw [HLc.out]
                go_wp2_with fail
                refine (Tryd.internal_strconv_lower _ _).mono ?_
                rintro e w' ⟨rfl, rfl⟩
                rw [HLc.out]
                go_wp2_with fail
                exact bodyPost_ret (results_tmp2 rfl _ _ _) rfl ⟨by exact HexP.bad HB.out 0 2 (.inr rfl), K1.out⟩
            · have e0 : (48 : Int) ≤ (c.toNat : Int) := by omega
              have e1 : ¬ (c.toNat : Int) ≤ 57 := by omega
              rcases hlc with q | ⟨q, r⟩ | ⟨q, r, r'⟩
              · go_wp2_with fail
                refine (Tryd.internal_strconv_lower _ _).mono ?_
                rintro e w' ⟨rfl, rfl⟩
                rw [HLc.out]
                go_wp2_with fail
                exact bodyPost_ret (results_tmp2 rfl _ _ _) rfl ⟨by exact HexP.bad HB.out 0 2 (.inr rfl), K1.out⟩
              · go_wp2_with fail
                refine (Tryd.internal_strconv_lower _ _).mono ?_
                rintro e w' ⟨rfl, rfl⟩
                rw [HLc.out]
                go_wp2_with fail
                refine (Tryd.internal_strconv_lower _ _).mono ?_
                rintro e w' ⟨rfl, rfl⟩
                rw [HLc.out]
                go_wp2_with fail
                exact bodyPost_ret (results_tmp2 rfl _ _ _) rfl ⟨by exact HexP.bad HB.out 0 2 (.inr rfl), K1.out⟩
              · go_wp2_with fail
                refine (Tryd.internal_strconv_lower _ _).mono ?_
                rintro e w' ⟨rfl, rfl⟩
                rw [HLc.out]
                go_wp2_with fail
                refine (Tryd.internal_strconv_lower _ _).mono ?_
                rintro e w' ⟨rfl, rfl⟩
                rw [HLc.out]
                go_wp2_with fail
                refine (Tryd.internal_strconv_lower _ _).mono ?_
                rintro e w' ⟨rfl, rfl⟩
                rw [HLc.out]
                go_wp2_with fail
                exact bodyPost_ret (results_tmp2 rfl _ _ _) rfl ⟨by exact HexP.bad HB.out 0 2 (.inr rfl), K1.out⟩
    · have hkk : k = t.size := by omega
      subst hkk
      have hF : hexu acc (bs.drop t.size) = some acc := by rw [List.drop_eq_nil_of_le (by omega)]; rfl
      have HB := Lib.hid (hdec.trans hF)
      have HA := Lib.hid ha
      clear hdec hF ha hacc
      go_wp2_with fail
      exact bodyPost_ret (results_tmp2 rfl _ _ _) rfl ⟨by rw [HA.out]; exact HexP.good HB.out, K1.out⟩
end Go.Proofs.YtkafdpidhelfdaaDoor
