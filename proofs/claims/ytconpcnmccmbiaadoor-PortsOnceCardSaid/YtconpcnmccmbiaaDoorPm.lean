/- The walk of PortsOnce. -/
import Derived.Test.YtconpcnmccmbiaaDoorPl
import Derived.Maps.OwnOps
namespace Go.Proofs.YtconpcnmccmbiaaDoor
open Go.RowKit

set_option maxRecDepth 100000 in
set_option maxHeartbeats 8000000 in
theorem once_walk (a b : Int) (A : Option Addr) (c : Nat) (xs : List (Int × Int)) (w : World) (hT : Tab w) (ha : -9223372036854775808 ≤ a ∧ a ≤ 9223372036854775807) (hb : -9223372036854775808 ≤ b ∧ b ≤ 9223372036854775807) (hx : RdP w A xs)
    (hbd : ∀ j, -9223372036854775808 ≤ (xs.getD j (0, 0)).2 ∧ (xs.getD j (0, 0)).2 ≤ 9223372036854775807) :
    Calls Tryd.prog 4 #[.int .i64 a, .int .i64 b, .slice A xs.length c] w fun e w' => e = .returned (.bool true) ∧ Kp (fun _ => False) w w' := by
  have HT := Lib.hid hT
  have hlt := hT.lt
  have Hb := Lib.hid hbd
  have Hx := Lib.hid hx
  have hxl := hx.1
  clear hT hbd hx
  by_cases hl3 : (100 : Int) < (xs.length : Int)
  · go_enter Tryd.func4, Tryd.ntmps4
    go_wp2_with fail
    refine (alive18 _ HT.out).mono ?_
    rintro e w1 ⟨rfl, k1⟩
    go_wp2_with fail
    go_ret
    exact ⟨rfl, k1⟩
  by_cases hbad : BadEnds a b
  · go_enter Tryd.func4, Tryd.ntmps4
    go_wp2_with fail
    refine (alive18 _ HT.out).mono ?_
    rintro e w1 ⟨rfl, k1⟩
    go_wp2_with fail
    refine (new_bad a b _ hbad).mono ?_
    rintro e w2 ⟨rfl, rfl⟩
    go_wp2_with fail
    go_ret
    exact ⟨rfl, k1⟩
  obtain ⟨g1, g2, g3⟩ := BadEnds.no hbad
  obtain ⟨l, rfl⟩ := Int.eq_ofNat_of_zero_le (show 0 ≤ a by omega)
  obtain ⟨m, hm⟩ : ∃ m : Nat, b - l + 1 = m := ⟨(b - l + 1).toNat, by omega⟩
  have hm1 : 1 ≤ m := by omega
  have hm2 : l + m ≤ 65536 := by omega
  have hl1 : 1 ≤ l := by omega
  have hbm : b < (l : Int) + m := by omega
  have hbm2 : (l : Int) + m ≤ b + 1 := by omega
  have hmk := @run_makeMap Tryd.prog
  clear hbad hm
  go_enter Tryd.func4, Tryd.ntmps4
  go_wp2_with fail
  refine (alive18 _ HT.out).mono ?_
  rintro e w1 ⟨rfl, k1⟩
  go_wp2_with fail
  refine (new_ok b l m _ hl1 hm1 hm2 (by omega) (HT.out.kept k1 (fun f => f))).mono ?_
  rintro e w2 ⟨g, gw, rfl, r2, q1, q2, k2⟩
  have hs1 := k1.size
  have hs2 := k2.size
  have z2 := r2.lt
  have K2 := k1.trans k2 (fun _ _ f => f)
  clear k1 k2
  go_wp2_with fail
  go_loopw [10] (fun v wr => ∃ (i mk clk : Nat) (T : Nat → Bool) (L : List Ent), v = .int .i64 i ∧ i ≤ xs.length ∧ Rng wr g gw l m mk T ∧ IMap wr w2.heap.size clk L ∧ Marks l m T L ∧ Kp (fun _ => False) w wr) (fun v _ => xs.length - (intOf v).toNat)
  case atStart => exact ⟨0, 0, 0, fun _ => false, [], rfl, by omega, r2.kept ((Kp.refl (fun _ => False) w2).alloc _) (fun f => f) (fun f => f) (fun f => f), IMap.made w2, ⟨fun k => by simp [mget, isTaken], by rw [cnt_none _ _ (fun _ _ => rfl)]; simp⟩, K2.alloc _⟩
  case round =>
    obtain ⟨i, mk, clk, T, L, rfl, hi, hr, hmp, hmk2, hk⟩ := hrel
    have Hk := Lib.hid hk
    have Hr := Lib.hid hr
    have Hmp := Lib.hid hmp
    have Hmk2 := Lib.hid hmk2
    have zr := hr.lt
    have zm := hmp.lt
    clear hk hr hmp hmk2
    by_cases hlt : i < xs.length
    · have hy := Hb.out i
      obtain ⟨cb, co, rfl, hcc⟩ : ∃ b o, A = some ⟨b, o, none⟩ ∧ ∀ j, j < xs.length → wr.cell? ⟨b, o + j * 2, none⟩ = some (.int .i64 (xs.getD j (0, 0)).1) ∧ wr.cell? ⟨b, o + j * 2 + 1, none⟩ = some (.int .i64 (xs.getD j (0, 0)).2) := by
        rcases (Hx.out.kp Hk.out (fun _ _ _ f => f)).2 with h | h
        · omega
        · exact h
      obtain ⟨d1, d2⟩ := hcc i hlt
      generalize xs.getD i (0, 0) = q at d1 d2 hy
      obtain ⟨wh, po⟩ := q
      simp only at d1 d2 hy
      obtain ⟨hy1, hy2⟩ := hy
      have i1 : (0 : Int) ≤ (i : Int) := by omega
      have i2 : (i : Int) < (xs.length : Int) := by omega
      clear hcc
      by_cases hwh : wh = 0
      · subst hwh
        have hr1 := Hr.out.kept ((Kp.refl (fun _ => False) wr).alloc (.cells #[.int .i64 0, .int .i64 po] 24)) (fun f => f) (fun f => f) (fun f => f)
        have hm1' := Hmp.out.kept ((Kp.refl (fun _ => False) wr).alloc (.cells #[.int .i64 0, .int .i64 po] 24)) (fun f => f)
        have hlk := Hmk2.out.look hm1' po
        have Hr1 := Lib.hid hr1
        have Hm1 := Lib.hid hm1'
        have Hlk := Lib.hid hlk
        clear hr1 hm1' hlk
        by_cases hD3 : isPort l m po = true ∧ T (po - l).toNat = false
        · obtain ⟨hD1, hD2⟩ := isPort_yes hD3.1
          have hD4 : po ≤ b := by omega
          have hlk := Hlk.out
          rw [show isTaken l m T po = false from by unfold isTaken; rw [hD3.1, hD3.2]; rfl] at hlk
          have Hfr := Lib.hid hD3
          clear hD3
          go_wp2_with fail
          by_cases hz : cnt T m = 0
          · have hlenL : L.length = m := by have := Hmk2.out.2; omega
            have HlenL := Lib.hid hlenL
            have Hz := Lib.hid hz
            clear hz hlenL
            refine (take_full g gw l m mk T po _ Hr1.out (cnt_zero T m Hz.out)).mono ?_
            rintro e w3 ⟨rfl, rfl⟩
            have hlen := Hm1.out.run_len (P := Tryd.prog) Tryd.underlying39 3
            rw [HlenL.out] at hlen
            go_wp2_with fail
            refine (many_any g gw l m mk T _ Hr1.out).mono ?_
            rintro e w4 ⟨rfl, rfl⟩
            go_wp2_with fail
            refine (left_any g gw l m mk T _ Hr1.out).mono ?_
            rintro e w4 ⟨rfl, rfl⟩
            rw [Hz.out]
            go_wp2_with fail
            refine (many_any g gw l m mk T _ Hr1.out).mono ?_
            rintro e w4 ⟨rfl, rfl⟩
            have hlen2 := hlen
            go_wp2_with fail
            go_roundw
            case rel => exact ⟨i + 1, mk, clk, T, L, by go_num, by omega, Hr1.out, Hm1.out, Hmk2.out, Hk.out.alloc _⟩
            case measure => simp [intOf]; omega
          · refine (take_any g gw l m mk T po _ Hr1.out hy1 hy2 hz).mono ?_
            rintro e w3 ⟨k, mk', ht, rfl, r3, k3⟩
            obtain rfl : po = (k : Int) + l := by
              rcases ht with ⟨h1, _, h3, _⟩ | ⟨h1, _⟩
              · have := isPort_yes h1; omega
              · have h2 := Hfr.out; rw [h2.1, h2.2] at h1; simp at h1
            have hm3 := Hm1.out.kept k3 (by omega)
            have htl := ht.lt
            have htf := ht.free
            have htk : isTaken l m T ((k : Int) + l) = false := by
              unfold isTaken
              rw [show (((k : Int) + (l : Int)) - (l : Int)).toNat = k from by omega, htf]; simp
            have hlk3 := Hmk2.out.look hm3 ((k : Int) + l)
            rw [htk] at hlk3
            have hM := Hmk2.out.lay htl htf clk
            obtain ⟨w4, clk', hup, hm4, k4⟩ := hm3.run_update (P := Tryd.prog) Tryd.underlying39 Tryd.underlying3 ((k : Int) + l) (.bool true)
            have r4 := r3.kept k4 (by omega) (by omega) (by omega)
            have hlen4 := hm4.run_len (P := Tryd.prog) Tryd.underlying39 3
            have hcm : ((cnt (upd T k true) m : Nat) : Int) = (m : Int) - ((mput ((k : Int) + l) (.bool true) clk L).length : Int) := by have := hM.2; omega
            have hbl : ((mput ((k : Int) + l) (.bool true) clk L).length : Int) ≤ (m : Int) := by have := hM.2; omega
            have K4 := ((Hk.out.alloc (.cells #[.int .i64 0, _] 24)).trans k3 (fun k _ hk => by rcases hk with rfl | rfl <;> omega)).trans k4 (fun k _ hk => by omega)
            have e1 := (Bk.new wr 24 #[.int .i64 0, _]).kept k3 (by omega)
            have e2 := e1.cell 1
            simp at e2
            have hkn : ¬ (b < (k : Int) + l) := by omega
            have Hcm := Lib.hid hcm
            have Hlen4 := Lib.hid hlen4
            have Hm4 := Lib.hid hm4
            have HM := Lib.hid hM
            have Hr4 := Lib.hid r4
            clear ht htf htk hz r3 hm3 hM hm4 r4 hlen4 hcm k3 k4 e1
            go_wp2_with fail
            refine (left_any g gw l m mk' _ _ Hr4.out).mono ?_
            rintro e w5 ⟨rfl, rfl⟩
            rw [Hcm.out]
            go_wp2_with fail
            refine (many_any g gw l m mk' _ _ Hr4.out).mono ?_
            rintro e w5 ⟨rfl, rfl⟩
            have hlen4 := Hlen4.out
            go_wp2_with fail
            go_roundw
            case rel => exact ⟨i + 1, mk', clk', _, _, by go_num, by omega, Hr4.out, Hm4.out, HM.out, K4⟩
            case measure => simp [intOf]; omega
        · have hcase : po < (l : Int) ∨ (l : Int) ≤ po ∧ b < po ∨ ((l : Int) ≤ po ∧ po ≤ b) ∧ isTaken l m T po = true := by
            by_cases h1 : po < (l : Int)
            · exact .inl h1
            · by_cases h2 : b < po
              · exact .inr (.inl ⟨by omega, h2⟩)
              · have hp : isPort l m po = true := decide_eq_true (by omega)
                refine .inr (.inr ⟨by omega, ?_⟩)
                unfold isTaken
                rw [hp]
                cases hT : T (po - l).toNat with
                | true => rfl
                | false => exact absurd ⟨hp, hT⟩ hD3
          clear hD3
          rcases hcase with hA | ⟨hB1, hB2⟩ | ⟨⟨hC1, hC2⟩, hC3⟩
          all_goals first
            | (have hA0 := hA
               go_wp2_with fail)
            | (have hB0 := hB2
               go_wp2_with fail)
            | (have hlk := Hlk.out
               rw [hC3] at hlk
               clear hC3
               go_wp2_with fail)
          all_goals
            by_cases hz : cnt T m = 0
            · have hlenL : L.length = m := by have := Hmk2.out.2; omega
              have HlenL := Lib.hid hlenL
              have Hz := Lib.hid hz
              clear hz hlenL
              refine (take_full g gw l m mk T po _ Hr1.out (cnt_zero T m Hz.out)).mono ?_
              rintro e w3 ⟨rfl, rfl⟩
              have hlen := Hm1.out.run_len (P := Tryd.prog) Tryd.underlying39 3
              rw [HlenL.out] at hlen
              go_wp2_with fail
              refine (many_any g gw l m mk T _ Hr1.out).mono ?_
              rintro e w4 ⟨rfl, rfl⟩
              go_wp2_with fail
              refine (left_any g gw l m mk T _ Hr1.out).mono ?_
              rintro e w4 ⟨rfl, rfl⟩
              rw [Hz.out]
              go_wp2_with fail
              refine (many_any g gw l m mk T _ Hr1.out).mono ?_
              rintro e w4 ⟨rfl, rfl⟩
              have hlen2 := hlen
              go_wp2_with fail
              go_roundw
              case rel => exact ⟨i + 1, mk, clk, T, L, by go_num, by omega, Hr1.out, Hm1.out, Hmk2.out, Hk.out.alloc _⟩
              case measure => simp [intOf]; omega
            · refine (take_any g gw l m mk T po _ Hr1.out hy1 hy2 hz).mono ?_
              rintro e w3 ⟨k, mk', ht, rfl, r3, k3⟩
              have hm3 := Hm1.out.kept k3 (by omega)
              have htl := ht.lt
              have htf := ht.free
              have htk : isTaken l m T ((k : Int) + l) = false := by
                unfold isTaken
                rw [show (((k : Int) + (l : Int)) - (l : Int)).toNat = k from by omega, htf]; simp
              have hlk3 := Hmk2.out.look hm3 ((k : Int) + l)
              rw [htk] at hlk3
              have hM := Hmk2.out.lay htl htf clk
              obtain ⟨w4, clk', hup, hm4, k4⟩ := hm3.run_update (P := Tryd.prog) Tryd.underlying39 Tryd.underlying3 ((k : Int) + l) (.bool true)
              have r4 := r3.kept k4 (by omega) (by omega) (by omega)
              have hlen4 := hm4.run_len (P := Tryd.prog) Tryd.underlying39 3
              have hcm : ((cnt (upd T k true) m : Nat) : Int) = (m : Int) - ((mput ((k : Int) + l) (.bool true) clk L).length : Int) := by have := hM.2; omega
              have hbl : ((mput ((k : Int) + l) (.bool true) clk L).length : Int) ≤ (m : Int) := by have := hM.2; omega
              have K4 := ((Hk.out.alloc (.cells #[.int .i64 0, _] 24)).trans k3 (fun k _ hk => by rcases hk with rfl | rfl <;> omega)).trans k4 (fun k _ hk => by omega)
              have e1 := (Bk.new wr 24 #[.int .i64 0, _]).kept k3 (by omega)
              have e2 := e1.cell 1
              simp at e2
              have hkn : ¬ (b < (k : Int) + l) := by omega
              have Hcm := Lib.hid hcm
              have Hlen4 := Lib.hid hlen4
              have Hm4 := Lib.hid hm4
              have HM := Lib.hid hM
              have Hr4 := Lib.hid r4
              clear ht htf htk hz r3 hm3 hM hm4 r4 hlen4 hcm k3 k4 e1
              go_wp2_with fail
              refine (left_any g gw l m mk' _ _ Hr4.out).mono ?_
              rintro e w5 ⟨rfl, rfl⟩
              rw [Hcm.out]
              go_wp2_with fail
              refine (many_any g gw l m mk' _ _ Hr4.out).mono ?_
              rintro e w5 ⟨rfl, rfl⟩
              have hlen4 := Hlen4.out
              go_wp2_with fail
              go_roundw
              case rel => exact ⟨i + 1, mk', clk', _, _, by go_num, by omega, Hr4.out, Hm4.out, HM.out, K4⟩
              case measure => simp [intOf]; omega
      · have hwb : (wh == 0) = false := by simp; exact hwh
        have hr1 := Hr.out.kept ((Kp.refl (fun _ => False) wr).alloc (.cells #[.int .i64 wh, .int .i64 po] 24)) (fun f => f) (fun f => f) (fun f => f)
        have hm1' := Hmp.out.kept ((Kp.refl (fun _ => False) wr).alloc (.cells #[.int .i64 wh, .int .i64 po] 24)) (fun f => f)
        have Hr1 := Lib.hid hr1
        have Hm1 := Lib.hid hm1'
        clear hwh hr1 hm1'
        go_wp2_with fail
        refine (give_any g gw l m mk T po _ Hr1.out hy1 hy2).mono ?_
        rintro e w3 ⟨rfl, r3, k3⟩
        have hm3 := Hm1.out.kept k3 (by omega)
        have hlk := Hmk2.out.look hm3 po
        have Hlk := Lib.hid hlk
        have e1 := (Bk.new wr 24 #[.int .i64 wh, .int .i64 po]).kept k3 (by omega)
        have e2 := e1.cell 1
        simp at e2
        have Hr3 := Lib.hid r3
        have Hm3 := Lib.hid hm3
        have K3 := (Hk.out.alloc (.cells #[.int .i64 wh, .int .i64 po] 24)).trans k3 (fun k _ hk => by rcases hk with rfl | rfl <;> omega)
        have htk := giveT_taken l m T po
        have Htk := Lib.hid htk
        clear r3 hm3 hlk e1 k3 htk
        have hM := Hmk2.out.gave Hmp.out.keys po
        have HM := Lib.hid hM
        clear hM
        cases ht : isTaken l m T po
        all_goals
          have hE : ∃ E : Int, giveE l m T po = E ∧ (E == 0) = isTaken l m T po := by
            refine ⟨_, rfl, ?_⟩
            rw [ht]
            first | exact giveE_no ht | (rw [giveE_yes ht]; rfl)
          obtain ⟨E, hE1, hE2⟩ := hE
          rw [hE1]
          rw [ht] at hE2
          have hlk2 := Hlk.out
          rw [ht] at hlk2
          clear ht hE1
          go_wp2_with fail
          refine (taken_pub g gw l m mk _ po _ Hr3.out hy1 hy2).mono ?_
          rintro e w4 ⟨rfl, n4, rfl⟩
          rw [Htk.out]
          obtain ⟨w5, hdel, hm5, k5⟩ := (Hm3.out.drewN n4).run_delete (P := Tryd.prog) Tryd.underlying39 Tryd.underlying3 po 3 0
          have r5 := (Hr3.out.drewN n4).kept k5 (by omega) (by omega) (by omega)
          have hlen := hm5.run_len (P := Tryd.prog) Tryd.underlying39 3
          have hcm : ((cnt (giveT l m T po) m : Nat) : Int) = (m : Int) - ((mdel po L).length : Int) := by have := HM.out.2; omega
          have Hm5 := Lib.hid hm5
          have Hr5 := Lib.hid r5
          have Hlen := Lib.hid hlen
          have Hcm := Lib.hid hcm
          clear hm5 r5 hlen hcm
          go_wp2_with fail
          refine (left_any g gw l m mk _ _ Hr5.out).mono ?_
          rintro e w6 ⟨rfl, rfl⟩
          go_wp2_with fail
          refine (many_any g gw l m mk _ _ Hr5.out).mono ?_
          rintro e w6 ⟨rfl, rfl⟩
          have hlen := Hlen.out
          have hbl : ((mdel po L).length : Int) ≤ (m : Int) := by have := HM.out.2; omega
          rw [Hcm.out]
          go_wp2_with fail
          go_roundw
          case rel => exact ⟨i + 1, mk, clk, _, _, by go_num, by omega, Hr5.out, Hm5.out, HM.out, (K3.drewN n4).trans k5 (fun k _ hk => by omega)⟩
          case measure => simp [intOf]; omega
    · go_wp2_with fail
      go_ret
      exact ⟨rfl, Hk.out⟩
end Go.Proofs.YtconpcnmccmbiaaDoor
