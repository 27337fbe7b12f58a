/- Wheel: Go. -/
import Derived.Test.YtgidjgkafbjkpaaGreatDoorWhs
set_option linter.unusedVariables false
set_option linter.unusedSimpArgs false
namespace Go.Proofs.YtgidjgkafbjkpaaGreatDoor
open Go.RowKit

open Go.Shelf Go.Sort Go.Maps
theorem first_uniq {full : Nat → Nat} {k j k2 j2 : Nat} (h : First full k j) (h2 : First full k2 j2) : k2 = k ∧ j2 = j := by
  rcases Nat.lt_trichotomy k2 k with hl | rfl | hl
  · have := h.low k2 hl; have hb := h2.bit; rw [this] at hb; simp at hb
  · rcases Nat.lt_trichotomy j2 j with hl | rfl | hl
    · have := h.least j2 hl; rw [h2.bit] at this; cases this
    · exact ⟨rfl, rfl⟩
    · have := h2.least j hl; rw [h.bit] at this; cases this
  · have := h2.low k hl; have hb := h.bit; rw [this] at hb; simp at hb
theorem first_zero {now t : Nat} {s : WS} (hz : ∀ k, k < 11 → s.full k = 0) (inv : Inv now s.tm.L s.ov.L s.sls s.full (fun _ => False)) {k j : Nat} (hf : First s.full k j) : t < fromOf now k j := by
  obtain ⟨i0, d0, hg0, ha0, ht0⟩ := inv.first_at hf
  have hk := ha0.lt11 inv.now_le ht0
  have hb := hf.bit
  rw [hz k hk] at hb
  simp at hb
theorem keys_call (mb : Option Nat) (W : World) : Calls Tryz.prog 69 #[.map mb] W fun e w' => e = .returned (.func (.func 81) #[] #[.pointer (some ⟨W.heap.size, 0, none⟩)]) ∧ w' = W.alloc (.cells #[.map mb] 107) :=
  (callsIn_wide (n := 5)).1 (AnyZI.keys_in Tryz.keysA Fence.wide 5 trivial rfl mb W)
set_option maxRecDepth 1000000 in
set_option maxHeartbeats 8000000 in
theorem go_far (g now t : Nat) (s : WS) (w : World) (h : WM w g now s) (ht : ¬ t ≤ TOP) :
    Calls Tryz.prog 51 #[.pointer (some ⟨g, 0, none⟩), .int .u64 t] w fun ev w' => ev = .returned (.tuple #[.slice none 0 0, .int .i64 11]) ∧ Kp (fun _ => False) w w' := by
  have h1 : (4611686018427387904 : Int) < (t : Int) := by unfold TOP at ht; omega
  have h2 : ¬ ((t : Int) ≤ 4611686018427387904) := by omega
  have kA := (Kp.refl (fun _ => False) w).alloc (.cells #[.pointer (some ⟨g, 0, none⟩)] 62)
  have c0 := kp_kc0 ((h.bk.cell 0).trans (WC_now ..)) kA
  have KA := Lib.hid kA
  clear h kA
  go_enter Tryz.func51, Tryz.ntmps51
  go_wp2_with fail
  exact bodyPost_ret (results_tmp2 rfl _ _ _) rfl ⟨rfl, KA.out⟩
set_option maxRecDepth 1000000 in
set_option maxHeartbeats 8000000 in
theorem go_old (g now t : Nat) (s : WS) (w : World) (h : WM w g now s) (ht : t ≤ TOP) (hn : t < now) :
    Calls Tryz.prog 51 #[.pointer (some ⟨g, 0, none⟩), .int .u64 t] w fun ev w' => ev = .returned (.tuple #[.slice none 0 0, .int .i64 22]) ∧ Kp (fun _ => False) w w' := by
  have h1 : ¬ (4611686018427387904 : Int) < (t : Int) := by unfold TOP at ht; omega
  have h2 : ((t : Int) ≤ 4611686018427387904) := by omega
  have h3 : (t : Int) < (now : Int) := by omega
  have h4 : ¬ (now : Int) ≤ (t : Int) := by omega
  have kA := (Kp.refl (fun _ => False) w).alloc (.cells #[.pointer (some ⟨g, 0, none⟩)] 62)
  have c0 := kp_kc0 ((h.bk.cell 0).trans (WC_now ..)) kA
  have KA := Lib.hid kA
  clear h kA
  go_enter Tryz.func51, Tryz.ntmps51
  go_wp2_with fail
  exact bodyPost_ret (results_tmp2 rfl _ _ _) rfl ⟨rfl, KA.out⟩
set_option maxRecDepth 1000000 in
set_option maxHeartbeats 8000000 in
theorem go_ok (g now t : Nat) (s : WS) (w : World) (h : WM w g now s) (inv : Inv now s.tm.L s.ov.L s.sls s.full (fun _ => False)) (hT : Tab w) (h0 : ¬ fp g s 0) (ht : t ≤ TOP) (hn : now ≤ t)
    (hr : ∀ i v, mget i s.tm.L = some v → -9223372036854775808 ≤ i ∧ i ≤ 9223372036854775807) (hl : s.tm.L.length ≤ 1000000) :
    Calls Tryz.prog 51 #[.pointer (some ⟨g, 0, none⟩), .int .u64 t] w fun ev w' => ∃ v, ev = .returned (.tuple #[v, .int .i64 0]) ∧ GoPost g t s w w' v := by
  have h1 : ¬ (4611686018427387904 : Int) < (t : Int) := by unfold TOP at ht; omega
  have h2 : ((t : Int) ≤ 4611686018427387904) := by unfold TOP at ht; omega
  have h3 : ¬ (t : Int) < (now : Int) := by omega
  have h4 : (now : Int) ≤ (t : Int) := by omega
  have kA := (Kp.refl (fun _ => False) w).alloc (.cells #[.pointer (some ⟨g, 0, none⟩)] 62)
  have hbx := Bk.new w 62 #[.pointer (some ⟨g, 0, none⟩)]
  have c0 := kp_kc0 ((h.bk.cell 0).trans (WC_now ..)) kA
  have hsz : (w.alloc (.cells #[.pointer (some ⟨g, 0, none⟩)] 62)).heap.size = w.heap.size + 1 := by show (w.heap.push _).size = _; simp
  have G0 := Lib.hid (show GMid g t w.heap.size s w (w.alloc (.cells #[.pointer (some ⟨g, 0, none⟩)] 62)) (w.alloc (.cells #[.pointer (some ⟨g, 0, none⟩)] 62)) now s from
    ⟨h.none_kept kA, inv, hn, Dues.refl _, rfl, rfl, rfl, kA.mono (fun _ f => f.elim), fun b hb => .inl hb, Nat.le_refl _, hT.kept kA (fun f => f), hbx.cell 0⟩)
  have HW := Lib.hid (fun b (hb : fp g s b) => h.lt hb)
  have H0 := Lib.hid h0
  have HW0 := Lib.hid hT.lt
  have HXX := Lib.hid (show w.heap.size ≤ w.heap.size ∧ w.heap.size < (w.alloc (.cells #[.pointer (some ⟨g, 0, none⟩)] 62)).heap.size from ⟨Nat.le_refl _, by rw [hsz]; exact Nat.lt_succ_self _⟩)
  have I := Lib.hid inv
  have HT := Lib.hid ht
  have HR := Lib.hid hr
  have SPOT := Lib.hid (show ∀ i v, mget i s.tm.L = some v → ∃ d p, v = spotV d p from fun i v hv => by obtain ⟨d, p, e, _⟩ := inv.spot i v hv; exact ⟨d, p, e⟩)
  have SZ0 := Lib.hid kA.size
  have HL := Lib.hid hl
  have HK := Lib.hid h.tm.keys
  clear h inv hT h0 ht hn hr hl kA hbx hsz
  go_enter Tryz.func51, Tryz.ntmps51
  go_wp2_with fail
  generalize w.alloc (.cells #[.pointer (some ⟨g, 0, none⟩)] 62) = w0 at *
  go_loopw [6, 7, 8, 9] (fun _ _ _ _ wr => ∃ now' s', GMid g t w.heap.size s w w0 wr now' s') (fun _ _ _ _ wr => t - nowOf wr g)
  case atStart => exact ⟨_, _, G0.out⟩
  case round =>
    obtain ⟨now', s', hg⟩ := hrel
    have HG := Lib.hid hg
    have bx := hg.box
    rcases first_or s'.full hg.inv.full_lt with hz | ⟨k, j, hk, hf⟩
    · have HZ := Lib.hid hz
      clear hg hz
      go_wp2_with fail
      refine (first_none g now' s' wr HG.out.wm HZ.out).mono ?_
      rintro ev w2 ⟨rfl, n1, rfl⟩
      have CW0 := Lib.hid (show (∀ k j, First s'.full k j → t < fromOf now' k j) from fun k j hf => first_zero HZ.out HG.out.inv hf)
      have HG2 := Lib.hid (HG.out.drewN n1)
      have CW := Lib.hid CW0.out
      generalize wr.drewN n1 = W2 at *
      have d0 := (HG2.out.wm.bk.cell 0).trans (WC_now ..)
      have f0 := HG2.out.wm.bk.frozen 0
      have bx2 := HG2.out.box
      have AP := Lib.hid (HG2.out.apart HW.out H0.out HW0.out HXX.out)
      have kS : Kp (fun b => b = g) W2 (W2.setCell ⟨g, 0, none⟩ (.int .u64 ((t : Nat) : Int))) := (Kp.refl (fun b => b = g) W2).setCell (p := ⟨g, 0, none⟩) (.inl rfl) _
      have hbS := HG2.out.wm.bk.put 0 (.int .u64 ((t : Nat) : Int))
      rw [WC_set_now] at hbS
      have hw3 : WM (W2.setCell ⟨g, 0, none⟩ (.int .u64 ((t : Nat) : Int))) g t s' := HG2.out.wm.setBk (now' := t) (full' := s'.full) kS hbS
      have bx3 := kp_kc' HG2.out.box kS (fun e => AP.out.2 (.inl e))
      have z3 : (W2.setCell ⟨g, 0, none⟩ (.int .u64 ((t : Nat) : Int))).cell? ⟨g, 717, none⟩ = some (.map (some s'.ov.b)) := (hw3.bk.cell 717).trans (WC_ov ..)
      have K3 := Lib.hid kS
      have H3 := Lib.hid hw3
      have BX3 := Lib.hid bx3
      clear kS hbS hw3
      go_wp2_with fail
      generalize W2.setCell ⟨g, 0, none⟩ (.int .u64 ((t : Nat) : Int)) = W3 at *
      refine (keys_call _ _).mono ?_
      rintro ev w4 ⟨rfl, rfl⟩
      have k4 := (Kp.refl (fun _ => False) W3).alloc (.cells #[.map (some s'.ov.b)] 107)
      have hBm := (Bk.new W3 107 #[.map (some s'.ov.b)]).cell 0
      have h4 := H3.out.none_kept k4
      have bx4 := kp_kc0 BX3.out k4
      have invT := Lib.hid (HG2.out.inv.time HG2.out.le HT.out CW.out ((first_or s'.full HG2.out.inv.full_lt).imp (fun h => h) (fun ⟨k, j, _, hf⟩ => ⟨k, j, hf⟩))).1
      obtain ⟨sm1, sm2⟩ := over_small H3.out invT.out HG2.out.dues HG2.out.len HR.out HL.out
      have SM2 := Lib.hid sm2
      have SC := Lib.hid (sorted_keys g t w.heap.size W3.heap.size s' _ _ h4 invT bx4 hBm sm1 sm2)
      have K4 := Lib.hid k4
      have SZ4 := Lib.hid (show W3.heap.size ≤ (W3.alloc (.cells #[.map (some s'.ov.b)] 107)).heap.size from k4.size)
      clear k4 hBm h4 bx4 invT sm1 sm2
      go_wp2_with fail
      refine SC.out.mono ?_
      rintro ev W5 ⟨v, l, rfl, hperm, hpw, hrow, k5⟩
      have hlb : (l.length : Int) ≤ 1000000 := by
        have h1 := hperm.length_eq
        have h2 := SM2.out
        rw [List.length_map] at h1
        omega
      have K5 := Lib.hid (K4.out.trans' k5)
      have ROW := Lib.hid (Go.Proofs.ownsRow_base_a hrow SZ4.out)
      have PE := Lib.hid hperm
      have PW := Lib.hid hpw
      clear SC SZ4 hperm hpw hrow k5
      generalize (W3.alloc (.cells #[.map (some s'.ov.b)] 107)) = W4 at *
      have H5 := Lib.hid (H3.out.none_kept K5.out)
      have BX5 := Lib.hid (kp_kc0 BX3.out K5.out)
      have NX := Lib.hid (show ¬ (fun b => b = s'.tm.b) w.heap.size from fun e => AP.out.2 (.inr (.inl e)))
      have NG := Lib.hid (show ¬ (fun b => b = s'.tm.b) g from fun e => H3.out.tm.ne_bk H3.out.bk e.symm)
      have Z5 := Lib.hid ((H5.out.bk.cell 1).trans (WC_tm ..))
      obtain ⟨A, cap, rfl⟩ : ∃ A cap, v = .slice A l.length cap := by
        rcases ROW.out.2 with ⟨rfl, hl⟩ | ⟨gb, cap, cur, rfl, _⟩
        · exact ⟨none, 0, by rw [hl]⟩
        · exact ⟨_, _, rfl⟩
      have l0 : (0 : Int) ≤ (l.length : Int) := by omega
      clear bx bx2 bx3 d0 f0 z3
      go_wp2_with fail
      go_loopw [12, 55] (fun _ v wx => ∃ (i c : Nat), v = .int .i64 i ∧ i ≤ l.length ∧ IMap wx s'.tm.b c (delAll (l.take i) s'.tm.L) ∧ Kp (fun b => b = s'.tm.b) W5 wx) (fun _ v _ => l.length - (intOf v).toNat)
      case atStart => exact ⟨0, _, rfl, Nat.zero_le _, H5.out.tm, Kp.refl _ _⟩
      case round =>
        as_aux_lemma =>
          obtain ⟨i, c, rfl, hi, him, hk⟩ := hrel
          have bx6 := kp_kc' BX5.out hk NX.out
          have z6 := kp_kc' Z5.out hk NG.out
          have i0 : (0 : Int) ≤ (i : Int) := by omega
          by_cases hlt : i < l.length
          · have i1 : (i : Int) < (l.length : Int) := by omega
            obtain ⟨gb, hA, hc6⟩ : ∃ gb, A = some ⟨gb, 0, none⟩ ∧ wr.cell? ⟨gb, i, none⟩ = some (.int .i64 (l[i]'hlt)) := by
              rcases ROW.out.2 with ⟨_, hl⟩ | ⟨gb, cap', cur, e, hb, hgb, r1, r2, r3, r4⟩
              · omega
              · injection e with e1 e2 e3
                refine ⟨gb, e1, ?_⟩
                have hH := (holds_of_block_i hgb (by simpa using r4) i (by simpa using hlt)).1
                rw [Nat.zero_add] at hH
                have hne : ¬ (fun b => b = s'.tm.b) gb := fun e => by have := H3.out.tm.lt; have e : gb = s'.tm.b := e; omega
                have := kp_kc' hH hk hne
                rw [this]
                simp [encZ, hlt]
            subst hA
            generalize hli : l[i]'hlt = li at *
            obtain ⟨wy, hrun, him2, hk2⟩ := him.run_delete (P := Tryz.prog) (T := 106) (E := 118) (K := 3) Tryz.underlying106 Tryz.underlying3 li 3 0
            have NXT := Lib.hid (show IMap wy s'.tm.b c (delAll (l.take (i + 1)) s'.tm.L) ∧ Kp (fun b => b = s'.tm.b) W5 wy from ⟨by rw [List.take_add_one, List.getElem?_eq_getElem hlt, hli]; show IMap wy s'.tm.b c (delAll (l.take i ++ [li]) s'.tm.L); rw [delAll_snoc]; exact him2, hk.trans' hk2⟩)
            clear him him2 hk hk2 hli
            go_wp2_with fail
            exact ⟨⟨i + 1, c, by simp, by omega, NXT.out.1, NXT.out.2⟩, by simp [intOf]; omega⟩
          · obtain rfl : i = l.length := by omega
            have IM6 := Lib.hid (show IMap wr s'.tm.b c (delAll l s'.tm.L) by rw [List.take_length] at him; exact him)
            have K6 := Lib.hid hk
            have z7 : wr.cell? ⟨g, 717, none⟩ = some (.map (some s'.ov.b)) := kp_kc' ((H5.out.bk.cell 717).trans (WC_ov ..)) hk NG.out
            obtain ⟨wy, hrun, him2, hk2⟩ := (H5.out.ov.kept hk (fun e => H5.out.d1 e.symm)).run_clear (P := Tryz.prog) (T := 107) (E := 4) (K := 3) Tryz.underlying107 0
            have FIN := Lib.hid (go_ends HG2.out SPOT.out (Nat.le_trans (Nat.le_refl _) SZ0.out) HT.out CW.out K3.out H3.out K5.out PE.out PW.out ROW.out K6.out IM6.out hk2 him2)
            clear him hk hk2 him2
            go_wp2_with fail
            exact bodyPost_ret (results_tmp2 rfl _ _ _) rfl ⟨_, rfl, FIN.out⟩
    · have HF := Lib.hid hf
      have HK2 := Lib.hid hk
      clear hg hf hk
      by_cases hft : fromOf now' k j ≤ t
      · have f1 : ¬ (t : Int) < ((fromOf now' k j : Nat) : Int) := by omega
        have f2 : ((fromOf now' k j : Nat) : Int) ≤ (t : Int) := by omega
        go_wp2_with fail
        refine (first_some g now' k j s' wr HG.out.wm HG.out.inv HG.out.tab HF.out).mono ?_
        rintro ev w2 ⟨rfl, n1, rfl⟩
        have bx2 := (HG.out.drewN n1).box
        go_wp2_with fail
        refine (spill g now' k j s' _ (HG.out.drewN n1).wm HG.out.inv HF.out).mono ?_
        rintro ev w3 ⟨rfl, hp⟩
        obtain ⟨s6, hm6⟩ := (HG.out.drewN n1).spilled HW.out H0.out HW0.out HXX.out hft hp
        have HM6 := Lib.hid hm6
        have hlt := (HG.out.inv.first_at HF.out)
        clear hp hm6
        go_wp2_with fail
        refine ⟨⟨_, _, HM6.out⟩, ?_⟩
        rw [HG.out.wm.nowOf, HM6.out.wm.nowOf]
        obtain ⟨_, _, _, ha, _⟩ := hlt
        have := ha.from.2.2
        omega
      · have f1 : (t : Int) < ((fromOf now' k j : Nat) : Int) := by omega
        have f2 : ¬ ((fromOf now' k j : Nat) : Int) ≤ (t : Int) := by omega
        go_wp2_with fail
        refine (first_some g now' k j s' wr HG.out.wm HG.out.inv HG.out.tab HF.out).mono ?_
        rintro ev w2 ⟨rfl, n1, rfl⟩
        have CW0 := Lib.hid (show (∀ k j, First s'.full k j → t < fromOf now' k j) from fun k2 j2 hf2 => by
          obtain ⟨rfl, rfl⟩ := first_uniq HF.out hf2
          omega)
        have HG2 := Lib.hid (HG.out.drewN n1)
        have CW := Lib.hid CW0.out
        generalize wr.drewN n1 = W2 at *
        have d0 := (HG2.out.wm.bk.cell 0).trans (WC_now ..)
        have f0 := HG2.out.wm.bk.frozen 0
        have bx2 := HG2.out.box
        have AP := Lib.hid (HG2.out.apart HW.out H0.out HW0.out HXX.out)
        have kS : Kp (fun b => b = g) W2 (W2.setCell ⟨g, 0, none⟩ (.int .u64 ((t : Nat) : Int))) := (Kp.refl (fun b => b = g) W2).setCell (p := ⟨g, 0, none⟩) (.inl rfl) _
        have hbS := HG2.out.wm.bk.put 0 (.int .u64 ((t : Nat) : Int))
        rw [WC_set_now] at hbS
        have hw3 : WM (W2.setCell ⟨g, 0, none⟩ (.int .u64 ((t : Nat) : Int))) g t s' := HG2.out.wm.setBk (now' := t) (full' := s'.full) kS hbS
        have bx3 := kp_kc' HG2.out.box kS (fun e => AP.out.2 (.inl e))
        have z3 : (W2.setCell ⟨g, 0, none⟩ (.int .u64 ((t : Nat) : Int))).cell? ⟨g, 717, none⟩ = some (.map (some s'.ov.b)) := (hw3.bk.cell 717).trans (WC_ov ..)
        have K3 := Lib.hid kS
        have H3 := Lib.hid hw3
        have BX3 := Lib.hid bx3
        clear kS hbS hw3
        go_wp2_with fail
        generalize W2.setCell ⟨g, 0, none⟩ (.int .u64 ((t : Nat) : Int)) = W3 at *
        refine (keys_call _ _).mono ?_
        rintro ev w4 ⟨rfl, rfl⟩
        have k4 := (Kp.refl (fun _ => False) W3).alloc (.cells #[.map (some s'.ov.b)] 107)
        have hBm := (Bk.new W3 107 #[.map (some s'.ov.b)]).cell 0
        have h4 := H3.out.none_kept k4
        have bx4 := kp_kc0 BX3.out k4
        have invT := Lib.hid (HG2.out.inv.time HG2.out.le HT.out CW.out ((first_or s'.full HG2.out.inv.full_lt).imp (fun h => h) (fun ⟨k, j, _, hf⟩ => ⟨k, j, hf⟩))).1
        obtain ⟨sm1, sm2⟩ := over_small H3.out invT.out HG2.out.dues HG2.out.len HR.out HL.out
        have SM2 := Lib.hid sm2
        have SC := Lib.hid (sorted_keys g t w.heap.size W3.heap.size s' _ _ h4 invT bx4 hBm sm1 sm2)
        have K4 := Lib.hid k4
        have SZ4 := Lib.hid (show W3.heap.size ≤ (W3.alloc (.cells #[.map (some s'.ov.b)] 107)).heap.size from k4.size)
        clear k4 hBm h4 bx4 invT sm1 sm2
        go_wp2_with fail
        refine SC.out.mono ?_
        rintro ev W5 ⟨v, l, rfl, hperm, hpw, hrow, k5⟩
        have hlb : (l.length : Int) ≤ 1000000 := by
          have h1 := hperm.length_eq
          have h2 := SM2.out
          rw [List.length_map] at h1
          omega
        have K5 := Lib.hid (K4.out.trans' k5)
        have ROW := Lib.hid (Go.Proofs.ownsRow_base_a hrow SZ4.out)
        have PE := Lib.hid hperm
        have PW := Lib.hid hpw
        clear SC SZ4 hperm hpw hrow k5
        generalize (W3.alloc (.cells #[.map (some s'.ov.b)] 107)) = W4 at *
        have H5 := Lib.hid (H3.out.none_kept K5.out)
        have BX5 := Lib.hid (kp_kc0 BX3.out K5.out)
        have NX := Lib.hid (show ¬ (fun b => b = s'.tm.b) w.heap.size from fun e => AP.out.2 (.inr (.inl e)))
        have NG := Lib.hid (show ¬ (fun b => b = s'.tm.b) g from fun e => H3.out.tm.ne_bk H3.out.bk e.symm)
        have Z5 := Lib.hid ((H5.out.bk.cell 1).trans (WC_tm ..))
        obtain ⟨A, cap, rfl⟩ : ∃ A cap, v = .slice A l.length cap := by
          rcases ROW.out.2 with ⟨rfl, hl⟩ | ⟨gb, cap, cur, rfl, _⟩
          · exact ⟨none, 0, by rw [hl]⟩
          · exact ⟨_, _, rfl⟩
        have l0 : (0 : Int) ≤ (l.length : Int) := by omega
        clear bx bx2 bx3 d0 f0 z3
        go_wp2_with fail
        go_loopw [12, 55] (fun _ v wx => ∃ (i c : Nat), v = .int .i64 i ∧ i ≤ l.length ∧ IMap wx s'.tm.b c (delAll (l.take i) s'.tm.L) ∧ Kp (fun b => b = s'.tm.b) W5 wx) (fun _ v _ => l.length - (intOf v).toNat)
        case atStart => exact ⟨0, _, rfl, Nat.zero_le _, H5.out.tm, Kp.refl _ _⟩
        case round =>
          as_aux_lemma =>
            obtain ⟨i, c, rfl, hi, him, hk⟩ := hrel
            have bx6 := kp_kc' BX5.out hk NX.out
            have z6 := kp_kc' Z5.out hk NG.out
            have i0 : (0 : Int) ≤ (i : Int) := by omega
            by_cases hlt : i < l.length
            · have i1 : (i : Int) < (l.length : Int) := by omega
              obtain ⟨gb, hA, hc6⟩ : ∃ gb, A = some ⟨gb, 0, none⟩ ∧ wr.cell? ⟨gb, i, none⟩ = some (.int .i64 (l[i]'hlt)) := by
                rcases ROW.out.2 with ⟨_, hl⟩ | ⟨gb, cap', cur, e, hb, hgb, r1, r2, r3, r4⟩
                · omega
                · injection e with e1 e2 e3
                  refine ⟨gb, e1, ?_⟩
                  have hH := (holds_of_block_i hgb (by simpa using r4) i (by simpa using hlt)).1
                  rw [Nat.zero_add] at hH
                  have hne : ¬ (fun b => b = s'.tm.b) gb := fun e => by have := H3.out.tm.lt; have e : gb = s'.tm.b := e; omega
                  have := kp_kc' hH hk hne
                  rw [this]
                  simp [encZ, hlt]
              subst hA
              generalize hli : l[i]'hlt = li at *
              obtain ⟨wy, hrun, him2, hk2⟩ := him.run_delete (P := Tryz.prog) (T := 106) (E := 118) (K := 3) Tryz.underlying106 Tryz.underlying3 li 3 0
              have NXT := Lib.hid (show IMap wy s'.tm.b c (delAll (l.take (i + 1)) s'.tm.L) ∧ Kp (fun b => b = s'.tm.b) W5 wy from ⟨by rw [List.take_add_one, List.getElem?_eq_getElem hlt, hli]; show IMap wy s'.tm.b c (delAll (l.take i ++ [li]) s'.tm.L); rw [delAll_snoc]; exact him2, hk.trans' hk2⟩)
              clear him him2 hk hk2 hli
              go_wp2_with fail
              exact ⟨⟨i + 1, c, by simp, by omega, NXT.out.1, NXT.out.2⟩, by simp [intOf]; omega⟩
            · obtain rfl : i = l.length := by omega
              have IM6 := Lib.hid (show IMap wr s'.tm.b c (delAll l s'.tm.L) by rw [List.take_length] at him; exact him)
              have K6 := Lib.hid hk
              have z7 : wr.cell? ⟨g, 717, none⟩ = some (.map (some s'.ov.b)) := kp_kc' ((H5.out.bk.cell 717).trans (WC_ov ..)) hk NG.out
              obtain ⟨wy, hrun, him2, hk2⟩ := (H5.out.ov.kept hk (fun e => H5.out.d1 e.symm)).run_clear (P := Tryz.prog) (T := 107) (E := 4) (K := 3) Tryz.underlying107 0
              have FIN := Lib.hid (go_ends HG2.out SPOT.out (Nat.le_trans (Nat.le_refl _) SZ0.out) HT.out CW.out K3.out H3.out K5.out PE.out PW.out ROW.out K6.out IM6.out hk2 him2)
              clear him hk hk2 him2
              go_wp2_with fail
              exact bodyPost_ret (results_tmp2 rfl _ _ _) rfl ⟨_, rfl, FIN.out⟩
end Go.Proofs.YtgidjgkafbjkpaaGreatDoor
