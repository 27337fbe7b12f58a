/- Wheel: spill, the walk. -/
import Derived.Test.YtgidjgkafbjkpaaGreatDoorWhf
set_option linter.unusedVariables false
set_option linter.unusedSimpArgs false
namespace Go.Proofs.YtgidjgkafbjkpaaGreatDoor
open Go.RowKit

theorem own_none {g now k j : Nat} {s : WS} {m : MapR} {w : World} {fl : Nat → Nat} (h : WM w g now s) (hsl : s.sl k j = some m) {b : Nat} (hb : fp g { s.withSl k j none with full := fl } b) : fp g s b ∧ b ≠ m.b := by
  rcases hb with rfl | rfl | rfl | ⟨k', j', m', h1, h2⟩
  · exact ⟨.inl rfl, fun e => (h.sl k j m hsl).ne_bk h.bk e.symm⟩
  · exact ⟨.inr (.inl rfl), fun e => (h.d2 k j m hsl).1 e.symm⟩
  · exact ⟨.inr (.inr (.inl rfl)), fun e => (h.d2 k j m hsl).2 e.symm⟩
  · have h1 : (s.withSl k j none).sl k' j' = some m' := h1
    unfold WS.withSl at h1
    by_cases e : k' = k ∧ j' = j
    · simp only [e, and_self, if_true] at h1; cases h1
    · simp only [e, if_false] at h1
      refine ⟨.inr (.inr (.inr ⟨k', j', m', h1, h2⟩)), fun e2 => e (h.d3 k' j' k j m' m h1 hsl (h2.trans e2))⟩
theorem mid_start {g now k j : Nat} {s : WS} {m : MapR} {w w1 w3 : World} (h : WM w g now s) (inv : Inv now s.tm.L s.ov.L s.sls s.full (fun _ => False)) (hf : First s.full k j) (hsl : s.sl k j = some m) (h1 : WM w1 g now (s.withSl k j none)) (k1 : Kp (fun b => b = g) w w1)
    (k3 : Kp (fun b => b = g) w1 w3) (hb : Bk w3 g 113 (WC (fromOf now k j) s.tm.b s.ov.b (s.withSl k j none).slb (upd1 s.full k (offb (s.full k) j)))) :
    IMap w3 m.b m.c m.L ∧ Mid g (fromOf now k j) s m w3.heap.size w (w3.alloc (.mapIter (some m.b) m.c #[] m.c)) (w3.alloc (.mapIter (some m.b) m.c #[] m.c)) { s.withSl k j none with full := upd1 s.full k (offb (s.full k) j) } [] := by
  have h3 := h1.setBk (now' := fromOf now k j) (full' := upd1 s.full k (offb (s.full k) j)) k3 hb
  have him := ((h.sl k j m hsl).kept k1 (fun e => (h.sl k j m hsl).ne_bk h.bk e)).kept k3 (fun e => (h.sl k j m hsl).ne_bk h.bk e)
  have hka : Kp (fun _ => False) w3 (w3.alloc (.mapIter (some m.b) m.c #[] m.c)) := (Kp.refl _ w3).alloc _
  refine ⟨him, ?_⟩
  refine ⟨h3.none_kept hka, ?_, him.kept hka (fun f => f), (him.run_range (P := Tryz.prog) (T := 107) (E := 4) (K := 3) Tryz.underlying107).2, Dues.refl _, rfl, rfl, rfl, ?_, fun b hb => .inl (own_none h hsl hb), Nat.le_refl _, (h.sl k j m hsl).lt, ?_⟩
  · have hI := inv.spill hf (offb_lt (j := j) (inv.full_lt k)) (fun x hx => offb_bit hf.jlt hx)
    have hm : s.sls k j = m.L := by simp [WS.sls, hsl]
    rw [hm] at hI
    show Inv (fromOf now k j) s.tm.L s.ov.L (s.withSl k j none).sls (upd1 s.full k (offb (s.full k) j)) _
    rw [sls_with]
    exact hI.congr (fun i => by simp)
  · exact ((k1.mono (T := fp g s) (fun b e => .inl e)).trans' (k3.mono (fun b e => .inl e))).trans' (hka.mono (fun _ f => f.elim))
  · refine ⟨Nat.le_trans k1.size k3.size, ?_⟩
    show w3.heap.size < (w3.heap.push _).size
    simp
set_option maxRecDepth 1000000 in
set_option maxHeartbeats 8000000 in
theorem spill (g now k j : Nat) (s : WS) (w : World) (h : WM w g now s) (inv : Inv now s.tm.L s.ov.L s.sls s.full (fun _ => False)) (hf : First s.full k j) :
    Calls Tryz.prog 67 #[.pointer (some ⟨g, 0, none⟩), .int .i64 k, .int .i64 j, .int .u64 (fromOf now k j)] w fun ev w' => ev = .returned (.tuple #[]) ∧ SpillPost g (fromOf now k j) s w w' := by
  obtain ⟨i0, d0, hg0, ha0, ht0⟩ := inv.first_at hf
  have hk := ha0.lt11 inv.now_le ht0
  have hj := hf.jlt
  obtain ⟨m, hsl⟩ := inv.in_slot hg0
  have c1 : w.cell? ⟨g, 2 + k * 65 + j, none⟩ = some (.map (some m.b)) := (h.bk.cell _).trans ((WC_sl _ _ _ _ _ hk hj).trans (by rw [show s.slb k j = some m.b by simp [WS.slb, hsl]]))
  have f1 : w.frozen? ⟨g, 2 + k * 65 + j, none⟩ = false := h.bk.frozen _
  have k1 : (0 : Int) ≤ (k : Int) := by omega
  have k2 : (k : Int) < 11 := by omega
  have j1 : (0 : Int) ≤ (j : Int) := by omega
  have j2 : (j : Int) < 64 := by omega
  have kS : Kp (fun b => b = g) w (w.setCell ⟨g, 2 + k * 65 + j, none⟩ (.map none)) := (Kp.refl (fun b => b = g) w).setCell (p := ⟨g, 2 + k * 65 + j, none⟩) (.inl rfl) _
  have hb1 := h.bk.put (2 + k * 65 + j) (.map none)
  rw [WC_set_sl _ _ _ _ _ _ hk hj] at hb1
  have h1 := h.newSl (k := k) (j := j) none kS hb1 (fun _ e => by cases e)
  have hm1 := (h.sl k j m hsl).kept kS (fun e => (h.sl k j m hsl).ne_bk h.bk e)
  have cf : (w.setCell ⟨g, 2 + k * 65 + j, none⟩ (.map none)).cell? ⟨g, 2 + k * 65 + 64, none⟩ = some (.int .u64 (s.full k)) := (h1.bk.cell _).trans (WC_full _ _ _ _ _ hk)
  have H := Lib.hid h
  have H1 := Lib.hid h1
  have M1 := Lib.hid hm1
  have I := Lib.hid inv
  have HF := Lib.hid hf
  have HS := Lib.hid hsl
  have KS := Lib.hid kS
  have HAN := Lib.hid (andnot_pow_bits (inv.full_lt k) hj)
  have CF := Lib.hid cf
  clear h inv hf hg0 ha0 hsl kS hb1 h1 hm1 cf
  go_enter Tryz.func67, Tryz.ntmps67
  go_wp2_with fail
  generalize w.setCell ⟨g, 2 + k * 65 + j, none⟩ (.map none) = w1 at *
  have d3 := CF.out
  refine wp_region_held_drew (S := (fun w' => Kp (fun b => b = g) w1 w')) (by kernel_rfl) (⟨rfl, rfl, rfl, Nat.le_refl _, fun _ _ _ => rfl⟩) (fun hHeld => ?_)
  refine wpAnyH_take (i := 0) (v := ?v0_0) rfl (by kernel_rfl) (by kernel_rfl) (by kernel_rfl) (fun _ _ _ h => h) (Or.inl ⟨by rfl, ?y0_0⟩) (by assumption) ?r0_0
  case y0_0 => (intro w hSw; (try dsimp only at hSw); go_simp; first | done | with_reducible rfl)
  try simp only [Act.put, List.getElem_toArray, List.getElem_cons_succ, List.getElem_cons_zero, List.setIfInBounds_toArray, List.set_cons_zero, List.set_cons_succ]
  refine wpAnyH_take (i := 1) (v := ?v1_1) rfl (by kernel_rfl) (by kernel_rfl) (by kernel_rfl) (fun _ _ _ h => h) (Or.inl ⟨by rfl, ?y1_1⟩) (by assumption) ?r1_1
  case y1_1 => (intro w hSw; (try dsimp only at hSw); go_simp; first | done | with_reducible rfl)
  try simp only [Act.put, List.getElem_toArray, List.getElem_cons_succ, List.getElem_cons_zero, List.setIfInBounds_toArray, List.set_cons_zero, List.set_cons_succ]
  refine wpAnyH_take (i := 2) (v := ?v2_2) rfl (by kernel_rfl) (by kernel_rfl) (by kernel_rfl) (fun _ _ _ h => h) (Or.inl ⟨by rfl, ?y2_2⟩) (by assumption) ?r2_2
  case y2_2 => (intro w hSw; (try dsimp only at hSw); go_simp; first | done | with_reducible rfl)
  try simp only [Act.put, List.getElem_toArray, List.getElem_cons_succ, List.getElem_cons_zero, List.setIfInBounds_toArray, List.set_cons_zero, List.set_cons_succ]
  refine wpAnyH_take (i := 4) (v := ?v4_3) rfl (by kernel_rfl) (by kernel_rfl) (by kernel_rfl) (fun _ _ _ h => h) (Or.inl ⟨by rfl, ?y4_3⟩) (by assumption) ?r4_3
  case y4_3 => (intro w hSw; (try dsimp only at hSw); go_simp; first | done | with_reducible rfl)
  try simp only [Act.put, List.getElem_toArray, List.getElem_cons_succ, List.getElem_cons_zero, List.setIfInBounds_toArray, List.set_cons_zero, List.set_cons_succ]
  refine wpAnyH_take (i := 5) (v := ?v5_4) rfl (by kernel_rfl) (by kernel_rfl) (by kernel_rfl) (fun _ _ _ h => h) (Or.inl ⟨by rfl, ?y5_4⟩) (by assumption) ?r5_4
  case y5_4 => (intro w hSw; (try dsimp only at hSw); go_simp; first | done | with_reducible rfl)
  try simp only [Act.put, List.getElem_toArray, List.getElem_cons_succ, List.getElem_cons_zero, List.setIfInBounds_toArray, List.set_cons_zero, List.set_cons_succ]
  refine wpAnyH_ready (rs := [3]) (by kernel_rfl) (by simp) ?_
  refine AllReadyH.cons rfl (fun K hK => ?_) AllReadyH.nil
  go_simp
  
  refine hK.out _ _ (⟨rfl, rfl, rfl, Nat.le_refl _, fun _ _ _ => rfl⟩) (fun hHeld => ?_)
  clear hK K
  try simp only [Act.put, List.getElem_toArray, List.getElem_cons_succ, List.getElem_cons_zero, List.setIfInBounds_toArray, List.set_cons_zero, List.set_cons_succ]
  refine wpAnyH_take (i := 6) (v := ?v6_5) rfl (by kernel_rfl) (by kernel_rfl) (by kernel_rfl) (fun _ _ _ h => h) (Or.inl ⟨by rfl, ?y6_5⟩) (by assumption) ?r6_5
  case y6_5 => (intro w hSw; (try dsimp only at hSw); go_simp; first | done | with_reducible rfl)
  try simp only [Act.put, List.getElem_toArray, List.getElem_cons_succ, List.getElem_cons_zero, List.setIfInBounds_toArray, List.set_cons_zero, List.set_cons_succ]
  refine wpAnyH_take (i := 7) (v := ?v7_6) rfl (by kernel_rfl) (by kernel_rfl) (by kernel_rfl) (fun _ _ _ h => h) (Or.inl ⟨by rfl, ?y7_6⟩) (by assumption) ?r7_6
  case y7_6 => (intro w hSw; (try dsimp only at hSw); go_simp; first | done | with_reducible rfl)
  try simp only [Act.put, List.getElem_toArray, List.getElem_cons_succ, List.getElem_cons_zero, List.setIfInBounds_toArray, List.set_cons_zero, List.set_cons_succ]
  refine wpAnyH_take (i := 8) (v := ?v8_7) rfl (by kernel_rfl) (by kernel_rfl) (by kernel_rfl) (fun _ _ _ h => h) (Or.inl ⟨by rfl, ?y8_7⟩) (by assumption) ?r8_7
  case y8_7 => (intro w hSw; (try dsimp only at hSw); go_simp; first | done | with_reducible rfl)
  try simp only [Act.put, List.getElem_toArray, List.getElem_cons_succ, List.getElem_cons_zero, List.setIfInBounds_toArray, List.set_cons_zero, List.set_cons_succ]
  refine wpAnyH_ready (rs := [9]) (by kernel_rfl) (by simp) ?_
  refine AllReadyH.cons rfl (fun K hK => ?_) AllReadyH.nil
  have f3 : w1.frozen? ⟨g, 2 + k * 65 + 64, none⟩ = false := H1.out.bk.frozen _
  go_simp
  rw [HAN.out]
  have kS : Kp (fun b => b = g) w1 (w1.setCell ⟨g, 2 + k * 65 + 64, none⟩ (.int .u64 ((offb (s.full k) j : Nat) : Int))).drew := ((Kp.refl (fun b => b = g) w1).setCell (p := ⟨g, 2 + k * 65 + 64, none⟩) (.inl rfl) _).drew
  have hb := H1.out.bk.put (2 + k * 65 + 64) (.int .u64 ((offb (s.full k) j : Nat) : Int))
  rw [WC_set_full _ _ _ _ _ _ hk] at hb
  have hb : Bk (w1.setCell ⟨g, 2 + k * 65 + 64, none⟩ (.int .u64 ((offb (s.full k) j : Nat) : Int))).drew g 113 (WC now s.tm.b s.ov.b (s.withSl k j none).slb (upd1 s.full k (offb (s.full k) j))) := hb
  generalize (w1.setCell ⟨g, 2 + k * 65 + 64, none⟩ (.int .u64 ((offb (s.full k) j : Nat) : Int))).drew = w2 at *
  have B2 := Lib.hid hb
  have K2 := Lib.hid kS
  clear kS hb
  refine hK.out _ _ (K2.out) (fun hHeld => ?_)
  clear hK K
  try simp only [Act.put, List.getElem_toArray, List.getElem_cons_succ, List.getElem_cons_zero, List.setIfInBounds_toArray, List.set_cons_zero, List.set_cons_succ]
  refine wpAnyH_done (by kernel_rfl) ?_ _
  have d4 := (B2.out.cell 0).trans (WC_now ..)
  have f4 : w2.frozen? ⟨g, 0, none⟩ = false := B2.out.frozen _
  have kS := K2.out.setCell (p := ⟨g, 0, none⟩) (.inl rfl) (.int .u64 ((fromOf now k j : Nat) : Int))
  have hb := B2.out.put 0 (.int .u64 ((fromOf now k j : Nat) : Int))
  rw [WC_set_now] at hb
  obtain ⟨him, hmid⟩ := mid_start H.out I.out HF.out HS.out H1.out KS.out kS hb
  have hrg := (him.run_range (P := Tryz.prog) (T := 107) (E := 4) (K := 3) Tryz.underlying107).1
  have hMID := Lib.hid hmid
  clear kS hb him hmid hHeld
  have HW := Lib.hid (fun b (hb : fp g s b) => H.out.lt hb)
  go_wp2_with fail
  have hsz : (w2.setCell ⟨g, 0, none⟩ (.int .u64 ((fromOf now k j : Nat) : Int))).heap.size = w2.heap.size := by simp
  rw [hsz] at hMID
  generalize w2.heap.size = r at *
  generalize (w2.setCell ⟨g, 0, none⟩ (.int .u64 ((fromOf now k j : Nat) : Int))).alloc (.mapIter (some m.b) m.c #[] m.c) = w4 at *
  go_loopw [10] (fun v wr => ∃ s' D, Mid g (fromOf now k j) s m r w w4 wr s' D) (fun v wr => yet wr r m.L)
  case atStart => exact ⟨_, _, hMID.out⟩
  case round =>
    obtain ⟨s', D, hm⟩ := hrel
    have HM := Lib.hid hm
    rcases hm.im.next (P := Tryz.prog) hm.it 0 with ⟨hall, hrun⟩ | ⟨e, he, hnD, w5, hrun, hk5, _, hit5, hent⟩
    · have HA := Lib.hid hall
      clear hm hall
      go_wp2_with fail
      exact bodyPost_end (results_none rfl _ _ _) rfl ⟨rfl, HM.out.ends HA.out⟩
    · have hX : has e.k m.L := by
        unfold has
        rcases hg : mget e.k m.L with _ | v
        · exact absurd rfl (mget_none.1 hg e he)
        · rfl
      have hsome := (hm.inv.nowhere e.k ⟨hX, hnD⟩).1
      obtain ⟨v, hv⟩ := Option.isSome_iff_exists.1 hsome
      obtain ⟨d, p, rfl, hd, _⟩ := hm.inv.spot e.k v hv
      obtain ⟨wm5, im5, kp5⟩ := hm.stepped HW.out hk5 hit5
      have hlk0 := (wm5.tm.run_lookup (P := Tryz.prog) (T := 106) (E := 118) (K := 3) Tryz.underlying106 Tryz.underlying3 (z := .agg #[.int .u64 0, .int .i64 0, .int .i64 0]) (by kernel_rfl) e.k).1
      rw [hv] at hlk0
      obtain ⟨a, b, hab⟩ : ∃ a b : Int, spotV d p = .agg #[.int .u64 d, .int .i64 a, .int .i64 b] := by
        rcases p with _ | ⟨k', j'⟩
        · exact ⟨_, _, rfl⟩
        · exact ⟨_, _, rfl⟩
      have hlk : (Instr.lookup 106 (.map (some s'.tm.b)) (.int .i64 e.k) false).run Tryz.prog w5 = .ok (.agg #[.int .u64 d, .int .i64 a, .int .i64 b]) w5 := by rw [← hab]; exact hlk0
      clear hlk0
      have hfd : ∀ w : World, (Instr.field 118 (.agg #[.int .u64 d, .int .i64 a, .int .i64 b]) 0).run Tryz.prog w = .ok (.int .u64 d) w := fun _ => by kernel_rfl
      have z5 : w5.cell? ⟨g, 1, none⟩ = some (.map (some s'.tm.b)) := (wm5.bk.cell 1).trans (WC_tm ..)
      have WM5 := Lib.hid wm5
      have HV := Lib.hid hv
      have HD := Lib.hid hd
      have K5 := Lib.hid hk5
      have IT5 := Lib.hid hit5
      have HX := Lib.hid (show has e.k m.L ∧ e.k ∉ D from ⟨hX, hnD⟩)
      have HE := Lib.hid he
      have YT := Lib.hid (show yet wr r m.L = _ from hm.it.yet)
      clear hm he hsome hv hd wm5 im5 kp5 hk5 hit5 hX hnD hab
      go_wp2_with fail
      refine (hang g _ s' _ e.k d w5 WM5.out HM.out.inv (.inl HX.out) HD.out).mono ?_
      rintro ev w6 ⟨rfl, hp⟩
      obtain ⟨s6, hm6⟩ := HM.out.hung HW.out K5.out IT5.out HV.out hp
      have YL := Lib.hid (filter_less HE.out HX.out.2)
      go_wp2_with fail
      refine ⟨⟨s6, e.k :: D, hm6⟩, ?_⟩
      rw [YT.out, hm6.it.yet]
      exact YL.out
end Go.Proofs.YtgidjgkafbjkpaaGreatDoor
