/- Wheel: hanging a timer up. -/
import Derived.Test.YtgidjgkafbjkpaaGreatDoorWwh
import Derived.Deep.DeepCutAuto
import Derived.Deep.DrawnRows
import Derived.Deep.RegionHeld
import Derived.WalkSpells
import Derived.Carry
import Derived.Laws.Tables
set_option linter.unusedVariables false
set_option linter.unusedSimpArgs false
namespace Go.Proofs.YtgidjgkafbjkpaaGreatDoor
open Go.RowKit

theorem kp_kc0 {w w' : World} {p : Addr} {v : Value} (h : w.cell? p = some v) (k : Kp (fun _ => False) w w') : w'.cell? p = some v := (k.cell (World.block_lt_of_cell? w _ h) (fun f => f)).trans h
theorem kp_kc' {S : Nat → Prop} {w w' : World} {p : Addr} {v : Value} (h : w.cell? p = some v) (k : Kp S w w') (hn : ¬ S p.block) : w'.cell? p = some v := (k.cell (World.block_lt_of_cell? w _ h) hn).trans h
/-- What hanging up leaves. -/
def HangPost (g now : Nat) (s : WS) (X : Int → Prop) (i : Int) (d : Nat) (w w' : World) : Prop :=
  ∃ s' p c, WM w' g now s' ∧ Inv now s'.tm.L s'.ov.L s'.sls s'.full (fun x => X x ∧ x ≠ i) ∧ s'.tm.L = mput i (spotV d p) c s.tm.L ∧ s'.tm.b = s.tm.b ∧ s'.ov.b = s.ov.b ∧ Kp (fp g s) w w' ∧ ∀ b, fp g s' b → fp g s b ∨ w.heap.size ≤ b
theorem or_pow_bits {f j : Nat} (hf : f < 2 ^ 64) (hj : j < 64) : bits .or .u64 (f : Int) (IntKind.u64.wrap (2 ^ j)) = ((f ||| 2 ^ j : Nat) : Int) := by
  have h1 : (2 : Nat) ^ j < 2 ^ 64 := Nat.pow_lt_pow_right (by omega) hj
  have h2 : IntKind.u64.wrap (2 ^ j) = ((2 ^ j : Nat) : Int) := by
    rw [show ((2 : Int) ^ j) = ((2 ^ j : Nat) : Int) by simp]
    generalize (2 : Nat) ^ j = p at *
    show (p : Int) % 18446744073709551616 = _
    omega
  rw [h2, u64_or_nat f (2 ^ j) (by omega) (by omega)]
theorem fp_tm (g : Nat) (s : WS) (c : Nat) (L : List Ent) (b : Nat) : fp g (s.withTm c L) b ↔ fp g s b := Iff.rfl
theorem fp_ov (g : Nat) (s : WS) (c : Nat) (L : List Ent) (b : Nat) : fp g (s.withOv c L) b ↔ fp g s b := Iff.rfl
theorem fp_sl {g : Nat} {s : WS} {k j : Nat} {m : Option MapR} {b : Nat} (h : fp g (s.withSl k j m) b) : fp g s b ∨ ∃ m', m = some m' ∧ m'.b = b := by
  rcases h with h | h | h | ⟨k', j', m', h1, h2⟩
  · exact .inl (.inl h)
  · exact .inl (.inr (.inl h))
  · exact .inl (.inr (.inr (.inl h)))
  · unfold WS.withSl at h1
    by_cases e : k' = k ∧ j' = j
    · simp only [e, and_self, if_true] at h1
      exact .inr ⟨m', h1, h2⟩
    · simp only [e, if_false] at h1
      exact .inl (.inr (.inr (.inr ⟨k', j', m', h1, h2⟩)))
theorem fp_full (g : Nat) (s : WS) (fl : Nat → Nat) (b : Nat) : fp g { s with full := fl } b ↔ fp g s b := Iff.rfl
theorem slb_same {s : WS} {k j c : Nat} {m : MapR} {L : List Ent} (hs : s.sl k j = some m) : (s.withSl k j (some ⟨m.b, c, L⟩)).slb = s.slb := by
  funext k' j'
  unfold WS.slb WS.withSl
  by_cases e : k' = k ∧ j' = j
  · obtain ⟨rfl, rfl⟩ := e; simp [hs]
  · simp [e]
theorem slb_new {s : WS} {k j : Nat} (x : Option MapR) : (s.withSl k j x).slb = updv s.slb k j (x.map MapR.b) := by
  funext k' j'
  unfold WS.slb WS.withSl updv
  by_cases e : k' = k ∧ j' = j <;> simp [e, WS.slb]
theorem sls_with {s : WS} {k j : Nat} (x : Option MapR) : (s.withSl k j x).sls = upd2 s.sls k j ((x.map MapR.L).getD []) := by
  funext k' j'
  unfold WS.sls WS.withSl upd2
  by_cases e : k' = k ∧ j' = j <;> simp [e, WS.sls]
/-- Hanging into a slot, at the point where the slot's map is there. -/
structure HMid (g now : Nat) (s : WS) (i : Int) (d k j : Nat) (w0 v : World) (s1 : WS) (m1 : MapR) : Prop where
  wm : WM v g now s1
  sl : s1.sl k j = some m1
  L : m1.L = s.sls k j
  rest : ∀ k' j', ¬ (k' = k ∧ j' = j) → s1.sl k' j' = s.sl k' j'
  tL : ∃ c, s1.tm.L = mput i (spotV d (.slot k j)) c s.tm.L
  tb : s1.tm.b = s.tm.b
  ov : s1.ov = s.ov
  full : s1.full = s.full
  kp : Kp (Go.Proofs.YtgidjgkafbjkpaaGreatDoor.fp g s) w0 v
  own : ∀ b, Go.Proofs.YtgidjgkafbjkpaaGreatDoor.fp g s1 b → Go.Proofs.YtgidjgkafbjkpaaGreatDoor.fp g s b ∨ w0.heap.size ≤ b
theorem hmid_ends {g now : Nat} {s s1 : WS} {m1 : MapR} {i : Int} {d k j c2 : Nat} {w0 v v2 v3 : World} {X : Int → Prop} (h : HMid g now s i d k j w0 v s1 m1) (inv : Inv now s.tm.L s.ov.L s.sls s.full X) (hi : X i ∨ mget i s.tm.L = none) (hd : d ≤ TOP) (ha : At now d k j)
    (k2 : Kp (fun b => b = m1.b) v v2) (im : IMap v2 m1.b c2 (mput i (.bool true) m1.c m1.L)) (k3 : Kp (fun b => b = g) v2 v3) (hb : Bk v3 g 113 (WC now s1.tm.b s1.ov.b s1.slb (upd1 s1.full k (s.full k ||| 2 ^ j)))) :
    HangPost g now s X i d w0 v3 := by
  obtain ⟨c, hc⟩ := h.tL
  have h2 := h.wm.setSl h.sl k2 im
  have h3 := h2.setBk (now' := now) (full' := upd1 s1.full k (s.full k ||| 2 ^ j)) k3 (by rw [slb_same h.sl]; exact hb)
  refine ⟨_, .slot k j, c, h3, ?_, hc, h.tb, congrArg MapR.b h.ov, ?_, ?_⟩
  · have hI := inv.hang_slot (c := c) (c' := m1.c) hi hd ha
    have e1 : (s1.withSl k j (some ⟨m1.b, c2, mput i (.bool true) m1.c m1.L⟩)).sls = upd2 s.sls k j (mput i (.bool true) m1.c (s.sls k j)) := by
      rw [sls_with, ← h.L]
      funext k' j'
      unfold upd2
      by_cases e : k' = k ∧ j' = j
      · simp [e]
      · simp only [e, if_false]
        unfold WS.sls
        rw [h.rest k' j' e]
    show Inv now s1.tm.L s1.ov.L (s1.withSl k j (some ⟨m1.b, c2, mput i (.bool true) m1.c m1.L⟩)).sls (upd1 s1.full k (s.full k ||| 2 ^ j)) _
    rw [e1, hc, h.ov, h.full]
    exact hI
  · have hm1 : Go.Proofs.YtgidjgkafbjkpaaGreatDoor.fp g s1 m1.b := .inr (.inr (.inr ⟨k, j, m1, h.sl, rfl⟩))
    have hsz := h.kp.size
    refine h.kp.trans ((k2.mono (T := fun b => b = m1.b ∨ b = g) (fun b e => .inl e)).trans' (k3.mono (fun b e => .inr e))) ?_
    rintro b hb' (rfl | rfl)
    · rcases h.own _ hm1 with h' | h'
      · exact h'
      · exact absurd hb' (Nat.not_lt.2 h')
    · exact .inl rfl
  · intro b hb'
    rcases fp_sl (show Go.Proofs.YtgidjgkafbjkpaaGreatDoor.fp g (s1.withSl k j _) b from hb') with h' | ⟨m', e, h'⟩
    · exact h.own b h'
    · obtain rfl := Option.some.inj e
      exact h.own b (.inr (.inr (.inr ⟨k, j, m1, h.sl, h'⟩)))

set_option maxRecDepth 1000000 in
set_option maxHeartbeats 8000000 in
theorem hang_over (g now : Nat) (s : WS) (X : Int → Prop) (i : Int) (d: Nat) (w : World) (h : WM w g now s) (inv : Inv now s.tm.L s.ov.L s.sls s.full X) (hi : X i ∨ mget i s.tm.L = none) (hd : d ≤ TOP) (hle : d ≤ now) :
    Calls Tryz.prog 50 #[.pointer (some ⟨g, 0, none⟩), .int .i64 i, .int .u64 d] w fun ev w' => ev = .returned (.tuple #[]) ∧ HangPost g now s X i d w w' := by
  have H := Lib.hid h
  have I := Lib.hid inv
  have HI := Lib.hid hi
  have HD := Lib.hid hd
  clear h inv hi hd
  go_enter Tryz.func50, Tryz.ntmps50
  go_wp2_with fail
  refine (show Calls Tryz.prog 65 #[.pointer (some ⟨g, 0, none⟩), .int .u64 d] w (fun ev w' => ev = .returned (.agg #[.int .u64 d, .int .i64 (-1), .int .i64 0]) ∧ Kp (fun _ => False) w w') from where_over g now d _ ((H.out.bk.cell 0).trans (WC_now ..)) hle).mono ?_
  rintro ev w1 ⟨rfl, k1⟩
  have kA := k1.alloc (.cells #[.int .u64 d, .int .i64 (-1), .int .i64 0] 118)
  have h2 := H.out.none_kept kA
  have hq := Bk.new w1 118 #[.int .u64 d, .int .i64 (-1), .int .i64 0]
  have HSZ := Lib.hid k1.size
  clear k1
  go_upto_region 1 with fail
  generalize w1.alloc (.cells #[.int .u64 d, .int .i64 (-1), .int .i64 0] 118) = w2 at *
  have H2 := Lib.hid h2
  have K2 := Lib.hid kA
  have C1 := Lib.hid ((h2.bk.cell 1).trans (WC_tm ..))
  have CQ0 := Lib.hid (show _ = some (Value.int .u64 d) from hq.cell 0)
  have CQ1 := Lib.hid (show _ = some (Value.int .i64 (-1)) from hq.cell 1)
  have CQ2 := Lib.hid (show _ = some (Value.int .i64 0) from hq.cell 2)
  have NG := Lib.hid (show ¬ (fun b => b = s.tm.b) g from fun e => h2.tm.ne_bk h2.bk e.symm)
  have NQ := Lib.hid (show ¬ (fun b => b = s.tm.b) w1.heap.size from fun e => h2.tm.ne_bk hq e.symm)
  have BQ := Lib.hid hq
  clear kA h2 hq
  refine wp_region_held_drew (S := (fun w' => Kp (fun b => b = s.tm.b) w2 w')) (by kernel_rfl) ((Kp.refl _ w2).drew) (fun hHeld => ?_)
  refine wpAnyH_take (i := 0) (v := ?v0_0) rfl (by kernel_rfl) (by kernel_rfl) (by kernel_rfl) (fun _ _ _ h => h) (Or.inl ⟨by rfl, ?y0_0⟩) (by assumption) ?r0_0
  case y0_0 => (intro w hSw; (try dsimp only at hSw); go_simp; first | done | with_reducible rfl)
  try simp only [Act.put, List.getElem_toArray, List.getElem_cons_succ, List.getElem_cons_zero, List.setIfInBounds_toArray, List.set_cons_zero, List.set_cons_succ]
  refine wpAnyH_take (i := 1) (v := ?v1_1) rfl (by kernel_rfl) (by kernel_rfl) (by kernel_rfl) (fun _ _ _ h => h) (Or.inl ⟨by rfl, ?y1_1⟩) (by assumption) ?r1_1
  case y1_1 => (intro w hSw; (try dsimp only at hSw); go_simp; first | done | with_reducible rfl)
  try simp only [Act.put, List.getElem_toArray, List.getElem_cons_succ, List.getElem_cons_zero, List.setIfInBounds_toArray, List.set_cons_zero, List.set_cons_succ]
  refine wpAnyH_take (i := 2) (v := ?v2_2) rfl (by kernel_rfl) (by kernel_rfl) (by kernel_rfl) (fun _ _ _ h => h) (Or.inl ⟨by rfl, ?y2_2⟩) (by assumption) ?r2_2
  case y2_2 => (intro w hSw; (try dsimp only at hSw); go_simp; first | done | with_reducible rfl)
  try simp only [Act.put, List.getElem_toArray, List.getElem_cons_succ, List.getElem_cons_zero, List.setIfInBounds_toArray, List.set_cons_zero, List.set_cons_succ]
  refine wpAnyH_take (i := 3) (v := ?v3_3) rfl (by kernel_rfl) (by kernel_rfl) (by kernel_rfl) (fun _ _ _ h => h) (Or.inl ⟨by rfl, ?y3_3⟩) (by assumption) ?r3_3
  case y3_3 => (intro w hSw; (try dsimp only at hSw); have d1 := kp_kc' C1.out hSw NG.out; go_simp; first | done | with_reducible rfl)
  try simp only [Act.put, List.getElem_toArray, List.getElem_cons_succ, List.getElem_cons_zero, List.setIfInBounds_toArray, List.set_cons_zero, List.set_cons_succ]
  refine wpAnyH_take (i := 4) (v := ?v4_4) rfl (by kernel_rfl) (by kernel_rfl) (by kernel_rfl) (fun _ _ _ h => h) (Or.inl ⟨by rfl, ?y4_4⟩) (by assumption) ?r4_4
  case y4_4 => (intro w hSw; (try dsimp only at hSw); go_simp; first | done | with_reducible rfl)
  try simp only [Act.put, List.getElem_toArray, List.getElem_cons_succ, List.getElem_cons_zero, List.setIfInBounds_toArray, List.set_cons_zero, List.set_cons_succ]
  refine wpAnyH_take (i := 5) (v := ?v5_5) rfl (by kernel_rfl) (by kernel_rfl) (by kernel_rfl) (fun _ _ _ h => h) (Or.inl ⟨by rfl, ?y5_5⟩) (by assumption) ?r5_5
  case y5_5 => (intro w hSw; (try dsimp only at hSw); have q0 := kp_kc' CQ0.out hSw NQ.out; have q1 := kp_kc' CQ1.out hSw NQ.out; have q2 := kp_kc' CQ2.out hSw NQ.out; go_simp; first | done | with_reducible rfl)
  try simp only [Act.put, List.getElem_toArray, List.getElem_cons_succ, List.getElem_cons_zero, List.setIfInBounds_toArray, List.set_cons_zero, List.set_cons_succ]
  refine wpAnyH_ready (rs := [6]) (by kernel_rfl) (by simp) ?_
  refine AllReadyH.cons rfl (fun K hK => ?_) AllReadyH.nil
  obtain ⟨w3, c3, hrun, him, hk3⟩ := (H2.out.tm.kept (Kp.refl (fun _ => False) w2).drew (fun f => f)).run_update (P := Tryz.prog) (T := 106) (E := 118) (K := 3) Tryz.underlying106 Tryz.underlying3 i (.agg #[.int .u64 d, .int .i64 (-1), .int .i64 0])
  go_simp
  have hk3 : Kp (fun b => b = s.tm.b) w2 w3 := hk3.undrewN (n := 1)
  refine hK.out _ _ (hk3) (fun hHeld => ?_)
  clear hK K
  try simp only [Act.put, List.getElem_toArray, List.getElem_cons_succ, List.getElem_cons_zero, List.setIfInBounds_toArray, List.set_cons_zero, List.set_cons_succ]
  refine wpAnyH_done (by kernel_rfl) ?_ _
  have H3 := Lib.hid (H2.out.setTm hk3 him)
  have K3 := Lib.hid hk3
  have B3 := Lib.hid (BQ.out.kept hk3 NQ.out)
  clear hrun him
  have q1 : w3.cell? ⟨w1.heap.size, 1, none⟩ = some (.int .i64 (-1)) := B3.out.cell 1
  have d7 : w3.cell? ⟨g, 717, none⟩ = some (.map (some s.ov.b)) := (H3.out.bk.cell 717).trans (WC_ov ..)
  obtain ⟨w4, c4, hrun, him, hk4⟩ := H3.out.ov.run_update (P := Tryz.prog) (T := 107) (E := 4) (K := 3) Tryz.underlying107 Tryz.underlying3 i (.bool true)
  have hrun' : (Instr.mapUpdate 107 (.map (some s.ov.b)) (.int .i64 i) (.bool true)).run Tryz.prog w3 = .ok () w4 := hrun
  have H4 := Lib.hid (H3.out.setOv hk4 him)
  have K4 := Lib.hid hk4
  clear hrun him hk4
  go_wp2_with fail
  refine bodyPost_ret (results_none rfl _ _ _) rfl ?_
  refine ⟨rfl, _, .over, s.tm.c, H4.out, I.out.hang_over HI.out hle, rfl, rfl, rfl, ?_, fun b hb => .inl hb⟩
  refine (K2.out.mono (fun _ f => f.elim)).trans ((K3.out.mono (T := fp g s) ?_).trans' (K4.out.mono ?_)) (fun _ _ h => h)
  · rintro b rfl; exact .inr (.inl rfl)
  · rintro b rfl; exact .inr (.inr (.inl rfl))
set_option maxRecDepth 1000000 in
set_option maxHeartbeats 8000000 in
theorem hang_slot (g now : Nat) (s : WS) (X : Int → Prop) (i : Int) (d k j : Nat) (w : World) (h : WM w g now s) (inv : Inv now s.tm.L s.ov.L s.sls s.full X) (hi : X i ∨ mget i s.tm.L = none) (hd : d ≤ TOP) (ha : At now d k j) :
    Calls Tryz.prog 50 #[.pointer (some ⟨g, 0, none⟩), .int .i64 i, .int .u64 d] w fun ev w' => ev = .returned (.tuple #[]) ∧ HangPost g now s X i d w w' := by
  have H := Lib.hid h
  have I := Lib.hid inv
  have HI := Lib.hid hi
  have HD := Lib.hid hd
  have hk := ha.lt11 inv.now_le hd
  have hj := ha.slot
  have HA := Lib.hid ha
  have k1 : (0 : Int) ≤ (k : Int) := by omega
  have k2 : (k : Int) < 11 := by omega
  have k3 : ((k : Int) == -1) = false := by simp
  have j1 : (0 : Int) ≤ (j : Int) := by omega
  have j2 : (j : Int) < 64 := by omega
  clear ha
  clear h inv hi hd
  go_enter Tryz.func50, Tryz.ntmps50
  go_wp2_with fail
  refine (show Calls Tryz.prog 65 #[.pointer (some ⟨g, 0, none⟩), .int .u64 d] w (fun ev w' => ev = .returned (.agg #[.int .u64 d, .int .i64 k, .int .i64 j]) ∧ Kp (fun _ => False) w w') from where_slot g now d k j _ ((H.out.bk.cell 0).trans (WC_now ..)) HA.out I.out.now_le HD.out).mono ?_
  rintro ev w1 ⟨rfl, k1⟩
  have kA := k1.alloc (.cells #[.int .u64 d, .int .i64 k, .int .i64 j] 118)
  have h2 := H.out.none_kept kA
  have hq := Bk.new w1 118 #[.int .u64 d, .int .i64 k, .int .i64 j]
  have HSZ := Lib.hid k1.size
  clear k1
  go_upto_region 1 with fail
  generalize w1.alloc (.cells #[.int .u64 d, .int .i64 k, .int .i64 j] 118) = w2 at *
  have H2 := Lib.hid h2
  have K2 := Lib.hid kA
  have C1 := Lib.hid ((h2.bk.cell 1).trans (WC_tm ..))
  have CQ0 := Lib.hid (show _ = some (Value.int .u64 d) from hq.cell 0)
  have CQ1 := Lib.hid (show _ = some (Value.int .i64 k) from hq.cell 1)
  have CQ2 := Lib.hid (show _ = some (Value.int .i64 j) from hq.cell 2)
  have NG := Lib.hid (show ¬ (fun b => b = s.tm.b) g from fun e => h2.tm.ne_bk h2.bk e.symm)
  have NQ := Lib.hid (show ¬ (fun b => b = s.tm.b) w1.heap.size from fun e => h2.tm.ne_bk hq e.symm)
  have BQ := Lib.hid hq
  clear kA h2 hq
  refine wp_region_held_drew (S := (fun w' => Kp (fun b => b = s.tm.b) w2 w')) (by kernel_rfl) ((Kp.refl _ w2).drew) (fun hHeld => ?_)
  refine wpAnyH_take (i := 0) (v := ?v0_6) rfl (by kernel_rfl) (by kernel_rfl) (by kernel_rfl) (fun _ _ _ h => h) (Or.inl ⟨by rfl, ?y0_6⟩) (by assumption) ?r0_6
  case y0_6 => (intro w hSw; (try dsimp only at hSw); go_simp; first | done | with_reducible rfl)
  try simp only [Act.put, List.getElem_toArray, List.getElem_cons_succ, List.getElem_cons_zero, List.setIfInBounds_toArray, List.set_cons_zero, List.set_cons_succ]
  refine wpAnyH_take (i := 1) (v := ?v1_7) rfl (by kernel_rfl) (by kernel_rfl) (by kernel_rfl) (fun _ _ _ h => h) (Or.inl ⟨by rfl, ?y1_7⟩) (by assumption) ?r1_7
  case y1_7 => (intro w hSw; (try dsimp only at hSw); go_simp; first | done | with_reducible rfl)
  try simp only [Act.put, List.getElem_toArray, List.getElem_cons_succ, List.getElem_cons_zero, List.setIfInBounds_toArray, List.set_cons_zero, List.set_cons_succ]
  refine wpAnyH_take (i := 2) (v := ?v2_8) rfl (by kernel_rfl) (by kernel_rfl) (by kernel_rfl) (fun _ _ _ h => h) (Or.inl ⟨by rfl, ?y2_8⟩) (by assumption) ?r2_8
  case y2_8 => (intro w hSw; (try dsimp only at hSw); go_simp; first | done | with_reducible rfl)
  try simp only [Act.put, List.getElem_toArray, List.getElem_cons_succ, List.getElem_cons_zero, List.setIfInBounds_toArray, List.set_cons_zero, List.set_cons_succ]
  refine wpAnyH_take (i := 3) (v := ?v3_9) rfl (by kernel_rfl) (by kernel_rfl) (by kernel_rfl) (fun _ _ _ h => h) (Or.inl ⟨by rfl, ?y3_9⟩) (by assumption) ?r3_9
  case y3_9 => (intro w hSw; (try dsimp only at hSw); have d1 := kp_kc' C1.out hSw NG.out; go_simp; first | done | with_reducible rfl)
  try simp only [Act.put, List.getElem_toArray, List.getElem_cons_succ, List.getElem_cons_zero, List.setIfInBounds_toArray, List.set_cons_zero, List.set_cons_succ]
  refine wpAnyH_take (i := 4) (v := ?v4_10) rfl (by kernel_rfl) (by kernel_rfl) (by kernel_rfl) (fun _ _ _ h => h) (Or.inl ⟨by rfl, ?y4_10⟩) (by assumption) ?r4_10
  case y4_10 => (intro w hSw; (try dsimp only at hSw); go_simp; first | done | with_reducible rfl)
  try simp only [Act.put, List.getElem_toArray, List.getElem_cons_succ, List.getElem_cons_zero, List.setIfInBounds_toArray, List.set_cons_zero, List.set_cons_succ]
  refine wpAnyH_take (i := 5) (v := ?v5_11) rfl (by kernel_rfl) (by kernel_rfl) (by kernel_rfl) (fun _ _ _ h => h) (Or.inl ⟨by rfl, ?y5_11⟩) (by assumption) ?r5_11
  case y5_11 => (intro w hSw; (try dsimp only at hSw); have q0 := kp_kc' CQ0.out hSw NQ.out; have q1 := kp_kc' CQ1.out hSw NQ.out; have q2 := kp_kc' CQ2.out hSw NQ.out; go_simp; first | done | with_reducible rfl)
  try simp only [Act.put, List.getElem_toArray, List.getElem_cons_succ, List.getElem_cons_zero, List.setIfInBounds_toArray, List.set_cons_zero, List.set_cons_succ]
  refine wpAnyH_ready (rs := [6]) (by kernel_rfl) (by simp) ?_
  refine AllReadyH.cons rfl (fun K hK => ?_) AllReadyH.nil
  obtain ⟨w3, c3, hrun, him, hk3⟩ := (H2.out.tm.kept (Kp.refl (fun _ => False) w2).drew (fun f => f)).run_update (P := Tryz.prog) (T := 106) (E := 118) (K := 3) Tryz.underlying106 Tryz.underlying3 i (.agg #[.int .u64 d, .int .i64 k, .int .i64 j])
  go_simp
  have hk3 : Kp (fun b => b = s.tm.b) w2 w3 := hk3.undrewN (n := 1)
  refine hK.out _ _ (hk3) (fun hHeld => ?_)
  clear hK K
  try simp only [Act.put, List.getElem_toArray, List.getElem_cons_succ, List.getElem_cons_zero, List.setIfInBounds_toArray, List.set_cons_zero, List.set_cons_succ]
  refine wpAnyH_done (by kernel_rfl) ?_ _
  have H3 := Lib.hid (H2.out.setTm hk3 him)
  have K3 := Lib.hid hk3
  have B3 := Lib.hid (BQ.out.kept hk3 NQ.out)
  clear hrun him
  have q1 : w3.cell? ⟨w1.heap.size, 1, none⟩ = some (.int .i64 k) := B3.out.cell 1
  have q2 : w3.cell? ⟨w1.heap.size, 2, none⟩ = some (.int .i64 j) := B3.out.cell 2
  go_wp2_with fail
  go_quiet (fail)
  rename Nat => n1
  have qT : ∀ (w : World) (r : Option Nat), (binOp .eql 107 (.map r) (.map none)).run Tryz.prog w = .ok (.bool r.isNone) w := fun w r => run_eql_map_nil w _ _ _ r Tryz.underlying107
  have cS : w3.cell? ⟨g, 2 + k * 65 + j, none⟩ = some (.map (s.slb k j)) := (H3.out.bk.cell _).trans (WC_sl _ _ _ _ _ hk hj)
  have CF := Lib.hid (show w3.cell? ⟨g, 2 + k * 65 + 64, none⟩ = some (.int .u64 (s.full k)) from (H3.out.bk.cell _).trans (WC_full _ _ _ _ _ hk))
  have NG3 := Lib.hid (show ¬ (fun b => b = g) w1.heap.size from fun e => H3.out.bk.ne_of B3.out (by decide) e.symm)
  rcases hsl : s.sl k j with _ | m
  · have hnb : s.slb k j = none := by simp [WS.slb, hsl]
    rw [hnb] at cS
    go_wp2_with fail
    go_quiet (fail)
    rename Nat => n2
    go_wp2_with fail
    have hmm := @run_makeMap Tryz.prog
    have Q2 := Lib.hid q2
    have CS := Lib.hid cS
    clear q1 q2 cS
    refine wp_region_held_drew (S := (fun w' => Kp (fun b => b = g) w3 w')) (by kernel_rfl) (⟨rfl, rfl, rfl, Nat.le_refl _, fun _ _ _ => rfl⟩) (fun hHeld => ?_)
    refine wpAnyH_take (i := 0) (v := ?v0_12) rfl (by kernel_rfl) (by kernel_rfl) (by kernel_rfl) (fun _ _ _ h => h) (Or.inl ⟨by rfl, ?y0_12⟩) (by assumption) ?r0_12
    case y0_12 => (intro w hSw; (try dsimp only at hSw); go_simp; first | done | with_reducible rfl)
    try simp only [Act.put, List.getElem_toArray, List.getElem_cons_succ, List.getElem_cons_zero, List.setIfInBounds_toArray, List.set_cons_zero, List.set_cons_succ]
    refine wpAnyH_take (i := 1) (v := ?v1_13) rfl (by kernel_rfl) (by kernel_rfl) (by kernel_rfl) (fun _ _ _ h => h) (Or.inl ⟨by rfl, ?y1_13⟩) (by assumption) ?r1_13
    case y1_13 => (intro w hSw; (try dsimp only at hSw); go_simp; first | done | with_reducible rfl)
    try simp only [Act.put, List.getElem_toArray, List.getElem_cons_succ, List.getElem_cons_zero, List.setIfInBounds_toArray, List.set_cons_zero, List.set_cons_succ]
    refine wpAnyH_take (i := 2) (v := ?v2_14) rfl (by kernel_rfl) (by kernel_rfl) (by kernel_rfl) (fun _ _ _ h => h) (Or.inl ⟨by rfl, ?y2_14⟩) (by assumption) ?r2_14
    case y2_14 => (intro w hSw; (try dsimp only at hSw); have d1 := kp_kc' Q2.out hSw NG3.out; go_simp; first | done | with_reducible rfl)
    try simp only [Act.put, List.getElem_toArray, List.getElem_cons_succ, List.getElem_cons_zero, List.setIfInBounds_toArray, List.set_cons_zero, List.set_cons_succ]
    refine wpAnyH_take (i := 4) (v := ?v4_15) rfl (by kernel_rfl) (by kernel_rfl) (by kernel_rfl) (fun _ _ _ h => h) (Or.inl ⟨by rfl, ?y4_15⟩) (by assumption) ?r4_15
    case y4_15 => (intro w hSw; (try dsimp only at hSw); go_simp; first | done | with_reducible rfl)
    try simp only [Act.put, List.getElem_toArray, List.getElem_cons_succ, List.getElem_cons_zero, List.setIfInBounds_toArray, List.set_cons_zero, List.set_cons_succ]
    refine wpAnyH_take (i := 5) (v := ?v5_16) rfl (by kernel_rfl) (by kernel_rfl) (by kernel_rfl) (fun _ _ _ h => h) (Or.inl ⟨by rfl, ?y5_16⟩) (by assumption) ?r5_16
    case y5_16 => (intro w hSw; (try dsimp only at hSw); go_simp; first | done | with_reducible rfl)
    try simp only [Act.put, List.getElem_toArray, List.getElem_cons_succ, List.getElem_cons_zero, List.setIfInBounds_toArray, List.set_cons_zero, List.set_cons_succ]
    refine wpAnyH_ready (rs := [3]) (by kernel_rfl) (by simp) ?_
    refine AllReadyH.cons rfl (fun K hK => ?_) AllReadyH.nil
    go_simp
    have kA5 : Kp (fun _ => False) w3 ((w3.drewN (n1 + n2 + 1)).alloc (.map #[] 0)) := Kp.alloc (show Kp (fun _ => False) w3 (w3.drewN (n1 + n2 + 1)) from ⟨rfl, rfl, rfl, Nat.le_refl _, fun _ _ _ => rfl⟩) (.map #[] 0)
    have M5 := Lib.hid (show IMap ((w3.drewN (n1 + n2 + 1)).alloc (.map #[] 0)) w3.heap.size 0 [] from IMap.made (w3.drewN (n1 + n2 + 1)))
    have hSZ5 := Lib.hid (show w3.heap.size < ((w3.drewN (n1 + n2 + 1)).alloc (.map #[] 0)).heap.size from M5.out.lt)
    generalize (w3.drewN (n1 + n2 + 1)).alloc (.map #[] 0) = w5 at *
    have H5 := Lib.hid (H3.out.none_kept kA5)
    have K5 := Lib.hid kA5
    have KA5 := Lib.hid (kA5.mono (T := fun b => b = g) (fun _ f => f.elim))
    have d5 := kp_kc' CS.out kA5 (fun f => f)
    have f5 : w5.frozen? ⟨g, 2 + k * 65 + j, none⟩ = false := H5.out.bk.frozen _
    refine hK.out _ _ (kA5.mono (fun _ f => f.elim)) (fun hHeld => ?_)
    clear hK K
    try simp only [Act.put, List.getElem_toArray, List.getElem_cons_succ, List.getElem_cons_zero, List.setIfInBounds_toArray, List.set_cons_zero, List.set_cons_succ]
    refine wpAnyH_take (i := 6) (v := ?v6_17) rfl (by kernel_rfl) (by kernel_rfl) (by kernel_rfl) (fun _ _ _ h => h) (Or.inl ⟨by rfl, ?y6_17⟩) (by assumption) ?r6_17
    case y6_17 => (intro w hSw; (try dsimp only at hSw); go_simp; first | done | with_reducible rfl)
    try simp only [Act.put, List.getElem_toArray, List.getElem_cons_succ, List.getElem_cons_zero, List.setIfInBounds_toArray, List.set_cons_zero, List.set_cons_succ]
    refine wpAnyH_ready (rs := [7]) (by kernel_rfl) (by simp) ?_
    refine AllReadyH.cons rfl (fun K hK => ?_) AllReadyH.nil
    go_simp
    have kS : Kp (fun b => b = g) w5 (w5.setCell ⟨g, 2 + k * 65 + j, none⟩ (.map (some w3.heap.size))) := (Kp.refl (fun b => b = g) w5).setCell (p := ⟨g, 2 + k * 65 + j, none⟩) (.inl rfl) _
    have HX : HMid g now s i d k j w (w5.setCell ⟨g, 2 + k * 65 + j, none⟩ (.map (some w3.heap.size))) ((s.withTm c3 (mput i (spotV d (.slot k j)) s.tm.c s.tm.L)).withSl k j (some ⟨w3.heap.size, 0, []⟩)) ⟨w3.heap.size, 0, []⟩ := by
      have h6 : WM (w5.setCell ⟨g, 2 + k * 65 + j, none⟩ (.map (some w3.heap.size))) g now ((s.withTm c3 (mput i (spotV d (.slot k j)) s.tm.c s.tm.L)).withSl k j (some ⟨w3.heap.size, 0, []⟩)) := by
        have hb := H5.out.bk.put (2 + k * 65 + j) (.map (some w3.heap.size))
        rw [WC_set_sl _ _ _ _ _ _ hk hj] at hb
        have hlt := H3.out
        refine ⟨by rw [slb_new]; exact hb, H5.out.tm.kept kS (fun e => H5.out.tm.ne_bk H5.out.bk e), H5.out.ov.kept kS (fun e => H5.out.ov.ne_bk H5.out.bk e), ?_, H5.out.d1, ?_, ?_⟩
        · intro k' j' m' hm'
          unfold WS.withSl at hm'
          by_cases e : k' = k ∧ j' = j
          · simp only [e, and_self, if_true, Option.some.injEq] at hm'
            subst hm'
            exact M5.out.kept kS (fun e => M5.out.ne_bk H5.out.bk e)
          · simp only [e, if_false] at hm'
            exact (H5.out.sl k' j' m' hm').kept kS (fun e => (H5.out.sl k' j' m' hm').ne_bk H5.out.bk e)
        · intro k' j' m' hm'
          unfold WS.withSl at hm'
          by_cases e : k' = k ∧ j' = j
          · simp only [e, and_self, if_true, Option.some.injEq] at hm'
            subst hm'
            have h1 := H3.out.tm.lt
            have h2 := H3.out.ov.lt
            exact ⟨fun e => absurd h1 (Nat.not_lt.2 (Nat.le_of_eq e)), fun e => absurd h2 (Nat.not_lt.2 (Nat.le_of_eq e))⟩
          · simp only [e, if_false] at hm'
            exact H5.out.d2 k' j' m' hm'
        · intro k1 j1 k2 j2 m1 m2 h1 h2 he
          unfold WS.withSl at h1 h2
          by_cases e1 : k1 = k ∧ j1 = j <;> by_cases e2 : k2 = k ∧ j2 = j
          · exact ⟨e1.1.trans e2.1.symm, e1.2.trans e2.2.symm⟩
          · simp only [e1, and_self, if_true, Option.some.injEq] at h1
            simp only [e2, if_false] at h2
            have := (H3.out.sl k2 j2 m2 h2).lt
            rw [← he, ← h1] at this
            exact absurd this (Nat.lt_irrefl _)
          · simp only [e2, and_self, if_true, Option.some.injEq] at h2
            simp only [e1, if_false] at h1
            have := (H3.out.sl k1 j1 m1 h1).lt
            rw [he, ← h2] at this
            exact absurd this (Nat.lt_irrefl _)
          · simp only [e1, if_false] at h1
            simp only [e2, if_false] at h2
            exact H5.out.d3 k1 j1 k2 j2 m1 m2 h1 h2 he
      refine ⟨h6, by simp [WS.withSl], by simp [WS.sls, hsl], fun k' j' e => by unfold WS.withSl; simp only [e, if_false]; rfl, ⟨_, rfl⟩, rfl, rfl, rfl, ?_, ?_⟩
      · exact ((K2.out.mono (T := fp g s) (fun _ f => f.elim)).trans' (K3.out.mono (fun b e => .inr (.inl e)))).trans' ((K5.out.mono (T := fp g s) (fun _ f => f.elim)).trans' (kS.mono (fun b e => .inl e)))
      · intro b hb
        rcases fp_sl hb with h' | ⟨m', e, h'⟩
        · exact .inl h'
        · obtain rfl := Option.some.inj e
          refine .inr (Nat.le_trans K2.out.size (Nat.le_trans K3.out.size (Nat.le_of_eq h')))
    have HX := Lib.hid HX
    have BQ := Lib.hid <| (B3.out.kept K5.out (fun f => f)).kept kS NG3.out
    generalize w5.setCell ⟨g, 2 + k * 65 + j, none⟩ (.map (some w3.heap.size)) = v at *
    generalize (s.withTm c3 (mput i (spotV d (.slot k j)) s.tm.c s.tm.L)).withSl k j (some ⟨w3.heap.size, 0, []⟩) = s1 at *
    have KS := Lib.hid kS
    refine hK.out _ _ (KA5.out.trans KS.out (fun _ _ h => h)) (fun hHeld => ?_)
    clear hK K
    try simp only [Act.put, List.getElem_toArray, List.getElem_cons_succ, List.getElem_cons_zero, List.setIfInBounds_toArray, List.set_cons_zero, List.set_cons_succ]
    refine wpAnyH_done (by kernel_rfl) ?_ _
    go_wp2_with fail
    clear hmm hSZ5 d5 f5
    clear M5 H5 CS CF KA5 K5 B3
    generalize (⟨w3.heap.size, 0, []⟩ : MapR) = m1 at *
    have CS := Lib.hid ((HX.out.wm.bk.cell _).trans ((WC_sl _ _ _ _ _ hk hj).trans (show _ = some (Value.map (some m1.b)) by rw [show s1.slb k j = some m1.b by simp [WS.slb, HX.out.sl]])))
    have CF := Lib.hid (show _ = some (Value.int .u64 ((s.full k : Nat) : Int)) from (HX.out.wm.bk.cell _).trans ((WC_full _ _ _ _ _ hk).trans (by rw [HX.out.full])))
    have NM := Lib.hid (show ¬ (fun b => b = m1.b) g from fun e => (HX.out.wm.sl _ _ _ HX.out.sl).ne_bk HX.out.wm.bk e.symm)
    have NQM := Lib.hid (show ¬ (fun b => b = m1.b) w1.heap.size from fun e => (HX.out.wm.sl _ _ _ HX.out.sl).ne_bk BQ.out e.symm)
    have Q2 := Lib.hid (show v.cell? ⟨w1.heap.size, 2, none⟩ = some (.int .i64 j) from BQ.out.cell 2)
    refine wp_region_held_drew (S := (fun w' => Kp (fun b => b = m1.b) v w')) (by kernel_rfl) (⟨rfl, rfl, rfl, Nat.le_refl _, fun _ _ _ => rfl⟩) (fun hHeld => ?_)
    refine wpAnyH_take (i := 0) (v := ?v0_18) rfl (by kernel_rfl) (by kernel_rfl) (by kernel_rfl) (fun _ _ _ h => h) (Or.inl ⟨by rfl, ?y0_18⟩) (by assumption) ?r0_18
    case y0_18 => (intro w hSw; (try dsimp only at hSw); go_simp; first | done | with_reducible rfl)
    try simp only [Act.put, List.getElem_toArray, List.getElem_cons_succ, List.getElem_cons_zero, List.setIfInBounds_toArray, List.set_cons_zero, List.set_cons_succ]
    refine wpAnyH_take (i := 1) (v := ?v1_19) rfl (by kernel_rfl) (by kernel_rfl) (by kernel_rfl) (fun _ _ _ h => h) (Or.inl ⟨by rfl, ?y1_19⟩) (by assumption) ?r1_19
    case y1_19 => (intro w hSw; (try dsimp only at hSw); go_simp; first | done | with_reducible rfl)
    try simp only [Act.put, List.getElem_toArray, List.getElem_cons_succ, List.getElem_cons_zero, List.setIfInBounds_toArray, List.set_cons_zero, List.set_cons_succ]
    refine wpAnyH_take (i := 2) (v := ?v2_20) rfl (by kernel_rfl) (by kernel_rfl) (by kernel_rfl) (fun _ _ _ h => h) (Or.inl ⟨by rfl, ?y2_20⟩) (by assumption) ?r2_20
    case y2_20 => (intro w hSw; (try dsimp only at hSw); have d1 := kp_kc' Q2.out hSw NQM.out; go_simp; first | done | with_reducible rfl)
    try simp only [Act.put, List.getElem_toArray, List.getElem_cons_succ, List.getElem_cons_zero, List.setIfInBounds_toArray, List.set_cons_zero, List.set_cons_succ]
    refine wpAnyH_take (i := 3) (v := ?v3_21) rfl (by kernel_rfl) (by kernel_rfl) (by kernel_rfl) (fun _ _ _ h => h) (Or.inl ⟨by rfl, ?y3_21⟩) (by assumption) ?r3_21
    case y3_21 => (intro w hSw; (try dsimp only at hSw); go_simp; first | done | with_reducible rfl)
    try simp only [Act.put, List.getElem_toArray, List.getElem_cons_succ, List.getElem_cons_zero, List.setIfInBounds_toArray, List.set_cons_zero, List.set_cons_succ]
    refine wpAnyH_take (i := 4) (v := ?v4_22) rfl (by kernel_rfl) (by kernel_rfl) (by kernel_rfl) (fun _ _ _ h => h) (Or.inl ⟨by rfl, ?y4_22⟩) (by assumption) ?r4_22
    case y4_22 => (intro w hSw; (try dsimp only at hSw); go_simp; first | done | with_reducible rfl)
    try simp only [Act.put, List.getElem_toArray, List.getElem_cons_succ, List.getElem_cons_zero, List.setIfInBounds_toArray, List.set_cons_zero, List.set_cons_succ]
    refine wpAnyH_take (i := 5) (v := ?v5_23) rfl (by kernel_rfl) (by kernel_rfl) (by kernel_rfl) (fun _ _ _ h => h) (Or.inl ⟨by rfl, ?y5_23⟩) (by assumption) ?r5_23
    case y5_23 => (intro w hSw; (try dsimp only at hSw); go_simp; first | done | with_reducible rfl)
    try simp only [Act.put, List.getElem_toArray, List.getElem_cons_succ, List.getElem_cons_zero, List.setIfInBounds_toArray, List.set_cons_zero, List.set_cons_succ]
    refine wpAnyH_take (i := 6) (v := ?v6_24) rfl (by kernel_rfl) (by kernel_rfl) (by kernel_rfl) (fun _ _ _ h => h) (Or.inl ⟨by rfl, ?y6_24⟩) (by assumption) ?r6_24
    case y6_24 => (intro w hSw; (try dsimp only at hSw); have d1 := kp_kc' CS.out hSw NM.out; go_simp; first | done | with_reducible rfl)
    try simp only [Act.put, List.getElem_toArray, List.getElem_cons_succ, List.getElem_cons_zero, List.setIfInBounds_toArray, List.set_cons_zero, List.set_cons_succ]
    refine wpAnyH_take (i := 7) (v := ?v7_25) rfl (by kernel_rfl) (by kernel_rfl) (by kernel_rfl) (fun _ _ _ h => h) (Or.inl ⟨by rfl, ?y7_25⟩) (by assumption) ?r7_25
    case y7_25 => (intro w hSw; (try dsimp only at hSw); go_simp; first | done | with_reducible rfl)
    try simp only [Act.put, List.getElem_toArray, List.getElem_cons_succ, List.getElem_cons_zero, List.setIfInBounds_toArray, List.set_cons_zero, List.set_cons_succ]
    refine wpAnyH_ready (rs := [8]) (by kernel_rfl) (by simp) ?_
    refine AllReadyH.cons rfl (fun K hK => ?_) AllReadyH.nil
    obtain ⟨v2, c2, hrun, him, hk2⟩ := (show IMap (v.drew) m1.b m1.c m1.L from (HX.out.wm.sl _ _ _ HX.out.sl).drewN (1)).run_update (P := Tryz.prog) (T := 107) (E := 4) (K := 3) Tryz.underlying107 Tryz.underlying3 i (.bool true)
    go_simp
    have hk2 : Kp (fun b => b = m1.b) v v2 := hk2.undrewN (n := 1)
    refine hK.out _ _ (hk2) (fun hHeld => ?_)
    clear hK K
    try simp only [Act.put, List.getElem_toArray, List.getElem_cons_succ, List.getElem_cons_zero, List.setIfInBounds_toArray, List.set_cons_zero, List.set_cons_succ]
    refine wpAnyH_done (by kernel_rfl) ?_ _
    have IM := Lib.hid him
    have KM := Lib.hid hk2
    have Q22 := Lib.hid (kp_kc' Q2.out hk2 NQM.out)
    have CF2 := Lib.hid (kp_kc' CF.out hk2 NM.out)
    have BG2 := Lib.hid (HX.out.wm.bk.kept hk2 NM.out)
    clear hrun him hk2
    go_wp2_with fail
    have d3 := CF2.out
    have HOR := Lib.hid (show bits .or .u64 ((s.full k : Nat) : Int) (IntKind.u64.wrap (2 ^ j)) = ((s.full k ||| 2 ^ j : Nat) : Int) from or_pow_bits (I.out.full_lt k) hj)
    refine wp_region_held_drew (S := (fun w' => Kp (fun b => b = g) v2 w')) (by kernel_rfl) (⟨rfl, rfl, rfl, Nat.le_refl _, fun _ _ _ => rfl⟩) (fun hHeld => ?_)
    refine wpAnyH_take (i := 0) (v := ?v0_26) rfl (by kernel_rfl) (by kernel_rfl) (by kernel_rfl) (fun _ _ _ h => h) (Or.inl ⟨by rfl, ?y0_26⟩) (by assumption) ?r0_26
    case y0_26 => (intro w hSw; (try dsimp only at hSw); go_simp; first | done | with_reducible rfl)
    try simp only [Act.put, List.getElem_toArray, List.getElem_cons_succ, List.getElem_cons_zero, List.setIfInBounds_toArray, List.set_cons_zero, List.set_cons_succ]
    refine wpAnyH_take (i := 1) (v := ?v1_27) rfl (by kernel_rfl) (by kernel_rfl) (by kernel_rfl) (fun _ _ _ h => h) (Or.inl ⟨by rfl, ?y1_27⟩) (by assumption) ?r1_27
    case y1_27 => (intro w hSw; (try dsimp only at hSw); go_simp; first | done | with_reducible rfl)
    try simp only [Act.put, List.getElem_toArray, List.getElem_cons_succ, List.getElem_cons_zero, List.setIfInBounds_toArray, List.set_cons_zero, List.set_cons_succ]
    refine wpAnyH_take (i := 2) (v := ?v2_28) rfl (by kernel_rfl) (by kernel_rfl) (by kernel_rfl) (fun _ _ _ h => h) (Or.inl ⟨by rfl, ?y2_28⟩) (by assumption) ?r2_28
    case y2_28 => (intro w hSw; (try dsimp only at hSw); go_simp; first | done | with_reducible rfl)
    try simp only [Act.put, List.getElem_toArray, List.getElem_cons_succ, List.getElem_cons_zero, List.setIfInBounds_toArray, List.set_cons_zero, List.set_cons_succ]
    refine wpAnyH_take (i := 4) (v := ?v4_29) rfl (by kernel_rfl) (by kernel_rfl) (by kernel_rfl) (fun _ _ _ h => h) (Or.inl ⟨by rfl, ?y4_29⟩) (by assumption) ?r4_29
    case y4_29 => (intro w hSw; (try dsimp only at hSw); go_simp; first | done | with_reducible rfl)
    try simp only [Act.put, List.getElem_toArray, List.getElem_cons_succ, List.getElem_cons_zero, List.setIfInBounds_toArray, List.set_cons_zero, List.set_cons_succ]
    refine wpAnyH_take (i := 5) (v := ?v5_30) rfl (by kernel_rfl) (by kernel_rfl) (by kernel_rfl) (fun _ _ _ h => h) (Or.inl ⟨by rfl, ?y5_30⟩) (by assumption) ?r5_30
    case y5_30 => (intro w hSw; (try dsimp only at hSw); have d1 := kp_kc' Q22.out hSw NG3.out; go_simp; first | done | with_reducible rfl)
    try simp only [Act.put, List.getElem_toArray, List.getElem_cons_succ, List.getElem_cons_zero, List.setIfInBounds_toArray, List.set_cons_zero, List.set_cons_succ]
    refine wpAnyH_take (i := 6) (v := ?v6_31) rfl (by kernel_rfl) (by kernel_rfl) (by kernel_rfl) (fun _ _ _ h => h) (Or.inl ⟨by rfl, ?y6_31⟩) (by assumption) ?r6_31
    case y6_31 => (intro w hSw; (try dsimp only at hSw); go_simp; first | done | with_reducible rfl)
    try simp only [Act.put, List.getElem_toArray, List.getElem_cons_succ, List.getElem_cons_zero, List.setIfInBounds_toArray, List.set_cons_zero, List.set_cons_succ]
    refine wpAnyH_ready (rs := [3]) (by kernel_rfl) (by simp) ?_
    refine AllReadyH.cons rfl (fun K hK => ?_) AllReadyH.nil
    go_simp
    
    refine hK.out _ _ (⟨rfl, rfl, rfl, Nat.le_refl _, fun _ _ _ => rfl⟩) (fun hHeld => ?_)
    clear hK K
    try simp only [Act.put, List.getElem_toArray, List.getElem_cons_succ, List.getElem_cons_zero, List.setIfInBounds_toArray, List.set_cons_zero, List.set_cons_succ]
    refine wpAnyH_take (i := 7) (v := ?v7_32) rfl (by kernel_rfl) (by kernel_rfl) (by kernel_rfl) (fun _ _ _ h => h) (Or.inl ⟨by rfl, ?y7_32⟩) (by assumption) ?r7_32
    case y7_32 => (intro w hSw; (try dsimp only at hSw); go_simp; first | done | with_reducible rfl)
    try simp only [Act.put, List.getElem_toArray, List.getElem_cons_succ, List.getElem_cons_zero, List.setIfInBounds_toArray, List.set_cons_zero, List.set_cons_succ]
    refine wpAnyH_take (i := 8) (v := ?v8_33) rfl (by kernel_rfl) (by kernel_rfl) (by kernel_rfl) (fun _ _ _ h => h) (Or.inl ⟨by rfl, ?y8_33⟩) (by assumption) ?r8_33
    case y8_33 => (intro w hSw; (try dsimp only at hSw); go_simp; first | done | with_reducible rfl)
    try simp only [Act.put, List.getElem_toArray, List.getElem_cons_succ, List.getElem_cons_zero, List.setIfInBounds_toArray, List.set_cons_zero, List.set_cons_succ]
    refine wpAnyH_take (i := 9) (v := ?v9_34) rfl (by kernel_rfl) (by kernel_rfl) (by kernel_rfl) (fun _ _ _ h => h) (Or.inl ⟨by rfl, ?y9_34⟩) (by assumption) ?r9_34
    case y9_34 => (intro w hSw; (try dsimp only at hSw); go_simp; first | done | with_reducible rfl)
    try simp only [Act.put, List.getElem_toArray, List.getElem_cons_succ, List.getElem_cons_zero, List.setIfInBounds_toArray, List.set_cons_zero, List.set_cons_succ]
    refine wpAnyH_ready (rs := [10]) (by kernel_rfl) (by simp) ?_
    refine AllReadyH.cons rfl (fun K hK => ?_) AllReadyH.nil
    have f3 : v2.frozen? ⟨g, 2 + k * 65 + 64, none⟩ = false := BG2.out.frozen _
    go_simp
    rw [HOR.out]
    have kS : Kp (fun b => b = g) v2 (v2.setCell ⟨g, 2 + k * 65 + 64, none⟩ (.int .u64 ((s.full k ||| 2 ^ j : Nat) : Int))).drew := (Kp.refl (fun b => b = g) v2).setCell (p := ⟨g, 2 + k * 65 + 64, none⟩) (.inl rfl) _ |>.drew
    have PST := Lib.hid (hmid_ends HX.out I.out HI.out HD.out HA.out KM.out IM.out kS (by have hb := BG2.out.put (2 + k * 65 + 64) (.int .u64 ((s.full k ||| 2 ^ j : Nat) : Int)); rw [WC_set_full _ _ _ _ _ _ hk] at hb; exact hb))
    have KS8 := Lib.hid kS
    clear kS
    generalize (v2.setCell ⟨g, 2 + k * 65 + 64, none⟩ (.int .u64 ((s.full k ||| 2 ^ j : Nat) : Int))).drew = v3 at *
    refine hK.out _ _ (KS8.out) (fun hHeld => ?_)
    clear hK K
    try simp only [Act.put, List.getElem_toArray, List.getElem_cons_succ, List.getElem_cons_zero, List.setIfInBounds_toArray, List.set_cons_zero, List.set_cons_succ]
    refine wpAnyH_done (by kernel_rfl) ?_ _
    go_wp2_with fail
    refine bodyPost_end (results_none rfl _ _ _) rfl ?_
    exact ⟨rfl, PST.out⟩
  · have hnb : s.slb k j = some m.b := by simp [WS.slb, hsl]
    rw [hnb] at cS
    go_wp2_with fail
    go_quiet (fail)
    rename Nat => n2
    go_wp2_with fail
    have HX := Lib.hid (show HMid g now s i d k j w w3 (s.withTm c3 (mput i (spotV d (.slot k j)) s.tm.c s.tm.L)) m from
      ⟨H3.out, hsl, by simp [WS.sls, hsl], fun _ _ _ => rfl, ⟨_, rfl⟩, rfl, rfl, rfl, (K2.out.mono (fun _ f => f.elim)).trans' (K3.out.mono (fun b e => .inr (.inl e))), fun b hb => .inl hb⟩)
    have BQ := B3
    clear q1 q2 cS hnb
    generalize s.withTm c3 (mput i (spotV d (.slot k j)) s.tm.c s.tm.L) = s1 at *
    generalize m = m1 at *
    have CS := Lib.hid ((HX.out.wm.bk.cell _).trans ((WC_sl _ _ _ _ _ hk hj).trans (show _ = some (Value.map (some m1.b)) by rw [show s1.slb k j = some m1.b by simp [WS.slb, HX.out.sl]])))
    have CF := Lib.hid (show _ = some (Value.int .u64 ((s.full k : Nat) : Int)) from (HX.out.wm.bk.cell _).trans ((WC_full _ _ _ _ _ hk).trans (by rw [HX.out.full])))
    have NM := Lib.hid (show ¬ (fun b => b = m1.b) g from fun e => (HX.out.wm.sl _ _ _ HX.out.sl).ne_bk HX.out.wm.bk e.symm)
    have NQM := Lib.hid (show ¬ (fun b => b = m1.b) w1.heap.size from fun e => (HX.out.wm.sl _ _ _ HX.out.sl).ne_bk BQ.out e.symm)
    have Q2 := Lib.hid (show w3.cell? ⟨w1.heap.size, 2, none⟩ = some (.int .i64 j) from BQ.out.cell 2)
    refine wp_region_held_drew (S := (fun w' => Kp (fun b => b = m1.b) w3 w')) (by kernel_rfl) (⟨rfl, rfl, rfl, Nat.le_refl _, fun _ _ _ => rfl⟩) (fun hHeld => ?_)
    refine wpAnyH_take (i := 0) (v := ?v0_35) rfl (by kernel_rfl) (by kernel_rfl) (by kernel_rfl) (fun _ _ _ h => h) (Or.inl ⟨by rfl, ?y0_35⟩) (by assumption) ?r0_35
    case y0_35 => (intro w hSw; (try dsimp only at hSw); go_simp; first | done | with_reducible rfl)
    try simp only [Act.put, List.getElem_toArray, List.getElem_cons_succ, List.getElem_cons_zero, List.setIfInBounds_toArray, List.set_cons_zero, List.set_cons_succ]
    refine wpAnyH_take (i := 1) (v := ?v1_36) rfl (by kernel_rfl) (by kernel_rfl) (by kernel_rfl) (fun _ _ _ h => h) (Or.inl ⟨by rfl, ?y1_36⟩) (by assumption) ?r1_36
    case y1_36 => (intro w hSw; (try dsimp only at hSw); go_simp; first | done | with_reducible rfl)
    try simp only [Act.put, List.getElem_toArray, List.getElem_cons_succ, List.getElem_cons_zero, List.setIfInBounds_toArray, List.set_cons_zero, List.set_cons_succ]
    refine wpAnyH_take (i := 2) (v := ?v2_37) rfl (by kernel_rfl) (by kernel_rfl) (by kernel_rfl) (fun _ _ _ h => h) (Or.inl ⟨by rfl, ?y2_37⟩) (by assumption) ?r2_37
    case y2_37 => (intro w hSw; (try dsimp only at hSw); have d1 := kp_kc' Q2.out hSw NQM.out; go_simp; first | done | with_reducible rfl)
    try simp only [Act.put, List.getElem_toArray, List.getElem_cons_succ, List.getElem_cons_zero, List.setIfInBounds_toArray, List.set_cons_zero, List.set_cons_succ]
    refine wpAnyH_take (i := 3) (v := ?v3_38) rfl (by kernel_rfl) (by kernel_rfl) (by kernel_rfl) (fun _ _ _ h => h) (Or.inl ⟨by rfl, ?y3_38⟩) (by assumption) ?r3_38
    case y3_38 => (intro w hSw; (try dsimp only at hSw); go_simp; first | done | with_reducible rfl)
    try simp only [Act.put, List.getElem_toArray, List.getElem_cons_succ, List.getElem_cons_zero, List.setIfInBounds_toArray, List.set_cons_zero, List.set_cons_succ]
    refine wpAnyH_take (i := 4) (v := ?v4_39) rfl (by kernel_rfl) (by kernel_rfl) (by kernel_rfl) (fun _ _ _ h => h) (Or.inl ⟨by rfl, ?y4_39⟩) (by assumption) ?r4_39
    case y4_39 => (intro w hSw; (try dsimp only at hSw); go_simp; first | done | with_reducible rfl)
    try simp only [Act.put, List.getElem_toArray, List.getElem_cons_succ, List.getElem_cons_zero, List.setIfInBounds_toArray, List.set_cons_zero, List.set_cons_succ]
    refine wpAnyH_take (i := 5) (v := ?v5_40) rfl (by kernel_rfl) (by kernel_rfl) (by kernel_rfl) (fun _ _ _ h => h) (Or.inl ⟨by rfl, ?y5_40⟩) (by assumption) ?r5_40
    case y5_40 => (intro w hSw; (try dsimp only at hSw); go_simp; first | done | with_reducible rfl)
    try simp only [Act.put, List.getElem_toArray, List.getElem_cons_succ, List.getElem_cons_zero, List.setIfInBounds_toArray, List.set_cons_zero, List.set_cons_succ]
    refine wpAnyH_take (i := 6) (v := ?v6_41) rfl (by kernel_rfl) (by kernel_rfl) (by kernel_rfl) (fun _ _ _ h => h) (Or.inl ⟨by rfl, ?y6_41⟩) (by assumption) ?r6_41
    case y6_41 => (intro w hSw; (try dsimp only at hSw); have d1 := kp_kc' CS.out hSw NM.out; go_simp; first | done | with_reducible rfl)
    try simp only [Act.put, List.getElem_toArray, List.getElem_cons_succ, List.getElem_cons_zero, List.setIfInBounds_toArray, List.set_cons_zero, List.set_cons_succ]
    refine wpAnyH_take (i := 7) (v := ?v7_42) rfl (by kernel_rfl) (by kernel_rfl) (by kernel_rfl) (fun _ _ _ h => h) (Or.inl ⟨by rfl, ?y7_42⟩) (by assumption) ?r7_42
    case y7_42 => (intro w hSw; (try dsimp only at hSw); go_simp; first | done | with_reducible rfl)
    try simp only [Act.put, List.getElem_toArray, List.getElem_cons_succ, List.getElem_cons_zero, List.setIfInBounds_toArray, List.set_cons_zero, List.set_cons_succ]
    refine wpAnyH_ready (rs := [8]) (by kernel_rfl) (by simp) ?_
    refine AllReadyH.cons rfl (fun K hK => ?_) AllReadyH.nil
    obtain ⟨v2, c2, hrun, him, hk2⟩ := (show IMap (w3.drewN (n1 + n2 + 1)) m1.b m1.c m1.L from (HX.out.wm.sl _ _ _ HX.out.sl).drewN (n1 + n2 + 1)).run_update (P := Tryz.prog) (T := 107) (E := 4) (K := 3) Tryz.underlying107 Tryz.underlying3 i (.bool true)
    go_simp
    have hk2 : Kp (fun b => b = m1.b) w3 v2 := hk2.undrewN (n := n1 + n2 + 1)
    refine hK.out _ _ (hk2) (fun hHeld => ?_)
    clear hK K
    try simp only [Act.put, List.getElem_toArray, List.getElem_cons_succ, List.getElem_cons_zero, List.setIfInBounds_toArray, List.set_cons_zero, List.set_cons_succ]
    refine wpAnyH_done (by kernel_rfl) ?_ _
    have IM := Lib.hid him
    have KM := Lib.hid hk2
    have Q22 := Lib.hid (kp_kc' Q2.out hk2 NQM.out)
    have CF2 := Lib.hid (kp_kc' CF.out hk2 NM.out)
    have BG2 := Lib.hid (HX.out.wm.bk.kept hk2 NM.out)
    clear hrun him hk2
    go_wp2_with fail
    have d3 := CF2.out
    have HOR := Lib.hid (show bits .or .u64 ((s.full k : Nat) : Int) (IntKind.u64.wrap (2 ^ j)) = ((s.full k ||| 2 ^ j : Nat) : Int) from or_pow_bits (I.out.full_lt k) hj)
    refine wp_region_held_drew (S := (fun w' => Kp (fun b => b = g) v2 w')) (by kernel_rfl) (⟨rfl, rfl, rfl, Nat.le_refl _, fun _ _ _ => rfl⟩) (fun hHeld => ?_)
    refine wpAnyH_take (i := 0) (v := ?v0_43) rfl (by kernel_rfl) (by kernel_rfl) (by kernel_rfl) (fun _ _ _ h => h) (Or.inl ⟨by rfl, ?y0_43⟩) (by assumption) ?r0_43
    case y0_43 => (intro w hSw; (try dsimp only at hSw); go_simp; first | done | with_reducible rfl)
    try simp only [Act.put, List.getElem_toArray, List.getElem_cons_succ, List.getElem_cons_zero, List.setIfInBounds_toArray, List.set_cons_zero, List.set_cons_succ]
    refine wpAnyH_take (i := 1) (v := ?v1_44) rfl (by kernel_rfl) (by kernel_rfl) (by kernel_rfl) (fun _ _ _ h => h) (Or.inl ⟨by rfl, ?y1_44⟩) (by assumption) ?r1_44
    case y1_44 => (intro w hSw; (try dsimp only at hSw); go_simp; first | done | with_reducible rfl)
    try simp only [Act.put, List.getElem_toArray, List.getElem_cons_succ, List.getElem_cons_zero, List.setIfInBounds_toArray, List.set_cons_zero, List.set_cons_succ]
    refine wpAnyH_take (i := 2) (v := ?v2_45) rfl (by kernel_rfl) (by kernel_rfl) (by kernel_rfl) (fun _ _ _ h => h) (Or.inl ⟨by rfl, ?y2_45⟩) (by assumption) ?r2_45
    case y2_45 => (intro w hSw; (try dsimp only at hSw); go_simp; first | done | with_reducible rfl)
    try simp only [Act.put, List.getElem_toArray, List.getElem_cons_succ, List.getElem_cons_zero, List.setIfInBounds_toArray, List.set_cons_zero, List.set_cons_succ]
    refine wpAnyH_take (i := 4) (v := ?v4_46) rfl (by kernel_rfl) (by kernel_rfl) (by kernel_rfl) (fun _ _ _ h => h) (Or.inl ⟨by rfl, ?y4_46⟩) (by assumption) ?r4_46
    case y4_46 => (intro w hSw; (try dsimp only at hSw); go_simp; first | done | with_reducible rfl)
    try simp only [Act.put, List.getElem_toArray, List.getElem_cons_succ, List.getElem_cons_zero, List.setIfInBounds_toArray, List.set_cons_zero, List.set_cons_succ]
    refine wpAnyH_take (i := 5) (v := ?v5_47) rfl (by kernel_rfl) (by kernel_rfl) (by kernel_rfl) (fun _ _ _ h => h) (Or.inl ⟨by rfl, ?y5_47⟩) (by assumption) ?r5_47
    case y5_47 => (intro w hSw; (try dsimp only at hSw); have d1 := kp_kc' Q22.out hSw NG3.out; go_simp; first | done | with_reducible rfl)
    try simp only [Act.put, List.getElem_toArray, List.getElem_cons_succ, List.getElem_cons_zero, List.setIfInBounds_toArray, List.set_cons_zero, List.set_cons_succ]
    refine wpAnyH_take (i := 6) (v := ?v6_48) rfl (by kernel_rfl) (by kernel_rfl) (by kernel_rfl) (fun _ _ _ h => h) (Or.inl ⟨by rfl, ?y6_48⟩) (by assumption) ?r6_48
    case y6_48 => (intro w hSw; (try dsimp only at hSw); go_simp; first | done | with_reducible rfl)
    try simp only [Act.put, List.getElem_toArray, List.getElem_cons_succ, List.getElem_cons_zero, List.setIfInBounds_toArray, List.set_cons_zero, List.set_cons_succ]
    refine wpAnyH_ready (rs := [3]) (by kernel_rfl) (by simp) ?_
    refine AllReadyH.cons rfl (fun K hK => ?_) AllReadyH.nil
    go_simp
    
    refine hK.out _ _ (⟨rfl, rfl, rfl, Nat.le_refl _, fun _ _ _ => rfl⟩) (fun hHeld => ?_)
    clear hK K
    try simp only [Act.put, List.getElem_toArray, List.getElem_cons_succ, List.getElem_cons_zero, List.setIfInBounds_toArray, List.set_cons_zero, List.set_cons_succ]
    refine wpAnyH_take (i := 7) (v := ?v7_49) rfl (by kernel_rfl) (by kernel_rfl) (by kernel_rfl) (fun _ _ _ h => h) (Or.inl ⟨by rfl, ?y7_49⟩) (by assumption) ?r7_49
    case y7_49 => (intro w hSw; (try dsimp only at hSw); go_simp; first | done | with_reducible rfl)
    try simp only [Act.put, List.getElem_toArray, List.getElem_cons_succ, List.getElem_cons_zero, List.setIfInBounds_toArray, List.set_cons_zero, List.set_cons_succ]
    refine wpAnyH_take (i := 8) (v := ?v8_50) rfl (by kernel_rfl) (by kernel_rfl) (by kernel_rfl) (fun _ _ _ h => h) (Or.inl ⟨by rfl, ?y8_50⟩) (by assumption) ?r8_50
    case y8_50 => (intro w hSw; (try dsimp only at hSw); go_simp; first | done | with_reducible rfl)
    try simp only [Act.put, List.getElem_toArray, List.getElem_cons_succ, List.getElem_cons_zero, List.setIfInBounds_toArray, List.set_cons_zero, List.set_cons_succ]
    refine wpAnyH_take (i := 9) (v := ?v9_51) rfl (by kernel_rfl) (by kernel_rfl) (by kernel_rfl) (fun _ _ _ h => h) (Or.inl ⟨by rfl, ?y9_51⟩) (by assumption) ?r9_51
    case y9_51 => (intro w hSw; (try dsimp only at hSw); go_simp; first | done | with_reducible rfl)
    try simp only [Act.put, List.getElem_toArray, List.getElem_cons_succ, List.getElem_cons_zero, List.setIfInBounds_toArray, List.set_cons_zero, List.set_cons_succ]
    refine wpAnyH_ready (rs := [10]) (by kernel_rfl) (by simp) ?_
    refine AllReadyH.cons rfl (fun K hK => ?_) AllReadyH.nil
    have f3 : v2.frozen? ⟨g, 2 + k * 65 + 64, none⟩ = false := BG2.out.frozen _
    go_simp
    rw [HOR.out]
    have kS : Kp (fun b => b = g) v2 (v2.setCell ⟨g, 2 + k * 65 + 64, none⟩ (.int .u64 ((s.full k ||| 2 ^ j : Nat) : Int))).drew := (Kp.refl (fun b => b = g) v2).setCell (p := ⟨g, 2 + k * 65 + 64, none⟩) (.inl rfl) _ |>.drew
    have PST := Lib.hid (hmid_ends HX.out I.out HI.out HD.out HA.out KM.out IM.out kS (by have hb := BG2.out.put (2 + k * 65 + 64) (.int .u64 ((s.full k ||| 2 ^ j : Nat) : Int)); rw [WC_set_full _ _ _ _ _ _ hk] at hb; exact hb))
    have KS8 := Lib.hid kS
    clear kS
    generalize (v2.setCell ⟨g, 2 + k * 65 + 64, none⟩ (.int .u64 ((s.full k ||| 2 ^ j : Nat) : Int))).drew = v3 at *
    refine hK.out _ _ (KS8.out) (fun hHeld => ?_)
    clear hK K
    try simp only [Act.put, List.getElem_toArray, List.getElem_cons_succ, List.getElem_cons_zero, List.setIfInBounds_toArray, List.set_cons_zero, List.set_cons_succ]
    refine wpAnyH_done (by kernel_rfl) ?_ _
    go_wp2_with fail
    refine bodyPost_end (results_none rfl _ _ _) rfl ?_
    exact ⟨rfl, PST.out⟩
end Go.Proofs.YtgidjgkafbjkpaaGreatDoor
