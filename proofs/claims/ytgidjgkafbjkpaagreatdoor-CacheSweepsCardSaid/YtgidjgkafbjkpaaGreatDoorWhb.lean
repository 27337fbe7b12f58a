/- Wheel: Cancel. -/
import Derived.Test.YtgidjgkafbjkpaaGreatDoorWha
set_option linter.unusedVariables false
set_option linter.unusedSimpArgs false
namespace Go.Proofs.YtgidjgkafbjkpaaGreatDoor
open Go.RowKit

/-- What Cancel leaves. -/
def DelPost (g now : Nat) (s : WS) (i : Int) (w w' : World) : Prop :=
  ∃ s', WM w' g now s' ∧ Inv now s'.tm.L s'.ov.L s'.sls s'.full (fun _ => False) ∧ s'.tm.L = mdel i s.tm.L ∧ s'.tm.b = s.tm.b ∧ s'.ov.b = s.ov.b ∧ Kp (fp g s) w w' ∧ ∀ b, fp g s' b → fp g s b
def offb (f j : Nat) : Nat := f &&& (18446744073709551615 - 2 ^ j)
theorem offb_lt {f j : Nat} (hf : f < 2 ^ 64) : offb f j < 2 ^ 64 := Nat.lt_of_le_of_lt Nat.and_le_left hf
theorem offb_bit {f j x : Nat} (hj : j < 64) (hx : x < 64) : (offb f j).testBit x = true ↔ x ≠ j ∧ f.testBit x = true := by
  have h1 : (2 : Nat) ^ j < 2 ^ 64 := Nat.pow_lt_pow_right (by omega) hj
  have h2 : (18446744073709551615 - 2 ^ j : Nat) = 2 ^ 64 - (2 ^ j + 1) := by omega
  unfold offb
  rw [Nat.testBit_and, h2, Nat.testBit_two_pow_sub_succ h1, Nat.testBit_two_pow]
  simp only [hx, decide_true, Bool.true_and, Bool.and_eq_true, Bool.not_eq_true', decide_eq_false_iff_not]
  constructor
  · rintro ⟨a, b⟩; exact ⟨fun e => b e.symm, a⟩
  · rintro ⟨a, b⟩; exact ⟨b, fun e => a e.symm⟩
theorem wrap_pow {j : Nat} (hj : j < 64) : IntKind.u64.wrap (2 ^ j) = ((2 ^ j : Nat) : Int) := by
  have h1 : (2 : Nat) ^ j < 2 ^ 64 := Nat.pow_lt_pow_right (by omega) hj
  rw [show ((2 : Int) ^ j) = ((2 ^ j : Nat) : Int) by simp]
  generalize (2 : Nat) ^ j = p at *
  show (p : Int) % 18446744073709551616 = _
  omega
theorem andnot_pow_bits {f j : Nat} (hf : f < 2 ^ 64) (hj : j < 64) : bits .andNot .u64 (f : Int) (IntKind.u64.wrap (2 ^ j)) = ((offb f j : Nat) : Int) := by
  have h1 : (2 : Nat) ^ j < 2 ^ 64 := Nat.pow_lt_pow_right (by omega) hj
  rw [wrap_pow hj, u64_andNot_nat f (2 ^ j) (by omega) (by omega)]
  rfl
theorem del_some_bits {now : Nat} {L ov : List Ent} {sl : Nat → Nat → List Ent} {full : Nat → Nat} (I : Inv now L ov sl full (fun _ => False)) {i : Int} {d k j x : Nat} (hj : j < 64) (hg : mget i L = some (spotV d (.slot k j))) {p : Prop} (he : p) : (full k).testBit x = true ↔ if x = j then p else (full k).testBit x = true := by
  by_cases e : x = j
  · subst e
    simp only [if_true]
    exact ⟨fun _ => he, fun _ => (I.bits k _ hj).2 ⟨i, (I.slots k _ i (fun f => f)).2 ⟨d, hg⟩⟩⟩
  · simp only [e, if_false]
theorem del_none_bits {f j x : Nat} (hj : j < 64) (hx : x < 64) {p : Prop} (he : ¬ p) : (offb f j).testBit x = true ↔ if x = j then p else f.testBit x = true := by
  rw [offb_bit hj hx]
  by_cases e : x = j
  · subst e
    simp only [if_true]
    exact ⟨fun h => absurd rfl h.1, fun h => absurd h he⟩
  · simp only [e, if_false, ne_eq, not_false_eq_true, true_and]
theorem del_over_ends {g now : Nat} {s : WS} {i : Int} {d : Nat} {w0 w1 w2 w3 : World} (h : WM w1 g now s) (inv : Inv now s.tm.L s.ov.L s.sls s.full (fun _ => False)) (hg : mget i s.tm.L = some (spotV d .over)) (k1 : Kp (fun _ => False) w0 w1)
    (k2 : Kp (fun b => b = s.tm.b) w1 w2) (i2 : IMap w2 s.tm.b s.tm.c (mdel i s.tm.L)) (k3 : Kp (fun b => b = s.ov.b) w2 w3) (i3 : IMap w3 s.ov.b s.ov.c (mdel i s.ov.L)) : DelPost g now s i w0 w3 := by
  refine ⟨_, (h.setTm k2 i2).setOv k3 i3, inv.del_over hg h.tm.keys h.ov.keys, rfl, rfl, rfl, ?_, fun _ hb => hb⟩
  refine ((k1.mono (T := fp g s) (fun _ f => f.elim)).trans' (k2.mono ?_)).trans' (k3.mono ?_)
  · rintro b rfl; exact .inr (.inl rfl)
  · rintro b rfl; exact .inr (.inr (.inl rfl))
theorem del_slot_ends {g now k j f' : Nat} {s : WS} {m : MapR} {i : Int} {d : Nat} {w0 w1 w2 w3 w4 : World} (h : WM w1 g now s) (inv : Inv now s.tm.L s.ov.L s.sls s.full (fun _ => False)) (hg : mget i s.tm.L = some (spotV d (.slot k j))) (hsl : s.sl k j = some m)
    (k1 : Kp (fun _ => False) w0 w1) (k2 : Kp (fun b => b = s.tm.b) w1 w2) (i2 : IMap w2 s.tm.b s.tm.c (mdel i s.tm.L)) (k3 : Kp (fun b => b = m.b) w2 w3) (i3 : IMap w3 m.b m.c (mdel i m.L))
    (k4 : Kp (fun b => b = g) w3 w4) (hb : Bk w4 g 113 (WC now s.tm.b s.ov.b s.slb (upd1 s.full k f'))) (hf : f' < 2 ^ 64) (hx : ∀ x, x < 64 → (f'.testBit x = true ↔ if x = j then mdel i m.L ≠ [] else (s.full k).testBit x = true)) : DelPost g now s i w0 w4 := by
  have h2 := h.setTm k2 i2
  have h3 := h2.setSl (k := k) (j := j) (m := m) hsl k3 i3
  have hmL : s.sls k j = m.L := by simp [WS.sls, hsl]
  have h4 := h3.setBk (now' := now) (full' := upd1 s.full k f') k4 (by rw [slb_same (show (s.withTm s.tm.c (mdel i s.tm.L)).sl k j = some m from hsl)]; exact hb)
  refine ⟨_, h4, ?_, rfl, rfl, rfl, ?_, ?_⟩
  · have hI := inv.del_slot (f' := f') hg h.tm.keys (by rw [hmL]; exact (h.sl _ _ _ hsl).keys) hf (by rw [hmL]; exact hx)
    show Inv now (mdel i s.tm.L) s.ov.L ((s.withTm s.tm.c (mdel i s.tm.L)).withSl k j (some ⟨m.b, m.c, mdel i m.L⟩)).sls (upd1 s.full k f') _
    rw [sls_with, ← hmL]
    exact hI
  · refine (((k1.mono (T := fp g s) (fun _ f => f.elim)).trans' (k2.mono ?_)).trans' (k3.mono ?_)).trans' (k4.mono ?_)
    · rintro b rfl; exact .inr (.inl rfl)
    · rintro b rfl; exact .inr (.inr (.inr ⟨k, j, m, hsl, rfl⟩))
    · rintro b rfl; exact .inl rfl
  · intro b hb'
    rcases fp_sl (show fp g ((s.withTm s.tm.c (mdel i s.tm.L)).withSl k j _) b from hb') with h' | ⟨m', e, h'⟩
    · exact h'
    · obtain rfl := Option.some.inj e
      exact .inr (.inr (.inr ⟨k, j, m, hsl, h'⟩))
set_option maxRecDepth 1000000 in
set_option maxHeartbeats 8000000 in
theorem cancel_none (g now : Nat) (s : WS) (i : Int) (w : World) (h : WM w g now s) (inv : Inv now s.tm.L s.ov.L s.sls s.full (fun _ => False)) (hg : mget i s.tm.L = none) :
    Calls Tryz.prog 46 #[.pointer (some ⟨g, 0, none⟩), .int .i64 i] w fun ev w' => ev = .returned (.bool false) ∧ Kp (fun _ => False) w w' := by
  have H := Lib.hid h
  have I := Lib.hid inv
  have kA0 := (Kp.refl (fun _ => False) w)
  have C1 := Lib.hid ((h.bk.cell 1).trans (WC_tm ..))
  have z1 := C1.out
  have hl0 := (h.tm.run_lookup (P := Tryz.prog) (T := 106) (E := 118) (K := 3) Tryz.underlying106 Tryz.underlying3 (z := .agg #[.int .u64 0, .int .i64 0, .int .i64 0]) (by kernel_rfl) i).2
  rw [hg] at hl0
  have hl : (Instr.lookup 106 (.map (some s.tm.b)) (.int .i64 i) true).run Tryz.prog w = .ok (.tuple #[.agg #[.int .u64 0, .int .i64 0, .int .i64 0], .bool false]) w := hl0
  clear hl0
  clear h inv
  go_enter Tryz.func46, Tryz.ntmps46
  go_wp2_with fail
  exact bodyPost_ret (results_tmp rfl _ _ _) rfl ⟨rfl, (Kp.refl _ _).alloc _⟩
set_option maxRecDepth 1000000 in
set_option maxHeartbeats 8000000 in
theorem cancel_over (g now : Nat) (s : WS) (i : Int) (d : Nat) (w : World) (h : WM w g now s) (inv : Inv now s.tm.L s.ov.L s.sls s.full (fun _ => False)) (hg : mget i s.tm.L = some (spotV d .over)) :
    Calls Tryz.prog 46 #[.pointer (some ⟨g, 0, none⟩), .int .i64 i] w fun ev w' => ev = .returned (.bool true) ∧ DelPost g now s i w w' := by
  have H := Lib.hid h
  have I := Lib.hid inv
  have kA0 := (Kp.refl (fun _ => False) w)
  have C1 := Lib.hid ((h.bk.cell 1).trans (WC_tm ..))
  have z1 := C1.out
  have hl0 := (h.tm.run_lookup (P := Tryz.prog) (T := 106) (E := 118) (K := 3) Tryz.underlying106 Tryz.underlying3 (z := .agg #[.int .u64 0, .int .i64 0, .int .i64 0]) (by kernel_rfl) i).2
  rw [hg] at hl0
  have hl : (Instr.lookup 106 (.map (some s.tm.b)) (.int .i64 i) true).run Tryz.prog w = .ok (.tuple #[.agg #[.int .u64 d, .int .i64 (-1), .int .i64 0], .bool true]) w := hl0
  clear hl0
  have kA := kA0.alloc (.cells #[.int .u64 d, .int .i64 (-1), .int .i64 0] 118)
  have h1 := h.none_kept kA
  have hq := Bk.new w 118 #[.int .u64 d, .int .i64 (-1), .int .i64 0]
  obtain ⟨w2, hrun, him, hk2⟩ := h1.tm.run_delete (P := Tryz.prog) (T := 106) (E := 118) (K := 3) Tryz.underlying106 Tryz.underlying3 i 3 0
  have z2 := kp_kc0 z1 kA
  have h2 := h1.setTm hk2 him
  have hq2 := hq.kept hk2 (fun e => h1.tm.ne_bk hq e.symm)
  have q1 := hq2.cell 1
  have q2 := hq2.cell 2
  have NQ := Lib.hid (show ¬ (fun b => b = g) w.heap.size from fun e => h2.bk.ne_of hq2 (by decide) e.symm)
  obtain ⟨w3, hrun3, him3, hk3⟩ := h2.ov.run_delete (P := Tryz.prog) (T := 107) (E := 4) (K := 3) Tryz.underlying107 Tryz.underlying3 i 3 0
  have hrun3 : (Builtin.delete_ #[107, 3] 0 #[.map (some s.ov.b), .int .i64 i]).run Tryz.prog w2 = .ok (.tuple #[]) w3 := hrun3
  have z3 : w2.cell? ⟨g, 717, none⟩ = some (.map (some s.ov.b)) := (h2.bk.cell 717).trans (WC_ov ..)
  have q1 : w2.cell? ⟨w.heap.size, 1, none⟩ = some (.int .i64 (-1)) := q1
  have PST := Lib.hid (del_over_ends h1 inv hg kA hk2 him hk3 him3)
  clear h inv him him3 hk2 hk3 h1 h2 hq hq2 q2 kA
  go_enter Tryz.func46, Tryz.ntmps46
  go_wp2_with fail
  exact bodyPost_ret (results_tmp rfl _ _ _) rfl ⟨rfl, PST.out⟩
set_option maxRecDepth 1000000 in
set_option maxHeartbeats 8000000 in
theorem cancel_slot_some (g now : Nat) (s : WS) (i : Int) (d k j : Nat) (m : MapR) (w : World) (h : WM w g now s) (inv : Inv now s.tm.L s.ov.L s.sls s.full (fun _ => False)) (hg : mget i s.tm.L = some (spotV d (.slot k j))) (hk : k < 11) (hj : j < 64) (hsl : s.sl k j = some m) (he : mdel i m.L ≠ []) :
    Calls Tryz.prog 46 #[.pointer (some ⟨g, 0, none⟩), .int .i64 i] w fun ev w' => ev = .returned (.bool true) ∧ DelPost g now s i w w' := by
  have H := Lib.hid h
  have I := Lib.hid inv
  have kA0 := (Kp.refl (fun _ => False) w)
  have C1 := Lib.hid ((h.bk.cell 1).trans (WC_tm ..))
  have z1 := C1.out
  have hl0 := (h.tm.run_lookup (P := Tryz.prog) (T := 106) (E := 118) (K := 3) Tryz.underlying106 Tryz.underlying3 (z := .agg #[.int .u64 0, .int .i64 0, .int .i64 0]) (by kernel_rfl) i).2
  rw [hg] at hl0
  have hl : (Instr.lookup 106 (.map (some s.tm.b)) (.int .i64 i) true).run Tryz.prog w = .ok (.tuple #[.agg #[.int .u64 d, .int .i64 k, .int .i64 j], .bool true]) w := hl0
  clear hl0
  have kA := kA0.alloc (.cells #[.int .u64 d, .int .i64 k, .int .i64 j] 118)
  have h1 := h.none_kept kA
  have hq := Bk.new w 118 #[.int .u64 d, .int .i64 k, .int .i64 j]
  obtain ⟨w2, hrun, him, hk2⟩ := h1.tm.run_delete (P := Tryz.prog) (T := 106) (E := 118) (K := 3) Tryz.underlying106 Tryz.underlying3 i 3 0
  have z2 := kp_kc0 z1 kA
  have h2 := h1.setTm hk2 him
  have hq2 := hq.kept hk2 (fun e => h1.tm.ne_bk hq e.symm)
  have q1 := hq2.cell 1
  have q2 := hq2.cell 2
  have NQ := Lib.hid (show ¬ (fun b => b = g) w.heap.size from fun e => h2.bk.ne_of hq2 (by decide) e.symm)
  have q1 : w2.cell? ⟨w.heap.size, 1, none⟩ = some (.int .i64 k) := q1
  have q2 : w2.cell? ⟨w.heap.size, 2, none⟩ = some (.int .i64 j) := q2
  have Q2 := Lib.hid q2
  have k1 : (0 : Int) ≤ (k : Int) := by omega
  have k2 : (k : Int) < 11 := by omega
  have k3 : ((k : Int) == -1) = false := by simp
  have j1 : (0 : Int) ≤ (j : Int) := by omega
  have j2 : (j : Int) < 64 := by omega
  have HSL := Lib.hid hsl
  have H1 := Lib.hid h1
  have H2 := Lib.hid h2
  have KA := Lib.hid kA
  have K2 := Lib.hid hk2
  have M2 := Lib.hid him
  have HG := Lib.hid hg
  have MS := Lib.hid (h2.sl k j m hsl)
  have CS := Lib.hid ((h2.bk.cell _).trans ((WC_sl _ _ _ _ _ hk hj).trans (show _ = some (Value.map (some m.b)) by rw [show (s.withTm s.tm.c (mdel i s.tm.L)).slb k j = some m.b by simp [WS.slb, WS.withTm, hsl]])))
  have NM := Lib.hid (show ¬ (fun b => b = m.b) g from fun e => (h2.sl k j m hsl).ne_bk h2.bk e.symm)
  have NQM := Lib.hid (show ¬ (fun b => b = m.b) w.heap.size from fun e => (h2.sl k j m hsl).ne_bk hq2 e.symm)
  clear h inv him hk2 h1 h2 hq hq2 kA hg hsl
  go_enter Tryz.func46, Tryz.ntmps46
  go_wp2_with fail
  go_quiet (fail)
  rename Nat => n1
  go_wp2_with fail
  refine wp_region_held_drew (S := (fun w' => Kp (fun b => b = m.b) w2 w')) (by kernel_rfl) (⟨rfl, rfl, rfl, Nat.le_refl _, fun _ _ _ => rfl⟩) (fun hHeld => ?_)
  refine wpAnyH_take (i := 0) (v := ?v0_0) rfl (by kernel_rfl) (by kernel_rfl) (by kernel_rfl) (fun _ _ _ h => h) (Or.inl ⟨by rfl, ?y0_0⟩) (by assumption) ?r0_0
  case y0_0 => (intro w hSw; (try dsimp only at hSw); go_simp; first | done | with_reducible rfl)
  try simp only [Act.put, List.getElem_toArray, List.getElem_cons_succ, List.getElem_cons_zero, List.setIfInBounds_toArray, List.set_cons_zero, List.set_cons_succ]
  refine wpAnyH_take (i := 1) (v := ?v1_1) rfl (by kernel_rfl) (by kernel_rfl) (by kernel_rfl) (fun _ _ _ h => h) (Or.inl ⟨by rfl, ?y1_1⟩) (by assumption) ?r1_1
  case y1_1 => (intro w hSw; (try dsimp only at hSw); go_simp; first | done | with_reducible rfl)
  try simp only [Act.put, List.getElem_toArray, List.getElem_cons_succ, List.getElem_cons_zero, List.setIfInBounds_toArray, List.set_cons_zero, List.set_cons_succ]
  refine wpAnyH_take (i := 2) (v := ?v2_2) rfl (by kernel_rfl) (by kernel_rfl) (by kernel_rfl) (fun _ _ _ h => h) (Or.inl ⟨by rfl, ?y2_2⟩) (by assumption) ?r2_2
  case y2_2 => (intro w hSw; (try dsimp only at hSw); have d1 := kp_kc' Q2.out hSw NQM.out; go_simp; first | done | with_reducible rfl)
  try simp only [Act.put, List.getElem_toArray, List.getElem_cons_succ, List.getElem_cons_zero, List.setIfInBounds_toArray, List.set_cons_zero, List.set_cons_succ]
  refine wpAnyH_take (i := 3) (v := ?v3_3) rfl (by kernel_rfl) (by kernel_rfl) (by kernel_rfl) (fun _ _ _ h => h) (Or.inl ⟨by rfl, ?y3_3⟩) (by assumption) ?r3_3
  case y3_3 => (intro w hSw; (try dsimp only at hSw); go_simp; first | done | with_reducible rfl)
  try simp only [Act.put, List.getElem_toArray, List.getElem_cons_succ, List.getElem_cons_zero, List.setIfInBounds_toArray, List.set_cons_zero, List.set_cons_succ]
  refine wpAnyH_take (i := 4) (v := ?v4_4) rfl (by kernel_rfl) (by kernel_rfl) (by kernel_rfl) (fun _ _ _ h => h) (Or.inl ⟨by rfl, ?y4_4⟩) (by assumption) ?r4_4
  case y4_4 => (intro w hSw; (try dsimp only at hSw); go_simp; first | done | with_reducible rfl)
  try simp only [Act.put, List.getElem_toArray, List.getElem_cons_succ, List.getElem_cons_zero, List.setIfInBounds_toArray, List.set_cons_zero, List.set_cons_succ]
  refine wpAnyH_take (i := 5) (v := ?v5_5) rfl (by kernel_rfl) (by kernel_rfl) (by kernel_rfl) (fun _ _ _ h => h) (Or.inl ⟨by rfl, ?y5_5⟩) (by assumption) ?r5_5
  case y5_5 => (intro w hSw; (try dsimp only at hSw); go_simp; first | done | with_reducible rfl)
  try simp only [Act.put, List.getElem_toArray, List.getElem_cons_succ, List.getElem_cons_zero, List.setIfInBounds_toArray, List.set_cons_zero, List.set_cons_succ]
  refine wpAnyH_take (i := 6) (v := ?v6_6) rfl (by kernel_rfl) (by kernel_rfl) (by kernel_rfl) (fun _ _ _ h => h) (Or.inl ⟨by rfl, ?y6_6⟩) (by assumption) ?r6_6
  case y6_6 => (intro w hSw; (try dsimp only at hSw); have d1 := kp_kc' CS.out hSw NM.out; go_simp; first | done | with_reducible rfl)
  try simp only [Act.put, List.getElem_toArray, List.getElem_cons_succ, List.getElem_cons_zero, List.setIfInBounds_toArray, List.set_cons_zero, List.set_cons_succ]
  refine wpAnyH_take (i := 7) (v := ?v7_7) rfl (by kernel_rfl) (by kernel_rfl) (by kernel_rfl) (fun _ _ _ h => h) (Or.inl ⟨by rfl, ?y7_7⟩) (by assumption) ?r7_7
  case y7_7 => (intro w hSw; (try dsimp only at hSw); go_simp; first | done | with_reducible rfl)
  try simp only [Act.put, List.getElem_toArray, List.getElem_cons_succ, List.getElem_cons_zero, List.setIfInBounds_toArray, List.set_cons_zero, List.set_cons_succ]
  refine wpAnyH_ready (rs := [8]) (by kernel_rfl) (by simp) ?_
  refine AllReadyH.cons rfl (fun K hK => ?_) AllReadyH.nil
  obtain ⟨w3, hrun3, him3, hk3⟩ := (show IMap (w2.drewN (n1 + 1)) m.b m.c m.L from MS.out.drewN (n1 + 1)).run_delete (P := Tryz.prog) (T := 107) (E := 4) (K := 3) Tryz.underlying107 Tryz.underlying3 i 3 0
  go_simp
  have hk3 : Kp (fun b => b = m.b) w2 w3 := hk3.undrewN (n := n1 + 1)
  refine hK.out _ _ (hk3) (fun hHeld => ?_)
  clear hK K
  try simp only [Act.put, List.getElem_toArray, List.getElem_cons_succ, List.getElem_cons_zero, List.setIfInBounds_toArray, List.set_cons_zero, List.set_cons_succ]
  refine wpAnyH_done (by kernel_rfl) ?_ _
  have K3 := Lib.hid hk3
  have M3 := Lib.hid him3
  clear q2 z2 q1
  have q2 := kp_kc' Q2.out hk3 NQM.out
  have s3 := kp_kc' CS.out hk3 NM.out
  have B3 := Lib.hid (H2.out.bk.kept hk3 NM.out)
  have hlen := fun n => (show IMap (w3.drewN n) m.b m.c (mdel i m.L) from him3.drewN n).run_len (P := Tryz.prog) (T := 107) (E := 4) (K := 3) Tryz.underlying107 3
  clear hrun hrun3 him3 hk3 hl
  have hz : (((mdel i m.L).length : Int) == 0) = false := by
    have : (mdel i m.L).length ≠ 0 := fun e => he (List.eq_nil_of_length_eq_zero e)
    simp only [beq_eq_false_iff_ne]
    omega
  go_wp2_with fail
  go_quiet (fail)
  go_wp2_with fail
  refine bodyPost_ret (results_tmp rfl _ _ _) rfl ?_
  exact ⟨rfl, del_slot_ends (f' := s.full k) H1.out I.out HG.out HSL.out KA.out K2.out M2.out K3.out M3.out (w4 := _) ⟨rfl, rfl, rfl, Nat.le_refl _, fun _ _ _ => rfl⟩ (by rw [show upd1 s.full k (s.full k) = s.full from by funext x; unfold upd1; split <;> simp_all]; exact B3.out.drewN _) (I.out.full_lt k) (fun x hx => del_some_bits I.out hj HG.out he)⟩
set_option maxRecDepth 1000000 in
set_option maxHeartbeats 8000000 in
theorem cancel_slot_none (g now : Nat) (s : WS) (i : Int) (d k j : Nat) (m : MapR) (w : World) (h : WM w g now s) (inv : Inv now s.tm.L s.ov.L s.sls s.full (fun _ => False)) (hg : mget i s.tm.L = some (spotV d (.slot k j))) (hk : k < 11) (hj : j < 64) (hsl : s.sl k j = some m) (he : mdel i m.L = []) :
    Calls Tryz.prog 46 #[.pointer (some ⟨g, 0, none⟩), .int .i64 i] w fun ev w' => ev = .returned (.bool true) ∧ DelPost g now s i w w' := by
  have H := Lib.hid h
  have I := Lib.hid inv
  have kA0 := (Kp.refl (fun _ => False) w)
  have C1 := Lib.hid ((h.bk.cell 1).trans (WC_tm ..))
  have z1 := C1.out
  have hl0 := (h.tm.run_lookup (P := Tryz.prog) (T := 106) (E := 118) (K := 3) Tryz.underlying106 Tryz.underlying3 (z := .agg #[.int .u64 0, .int .i64 0, .int .i64 0]) (by kernel_rfl) i).2
  rw [hg] at hl0
  have hl : (Instr.lookup 106 (.map (some s.tm.b)) (.int .i64 i) true).run Tryz.prog w = .ok (.tuple #[.agg #[.int .u64 d, .int .i64 k, .int .i64 j], .bool true]) w := hl0
  clear hl0
  have kA := kA0.alloc (.cells #[.int .u64 d, .int .i64 k, .int .i64 j] 118)
  have h1 := h.none_kept kA
  have hq := Bk.new w 118 #[.int .u64 d, .int .i64 k, .int .i64 j]
  obtain ⟨w2, hrun, him, hk2⟩ := h1.tm.run_delete (P := Tryz.prog) (T := 106) (E := 118) (K := 3) Tryz.underlying106 Tryz.underlying3 i 3 0
  have z2 := kp_kc0 z1 kA
  have h2 := h1.setTm hk2 him
  have hq2 := hq.kept hk2 (fun e => h1.tm.ne_bk hq e.symm)
  have q1 := hq2.cell 1
  have q2 := hq2.cell 2
  have NQ := Lib.hid (show ¬ (fun b => b = g) w.heap.size from fun e => h2.bk.ne_of hq2 (by decide) e.symm)
  have q1 : w2.cell? ⟨w.heap.size, 1, none⟩ = some (.int .i64 k) := q1
  have q2 : w2.cell? ⟨w.heap.size, 2, none⟩ = some (.int .i64 j) := q2
  have Q2 := Lib.hid q2
  have k1 : (0 : Int) ≤ (k : Int) := by omega
  have k2 : (k : Int) < 11 := by omega
  have k3 : ((k : Int) == -1) = false := by simp
  have j1 : (0 : Int) ≤ (j : Int) := by omega
  have j2 : (j : Int) < 64 := by omega
  have HSL := Lib.hid hsl
  have H1 := Lib.hid h1
  have H2 := Lib.hid h2
  have KA := Lib.hid kA
  have K2 := Lib.hid hk2
  have M2 := Lib.hid him
  have HG := Lib.hid hg
  have MS := Lib.hid (h2.sl k j m hsl)
  have CS := Lib.hid ((h2.bk.cell _).trans ((WC_sl _ _ _ _ _ hk hj).trans (show _ = some (Value.map (some m.b)) by rw [show (s.withTm s.tm.c (mdel i s.tm.L)).slb k j = some m.b by simp [WS.slb, WS.withTm, hsl]])))
  have NM := Lib.hid (show ¬ (fun b => b = m.b) g from fun e => (h2.sl k j m hsl).ne_bk h2.bk e.symm)
  have NQM := Lib.hid (show ¬ (fun b => b = m.b) w.heap.size from fun e => (h2.sl k j m hsl).ne_bk hq2 e.symm)
  clear h inv him hk2 h1 h2 hq hq2 kA hg hsl
  go_enter Tryz.func46, Tryz.ntmps46
  go_wp2_with fail
  go_quiet (fail)
  rename Nat => n1
  go_wp2_with fail
  refine wp_region_held_drew (S := (fun w' => Kp (fun b => b = m.b) w2 w')) (by kernel_rfl) (⟨rfl, rfl, rfl, Nat.le_refl _, fun _ _ _ => rfl⟩) (fun hHeld => ?_)
  refine wpAnyH_take (i := 0) (v := ?v0_17) rfl (by kernel_rfl) (by kernel_rfl) (by kernel_rfl) (fun _ _ _ h => h) (Or.inl ⟨by rfl, ?y0_17⟩) (by assumption) ?r0_17
  case y0_17 => (intro w hSw; (try dsimp only at hSw); go_simp; first | done | with_reducible rfl)
  try simp only [Act.put, List.getElem_toArray, List.getElem_cons_succ, List.getElem_cons_zero, List.setIfInBounds_toArray, List.set_cons_zero, List.set_cons_succ]
  refine wpAnyH_take (i := 1) (v := ?v1_18) rfl (by kernel_rfl) (by kernel_rfl) (by kernel_rfl) (fun _ _ _ h => h) (Or.inl ⟨by rfl, ?y1_18⟩) (by assumption) ?r1_18
  case y1_18 => (intro w hSw; (try dsimp only at hSw); go_simp; first | done | with_reducible rfl)
  try simp only [Act.put, List.getElem_toArray, List.getElem_cons_succ, List.getElem_cons_zero, List.setIfInBounds_toArray, List.set_cons_zero, List.set_cons_succ]
  refine wpAnyH_take (i := 2) (v := ?v2_19) rfl (by kernel_rfl) (by kernel_rfl) (by kernel_rfl) (fun _ _ _ h => h) (Or.inl ⟨by rfl, ?y2_19⟩) (by assumption) ?r2_19
  case y2_19 => (intro w hSw; (try dsimp only at hSw); have d1 := kp_kc' Q2.out hSw NQM.out; go_simp; first | done | with_reducible rfl)
  try simp only [Act.put, List.getElem_toArray, List.getElem_cons_succ, List.getElem_cons_zero, List.setIfInBounds_toArray, List.set_cons_zero, List.set_cons_succ]
  refine wpAnyH_take (i := 3) (v := ?v3_20) rfl (by kernel_rfl) (by kernel_rfl) (by kernel_rfl) (fun _ _ _ h => h) (Or.inl ⟨by rfl, ?y3_20⟩) (by assumption) ?r3_20
  case y3_20 => (intro w hSw; (try dsimp only at hSw); go_simp; first | done | with_reducible rfl)
  try simp only [Act.put, List.getElem_toArray, List.getElem_cons_succ, List.getElem_cons_zero, List.setIfInBounds_toArray, List.set_cons_zero, List.set_cons_succ]
  refine wpAnyH_take (i := 4) (v := ?v4_21) rfl (by kernel_rfl) (by kernel_rfl) (by kernel_rfl) (fun _ _ _ h => h) (Or.inl ⟨by rfl, ?y4_21⟩) (by assumption) ?r4_21
  case y4_21 => (intro w hSw; (try dsimp only at hSw); go_simp; first | done | with_reducible rfl)
  try simp only [Act.put, List.getElem_toArray, List.getElem_cons_succ, List.getElem_cons_zero, List.setIfInBounds_toArray, List.set_cons_zero, List.set_cons_succ]
  refine wpAnyH_take (i := 5) (v := ?v5_22) rfl (by kernel_rfl) (by kernel_rfl) (by kernel_rfl) (fun _ _ _ h => h) (Or.inl ⟨by rfl, ?y5_22⟩) (by assumption) ?r5_22
  case y5_22 => (intro w hSw; (try dsimp only at hSw); go_simp; first | done | with_reducible rfl)
  try simp only [Act.put, List.getElem_toArray, List.getElem_cons_succ, List.getElem_cons_zero, List.setIfInBounds_toArray, List.set_cons_zero, List.set_cons_succ]
  refine wpAnyH_take (i := 6) (v := ?v6_23) rfl (by kernel_rfl) (by kernel_rfl) (by kernel_rfl) (fun _ _ _ h => h) (Or.inl ⟨by rfl, ?y6_23⟩) (by assumption) ?r6_23
  case y6_23 => (intro w hSw; (try dsimp only at hSw); have d1 := kp_kc' CS.out hSw NM.out; go_simp; first | done | with_reducible rfl)
  try simp only [Act.put, List.getElem_toArray, List.getElem_cons_succ, List.getElem_cons_zero, List.setIfInBounds_toArray, List.set_cons_zero, List.set_cons_succ]
  refine wpAnyH_take (i := 7) (v := ?v7_24) rfl (by kernel_rfl) (by kernel_rfl) (by kernel_rfl) (fun _ _ _ h => h) (Or.inl ⟨by rfl, ?y7_24⟩) (by assumption) ?r7_24
  case y7_24 => (intro w hSw; (try dsimp only at hSw); go_simp; first | done | with_reducible rfl)
  try simp only [Act.put, List.getElem_toArray, List.getElem_cons_succ, List.getElem_cons_zero, List.setIfInBounds_toArray, List.set_cons_zero, List.set_cons_succ]
  refine wpAnyH_ready (rs := [8]) (by kernel_rfl) (by simp) ?_
  refine AllReadyH.cons rfl (fun K hK => ?_) AllReadyH.nil
  obtain ⟨w3, hrun3, him3, hk3⟩ := (show IMap (w2.drewN (n1 + 1)) m.b m.c m.L from MS.out.drewN (n1 + 1)).run_delete (P := Tryz.prog) (T := 107) (E := 4) (K := 3) Tryz.underlying107 Tryz.underlying3 i 3 0
  go_simp
  have hk3 : Kp (fun b => b = m.b) w2 w3 := hk3.undrewN (n := n1 + 1)
  refine hK.out _ _ (hk3) (fun hHeld => ?_)
  clear hK K
  try simp only [Act.put, List.getElem_toArray, List.getElem_cons_succ, List.getElem_cons_zero, List.setIfInBounds_toArray, List.set_cons_zero, List.set_cons_succ]
  refine wpAnyH_done (by kernel_rfl) ?_ _
  have K3 := Lib.hid hk3
  have M3 := Lib.hid him3
  clear q2 z2 q1
  have q2 := kp_kc' Q2.out hk3 NQM.out
  have s3 := kp_kc' CS.out hk3 NM.out
  have B3 := Lib.hid (H2.out.bk.kept hk3 NM.out)
  have hlen := fun n => (show IMap (w3.drewN n) m.b m.c (mdel i m.L) from him3.drewN n).run_len (P := Tryz.prog) (T := 107) (E := 4) (K := 3) Tryz.underlying107 3
  clear hrun hrun3 him3 hk3 hl
  have hz : (((mdel i m.L).length : Int) == 0) = true := by simp [he]
  have f3 : w3.cell? ⟨g, 2 + k * 65 + 64, none⟩ = some (.int .u64 (s.full k)) := (B3.out.cell _).trans (WC_full _ _ _ _ _ hk)
  have CF := Lib.hid f3
  go_wp2_with fail
  go_quiet (fail)
  rename Nat => n2
  go_wp2_with fail
  have HE := Lib.hid he
  clear s3 hz he
  have Q3 := Lib.hid q2
  clear q2
  have HAN := Lib.hid (andnot_pow_bits (I.out.full_lt k) hj)
  refine wp_region_held_drew (S := (fun w' => Kp (fun b => b = g) w3 w')) (by kernel_rfl) (⟨rfl, rfl, rfl, Nat.le_refl _, fun _ _ _ => rfl⟩) (fun hHeld => ?_)
  refine wpAnyH_take (i := 0) (v := ?v0_8) rfl (by kernel_rfl) (by kernel_rfl) (by kernel_rfl) (fun _ _ _ h => h) (Or.inl ⟨by rfl, ?y0_8⟩) (by assumption) ?r0_8
  case y0_8 => (intro w hSw; (try dsimp only at hSw); go_simp; first | done | with_reducible rfl)
  try simp only [Act.put, List.getElem_toArray, List.getElem_cons_succ, List.getElem_cons_zero, List.setIfInBounds_toArray, List.set_cons_zero, List.set_cons_succ]
  refine wpAnyH_take (i := 1) (v := ?v1_9) rfl (by kernel_rfl) (by kernel_rfl) (by kernel_rfl) (fun _ _ _ h => h) (Or.inl ⟨by rfl, ?y1_9⟩) (by assumption) ?r1_9
  case y1_9 => (intro w hSw; (try dsimp only at hSw); go_simp; first | done | with_reducible rfl)
  try simp only [Act.put, List.getElem_toArray, List.getElem_cons_succ, List.getElem_cons_zero, List.setIfInBounds_toArray, List.set_cons_zero, List.set_cons_succ]
  refine wpAnyH_take (i := 2) (v := ?v2_10) rfl (by kernel_rfl) (by kernel_rfl) (by kernel_rfl) (fun _ _ _ h => h) (Or.inl ⟨by rfl, ?y2_10⟩) (by assumption) ?r2_10
  case y2_10 => (intro w hSw; (try dsimp only at hSw); go_simp; first | done | with_reducible rfl)
  try simp only [Act.put, List.getElem_toArray, List.getElem_cons_succ, List.getElem_cons_zero, List.setIfInBounds_toArray, List.set_cons_zero, List.set_cons_succ]
  refine wpAnyH_take (i := 4) (v := ?v4_11) rfl (by kernel_rfl) (by kernel_rfl) (by kernel_rfl) (fun _ _ _ h => h) (Or.inl ⟨by rfl, ?y4_11⟩) (by assumption) ?r4_11
  case y4_11 => (intro w hSw; (try dsimp only at hSw); go_simp; first | done | with_reducible rfl)
  try simp only [Act.put, List.getElem_toArray, List.getElem_cons_succ, List.getElem_cons_zero, List.setIfInBounds_toArray, List.set_cons_zero, List.set_cons_succ]
  refine wpAnyH_take (i := 5) (v := ?v5_12) rfl (by kernel_rfl) (by kernel_rfl) (by kernel_rfl) (fun _ _ _ h => h) (Or.inl ⟨by rfl, ?y5_12⟩) (by assumption) ?r5_12
  case y5_12 => (intro w hSw; (try dsimp only at hSw); have d1 := kp_kc' Q3.out hSw NQ.out; go_simp; first | done | with_reducible rfl)
  try simp only [Act.put, List.getElem_toArray, List.getElem_cons_succ, List.getElem_cons_zero, List.setIfInBounds_toArray, List.set_cons_zero, List.set_cons_succ]
  refine wpAnyH_take (i := 6) (v := ?v6_13) rfl (by kernel_rfl) (by kernel_rfl) (by kernel_rfl) (fun _ _ _ h => h) (Or.inl ⟨by rfl, ?y6_13⟩) (by assumption) ?r6_13
  case y6_13 => (intro w hSw; (try dsimp only at hSw); go_simp; first | done | with_reducible rfl)
  try simp only [Act.put, List.getElem_toArray, List.getElem_cons_succ, List.getElem_cons_zero, List.setIfInBounds_toArray, List.set_cons_zero, List.set_cons_succ]
  refine wpAnyH_ready (rs := [3]) (by kernel_rfl) (by simp) ?_
  refine AllReadyH.cons rfl (fun K hK => ?_) AllReadyH.nil
  go_simp
  
  refine hK.out _ _ (⟨rfl, rfl, rfl, Nat.le_refl _, fun _ _ _ => rfl⟩) (fun hHeld => ?_)
  clear hK K
  try simp only [Act.put, List.getElem_toArray, List.getElem_cons_succ, List.getElem_cons_zero, List.setIfInBounds_toArray, List.set_cons_zero, List.set_cons_succ]
  refine wpAnyH_take (i := 7) (v := ?v7_14) rfl (by kernel_rfl) (by kernel_rfl) (by kernel_rfl) (fun _ _ _ h => h) (Or.inl ⟨by rfl, ?y7_14⟩) (by assumption) ?r7_14
  case y7_14 => (intro w hSw; (try dsimp only at hSw); go_simp; first | done | with_reducible rfl)
  try simp only [Act.put, List.getElem_toArray, List.getElem_cons_succ, List.getElem_cons_zero, List.setIfInBounds_toArray, List.set_cons_zero, List.set_cons_succ]
  refine wpAnyH_take (i := 8) (v := ?v8_15) rfl (by kernel_rfl) (by kernel_rfl) (by kernel_rfl) (fun _ _ _ h => h) (Or.inl ⟨by rfl, ?y8_15⟩) (by assumption) ?r8_15
  case y8_15 => (intro w hSw; (try dsimp only at hSw); go_simp; first | done | with_reducible rfl)
  try simp only [Act.put, List.getElem_toArray, List.getElem_cons_succ, List.getElem_cons_zero, List.setIfInBounds_toArray, List.set_cons_zero, List.set_cons_succ]
  refine wpAnyH_take (i := 9) (v := ?v9_16) rfl (by kernel_rfl) (by kernel_rfl) (by kernel_rfl) (fun _ _ _ h => h) (Or.inl ⟨by rfl, ?y9_16⟩) (by assumption) ?r9_16
  case y9_16 => (intro w hSw; (try dsimp only at hSw); go_simp; first | done | with_reducible rfl)
  try simp only [Act.put, List.getElem_toArray, List.getElem_cons_succ, List.getElem_cons_zero, List.setIfInBounds_toArray, List.set_cons_zero, List.set_cons_succ]
  refine wpAnyH_ready (rs := [10]) (by kernel_rfl) (by simp) ?_
  refine AllReadyH.cons rfl (fun K hK => ?_) AllReadyH.nil
  have f4 : w3.frozen? ⟨g, 2 + k * 65 + 64, none⟩ = false := B3.out.frozen _
  go_simp
  rw [HAN.out]
  have kS : Kp (fun b => b = g) w3 ((w3.drewN (n2 + 1)).setCell ⟨g, 2 + k * 65 + 64, none⟩ (.int .u64 ((offb (s.full k) j : Nat) : Int))) := (show Kp (fun b => b = g) w3 (w3.drewN (n2 + 1)) from ⟨rfl, rfl, rfl, Nat.le_refl _, fun _ _ _ => rfl⟩).setCell (p := ⟨g, 2 + k * 65 + 64, none⟩) (.inl rfl) _
  have PST := Lib.hid (del_slot_ends (f' := offb (s.full k) j) H1.out I.out HG.out HSL.out KA.out K2.out M2.out K3.out M3.out kS (by have hb := (B3.out.drewN (n2 + 1)).put (2 + k * 65 + 64) (.int .u64 ((offb (s.full k) j : Nat) : Int)); rw [WC_set_full _ _ _ _ _ _ hk] at hb; exact hb) (offb_lt (I.out.full_lt k)) (fun x hx => del_none_bits hj hx (fun h => h HE.out)))
  have KS := Lib.hid kS
  clear kS
  generalize (w3.drewN (n2 + 1)).setCell ⟨g, 2 + k * 65 + 64, none⟩ (.int .u64 ((offb (s.full k) j : Nat) : Int)) = w4 at *
  refine hK.out _ _ (KS.out) (fun hHeld => ?_)
  clear hK K
  try simp only [Act.put, List.getElem_toArray, List.getElem_cons_succ, List.getElem_cons_zero, List.setIfInBounds_toArray, List.set_cons_zero, List.set_cons_succ]
  refine wpAnyH_done (by kernel_rfl) ?_ _
  go_wp2_with fail
  exact bodyPost_ret (results_tmp rfl _ _ _) rfl ⟨rfl, PST.out⟩
theorem Inv.in_slot {now : Nat} {s : WS} {i : Int} {d k j : Nat} (inv : Inv now s.tm.L s.ov.L s.sls s.full (fun _ => False)) (hg : mget i s.tm.L = some (spotV d (.slot k j))) : ∃ m, s.sl k j = some m := by
  have h := (inv.slots k j i (fun f => f)).2 ⟨d, hg⟩
  unfold WS.sls at h
  rcases e : s.sl k j with _ | m
  · rw [e] at h; exact absurd h (has_nil i)
  · exact ⟨m, rfl⟩
/-- Cancel. -/
theorem cancel (g now : Nat) (s : WS) (i : Int) (w : World) (h : WM w g now s) (inv : Inv now s.tm.L s.ov.L s.sls s.full (fun _ => False)) :
    Calls Tryz.prog 46 #[.pointer (some ⟨g, 0, none⟩), .int .i64 i] w fun ev w' => ev = .returned (.bool (mget i s.tm.L).isSome) ∧ DelPost g now s i w w' := by
  rcases hg : mget i s.tm.L with _ | v
  · exact (cancel_none g now s i w h inv hg).mono fun _ w' ⟨e, k⟩ => ⟨e, s, h.none_kept k, inv, (mdel_none i _ hg).symm, rfl, rfl, k.mono (fun _ f => f.elim), fun _ hb => hb⟩
  · obtain ⟨d, p, rfl, hd, hh⟩ := inv.spot i v hg
    rcases p with _ | ⟨k, j⟩
    · exact cancel_over g now s i d w h inv hg
    · have ha : At now d k j := hh (fun f => f)
      obtain ⟨m, hsl⟩ := inv.in_slot hg
      have hk := ha.lt11 inv.now_le hd
      by_cases he : mdel i m.L = []
      · exact cancel_slot_none g now s i d k j m w h inv hg hk ha.slot hsl he
      · exact cancel_slot_some g now s i d k j m w h inv hg hk ha.slot hsl he
end Go.Proofs.YtgidjgkafbjkpaaGreatDoor
