/- Wheel: the order of timers, as the closure tells it. -/
import Derived.Test.YtgidjgkafbjkpaaGreatDoorWhl
set_option linter.unusedVariables false
set_option linter.unusedSimpArgs false
namespace Go.Proofs.YtgidjgkafbjkpaaGreatDoor
open Go.RowKit

open Go.Shelf Go.Sort
/-- A world that only drew and laid blocks since W. -/
def Gr (W w' : World) : Prop := ∃ q os, w' = grow (W.drewN q) os
theorem Gr.refl (W : World) : Gr W W := ⟨0, #[], (grow_empty _).symm⟩
theorem Gr.drewN {W w' : World} (h : Gr W w') (n : Nat) : Gr W (w'.drewN n) := by
  obtain ⟨q, os, rfl⟩ := h
  exact ⟨q + n, os, by rw [← World.drewN_drewN]; rfl⟩
theorem Gr.drew {W w' : World} (h : Gr W w') : Gr W w'.drew := h.drewN 1
theorem Gr.alloc {W w' : World} (h : Gr W w') (o : Obj) : Gr W (w'.alloc o) := by
  obtain ⟨q, os, rfl⟩ := h
  exact ⟨q, os ++ #[o], by rw [alloc_eq_grow, grow_grow]⟩
theorem Gr.kp {W w' : World} (h : Gr W w') : Kp (fun _ => False) W w' := by
  obtain ⟨q, os, rfl⟩ := h
  refine ⟨rfl, rfl, rfl, ?_, fun i hi _ => ?_⟩
  · show W.heap.size ≤ (W.heap ++ os).size
    simp
  · show (W.heap ++ os)[i]? = _
    rw [Array.getElem?_append_left hi]
/-- A timer's moment, 0 where it isn't there. -/
def dueI (L : List Ent) (x : Int) : Int :=
  match mget x L with
  | some (.agg cs) => (match (cs[0]? : Option Value) with | some (Value.int _ d) => d | _ => 0)
  | _ => 0
theorem dueI_some {L : List Ent} {x : Int} {d : Nat} {p : Pos} (h : mget x L = some (spotV d p)) : dueI L x = d := by
  unfold dueI
  rw [h]
  rcases p with _ | ⟨k, j⟩ <;> rfl
theorem dueI_look {now : Nat} {s : WS} {X : Int → Prop} (inv : Inv now s.tm.L s.ov.L s.sls s.full X) (x : Int) : ∃ a b : Int, (mget x s.tm.L).getD (.agg #[.int .u64 0, .int .i64 0, .int .i64 0]) = .agg #[.int .u64 (dueI s.tm.L x), .int .i64 a, .int .i64 b] := by
  rcases h : mget x s.tm.L with _ | v
  · exact ⟨0, 0, by simp [dueI, h]⟩
  · obtain ⟨d, p, rfl, _⟩ := inv.spot x v h
    obtain ⟨a, b, hab⟩ := spotV_agg d p
    refine ⟨a, b, ?_⟩
    rw [dueI_some h]
    exact hab
/-- What the closure answers. -/
def cfT (L : List Ent) (x y : Int) : Int := if Lib.compareInt (dueI L x) (dueI L y) = 0 then Lib.compareInt x y else Lib.compareInt (dueI L x) (dueI L y)
theorem cmp_cases (a b : Int) : (a < b ∧ Lib.compareInt a b = -1) ∨ (a = b ∧ Lib.compareInt a b = 0) ∨ (b < a ∧ Lib.compareInt a b = 1) := by
  unfold Lib.compareInt
  by_cases h1 : a < b
  · exact .inl ⟨h1, by simp [h1]⟩
  · by_cases h2 : b < a
    · exact .inr (.inr ⟨h2, by simp [h1, h2]⟩)
    · exact .inr (.inl ⟨by omega, by simp [h1, h2]⟩)
/-- Earlier; at one moment the lesser number. -/
def sooner (L : List Ent) (x y : Int) : Prop := dueI L x < dueI L y ∨ dueI L x = dueI L y ∧ x < y
theorem ltOf_cfT (L : List Ent) (x y : Int) : ltOf (cfT L) x y = true ↔ sooner L x y := by
  unfold ltOf cfT sooner
  rcases cmp_cases (dueI L x) (dueI L y) with ⟨h1, e1⟩ | ⟨h1, e1⟩ | ⟨h1, e1⟩ <;> rw [e1] <;> rcases cmp_cases x y with ⟨h2, e2⟩ | ⟨h2, e2⟩ | ⟨h2, e2⟩ <;> simp [e2] <;> omega
theorem swoT (L : List Ent) : SWO (ltOf (cfT L)) where
  irrefl x := by
    cases h : ltOf (cfT L) x x
    · rfl
    · have := (ltOf_cfT L x x).1 h; unfold sooner at this; omega
  trans x y z h1 h2 := by
    rw [ltOf_cfT] at *
    unfold sooner at *
    omega
  ntrans x y z h1 h2 := by
    rw [← Bool.not_eq_true, ltOf_cfT] at *
    unfold sooner at *
    omega
theorem totT (L : List Ent) (x y : Int) (h1 : ltOf (cfT L) x y = false) (h2 : ltOf (cfT L) y x = false) : x = y := by
  rw [← Bool.not_eq_true, ltOf_cfT] at *
  unfold sooner at *
  omega
theorem or_two' {a b r : Int} {blk : Nat} {w : World} (hr : (if a = 0 then b else a) = r) (h0 : w.cell? ⟨blk, 0, none⟩ = some (.int .i64 a)) (h1 : w.cell? ⟨blk, 1, none⟩ = some (.int .i64 b)) :
    Calls Tryz.prog 71 #[.slice (some ⟨blk, 0, none⟩) 2 2] w fun ev w' => ev = .returned (.int .i64 r) ∧ w' = w := by
  rw [← hr]
  exact or_two a b blk w h0 h1
set_option maxRecDepth 1000000 in
set_option maxHeartbeats 8000000 in
theorem closure (g now X : Nat) (s : WS) (P : Int → Prop) (x y : Int) (W : World) (h : WM W g now s) (inv : Inv now s.tm.L s.ov.L s.sls s.full P) (hX : W.cell? ⟨X, 0, none⟩ = some (.pointer (some ⟨g, 0, none⟩))) :
    Calls Tryz.prog 70 #[.int .i64 x, .int .i64 y, .pointer (some ⟨X, 0, none⟩)] W fun ev w' => ev = .returned (.int .i64 (cfT s.tm.L x y)) ∧ Gr W w' := by
  obtain ⟨a1, b1, e1⟩ := dueI_look inv x
  obtain ⟨a2, b2, e2⟩ := dueI_look inv y
  have H := Lib.hid h
  have CX := Lib.hid hX
  have C1 := Lib.hid ((h.bk.cell 1).trans (WC_tm ..))
  have look : ∀ (z : Int) (w' : World), Gr W w' → (Instr.lookup 106 (.map (some s.tm.b)) (.int .i64 z) false).run Tryz.prog w' = .ok ((mget z s.tm.L).getD (.agg #[.int .u64 0, .int .i64 0, .int .i64 0])) w' := fun z w' hg =>
    ((h.none_kept hg.kp).tm.run_lookup (P := Tryz.prog) (T := 106) (E := 118) (K := 3) Tryz.underlying106 Tryz.underlying3 (z := .agg #[.int .u64 0, .int .i64 0, .int .i64 0]) (by kernel_rfl) z).1
  have L1 := Lib.hid (fun (w' : World) (hg : Gr W w') => show (Instr.lookup 106 (.map (some s.tm.b)) (.int .i64 x) false).run Tryz.prog w' = .ok (.agg #[.int .u64 (dueI s.tm.L x), .int .i64 a1, .int .i64 b1]) w' by rw [← e1]; exact look x w' hg)
  have L2 := Lib.hid (fun (w' : World) (hg : Gr W w') => show (Instr.lookup 106 (.map (some s.tm.b)) (.int .i64 y) false).run Tryz.prog w' = .ok (.agg #[.int .u64 (dueI s.tm.L y), .int .i64 a2, .int .i64 b2]) w' by rw [← e2]; exact look y w' hg)
  have ED := Lib.hid (show cfT s.tm.L x y = _ from rfl)
  unfold cfT at ED ⊢
  generalize dueI s.tm.L x = dx at *
  generalize dueI s.tm.L y = dy at *
  have hfd1 : ∀ w : World, (Instr.field 118 (.agg #[.int .u64 dx, .int .i64 a1, .int .i64 b1]) 0).run Tryz.prog w = .ok (.int .u64 dx) w := fun _ => by kernel_rfl
  have hfd2 : ∀ w : World, (Instr.field 118 (.agg #[.int .u64 dy, .int .i64 a2, .int .i64 b2]) 0).run Tryz.prog w = .ok (.int .u64 dy) w := fun _ => by kernel_rfl
  generalize hrr : (if Lib.compareInt dx dy = 0 then Lib.compareInt x y else Lib.compareInt dx dy) = rr
  have HRR := Lib.hid hrr
  clear look h inv hX e1 e2 ED hrr
  go_enter Tryz.func70, Tryz.ntmps70
  go_wp2_with fail
  refine wp_region_held_drew (S := (fun w' => Gr W w')) (by kernel_rfl) (Gr.refl W).drew (fun hHeld => ?_)
  refine wpAnyH_take (i := 0) (v := ?v0_0) rfl (by kernel_rfl) (by kernel_rfl) (by kernel_rfl) (fun _ _ _ h => h) (Or.inl ⟨by rfl, ?y0_0⟩) (by assumption) ?r0_0
  case y0_0 => (intro w hSw; (try dsimp only at hSw); have d1 := kp_kc0 CX.out hSw.kp; go_simp; first | done | with_reducible rfl)
  try simp only [Act.put, List.getElem_toArray, List.getElem_cons_succ, List.getElem_cons_zero, List.setIfInBounds_toArray, List.set_cons_zero, List.set_cons_succ]
  refine wpAnyH_take (i := 1) (v := ?v1_1) rfl (by kernel_rfl) (by kernel_rfl) (by kernel_rfl) (fun _ _ _ h => h) (Or.inl ⟨by rfl, ?y1_1⟩) (by assumption) ?r1_1
  case y1_1 => (intro w hSw; (try dsimp only at hSw); go_simp; first | done | with_reducible rfl)
  try simp only [Act.put, List.getElem_toArray, List.getElem_cons_succ, List.getElem_cons_zero, List.setIfInBounds_toArray, List.set_cons_zero, List.set_cons_succ]
  refine wpAnyH_take (i := 2) (v := ?v2_2) rfl (by kernel_rfl) (by kernel_rfl) (by kernel_rfl) (fun _ _ _ h => h) (Or.inl ⟨by rfl, ?y2_2⟩) (by assumption) ?r2_2
  case y2_2 => (intro w hSw; (try dsimp only at hSw); go_simp; first | done | with_reducible rfl)
  try simp only [Act.put, List.getElem_toArray, List.getElem_cons_succ, List.getElem_cons_zero, List.setIfInBounds_toArray, List.set_cons_zero, List.set_cons_succ]
  refine wpAnyH_take (i := 3) (v := ?v3_3) rfl (by kernel_rfl) (by kernel_rfl) (by kernel_rfl) (fun _ _ _ h => h) (Or.inl ⟨by rfl, ?y3_3⟩) (by assumption) ?r3_3
  case y3_3 => (intro w hSw; (try dsimp only at hSw); have d1 := kp_kc0 C1.out hSw.kp; go_simp; first | done | with_reducible rfl)
  try simp only [Act.put, List.getElem_toArray, List.getElem_cons_succ, List.getElem_cons_zero, List.setIfInBounds_toArray, List.set_cons_zero, List.set_cons_succ]
  refine wpAnyH_take (i := 4) (v := ?v4_4) rfl (by kernel_rfl) (by kernel_rfl) (by kernel_rfl) (fun _ _ _ h => h) (Or.inl ⟨by rfl, ?y4_4⟩) (by assumption) ?r4_4
  case y4_4 => (intro w hSw; (try dsimp only at hSw); go_simp; first | done | with_reducible rfl)
  try simp only [Act.put, List.getElem_toArray, List.getElem_cons_succ, List.getElem_cons_zero, List.setIfInBounds_toArray, List.set_cons_zero, List.set_cons_succ]
  refine wpAnyH_take (i := 5) (v := ?v5_5) rfl (by kernel_rfl) (by kernel_rfl) (by kernel_rfl) (fun _ _ _ h => h) (Or.inl ⟨by rfl, ?y5_5⟩) (by assumption) ?r5_5
  case y5_5 => (intro w hSw; (try dsimp only at hSw); have d1 := L1.out w hSw; go_simp; first | done | with_reducible rfl)
  try simp only [Act.put, List.getElem_toArray, List.getElem_cons_succ, List.getElem_cons_zero, List.setIfInBounds_toArray, List.set_cons_zero, List.set_cons_succ]
  refine wpAnyH_take (i := 6) (v := ?v6_6) rfl (by kernel_rfl) (by kernel_rfl) (by kernel_rfl) (fun _ _ _ h => h) (Or.inl ⟨by rfl, ?y6_6⟩) (by assumption) ?r6_6
  case y6_6 => (intro w hSw; (try dsimp only at hSw); go_simp; first | done | with_reducible rfl)
  try simp only [Act.put, List.getElem_toArray, List.getElem_cons_succ, List.getElem_cons_zero, List.setIfInBounds_toArray, List.set_cons_zero, List.set_cons_succ]
  refine wpAnyH_take (i := 7) (v := ?v7_7) rfl (by kernel_rfl) (by kernel_rfl) (by kernel_rfl) (fun _ _ _ h => h) (Or.inl ⟨by rfl, ?y7_7⟩) (by assumption) ?r7_7
  case y7_7 => (intro w hSw; (try dsimp only at hSw); have d1 := kp_kc0 CX.out hSw.kp; go_simp; first | done | with_reducible rfl)
  try simp only [Act.put, List.getElem_toArray, List.getElem_cons_succ, List.getElem_cons_zero, List.setIfInBounds_toArray, List.set_cons_zero, List.set_cons_succ]
  refine wpAnyH_take (i := 8) (v := ?v8_8) rfl (by kernel_rfl) (by kernel_rfl) (by kernel_rfl) (fun _ _ _ h => h) (Or.inl ⟨by rfl, ?y8_8⟩) (by assumption) ?r8_8
  case y8_8 => (intro w hSw; (try dsimp only at hSw); go_simp; first | done | with_reducible rfl)
  try simp only [Act.put, List.getElem_toArray, List.getElem_cons_succ, List.getElem_cons_zero, List.setIfInBounds_toArray, List.set_cons_zero, List.set_cons_succ]
  refine wpAnyH_take (i := 9) (v := ?v9_9) rfl (by kernel_rfl) (by kernel_rfl) (by kernel_rfl) (fun _ _ _ h => h) (Or.inl ⟨by rfl, ?y9_9⟩) (by assumption) ?r9_9
  case y9_9 => (intro w hSw; (try dsimp only at hSw); go_simp; first | done | with_reducible rfl)
  try simp only [Act.put, List.getElem_toArray, List.getElem_cons_succ, List.getElem_cons_zero, List.setIfInBounds_toArray, List.set_cons_zero, List.set_cons_succ]
  refine wpAnyH_take (i := 10) (v := ?v10_10) rfl (by kernel_rfl) (by kernel_rfl) (by kernel_rfl) (fun _ _ _ h => h) (Or.inl ⟨by rfl, ?y10_10⟩) (by assumption) ?r10_10
  case y10_10 => (intro w hSw; (try dsimp only at hSw); have d1 := kp_kc0 C1.out hSw.kp; go_simp; first | done | with_reducible rfl)
  try simp only [Act.put, List.getElem_toArray, List.getElem_cons_succ, List.getElem_cons_zero, List.setIfInBounds_toArray, List.set_cons_zero, List.set_cons_succ]
  refine wpAnyH_take (i := 11) (v := ?v11_11) rfl (by kernel_rfl) (by kernel_rfl) (by kernel_rfl) (fun _ _ _ h => h) (Or.inl ⟨by rfl, ?y11_11⟩) (by assumption) ?r11_11
  case y11_11 => (intro w hSw; (try dsimp only at hSw); go_simp; first | done | with_reducible rfl)
  try simp only [Act.put, List.getElem_toArray, List.getElem_cons_succ, List.getElem_cons_zero, List.setIfInBounds_toArray, List.set_cons_zero, List.set_cons_succ]
  refine wpAnyH_take (i := 12) (v := ?v12_12) rfl (by kernel_rfl) (by kernel_rfl) (by kernel_rfl) (fun _ _ _ h => h) (Or.inl ⟨by rfl, ?y12_12⟩) (by assumption) ?r12_12
  case y12_12 => (intro w hSw; (try dsimp only at hSw); have d1 := L2.out w hSw; go_simp; first | done | with_reducible rfl)
  try simp only [Act.put, List.getElem_toArray, List.getElem_cons_succ, List.getElem_cons_zero, List.setIfInBounds_toArray, List.set_cons_zero, List.set_cons_succ]
  refine wpAnyH_take (i := 13) (v := ?v13_13) rfl (by kernel_rfl) (by kernel_rfl) (by kernel_rfl) (fun _ _ _ h => h) (Or.inl ⟨by rfl, ?y13_13⟩) (by assumption) ?r13_13
  case y13_13 => (intro w hSw; (try dsimp only at hSw); go_simp; first | done | with_reducible rfl)
  try simp only [Act.put, List.getElem_toArray, List.getElem_cons_succ, List.getElem_cons_zero, List.setIfInBounds_toArray, List.set_cons_zero, List.set_cons_succ]
  refine wpAnyH_take (i := 15) (v := ?v15_14) rfl (by kernel_rfl) (by kernel_rfl) (by kernel_rfl) (fun _ _ _ h => h) (Or.inl ⟨by rfl, ?y15_14⟩) (by assumption) ?r15_14
  case y15_14 => (intro w hSw; (try dsimp only at hSw); go_simp; first | done | with_reducible rfl)
  try simp only [Act.put, List.getElem_toArray, List.getElem_cons_succ, List.getElem_cons_zero, List.setIfInBounds_toArray, List.set_cons_zero, List.set_cons_succ]
  refine wpAnyH_take (i := 16) (v := ?v16_15) rfl (by kernel_rfl) (by kernel_rfl) (by kernel_rfl) (fun _ _ _ h => h) (Or.inl ⟨by rfl, ?y16_15⟩) (by assumption) ?r16_15
  case y16_15 => (intro w hSw; (try dsimp only at hSw); go_simp; first | done | with_reducible rfl)
  try simp only [Act.put, List.getElem_toArray, List.getElem_cons_succ, List.getElem_cons_zero, List.setIfInBounds_toArray, List.set_cons_zero, List.set_cons_succ]
  refine wpAnyH_ready (rs := [14]) (by kernel_rfl) (by simp) ?_
  refine AllReadyH.cons rfl (fun K hK => ?_) AllReadyH.nil
  go_simp
  with_reducible refine (cmp_u dx dy _).mono ?_
  rintro ev w1 ⟨rfl, rfl⟩
  try dsimp only
  refine hK.out _ _ (by first | exact (Gr.refl W).drew | exact (Gr.refl W).drewN _) (fun hHeld => ?_)
  clear hK K
  try simp only [Act.put, List.getElem_toArray, List.getElem_cons_succ, List.getElem_cons_zero, List.setIfInBounds_toArray, List.set_cons_zero, List.set_cons_succ]
  refine wpAnyH_ready (rs := [17]) (by kernel_rfl) (by simp) ?_
  refine AllReadyH.cons rfl (fun K hK => ?_) AllReadyH.nil
  go_simp
  with_reducible refine (cmp_i x y _).mono ?_
  rintro ev w1 ⟨rfl, rfl⟩
  try dsimp only
  refine hK.out _ _ (by first | exact (Gr.refl W).drew | exact (Gr.refl W).drewN _) (fun hHeld => ?_)
  clear hK K
  try simp only [Act.put, List.getElem_toArray, List.getElem_cons_succ, List.getElem_cons_zero, List.setIfInBounds_toArray, List.set_cons_zero, List.set_cons_succ]
  refine wpAnyH_ready (rs := [18]) (by kernel_rfl) (by simp) ?_
  refine AllReadyH.cons rfl (fun K hK => ?_) AllReadyH.nil
  go_simp
  have hbk := Bk.new W 3 #[.int .i64 (Lib.compareInt dx dy), .int .i64 (Lib.compareInt x y)]
  have GA := Lib.hid (show Gr W (W.alloc (.cells #[.int .i64 (Lib.compareInt dx dy), .int .i64 (Lib.compareInt x y)] 3)).drew from ((Gr.refl W).alloc _).drew)
  have o0 := Lib.hid (show (W.alloc (.cells #[.int .i64 (Lib.compareInt dx dy), .int .i64 (Lib.compareInt x y)] 3)).drew.cell? ⟨W.heap.size, 0, none⟩ = some (.int .i64 (Lib.compareInt dx dy)) from hbk.cell 0)
  have o1 := Lib.hid (show (W.alloc (.cells #[.int .i64 (Lib.compareInt dx dy), .int .i64 (Lib.compareInt x y)] 3)).drew.cell? ⟨W.heap.size, 1, none⟩ = some (.int .i64 (Lib.compareInt x y)) from hbk.cell 1)
  clear hbk
  generalize (W.alloc (.cells #[.int .i64 (Lib.compareInt dx dy), .int .i64 (Lib.compareInt x y)] 3)).drew = W1 at *
  refine hK.out _ _ (GA.out) (fun hHeld => ?_)
  clear hK K
  try simp only [Act.put, List.getElem_toArray, List.getElem_cons_succ, List.getElem_cons_zero, List.setIfInBounds_toArray, List.set_cons_zero, List.set_cons_succ]
  refine wpAnyH_ready (rs := [19]) (by kernel_rfl) (by simp) ?_
  refine AllReadyH.cons rfl (fun K hK => ?_) AllReadyH.nil
  go_simp
  with_reducible refine (or_two' HRR.out o0.out o1.out).mono ?_
  rintro ev w1 ⟨rfl, rfl⟩
  try dsimp only
  refine hK.out _ _ (GA.out) (fun hHeld => ?_)
  clear hK K
  try simp only [Act.put, List.getElem_toArray, List.getElem_cons_succ, List.getElem_cons_zero, List.setIfInBounds_toArray, List.set_cons_zero, List.set_cons_succ]
  refine wpAnyH_take (i := 20) (v := ?v20_16) rfl (by kernel_rfl) (by kernel_rfl) (by kernel_rfl) (fun _ _ _ h => h) (Or.inl ⟨by rfl, ?y20_16⟩) (by assumption) ?r20_16
  case y20_16 => (intro w hSw; (try dsimp only at hSw); go_simp; first | done | with_reducible rfl)
  try simp only [Act.put, List.getElem_toArray, List.getElem_cons_succ, List.getElem_cons_zero, List.setIfInBounds_toArray, List.set_cons_zero, List.set_cons_succ]
  refine wpAnyH_done (by kernel_rfl) ?_ _
  go_wp2_with fail
  exact bodyPost_ret (results_tmp rfl _ _ _) rfl ⟨rfl, GA.out⟩
end Go.Proofs.YtgidjgkafbjkpaaGreatDoor
