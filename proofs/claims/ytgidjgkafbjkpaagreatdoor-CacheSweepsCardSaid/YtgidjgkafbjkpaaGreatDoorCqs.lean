/- Cache: the reference's Learn, Find, Wait and Sweep on a cache that knows nothing. -/
import Derived.Test.YtgidjgkafbjkpaaGreatDoorCqr
import Derived.Deep.RegionLawGrows
set_option linter.unusedVariables false
set_option linter.unusedSimpArgs false
namespace Go.Proofs.YtgidjgkafbjkpaaGreatDoor
open Go.RowKit

theorem info_sz {P : Program} {t : TypeId} {n b : Nat} (h : (P.info? t).map (fun i => (i.zero.map (fun z => z.cells.size), i.size, i.bytes)) = some (some n, n, b)) :
    ∃ i z, P.info? t = some i ∧ i.zero = some z ∧ z.cells.size = n ∧ i.size = n ∧ i.bytes = b := by
  cases hi : P.info? t with
  | none => rw [hi] at h; cases h
  | some i =>
    rw [hi] at h
    simp only [Option.map_some, Option.some.injEq, Prod.mk.injEq] at h
    obtain ⟨h1, h2, h3⟩ := h
    cases hz : i.zero with
    | none => rw [hz] at h1; cases h1
    | some z =>
      rw [hz] at h1
      injection h1 with h1
      exact ⟨i, z, rfl, hz, h1, h2, h3⟩
theorem own_one {w : World} {base n : Nat} {e : TypeId} {size : Nat} {v : Value} {xs : List Value} (h : w.ownsRow base e size v n xs) (hn : n ≠ 0) : ∃ g cap, v = .slice (some ⟨g, 0, none⟩) n cap := by
  rcases h.2 with ⟨_, h0⟩ | ⟨g, cap, cur, e, _⟩
  · exact absurd h0 hn
  · exact ⟨g, cap, e⟩
theorem new_cells {w : World} {t : TypeId} {cs : Array Value} (j : Nat) (u : Value) (h : cs.toList[j]? = some u) : (w.alloc (.cells cs t)).cell? ((⟨w.heap.size, 0, none⟩ : Addr).add j) = some u := by
  have e : (⟨w.heap.size, 0, none⟩ : Addr).add j = ⟨w.heap.size, j, none⟩ := by
    unfold Addr.add
    split <;> simp_all
  rw [e, (Bk.new w t cs).cell j, ← Array.getElem?_toList, h]
set_option maxRecDepth 1000000 in
set_option maxHeartbeats 16000000 in
/-- Find. -/
theorem rfind_ (g room wait life pat ip now : Nat) (w : World) (h : RC0 w g room wait life pat) :
    Calls Tryz.prog 36 #[.pointer (some ⟨g, 0, none⟩), .int .u32 (ip : Int), .int .u64 (now : Int)] w fun ev w' => ev = .returned (.tuple #[.agg #[.int .u8 0, .int .u8 0, .int .u8 0, .int .u8 0, .int .u8 0, .int .u8 0], .bool false]) ∧ Kp (fun _ => False) w w' := by
  obtain ⟨c0, c1, c2, c3, c4, c5⟩ := h.cells
  have RF := Lib.hid (fun (W : World) (k : Kp (fun _ => False) w W) => rfind0 g ip W ((Bk.kept h k (fun f => f)).cell 4))
  clear h
  go_enter Tryz.func36, Tryz.ntmps36
  go_wp2_with fail
  refine (RF.out _ (by first | exact Kp.refl _ _ | exact (Kp.refl _ _).alloc _)).mono ?_
  rintro ev w1 ⟨rfl, hw1⟩
  obtain rfl := hw1.symm
  go_wp2_with fail
  go_quiet (fail)
  rename Nat => n1
  go_wp2_with fail
  have k0 := ((Kp.refl (fun _ => False) w).alloc (.cells #[.int .u8 0, .int .u8 0, .int .u8 0, .int .u8 0, .int .u8 0, .int .u8 0] 31)).drewN n1
  have b0 : Bk ((w.alloc (.cells #[.int .u8 0, .int .u8 0, .int .u8 0, .int .u8 0, .int .u8 0, .int .u8 0] 31)).drewN n1) w.heap.size 31 #[.int .u8 0, .int .u8 0, .int .u8 0, .int .u8 0, .int .u8 0, .int .u8 0] := (Bk.new w 31 #[.int .u8 0, .int .u8 0, .int .u8 0, .int .u8 0, .int .u8 0, .int .u8 0])
  have k1 := k0.setCell (p := ⟨w.heap.size, 0, none⟩) (.inr (Nat.le_refl _)) (.int .u8 0)
  have b1 := b0.put 0 (.int .u8 0)
  have k2 := k1.setCell (p := ⟨w.heap.size, 1, none⟩) (.inr (Nat.le_refl _)) (.int .u8 0)
  have b2 := b1.put 1 (.int .u8 0)
  have k3 := k2.setCell (p := ⟨w.heap.size, 2, none⟩) (.inr (Nat.le_refl _)) (.int .u8 0)
  have b3 := b2.put 2 (.int .u8 0)
  have k4 := k3.setCell (p := ⟨w.heap.size, 3, none⟩) (.inr (Nat.le_refl _)) (.int .u8 0)
  have b4 := b3.put 3 (.int .u8 0)
  have k5 := k4.setCell (p := ⟨w.heap.size, 4, none⟩) (.inr (Nat.le_refl _)) (.int .u8 0)
  have b5 := b4.put 4 (.int .u8 0)
  have k6 := k5.setCell (p := ⟨w.heap.size, 5, none⟩) (.inr (Nat.le_refl _)) (.int .u8 0)
  have b6 := b5.put 5 (.int .u8 0)
  exact bodyPost_ret (results_row_tmp rfl _ _ w.heap.size 31 #[.int .u8 0, .int .u8 0, .int .u8 0, .int .u8 0, .int .u8 0, .int .u8 0] _ rfl b6 Tryz.underlying31 rfl (by kernel_rfl)) rfl ⟨rfl, k6⟩
theorem new_cells2 {w : World} {t : TypeId} {cs : Array Value} {b : Nat} (hb : b = w.heap.size) (j : Nat) (u : Value) (h : cs.toList[j]? = some u) : (w.alloc (.cells cs t)).cell? ((⟨b, 0, none⟩ : Addr).add j) = some u := by
  subst hb
  exact new_cells j u h
set_option maxRecDepth 1000000 in
set_option maxHeartbeats 16000000 in
/-- Learn. -/
theorem rlearn_ (g room wait life pat ip now m1 m2 m3 m4 m5 m6 : Nat) (w : World) (h : RC0 w g room wait life pat) (hr : 1 ≤ room) :
    Calls Tryz.prog 35 #[.pointer (some ⟨g, 0, none⟩), .int .u32 (ip : Int), .agg #[.int .u8 (m1 : Int), .int .u8 (m2 : Int), .int .u8 (m3 : Int), .int .u8 (m4 : Int), .int .u8 (m5 : Int), .int .u8 (m6 : Int)], .int .u64 (now : Int)] w fun ev w' => ev = .returned (.slice none 0 0) ∧ Kp (fun b => b = g) w w' := by
  obtain ⟨i0, z, hi, hz, hzs, hs2, hb⟩ := info_sz (show (Tryz.prog.info? 130).map (fun i => (i.zero.map (fun z => z.cells.size), i.size, i.bytes)) = some (some 8, 8, 24) by kernel_rfl)
  obtain ⟨c0, c1, c2, c3, c4, c5⟩ := h.cells
  have HB := Lib.hid h
  have HB0 := Lib.hid h
  have RF := Lib.hid (fun (W : World) (k : Kp (fun _ => False) w W) => rfind0 g ip W ((Bk.kept h k (fun f => f)).cell 4))
  have r1 : ((0 : Int) == (room : Int)) = false := by simp; omega
  have r2 : ¬ (0 : Int) = (room : Int) := by omega
  have onec : ∀ u ∈ [Value.int .u32 (ip : Int), .int .u8 (m1 : Int), .int .u8 (m2 : Int), .int .u8 (m3 : Int), .int .u8 (m4 : Int), .int .u8 (m5 : Int), .int .u8 (m6 : Int), .int .u64 ((min now MT : Nat) : Int)], u.oneCell' = true := by simp [Value.oneCell']
  clear h
  go_enter Tryz.func35, Tryz.ntmps35
  go_wp2_with fail
  have KA := Lib.hid ((Kp.refl (fun _ => False) w).alloc (.cells #[.int .u8 (m1 : Int), .int .u8 (m2 : Int), .int .u8 (m3 : Int), .int .u8 (m4 : Int), .int .u8 (m5 : Int), .int .u8 (m6 : Int)] 31))
  have HB := Lib.hid (Bk.kept HB.out KA.out (fun f => f))
  have BX := Lib.hid (Bk.new w 31 #[.int .u8 (m1 : Int), .int .u8 (m2 : Int), .int .u8 (m3 : Int), .int .u8 (m4 : Int), .int .u8 (m5 : Int), .int .u8 (m6 : Int)])
  have x0 : (w.alloc (.cells #[.int .u8 (m1 : Int), .int .u8 (m2 : Int), .int .u8 (m3 : Int), .int .u8 (m4 : Int), .int .u8 (m5 : Int), .int .u8 (m6 : Int)] 31)).cell? ⟨w.heap.size, 0, none⟩ = some (.int .u8 (m1 : Int)) := BX.out.cell 0
  have x1 : (w.alloc (.cells #[.int .u8 (m1 : Int), .int .u8 (m2 : Int), .int .u8 (m3 : Int), .int .u8 (m4 : Int), .int .u8 (m5 : Int), .int .u8 (m6 : Int)] 31)).cell? ⟨w.heap.size, 1, none⟩ = some (.int .u8 (m2 : Int)) := BX.out.cell 1
  have x2 : (w.alloc (.cells #[.int .u8 (m1 : Int), .int .u8 (m2 : Int), .int .u8 (m3 : Int), .int .u8 (m4 : Int), .int .u8 (m5 : Int), .int .u8 (m6 : Int)] 31)).cell? ⟨w.heap.size, 2, none⟩ = some (.int .u8 (m3 : Int)) := BX.out.cell 2
  have x3 : (w.alloc (.cells #[.int .u8 (m1 : Int), .int .u8 (m2 : Int), .int .u8 (m3 : Int), .int .u8 (m4 : Int), .int .u8 (m5 : Int), .int .u8 (m6 : Int)] 31)).cell? ⟨w.heap.size, 3, none⟩ = some (.int .u8 (m4 : Int)) := BX.out.cell 3
  have x4 : (w.alloc (.cells #[.int .u8 (m1 : Int), .int .u8 (m2 : Int), .int .u8 (m3 : Int), .int .u8 (m4 : Int), .int .u8 (m5 : Int), .int .u8 (m6 : Int)] 31)).cell? ⟨w.heap.size, 4, none⟩ = some (.int .u8 (m5 : Int)) := BX.out.cell 4
  have x5 : (w.alloc (.cells #[.int .u8 (m1 : Int), .int .u8 (m2 : Int), .int .u8 (m3 : Int), .int .u8 (m4 : Int), .int .u8 (m5 : Int), .int .u8 (m6 : Int)] 31)).cell? ⟨w.heap.size, 5, none⟩ = some (.int .u8 (m6 : Int)) := BX.out.cell 5
  obtain ⟨d0, d1, d2, d3, d4, d5⟩ := RC0.cells HB.out
  have RF := Lib.hid (RF.out _ KA.out)
  clear c0 c1 c2 c3 c4 c5 BX
  generalize w.heap.size = bx at *
  generalize (w.alloc (.cells #[.int .u8 (m1 : Int), .int .u8 (m2 : Int), .int .u8 (m3 : Int), .int .u8 (m4 : Int), .int .u8 (m5 : Int), .int .u8 (m6 : Int)] 31)) = wa at *
  refine RF.out.mono ?_
  rintro ev w1 ⟨rfl, hw1⟩
  obtain rfl := hw1.symm
  go_wp2_with fail
  go_quiet (fail)
  rename Nat => n1
  have DA : ((wa.drewN (n1 + 1)).alloc (.cells #[.int .u32 (ip : Int), .int .u8 (m1 : Int), .int .u8 (m2 : Int), .int .u8 (m3 : Int), .int .u8 (m4 : Int), .int .u8 (m5 : Int), .int .u8 (m6 : Int), .int .u64 ((min now MT : Nat) : Int)] 130)).cell? ⟨g, 4, none⟩ = some (.slice none 0 0) := (Bk.kept HB.out (((Kp.refl (fun _ => False) wa).drewN (n1 + 1)).alloc (.cells #[.int .u32 (ip : Int), .int .u8 (m1 : Int), .int .u8 (m2 : Int), .int .u8 (m3 : Int), .int .u8 (m4 : Int), .int .u8 (m5 : Int), .int .u8 (m6 : Int), .int .u64 ((min now MT : Nat) : Int)] 130)) (fun f => f)).cell 4
  go_wp2_with fail
  go_region_law
    (first
      | (rw [if_pos (by rfl)]
         go_simp
         with_reducible refine (rtime now _).mono ?_
         rintro ev w5 ⟨rfl, rfl⟩
         try dsimp only)
      | (refine step_append_grows (by rfl) (.tmp 53) (.tmp 59) 90 (by rfl) 130 i0 z 8 24 Tryz.underlying90 hi hz hs2 hb hzs (by omega) none 0 0 [] (by rfl) (fun _ => ⟨rfl, rfl⟩) rfl (fun b hb => by cases hb) ⟨_, 0, none⟩ 1 1 [.int .u32 (ip : Int), .int .u8 (m1 : Int), .int .u8 (m2 : Int), .int .u8 (m3 : Int), .int .u8 (m4 : Int), .int .u8 (m5 : Int), .int .u8 (m6 : Int), .int .u64 ((min now MT : Nat) : Int)] (by rfl) rfl (new_cells) (onec) (by omega) (by unfold maxLen; omega) (by omega) ?_
         intro v6 w6 own6 grow6
         obtain ⟨g6, c6, e6⟩ := own_one own6 (by omega)
         subst e6
         have k6 : Kp (fun _ => False) w w6 := Kp.grown (KA.out.trans' (by first | exact (((Kp.refl _ _).drewN _).alloc _) | exact ((((Kp.refl _ _).drewN _).drew).alloc _))) grow6 (fun k hk => by cases hk)
         have B6 := Bk.kept HB0.out k6 (fun f => f)
         have d6 : w6.cell? ⟨g, 4, none⟩ = some (.slice none 0 0) := B6.cell 4
         have f6 : w6.frozen? ⟨g, 4, none⟩ = false := B6.frozen 4
         have P6 := Lib.hid (fun u : Value => And.intro ((B6.put 4 u).cell 5) ((k6.mono (T := fun b => b = g) (fun _ f => f.elim)).setCell (p := ⟨g, 4, none⟩) (.inl rfl) u))
         clear own6 grow6 k6 B6))
  all_goals
    go_wp2_with fail
    refine (rrow0 g ip _ ((P6.out _).1)).mono ?_
    rintro ev w7 ⟨rfl, rfl⟩
    go_wp2_with fail
    exact bodyPost_ret (results_tmp rfl _ _ _) rfl ⟨rfl, (P6.out _).2⟩
set_option maxRecDepth 1000000 in
set_option maxHeartbeats 16000000 in
/-- Wait. -/
theorem rwait_ (g room wait life pat ip now : Nat) (t : Int) (w : World) (h : RC0 w g room wait life pat) (hr : 1 ≤ room) :
    Calls Tryz.prog 37 #[.pointer (some ⟨g, 0, none⟩), .int .u32 (ip : Int), .int .i64 t, .int .u64 (now : Int)] w fun ev w' => ev = .returned (.tuple #[.bool true, .int .i64 0]) ∧ Kp (fun b => b = g) w w' := by
  obtain ⟨i0, z, hi, hz, hzs, hs2, hb⟩ := info_sz (show (Tryz.prog.info? 133).map (fun i => (i.zero.map (fun z => z.cells.size), i.size, i.bytes)) = some (some 3, 3, 40) by kernel_rfl)
  obtain ⟨c0, c1, c2, c3, c4, c5⟩ := h.cells
  have HB := Lib.hid h
  have HB0 := Lib.hid h
  have RF := Lib.hid (fun (W : World) (k : Kp (fun _ => False) w W) => rrow0 g ip W ((Bk.kept h k (fun f => f)).cell 5))
  have r1 : ((0 : Int) == (room : Int)) = false := by simp; omega
  have r2 : ¬ (0 : Int) = (room : Int) := by omega
  clear h
  go_enter Tryz.func37, Tryz.ntmps37
  go_wp2_with fail
  refine (RF.out _ (by first | exact Kp.refl _ _ | exact (Kp.refl _ _).alloc _)).mono ?_
  rintro ev w1 ⟨rfl, hw1⟩
  obtain rfl := hw1.symm
  go_wp2_with fail
  go_quiet (fail)
  rename Nat => n1
  have da : ((w.drewN (n1 + 1)).alloc (.cells #[.int .i64 t] 3)).cell? ⟨g, 5, none⟩ = some (.slice none 0 0) := (Bk.kept HB.out (((Kp.refl (fun _ => False) w).drewN (n1 + 1)).alloc _) (fun f => f)).cell 5
  have db : (((w.drewN (n1 + 1)).alloc (.cells #[.int .i64 t] 3)).alloc (.cells #[.int .u32 (ip : Int), .int .u64 ((min now MT : Nat) : Int), .slice (some ⟨w.heap.size, 0, none⟩) 1 1] 133)).cell? ⟨g, 5, none⟩ = some (.slice none 0 0) := (Bk.kept HB.out ((((Kp.refl (fun _ => False) w).drewN (n1 + 1)).alloc _).alloc _) (fun f => f)).cell 5
  go_wp2_with fail
  go_region_law
    (first
      | (rw [if_pos (by rfl)]
         go_simp
         with_reducible refine (rtime now _).mono ?_
         rintro ev w5 ⟨rfl, rfl⟩
         try dsimp only)
      | (refine step_append_grows (by rfl) (.tmp 54) (.tmp 61) 91 (by rfl) 133 i0 z 3 40 Tryz.underlying91 hi hz hs2 hb hzs (by omega) none 0 0 [] (by rfl) (fun _ => ⟨rfl, rfl⟩) rfl (fun b hb => by cases hb) ⟨w.heap.size + 1, 0, none⟩ 1 1 [.int .u32 (ip : Int), .int .u64 ((min now MT : Nat) : Int), .slice (some ⟨w.heap.size, 0, none⟩) 1 1] (by rfl) rfl (new_cells2 (by simp)) (by simp [Value.oneCell']) (by omega) (by unfold maxLen; omega) (by omega) ?_
         intro v6 w6 own6 grow6
         obtain ⟨g6, c6, e6⟩ := own_one own6 (by omega)
         subst e6
         have k6 : Kp (fun _ => False) w w6 := Kp.grown (by first | exact ((((Kp.refl _ _).drewN _).alloc _).alloc _) | exact (((((Kp.refl _ _).drewN _).drew).alloc _).alloc _)) grow6 (fun k hk => by cases hk)
         have B6 := Bk.kept HB0.out k6 (fun f => f)
         have d6 : w6.cell? ⟨g, 5, none⟩ = some (.slice none 0 0) := B6.cell 5
         have f6 : w6.frozen? ⟨g, 5, none⟩ = false := B6.frozen 5
         have P6 := Lib.hid (fun u : Value => And.intro ((B6.put 5 u).cell 5) ((k6.mono (T := fun b => b = g) (fun _ f => f.elim)).setCell (p := ⟨g, 5, none⟩) (.inl rfl) u))
         clear own6 grow6 k6 B6))
  all_goals
    go_wp2_with fail
    exact bodyPost_ret (results_tmp2 rfl _ _ _) rfl ⟨rfl, (P6.out _).2⟩
set_option maxRecDepth 1000000 in
set_option maxHeartbeats 16000000 in
/-- Sweep. -/
theorem rsweep_ (g room wait life pat now : Nat) (w : World) (h : RC0 w g room wait life pat) :
    Calls Tryz.prog 38 #[.pointer (some ⟨g, 0, none⟩), .int .u64 (now : Int)] w fun ev w' => ∃ b, ev = .returned (.slice (some ⟨b, 0, none⟩) 0 0) ∧ Kp (fun b => b = g) w w' := by
  obtain ⟨c0, c1, c2, c3, c4, c5⟩ := h.cells
  have HB := Lib.hid h
  have HB0 := Lib.hid h
  clear h
  go_enter Tryz.func38, Tryz.ntmps38
  go_wp2_with fail
  go_loopw [5, 6] (fun v5 v wr => v5 = .slice (some ⟨w.heap.size, 0, none⟩) 0 0 ∧ v = .int .i64 0 ∧ wr = w.alloc (.cells #[] 130)) (fun _ _ _ => 0)
  case atStart => exact ⟨rfl, rfl, rfl⟩
  case round =>
    obtain ⟨rfl, rfl, rfl⟩ := hrel
    have k1 : Kp (fun _ => False) w (w.alloc (.cells #[] 130)) := (Kp.refl _ _).alloc _
    have B1 := Bk.kept HB.out k1 (fun f => f)
    have d0 : (w.alloc (.cells #[] 130)).cell? ⟨g, 4, none⟩ = some (.slice none 0 0) := B1.cell 4
    have d1 : (w.alloc (.cells #[] 130)).frozen? ⟨g, 4, none⟩ = false := B1.frozen 4
    have d2 : ((w.alloc (.cells #[] 130)).setCell ⟨g, 4, none⟩ (.slice (some ⟨w.heap.size, 0, none⟩) 0 0)).cell? ⟨g, 5, none⟩ = some (.slice none 0 0) := (B1.put 4 _).cell 5
    have KS := Lib.hid (((k1.mono (T := fun b => b = g) (fun _ f => f.elim)).setCell (p := ⟨g, 4, none⟩) (.inl rfl) (.slice (some ⟨w.heap.size, 0, none⟩) 0 0)).alloc (.cells #[] 3))
    have D5 := Lib.hid (((B1.put 4 (.slice (some ⟨w.heap.size, 0, none⟩) 0 0)).alloc (.cells #[] 3)).cell 5)
    clear k1 B1
    go_wp2_with fail
    obtain ⟨W2, hW2⟩ : ∃ W2, W2 = ((w.alloc (.cells #[] 130)).setCell ⟨g, 4, none⟩ (.slice (some ⟨w.heap.size, 0, none⟩) 0 0)).alloc (.cells #[] 3) := ⟨_, rfl⟩
    rw [← hW2] at KS D5 ⊢
    have HW2 := Lib.hid hW2
    clear hW2
    go_loopw [7] (fun v7 wr => v7 = .slice (some ⟨w.heap.size + 1, 0, none⟩) 0 0 ∧ wr = W2) (fun _ _ => 0)
    case atStart => exact ⟨by simp, by first | rfl | exact HW2.out.symm⟩
    case round =>
      obtain ⟨rfl, hq⟩ := hrel
      obtain rfl := hq.symm
      have q5 : W2.cell? ⟨g, 5, none⟩ = some (.slice none 0 0) := D5.out
      go_wp2_with fail
      go_loopw [8, 9] (fun v8 v9 wy => v8 = .int .i64 (-1) ∧ v9 = .int .i64 0 ∧ wy = W2) (fun _ _ _ => 0)
      case atStart => exact ⟨rfl, rfl, by first | rfl | exact HW2.out.symm⟩
      case round =>
        obtain ⟨rfl, rfl, hq2⟩ := hrel
        obtain rfl := hq2.symm
        go_wp2_with fail
        exact bodyPost_ret (results_tmp rfl _ _ _) rfl ⟨⟨_, rfl⟩, KS.out⟩
end Go.Proofs.YtgidjgkafbjkpaaGreatDoor
