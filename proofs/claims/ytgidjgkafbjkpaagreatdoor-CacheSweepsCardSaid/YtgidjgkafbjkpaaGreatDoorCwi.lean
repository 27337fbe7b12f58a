/- Cache: Wait. -/
import Derived.Test.YtgidjgkafbjkpaaGreatDoorCwg
set_option linter.unusedVariables false
set_option linter.unusedSimpArgs false
namespace Go.Proofs.YtgidjgkafbjkpaaGreatDoor
open Go.RowKit

set_option maxRecDepth 1000000 in
set_option maxHeartbeats 16000000 in
theorem wait_j (g i now : Nat) (t : Int) (s : CS) (w : World) (h : CM w g s) (hi : i < 4294967296) (hc : s.count < 1000000) (x : Rw) (hx : iget i s.rows = some x) (hlt : x.v.length < s.wait) (hw : s.wait ≤ 1000) :
    Calls Tryz.prog 10 #[.pointer (some ⟨g, 0, none⟩), .int .u32 (i : Int), .int .i64 t, .int .u64 (now : Int)] w fun ev w' => ev = .returned (.tuple #[.bool false, .int .i64 0]) ∧ ∃ A c c1, CM w' g (s.join i (x.v ++ [t]) (rowV A (x.v ++ [t]).length c x.ord) c1) ∧ (∀ b o, A = some ⟨b, o, none⟩ → w.heap.size ≤ b) ∧ Kp (CK g s w) w w' := by
  have z5 : w.cell? ⟨g, 5, none⟩ = some (.map (some s.rb)) := (h.bk.cell 5).trans rfl
  obtain ⟨A, c, o, hlk, hA, hs, hN, hxx⟩ := h.look_row i
  have htk : tokof s.rows i = x.v := by unfold tokof; rw [hx]; rfl
  rw [htk] at hlk hA
  rw [hx] at hs
  have LK : (Instr.lookup 66 (.map (some s.rb)) (.int .u32 (i : Int)) true).run Tryz.prog w = .ok (.tuple #[.agg #[.slice A (x.v).length c, .int .i64 (o : Int)], .bool true]) w := by
    have := (h.rm.run_lookup (P := Tryz.prog) (T := 66) (E := 77) (K := 30) Tryz.underlying66 Tryz.underlying30 (z := .agg #[.slice none 0 0, .int .i64 0]) (by kernel_rfl) (i : Int)).2
    rw [hlk, hs] at this
    exact this
  have hk2 : Kp (fun _ => False) w (w.alloc (.cells #[.slice A (x.v).length c, .int .i64 (o : Int)] 77)) := (Kp.refl _ w).alloc _
  have B10 := Lib.hid (Bk.new w 77 #[.slice A (x.v).length c, .int .i64 (o : Int)])
  have H := Lib.hid h
  have HX := Lib.hid hx
  have HA := Lib.hid hA
  have HN := Lib.hid hN
  have HO := Lib.hid hxx
  have K2 := Lib.hid hk2
  clear h hlk hA hs hN hxx hk2 htk hx
  generalize hnn : (x.v).length = n at *
  go_enter Tryz.func10, Tryz.ntmps10
  go_wp2_with fail
  have LEN := Lib.hid (fun (w' : World) (k : Kp (fun _ => False) (w.alloc (.cells #[.slice A n c, .int .i64 (o : Int)] 77)) w') => show (Builtin.len_ #[66] 3 #[.map (some s.rb)]).run Tryz.prog w' = .ok (.int .i64 (s.rows.length : Int)) w' by
    have := (H.out.rm.kept (K2.out.trans' k) (fun f => f)).run_len (P := Tryz.prog) (T := 66) (E := 77) (K := 30) Tryz.underlying66 3
    rw [H.out.rh.len] at this
    exact this)
  have HM2 := Lib.hid (H.out.none_kept K2.out)
  have C10 := Lib.hid (show (w.alloc (.cells #[.slice A n c, .int .i64 (o : Int)] 77)).cell? ⟨w.heap.size, 0, none⟩ = some (.slice A n c) from B10.out.cell 0)
  have C0 := Lib.hid (show (w.alloc (.cells #[.slice A n c, .int .i64 (o : Int)] 77)).cell? ⟨g, 0, none⟩ = some (.int .i64 (s.room : Int)) from (HM2.out.bk.cell 0).trans rfl)
  have C1 := Lib.hid (show (w.alloc (.cells #[.slice A n c, .int .i64 (o : Int)] 77)).cell? ⟨g, 1, none⟩ = some (.int .i64 (s.wait : Int)) from (HM2.out.bk.cell 1).trans rfl)
  have C5 := Lib.hid (show (w.alloc (.cells #[.slice A n c, .int .i64 (o : Int)] 77)).cell? ⟨g, 5, none⟩ = some (.map (some s.rb)) from (HM2.out.bk.cell 5).trans rfl)
  clear LK z5
  generalize w.alloc (.cells #[.slice A n c, .int .i64 (o : Int)] 77) = W at *
  have hge : ¬ ((s.wait : Int) ≤ (n : Int)) := by rw [← hnn]; omega
  have hl0 : x.v.length ≤ 1000000 := by omega
  refine wp_region_held_drew (S := (fun w' => Kp (fun _ => False) W w')) (by kernel_rfl) ((Kp.refl _ W).drew) (fun hHeld => ?_)
  refine wpAnyH_take (i := 0) (v := ?v0_0) rfl (by kernel_rfl) (by kernel_rfl) (by kernel_rfl) (fun _ _ _ h => h) (Or.inl ⟨by rfl, ?y0_0⟩) (by assumption) ?r0_0
  case y0_0 => (intro w hSw; (try dsimp only at hSw); go_simp; first | done | with_reducible rfl)
  try simp only [Act.put, List.getElem_toArray, List.getElem_cons_succ, List.getElem_cons_zero, List.setIfInBounds_toArray, List.set_cons_zero, List.set_cons_succ]
  refine wpAnyH_take (i := 1) (v := ?v1_1) rfl (by kernel_rfl) (by kernel_rfl) (by kernel_rfl) (fun _ _ _ h => h) (Or.inl ⟨by rfl, ?y1_1⟩) (by assumption) ?r1_1
  case y1_1 => (intro w hSw; (try dsimp only at hSw); go_simp; first | done | with_reducible rfl)
  try simp only [Act.put, List.getElem_toArray, List.getElem_cons_succ, List.getElem_cons_zero, List.setIfInBounds_toArray, List.set_cons_zero, List.set_cons_succ]
  refine wpAnyH_take (i := 2) (v := ?v2_2) rfl (by kernel_rfl) (by kernel_rfl) (by kernel_rfl) (fun _ _ _ h => h) (Or.inl ⟨by rfl, ?y2_2⟩) (by assumption) ?r2_2
  case y2_2 => (intro w hSw; (try dsimp only at hSw); go_simp; first | done | with_reducible rfl)
  try simp only [Act.put, List.getElem_toArray, List.getElem_cons_succ, List.getElem_cons_zero, List.setIfInBounds_toArray, List.set_cons_zero, List.set_cons_succ]
  refine wpAnyH_take (i := 3) (v := ?v3_3) rfl (by kernel_rfl) (by kernel_rfl) (by kernel_rfl) (fun _ _ _ h => h) (Or.inl ⟨by rfl, ?y3_3⟩) (by assumption) ?r3_3
  case y3_3 => (intro w hSw; (try dsimp only at hSw); have d1 := kp_kc0 C10.out hSw; go_simp; first | done | with_reducible rfl)
  try simp only [Act.put, List.getElem_toArray, List.getElem_cons_succ, List.getElem_cons_zero, List.setIfInBounds_toArray, List.set_cons_zero, List.set_cons_succ]
  refine wpAnyH_take (i := 4) (v := ?v4_4) rfl (by kernel_rfl) (by kernel_rfl) (by kernel_rfl) (fun _ _ _ h => h) (Or.inl ⟨by rfl, ?y4_4⟩) (by assumption) ?r4_4
  case y4_4 => (intro w hSw; (try dsimp only at hSw); go_simp; first | done | with_reducible rfl)
  try simp only [Act.put, List.getElem_toArray, List.getElem_cons_succ, List.getElem_cons_zero, List.setIfInBounds_toArray, List.set_cons_zero, List.set_cons_succ]
  refine wpAnyH_take (i := 5) (v := ?v5_5) rfl (by kernel_rfl) (by kernel_rfl) (by kernel_rfl) (fun _ _ _ h => h) (Or.inl ⟨by rfl, ?y5_5⟩) (by assumption) ?r5_5
  case y5_5 => (intro w hSw; (try dsimp only at hSw); go_simp; first | done | with_reducible rfl)
  try simp only [Act.put, List.getElem_toArray, List.getElem_cons_succ, List.getElem_cons_zero, List.setIfInBounds_toArray, List.set_cons_zero, List.set_cons_succ]
  refine wpAnyH_take (i := 6) (v := ?v6_6) rfl (by kernel_rfl) (by kernel_rfl) (by kernel_rfl) (fun _ _ _ h => h) (Or.inl ⟨by rfl, ?y6_6⟩) (by assumption) ?r6_6
  case y6_6 => (intro w hSw; (try dsimp only at hSw); go_simp; first | done | with_reducible rfl)
  try simp only [Act.put, List.getElem_toArray, List.getElem_cons_succ, List.getElem_cons_zero, List.setIfInBounds_toArray, List.set_cons_zero, List.set_cons_succ]
  refine wpAnyH_take (i := 7) (v := ?v7_7) rfl (by kernel_rfl) (by kernel_rfl) (by kernel_rfl) (fun _ _ _ h => h) (Or.inl ⟨by rfl, ?y7_7⟩) (by assumption) ?r7_7
  case y7_7 => (intro w hSw; (try dsimp only at hSw); go_simp; first | done | with_reducible rfl)
  try simp only [Act.put, List.getElem_toArray, List.getElem_cons_succ, List.getElem_cons_zero, List.setIfInBounds_toArray, List.set_cons_zero, List.set_cons_succ]
  refine wpAnyH_take (i := 8) (v := ?v8_8) rfl (by kernel_rfl) (by kernel_rfl) (by kernel_rfl) (fun _ _ _ h => h) (Or.inl ⟨by rfl, ?y8_8⟩) (by assumption) ?r8_8
  case y8_8 => (intro w hSw; (try dsimp only at hSw); go_simp; first | done | with_reducible rfl)
  try simp only [Act.put, List.getElem_toArray, List.getElem_cons_succ, List.getElem_cons_zero, List.setIfInBounds_toArray, List.set_cons_zero, List.set_cons_succ]
  refine wpAnyH_take (i := 9) (v := ?v9_9) rfl (by kernel_rfl) (by kernel_rfl) (by kernel_rfl) (fun _ _ _ h => h) (Or.inl ⟨by rfl, ?y9_9⟩) (by assumption) ?r9_9
  case y9_9 => (intro w hSw; (try dsimp only at hSw); have d1 := kp_kc0 C1.out hSw; go_simp; first | done | with_reducible rfl)
  try simp only [Act.put, List.getElem_toArray, List.getElem_cons_succ, List.getElem_cons_zero, List.setIfInBounds_toArray, List.set_cons_zero, List.set_cons_succ]
  refine wpAnyH_take (i := 10) (v := ?v10_10) rfl (by kernel_rfl) (by kernel_rfl) (by kernel_rfl) (fun _ _ _ h => h) (Or.inl ⟨by rfl, ?y10_10⟩) (by assumption) ?r10_10
  case y10_10 => (intro w hSw; (try dsimp only at hSw); go_simp; first | done | with_reducible rfl)
  try simp only [Act.put, List.getElem_toArray, List.getElem_cons_succ, List.getElem_cons_zero, List.setIfInBounds_toArray, List.set_cons_zero, List.set_cons_succ]
  refine wpAnyH_take (i := 11) (v := ?v11_11) rfl (by kernel_rfl) (by kernel_rfl) (by kernel_rfl) (fun _ _ _ h => h) (Or.inl ⟨by rfl, ?y11_11⟩) (by assumption) ?r11_11
  case y11_11 => (intro w hSw; (try dsimp only at hSw); go_simp; first | done | with_reducible rfl)
  try simp only [Act.put, List.getElem_toArray, List.getElem_cons_succ, List.getElem_cons_zero, List.setIfInBounds_toArray, List.set_cons_zero, List.set_cons_succ]
  refine wpAnyH_take (i := 12) (v := ?v12_12) rfl (by kernel_rfl) (by kernel_rfl) (by kernel_rfl) (fun _ _ _ h => h) (Or.inl ⟨by rfl, ?y12_12⟩) (by assumption) ?r12_12
  case y12_12 => (intro w hSw; (try dsimp only at hSw); go_simp; first | done | with_reducible rfl)
  try simp only [Act.put, List.getElem_toArray, List.getElem_cons_succ, List.getElem_cons_zero, List.setIfInBounds_toArray, List.set_cons_zero, List.set_cons_succ]
  refine wpAnyH_take (i := 13) (v := ?v13_13) rfl (by kernel_rfl) (by kernel_rfl) (by kernel_rfl) (fun _ _ _ h => h) (Or.inl ⟨by rfl, ?y13_13⟩) (by assumption) ?r13_13
  case y13_13 => (intro w hSw; (try dsimp only at hSw); go_simp; first | done | with_reducible rfl)
  try simp only [Act.put, List.getElem_toArray, List.getElem_cons_succ, List.getElem_cons_zero, List.setIfInBounds_toArray, List.set_cons_zero, List.set_cons_succ]
  refine wpAnyH_take (i := 14) (v := ?v14_14) rfl (by kernel_rfl) (by kernel_rfl) (by kernel_rfl) (fun _ _ _ h => h) (Or.inl ⟨by rfl, ?y14_14⟩) (by assumption) ?r14_14
  case y14_14 => (intro w hSw; (try dsimp only at hSw); go_simp; first | done | with_reducible rfl)
  try simp only [Act.put, List.getElem_toArray, List.getElem_cons_succ, List.getElem_cons_zero, List.setIfInBounds_toArray, List.set_cons_zero, List.set_cons_succ]
  refine wpAnyH_take (i := 15) (v := ?v15_15) rfl (by kernel_rfl) (by kernel_rfl) (by kernel_rfl) (fun _ _ _ h => h) (Or.inl ⟨by rfl, ?y15_15⟩) (by assumption) ?r15_15
  case y15_15 => (intro w hSw; (try dsimp only at hSw); go_simp; first | done | with_reducible rfl)
  try simp only [Act.put, List.getElem_toArray, List.getElem_cons_succ, List.getElem_cons_zero, List.setIfInBounds_toArray, List.set_cons_zero, List.set_cons_succ]
  refine wpAnyH_take (i := 16) (v := undef) rfl (by kernel_rfl) (by kernel_rfl) (by kernel_rfl) (fun _ _ _ h => h) (Or.inr ⟨by rfl, rfl⟩) (by assumption) ?_
  try simp only [Act.put, List.getElem_toArray, List.getElem_cons_succ, List.getElem_cons_zero, List.setIfInBounds_toArray, List.set_cons_zero, List.set_cons_succ]
  refine wpAnyH_take (i := 17) (v := undef) rfl (by kernel_rfl) (by kernel_rfl) (by kernel_rfl) (fun _ _ _ h => h) (Or.inr ⟨by rfl, rfl⟩) (by assumption) ?_
  try simp only [Act.put, List.getElem_toArray, List.getElem_cons_succ, List.getElem_cons_zero, List.setIfInBounds_toArray, List.set_cons_zero, List.set_cons_succ]
  refine wpAnyH_take (i := 18) (v := undef) rfl (by kernel_rfl) (by kernel_rfl) (by kernel_rfl) (fun _ _ _ h => h) (Or.inr ⟨by rfl, rfl⟩) (by assumption) ?_
  try simp only [Act.put, List.getElem_toArray, List.getElem_cons_succ, List.getElem_cons_zero, List.setIfInBounds_toArray, List.set_cons_zero, List.set_cons_succ]
  refine wpAnyH_take (i := 19) (v := undef) rfl (by kernel_rfl) (by kernel_rfl) (by kernel_rfl) (fun _ _ _ h => h) (Or.inr ⟨by rfl, rfl⟩) (by assumption) ?_
  try simp only [Act.put, List.getElem_toArray, List.getElem_cons_succ, List.getElem_cons_zero, List.setIfInBounds_toArray, List.set_cons_zero, List.set_cons_succ]
  refine wpAnyH_take (i := 20) (v := undef) rfl (by kernel_rfl) (by kernel_rfl) (by kernel_rfl) (fun _ _ _ h => h) (Or.inr ⟨by rfl, rfl⟩) (by assumption) ?_
  try simp only [Act.put, List.getElem_toArray, List.getElem_cons_succ, List.getElem_cons_zero, List.setIfInBounds_toArray, List.set_cons_zero, List.set_cons_succ]
  refine wpAnyH_take (i := 21) (v := undef) rfl (by kernel_rfl) (by kernel_rfl) (by kernel_rfl) (fun _ _ _ h => h) (Or.inr ⟨by rfl, rfl⟩) (by assumption) ?_
  try simp only [Act.put, List.getElem_toArray, List.getElem_cons_succ, List.getElem_cons_zero, List.setIfInBounds_toArray, List.set_cons_zero, List.set_cons_succ]
  refine wpAnyH_take (i := 22) (v := undef) rfl (by kernel_rfl) (by kernel_rfl) (by kernel_rfl) (fun _ _ _ h => h) (Or.inr ⟨by rfl, rfl⟩) (by assumption) ?_
  try simp only [Act.put, List.getElem_toArray, List.getElem_cons_succ, List.getElem_cons_zero, List.setIfInBounds_toArray, List.set_cons_zero, List.set_cons_succ]
  refine wpAnyH_take (i := 23) (v := undef) rfl (by kernel_rfl) (by kernel_rfl) (by kernel_rfl) (fun _ _ _ h => h) (Or.inr ⟨by rfl, rfl⟩) (by assumption) ?_
  try simp only [Act.put, List.getElem_toArray, List.getElem_cons_succ, List.getElem_cons_zero, List.setIfInBounds_toArray, List.set_cons_zero, List.set_cons_succ]
  refine wpAnyH_take (i := 24) (v := undef) rfl (by kernel_rfl) (by kernel_rfl) (by kernel_rfl) (fun _ _ _ h => h) (Or.inr ⟨by rfl, rfl⟩) (by assumption) ?_
  try simp only [Act.put, List.getElem_toArray, List.getElem_cons_succ, List.getElem_cons_zero, List.setIfInBounds_toArray, List.set_cons_zero, List.set_cons_succ]
  refine wpAnyH_take (i := 25) (v := undef) rfl (by kernel_rfl) (by kernel_rfl) (by kernel_rfl) (fun _ _ _ h => h) (Or.inr ⟨by rfl, rfl⟩) (by assumption) ?_
  try simp only [Act.put, List.getElem_toArray, List.getElem_cons_succ, List.getElem_cons_zero, List.setIfInBounds_toArray, List.set_cons_zero, List.set_cons_succ]
  refine wpAnyH_take (i := 26) (v := undef) rfl (by kernel_rfl) (by kernel_rfl) (by kernel_rfl) (fun _ _ _ h => h) (Or.inr ⟨by rfl, rfl⟩) (by assumption) ?_
  try simp only [Act.put, List.getElem_toArray, List.getElem_cons_succ, List.getElem_cons_zero, List.setIfInBounds_toArray, List.set_cons_zero, List.set_cons_succ]
  refine wpAnyH_take (i := 27) (v := ?v27_16) rfl (by kernel_rfl) (by kernel_rfl) (by kernel_rfl) (fun _ _ _ h => h) (Or.inl ⟨by rfl, ?y27_16⟩) (by assumption) ?r27_16
  case y27_16 => (intro w hSw; (try dsimp only at hSw); go_simp; first | done | with_reducible rfl)
  try simp only [Act.put, List.getElem_toArray, List.getElem_cons_succ, List.getElem_cons_zero, List.setIfInBounds_toArray, List.set_cons_zero, List.set_cons_succ]
  refine wpAnyH_take (i := 28) (v := ?v28_17) rfl (by kernel_rfl) (by kernel_rfl) (by kernel_rfl) (fun _ _ _ h => h) (Or.inl ⟨by rfl, ?y28_17⟩) (by assumption) ?r28_17
  case y28_17 => (intro w hSw; (try dsimp only at hSw); go_simp; first | done | with_reducible rfl)
  try simp only [Act.put, List.getElem_toArray, List.getElem_cons_succ, List.getElem_cons_zero, List.setIfInBounds_toArray, List.set_cons_zero, List.set_cons_succ]
  refine wpAnyH_done (by kernel_rfl) ?_ _
  have c10 : W.drew.cell? ⟨w.heap.size, 0, none⟩ = some (.slice A n c) := C10.out
  go_wp2_with fail
  clear c10
  have K3 := Lib.hid K2.out.drew
  have B10 := Lib.hid (show Bk W.drew w.heap.size 77 _ from B10.out)
  have CK3 : ∀ b cs, Bk w b 3 cs → ¬ False := fun _ _ _ f => f
  clear K2 LEN HM2 C10 C0 C1 C5
  generalize W.drew = W3 at *
  have HM3 := Lib.hid (fun (w' : World) (k : Kp (fun _ => False) w w') => H.out.none_kept k)
  have HAW := Lib.hid (HA.out.kp K3.out (fun b o cs _ hb => CK3 b cs hb))
  have CC := cclone A c x.v W3 HAW.out hl0 HN.out
  try rw [hnn] at CC
  refine CC.mono ?_
  rintro ev w4 ⟨v, rfl, own4, k4⟩
  obtain ⟨i0, hi0, hz0, hz1, hz2⟩ := info_parts (show (Tryz.prog.info? 3).map (fun i => (i.zero, i.size, i.bytes)) = some (some (.int .i64 0), 1, 8) by kernel_rfl)
  have hmx : (1000000 : Nat) < maxLen := by decide
  have O4 := Lib.hid own4
  have K4 := Lib.hid k4
  clear own4 k4 CC
  go_wp2_with
    (at_builtin
     go_must (
       refine wpList_append_own _ rfl (.tmp 72) (.tmp 74) 35 rfl W3.heap.size 3 i0 _ 1 8 Tryz.underlying35 hi0 hz0 hz1 hz2 rfl (by omega) _ n (intsK .i64 x.v) rfl (O4.out.alloc _) ⟨w4.heap.size, 0, none⟩ 1 1 [.int .i64 t] rfl rfl (cell_one_new _ _ _) (by simp [Value.oneCell']) (by omega) (by omega) (by have := K4.out.size; simp; omega) ?_
       intro v5 w5 own5 hgrow5 _
       have K5 := Lib.hid ((K4.out.alloc (.cells #[.int .i64 t] 3)).grown hgrow5 (fun k hk => .inr ((O4.out.lt k hk).1)))
       obtain ⟨LL, hLL⟩ : ∃ LL : List Int, LL = x.v ++ [t] := ⟨_, rfl⟩
       have own5' : w5.ownsRow W3.heap.size 3 1 v5 (n + 1) (intsK .i64 LL) := by rw [hLL]; simpa [intsK] using own5
       obtain ⟨A2, c2, e5, hA2, hbA⟩ := RdN.of_own own5'
       have HBA := Lib.hid (show ∀ b o, A2 = some ⟨b, o, none⟩ → w.heap.size ≤ b from fun b o e => Nat.le_trans K3.out.size (hbA b o e))
       clear hbA
       subst e5
       have hN2 : A2 = none → c2 = 0 := fun e => by
         subst e
         rcases hA2.1.2 with h | ⟨_, _, h, _⟩
         · rw [hLL] at h; simp at h
         · cases h
       have HA2 := Lib.hid hA2
       have HN2 := Lib.hid hN2
       have HLL := Lib.hid hLL
       have b5 := B10.out.kept K5.out (fun f => f)
       have c50 : w5.cell? ⟨w.heap.size, 0, none⟩ = some _ := b5.cell 0
       have f50 : w5.frozen? ⟨w.heap.size, 0, none⟩ = false := b5.frozen 0
       have B5 := Lib.hid b5
       clear own5 own5' hgrow5 hA2 hN2 hLL b5))
  have b6 : Bk (w5.setCell ⟨w.heap.size, 0, none⟩ (.slice A2 LL.length c2)) w.heap.size 77 #[.slice A2 LL.length c2, .int .i64 (o : Int)] := B5.out.put 0 (.slice A2 LL.length c2)
  have k6 : Kp (fun b => b = w.heap.size) w5 (w5.setCell ⟨w.heap.size, 0, none⟩ (.slice A2 LL.length c2)) := (Kp.refl (fun b => b = w.heap.size) w5).setCell (p := ⟨w.heap.size, 0, none⟩) (.inl rfl) _
  have HA6 := Lib.hid (HA2.out.kp k6 (fun b o cs _ hb e => by
    have e : b = w.heap.size := e
    subst e
    have h1 := B5.out
    unfold Bk at h1 hb
    rw [hb] at h1
    injection h1 with h1
    injection h1 with _ h1
    exact absurd h1 (by decide)))
  have KX6 := Lib.hid ((K5.out.mono (T := fun b => b = w.heap.size) (fun _ f => f.elim)).trans' k6)
  have KS6 := Lib.hid ((K3.out.trans K5.out (fun _ _ f => f.elim)).setCell (p := ⟨w.heap.size, 0, none⟩) (.inr (Nat.le_refl _)) (.slice A2 LL.length c2))
  have B6 := Lib.hid b6
  clear b6 k6 HA2 B5 c50 f50
  generalize w5.setCell ⟨w.heap.size, 0, none⟩ (.slice A2 LL.length c2) = w6 at *
  have HM6 := Lib.hid (HM3.out w6 KS6.out)
  have BK6 := Lib.hid HM6.out.bk
  have UM6 := Lib.hid HM6.out.rm
  refine wp_region_held_drew (S := (fun w' => w'.cell? ⟨g, 5, none⟩ = some (.map (some s.rb)) ∧ Bk w' w.heap.size 77 #[.slice A2 LL.length c2, .int .i64 (o : Int)])) (by kernel_rfl) (⟨(BK6.out.cell 5).trans rfl, B6.out⟩) (fun hHeld => ?_)
  refine wpAnyH_take (i := 0) (v := ?v0_18) rfl (by kernel_rfl) (by kernel_rfl) (by kernel_rfl) (fun _ _ _ h => h) (Or.inl ⟨by rfl, ?y0_18⟩) (by assumption) ?r0_18
  case y0_18 => (intro w hSw; (try dsimp only at hSw); go_simp; first | done | with_reducible rfl)
  try simp only [Act.put, List.getElem_toArray, List.getElem_cons_succ, List.getElem_cons_zero, List.setIfInBounds_toArray, List.set_cons_zero, List.set_cons_succ]
  refine wpAnyH_take (i := 1) (v := ?v1_19) rfl (by kernel_rfl) (by kernel_rfl) (by kernel_rfl) (fun _ _ _ h => h) (Or.inl ⟨by rfl, ?y1_19⟩) (by assumption) ?r1_19
  case y1_19 => (intro w hSw; (try dsimp only at hSw); go_simp; first | done | with_reducible rfl)
  try simp only [Act.put, List.getElem_toArray, List.getElem_cons_succ, List.getElem_cons_zero, List.setIfInBounds_toArray, List.set_cons_zero, List.set_cons_succ]
  refine wpAnyH_take (i := 2) (v := ?v2_20) rfl (by kernel_rfl) (by kernel_rfl) (by kernel_rfl) (fun _ _ _ h => h) (Or.inl ⟨by rfl, ?y2_20⟩) (by assumption) ?r2_20
  case y2_20 => (intro w hSw; (try dsimp only at hSw); go_simp; first | done | with_reducible rfl)
  try simp only [Act.put, List.getElem_toArray, List.getElem_cons_succ, List.getElem_cons_zero, List.setIfInBounds_toArray, List.set_cons_zero, List.set_cons_succ]
  refine wpAnyH_take (i := 3) (v := ?v3_21) rfl (by kernel_rfl) (by kernel_rfl) (by kernel_rfl) (fun _ _ _ h => h) (Or.inl ⟨by rfl, ?y3_21⟩) (by assumption) ?r3_21
  case y3_21 => (intro w hSw; (try dsimp only at hSw); have d1 := hSw.1; go_simp; first | done | with_reducible rfl)
  try simp only [Act.put, List.getElem_toArray, List.getElem_cons_succ, List.getElem_cons_zero, List.setIfInBounds_toArray, List.set_cons_zero, List.set_cons_succ]
  refine wpAnyH_take (i := 4) (v := ?v4_22) rfl (by kernel_rfl) (by kernel_rfl) (by kernel_rfl) (fun _ _ _ h => h) (Or.inl ⟨by rfl, ?y4_22⟩) (by assumption) ?r4_22
  case y4_22 => (intro w hSw; (try dsimp only at hSw); go_simp; first | done | with_reducible rfl)
  try simp only [Act.put, List.getElem_toArray, List.getElem_cons_succ, List.getElem_cons_zero, List.setIfInBounds_toArray, List.set_cons_zero, List.set_cons_succ]
  refine wpAnyH_take (i := 5) (v := ?v5_23) rfl (by kernel_rfl) (by kernel_rfl) (by kernel_rfl) (fun _ _ _ h => h) (Or.inl ⟨by rfl, ?y5_23⟩) (by assumption) ?r5_23
  case y5_23 => (intro w hSw; (try dsimp only at hSw); have d0 := hSw.2.cell 0; have d1 := hSw.2.cell 1; go_simp; first | done | with_reducible rfl)
  try simp only [Act.put, List.getElem_toArray, List.getElem_cons_succ, List.getElem_cons_zero, List.setIfInBounds_toArray, List.set_cons_zero, List.set_cons_succ]
  refine wpAnyH_ready (rs := [6]) (by kernel_rfl) (by simp) ?_
  refine AllReadyH.cons rfl (fun K hK => ?_) AllReadyH.nil
  have um6 : UMap w6.drew s.rb s.rc s.RL := UM6.out.kept ((Kp.refl (fun _ => False) w6).drew) (fun f => f)
  obtain ⟨w7, c7, hrun7, u7, k7⟩ := um6.run_update (P := Tryz.prog) (T := 66) (E := 77) (K := 30) Tryz.underlying66 Tryz.underlying30 (i : Int) (.agg #[.slice A2 LL.length c2, .int .i64 (o : Int)])
  have U7 := Lib.hid u7
  have K7 := Lib.hid k7
  have BG7 := Lib.hid (Bk.kept (w := w6.drew) BK6.out k7 H.out.g_ne_r)
  have B7 := Lib.hid (Bk.kept (w := w6.drew) B6.out k7 (fun e => not_map_bk um6 (show Bk w6.drew s.rb 77 _ from by have e : w.heap.size = s.rb := e; have hq := B6.out; rw [e] at hq; exact hq)))
  clear u7 k7 um6
  go_simp
  refine hK.out _ _ (⟨(BG7.out.cell 5).trans rfl, B7.out⟩) (fun hHeld => ?_)
  clear hK K
  try simp only [Act.put, List.getElem_toArray, List.getElem_cons_succ, List.getElem_cons_zero, List.setIfInBounds_toArray, List.set_cons_zero, List.set_cons_succ]
  refine wpAnyH_done (by kernel_rfl) ?_ _
  go_wp2_with fail
  have ho := (HO.out x HX.out).1
  have e := HLL.out
  subst e
  subst ho
  have J := H.out.joined (A := A2) (c := c2) (l := x.v ++ [t]) HX.out KS6.out.drew (HA6.out) HN2.out U7.out K7.out
  exact bodyPost_ret (results_tmp2 rfl _ _ _) rfl ⟨rfl, A2, c2, _, J.1, HBA.out, J.2⟩
end Go.Proofs.YtgidjgkafbjkpaaGreatDoor
