/- Cache: Wait. -/
import Derived.Test.YtgidjgkafbjkpaaGreatDoorCwj
set_option linter.unusedVariables false
set_option linter.unusedSimpArgs false
namespace Go.Proofs.YtgidjgkafbjkpaaGreatDoor
open Go.RowKit

/-- What wait leaves where a row begins. -/
structure Wbg (s : CS) (i now : Nat) (t : Int) (s' : CS) : Prop where
  room : s'.room = s.room
  wait : s'.wait = s.wait
  life : s'.life = s.life
  pat : s'.pat = s.pat
  count : s'.count = s.count + 1
  ents : s'.ents = s.ents
  rows : s'.rows = s.rows ++ [⟨i, [t], s.count + 1, min now MT + s.pat⟩]
set_option maxRecDepth 1000000 in
set_option maxHeartbeats 16000000 in
theorem wait_b (g i now : Nat) (t : Int) (s : CS) (w : World) (h : CM w g s) (hi : i < 4294967296) (hc : s.count < 1000000) (hx : iget i s.rows = none) (hlt : s.rows.length < s.room) (hroom : s.room ≤ 1000) (hpat : s.pat ≤ 4294967296) :
    Calls Tryz.prog 10 #[.pointer (some ⟨g, 0, none⟩), .int .u32 (i : Int), .int .i64 t, .int .u64 (now : Int)] w fun ev w' => ev = .returned (.tuple #[.bool true, .int .i64 0]) ∧ ∃ s', CM w' g s' ∧ Wbg s i now t s' ∧ Kp (CK g s w) w w' ∧ (∀ b, cfp g s' b → cfp g s b ∨ w.heap.size ≤ b) ∧ ∃ A c c0, s'.RL = mput (i : Int) (rowV A 1 c (s.count + 1)) c0 s.RL ∧ ∀ b o, A = some ⟨b, o, none⟩ → w.heap.size ≤ b := by
  have z5 : w.cell? ⟨g, 5, none⟩ = some (.map (some s.rb)) := (h.bk.cell 5).trans rfl
  obtain ⟨A, c, o, hlk, hA, hs, hN, hxx⟩ := h.look_row i
  have htk : tokof s.rows i = ([] : List Int) := by unfold tokof; rw [hx]; rfl
  rw [htk] at hlk hA
  rw [hx] at hs
  have LK : (Instr.lookup 66 (.map (some s.rb)) (.int .u32 (i : Int)) true).run Tryz.prog w = .ok (.tuple #[.agg #[.slice A (([] : List Int)).length c, .int .i64 (o : Int)], .bool false]) w := by
    have := (h.rm.run_lookup (P := Tryz.prog) (T := 66) (E := 77) (K := 30) Tryz.underlying66 Tryz.underlying30 (z := .agg #[.slice none 0 0, .int .i64 0]) (by kernel_rfl) (i : Int)).2
    rw [hlk, hs] at this
    exact this
  have hk2 : Kp (fun _ => False) w (w.alloc (.cells #[.slice A (([] : List Int)).length c, .int .i64 (o : Int)] 77)) := (Kp.refl _ w).alloc _
  have B10 := Lib.hid (Bk.new w 77 #[.slice A (([] : List Int)).length c, .int .i64 (o : Int)])
  have H := Lib.hid h
  have HX := Lib.hid hx
  have HA := Lib.hid hA
  have HN := Lib.hid hN
  have HO := Lib.hid hxx
  have K2 := Lib.hid hk2
  clear h hlk hA hs hN hxx hk2 htk hx
  simp only [List.length_nil] at LK B10 K2
  go_enter Tryz.func10, Tryz.ntmps10
  go_wp2_with fail
  have LEN := Lib.hid (fun (w' : World) (k : Kp (fun _ => False) (w.alloc (.cells #[.slice A 0 c, .int .i64 (o : Int)] 77)) w') => show (Builtin.len_ #[66] 3 #[.map (some s.rb)]).run Tryz.prog w' = .ok (.int .i64 (s.rows.length : Int)) w' by
    have := (H.out.rm.kept (K2.out.trans' k) (fun f => f)).run_len (P := Tryz.prog) (T := 66) (E := 77) (K := 30) Tryz.underlying66 3
    rw [H.out.rh.len] at this
    exact this)
  have HM2 := Lib.hid (H.out.none_kept K2.out)
  have C10 := Lib.hid (show (w.alloc (.cells #[.slice A 0 c, .int .i64 (o : Int)] 77)).cell? ⟨w.heap.size, 0, none⟩ = some (.slice A 0 c) from B10.out.cell 0)
  have C0 := Lib.hid (show (w.alloc (.cells #[.slice A 0 c, .int .i64 (o : Int)] 77)).cell? ⟨g, 0, none⟩ = some (.int .i64 (s.room : Int)) from (HM2.out.bk.cell 0).trans rfl)
  have C1 := Lib.hid (show (w.alloc (.cells #[.slice A 0 c, .int .i64 (o : Int)] 77)).cell? ⟨g, 1, none⟩ = some (.int .i64 (s.wait : Int)) from (HM2.out.bk.cell 1).trans rfl)
  have C5 := Lib.hid (show (w.alloc (.cells #[.slice A 0 c, .int .i64 (o : Int)] 77)).cell? ⟨g, 5, none⟩ = some (.map (some s.rb)) from (HM2.out.bk.cell 5).trans rfl)
  clear LK z5
  generalize w.alloc (.cells #[.slice A 0 c, .int .i64 (o : Int)] 77) = W at *
  have hge : ¬ ((s.room : Int) ≤ (s.rows.length : Int)) := by omega
  refine wp_region_held_drew (S := (fun w' => Kp (fun _ => False) W w')) (by kernel_rfl) ((Kp.refl _ W).drew) (fun hHeld => ?_)
  refine wpAnyH_take (i := 0) (v := ?v0_0) rfl (by kernel_rfl) (by kernel_rfl) (by kernel_rfl) (fun _ _ _ h => h) (Or.inl ⟨by rfl, ?y0_0⟩) (by assumption) ?r0_0
  case y0_0 => (intro w hSw; (try dsimp only at hSw); go_simp; first | done | with_reducible rfl)
  try simp only [Act.put, List.getElem_toArray, List.getElem_cons_succ, List.getElem_cons_zero, List.setIfInBounds_toArray, List.set_cons_zero, List.set_cons_succ]
  refine wpAnyH_take (i := 1) (v := ?v1_1) rfl (by kernel_rfl) (by kernel_rfl) (by kernel_rfl) (fun _ _ _ h => h) (Or.inl ⟨by rfl, ?y1_1⟩) (by assumption) ?r1_1
  case y1_1 => (intro w hSw; (try dsimp only at hSw); go_simp; first | done | with_reducible rfl)
  try simp only [Act.put, List.getElem_toArray, List.getElem_cons_succ, List.getElem_cons_zero, List.setIfInBounds_toArray, List.set_cons_zero, List.set_cons_succ]
  refine wpAnyH_take (i := 2) (v := undef) rfl (by kernel_rfl) (by kernel_rfl) (by kernel_rfl) (fun _ _ _ h => h) (Or.inr ⟨by rfl, rfl⟩) (by assumption) ?_
  try simp only [Act.put, List.getElem_toArray, List.getElem_cons_succ, List.getElem_cons_zero, List.setIfInBounds_toArray, List.set_cons_zero, List.set_cons_succ]
  refine wpAnyH_take (i := 3) (v := undef) rfl (by kernel_rfl) (by kernel_rfl) (by kernel_rfl) (fun _ _ _ h => h) (Or.inr ⟨by rfl, rfl⟩) (by assumption) ?_
  try simp only [Act.put, List.getElem_toArray, List.getElem_cons_succ, List.getElem_cons_zero, List.setIfInBounds_toArray, List.set_cons_zero, List.set_cons_succ]
  refine wpAnyH_take (i := 4) (v := undef) rfl (by kernel_rfl) (by kernel_rfl) (by kernel_rfl) (fun _ _ _ h => h) (Or.inr ⟨by rfl, rfl⟩) (by assumption) ?_
  try simp only [Act.put, List.getElem_toArray, List.getElem_cons_succ, List.getElem_cons_zero, List.setIfInBounds_toArray, List.set_cons_zero, List.set_cons_succ]
  refine wpAnyH_take (i := 5) (v := undef) rfl (by kernel_rfl) (by kernel_rfl) (by kernel_rfl) (fun _ _ _ h => h) (Or.inr ⟨by rfl, rfl⟩) (by assumption) ?_
  try simp only [Act.put, List.getElem_toArray, List.getElem_cons_succ, List.getElem_cons_zero, List.setIfInBounds_toArray, List.set_cons_zero, List.set_cons_succ]
  refine wpAnyH_take (i := 6) (v := undef) rfl (by kernel_rfl) (by kernel_rfl) (by kernel_rfl) (fun _ _ _ h => h) (Or.inr ⟨by rfl, rfl⟩) (by assumption) ?_
  try simp only [Act.put, List.getElem_toArray, List.getElem_cons_succ, List.getElem_cons_zero, List.setIfInBounds_toArray, List.set_cons_zero, List.set_cons_succ]
  refine wpAnyH_take (i := 7) (v := undef) rfl (by kernel_rfl) (by kernel_rfl) (by kernel_rfl) (fun _ _ _ h => h) (Or.inr ⟨by rfl, rfl⟩) (by assumption) ?_
  try simp only [Act.put, List.getElem_toArray, List.getElem_cons_succ, List.getElem_cons_zero, List.setIfInBounds_toArray, List.set_cons_zero, List.set_cons_succ]
  refine wpAnyH_take (i := 8) (v := undef) rfl (by kernel_rfl) (by kernel_rfl) (by kernel_rfl) (fun _ _ _ h => h) (Or.inr ⟨by rfl, rfl⟩) (by assumption) ?_
  try simp only [Act.put, List.getElem_toArray, List.getElem_cons_succ, List.getElem_cons_zero, List.setIfInBounds_toArray, List.set_cons_zero, List.set_cons_succ]
  refine wpAnyH_take (i := 9) (v := undef) rfl (by kernel_rfl) (by kernel_rfl) (by kernel_rfl) (fun _ _ _ h => h) (Or.inr ⟨by rfl, rfl⟩) (by assumption) ?_
  try simp only [Act.put, List.getElem_toArray, List.getElem_cons_succ, List.getElem_cons_zero, List.setIfInBounds_toArray, List.set_cons_zero, List.set_cons_succ]
  refine wpAnyH_take (i := 10) (v := undef) rfl (by kernel_rfl) (by kernel_rfl) (by kernel_rfl) (fun _ _ _ h => h) (Or.inr ⟨by rfl, rfl⟩) (by assumption) ?_
  try simp only [Act.put, List.getElem_toArray, List.getElem_cons_succ, List.getElem_cons_zero, List.setIfInBounds_toArray, List.set_cons_zero, List.set_cons_succ]
  refine wpAnyH_take (i := 11) (v := ?v11_2) rfl (by kernel_rfl) (by kernel_rfl) (by kernel_rfl) (fun _ _ _ h => h) (Or.inl ⟨by rfl, ?y11_2⟩) (by assumption) ?r11_2
  case y11_2 => (intro w hSw; (try dsimp only at hSw); go_simp; first | done | with_reducible rfl)
  try simp only [Act.put, List.getElem_toArray, List.getElem_cons_succ, List.getElem_cons_zero, List.setIfInBounds_toArray, List.set_cons_zero, List.set_cons_succ]
  refine wpAnyH_take (i := 12) (v := ?v12_3) rfl (by kernel_rfl) (by kernel_rfl) (by kernel_rfl) (fun _ _ _ h => h) (Or.inl ⟨by rfl, ?y12_3⟩) (by assumption) ?r12_3
  case y12_3 => (intro w hSw; (try dsimp only at hSw); go_simp; first | done | with_reducible rfl)
  try simp only [Act.put, List.getElem_toArray, List.getElem_cons_succ, List.getElem_cons_zero, List.setIfInBounds_toArray, List.set_cons_zero, List.set_cons_succ]
  refine wpAnyH_take (i := 13) (v := ?v13_4) rfl (by kernel_rfl) (by kernel_rfl) (by kernel_rfl) (fun _ _ _ h => h) (Or.inl ⟨by rfl, ?y13_4⟩) (by assumption) ?r13_4
  case y13_4 => (intro w hSw; (try dsimp only at hSw); go_simp; first | done | with_reducible rfl)
  try simp only [Act.put, List.getElem_toArray, List.getElem_cons_succ, List.getElem_cons_zero, List.setIfInBounds_toArray, List.set_cons_zero, List.set_cons_succ]
  refine wpAnyH_take (i := 14) (v := ?v14_5) rfl (by kernel_rfl) (by kernel_rfl) (by kernel_rfl) (fun _ _ _ h => h) (Or.inl ⟨by rfl, ?y14_5⟩) (by assumption) ?r14_5
  case y14_5 => (intro w hSw; (try dsimp only at hSw); go_simp; first | done | with_reducible rfl)
  try simp only [Act.put, List.getElem_toArray, List.getElem_cons_succ, List.getElem_cons_zero, List.setIfInBounds_toArray, List.set_cons_zero, List.set_cons_succ]
  refine wpAnyH_take (i := 15) (v := ?v15_6) rfl (by kernel_rfl) (by kernel_rfl) (by kernel_rfl) (fun _ _ _ h => h) (Or.inl ⟨by rfl, ?y15_6⟩) (by assumption) ?r15_6
  case y15_6 => (intro w hSw; (try dsimp only at hSw); go_simp; first | done | with_reducible rfl)
  try simp only [Act.put, List.getElem_toArray, List.getElem_cons_succ, List.getElem_cons_zero, List.setIfInBounds_toArray, List.set_cons_zero, List.set_cons_succ]
  refine wpAnyH_take (i := 16) (v := ?v16_7) rfl (by kernel_rfl) (by kernel_rfl) (by kernel_rfl) (fun _ _ _ h => h) (Or.inl ⟨by rfl, ?y16_7⟩) (by assumption) ?r16_7
  case y16_7 => (intro w hSw; (try dsimp only at hSw); go_simp; first | done | with_reducible rfl)
  try simp only [Act.put, List.getElem_toArray, List.getElem_cons_succ, List.getElem_cons_zero, List.setIfInBounds_toArray, List.set_cons_zero, List.set_cons_succ]
  refine wpAnyH_take (i := 17) (v := ?v17_8) rfl (by kernel_rfl) (by kernel_rfl) (by kernel_rfl) (fun _ _ _ h => h) (Or.inl ⟨by rfl, ?y17_8⟩) (by assumption) ?r17_8
  case y17_8 => (intro w hSw; (try dsimp only at hSw); go_simp; first | done | with_reducible rfl)
  try simp only [Act.put, List.getElem_toArray, List.getElem_cons_succ, List.getElem_cons_zero, List.setIfInBounds_toArray, List.set_cons_zero, List.set_cons_succ]
  refine wpAnyH_take (i := 18) (v := ?v18_9) rfl (by kernel_rfl) (by kernel_rfl) (by kernel_rfl) (fun _ _ _ h => h) (Or.inl ⟨by rfl, ?y18_9⟩) (by assumption) ?r18_9
  case y18_9 => (intro w hSw; (try dsimp only at hSw); go_simp; first | done | with_reducible rfl)
  try simp only [Act.put, List.getElem_toArray, List.getElem_cons_succ, List.getElem_cons_zero, List.setIfInBounds_toArray, List.set_cons_zero, List.set_cons_succ]
  refine wpAnyH_take (i := 19) (v := ?v19_10) rfl (by kernel_rfl) (by kernel_rfl) (by kernel_rfl) (fun _ _ _ h => h) (Or.inl ⟨by rfl, ?y19_10⟩) (by assumption) ?r19_10
  case y19_10 => (intro w hSw; (try dsimp only at hSw); have d1 := kp_kc0 C5.out hSw; go_simp; first | done | with_reducible rfl)
  try simp only [Act.put, List.getElem_toArray, List.getElem_cons_succ, List.getElem_cons_zero, List.setIfInBounds_toArray, List.set_cons_zero, List.set_cons_succ]
  refine wpAnyH_take (i := 20) (v := ?v20_11) rfl (by kernel_rfl) (by kernel_rfl) (by kernel_rfl) (fun _ _ _ h => h) (Or.inl ⟨by rfl, ?y20_11⟩) (by assumption) ?r20_11
  case y20_11 => (intro w hSw; (try dsimp only at hSw); have d1 := LEN.out w hSw; go_simp; first | done | with_reducible rfl)
  try simp only [Act.put, List.getElem_toArray, List.getElem_cons_succ, List.getElem_cons_zero, List.setIfInBounds_toArray, List.set_cons_zero, List.set_cons_succ]
  refine wpAnyH_take (i := 21) (v := ?v21_12) rfl (by kernel_rfl) (by kernel_rfl) (by kernel_rfl) (fun _ _ _ h => h) (Or.inl ⟨by rfl, ?y21_12⟩) (by assumption) ?r21_12
  case y21_12 => (intro w hSw; (try dsimp only at hSw); go_simp; first | done | with_reducible rfl)
  try simp only [Act.put, List.getElem_toArray, List.getElem_cons_succ, List.getElem_cons_zero, List.setIfInBounds_toArray, List.set_cons_zero, List.set_cons_succ]
  refine wpAnyH_take (i := 22) (v := ?v22_13) rfl (by kernel_rfl) (by kernel_rfl) (by kernel_rfl) (fun _ _ _ h => h) (Or.inl ⟨by rfl, ?y22_13⟩) (by assumption) ?r22_13
  case y22_13 => (intro w hSw; (try dsimp only at hSw); go_simp; first | done | with_reducible rfl)
  try simp only [Act.put, List.getElem_toArray, List.getElem_cons_succ, List.getElem_cons_zero, List.setIfInBounds_toArray, List.set_cons_zero, List.set_cons_succ]
  refine wpAnyH_take (i := 23) (v := ?v23_14) rfl (by kernel_rfl) (by kernel_rfl) (by kernel_rfl) (fun _ _ _ h => h) (Or.inl ⟨by rfl, ?y23_14⟩) (by assumption) ?r23_14
  case y23_14 => (intro w hSw; (try dsimp only at hSw); go_simp; first | done | with_reducible rfl)
  try simp only [Act.put, List.getElem_toArray, List.getElem_cons_succ, List.getElem_cons_zero, List.setIfInBounds_toArray, List.set_cons_zero, List.set_cons_succ]
  refine wpAnyH_take (i := 24) (v := ?v24_15) rfl (by kernel_rfl) (by kernel_rfl) (by kernel_rfl) (fun _ _ _ h => h) (Or.inl ⟨by rfl, ?y24_15⟩) (by assumption) ?r24_15
  case y24_15 => (intro w hSw; (try dsimp only at hSw); go_simp; first | done | with_reducible rfl)
  try simp only [Act.put, List.getElem_toArray, List.getElem_cons_succ, List.getElem_cons_zero, List.setIfInBounds_toArray, List.set_cons_zero, List.set_cons_succ]
  refine wpAnyH_take (i := 25) (v := ?v25_16) rfl (by kernel_rfl) (by kernel_rfl) (by kernel_rfl) (fun _ _ _ h => h) (Or.inl ⟨by rfl, ?y25_16⟩) (by assumption) ?r25_16
  case y25_16 => (intro w hSw; (try dsimp only at hSw); have d1 := kp_kc0 C0.out hSw; go_simp; first | done | with_reducible rfl)
  try simp only [Act.put, List.getElem_toArray, List.getElem_cons_succ, List.getElem_cons_zero, List.setIfInBounds_toArray, List.set_cons_zero, List.set_cons_succ]
  refine wpAnyH_take (i := 26) (v := ?v26_17) rfl (by kernel_rfl) (by kernel_rfl) (by kernel_rfl) (fun _ _ _ h => h) (Or.inl ⟨by rfl, ?y26_17⟩) (by assumption) ?r26_17
  case y26_17 => (intro w hSw; (try dsimp only at hSw); go_simp; first | done | with_reducible rfl)
  try simp only [Act.put, List.getElem_toArray, List.getElem_cons_succ, List.getElem_cons_zero, List.setIfInBounds_toArray, List.set_cons_zero, List.set_cons_succ]
  refine wpAnyH_take (i := 27) (v := ?v27_18) rfl (by kernel_rfl) (by kernel_rfl) (by kernel_rfl) (fun _ _ _ h => h) (Or.inl ⟨by rfl, ?y27_18⟩) (by assumption) ?r27_18
  case y27_18 => (intro w hSw; (try dsimp only at hSw); go_simp; first | done | with_reducible rfl)
  try simp only [Act.put, List.getElem_toArray, List.getElem_cons_succ, List.getElem_cons_zero, List.setIfInBounds_toArray, List.set_cons_zero, List.set_cons_succ]
  refine wpAnyH_take (i := 28) (v := ?v28_19) rfl (by kernel_rfl) (by kernel_rfl) (by kernel_rfl) (fun _ _ _ h => h) (Or.inl ⟨by rfl, ?y28_19⟩) (by assumption) ?r28_19
  case y28_19 => (intro w hSw; (try dsimp only at hSw); go_simp; first | done | with_reducible rfl)
  try simp only [Act.put, List.getElem_toArray, List.getElem_cons_succ, List.getElem_cons_zero, List.setIfInBounds_toArray, List.set_cons_zero, List.set_cons_succ]
  refine wpAnyH_done (by kernel_rfl) ?_ _
  go_wp2_with fail
  refine (cnext g s W.drew (H.out.none_kept K2.out.drew) hc).mono ?_
  rintro ev x4 ⟨rfl, hcm, k4⟩
  have B10 := Lib.hid (Bk.kept (w := W.drew) B10.out k4 (fun hk => by rcases hk.2 77 _ B10.out with e | e <;> exact absurd e (by decide)))
  have KW := Lib.hid (H.out.back (s1 := s) (K2.out.drew.mono (fun _ f => f.elim)) (fun b hb => .inl hb) k4)
  have HC := Lib.hid hcm
  have XB := Lib.hid (show ∀ b, cfp g { s with count := s.count + 1 } b → b ≠ w.heap.size from fun b hb e => by have := H.out.lt (show cfp g s b from hb); omega)
  have c41 : x4.cell? ⟨w.heap.size, 1, none⟩ = some (.int .i64 (o : Int)) := B10.out.cell 1
  have f41 : x4.frozen? ⟨w.heap.size, 1, none⟩ = false := B10.out.frozen 1
  have HLN := Lib.hid (And.intro hlt (And.intro hroom hpat))
  clear hcm k4 K2 LEN HM2 C10 C0 C1 C5 hge hlt hroom hpat
  go_wp2_with fail
  have b5 : Bk (x4.setCell ⟨w.heap.size, 1, none⟩ (.int .i64 ((s.count : Int) + 1))) w.heap.size 77 #[.slice A 0 c, .int .i64 ((s.count : Int) + 1)] := B10.out.put 1 (.int .i64 ((s.count : Int) + 1))
  have k5 : Kp (fun b => b = w.heap.size) x4 (x4.setCell ⟨w.heap.size, 1, none⟩ (.int .i64 ((s.count : Int) + 1))) := (Kp.refl (fun b => b = w.heap.size) x4).setCell (p := ⟨w.heap.size, 1, none⟩) (.inl rfl) _
  have HC5 := Lib.hid (HC.out.kept k5 (fun b hb e => XB.out b hb e) (fun b cs hb e => by
    have e : b = w.heap.size := e
    subst e
    have h1 := B10.out
    unfold Bk at h1 hb
    rw [hb] at h1
    injection h1 with h1
    injection h1 with _ h1
    exact absurd h1 (by decide)))
  have KW5 := Lib.hid (KW.out.setCell (p := ⟨w.heap.size, 1, none⟩) (.inr (Nat.le_refl _)) (.int .i64 ((s.count : Int) + 1)))
  have B5x := Lib.hid b5
  clear b5 k5 c41 f41 KW HC B10
  generalize x4.setCell ⟨w.heap.size, 1, none⟩ (.int .i64 ((s.count : Int) + 1)) = x5 at *
  obtain ⟨dd, hdd⟩ : ∃ dd, min now MT + s.pat = dd := ⟨_, rfl⟩
  obtain ⟨mn, hmn⟩ : ∃ mn, min now MT = mn := ⟨_, rfl⟩
  have hmin : (min (now : Int) 2305843009213693952) = (mn : Int) := by rw [← hmn]; unfold MT; omega
  have hlf := HLN.out.2.2
  have hadd : IntKind.u64.wrap ((mn : Int) + (s.pat : Int)) = (dd : Int) := by
    show ((mn : Int) + (s.pat : Int)) % 18446744073709551616 = _
    have : mn ≤ 2305843009213693952 := by rw [← hmn]; unfold MT; omega
    omega
  have HDD := Lib.hid (And.intro hdd (show dd ≤ TOP by
    have : mn ≤ 2305843009213693952 := by rw [← hmn]; unfold MT; omega
    unfold TOP; omega))
  clear hdd hmn
  have hcv : IntKind.i64.wrap (i : Int) = (i : Int) := IntWalk.i64_in _ (by omega)
  have L5 : Hid (Whl s.F2 x5 s.gw 0 s.R2) := Lib.hid HC5.out.ww
  have BG5 := Lib.hid HC5.out.bk
  refine wp_region_held_drew (S := (fun w' => w'.cell? ⟨g, 7, none⟩ = some (.pointer (some ⟨s.gw, 0, none⟩)) ∧ w'.cell? ⟨g, 3, none⟩ = some (.int .u64 (s.pat : Int)))) (by kernel_rfl) (⟨(BG5.out.cell 7).trans rfl, (BG5.out.cell 3).trans rfl⟩) (fun hHeld => ?_)
  refine wpAnyH_take (i := 0) (v := ?v0_20) rfl (by kernel_rfl) (by kernel_rfl) (by kernel_rfl) (fun _ _ _ h => h) (Or.inl ⟨by rfl, ?y0_20⟩) (by assumption) ?r0_20
  case y0_20 => (intro w hSw; (try dsimp only at hSw); go_simp; first | done | with_reducible rfl)
  try simp only [Act.put, List.getElem_toArray, List.getElem_cons_succ, List.getElem_cons_zero, List.setIfInBounds_toArray, List.set_cons_zero, List.set_cons_succ]
  refine wpAnyH_take (i := 1) (v := ?v1_21) rfl (by kernel_rfl) (by kernel_rfl) (by kernel_rfl) (fun _ _ _ h => h) (Or.inl ⟨by rfl, ?y1_21⟩) (by assumption) ?r1_21
  case y1_21 => (intro w hSw; (try dsimp only at hSw); go_simp; first | done | with_reducible rfl)
  try simp only [Act.put, List.getElem_toArray, List.getElem_cons_succ, List.getElem_cons_zero, List.setIfInBounds_toArray, List.set_cons_zero, List.set_cons_succ]
  refine wpAnyH_take (i := 2) (v := ?v2_22) rfl (by kernel_rfl) (by kernel_rfl) (by kernel_rfl) (fun _ _ _ h => h) (Or.inl ⟨by rfl, ?y2_22⟩) (by assumption) ?r2_22
  case y2_22 => (intro w hSw; (try dsimp only at hSw); go_simp; first | done | with_reducible rfl)
  try simp only [Act.put, List.getElem_toArray, List.getElem_cons_succ, List.getElem_cons_zero, List.setIfInBounds_toArray, List.set_cons_zero, List.set_cons_succ]
  refine wpAnyH_take (i := 3) (v := ?v3_23) rfl (by kernel_rfl) (by kernel_rfl) (by kernel_rfl) (fun _ _ _ h => h) (Or.inl ⟨by rfl, ?y3_23⟩) (by assumption) ?r3_23
  case y3_23 => (intro w hSw; (try dsimp only at hSw); have d1 := hSw.1; go_simp; first | done | with_reducible rfl)
  try simp only [Act.put, List.getElem_toArray, List.getElem_cons_succ, List.getElem_cons_zero, List.setIfInBounds_toArray, List.set_cons_zero, List.set_cons_succ]
  refine wpAnyH_take (i := 4) (v := ?v4_24) rfl (by kernel_rfl) (by kernel_rfl) (by kernel_rfl) (fun _ _ _ h => h) (Or.inl ⟨by rfl, ?y4_24⟩) (by assumption) ?r4_24
  case y4_24 => (intro w hSw; (try dsimp only at hSw); go_simp; first | done | with_reducible rfl)
  try simp only [Act.put, List.getElem_toArray, List.getElem_cons_succ, List.getElem_cons_zero, List.setIfInBounds_toArray, List.set_cons_zero, List.set_cons_succ]
  refine wpAnyH_take (i := 5) (v := ?v5_25) rfl (by kernel_rfl) (by kernel_rfl) (by kernel_rfl) (fun _ _ _ h => h) (Or.inl ⟨by rfl, ?y5_25⟩) (by assumption) ?r5_25
  case y5_25 => (intro w hSw; (try dsimp only at hSw); go_simp; first | done | with_reducible rfl)
  try simp only [Act.put, List.getElem_toArray, List.getElem_cons_succ, List.getElem_cons_zero, List.setIfInBounds_toArray, List.set_cons_zero, List.set_cons_succ]
  refine wpAnyH_take (i := 6) (v := ?v6_26) rfl (by kernel_rfl) (by kernel_rfl) (by kernel_rfl) (fun _ _ _ h => h) (Or.inl ⟨by rfl, ?y6_26⟩) (by assumption) ?r6_26
  case y6_26 => (intro w hSw; (try dsimp only at hSw); go_simp; first | done | with_reducible rfl)
  try simp only [Act.put, List.getElem_toArray, List.getElem_cons_succ, List.getElem_cons_zero, List.setIfInBounds_toArray, List.set_cons_zero, List.set_cons_succ]
  refine wpAnyH_take (i := 7) (v := ?v7_27) rfl (by kernel_rfl) (by kernel_rfl) (by kernel_rfl) (fun _ _ _ h => h) (Or.inl ⟨by rfl, ?y7_27⟩) (by assumption) ?r7_27
  case y7_27 => (intro w hSw; (try dsimp only at hSw); go_simp; first | done | with_reducible rfl)
  try simp only [Act.put, List.getElem_toArray, List.getElem_cons_succ, List.getElem_cons_zero, List.setIfInBounds_toArray, List.set_cons_zero, List.set_cons_succ]
  refine wpAnyH_take (i := 8) (v := ?v8_28) rfl (by kernel_rfl) (by kernel_rfl) (by kernel_rfl) (fun _ _ _ h => h) (Or.inl ⟨by rfl, ?y8_28⟩) (by assumption) ?r8_28
  case y8_28 => (intro w hSw; (try dsimp only at hSw); go_simp; first | done | with_reducible rfl)
  try simp only [Act.put, List.getElem_toArray, List.getElem_cons_succ, List.getElem_cons_zero, List.setIfInBounds_toArray, List.set_cons_zero, List.set_cons_succ]
  refine wpAnyH_take (i := 9) (v := ?v9_29) rfl (by kernel_rfl) (by kernel_rfl) (by kernel_rfl) (fun _ _ _ h => h) (Or.inl ⟨by rfl, ?y9_29⟩) (by assumption) ?r9_29
  case y9_29 => (intro w hSw; (try dsimp only at hSw); go_simp; first | done | with_reducible rfl)
  try simp only [Act.put, List.getElem_toArray, List.getElem_cons_succ, List.getElem_cons_zero, List.setIfInBounds_toArray, List.set_cons_zero, List.set_cons_succ]
  refine wpAnyH_take (i := 10) (v := ?v10_30) rfl (by kernel_rfl) (by kernel_rfl) (by kernel_rfl) (fun _ _ _ h => h) (Or.inl ⟨by rfl, ?y10_30⟩) (by assumption) ?r10_30
  case y10_30 => (intro w hSw; (try dsimp only at hSw); go_simp; first | done | with_reducible rfl)
  try simp only [Act.put, List.getElem_toArray, List.getElem_cons_succ, List.getElem_cons_zero, List.setIfInBounds_toArray, List.set_cons_zero, List.set_cons_succ]
  refine wpAnyH_take (i := 11) (v := ?v11_31) rfl (by kernel_rfl) (by kernel_rfl) (by kernel_rfl) (fun _ _ _ h => h) (Or.inl ⟨by rfl, ?y11_31⟩) (by assumption) ?r11_31
  case y11_31 => (intro w hSw; (try dsimp only at hSw); go_simp; first | done | with_reducible rfl)
  try simp only [Act.put, List.getElem_toArray, List.getElem_cons_succ, List.getElem_cons_zero, List.setIfInBounds_toArray, List.set_cons_zero, List.set_cons_succ]
  refine wpAnyH_take (i := 12) (v := ?v12_32) rfl (by kernel_rfl) (by kernel_rfl) (by kernel_rfl) (fun _ _ _ h => h) (Or.inl ⟨by rfl, ?y12_32⟩) (by assumption) ?r12_32
  case y12_32 => (intro w hSw; (try dsimp only at hSw); have d1 := hSw.2; go_simp; first | done | with_reducible rfl)
  try simp only [Act.put, List.getElem_toArray, List.getElem_cons_succ, List.getElem_cons_zero, List.setIfInBounds_toArray, List.set_cons_zero, List.set_cons_succ]
  refine wpAnyH_take (i := 13) (v := ?v13_33) rfl (by kernel_rfl) (by kernel_rfl) (by kernel_rfl) (fun _ _ _ h => h) (Or.inl ⟨by rfl, ?y13_33⟩) (by assumption) ?r13_33
  case y13_33 => (intro w hSw; (try dsimp only at hSw); go_simp; first | done | with_reducible rfl)
  try simp only [Act.put, List.getElem_toArray, List.getElem_cons_succ, List.getElem_cons_zero, List.setIfInBounds_toArray, List.set_cons_zero, List.set_cons_succ]
  refine wpAnyH_ready (rs := [14]) (by kernel_rfl) (by simp) ?_
  refine AllReadyH.cons rfl (fun K hK => ?_) AllReadyH.nil
  go_simp
  with_reducible refine (wset s.F2 s.gw 0 s.R2 (i : Int) dd _ (L5.out.none_kept ((Kp.refl _ _).drew)) (by omega)).mono ?_
  rintro ev x6 ⟨rfl, h6, k6⟩
  have W6 := Lib.hid h6
  have K6x := Lib.hid (show Kp (FK s.F2 x5) x5 x6 from ⟨k6.os, k6.tape, k6.output, k6.size, k6.block⟩)
  have BG6 := Lib.hid (BG5.out.kept K6x.out (FK.not BG5.out (by decide)))
  clear h6 k6
  try dsimp only
  refine hK.out _ _ (⟨(BG6.out.cell 7).trans rfl, (BG6.out.cell 3).trans rfl⟩) (fun hHeld => ?_)
  clear hK K
  try simp only [Act.put, List.getElem_toArray, List.getElem_cons_succ, List.getElem_cons_zero, List.setIfInBounds_toArray, List.set_cons_zero, List.set_cons_succ]
  refine wpAnyH_done (by kernel_rfl) ?_ _
  have B10 := Lib.hid (B5x.out.kept K6x.out (FK.not B5x.out (by decide)))
  have c10 : x6.cell? ⟨w.heap.size, 0, none⟩ = some (.slice A 0 c) := B10.out.cell 0
  have UMx := Lib.hid (HC5.out.rm.kept K6x.out (fun hf => HC5.out.r2 hf.1))
  have K3 := Lib.hid (H.out.back (s1 := { s with count := s.count + 1 }) KW5.out (fun b hb => .inl hb) (K6x.out.mono (T := CK g { s with count := s.count + 1 } x5) (fun b hb => ⟨.inr (.inr (.inr (.inr hb.1))), fun t cs ht => .inr (hb.2 t cs ht)⟩)))
  have HAW := Lib.hid (HA.out.kp K3.out (fun b o cs _ hb => CM.no3 b hb))
  have hl0 : ([] : List Int).length ≤ 1000000 := by simp
  have hnn : ([] : List Int).length = 0 := rfl
  go_wp2_with fail
  clear c10
  have CC := cclone A c ([] : List Int) x6 HAW.out hl0 HN.out
  try rw [hnn] at CC
  refine CC.mono ?_
  rintro ev w4 ⟨v, rfl, own4, k4⟩
  obtain ⟨i0, hi0, hz0, hz1, hz2⟩ := info_parts (show (Tryz.prog.info? 3).map (fun i => (i.zero, i.size, i.bytes)) = some (some (.int .i64 0), 1, 8) by kernel_rfl)
  have hmx : (1000000 : Nat) < maxLen := by decide
  have O4 := Lib.hid own4
  have K4 := Lib.hid k4
  clear own4 k4 CC
  go_wp2_with
    (at_builtin
     go_must (
       refine wpList_append_own _ rfl (.tmp 72) (.tmp 74) 35 rfl x6.heap.size 3 i0 _ 1 8 Tryz.underlying35 hi0 hz0 hz1 hz2 rfl (by omega) _ 0 (intsK .i64 ([] : List Int)) rfl (O4.out.alloc _) ⟨w4.heap.size, 0, none⟩ 1 1 [.int .i64 t] rfl rfl (cell_one_new _ _ _) (by simp [Value.oneCell']) (by omega) (by omega) (by have := K4.out.size; simp; omega) ?_
       intro v5 w5 own5 hgrow5 _
       have K5 := Lib.hid ((K4.out.alloc (.cells #[.int .i64 t] 3)).grown hgrow5 (fun k hk => .inr ((O4.out.lt k hk).1)))
       obtain ⟨LL, hLL⟩ : ∃ LL : List Int, LL = ([] : List Int) ++ [t] := ⟨_, rfl⟩
       have own5' : w5.ownsRow x6.heap.size 3 1 v5 (0 + 1) (intsK .i64 LL) := by rw [hLL]; simpa [intsK] using own5
       obtain ⟨A2, c2, e5, hA2, hbA⟩ := RdN.of_own own5'
       have HBA := Lib.hid (show ∀ b o, A2 = some ⟨b, o, none⟩ → w.heap.size ≤ b from fun b o e => Nat.le_trans K3.out.size (hbA b o e))
       clear hbA
       subst e5
       have hN2 : A2 = none → c2 = 0 := fun e => by
         subst e
         rcases hA2.1.2 with h | ⟨_, _, h, _⟩
         · rw [hLL] at h; simp at h
         · cases h
       have HA2 := Lib.hid hA2
       have HN2 := Lib.hid hN2
       have HLL := Lib.hid hLL
       have b5 := B10.out.kept K5.out (fun f => f)
       have c50 : w5.cell? ⟨w.heap.size, 0, none⟩ = some _ := b5.cell 0
       have f50 : w5.frozen? ⟨w.heap.size, 0, none⟩ = false := b5.frozen 0
       have B5 := Lib.hid b5
       clear own5 own5' hgrow5 hA2 hN2 hLL b5))
  have b6 : Bk (w5.setCell ⟨w.heap.size, 0, none⟩ (.slice A2 LL.length c2)) w.heap.size 77 #[.slice A2 LL.length c2, .int .i64 ((s.count : Int) + 1)] := B5.out.put 0 (.slice A2 LL.length c2)
  have k6 : Kp (fun b => b = w.heap.size) w5 (w5.setCell ⟨w.heap.size, 0, none⟩ (.slice A2 LL.length c2)) := (Kp.refl (fun b => b = w.heap.size) w5).setCell (p := ⟨w.heap.size, 0, none⟩) (.inl rfl) _
  have HA6 := Lib.hid (HA2.out.kp k6 (fun b o cs _ hb e => by
    have e : b = w.heap.size := e
    subst e
    have h1 := B5.out
    unfold Bk at h1 hb
    rw [hb] at h1
    injection h1 with h1
    injection h1 with _ h1
    exact absurd h1 (by decide)))
  have KX6 := Lib.hid ((K5.out.mono (T := fun b => b = w.heap.size) (fun _ f => f.elim)).trans' k6)
  have KS6 := Lib.hid ((K3.out.trans K5.out (fun _ _ f => f.elim)).setCell (p := ⟨w.heap.size, 0, none⟩) (.inr (Nat.le_refl _)) (.slice A2 LL.length c2))
  have B6 := Lib.hid b6
  clear b6 k6 HA2 B5 c50 f50
  generalize w5.setCell ⟨w.heap.size, 0, none⟩ (.slice A2 LL.length c2) = w6 at *
  have BK6 := Lib.hid (BG6.out.kept KX6.out (fun e => XB.out g (.inl rfl) e))
  have UM6 := Lib.hid (UMx.out.kept KX6.out (fun e => XB.out _ (.inr (.inr (.inl rfl))) e))
  refine wp_region_held_drew (S := (fun w' => w'.cell? ⟨g, 5, none⟩ = some (.map (some s.rb)) ∧ Bk w' w.heap.size 77 #[.slice A2 LL.length c2, .int .i64 ((s.count : Int) + 1)])) (by kernel_rfl) (⟨(BK6.out.cell 5).trans rfl, B6.out⟩) (fun hHeld => ?_)
  refine wpAnyH_take (i := 0) (v := ?v0_34) rfl (by kernel_rfl) (by kernel_rfl) (by kernel_rfl) (fun _ _ _ h => h) (Or.inl ⟨by rfl, ?y0_34⟩) (by assumption) ?r0_34
  case y0_34 => (intro w hSw; (try dsimp only at hSw); go_simp; first | done | with_reducible rfl)
  try simp only [Act.put, List.getElem_toArray, List.getElem_cons_succ, List.getElem_cons_zero, List.setIfInBounds_toArray, List.set_cons_zero, List.set_cons_succ]
  refine wpAnyH_take (i := 1) (v := ?v1_35) rfl (by kernel_rfl) (by kernel_rfl) (by kernel_rfl) (fun _ _ _ h => h) (Or.inl ⟨by rfl, ?y1_35⟩) (by assumption) ?r1_35
  case y1_35 => (intro w hSw; (try dsimp only at hSw); go_simp; first | done | with_reducible rfl)
  try simp only [Act.put, List.getElem_toArray, List.getElem_cons_succ, List.getElem_cons_zero, List.setIfInBounds_toArray, List.set_cons_zero, List.set_cons_succ]
  refine wpAnyH_take (i := 2) (v := ?v2_36) rfl (by kernel_rfl) (by kernel_rfl) (by kernel_rfl) (fun _ _ _ h => h) (Or.inl ⟨by rfl, ?y2_36⟩) (by assumption) ?r2_36
  case y2_36 => (intro w hSw; (try dsimp only at hSw); go_simp; first | done | with_reducible rfl)
  try simp only [Act.put, List.getElem_toArray, List.getElem_cons_succ, List.getElem_cons_zero, List.setIfInBounds_toArray, List.set_cons_zero, List.set_cons_succ]
  refine wpAnyH_take (i := 3) (v := ?v3_37) rfl (by kernel_rfl) (by kernel_rfl) (by kernel_rfl) (fun _ _ _ h => h) (Or.inl ⟨by rfl, ?y3_37⟩) (by assumption) ?r3_37
  case y3_37 => (intro w hSw; (try dsimp only at hSw); have d1 := hSw.1; go_simp; first | done | with_reducible rfl)
  try simp only [Act.put, List.getElem_toArray, List.getElem_cons_succ, List.getElem_cons_zero, List.setIfInBounds_toArray, List.set_cons_zero, List.set_cons_succ]
  refine wpAnyH_take (i := 4) (v := ?v4_38) rfl (by kernel_rfl) (by kernel_rfl) (by kernel_rfl) (fun _ _ _ h => h) (Or.inl ⟨by rfl, ?y4_38⟩) (by assumption) ?r4_38
  case y4_38 => (intro w hSw; (try dsimp only at hSw); go_simp; first | done | with_reducible rfl)
  try simp only [Act.put, List.getElem_toArray, List.getElem_cons_succ, List.getElem_cons_zero, List.setIfInBounds_toArray, List.set_cons_zero, List.set_cons_succ]
  refine wpAnyH_take (i := 5) (v := ?v5_39) rfl (by kernel_rfl) (by kernel_rfl) (by kernel_rfl) (fun _ _ _ h => h) (Or.inl ⟨by rfl, ?y5_39⟩) (by assumption) ?r5_39
  case y5_39 => (intro w hSw; (try dsimp only at hSw); have d0 := hSw.2.cell 0; have d1 := hSw.2.cell 1; go_simp; first | done | with_reducible rfl)
  try simp only [Act.put, List.getElem_toArray, List.getElem_cons_succ, List.getElem_cons_zero, List.setIfInBounds_toArray, List.set_cons_zero, List.set_cons_succ]
  refine wpAnyH_ready (rs := [6]) (by kernel_rfl) (by simp) ?_
  refine AllReadyH.cons rfl (fun K hK => ?_) AllReadyH.nil
  have um6 : UMap w6.drew s.rb s.rc s.RL := UM6.out.kept ((Kp.refl (fun _ => False) w6).drew) (fun f => f)
  obtain ⟨w7, c7, hrun7, u7, k7⟩ := um6.run_update (P := Tryz.prog) (T := 66) (E := 77) (K := 30) Tryz.underlying66 Tryz.underlying30 (i : Int) (.agg #[.slice A2 LL.length c2, .int .i64 ((s.count : Int) + 1)])
  have U7 := Lib.hid u7
  have K7 := Lib.hid k7
  have BG7 := Lib.hid (Bk.kept (w := w6.drew) BK6.out k7 H.out.g_ne_r)
  have B7 := Lib.hid (Bk.kept (w := w6.drew) B6.out k7 (fun e => not_map_bk um6 (show Bk w6.drew s.rb 77 _ from by have e : w.heap.size = s.rb := e; have hq := B6.out; rw [e] at hq; exact hq)))
  clear u7 k7 um6
  go_simp
  refine hK.out _ _ (⟨(BG7.out.cell 5).trans rfl, B7.out⟩) (fun hHeld => ?_)
  clear hK K
  try simp only [Act.put, List.getElem_toArray, List.getElem_cons_succ, List.getElem_cons_zero, List.setIfInBounds_toArray, List.set_cons_zero, List.set_cons_succ]
  refine wpAnyH_done (by kernel_rfl) ?_ _
  go_wp2_with fail
  have e := HLL.out
  subst e
  have hse : setE s.R2 (i : Int) dd = 0 := by
    unfold setE
    have hlr : s.R2.length ≤ 1000 := by
      have hq : s.R2.length = _ := HC5.out.rr.len HC5.out.rs
      rw [hq]
      show s.rows.length ≤ 1000
      have := HLN.out.1; have := HLN.out.2.1; omega
    rw [if_neg (Nat.not_lt.2 HDD.out.2), if_neg (fun hh => by omega)]
  have h6 := W6.out
  unfold setR at h6
  rw [if_pos hse] at h6
  have hrs : IS (s.count + 1) (s.rows ++ [(⟨i, [t], s.count + 1, dd⟩ : Rw)]) := H.out.rs.add HX.out rfl
  have J := CM.began2 (x := ⟨i, [t], s.count + 1, dd⟩) (c := c2) (A := A2) HC5.out HX.out XB.out B5x.out hrs h6 K6x.out (KX6.out.drew) HA6.out HN2.out U7.out K7.out
  have hd := HDD.out.1
  refine bodyPost_ret (results_tmp2 rfl _ _ _) rfl ⟨rfl, _, J.1, ⟨rfl, rfl, rfl, rfl, rfl, rfl, by rw [hd]; rfl⟩, KW5.out.trans J.2.1 (fun b hb hk => ?_), fun b hb => ?_, A2, c2, _, rfl, HBA.out⟩
  · rcases hk with hk | hk
    · refine ⟨hk.1, fun t cs ht => ?_⟩
      by_cases hc : CK g s w b
      · exact hc.2 t cs ht
      · exact hk.2 t cs (ht.kept KW5.out hc)
    · have hk : b = w.heap.size := hk
      omega
  · rcases J.2.2 b hb with h | h
    · exact .inl h
    · exact .inr (Nat.le_trans KW5.out.size h)
end Go.Proofs.YtgidjgkafbjkpaaGreatDoor
