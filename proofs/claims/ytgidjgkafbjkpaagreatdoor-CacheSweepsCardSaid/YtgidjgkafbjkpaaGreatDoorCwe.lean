/- Cache: Learn. -/
import Derived.Test.YtgidjgkafbjkpaaGreatDoorCwd
set_option linter.unusedVariables false
set_option linter.unusedSimpArgs false
namespace Go.Proofs.YtgidjgkafbjkpaaGreatDoor
open Go.RowKit

/-- What learn leaves. -/
structure Lrn (s : CS) (i : Nat) (m : M6) (now : Nat) (s' : CS) : Prop where
  room : s'.room = s.room
  wait : s'.wait = s.wait
  life : s'.life = s.life
  pat : s'.pat = s.pat
  count : s'.count = s.count + 1
  ents : s'.ents = base s.room i s.ents ++ [⟨i, m, s.count + 1, min now MT + s.life⟩]
  rows : s'.rows = idel i s.rows
  RL : s'.RL = mdel (i : Int) s.RL
def LrnPost (g i now : Nat) (m : M6) (s : CS) (w w' : World) (ev : Ending) : Prop :=
  ∃ A c s', ev = .returned (.slice A (tokof s.rows i).length c) ∧ RdN w' A (tokof s.rows i) ∧ CM w' g s' ∧ Lrn s i m now s' ∧ Kp (CK g s w) w w' ∧ ∀ b, cfp g s' b → cfp g s b ∨ w.heap.size ≤ b
theorem CK.mono_kp {g : Nat} {s : CS} {w w1 w2 : World} {s1 : CS} (h : Kp (CK g s w) w w1) (hs : ∀ b, cfp g s1 b → cfp g s b ∨ w.heap.size ≤ b) (hb : ∀ b, b < w.heap.size → ∀ t cs, Bk w b t cs → (∀ t' cs', Bk w1 b t' cs' → t' = 68 ∨ t' = 113) → t = 68 ∨ t = 113) (k : Kp (CK g s1 w1) w1 w2) : Kp (CK g s w) w w2 := by
  refine h.trans k (fun b hlt hk => ⟨?_, fun t cs ht => hb b hlt t cs ht hk.2⟩)
  rcases hs b hk.1 with hc | hc
  · exact hc
  · omega
theorem CM.back {g : Nat} {s : CS} {w w1 w2 : World} {s1 : CS} (hcm : CM w g s) (h : Kp (CK g s w) w w1) (hs : ∀ b, cfp g s1 b → cfp g s b ∨ w.heap.size ≤ b) (k : Kp (CK g s1 w1) w1 w2) : Kp (CK g s w) w w2 := by
  refine CK.mono_kp h hs (fun b hlt t cs ht h1 => ?_) k
  by_cases hc : CK g s w b
  · exact hc.2 t cs ht
  · exact h1 t cs (ht.kept h hc)
theorem base_there {room i : Nat} {l : List En} (h : (iget i l).isSome = true) (y : En) : idel i l ++ [y] = base room i l ++ [y] := by
  unfold base
  rw [if_pos h]
theorem base_new {room i : Nat} {l : List En} (h : (iget i l).isSome = false) (hr : l.length < room) (y : En) : idel i l ++ [y] = base room i l ++ [y] := by
  unfold base
  have h0 : iget i l = none := by cases hg : iget i l with | none => rfl | some x => rw [hg] at h; cases h
  rw [if_neg (by rw [h]; decide), if_neg (by omega), idel_none h0]
theorem base_full {n room i : Nat} {x : En} {l l0 : List En} (hs : IS n l0) (h : (iget i l0).isSome = false) (he : l0 = x :: l) (hr : room ≤ l0.length) (y : En) : idel i (idel x.ip l0) ++ [y] = base room i l0 ++ [y] := by
  subst he
  have h0 : iget i (x :: l) = none := by cases hg : iget i (x :: l) with | none => rfl | some x => rw [hg] at h; cases h
  unfold base
  rw [if_neg (by rw [h]; decide), if_pos hr, hs.head_del]
  have : iget i l = none := iget_none.2 (fun z hz => iget_none.1 h0 z (List.mem_cons_of_mem _ hz))
  rw [idel_none this]
  rfl
set_option maxRecDepth 1000000 in
set_option maxHeartbeats 16000000 in
theorem learn_t (g i now m1 m2 m3 m4 m5 m6 : Nat) (s : CS) (w : World) (h : CM w g s) (hi : i < 4294967296) (hc : s.count < 1000000) (hroom : s.room ≤ 1000) (hlen : s.ents.length ≤ s.room) (hlife : s.life ≤ 4294967296) (hex : (iget i s.ents).isSome = true) :
    Calls Tryz.prog 9 #[.pointer (some ⟨g, 0, none⟩), .int .u32 (i : Int), .agg (macC m1 m2 m3 m4 m5 m6), .int .u64 (now : Int)] w fun ev w' => LrnPost g i now ⟨m1, m2, m3, m4, m5, m6⟩ s w w' ev := by
  have k1 : Kp (fun _ => False) w (w.alloc (.cells (macC m1 m2 m3 m4 m5 m6) 32)) := (Kp.refl _ w).alloc _
  have b6 : Bk (w.alloc (.cells (macC m1 m2 m3 m4 m5 m6) 32)) w.heap.size 32 (macC m1 m2 m3 m4 m5 m6) := Bk.new w 32 _
  have z4 : (w.alloc (.cells (macC m1 m2 m3 m4 m5 m6) 32)).cell? ⟨g, 4, none⟩ = some (.map (some s.eb)) := ((h.none_kept k1).bk.cell 4).trans rfl
  obtain ⟨m, o, hlk, hs, _, _⟩ := h.look_ent i
  obtain ⟨n1, n2, n3, n4, n5, n6⟩ := m
  have LK : (Instr.lookup 65 (.map (some s.eb)) (.int .u32 (i : Int)) true).run Tryz.prog (w.alloc (.cells (macC m1 m2 m3 m4 m5 m6) 32)) = .ok (.tuple #[.agg #[.int .u8 (n1 : Int), .int .u8 (n2 : Int), .int .u8 (n3 : Int), .int .u8 (n4 : Int), .int .u8 (n5 : Int), .int .u8 (n6 : Int), .int .i64 (o : Int)], .bool true]) (w.alloc (.cells (macC m1 m2 m3 m4 m5 m6) 32)) := by
    have := ((h.none_kept k1).em.run_lookup (P := Tryz.prog) (T := 65) (E := 70) (K := 30) Tryz.underlying65 Tryz.underlying30 (z := .agg #[.int .u8 0, .int .u8 0, .int .u8 0, .int .u8 0, .int .u8 0, .int .u8 0, .int .i64 0]) (by kernel_rfl) (i : Int)).2
    rw [hlk, hs, hex] at this
    exact this
  have H := Lib.hid h
  have LEN := Lib.hid (fun (w' : World) (k : Kp (fun _ => False) w w') => show (Builtin.len_ #[65] 3 #[.map (some s.eb)]).run Tryz.prog w' = .ok (.int .i64 (s.ents.length : Int)) w' by
    have := (H.out.em.kept k (fun f => f)).run_len (P := Tryz.prog) (T := 65) (E := 70) (K := 30) Tryz.underlying65 3
    rw [H.out.eh.len] at this
    exact this)
  have C4 := Lib.hid (show w.cell? ⟨g, 4, none⟩ = some (.map (some s.eb)) from (h.bk.cell 4).trans rfl)
  have C0 := Lib.hid (show w.cell? ⟨g, 0, none⟩ = some (.int .i64 (s.room : Int)) from (h.bk.cell 0).trans rfl)
  have HEX := Lib.hid hex
  have HB6 := Lib.hid b6
  have K1 := Lib.hid k1
  have HLN := Lib.hid (And.intro hroom (And.intro hlen hlife))
  clear h hlk hs hex b6 k1 hroom hlen hlife
  go_enter Tryz.func9, Tryz.ntmps9
  go_wp2_with fail
  have B6 := Lib.hid (HB6.out.kept ((Kp.refl (fun _ => False) _).alloc (.cells #[.int .u8 (n1 : Int), .int .u8 (n2 : Int), .int .u8 (n3 : Int), .int .u8 (n4 : Int), .int .u8 (n5 : Int), .int .u8 (n6 : Int), .int .i64 (o : Int)] 70)) (fun f => f))
  have K2 := Lib.hid (K1.out.alloc (.cells #[.int .u8 (n1 : Int), .int .u8 (n2 : Int), .int .u8 (n3 : Int), .int .u8 (n4 : Int), .int .u8 (n5 : Int), .int .u8 (n6 : Int), .int .i64 (o : Int)] 70))
  clear HB6 K1 LK z4
  generalize (w.alloc (.cells (macC m1 m2 m3 m4 m5 m6) 32)).alloc (.cells #[.int .u8 (n1 : Int), .int .u8 (n2 : Int), .int .u8 (n3 : Int), .int .u8 (n4 : Int), .int .u8 (n5 : Int), .int .u8 (n6 : Int), .int .i64 (o : Int)] 70) = W at *
  refine wp_region_held_drew (S := (fun w' => Kp (fun _ => False) w w')) (by kernel_rfl) (K2.out.drew) (fun hHeld => ?_)
  refine wpAnyH_take (i := 0) (v := ?v0_0) rfl (by kernel_rfl) (by kernel_rfl) (by kernel_rfl) (fun _ _ _ h => h) (Or.inl ⟨by rfl, ?y0_0⟩) (by assumption) ?r0_0
  case y0_0 => (intro w hSw; (try dsimp only at hSw); go_simp; first | done | with_reducible rfl)
  try simp only [Act.put, List.getElem_toArray, List.getElem_cons_succ, List.getElem_cons_zero, List.setIfInBounds_toArray, List.set_cons_zero, List.set_cons_succ]
  refine wpAnyH_take (i := 1) (v := ?v1_1) rfl (by kernel_rfl) (by kernel_rfl) (by kernel_rfl) (fun _ _ _ h => h) (Or.inl ⟨by rfl, ?y1_1⟩) (by assumption) ?r1_1
  case y1_1 => (intro w hSw; (try dsimp only at hSw); go_simp; first | done | with_reducible rfl)
  try simp only [Act.put, List.getElem_toArray, List.getElem_cons_succ, List.getElem_cons_zero, List.setIfInBounds_toArray, List.set_cons_zero, List.set_cons_succ]
  refine wpAnyH_take (i := 2) (v := ?v2_2) rfl (by kernel_rfl) (by kernel_rfl) (by kernel_rfl) (fun _ _ _ h => h) (Or.inl ⟨by rfl, ?y2_2⟩) (by assumption) ?r2_2
  case y2_2 => (intro w hSw; (try dsimp only at hSw); go_simp; first | done | with_reducible rfl)
  try simp only [Act.put, List.getElem_toArray, List.getElem_cons_succ, List.getElem_cons_zero, List.setIfInBounds_toArray, List.set_cons_zero, List.set_cons_succ]
  refine wpAnyH_take (i := 3) (v := undef) rfl (by kernel_rfl) (by kernel_rfl) (by kernel_rfl) (fun _ _ _ h => h) (Or.inr ⟨by rfl, rfl⟩) (by assumption) ?_
  try simp only [Act.put, List.getElem_toArray, List.getElem_cons_succ, List.getElem_cons_zero, List.setIfInBounds_toArray, List.set_cons_zero, List.set_cons_succ]
  refine wpAnyH_take (i := 4) (v := undef) rfl (by kernel_rfl) (by kernel_rfl) (by kernel_rfl) (fun _ _ _ h => h) (Or.inr ⟨by rfl, rfl⟩) (by assumption) ?_
  try simp only [Act.put, List.getElem_toArray, List.getElem_cons_succ, List.getElem_cons_zero, List.setIfInBounds_toArray, List.set_cons_zero, List.set_cons_succ]
  refine wpAnyH_take (i := 5) (v := undef) rfl (by kernel_rfl) (by kernel_rfl) (by kernel_rfl) (fun _ _ _ h => h) (Or.inr ⟨by rfl, rfl⟩) (by assumption) ?_
  try simp only [Act.put, List.getElem_toArray, List.getElem_cons_succ, List.getElem_cons_zero, List.setIfInBounds_toArray, List.set_cons_zero, List.set_cons_succ]
  refine wpAnyH_take (i := 6) (v := undef) rfl (by kernel_rfl) (by kernel_rfl) (by kernel_rfl) (fun _ _ _ h => h) (Or.inr ⟨by rfl, rfl⟩) (by assumption) ?_
  try simp only [Act.put, List.getElem_toArray, List.getElem_cons_succ, List.getElem_cons_zero, List.setIfInBounds_toArray, List.set_cons_zero, List.set_cons_succ]
  refine wpAnyH_take (i := 7) (v := undef) rfl (by kernel_rfl) (by kernel_rfl) (by kernel_rfl) (fun _ _ _ h => h) (Or.inr ⟨by rfl, rfl⟩) (by assumption) ?_
  try simp only [Act.put, List.getElem_toArray, List.getElem_cons_succ, List.getElem_cons_zero, List.setIfInBounds_toArray, List.set_cons_zero, List.set_cons_succ]
  refine wpAnyH_take (i := 8) (v := undef) rfl (by kernel_rfl) (by kernel_rfl) (by kernel_rfl) (fun _ _ _ h => h) (Or.inr ⟨by rfl, rfl⟩) (by assumption) ?_
  try simp only [Act.put, List.getElem_toArray, List.getElem_cons_succ, List.getElem_cons_zero, List.setIfInBounds_toArray, List.set_cons_zero, List.set_cons_succ]
  refine wpAnyH_take (i := 9) (v := undef) rfl (by kernel_rfl) (by kernel_rfl) (by kernel_rfl) (fun _ _ _ h => h) (Or.inr ⟨by rfl, rfl⟩) (by assumption) ?_
  try simp only [Act.put, List.getElem_toArray, List.getElem_cons_succ, List.getElem_cons_zero, List.setIfInBounds_toArray, List.set_cons_zero, List.set_cons_succ]
  refine wpAnyH_take (i := 10) (v := undef) rfl (by kernel_rfl) (by kernel_rfl) (by kernel_rfl) (fun _ _ _ h => h) (Or.inr ⟨by rfl, rfl⟩) (by assumption) ?_
  try simp only [Act.put, List.getElem_toArray, List.getElem_cons_succ, List.getElem_cons_zero, List.setIfInBounds_toArray, List.set_cons_zero, List.set_cons_succ]
  refine wpAnyH_take (i := 11) (v := undef) rfl (by kernel_rfl) (by kernel_rfl) (by kernel_rfl) (fun _ _ _ h => h) (Or.inr ⟨by rfl, rfl⟩) (by assumption) ?_
  try simp only [Act.put, List.getElem_toArray, List.getElem_cons_succ, List.getElem_cons_zero, List.setIfInBounds_toArray, List.set_cons_zero, List.set_cons_succ]
  refine wpAnyH_take (i := 12) (v := undef) rfl (by kernel_rfl) (by kernel_rfl) (by kernel_rfl) (fun _ _ _ h => h) (Or.inr ⟨by rfl, rfl⟩) (by assumption) ?_
  try simp only [Act.put, List.getElem_toArray, List.getElem_cons_succ, List.getElem_cons_zero, List.setIfInBounds_toArray, List.set_cons_zero, List.set_cons_succ]
  refine wpAnyH_take (i := 13) (v := undef) rfl (by kernel_rfl) (by kernel_rfl) (by kernel_rfl) (fun _ _ _ h => h) (Or.inr ⟨by rfl, rfl⟩) (by assumption) ?_
  try simp only [Act.put, List.getElem_toArray, List.getElem_cons_succ, List.getElem_cons_zero, List.setIfInBounds_toArray, List.set_cons_zero, List.set_cons_succ]
  refine wpAnyH_take (i := 14) (v := ?v14_3) rfl (by kernel_rfl) (by kernel_rfl) (by kernel_rfl) (fun _ _ _ h => h) (Or.inl ⟨by rfl, ?y14_3⟩) (by assumption) ?r14_3
  case y14_3 => (intro w hSw; (try dsimp only at hSw); go_simp; first | done | with_reducible rfl)
  try simp only [Act.put, List.getElem_toArray, List.getElem_cons_succ, List.getElem_cons_zero, List.setIfInBounds_toArray, List.set_cons_zero, List.set_cons_succ]
  refine wpAnyH_done (by kernel_rfl) ?_ _
  go_wp2_with fail
  have HC := Lib.hid (H.out.none_kept K2.out.drew)
  have KW := Lib.hid (show Kp (CK g s w) w W.drew from K2.out.drew.mono (fun _ f => f.elim))
  have B6 := Lib.hid (show Bk W.drew w.heap.size 32 (macC m1 m2 m3 m4 m5 m6) from B6.out)
  clear K2
  generalize W.drew = w3 at *
  refine wp_region_held_drew (S := (fun w' => w'.cell? ⟨g, 4, none⟩ = some (.map (some s.eb)) ∧ Bk w' w.heap.size 32 (macC m1 m2 m3 m4 m5 m6))) (by kernel_rfl) (⟨(HC.out.bk.cell 4).trans rfl, B6.out⟩) (fun hHeld => ?_)
  refine wpAnyH_take (i := 0) (v := ?v0_4) rfl (by kernel_rfl) (by kernel_rfl) (by kernel_rfl) (fun _ _ _ h => h) (Or.inl ⟨by rfl, ?y0_4⟩) (by assumption) ?r0_4
  case y0_4 => (intro w hSw; (try dsimp only at hSw); go_simp; first | done | with_reducible rfl)
  try simp only [Act.put, List.getElem_toArray, List.getElem_cons_succ, List.getElem_cons_zero, List.setIfInBounds_toArray, List.set_cons_zero, List.set_cons_succ]
  refine wpAnyH_take (i := 1) (v := ?v1_5) rfl (by kernel_rfl) (by kernel_rfl) (by kernel_rfl) (fun _ _ _ h => h) (Or.inl ⟨by rfl, ?y1_5⟩) (by assumption) ?r1_5
  case y1_5 => (intro w hSw; (try dsimp only at hSw); go_simp; first | done | with_reducible rfl)
  try simp only [Act.put, List.getElem_toArray, List.getElem_cons_succ, List.getElem_cons_zero, List.setIfInBounds_toArray, List.set_cons_zero, List.set_cons_succ]
  refine wpAnyH_take (i := 2) (v := ?v2_6) rfl (by kernel_rfl) (by kernel_rfl) (by kernel_rfl) (fun _ _ _ h => h) (Or.inl ⟨by rfl, ?y2_6⟩) (by assumption) ?r2_6
  case y2_6 => (intro w hSw; (try dsimp only at hSw); go_simp; first | done | with_reducible rfl)
  try simp only [Act.put, List.getElem_toArray, List.getElem_cons_succ, List.getElem_cons_zero, List.setIfInBounds_toArray, List.set_cons_zero, List.set_cons_succ]
  refine wpAnyH_take (i := 3) (v := ?v3_7) rfl (by kernel_rfl) (by kernel_rfl) (by kernel_rfl) (fun _ _ _ h => h) (Or.inl ⟨by rfl, ?y3_7⟩) (by assumption) ?r3_7
  case y3_7 => (intro w hSw; (try dsimp only at hSw); have d1 := hSw.1; go_simp; first | done | with_reducible rfl)
  try simp only [Act.put, List.getElem_toArray, List.getElem_cons_succ, List.getElem_cons_zero, List.setIfInBounds_toArray, List.set_cons_zero, List.set_cons_succ]
  refine wpAnyH_take (i := 4) (v := ?v4_8) rfl (by kernel_rfl) (by kernel_rfl) (by kernel_rfl) (fun _ _ _ h => h) (Or.inl ⟨by rfl, ?y4_8⟩) (by assumption) ?r4_8
  case y4_8 => (intro w hSw; (try dsimp only at hSw); go_simp; first | done | with_reducible rfl)
  try simp only [Act.put, List.getElem_toArray, List.getElem_cons_succ, List.getElem_cons_zero, List.setIfInBounds_toArray, List.set_cons_zero, List.set_cons_succ]
  refine wpAnyH_take (i := 5) (v := ?v5_9) rfl (by kernel_rfl) (by kernel_rfl) (by kernel_rfl) (fun _ _ _ h => h) (Or.inl ⟨by rfl, ?y5_9⟩) (by assumption) ?r5_9
  case y5_9 => (intro w hSw; (try dsimp only at hSw); have d0 := hSw.2.cell 0; have d1 := hSw.2.cell 1; have d2 := hSw.2.cell 2; have d3 := hSw.2.cell 3; have d4 := hSw.2.cell 4; have d5 := hSw.2.cell 5; go_simp; first | done | with_reducible rfl)
  try simp only [Act.put, List.getElem_toArray, List.getElem_cons_succ, List.getElem_cons_zero, List.setIfInBounds_toArray, List.set_cons_zero, List.set_cons_succ]
  refine wpAnyH_take (i := 6) (v := ?v6_10) rfl (by kernel_rfl) (by kernel_rfl) (by kernel_rfl) (fun _ _ _ h => h) (Or.inl ⟨by rfl, ?y6_10⟩) (by assumption) ?r6_10
  case y6_10 => (intro w hSw; (try dsimp only at hSw); go_simp; first | done | with_reducible rfl)
  try simp only [Act.put, List.getElem_toArray, List.getElem_cons_succ, List.getElem_cons_zero, List.setIfInBounds_toArray, List.set_cons_zero, List.set_cons_succ]
  refine wpAnyH_ready (rs := [7]) (by kernel_rfl) (by simp) ?_
  refine AllReadyH.cons rfl (fun K hK => ?_) AllReadyH.nil
  go_simp
  with_reducible refine (cnext g s _ (HC.out.none_kept ((Kp.refl _ _).drew)) (show s.count < 1000000 from hc)).mono ?_
  rintro ev w4 ⟨rfl, hcm, k4⟩
  have B6 := Lib.hid (B6.out.kept (w' := w4) (show Kp (CK g s w3) w3 w4 from ⟨k4.os, k4.tape, k4.output, k4.size, k4.block⟩) (fun hk => by rcases hk.2 32 _ B6.out with e | e <;> exact absurd e (by decide)))
  have KW := Lib.hid (H.out.back (s1 := s) KW.out (fun b hb => .inl hb) (show Kp (CK g s w3) w3 w4 from ⟨k4.os, k4.tape, k4.output, k4.size, k4.block⟩))
  have HC := Lib.hid hcm
  have HSW := Lib.hid KW.out.size
  clear k4 hcm
  try dsimp only
  refine hK.out _ _ (⟨(HC.out.bk.cell 4).trans rfl, B6.out⟩) (fun hHeld => ?_)
  clear hK K
  try simp only [Act.put, List.getElem_toArray, List.getElem_cons_succ, List.getElem_cons_zero, List.setIfInBounds_toArray, List.set_cons_zero, List.set_cons_succ]
  refine wpAnyH_take (i := 8) (v := ?v8_11) rfl (by kernel_rfl) (by kernel_rfl) (by kernel_rfl) (fun _ _ _ h => h) (Or.inl ⟨by rfl, ?y8_11⟩) (by assumption) ?r8_11
  case y8_11 => (intro w hSw; (try dsimp only at hSw); go_simp; first | done | with_reducible rfl)
  try simp only [Act.put, List.getElem_toArray, List.getElem_cons_succ, List.getElem_cons_zero, List.setIfInBounds_toArray, List.set_cons_zero, List.set_cons_succ]
  refine wpAnyH_ready (rs := [9]) (by kernel_rfl) (by simp) ?_
  refine AllReadyH.cons rfl (fun K hK => ?_) AllReadyH.nil
  obtain ⟨w5, c5, hrun5, u5, k5⟩ := HC.out.em.run_update (P := Tryz.prog) (T := 65) (E := 70) (K := 30) Tryz.underlying65 Tryz.underlying30 (i : Int) (entV ⟨m1, m2, m3, m4, m5, m6⟩ (s.count + 1))
  have hrun5 : (Instr.mapUpdate 65 (.map (some s.eb)) (.int .u32 (i : Int)) (.agg #[.int .u8 (m1 : Int), .int .u8 (m2 : Int), .int .u8 (m3 : Int), .int .u8 (m4 : Int), .int .u8 (m5 : Int), .int .u8 (m6 : Int), .int .i64 ((s.count : Int) + 1)])).run Tryz.prog w4 = .ok () w5 := hrun5
  have U5 := Lib.hid u5
  have K5 := Lib.hid k5
  have BG5 := Lib.hid (HC.out.bk.kept k5 HC.out.g_ne_e)
  have B6 := Lib.hid (B6.out.kept k5 (fun e => not_map_bk HC.out.em (by have e : w.heap.size = s.eb := e; have hq := B6.out; rw [e] at hq; exact hq)))
  clear u5 k5
  go_simp
  refine hK.out _ _ (⟨(BG5.out.cell 4).trans rfl, B6.out⟩) (fun hHeld => ?_)
  clear hK K
  try simp only [Act.put, List.getElem_toArray, List.getElem_cons_succ, List.getElem_cons_zero, List.setIfInBounds_toArray, List.set_cons_zero, List.set_cons_succ]
  refine wpAnyH_done (by kernel_rfl) ?_ _
  go_wp2_with fail
  have L5 := Lib.hid (HC.out.lw.kept K5.out (fun b _ hb e => HC.out.e1 (by have : b = s.eb := e; rw [← this]; exact hb)))
  obtain ⟨dd, hdd⟩ : ∃ dd, min now MT + s.life = dd := ⟨_, rfl⟩
  obtain ⟨mn, hmn⟩ : ∃ mn, min now MT = mn := ⟨_, rfl⟩
  have hmin : (min (now : Int) 2305843009213693952) = (mn : Int) := by rw [← hmn]; unfold MT; omega
  have hlf := HLN.out.2.2
  have hadd : IntKind.u64.wrap ((mn : Int) + (s.life : Int)) = (dd : Int) := by
    show ((mn : Int) + (s.life : Int)) % 18446744073709551616 = _
    have : mn ≤ 2305843009213693952 := by rw [← hmn]; unfold MT; omega
    omega
  have HDD := Lib.hid (And.intro hdd (show dd ≤ TOP by
    have : mn ≤ 2305843009213693952 := by rw [← hmn]; unfold MT; omega
    unfold TOP; omega))
  clear hdd hmn
  have hcv : IntKind.i64.wrap (i : Int) = (i : Int) := IntWalk.i64_in _ (by omega)
  refine wp_region_held_drew (S := (fun w' => w'.cell? ⟨g, 6, none⟩ = some (.pointer (some ⟨s.gl, 0, none⟩)) ∧ w'.cell? ⟨g, 2, none⟩ = some (.int .u64 (s.life : Int)))) (by kernel_rfl) (⟨(BG5.out.cell 6).trans rfl, (BG5.out.cell 2).trans rfl⟩) (fun hHeld => ?_)
  refine wpAnyH_take (i := 0) (v := ?v0_12) rfl (by kernel_rfl) (by kernel_rfl) (by kernel_rfl) (fun _ _ _ h => h) (Or.inl ⟨by rfl, ?y0_12⟩) (by assumption) ?r0_12
  case y0_12 => (intro w hSw; (try dsimp only at hSw); go_simp; first | done | with_reducible rfl)
  try simp only [Act.put, List.getElem_toArray, List.getElem_cons_succ, List.getElem_cons_zero, List.setIfInBounds_toArray, List.set_cons_zero, List.set_cons_succ]
  refine wpAnyH_take (i := 1) (v := ?v1_13) rfl (by kernel_rfl) (by kernel_rfl) (by kernel_rfl) (fun _ _ _ h => h) (Or.inl ⟨by rfl, ?y1_13⟩) (by assumption) ?r1_13
  case y1_13 => (intro w hSw; (try dsimp only at hSw); go_simp; first | done | with_reducible rfl)
  try simp only [Act.put, List.getElem_toArray, List.getElem_cons_succ, List.getElem_cons_zero, List.setIfInBounds_toArray, List.set_cons_zero, List.set_cons_succ]
  refine wpAnyH_take (i := 2) (v := ?v2_14) rfl (by kernel_rfl) (by kernel_rfl) (by kernel_rfl) (fun _ _ _ h => h) (Or.inl ⟨by rfl, ?y2_14⟩) (by assumption) ?r2_14
  case y2_14 => (intro w hSw; (try dsimp only at hSw); go_simp; first | done | with_reducible rfl)
  try simp only [Act.put, List.getElem_toArray, List.getElem_cons_succ, List.getElem_cons_zero, List.setIfInBounds_toArray, List.set_cons_zero, List.set_cons_succ]
  refine wpAnyH_take (i := 3) (v := ?v3_15) rfl (by kernel_rfl) (by kernel_rfl) (by kernel_rfl) (fun _ _ _ h => h) (Or.inl ⟨by rfl, ?y3_15⟩) (by assumption) ?r3_15
  case y3_15 => (intro w hSw; (try dsimp only at hSw); have d1 := hSw.1; go_simp; first | done | with_reducible rfl)
  try simp only [Act.put, List.getElem_toArray, List.getElem_cons_succ, List.getElem_cons_zero, List.setIfInBounds_toArray, List.set_cons_zero, List.set_cons_succ]
  refine wpAnyH_take (i := 4) (v := ?v4_16) rfl (by kernel_rfl) (by kernel_rfl) (by kernel_rfl) (fun _ _ _ h => h) (Or.inl ⟨by rfl, ?y4_16⟩) (by assumption) ?r4_16
  case y4_16 => (intro w hSw; (try dsimp only at hSw); go_simp; first | done | with_reducible rfl)
  try simp only [Act.put, List.getElem_toArray, List.getElem_cons_succ, List.getElem_cons_zero, List.setIfInBounds_toArray, List.set_cons_zero, List.set_cons_succ]
  refine wpAnyH_take (i := 5) (v := ?v5_17) rfl (by kernel_rfl) (by kernel_rfl) (by kernel_rfl) (fun _ _ _ h => h) (Or.inl ⟨by rfl, ?y5_17⟩) (by assumption) ?r5_17
  case y5_17 => (intro w hSw; (try dsimp only at hSw); go_simp; first | done | with_reducible rfl)
  try simp only [Act.put, List.getElem_toArray, List.getElem_cons_succ, List.getElem_cons_zero, List.setIfInBounds_toArray, List.set_cons_zero, List.set_cons_succ]
  refine wpAnyH_take (i := 6) (v := ?v6_18) rfl (by kernel_rfl) (by kernel_rfl) (by kernel_rfl) (fun _ _ _ h => h) (Or.inl ⟨by rfl, ?y6_18⟩) (by assumption) ?r6_18
  case y6_18 => (intro w hSw; (try dsimp only at hSw); go_simp; first | done | with_reducible rfl)
  try simp only [Act.put, List.getElem_toArray, List.getElem_cons_succ, List.getElem_cons_zero, List.setIfInBounds_toArray, List.set_cons_zero, List.set_cons_succ]
  refine wpAnyH_take (i := 7) (v := ?v7_19) rfl (by kernel_rfl) (by kernel_rfl) (by kernel_rfl) (fun _ _ _ h => h) (Or.inl ⟨by rfl, ?y7_19⟩) (by assumption) ?r7_19
  case y7_19 => (intro w hSw; (try dsimp only at hSw); go_simp; first | done | with_reducible rfl)
  try simp only [Act.put, List.getElem_toArray, List.getElem_cons_succ, List.getElem_cons_zero, List.setIfInBounds_toArray, List.set_cons_zero, List.set_cons_succ]
  refine wpAnyH_take (i := 8) (v := ?v8_20) rfl (by kernel_rfl) (by kernel_rfl) (by kernel_rfl) (fun _ _ _ h => h) (Or.inl ⟨by rfl, ?y8_20⟩) (by assumption) ?r8_20
  case y8_20 => (intro w hSw; (try dsimp only at hSw); go_simp; first | done | with_reducible rfl)
  try simp only [Act.put, List.getElem_toArray, List.getElem_cons_succ, List.getElem_cons_zero, List.setIfInBounds_toArray, List.set_cons_zero, List.set_cons_succ]
  refine wpAnyH_take (i := 9) (v := ?v9_21) rfl (by kernel_rfl) (by kernel_rfl) (by kernel_rfl) (fun _ _ _ h => h) (Or.inl ⟨by rfl, ?y9_21⟩) (by assumption) ?r9_21
  case y9_21 => (intro w hSw; (try dsimp only at hSw); go_simp; first | done | with_reducible rfl)
  try simp only [Act.put, List.getElem_toArray, List.getElem_cons_succ, List.getElem_cons_zero, List.setIfInBounds_toArray, List.set_cons_zero, List.set_cons_succ]
  refine wpAnyH_take (i := 10) (v := ?v10_22) rfl (by kernel_rfl) (by kernel_rfl) (by kernel_rfl) (fun _ _ _ h => h) (Or.inl ⟨by rfl, ?y10_22⟩) (by assumption) ?r10_22
  case y10_22 => (intro w hSw; (try dsimp only at hSw); go_simp; first | done | with_reducible rfl)
  try simp only [Act.put, List.getElem_toArray, List.getElem_cons_succ, List.getElem_cons_zero, List.setIfInBounds_toArray, List.set_cons_zero, List.set_cons_succ]
  refine wpAnyH_take (i := 11) (v := ?v11_23) rfl (by kernel_rfl) (by kernel_rfl) (by kernel_rfl) (fun _ _ _ h => h) (Or.inl ⟨by rfl, ?y11_23⟩) (by assumption) ?r11_23
  case y11_23 => (intro w hSw; (try dsimp only at hSw); go_simp; first | done | with_reducible rfl)
  try simp only [Act.put, List.getElem_toArray, List.getElem_cons_succ, List.getElem_cons_zero, List.setIfInBounds_toArray, List.set_cons_zero, List.set_cons_succ]
  refine wpAnyH_take (i := 12) (v := ?v12_24) rfl (by kernel_rfl) (by kernel_rfl) (by kernel_rfl) (fun _ _ _ h => h) (Or.inl ⟨by rfl, ?y12_24⟩) (by assumption) ?r12_24
  case y12_24 => (intro w hSw; (try dsimp only at hSw); have d1 := hSw.2; go_simp; first | done | with_reducible rfl)
  try simp only [Act.put, List.getElem_toArray, List.getElem_cons_succ, List.getElem_cons_zero, List.setIfInBounds_toArray, List.set_cons_zero, List.set_cons_succ]
  refine wpAnyH_take (i := 13) (v := ?v13_25) rfl (by kernel_rfl) (by kernel_rfl) (by kernel_rfl) (fun _ _ _ h => h) (Or.inl ⟨by rfl, ?y13_25⟩) (by assumption) ?r13_25
  case y13_25 => (intro w hSw; (try dsimp only at hSw); go_simp; first | done | with_reducible rfl)
  try simp only [Act.put, List.getElem_toArray, List.getElem_cons_succ, List.getElem_cons_zero, List.setIfInBounds_toArray, List.set_cons_zero, List.set_cons_succ]
  refine wpAnyH_ready (rs := [14]) (by kernel_rfl) (by simp) ?_
  refine AllReadyH.cons rfl (fun K hK => ?_) AllReadyH.nil
  go_simp
  with_reducible refine (wset s.F1 s.gl 0 s.R1 (i : Int) dd _ (L5.out.none_kept ((Kp.refl _ _).drew)) (by omega)).mono ?_
  rintro ev w6 ⟨rfl, h6, k6⟩
  have W6 := Lib.hid h6
  have K6 := Lib.hid (show Kp (FK s.F1 w5) w5 w6 from ⟨k6.os, k6.tape, k6.output, k6.size, k6.block⟩)
  have BG6 := Lib.hid (BG5.out.kept K6.out (FK.not BG5.out (by decide)))
  clear h6 k6
  try dsimp only
  refine hK.out _ _ (⟨(BG6.out.cell 6).trans rfl, (BG6.out.cell 2).trans rfl⟩) (fun hHeld => ?_)
  clear hK K
  try simp only [Act.put, List.getElem_toArray, List.getElem_cons_succ, List.getElem_cons_zero, List.setIfInBounds_toArray, List.set_cons_zero, List.set_cons_succ]
  refine wpAnyH_done (by kernel_rfl) ?_ _
  go_wp2_with fail
  have hse : setE s.R1 (i : Int) dd = 0 := by
    unfold setE
    have hlr : s.R1.length ≤ 1000 := by
      rw [HC.out.er.len HC.out.es]
      show s.ents.length ≤ 1000
      have := HLN.out.1; have := HLN.out.2.1; omega
    rw [if_neg (Nat.not_lt.2 HDD.out.2), if_neg (fun hh => by omega)]
  have h6 := W6.out
  unfold setR at h6
  rw [if_pos hse] at h6
  have hins : IS (s.count + 1) (idel i s.ents ++ [(⟨i, ⟨m1, m2, m3, m4, m5, m6⟩, s.count + 1, dd⟩ : En)]) :=
    (H.out.es.del i).add (by rw [iget_idel, if_pos rfl]) rfl
  obtain ⟨cm7, k7, f7⟩ := HC.out.noted (x := ⟨i, ⟨m1, m2, m3, m4, m5, m6⟩, s.count + 1, dd⟩) hins U5.out K5.out h6 K6.out
  have K7 := Lib.hid (H.out.back KW.out (fun b hb => .inl hb) k7)
  have CR := crel g i _ w6 cm7 hi
  refine CR.mono ?_
  rintro ev w8 ⟨A, c, rfl, hA, cm8, k8⟩
  have hs8 : ∀ b, cfp g ((CS.note { s with count := s.count + 1 } ⟨i, ⟨m1, m2, m3, m4, m5, m6⟩, s.count + 1, dd⟩ c5 w5 w6).rel i) b → cfp g s b ∨ w.heap.size ≤ b := fun b hb => by
    rcases f7 b hb with hb | hb
    · exact .inl hb
    · exact .inr (Nat.le_trans HSW.out hb)
  have K8 := Lib.hid (H.out.back K7.out (s1 := CS.note { s with count := s.count + 1 } ⟨i, ⟨m1, m2, m3, m4, m5, m6⟩, s.count + 1, dd⟩ c5 w5 w6) hs8 k8)
  have CM8 := Lib.hid cm8
  have HA := Lib.hid hA
  have HS8 := Lib.hid hs8
  clear CR cm7 k7 f7 cm8 k8 hA hs8 h6 hins
  go_wp2_with fail
  exact bodyPost_ret (results_tmp rfl _ _ _) rfl ⟨A, c, _, rfl, HA.out, CM8.out, ⟨rfl, rfl, rfl, rfl, rfl, by
    have hd := HDD.out.1
    subst hd
    exact base_there HEX.out _, rfl, rfl⟩, K8.out, HS8.out⟩
set_option maxRecDepth 1000000 in
set_option maxHeartbeats 16000000 in
theorem learn_n (g i now m1 m2 m3 m4 m5 m6 : Nat) (s : CS) (w : World) (h : CM w g s) (hi : i < 4294967296) (hc : s.count < 1000000) (hroom : s.room ≤ 1000) (hlen : s.ents.length ≤ s.room) (hlife : s.life ≤ 4294967296) (hex : (iget i s.ents).isSome = false) (hful : s.ents.length < s.room) :
    Calls Tryz.prog 9 #[.pointer (some ⟨g, 0, none⟩), .int .u32 (i : Int), .agg (macC m1 m2 m3 m4 m5 m6), .int .u64 (now : Int)] w fun ev w' => LrnPost g i now ⟨m1, m2, m3, m4, m5, m6⟩ s w w' ev := by
  have k1 : Kp (fun _ => False) w (w.alloc (.cells (macC m1 m2 m3 m4 m5 m6) 32)) := (Kp.refl _ w).alloc _
  have b6 : Bk (w.alloc (.cells (macC m1 m2 m3 m4 m5 m6) 32)) w.heap.size 32 (macC m1 m2 m3 m4 m5 m6) := Bk.new w 32 _
  have z4 : (w.alloc (.cells (macC m1 m2 m3 m4 m5 m6) 32)).cell? ⟨g, 4, none⟩ = some (.map (some s.eb)) := ((h.none_kept k1).bk.cell 4).trans rfl
  obtain ⟨m, o, hlk, hs, _, _⟩ := h.look_ent i
  obtain ⟨n1, n2, n3, n4, n5, n6⟩ := m
  have LK : (Instr.lookup 65 (.map (some s.eb)) (.int .u32 (i : Int)) true).run Tryz.prog (w.alloc (.cells (macC m1 m2 m3 m4 m5 m6) 32)) = .ok (.tuple #[.agg #[.int .u8 (n1 : Int), .int .u8 (n2 : Int), .int .u8 (n3 : Int), .int .u8 (n4 : Int), .int .u8 (n5 : Int), .int .u8 (n6 : Int), .int .i64 (o : Int)], .bool false]) (w.alloc (.cells (macC m1 m2 m3 m4 m5 m6) 32)) := by
    have := ((h.none_kept k1).em.run_lookup (P := Tryz.prog) (T := 65) (E := 70) (K := 30) Tryz.underlying65 Tryz.underlying30 (z := .agg #[.int .u8 0, .int .u8 0, .int .u8 0, .int .u8 0, .int .u8 0, .int .u8 0, .int .i64 0]) (by kernel_rfl) (i : Int)).2
    rw [hlk, hs, hex] at this
    exact this
  have H := Lib.hid h
  have LEN := Lib.hid (fun (w' : World) (k : Kp (fun _ => False) w w') => show (Builtin.len_ #[65] 3 #[.map (some s.eb)]).run Tryz.prog w' = .ok (.int .i64 (s.ents.length : Int)) w' by
    have := (H.out.em.kept k (fun f => f)).run_len (P := Tryz.prog) (T := 65) (E := 70) (K := 30) Tryz.underlying65 3
    rw [H.out.eh.len] at this
    exact this)
  have C4 := Lib.hid (show w.cell? ⟨g, 4, none⟩ = some (.map (some s.eb)) from (h.bk.cell 4).trans rfl)
  have C0 := Lib.hid (show w.cell? ⟨g, 0, none⟩ = some (.int .i64 (s.room : Int)) from (h.bk.cell 0).trans rfl)
  have HEX := Lib.hid hex
  have HB6 := Lib.hid b6
  have K1 := Lib.hid k1
  have HLN := Lib.hid (And.intro hroom (And.intro hlen hlife))
  clear h hlk hs hex b6 k1 hroom hlen hlife
  go_enter Tryz.func9, Tryz.ntmps9
  go_wp2_with fail
  have B6 := Lib.hid (HB6.out.kept ((Kp.refl (fun _ => False) _).alloc (.cells #[.int .u8 (n1 : Int), .int .u8 (n2 : Int), .int .u8 (n3 : Int), .int .u8 (n4 : Int), .int .u8 (n5 : Int), .int .u8 (n6 : Int), .int .i64 (o : Int)] 70)) (fun f => f))
  have K2 := Lib.hid (K1.out.alloc (.cells #[.int .u8 (n1 : Int), .int .u8 (n2 : Int), .int .u8 (n3 : Int), .int .u8 (n4 : Int), .int .u8 (n5 : Int), .int .u8 (n6 : Int), .int .i64 (o : Int)] 70))
  clear HB6 K1 LK z4
  generalize (w.alloc (.cells (macC m1 m2 m3 m4 m5 m6) 32)).alloc (.cells #[.int .u8 (n1 : Int), .int .u8 (n2 : Int), .int .u8 (n3 : Int), .int .u8 (n4 : Int), .int .u8 (n5 : Int), .int .u8 (n6 : Int), .int .i64 (o : Int)] 70) = W at *
  refine wp_region_held_drew (S := (fun w' => Kp (fun _ => False) w w')) (by kernel_rfl) (K2.out.drew) (fun hHeld => ?_)
  refine wpAnyH_take (i := 0) (v := ?v0_26) rfl (by kernel_rfl) (by kernel_rfl) (by kernel_rfl) (fun _ _ _ h => h) (Or.inl ⟨by rfl, ?y0_26⟩) (by assumption) ?r0_26
  case y0_26 => (intro w hSw; (try dsimp only at hSw); go_simp; first | done | with_reducible rfl)
  try simp only [Act.put, List.getElem_toArray, List.getElem_cons_succ, List.getElem_cons_zero, List.setIfInBounds_toArray, List.set_cons_zero, List.set_cons_succ]
  refine wpAnyH_take (i := 1) (v := ?v1_27) rfl (by kernel_rfl) (by kernel_rfl) (by kernel_rfl) (fun _ _ _ h => h) (Or.inl ⟨by rfl, ?y1_27⟩) (by assumption) ?r1_27
  case y1_27 => (intro w hSw; (try dsimp only at hSw); go_simp; first | done | with_reducible rfl)
  try simp only [Act.put, List.getElem_toArray, List.getElem_cons_succ, List.getElem_cons_zero, List.setIfInBounds_toArray, List.set_cons_zero, List.set_cons_succ]
  refine wpAnyH_take (i := 2) (v := ?v2_28) rfl (by kernel_rfl) (by kernel_rfl) (by kernel_rfl) (fun _ _ _ h => h) (Or.inl ⟨by rfl, ?y2_28⟩) (by assumption) ?r2_28
  case y2_28 => (intro w hSw; (try dsimp only at hSw); go_simp; first | done | with_reducible rfl)
  try simp only [Act.put, List.getElem_toArray, List.getElem_cons_succ, List.getElem_cons_zero, List.setIfInBounds_toArray, List.set_cons_zero, List.set_cons_succ]
  refine wpAnyH_take (i := 3) (v := ?v3_29) rfl (by kernel_rfl) (by kernel_rfl) (by kernel_rfl) (fun _ _ _ h => h) (Or.inl ⟨by rfl, ?y3_29⟩) (by assumption) ?r3_29
  case y3_29 => (intro w hSw; (try dsimp only at hSw); go_simp; first | done | with_reducible rfl)
  try simp only [Act.put, List.getElem_toArray, List.getElem_cons_succ, List.getElem_cons_zero, List.setIfInBounds_toArray, List.set_cons_zero, List.set_cons_succ]
  refine wpAnyH_take (i := 4) (v := ?v4_30) rfl (by kernel_rfl) (by kernel_rfl) (by kernel_rfl) (fun _ _ _ h => h) (Or.inl ⟨by rfl, ?y4_30⟩) (by assumption) ?r4_30
  case y4_30 => (intro w hSw; (try dsimp only at hSw); go_simp; first | done | with_reducible rfl)
  try simp only [Act.put, List.getElem_toArray, List.getElem_cons_succ, List.getElem_cons_zero, List.setIfInBounds_toArray, List.set_cons_zero, List.set_cons_succ]
  refine wpAnyH_take (i := 5) (v := ?v5_31) rfl (by kernel_rfl) (by kernel_rfl) (by kernel_rfl) (fun _ _ _ h => h) (Or.inl ⟨by rfl, ?y5_31⟩) (by assumption) ?r5_31
  case y5_31 => (intro w hSw; (try dsimp only at hSw); go_simp; first | done | with_reducible rfl)
  try simp only [Act.put, List.getElem_toArray, List.getElem_cons_succ, List.getElem_cons_zero, List.setIfInBounds_toArray, List.set_cons_zero, List.set_cons_succ]
  refine wpAnyH_take (i := 6) (v := ?v6_32) rfl (by kernel_rfl) (by kernel_rfl) (by kernel_rfl) (fun _ _ _ h => h) (Or.inl ⟨by rfl, ?y6_32⟩) (by assumption) ?r6_32
  case y6_32 => (intro w hSw; (try dsimp only at hSw); have d1 := kp_kc0 C4.out hSw; go_simp; first | done | with_reducible rfl)
  try simp only [Act.put, List.getElem_toArray, List.getElem_cons_succ, List.getElem_cons_zero, List.setIfInBounds_toArray, List.set_cons_zero, List.set_cons_succ]
  refine wpAnyH_take (i := 7) (v := ?v7_33) rfl (by kernel_rfl) (by kernel_rfl) (by kernel_rfl) (fun _ _ _ h => h) (Or.inl ⟨by rfl, ?y7_33⟩) (by assumption) ?r7_33
  case y7_33 => (intro w hSw; (try dsimp only at hSw); have d1 := LEN.out w hSw; go_simp; first | done | with_reducible rfl)
  try simp only [Act.put, List.getElem_toArray, List.getElem_cons_succ, List.getElem_cons_zero, List.setIfInBounds_toArray, List.set_cons_zero, List.set_cons_succ]
  refine wpAnyH_take (i := 8) (v := ?v8_34) rfl (by kernel_rfl) (by kernel_rfl) (by kernel_rfl) (fun _ _ _ h => h) (Or.inl ⟨by rfl, ?y8_34⟩) (by assumption) ?r8_34
  case y8_34 => (intro w hSw; (try dsimp only at hSw); go_simp; first | done | with_reducible rfl)
  try simp only [Act.put, List.getElem_toArray, List.getElem_cons_succ, List.getElem_cons_zero, List.setIfInBounds_toArray, List.set_cons_zero, List.set_cons_succ]
  refine wpAnyH_take (i := 9) (v := ?v9_35) rfl (by kernel_rfl) (by kernel_rfl) (by kernel_rfl) (fun _ _ _ h => h) (Or.inl ⟨by rfl, ?y9_35⟩) (by assumption) ?r9_35
  case y9_35 => (intro w hSw; (try dsimp only at hSw); go_simp; first | done | with_reducible rfl)
  try simp only [Act.put, List.getElem_toArray, List.getElem_cons_succ, List.getElem_cons_zero, List.setIfInBounds_toArray, List.set_cons_zero, List.set_cons_succ]
  refine wpAnyH_take (i := 10) (v := ?v10_36) rfl (by kernel_rfl) (by kernel_rfl) (by kernel_rfl) (fun _ _ _ h => h) (Or.inl ⟨by rfl, ?y10_36⟩) (by assumption) ?r10_36
  case y10_36 => (intro w hSw; (try dsimp only at hSw); go_simp; first | done | with_reducible rfl)
  try simp only [Act.put, List.getElem_toArray, List.getElem_cons_succ, List.getElem_cons_zero, List.setIfInBounds_toArray, List.set_cons_zero, List.set_cons_succ]
  refine wpAnyH_take (i := 11) (v := ?v11_37) rfl (by kernel_rfl) (by kernel_rfl) (by kernel_rfl) (fun _ _ _ h => h) (Or.inl ⟨by rfl, ?y11_37⟩) (by assumption) ?r11_37
  case y11_37 => (intro w hSw; (try dsimp only at hSw); go_simp; first | done | with_reducible rfl)
  try simp only [Act.put, List.getElem_toArray, List.getElem_cons_succ, List.getElem_cons_zero, List.setIfInBounds_toArray, List.set_cons_zero, List.set_cons_succ]
  refine wpAnyH_take (i := 12) (v := ?v12_38) rfl (by kernel_rfl) (by kernel_rfl) (by kernel_rfl) (fun _ _ _ h => h) (Or.inl ⟨by rfl, ?y12_38⟩) (by assumption) ?r12_38
  case y12_38 => (intro w hSw; (try dsimp only at hSw); have d1 := kp_kc0 C0.out hSw; go_simp; first | done | with_reducible rfl)
  try simp only [Act.put, List.getElem_toArray, List.getElem_cons_succ, List.getElem_cons_zero, List.setIfInBounds_toArray, List.set_cons_zero, List.set_cons_succ]
  refine wpAnyH_take (i := 13) (v := ?v13_39) rfl (by kernel_rfl) (by kernel_rfl) (by kernel_rfl) (fun _ _ _ h => h) (Or.inl ⟨by rfl, ?y13_39⟩) (by assumption) ?r13_39
  case y13_39 => (intro w hSw; (try dsimp only at hSw); go_simp; first | done | with_reducible rfl)
  try simp only [Act.put, List.getElem_toArray, List.getElem_cons_succ, List.getElem_cons_zero, List.setIfInBounds_toArray, List.set_cons_zero, List.set_cons_succ]
  refine wpAnyH_take (i := 14) (v := ?v14_40) rfl (by kernel_rfl) (by kernel_rfl) (by kernel_rfl) (fun _ _ _ h => h) (Or.inl ⟨by rfl, ?y14_40⟩) (by assumption) ?r14_40
  case y14_40 => (intro w hSw; (try dsimp only at hSw); go_simp; first | done | with_reducible rfl)
  try simp only [Act.put, List.getElem_toArray, List.getElem_cons_succ, List.getElem_cons_zero, List.setIfInBounds_toArray, List.set_cons_zero, List.set_cons_succ]
  refine wpAnyH_done (by kernel_rfl) ?_ _
  have hln := HLN.out.2.1
  have hge : ¬ ((s.room : Int) ≤ (s.ents.length : Int)) := by omega
  go_wp2_with fail
  have HC := Lib.hid (H.out.none_kept K2.out.drew)
  have KW := Lib.hid (show Kp (CK g s w) w W.drew from K2.out.drew.mono (fun _ f => f.elim))
  have B6 := Lib.hid (show Bk W.drew w.heap.size 32 (macC m1 m2 m3 m4 m5 m6) from B6.out)
  clear K2
  generalize W.drew = w3 at *
  refine wp_region_held_drew (S := (fun w' => w'.cell? ⟨g, 4, none⟩ = some (.map (some s.eb)) ∧ Bk w' w.heap.size 32 (macC m1 m2 m3 m4 m5 m6))) (by kernel_rfl) (⟨(HC.out.bk.cell 4).trans rfl, B6.out⟩) (fun hHeld => ?_)
  refine wpAnyH_take (i := 0) (v := ?v0_41) rfl (by kernel_rfl) (by kernel_rfl) (by kernel_rfl) (fun _ _ _ h => h) (Or.inl ⟨by rfl, ?y0_41⟩) (by assumption) ?r0_41
  case y0_41 => (intro w hSw; (try dsimp only at hSw); go_simp; first | done | with_reducible rfl)
  try simp only [Act.put, List.getElem_toArray, List.getElem_cons_succ, List.getElem_cons_zero, List.setIfInBounds_toArray, List.set_cons_zero, List.set_cons_succ]
  refine wpAnyH_take (i := 1) (v := ?v1_42) rfl (by kernel_rfl) (by kernel_rfl) (by kernel_rfl) (fun _ _ _ h => h) (Or.inl ⟨by rfl, ?y1_42⟩) (by assumption) ?r1_42
  case y1_42 => (intro w hSw; (try dsimp only at hSw); go_simp; first | done | with_reducible rfl)
  try simp only [Act.put, List.getElem_toArray, List.getElem_cons_succ, List.getElem_cons_zero, List.setIfInBounds_toArray, List.set_cons_zero, List.set_cons_succ]
  refine wpAnyH_take (i := 2) (v := ?v2_43) rfl (by kernel_rfl) (by kernel_rfl) (by kernel_rfl) (fun _ _ _ h => h) (Or.inl ⟨by rfl, ?y2_43⟩) (by assumption) ?r2_43
  case y2_43 => (intro w hSw; (try dsimp only at hSw); go_simp; first | done | with_reducible rfl)
  try simp only [Act.put, List.getElem_toArray, List.getElem_cons_succ, List.getElem_cons_zero, List.setIfInBounds_toArray, List.set_cons_zero, List.set_cons_succ]
  refine wpAnyH_take (i := 3) (v := ?v3_44) rfl (by kernel_rfl) (by kernel_rfl) (by kernel_rfl) (fun _ _ _ h => h) (Or.inl ⟨by rfl, ?y3_44⟩) (by assumption) ?r3_44
  case y3_44 => (intro w hSw; (try dsimp only at hSw); have d1 := hSw.1; go_simp; first | done | with_reducible rfl)
  try simp only [Act.put, List.getElem_toArray, List.getElem_cons_succ, List.getElem_cons_zero, List.setIfInBounds_toArray, List.set_cons_zero, List.set_cons_succ]
  refine wpAnyH_take (i := 4) (v := ?v4_45) rfl (by kernel_rfl) (by kernel_rfl) (by kernel_rfl) (fun _ _ _ h => h) (Or.inl ⟨by rfl, ?y4_45⟩) (by assumption) ?r4_45
  case y4_45 => (intro w hSw; (try dsimp only at hSw); go_simp; first | done | with_reducible rfl)
  try simp only [Act.put, List.getElem_toArray, List.getElem_cons_succ, List.getElem_cons_zero, List.setIfInBounds_toArray, List.set_cons_zero, List.set_cons_succ]
  refine wpAnyH_take (i := 5) (v := ?v5_46) rfl (by kernel_rfl) (by kernel_rfl) (by kernel_rfl) (fun _ _ _ h => h) (Or.inl ⟨by rfl, ?y5_46⟩) (by assumption) ?r5_46
  case y5_46 => (intro w hSw; (try dsimp only at hSw); have d0 := hSw.2.cell 0; have d1 := hSw.2.cell 1; have d2 := hSw.2.cell 2; have d3 := hSw.2.cell 3; have d4 := hSw.2.cell 4; have d5 := hSw.2.cell 5; go_simp; first | done | with_reducible rfl)
  try simp only [Act.put, List.getElem_toArray, List.getElem_cons_succ, List.getElem_cons_zero, List.setIfInBounds_toArray, List.set_cons_zero, List.set_cons_succ]
  refine wpAnyH_take (i := 6) (v := ?v6_47) rfl (by kernel_rfl) (by kernel_rfl) (by kernel_rfl) (fun _ _ _ h => h) (Or.inl ⟨by rfl, ?y6_47⟩) (by assumption) ?r6_47
  case y6_47 => (intro w hSw; (try dsimp only at hSw); go_simp; first | done | with_reducible rfl)
  try simp only [Act.put, List.getElem_toArray, List.getElem_cons_succ, List.getElem_cons_zero, List.setIfInBounds_toArray, List.set_cons_zero, List.set_cons_succ]
  refine wpAnyH_ready (rs := [7]) (by kernel_rfl) (by simp) ?_
  refine AllReadyH.cons rfl (fun K hK => ?_) AllReadyH.nil
  go_simp
  with_reducible refine (cnext g s _ (HC.out.none_kept ((Kp.refl _ _).drew)) (show s.count < 1000000 from hc)).mono ?_
  rintro ev w4 ⟨rfl, hcm, k4⟩
  have B6 := Lib.hid (B6.out.kept (w' := w4) (show Kp (CK g s w3) w3 w4 from ⟨k4.os, k4.tape, k4.output, k4.size, k4.block⟩) (fun hk => by rcases hk.2 32 _ B6.out with e | e <;> exact absurd e (by decide)))
  have KW := Lib.hid (H.out.back (s1 := s) KW.out (fun b hb => .inl hb) (show Kp (CK g s w3) w3 w4 from ⟨k4.os, k4.tape, k4.output, k4.size, k4.block⟩))
  have HC := Lib.hid hcm
  have HSW := Lib.hid KW.out.size
  clear k4 hcm
  try dsimp only
  refine hK.out _ _ (⟨(HC.out.bk.cell 4).trans rfl, B6.out⟩) (fun hHeld => ?_)
  clear hK K
  try simp only [Act.put, List.getElem_toArray, List.getElem_cons_succ, List.getElem_cons_zero, List.setIfInBounds_toArray, List.set_cons_zero, List.set_cons_succ]
  refine wpAnyH_take (i := 8) (v := ?v8_48) rfl (by kernel_rfl) (by kernel_rfl) (by kernel_rfl) (fun _ _ _ h => h) (Or.inl ⟨by rfl, ?y8_48⟩) (by assumption) ?r8_48
  case y8_48 => (intro w hSw; (try dsimp only at hSw); go_simp; first | done | with_reducible rfl)
  try simp only [Act.put, List.getElem_toArray, List.getElem_cons_succ, List.getElem_cons_zero, List.setIfInBounds_toArray, List.set_cons_zero, List.set_cons_succ]
  refine wpAnyH_ready (rs := [9]) (by kernel_rfl) (by simp) ?_
  refine AllReadyH.cons rfl (fun K hK => ?_) AllReadyH.nil
  obtain ⟨w5, c5, hrun5, u5, k5⟩ := HC.out.em.run_update (P := Tryz.prog) (T := 65) (E := 70) (K := 30) Tryz.underlying65 Tryz.underlying30 (i : Int) (entV ⟨m1, m2, m3, m4, m5, m6⟩ (s.count + 1))
  have hrun5 : (Instr.mapUpdate 65 (.map (some s.eb)) (.int .u32 (i : Int)) (.agg #[.int .u8 (m1 : Int), .int .u8 (m2 : Int), .int .u8 (m3 : Int), .int .u8 (m4 : Int), .int .u8 (m5 : Int), .int .u8 (m6 : Int), .int .i64 ((s.count : Int) + 1)])).run Tryz.prog w4 = .ok () w5 := hrun5
  have U5 := Lib.hid u5
  have K5 := Lib.hid k5
  have BG5 := Lib.hid (HC.out.bk.kept k5 HC.out.g_ne_e)
  have B6 := Lib.hid (B6.out.kept k5 (fun e => not_map_bk HC.out.em (by have e : w.heap.size = s.eb := e; have hq := B6.out; rw [e] at hq; exact hq)))
  clear u5 k5
  go_simp
  refine hK.out _ _ (⟨(BG5.out.cell 4).trans rfl, B6.out⟩) (fun hHeld => ?_)
  clear hK K
  try simp only [Act.put, List.getElem_toArray, List.getElem_cons_succ, List.getElem_cons_zero, List.setIfInBounds_toArray, List.set_cons_zero, List.set_cons_succ]
  refine wpAnyH_done (by kernel_rfl) ?_ _
  go_wp2_with fail
  have L5 := Lib.hid (HC.out.lw.kept K5.out (fun b _ hb e => HC.out.e1 (by have : b = s.eb := e; rw [← this]; exact hb)))
  obtain ⟨dd, hdd⟩ : ∃ dd, min now MT + s.life = dd := ⟨_, rfl⟩
  obtain ⟨mn, hmn⟩ : ∃ mn, min now MT = mn := ⟨_, rfl⟩
  have hmin : (min (now : Int) 2305843009213693952) = (mn : Int) := by rw [← hmn]; unfold MT; omega
  have hlf := HLN.out.2.2
  have hadd : IntKind.u64.wrap ((mn : Int) + (s.life : Int)) = (dd : Int) := by
    show ((mn : Int) + (s.life : Int)) % 18446744073709551616 = _
    have : mn ≤ 2305843009213693952 := by rw [← hmn]; unfold MT; omega
    omega
  have HDD := Lib.hid (And.intro hdd (show dd ≤ TOP by
    have : mn ≤ 2305843009213693952 := by rw [← hmn]; unfold MT; omega
    unfold TOP; omega))
  clear hdd hmn
  have hcv : IntKind.i64.wrap (i : Int) = (i : Int) := IntWalk.i64_in _ (by omega)
  refine wp_region_held_drew (S := (fun w' => w'.cell? ⟨g, 6, none⟩ = some (.pointer (some ⟨s.gl, 0, none⟩)) ∧ w'.cell? ⟨g, 2, none⟩ = some (.int .u64 (s.life : Int)))) (by kernel_rfl) (⟨(BG5.out.cell 6).trans rfl, (BG5.out.cell 2).trans rfl⟩) (fun hHeld => ?_)
  refine wpAnyH_take (i := 0) (v := ?v0_49) rfl (by kernel_rfl) (by kernel_rfl) (by kernel_rfl) (fun _ _ _ h => h) (Or.inl ⟨by rfl, ?y0_49⟩) (by assumption) ?r0_49
  case y0_49 => (intro w hSw; (try dsimp only at hSw); go_simp; first | done | with_reducible rfl)
  try simp only [Act.put, List.getElem_toArray, List.getElem_cons_succ, List.getElem_cons_zero, List.setIfInBounds_toArray, List.set_cons_zero, List.set_cons_succ]
  refine wpAnyH_take (i := 1) (v := ?v1_50) rfl (by kernel_rfl) (by kernel_rfl) (by kernel_rfl) (fun _ _ _ h => h) (Or.inl ⟨by rfl, ?y1_50⟩) (by assumption) ?r1_50
  case y1_50 => (intro w hSw; (try dsimp only at hSw); go_simp; first | done | with_reducible rfl)
  try simp only [Act.put, List.getElem_toArray, List.getElem_cons_succ, List.getElem_cons_zero, List.setIfInBounds_toArray, List.set_cons_zero, List.set_cons_succ]
  refine wpAnyH_take (i := 2) (v := ?v2_51) rfl (by kernel_rfl) (by kernel_rfl) (by kernel_rfl) (fun _ _ _ h => h) (Or.inl ⟨by rfl, ?y2_51⟩) (by assumption) ?r2_51
  case y2_51 => (intro w hSw; (try dsimp only at hSw); go_simp; first | done | with_reducible rfl)
  try simp only [Act.put, List.getElem_toArray, List.getElem_cons_succ, List.getElem_cons_zero, List.setIfInBounds_toArray, List.set_cons_zero, List.set_cons_succ]
  refine wpAnyH_take (i := 3) (v := ?v3_52) rfl (by kernel_rfl) (by kernel_rfl) (by kernel_rfl) (fun _ _ _ h => h) (Or.inl ⟨by rfl, ?y3_52⟩) (by assumption) ?r3_52
  case y3_52 => (intro w hSw; (try dsimp only at hSw); have d1 := hSw.1; go_simp; first | done | with_reducible rfl)
  try simp only [Act.put, List.getElem_toArray, List.getElem_cons_succ, List.getElem_cons_zero, List.setIfInBounds_toArray, List.set_cons_zero, List.set_cons_succ]
  refine wpAnyH_take (i := 4) (v := ?v4_53) rfl (by kernel_rfl) (by kernel_rfl) (by kernel_rfl) (fun _ _ _ h => h) (Or.inl ⟨by rfl, ?y4_53⟩) (by assumption) ?r4_53
  case y4_53 => (intro w hSw; (try dsimp only at hSw); go_simp; first | done | with_reducible rfl)
  try simp only [Act.put, List.getElem_toArray, List.getElem_cons_succ, List.getElem_cons_zero, List.setIfInBounds_toArray, List.set_cons_zero, List.set_cons_succ]
  refine wpAnyH_take (i := 5) (v := ?v5_54) rfl (by kernel_rfl) (by kernel_rfl) (by kernel_rfl) (fun _ _ _ h => h) (Or.inl ⟨by rfl, ?y5_54⟩) (by assumption) ?r5_54
  case y5_54 => (intro w hSw; (try dsimp only at hSw); go_simp; first | done | with_reducible rfl)
  try simp only [Act.put, List.getElem_toArray, List.getElem_cons_succ, List.getElem_cons_zero, List.setIfInBounds_toArray, List.set_cons_zero, List.set_cons_succ]
  refine wpAnyH_take (i := 6) (v := ?v6_55) rfl (by kernel_rfl) (by kernel_rfl) (by kernel_rfl) (fun _ _ _ h => h) (Or.inl ⟨by rfl, ?y6_55⟩) (by assumption) ?r6_55
  case y6_55 => (intro w hSw; (try dsimp only at hSw); go_simp; first | done | with_reducible rfl)
  try simp only [Act.put, List.getElem_toArray, List.getElem_cons_succ, List.getElem_cons_zero, List.setIfInBounds_toArray, List.set_cons_zero, List.set_cons_succ]
  refine wpAnyH_take (i := 7) (v := ?v7_56) rfl (by kernel_rfl) (by kernel_rfl) (by kernel_rfl) (fun _ _ _ h => h) (Or.inl ⟨by rfl, ?y7_56⟩) (by assumption) ?r7_56
  case y7_56 => (intro w hSw; (try dsimp only at hSw); go_simp; first | done | with_reducible rfl)
  try simp only [Act.put, List.getElem_toArray, List.getElem_cons_succ, List.getElem_cons_zero, List.setIfInBounds_toArray, List.set_cons_zero, List.set_cons_succ]
  refine wpAnyH_take (i := 8) (v := ?v8_57) rfl (by kernel_rfl) (by kernel_rfl) (by kernel_rfl) (fun _ _ _ h => h) (Or.inl ⟨by rfl, ?y8_57⟩) (by assumption) ?r8_57
  case y8_57 => (intro w hSw; (try dsimp only at hSw); go_simp; first | done | with_reducible rfl)
  try simp only [Act.put, List.getElem_toArray, List.getElem_cons_succ, List.getElem_cons_zero, List.setIfInBounds_toArray, List.set_cons_zero, List.set_cons_succ]
  refine wpAnyH_take (i := 9) (v := ?v9_58) rfl (by kernel_rfl) (by kernel_rfl) (by kernel_rfl) (fun _ _ _ h => h) (Or.inl ⟨by rfl, ?y9_58⟩) (by assumption) ?r9_58
  case y9_58 => (intro w hSw; (try dsimp only at hSw); go_simp; first | done | with_reducible rfl)
  try simp only [Act.put, List.getElem_toArray, List.getElem_cons_succ, List.getElem_cons_zero, List.setIfInBounds_toArray, List.set_cons_zero, List.set_cons_succ]
  refine wpAnyH_take (i := 10) (v := ?v10_59) rfl (by kernel_rfl) (by kernel_rfl) (by kernel_rfl) (fun _ _ _ h => h) (Or.inl ⟨by rfl, ?y10_59⟩) (by assumption) ?r10_59
  case y10_59 => (intro w hSw; (try dsimp only at hSw); go_simp; first | done | with_reducible rfl)
  try simp only [Act.put, List.getElem_toArray, List.getElem_cons_succ, List.getElem_cons_zero, List.setIfInBounds_toArray, List.set_cons_zero, List.set_cons_succ]
  refine wpAnyH_take (i := 11) (v := ?v11_60) rfl (by kernel_rfl) (by kernel_rfl) (by kernel_rfl) (fun _ _ _ h => h) (Or.inl ⟨by rfl, ?y11_60⟩) (by assumption) ?r11_60
  case y11_60 => (intro w hSw; (try dsimp only at hSw); go_simp; first | done | with_reducible rfl)
  try simp only [Act.put, List.getElem_toArray, List.getElem_cons_succ, List.getElem_cons_zero, List.setIfInBounds_toArray, List.set_cons_zero, List.set_cons_succ]
  refine wpAnyH_take (i := 12) (v := ?v12_61) rfl (by kernel_rfl) (by kernel_rfl) (by kernel_rfl) (fun _ _ _ h => h) (Or.inl ⟨by rfl, ?y12_61⟩) (by assumption) ?r12_61
  case y12_61 => (intro w hSw; (try dsimp only at hSw); have d1 := hSw.2; go_simp; first | done | with_reducible rfl)
  try simp only [Act.put, List.getElem_toArray, List.getElem_cons_succ, List.getElem_cons_zero, List.setIfInBounds_toArray, List.set_cons_zero, List.set_cons_succ]
  refine wpAnyH_take (i := 13) (v := ?v13_62) rfl (by kernel_rfl) (by kernel_rfl) (by kernel_rfl) (fun _ _ _ h => h) (Or.inl ⟨by rfl, ?y13_62⟩) (by assumption) ?r13_62
  case y13_62 => (intro w hSw; (try dsimp only at hSw); go_simp; first | done | with_reducible rfl)
  try simp only [Act.put, List.getElem_toArray, List.getElem_cons_succ, List.getElem_cons_zero, List.setIfInBounds_toArray, List.set_cons_zero, List.set_cons_succ]
  refine wpAnyH_ready (rs := [14]) (by kernel_rfl) (by simp) ?_
  refine AllReadyH.cons rfl (fun K hK => ?_) AllReadyH.nil
  go_simp
  with_reducible refine (wset s.F1 s.gl 0 s.R1 (i : Int) dd _ (L5.out.none_kept ((Kp.refl _ _).drew)) (by omega)).mono ?_
  rintro ev w6 ⟨rfl, h6, k6⟩
  have W6 := Lib.hid h6
  have K6 := Lib.hid (show Kp (FK s.F1 w5) w5 w6 from ⟨k6.os, k6.tape, k6.output, k6.size, k6.block⟩)
  have BG6 := Lib.hid (BG5.out.kept K6.out (FK.not BG5.out (by decide)))
  clear h6 k6
  try dsimp only
  refine hK.out _ _ (⟨(BG6.out.cell 6).trans rfl, (BG6.out.cell 2).trans rfl⟩) (fun hHeld => ?_)
  clear hK K
  try simp only [Act.put, List.getElem_toArray, List.getElem_cons_succ, List.getElem_cons_zero, List.setIfInBounds_toArray, List.set_cons_zero, List.set_cons_succ]
  refine wpAnyH_done (by kernel_rfl) ?_ _
  go_wp2_with fail
  have hse : setE s.R1 (i : Int) dd = 0 := by
    unfold setE
    have hlr : s.R1.length ≤ 1000 := by
      rw [HC.out.er.len HC.out.es]
      show s.ents.length ≤ 1000
      have := HLN.out.1; have := HLN.out.2.1; omega
    rw [if_neg (Nat.not_lt.2 HDD.out.2), if_neg (fun hh => by omega)]
  have h6 := W6.out
  unfold setR at h6
  rw [if_pos hse] at h6
  have hins : IS (s.count + 1) (idel i s.ents ++ [(⟨i, ⟨m1, m2, m3, m4, m5, m6⟩, s.count + 1, dd⟩ : En)]) :=
    (H.out.es.del i).add (by rw [iget_idel, if_pos rfl]) rfl
  obtain ⟨cm7, k7, f7⟩ := HC.out.noted (x := ⟨i, ⟨m1, m2, m3, m4, m5, m6⟩, s.count + 1, dd⟩) hins U5.out K5.out h6 K6.out
  have K7 := Lib.hid (H.out.back KW.out (fun b hb => .inl hb) k7)
  have CR := crel g i _ w6 cm7 hi
  refine CR.mono ?_
  rintro ev w8 ⟨A, c, rfl, hA, cm8, k8⟩
  have hs8 : ∀ b, cfp g ((CS.note { s with count := s.count + 1 } ⟨i, ⟨m1, m2, m3, m4, m5, m6⟩, s.count + 1, dd⟩ c5 w5 w6).rel i) b → cfp g s b ∨ w.heap.size ≤ b := fun b hb => by
    rcases f7 b hb with hb | hb
    · exact .inl hb
    · exact .inr (Nat.le_trans HSW.out hb)
  have K8 := Lib.hid (H.out.back K7.out (s1 := CS.note { s with count := s.count + 1 } ⟨i, ⟨m1, m2, m3, m4, m5, m6⟩, s.count + 1, dd⟩ c5 w5 w6) hs8 k8)
  have CM8 := Lib.hid cm8
  have HA := Lib.hid hA
  have HS8 := Lib.hid hs8
  clear CR cm7 k7 f7 cm8 k8 hA hs8 h6 hins
  go_wp2_with fail
  exact bodyPost_ret (results_tmp rfl _ _ _) rfl ⟨A, c, _, rfl, HA.out, CM8.out, ⟨rfl, rfl, rfl, rfl, rfl, by
    have hd := HDD.out.1
    subst hd
    exact base_new HEX.out hful _, rfl, rfl⟩, K8.out, HS8.out⟩
end Go.Proofs.YtgidjgkafbjkpaaGreatDoor
