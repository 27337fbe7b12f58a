/- Cache: Learn. -/
import Derived.Test.YtgidjgkafbjkpaaGreatDoorCwe
set_option linter.unusedVariables false
set_option linter.unusedSimpArgs false
namespace Go.Proofs.YtgidjgkafbjkpaaGreatDoor
open Go.RowKit

set_option maxRecDepth 1000000 in
set_option maxHeartbeats 16000000 in
theorem learn_f (g i now m1 m2 m3 m4 m5 m6 : Nat) (s : CS) (w : World) (h : CM w g s) (hi : i < 4294967296) (hc : s.count < 1000000) (hroom : s.room ≤ 1000) (hlen : s.ents.length ≤ s.room) (hlife : s.life ≤ 4294967296) (hex : (iget i s.ents).isSome = false) (hful : s.ents.length = s.room) (x : En) (l : List En) (hxl : s.ents = x :: l) (hxip : x.ip < 4294967296) :
    Calls Tryz.prog 9 #[.pointer (some ⟨g, 0, none⟩), .int .u32 (i : Int), .agg (macC m1 m2 m3 m4 m5 m6), .int .u64 (now : Int)] w fun ev w' => LrnPost g i now ⟨m1, m2, m3, m4, m5, m6⟩ s w w' ev := by
  have k1 : Kp (fun _ => False) w (w.alloc (.cells (macC m1 m2 m3 m4 m5 m6) 32)) := (Kp.refl _ w).alloc _
  have b6 : Bk (w.alloc (.cells (macC m1 m2 m3 m4 m5 m6) 32)) w.heap.size 32 (macC m1 m2 m3 m4 m5 m6) := Bk.new w 32 _
  have z4 : (w.alloc (.cells (macC m1 m2 m3 m4 m5 m6) 32)).cell? ⟨g, 4, none⟩ = some (.map (some s.eb)) := ((h.none_kept k1).bk.cell 4).trans rfl
  obtain ⟨m, o, hlk, hs, _, _⟩ := h.look_ent i
  obtain ⟨n1, n2, n3, n4, n5, n6⟩ := m
  have LK : (Instr.lookup 65 (.map (some s.eb)) (.int .u32 (i : Int)) true).run Tryz.prog (w.alloc (.cells (macC m1 m2 m3 m4 m5 m6) 32)) = .ok (.tuple #[.agg #[.int .u8 (n1 : Int), .int .u8 (n2 : Int), .int .u8 (n3 : Int), .int .u8 (n4 : Int), .int .u8 (n5 : Int), .int .u8 (n6 : Int), .int .i64 (o : Int)], .bool false]) (w.alloc (.cells (macC m1 m2 m3 m4 m5 m6) 32)) := by
    have := ((h.none_kept k1).em.run_lookup (P := Tryz.prog) (T := 65) (E := 70) (K := 30) Tryz.underlying65 Tryz.underlying30 (z := .agg #[.int .u8 0, .int .u8 0, .int .u8 0, .int .u8 0, .int .u8 0, .int .u8 0, .int .i64 0]) (by kernel_rfl) (i : Int)).2
    rw [hlk, hs, hex] at this
    exact this
  have H := Lib.hid h
  have LEN := Lib.hid (fun (w' : World) (k : Kp (fun _ => False) w w') => show (Builtin.len_ #[65] 3 #[.map (some s.eb)]).run Tryz.prog w' = .ok (.int .i64 (s.ents.length : Int)) w' by
    have := (H.out.em.kept k (fun f => f)).run_len (P := Tryz.prog) (T := 65) (E := 70) (K := 30) Tryz.underlying65 3
    rw [H.out.eh.len] at this
    exact this)
  have C4 := Lib.hid (show w.cell? ⟨g, 4, none⟩ = some (.map (some s.eb)) from (h.bk.cell 4).trans rfl)
  have C0 := Lib.hid (show w.cell? ⟨g, 0, none⟩ = some (.int .i64 (s.room : Int)) from (h.bk.cell 0).trans rfl)
  have HEX := Lib.hid hex
  have HXL := Lib.hid hxl
  clear hxl
  have HB6 := Lib.hid b6
  have K1 := Lib.hid k1
  have HLN := Lib.hid (And.intro hroom (And.intro hlen hlife))
  clear h hlk hs hex b6 k1 hroom hlen hlife
  go_enter Tryz.func9, Tryz.ntmps9
  go_wp2_with fail
  have B6 := Lib.hid (HB6.out.kept ((Kp.refl (fun _ => False) _).alloc (.cells #[.int .u8 (n1 : Int), .int .u8 (n2 : Int), .int .u8 (n3 : Int), .int .u8 (n4 : Int), .int .u8 (n5 : Int), .int .u8 (n6 : Int), .int .i64 (o : Int)] 70)) (fun f => f))
  have K2 := Lib.hid (K1.out.alloc (.cells #[.int .u8 (n1 : Int), .int .u8 (n2 : Int), .int .u8 (n3 : Int), .int .u8 (n4 : Int), .int .u8 (n5 : Int), .int .u8 (n6 : Int), .int .i64 (o : Int)] 70))
  clear HB6 K1 LK z4
  generalize (w.alloc (.cells (macC m1 m2 m3 m4 m5 m6) 32)).alloc (.cells #[.int .u8 (n1 : Int), .int .u8 (n2 : Int), .int .u8 (n3 : Int), .int .u8 (n4 : Int), .int .u8 (n5 : Int), .int .u8 (n6 : Int), .int .i64 (o : Int)] 70) = W at *
  refine wp_region_held_drew (S := (fun w' => Kp (fun _ => False) w w')) (by kernel_rfl) (K2.out.drew) (fun hHeld => ?_)
  refine wpAnyH_take (i := 0) (v := ?v0_0) rfl (by kernel_rfl) (by kernel_rfl) (by kernel_rfl) (fun _ _ _ h => h) (Or.inl ⟨by rfl, ?y0_0⟩) (by assumption) ?r0_0
  case y0_0 => (intro w hSw; (try dsimp only at hSw); go_simp; first | done | with_reducible rfl)
  try simp only [Act.put, List.getElem_toArray, List.getElem_cons_succ, List.getElem_cons_zero, List.setIfInBounds_toArray, List.set_cons_zero, List.set_cons_succ]
  refine wpAnyH_take (i := 1) (v := ?v1_1) rfl (by kernel_rfl) (by kernel_rfl) (by kernel_rfl) (fun _ _ _ h => h) (Or.inl ⟨by rfl, ?y1_1⟩) (by assumption) ?r1_1
  case y1_1 => (intro w hSw; (try dsimp only at hSw); go_simp; first | done | with_reducible rfl)
  try simp only [Act.put, List.getElem_toArray, List.getElem_cons_succ, List.getElem_cons_zero, List.setIfInBounds_toArray, List.set_cons_zero, List.set_cons_succ]
  refine wpAnyH_take (i := 2) (v := ?v2_2) rfl (by kernel_rfl) (by kernel_rfl) (by kernel_rfl) (fun _ _ _ h => h) (Or.inl ⟨by rfl, ?y2_2⟩) (by assumption) ?r2_2
  case y2_2 => (intro w hSw; (try dsimp only at hSw); go_simp; first | done | with_reducible rfl)
  try simp only [Act.put, List.getElem_toArray, List.getElem_cons_succ, List.getElem_cons_zero, List.setIfInBounds_toArray, List.set_cons_zero, List.set_cons_succ]
  refine wpAnyH_take (i := 3) (v := ?v3_3) rfl (by kernel_rfl) (by kernel_rfl) (by kernel_rfl) (fun _ _ _ h => h) (Or.inl ⟨by rfl, ?y3_3⟩) (by assumption) ?r3_3
  case y3_3 => (intro w hSw; (try dsimp only at hSw); go_simp; first | done | with_reducible rfl)
  try simp only [Act.put, List.getElem_toArray, List.getElem_cons_succ, List.getElem_cons_zero, List.setIfInBounds_toArray, List.set_cons_zero, List.set_cons_succ]
  refine wpAnyH_take (i := 4) (v := ?v4_4) rfl (by kernel_rfl) (by kernel_rfl) (by kernel_rfl) (fun _ _ _ h => h) (Or.inl ⟨by rfl, ?y4_4⟩) (by assumption) ?r4_4
  case y4_4 => (intro w hSw; (try dsimp only at hSw); go_simp; first | done | with_reducible rfl)
  try simp only [Act.put, List.getElem_toArray, List.getElem_cons_succ, List.getElem_cons_zero, List.setIfInBounds_toArray, List.set_cons_zero, List.set_cons_succ]
  refine wpAnyH_take (i := 5) (v := ?v5_5) rfl (by kernel_rfl) (by kernel_rfl) (by kernel_rfl) (fun _ _ _ h => h) (Or.inl ⟨by rfl, ?y5_5⟩) (by assumption) ?r5_5
  case y5_5 => (intro w hSw; (try dsimp only at hSw); go_simp; first | done | with_reducible rfl)
  try simp only [Act.put, List.getElem_toArray, List.getElem_cons_succ, List.getElem_cons_zero, List.setIfInBounds_toArray, List.set_cons_zero, List.set_cons_succ]
  refine wpAnyH_take (i := 6) (v := ?v6_6) rfl (by kernel_rfl) (by kernel_rfl) (by kernel_rfl) (fun _ _ _ h => h) (Or.inl ⟨by rfl, ?y6_6⟩) (by assumption) ?r6_6
  case y6_6 => (intro w hSw; (try dsimp only at hSw); have d1 := kp_kc0 C4.out hSw; go_simp; first | done | with_reducible rfl)
  try simp only [Act.put, List.getElem_toArray, List.getElem_cons_succ, List.getElem_cons_zero, List.setIfInBounds_toArray, List.set_cons_zero, List.set_cons_succ]
  refine wpAnyH_take (i := 7) (v := ?v7_7) rfl (by kernel_rfl) (by kernel_rfl) (by kernel_rfl) (fun _ _ _ h => h) (Or.inl ⟨by rfl, ?y7_7⟩) (by assumption) ?r7_7
  case y7_7 => (intro w hSw; (try dsimp only at hSw); have d1 := LEN.out w hSw; go_simp; first | done | with_reducible rfl)
  try simp only [Act.put, List.getElem_toArray, List.getElem_cons_succ, List.getElem_cons_zero, List.setIfInBounds_toArray, List.set_cons_zero, List.set_cons_succ]
  refine wpAnyH_take (i := 8) (v := ?v8_8) rfl (by kernel_rfl) (by kernel_rfl) (by kernel_rfl) (fun _ _ _ h => h) (Or.inl ⟨by rfl, ?y8_8⟩) (by assumption) ?r8_8
  case y8_8 => (intro w hSw; (try dsimp only at hSw); go_simp; first | done | with_reducible rfl)
  try simp only [Act.put, List.getElem_toArray, List.getElem_cons_succ, List.getElem_cons_zero, List.setIfInBounds_toArray, List.set_cons_zero, List.set_cons_succ]
  refine wpAnyH_take (i := 9) (v := ?v9_9) rfl (by kernel_rfl) (by kernel_rfl) (by kernel_rfl) (fun _ _ _ h => h) (Or.inl ⟨by rfl, ?y9_9⟩) (by assumption) ?r9_9
  case y9_9 => (intro w hSw; (try dsimp only at hSw); go_simp; first | done | with_reducible rfl)
  try simp only [Act.put, List.getElem_toArray, List.getElem_cons_succ, List.getElem_cons_zero, List.setIfInBounds_toArray, List.set_cons_zero, List.set_cons_succ]
  refine wpAnyH_take (i := 10) (v := ?v10_10) rfl (by kernel_rfl) (by kernel_rfl) (by kernel_rfl) (fun _ _ _ h => h) (Or.inl ⟨by rfl, ?y10_10⟩) (by assumption) ?r10_10
  case y10_10 => (intro w hSw; (try dsimp only at hSw); go_simp; first | done | with_reducible rfl)
  try simp only [Act.put, List.getElem_toArray, List.getElem_cons_succ, List.getElem_cons_zero, List.setIfInBounds_toArray, List.set_cons_zero, List.set_cons_succ]
  refine wpAnyH_take (i := 11) (v := ?v11_11) rfl (by kernel_rfl) (by kernel_rfl) (by kernel_rfl) (fun _ _ _ h => h) (Or.inl ⟨by rfl, ?y11_11⟩) (by assumption) ?r11_11
  case y11_11 => (intro w hSw; (try dsimp only at hSw); go_simp; first | done | with_reducible rfl)
  try simp only [Act.put, List.getElem_toArray, List.getElem_cons_succ, List.getElem_cons_zero, List.setIfInBounds_toArray, List.set_cons_zero, List.set_cons_succ]
  refine wpAnyH_take (i := 12) (v := ?v12_12) rfl (by kernel_rfl) (by kernel_rfl) (by kernel_rfl) (fun _ _ _ h => h) (Or.inl ⟨by rfl, ?y12_12⟩) (by assumption) ?r12_12
  case y12_12 => (intro w hSw; (try dsimp only at hSw); have d1 := kp_kc0 C0.out hSw; go_simp; first | done | with_reducible rfl)
  try simp only [Act.put, List.getElem_toArray, List.getElem_cons_succ, List.getElem_cons_zero, List.setIfInBounds_toArray, List.set_cons_zero, List.set_cons_succ]
  refine wpAnyH_take (i := 13) (v := ?v13_13) rfl (by kernel_rfl) (by kernel_rfl) (by kernel_rfl) (fun _ _ _ h => h) (Or.inl ⟨by rfl, ?y13_13⟩) (by assumption) ?r13_13
  case y13_13 => (intro w hSw; (try dsimp only at hSw); go_simp; first | done | with_reducible rfl)
  try simp only [Act.put, List.getElem_toArray, List.getElem_cons_succ, List.getElem_cons_zero, List.setIfInBounds_toArray, List.set_cons_zero, List.set_cons_succ]
  refine wpAnyH_take (i := 14) (v := ?v14_14) rfl (by kernel_rfl) (by kernel_rfl) (by kernel_rfl) (fun _ _ _ h => h) (Or.inl ⟨by rfl, ?y14_14⟩) (by assumption) ?r14_14
  case y14_14 => (intro w hSw; (try dsimp only at hSw); go_simp; first | done | with_reducible rfl)
  try simp only [Act.put, List.getElem_toArray, List.getElem_cons_succ, List.getElem_cons_zero, List.setIfInBounds_toArray, List.set_cons_zero, List.set_cons_succ]
  refine wpAnyH_done (by kernel_rfl) ?_ _
  have hln := HLN.out.2.1
  have hge : (s.room : Int) ≤ (s.ents.length : Int) := by omega
  go_wp2_with fail
  have K2 := Lib.hid K2.out.drew
  have B6 := Lib.hid (show Bk W.drew w.heap.size 32 (macC m1 m2 m3 m4 m5 m6) from B6.out)
  generalize W.drew = W at *
  refine (celdest g s x l W (H.out.none_kept K2.out) HXL.out (by have := HLN.out; omega)).mono ?_
  rintro ev w2 ⟨rfl, k2⟩
  have K3 := Lib.hid (K2.out.trans' k2)
  have B6 := Lib.hid (B6.out.kept k2 (fun f => f))
  clear k2 K2
  go_wp2_with fail
  have hx4 : x.ip < 4294967296 := hxip
  refine (cdrop g x.ip s w2 (H.out.none_kept K3.out) hx4).mono ?_
  rintro ev w3 ⟨rfl, hcm, k3⟩
  have KW := Lib.hid (H.out.back (s1 := s) (K3.out.mono (fun _ f => f.elim)) (fun b hb => .inl hb) k3)
  have B6 := Lib.hid (B6.out.kept k3 (fun hk => by rcases hk.2 32 _ B6.out with e | e <;> exact absurd e (by decide)))
  have HC := Lib.hid hcm
  clear k3 K3 hcm
  go_wp2_with fail
  have hcd : (s.drop x.ip).count < 1000000 := hc
  refine wp_region_held_drew (S := (fun w' => w'.cell? ⟨g, 4, none⟩ = some (.map (some s.eb)) ∧ Bk w' w.heap.size 32 (macC m1 m2 m3 m4 m5 m6))) (by kernel_rfl) (⟨(HC.out.bk.cell 4).trans rfl, B6.out⟩) (fun hHeld => ?_)
  refine wpAnyH_take (i := 0) (v := ?v0_15) rfl (by kernel_rfl) (by kernel_rfl) (by kernel_rfl) (fun _ _ _ h => h) (Or.inl ⟨by rfl, ?y0_15⟩) (by assumption) ?r0_15
  case y0_15 => (intro w hSw; (try dsimp only at hSw); go_simp; first | done | with_reducible rfl)
  try simp only [Act.put, List.getElem_toArray, List.getElem_cons_succ, List.getElem_cons_zero, List.setIfInBounds_toArray, List.set_cons_zero, List.set_cons_succ]
  refine wpAnyH_take (i := 1) (v := ?v1_16) rfl (by kernel_rfl) (by kernel_rfl) (by kernel_rfl) (fun _ _ _ h => h) (Or.inl ⟨by rfl, ?y1_16⟩) (by assumption) ?r1_16
  case y1_16 => (intro w hSw; (try dsimp only at hSw); go_simp; first | done | with_reducible rfl)
  try simp only [Act.put, List.getElem_toArray, List.getElem_cons_succ, List.getElem_cons_zero, List.setIfInBounds_toArray, List.set_cons_zero, List.set_cons_succ]
  refine wpAnyH_take (i := 2) (v := ?v2_17) rfl (by kernel_rfl) (by kernel_rfl) (by kernel_rfl) (fun _ _ _ h => h) (Or.inl ⟨by rfl, ?y2_17⟩) (by assumption) ?r2_17
  case y2_17 => (intro w hSw; (try dsimp only at hSw); go_simp; first | done | with_reducible rfl)
  try simp only [Act.put, List.getElem_toArray, List.getElem_cons_succ, List.getElem_cons_zero, List.setIfInBounds_toArray, List.set_cons_zero, List.set_cons_succ]
  refine wpAnyH_take (i := 3) (v := ?v3_18) rfl (by kernel_rfl) (by kernel_rfl) (by kernel_rfl) (fun _ _ _ h => h) (Or.inl ⟨by rfl, ?y3_18⟩) (by assumption) ?r3_18
  case y3_18 => (intro w hSw; (try dsimp only at hSw); have d1 := hSw.1; go_simp; first | done | with_reducible rfl)
  try simp only [Act.put, List.getElem_toArray, List.getElem_cons_succ, List.getElem_cons_zero, List.setIfInBounds_toArray, List.set_cons_zero, List.set_cons_succ]
  refine wpAnyH_take (i := 4) (v := ?v4_19) rfl (by kernel_rfl) (by kernel_rfl) (by kernel_rfl) (fun _ _ _ h => h) (Or.inl ⟨by rfl, ?y4_19⟩) (by assumption) ?r4_19
  case y4_19 => (intro w hSw; (try dsimp only at hSw); go_simp; first | done | with_reducible rfl)
  try simp only [Act.put, List.getElem_toArray, List.getElem_cons_succ, List.getElem_cons_zero, List.setIfInBounds_toArray, List.set_cons_zero, List.set_cons_succ]
  refine wpAnyH_take (i := 5) (v := ?v5_20) rfl (by kernel_rfl) (by kernel_rfl) (by kernel_rfl) (fun _ _ _ h => h) (Or.inl ⟨by rfl, ?y5_20⟩) (by assumption) ?r5_20
  case y5_20 => (intro w hSw; (try dsimp only at hSw); have d0 := hSw.2.cell 0; have d1 := hSw.2.cell 1; have d2 := hSw.2.cell 2; have d3 := hSw.2.cell 3; have d4 := hSw.2.cell 4; have d5 := hSw.2.cell 5; go_simp; first | done | with_reducible rfl)
  try simp only [Act.put, List.getElem_toArray, List.getElem_cons_succ, List.getElem_cons_zero, List.setIfInBounds_toArray, List.set_cons_zero, List.set_cons_succ]
  refine wpAnyH_take (i := 6) (v := ?v6_21) rfl (by kernel_rfl) (by kernel_rfl) (by kernel_rfl) (fun _ _ _ h => h) (Or.inl ⟨by rfl, ?y6_21⟩) (by assumption) ?r6_21
  case y6_21 => (intro w hSw; (try dsimp only at hSw); go_simp; first | done | with_reducible rfl)
  try simp only [Act.put, List.getElem_toArray, List.getElem_cons_succ, List.getElem_cons_zero, List.setIfInBounds_toArray, List.set_cons_zero, List.set_cons_succ]
  refine wpAnyH_ready (rs := [7]) (by kernel_rfl) (by simp) ?_
  refine AllReadyH.cons rfl (fun K hK => ?_) AllReadyH.nil
  go_simp
  with_reducible refine (cnext g (s.drop x.ip) _ (HC.out.none_kept ((Kp.refl _ _).drew)) hcd).mono ?_
  rintro ev w4 ⟨rfl, hcm, k4⟩
  have B6 := Lib.hid (B6.out.kept (w' := w4) (show Kp (CK g (s.drop x.ip) w3) w3 w4 from ⟨k4.os, k4.tape, k4.output, k4.size, k4.block⟩) (fun hk => by rcases hk.2 32 _ B6.out with e | e <;> exact absurd e (by decide)))
  have KW := Lib.hid (H.out.back (s1 := (s.drop x.ip)) KW.out (fun b hb => .inl hb) (show Kp (CK g (s.drop x.ip) w3) w3 w4 from ⟨k4.os, k4.tape, k4.output, k4.size, k4.block⟩))
  have HC := Lib.hid hcm
  have HSW := Lib.hid KW.out.size
  clear k4 hcm
  try dsimp only
  refine hK.out _ _ (⟨(HC.out.bk.cell 4).trans rfl, B6.out⟩) (fun hHeld => ?_)
  clear hK K
  try simp only [Act.put, List.getElem_toArray, List.getElem_cons_succ, List.getElem_cons_zero, List.setIfInBounds_toArray, List.set_cons_zero, List.set_cons_succ]
  refine wpAnyH_take (i := 8) (v := ?v8_22) rfl (by kernel_rfl) (by kernel_rfl) (by kernel_rfl) (fun _ _ _ h => h) (Or.inl ⟨by rfl, ?y8_22⟩) (by assumption) ?r8_22
  case y8_22 => (intro w hSw; (try dsimp only at hSw); go_simp; first | done | with_reducible rfl)
  try simp only [Act.put, List.getElem_toArray, List.getElem_cons_succ, List.getElem_cons_zero, List.setIfInBounds_toArray, List.set_cons_zero, List.set_cons_succ]
  refine wpAnyH_ready (rs := [9]) (by kernel_rfl) (by simp) ?_
  refine AllReadyH.cons rfl (fun K hK => ?_) AllReadyH.nil
  obtain ⟨w5, c5, hrun5, u5, k5⟩ := HC.out.em.run_update (P := Tryz.prog) (T := 65) (E := 70) (K := 30) Tryz.underlying65 Tryz.underlying30 (i : Int) (entV ⟨m1, m2, m3, m4, m5, m6⟩ ((s.drop x.ip).count + 1))
  have hrun5 : (Instr.mapUpdate 65 (.map (some s.eb)) (.int .u32 (i : Int)) (.agg #[.int .u8 (m1 : Int), .int .u8 (m2 : Int), .int .u8 (m3 : Int), .int .u8 (m4 : Int), .int .u8 (m5 : Int), .int .u8 (m6 : Int), .int .i64 (((s.drop x.ip).count : Int) + 1)])).run Tryz.prog w4 = .ok () w5 := hrun5
  have U5 := Lib.hid u5
  have K5 := Lib.hid k5
  have BG5 := Lib.hid (HC.out.bk.kept k5 HC.out.g_ne_e)
  have B6 := Lib.hid (B6.out.kept k5 (fun e => not_map_bk HC.out.em (by have e : w.heap.size = s.eb := e; have hq := B6.out; rw [e] at hq; exact hq)))
  clear u5 k5
  go_simp
  refine hK.out _ _ (⟨(BG5.out.cell 4).trans rfl, B6.out⟩) (fun hHeld => ?_)
  clear hK K
  try simp only [Act.put, List.getElem_toArray, List.getElem_cons_succ, List.getElem_cons_zero, List.setIfInBounds_toArray, List.set_cons_zero, List.set_cons_succ]
  refine wpAnyH_done (by kernel_rfl) ?_ _
  go_wp2_with fail
  have L5 : Hid (Whl s.F1 w5 s.gl 0 (rdel (x.ip : Int) s.R1)) := Lib.hid (HC.out.lw.kept K5.out (fun b _ hb e => HC.out.e1 (by have : b = s.eb := e; rw [this] at hb; exact hb)))
  obtain ⟨dd, hdd⟩ : ∃ dd, min now MT + s.life = dd := ⟨_, rfl⟩
  obtain ⟨mn, hmn⟩ : ∃ mn, min now MT = mn := ⟨_, rfl⟩
  have hmin : (min (now : Int) 2305843009213693952) = (mn : Int) := by rw [← hmn]; unfold MT; omega
  have hlf := HLN.out.2.2
  have hadd : IntKind.u64.wrap ((mn : Int) + (s.life : Int)) = (dd : Int) := by
    show ((mn : Int) + (s.life : Int)) % 18446744073709551616 = _
    have : mn ≤ 2305843009213693952 := by rw [← hmn]; unfold MT; omega
    omega
  have HDD := Lib.hid (And.intro hdd (show dd ≤ TOP by
    have : mn ≤ 2305843009213693952 := by rw [← hmn]; unfold MT; omega
    unfold TOP; omega))
  clear hdd hmn
  have hcv : IntKind.i64.wrap (i : Int) = (i : Int) := IntWalk.i64_in _ (by omega)
  refine wp_region_held_drew (S := (fun w' => w'.cell? ⟨g, 6, none⟩ = some (.pointer (some ⟨s.gl, 0, none⟩)) ∧ w'.cell? ⟨g, 2, none⟩ = some (.int .u64 (s.life : Int)))) (by kernel_rfl) (⟨(BG5.out.cell 6).trans rfl, (BG5.out.cell 2).trans rfl⟩) (fun hHeld => ?_)
  refine wpAnyH_take (i := 0) (v := ?v0_23) rfl (by kernel_rfl) (by kernel_rfl) (by kernel_rfl) (fun _ _ _ h => h) (Or.inl ⟨by rfl, ?y0_23⟩) (by assumption) ?r0_23
  case y0_23 => (intro w hSw; (try dsimp only at hSw); go_simp; first | done | with_reducible rfl)
  try simp only [Act.put, List.getElem_toArray, List.getElem_cons_succ, List.getElem_cons_zero, List.setIfInBounds_toArray, List.set_cons_zero, List.set_cons_succ]
  refine wpAnyH_take (i := 1) (v := ?v1_24) rfl (by kernel_rfl) (by kernel_rfl) (by kernel_rfl) (fun _ _ _ h => h) (Or.inl ⟨by rfl, ?y1_24⟩) (by assumption) ?r1_24
  case y1_24 => (intro w hSw; (try dsimp only at hSw); go_simp; first | done | with_reducible rfl)
  try simp only [Act.put, List.getElem_toArray, List.getElem_cons_succ, List.getElem_cons_zero, List.setIfInBounds_toArray, List.set_cons_zero, List.set_cons_succ]
  refine wpAnyH_take (i := 2) (v := ?v2_25) rfl (by kernel_rfl) (by kernel_rfl) (by kernel_rfl) (fun _ _ _ h => h) (Or.inl ⟨by rfl, ?y2_25⟩) (by assumption) ?r2_25
  case y2_25 => (intro w hSw; (try dsimp only at hSw); go_simp; first | done | with_reducible rfl)
  try simp only [Act.put, List.getElem_toArray, List.getElem_cons_succ, List.getElem_cons_zero, List.setIfInBounds_toArray, List.set_cons_zero, List.set_cons_succ]
  refine wpAnyH_take (i := 3) (v := ?v3_26) rfl (by kernel_rfl) (by kernel_rfl) (by kernel_rfl) (fun _ _ _ h => h) (Or.inl ⟨by rfl, ?y3_26⟩) (by assumption) ?r3_26
  case y3_26 => (intro w hSw; (try dsimp only at hSw); have d1 := hSw.1; go_simp; first | done | with_reducible rfl)
  try simp only [Act.put, List.getElem_toArray, List.getElem_cons_succ, List.getElem_cons_zero, List.setIfInBounds_toArray, List.set_cons_zero, List.set_cons_succ]
  refine wpAnyH_take (i := 4) (v := ?v4_27) rfl (by kernel_rfl) (by kernel_rfl) (by kernel_rfl) (fun _ _ _ h => h) (Or.inl ⟨by rfl, ?y4_27⟩) (by assumption) ?r4_27
  case y4_27 => (intro w hSw; (try dsimp only at hSw); go_simp; first | done | with_reducible rfl)
  try simp only [Act.put, List.getElem_toArray, List.getElem_cons_succ, List.getElem_cons_zero, List.setIfInBounds_toArray, List.set_cons_zero, List.set_cons_succ]
  refine wpAnyH_take (i := 5) (v := ?v5_28) rfl (by kernel_rfl) (by kernel_rfl) (by kernel_rfl) (fun _ _ _ h => h) (Or.inl ⟨by rfl, ?y5_28⟩) (by assumption) ?r5_28
  case y5_28 => (intro w hSw; (try dsimp only at hSw); go_simp; first | done | with_reducible rfl)
  try simp only [Act.put, List.getElem_toArray, List.getElem_cons_succ, List.getElem_cons_zero, List.setIfInBounds_toArray, List.set_cons_zero, List.set_cons_succ]
  refine wpAnyH_take (i := 6) (v := ?v6_29) rfl (by kernel_rfl) (by kernel_rfl) (by kernel_rfl) (fun _ _ _ h => h) (Or.inl ⟨by rfl, ?y6_29⟩) (by assumption) ?r6_29
  case y6_29 => (intro w hSw; (try dsimp only at hSw); go_simp; first | done | with_reducible rfl)
  try simp only [Act.put, List.getElem_toArray, List.getElem_cons_succ, List.getElem_cons_zero, List.setIfInBounds_toArray, List.set_cons_zero, List.set_cons_succ]
  refine wpAnyH_take (i := 7) (v := ?v7_30) rfl (by kernel_rfl) (by kernel_rfl) (by kernel_rfl) (fun _ _ _ h => h) (Or.inl ⟨by rfl, ?y7_30⟩) (by assumption) ?r7_30
  case y7_30 => (intro w hSw; (try dsimp only at hSw); go_simp; first | done | with_reducible rfl)
  try simp only [Act.put, List.getElem_toArray, List.getElem_cons_succ, List.getElem_cons_zero, List.setIfInBounds_toArray, List.set_cons_zero, List.set_cons_succ]
  refine wpAnyH_take (i := 8) (v := ?v8_31) rfl (by kernel_rfl) (by kernel_rfl) (by kernel_rfl) (fun _ _ _ h => h) (Or.inl ⟨by rfl, ?y8_31⟩) (by assumption) ?r8_31
  case y8_31 => (intro w hSw; (try dsimp only at hSw); go_simp; first | done | with_reducible rfl)
  try simp only [Act.put, List.getElem_toArray, List.getElem_cons_succ, List.getElem_cons_zero, List.setIfInBounds_toArray, List.set_cons_zero, List.set_cons_succ]
  refine wpAnyH_take (i := 9) (v := ?v9_32) rfl (by kernel_rfl) (by kernel_rfl) (by kernel_rfl) (fun _ _ _ h => h) (Or.inl ⟨by rfl, ?y9_32⟩) (by assumption) ?r9_32
  case y9_32 => (intro w hSw; (try dsimp only at hSw); go_simp; first | done | with_reducible rfl)
  try simp only [Act.put, List.getElem_toArray, List.getElem_cons_succ, List.getElem_cons_zero, List.setIfInBounds_toArray, List.set_cons_zero, List.set_cons_succ]
  refine wpAnyH_take (i := 10) (v := ?v10_33) rfl (by kernel_rfl) (by kernel_rfl) (by kernel_rfl) (fun _ _ _ h => h) (Or.inl ⟨by rfl, ?y10_33⟩) (by assumption) ?r10_33
  case y10_33 => (intro w hSw; (try dsimp only at hSw); go_simp; first | done | with_reducible rfl)
  try simp only [Act.put, List.getElem_toArray, List.getElem_cons_succ, List.getElem_cons_zero, List.setIfInBounds_toArray, List.set_cons_zero, List.set_cons_succ]
  refine wpAnyH_take (i := 11) (v := ?v11_34) rfl (by kernel_rfl) (by kernel_rfl) (by kernel_rfl) (fun _ _ _ h => h) (Or.inl ⟨by rfl, ?y11_34⟩) (by assumption) ?r11_34
  case y11_34 => (intro w hSw; (try dsimp only at hSw); go_simp; first | done | with_reducible rfl)
  try simp only [Act.put, List.getElem_toArray, List.getElem_cons_succ, List.getElem_cons_zero, List.setIfInBounds_toArray, List.set_cons_zero, List.set_cons_succ]
  refine wpAnyH_take (i := 12) (v := ?v12_35) rfl (by kernel_rfl) (by kernel_rfl) (by kernel_rfl) (fun _ _ _ h => h) (Or.inl ⟨by rfl, ?y12_35⟩) (by assumption) ?r12_35
  case y12_35 => (intro w hSw; (try dsimp only at hSw); have d1 := hSw.2; go_simp; first | done | with_reducible rfl)
  try simp only [Act.put, List.getElem_toArray, List.getElem_cons_succ, List.getElem_cons_zero, List.setIfInBounds_toArray, List.set_cons_zero, List.set_cons_succ]
  refine wpAnyH_take (i := 13) (v := ?v13_36) rfl (by kernel_rfl) (by kernel_rfl) (by kernel_rfl) (fun _ _ _ h => h) (Or.inl ⟨by rfl, ?y13_36⟩) (by assumption) ?r13_36
  case y13_36 => (intro w hSw; (try dsimp only at hSw); go_simp; first | done | with_reducible rfl)
  try simp only [Act.put, List.getElem_toArray, List.getElem_cons_succ, List.getElem_cons_zero, List.setIfInBounds_toArray, List.set_cons_zero, List.set_cons_succ]
  refine wpAnyH_ready (rs := [14]) (by kernel_rfl) (by simp) ?_
  refine AllReadyH.cons rfl (fun K hK => ?_) AllReadyH.nil
  go_simp
  with_reducible refine (wset s.F1 s.gl 0 (rdel (x.ip : Int) s.R1) (i : Int) dd _ (L5.out.none_kept ((Kp.refl _ _).drew)) (by omega)).mono ?_
  rintro ev w6 ⟨rfl, h6, k6⟩
  have W6 := Lib.hid h6
  have K6 := Lib.hid (show Kp (FK s.F1 w5) w5 w6 from ⟨k6.os, k6.tape, k6.output, k6.size, k6.block⟩)
  have BG6 := Lib.hid (BG5.out.kept K6.out (FK.not BG5.out (by decide)))
  clear h6 k6
  try dsimp only
  refine hK.out _ _ (⟨(BG6.out.cell 6).trans rfl, (BG6.out.cell 2).trans rfl⟩) (fun hHeld => ?_)
  clear hK K
  try simp only [Act.put, List.getElem_toArray, List.getElem_cons_succ, List.getElem_cons_zero, List.setIfInBounds_toArray, List.set_cons_zero, List.set_cons_succ]
  refine wpAnyH_done (by kernel_rfl) ?_ _
  go_wp2_with fail
  have hse : setE (rdel (x.ip : Int) s.R1) (i : Int) dd = 0 := by
    unfold setE
    have hlr : ((rdel (x.ip : Int) s.R1)).length ≤ 1000 := by
      have hq : ((rdel (x.ip : Int) s.R1)).length = _ := HC.out.er.len HC.out.es
      rw [hq]
      show (idel x.ip s.ents).length ≤ 1000
      have := List.length_filter_le (fun y : En => y.ip != x.ip) s.ents
      have h2 : (idel x.ip s.ents).length = (s.ents.filter (fun y => y.ip != x.ip)).length := rfl
      have := HLN.out.1; have := HLN.out.2.1
      omega
    rw [if_neg (Nat.not_lt.2 HDD.out.2), if_neg (fun hh => by omega)]
  have h6 := W6.out
  unfold setR at h6
  rw [if_pos hse] at h6
  have hins : IS ((s.drop x.ip).count + 1) (idel i (s.drop x.ip).ents ++ [(⟨i, ⟨m1, m2, m3, m4, m5, m6⟩, (s.drop x.ip).count + 1, dd⟩ : En)]) :=
    ((H.out.es.del x.ip).del i).add (by rw [iget_idel, if_pos rfl]) rfl
  obtain ⟨cm7, k7, f7⟩ := HC.out.noted (x := ⟨i, ⟨m1, m2, m3, m4, m5, m6⟩, (s.drop x.ip).count + 1, dd⟩) hins U5.out K5.out h6 K6.out
  have K7 := Lib.hid (H.out.back KW.out (fun b hb => .inl hb) k7)
  have CR := crel g i _ w6 cm7 hi
  refine CR.mono ?_
  rintro ev w8 ⟨A, c, rfl, hA, cm8, k8⟩
  have hs8 : ∀ b, cfp g ((CS.note { (s.drop x.ip) with count := (s.drop x.ip).count + 1 } ⟨i, ⟨m1, m2, m3, m4, m5, m6⟩, (s.drop x.ip).count + 1, dd⟩ c5 w5 w6).rel i) b → cfp g s b ∨ w.heap.size ≤ b := fun b hb => by
    rcases f7 b hb with hb | hb
    · exact .inl hb
    · exact .inr (Nat.le_trans HSW.out hb)
  have K8 := Lib.hid (H.out.back K7.out (s1 := CS.note { (s.drop x.ip) with count := (s.drop x.ip).count + 1 } ⟨i, ⟨m1, m2, m3, m4, m5, m6⟩, (s.drop x.ip).count + 1, dd⟩ c5 w5 w6) hs8 k8)
  have CM8 := Lib.hid cm8
  have HA := Lib.hid hA
  have HS8 := Lib.hid hs8
  clear CR cm7 k7 f7 cm8 k8 hA hs8 h6 hins
  go_wp2_with fail
  exact bodyPost_ret (results_tmp rfl _ _ _) rfl ⟨A, c, _, rfl, HA.out, CM8.out, ⟨rfl, rfl, rfl, rfl, rfl, by
    have hd := HDD.out.1
    subst hd
    exact base_full H.out.es HEX.out HXL.out (Nat.le_of_eq hful.symm) _, rfl, rfl⟩, K8.out, HS8.out⟩
end Go.Proofs.YtgidjgkafbjkpaaGreatDoor
