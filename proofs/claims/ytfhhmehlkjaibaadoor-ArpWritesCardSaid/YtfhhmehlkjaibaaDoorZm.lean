/- Arp: the reference's Bytes. -/
import Derived.Test.YtfhhmehlkjaibaaDoorZl
set_option linter.unusedVariables false
set_option linter.unusedSimpArgs false
namespace Go.Proofs.YtfhhmehlkjaibaaDoor
open Go.RowKit Go.Proofs.YtfhhmehlkjaibaaDoorW.PrintWords

/-- append of bytes onto a row of one's own, as one step. -/
theorem wp_append_rd {w : World} {o : Oper} {a : Act} {K : Act → World → Prop} {Q : Exit → Act → World → Prop} (s x : Operand)
    (ho : o.op = .call { callee := .builtin .append, args := #[s, x], argTypes := #[38, 38] }) (base : Nat) (hbase : base ≤ w.heap.size)
    (v : Value) (n : Nat) (xs : List Int) (hs : a.eval s = v) (hown : w.ownsRow base 5 1 v n (intsK .u8 xs))
    (A : Option Addr) (m c : Nat) (ys : List Int) (hx : a.eval x = .slice A m c) (hm : m = ys.length) (hr : RdI w .u8 A ys) (hc0 : A = none → c = 0) (hb : n + m ≤ 100000)
    (h : ∀ v' w', w'.ownsRow base 5 1 v' (n + m) (intsK .u8 (xs ++ ys)) → Kp (fun k => v.ownBlock = some k) w w' → K (a.put o.dst v') w') : o.wp Tryd.prog a w K Q := by
  obtain ⟨i0, hi0, hz0, hz1, hz2⟩ := info_parts u8Info
  cases A with
  | none =>
    have h0 : ys = [] := by
      rcases hr.2 with h | ⟨_, _, h, _⟩
      · exact List.eq_nil_of_length_eq_zero h
      · cases h
    subst h0
    obtain rfl := hc0 rfl
    obtain rfl : m = 0 := hm
    have hrun := run_append_owned_none (P := Tryd.prog) (w := w) base 38 o.type 5 i0 1 Tryd.underlying38 hi0 v n (intsK .u8 xs) hown
    unfold Oper.wp
    simp [execOp, ho, resolve, invoke, builtin, hs, hx, hrun, Result.andThen]
    exact h v w (by simpa using hown) (Kp.refl _ _)
  | some ad =>
    refine wp_append_own w s x 38 ho base 5 i0 (.int .u8 0) 1 1 Tryd.underlying38 hi0 hz0 hz1 hz2 rfl (by omega) v n (intsK .u8 xs) hs hown ad m c (intsK .u8 ys) hx (by rw [intsK_len, hm]; omega) hr.cells (intsK_one _ _) (by unfold maxLen; omega) (by omega) hbase ?_
    intro v' w' h1 h2 _
    exact h v' w' (by simpa [intsK] using h1) ((Kp.refl _ w).grown h2 (fun k hk => .inl hk))

set_option maxRecDepth 100000 in
set_option maxHeartbeats 20000000 in
theorem rbytes_any (op : Int) (m t : Nat → Int) (ip tip : Nat) (w : World) (hi : ip < 4294967296) (ht : tip < 4294967296) :
    Calls Tryd.prog 24 #[.agg (pkt op m ip t tip)] w fun ev w' => ∃ s, ev = .returned s ∧ w'.ownsRow w.heap.size 5 1 s 28 (intsK .u8 (pbytes op m ip t tip)) ∧ Kp (fun _ => False) w w' := by
  have hb := Bk.new w 48 (pkt op m ip t tip)
  have kA := (Kp.refl (fun _ => False) w).alloc (.cells (pkt op m ip t tip) 48)
  have hsz : (w.alloc (.cells (pkt op m ip t tip) 48)).heap.size = w.heap.size + 1 := by simp
  have c0 : _ = some (Value.int .i64 op) := hb.cell 0
  have c7 : _ = some (Value.int .u32 ip) := hb.cell 7
  have c14 : _ = some (Value.int .u32 tip) := hb.cell 14
  have E7 := Lib.hid c7
  have E14 := Lib.hid c14
  clear c7 c14
  obtain ⟨q, hq⟩ : ∃ q, IntKind.u64.wrap op = q := ⟨_, rfl⟩
  have hq2 : q = op % 18446744073709551616 := by rw [← hq, IntKind.wrap_u64]
  have q0 : 0 ≤ q := by omega
  have q1 : q < 18446744073709551616 := by omega
  have e1 : (q / 256).tmod 256 = op % 65536 / 256 := by rw [Int.tmod_eq_emod_of_nonneg (by omega)]; omega
  have e2 : q.tmod 256 = op % 256 := by rw [Int.tmod_eq_emod_of_nonneg (by omega)]; omega
  have e3 : q.tdiv 256 = q / 256 := Int.tdiv_eq_ediv_of_nonneg (by omega)
  have e4 : IntKind.u8.wrap (op % 65536 / 256) = op % 65536 / 256 := by rw [IntKind.wrap_u8']; omega
  have e5 : IntKind.u8.wrap (op % 256) = op % 256 := by rw [IntKind.wrap_u8']; omega
  have HBA := Lib.hid hb
  have HK := Lib.hid kA
  have FM := Lib.hid (pkt_mac op m t ip tip)
  have FT := Lib.hid (pkt_to op m t ip tip)
  have HSZ := Lib.hid hsz
  clear hb kA hsz hq2
  generalize hF : pkt op m ip t tip = F at *
  clear hF
  go_enter Tryd.func24, Tryd.ntmps24
  go_wp2_with fail
  generalize w.alloc (.cells F 48) = wA at *
  refine (head_any _).mono ?_
  rintro ev w1 ⟨s1, rfl, own1, k1⟩
  have KC := Lib.hid k1
  have O1 := Lib.hid own1
  have hw1 : wA.heap.size ≤ w1.heap.size := k1.size
  clear own1 k1 c0
  go_wp2_with
    (at_builtin
     go_must (refine wpList_append_rd rfl (.tmp 8) (.tmp 16) rfl wA.heap.size (by simp; omega) s1 6 [0, 1, 8, 0, 6, 4] rfl (own_kp O1.out ((Kp.refl (fun _ => False) w1).alloc (.cells #[.int .u8 (op % 65536 / 256), .int .u8 (op % 256)] 5)) (fun _ _ f => f)) (some ⟨w1.heap.size, 0, none⟩) 2 2 [op % 65536 / 256, op % 256] rfl rfl (RdI.new w1 .u8 5 [op % 65536 / 256, op % 256] (by simp)) (fun h => by cases h) (by omega) ?_)
     intro v2 w2 hown hk
     have KC := Lib.hid ((KC.out.alloc (.cells #[.int .u8 (op % 65536 / 256), .int .u8 (op % 256)] 5)).trans hk (fun j hj hk => absurd (O1.out.lt j hk).1 (by omega)))
     have O2 := Lib.hid hown
     clear hown hk)
  refine wp_region_held_drew (S := (fun w' => Kp (fun _ => False) wA w')) (by kernel_rfl) (KC.out.drew) (fun hHeld => ?_)
  have KC := Lib.hid KC.out.drew
  refine wpAnyH_take (i := 0) (v := ?v0_0) rfl (by kernel_rfl) (by kernel_rfl) (by kernel_rfl) (fun _ _ _ h => h) (Or.inl ⟨by rfl, ?y0_0⟩) (by assumption) ?r0_0
  case y0_0 => (intro w hSw; (try dsimp only at hSw); go_simp; first | done | with_reducible rfl)
  try simp only [Act.put, List.getElem_toArray, List.getElem_cons_succ, List.getElem_cons_zero, List.setIfInBounds_toArray, List.set_cons_zero, List.set_cons_succ]
  refine wpAnyH_take (i := 1) (v := ?v1_1) rfl (by kernel_rfl) (by kernel_rfl) (by kernel_rfl) (fun _ _ _ h => h) (Or.inl ⟨by rfl, ?y1_1⟩) (by assumption) ?r1_1
  case y1_1 => (intro w hSw; (try dsimp only at hSw); go_simp; first | done | with_reducible rfl)
  try simp only [Act.put, List.getElem_toArray, List.getElem_cons_succ, List.getElem_cons_zero, List.setIfInBounds_toArray, List.set_cons_zero, List.set_cons_succ]
  refine wpAnyH_take (i := 2) (v := ?v2_2) rfl (by kernel_rfl) (by kernel_rfl) (by kernel_rfl) (fun _ _ _ h => h) (Or.inl ⟨by rfl, ?y2_2⟩) (by assumption) ?r2_2
  case y2_2 => (intro w hSw; (try dsimp only at hSw); go_simp; first | done | with_reducible rfl)
  try simp only [Act.put, List.getElem_toArray, List.getElem_cons_succ, List.getElem_cons_zero, List.setIfInBounds_toArray, List.set_cons_zero, List.set_cons_succ]
  refine wpAnyH_take (i := 4) (v := ?v4_3) rfl (by kernel_rfl) (by kernel_rfl) (by kernel_rfl) (fun _ _ _ h => h) (Or.inl ⟨by rfl, ?y4_3⟩) (by assumption) ?r4_3
  case y4_3 => (intro w hSw; (try dsimp only at hSw); go_simp; first | done | with_reducible rfl)
  try simp only [Act.put, List.getElem_toArray, List.getElem_cons_succ, List.getElem_cons_zero, List.setIfInBounds_toArray, List.set_cons_zero, List.set_cons_succ]
  refine wpAnyH_take (i := 5) (v := ?v5_4) rfl (by kernel_rfl) (by kernel_rfl) (by kernel_rfl) (fun _ _ _ h => h) (Or.inl ⟨by rfl, ?y5_4⟩) (by assumption) ?r5_4
  case y5_4 => (intro w hSw; (try dsimp only at hSw); have d7 := kp_kc E7.out hSw; go_simp; first | done | with_reducible rfl)
  try simp only [Act.put, List.getElem_toArray, List.getElem_cons_succ, List.getElem_cons_zero, List.setIfInBounds_toArray, List.set_cons_zero, List.set_cons_succ]
  refine wpAnyH_ready (rs := [3]) (by kernel_rfl) (by simp) ?_
  refine AllReadyH.cons rfl (fun K hK => ?_) AllReadyH.nil
  rw [if_pos (by rfl)]
  refine wp_append_rd (.tmp 18) (.tmp 20) (by rfl) wA.heap.size KC.out.size (v2) (6 + 2) (([0, 1, 8, 0, 6, 4] ++ [op % 65536 / 256, op % 256])) (by rfl) O2.out (some ⟨w.heap.size, 1, none⟩) 6 6 (macL m) (by rfl) rfl ((HBA.out.kept KC.out (fun f => f)).rd m 1 FM.out) (fun h => by cases h) (by omega) ?_
  intro va wa owna ka
  have KC := Lib.hid (KC.out.trans ka (fun j hj hk => absurd (O2.out.lt j hk).1 (by omega)))
  have Oa := Lib.hid owna
  clear owna ka
  refine hK.out _ _ (KC.out) (fun hHeld => ?_)
  clear hK K
  try simp only [Act.put, List.getElem_toArray, List.getElem_cons_succ, List.getElem_cons_zero, List.setIfInBounds_toArray, List.set_cons_zero, List.set_cons_succ]
  refine wpAnyH_ready (rs := [6]) (by kernel_rfl) (by simp) ?_
  refine AllReadyH.cons rfl (fun K hK => ?_) AllReadyH.nil
  go_simp
  with_reducible refine (four_any ip _ hi).mono ?_
  rintro ev xb ⟨sb, rfl, ownb, k9⟩
  obtain ⟨ab, db, rfl, rb⟩ := own_some ownb (by omega)
  have KC := Lib.hid (KC.out.trans' k9)
  have Rb := Lib.hid rb
  have Oa := Lib.hid (own_kp Oa.out k9 (fun _ _ h => h))
  clear ownb k9 rb
  try dsimp only
  refine hK.out _ _ (KC.out) (fun hHeld => ?_)
  clear hK K
  try simp only [Act.put, List.getElem_toArray, List.getElem_cons_succ, List.getElem_cons_zero, List.setIfInBounds_toArray, List.set_cons_zero, List.set_cons_succ]
  refine wpAnyH_ready (rs := [7]) (by kernel_rfl) (by simp) ?_
  refine AllReadyH.cons rfl (fun K hK => ?_) AllReadyH.nil
  rw [if_pos (by rfl)]
  refine wp_append_rd (.tmp 21) (.tmp 24) (by rfl) wA.heap.size KC.out.size (va) (6 + 2 + 6) ((([0, 1, 8, 0, 6, 4] ++ [op % 65536 / 256, op % 256]) ++ macL m)) (by rfl) Oa.out (some ab) 4 db (four ip) (by rfl) rfl (Rb.out) (fun h => by cases h) (by omega) ?_
  intro vc wc ownc kc
  have KC := Lib.hid (KC.out.trans kc (fun j hj hk => absurd (Oa.out.lt j hk).1 (by omega)))
  have Oc := Lib.hid ownc
  clear ownc kc
  refine hK.out _ _ (KC.out) (fun hHeld => ?_)
  clear hK K
  try simp only [Act.put, List.getElem_toArray, List.getElem_cons_succ, List.getElem_cons_zero, List.setIfInBounds_toArray, List.set_cons_zero, List.set_cons_succ]
  refine wpAnyH_take (i := 8) (v := ?v8_5) rfl (by kernel_rfl) (by kernel_rfl) (by kernel_rfl) (fun _ _ _ h => h) (Or.inl ⟨by rfl, ?y8_5⟩) (by assumption) ?r8_5
  case y8_5 => (intro w hSw; (try dsimp only at hSw); go_simp; first | done | with_reducible rfl)
  try simp only [Act.put, List.getElem_toArray, List.getElem_cons_succ, List.getElem_cons_zero, List.setIfInBounds_toArray, List.set_cons_zero, List.set_cons_succ]
  refine wpAnyH_done (by kernel_rfl) ?_ _
  go_wp2_with fail
  refine wp_region_held_drew (S := (fun w' => Kp (fun _ => False) wA w')) (by kernel_rfl) (KC.out.drew) (fun hHeld => ?_)
  have KC := Lib.hid KC.out.drew
  refine wpAnyH_take (i := 0) (v := ?v0_6) rfl (by kernel_rfl) (by kernel_rfl) (by kernel_rfl) (fun _ _ _ h => h) (Or.inl ⟨by rfl, ?y0_6⟩) (by assumption) ?r0_6
  case y0_6 => (intro w hSw; (try dsimp only at hSw); go_simp; first | done | with_reducible rfl)
  try simp only [Act.put, List.getElem_toArray, List.getElem_cons_succ, List.getElem_cons_zero, List.setIfInBounds_toArray, List.set_cons_zero, List.set_cons_succ]
  refine wpAnyH_take (i := 1) (v := ?v1_7) rfl (by kernel_rfl) (by kernel_rfl) (by kernel_rfl) (fun _ _ _ h => h) (Or.inl ⟨by rfl, ?y1_7⟩) (by assumption) ?r1_7
  case y1_7 => (intro w hSw; (try dsimp only at hSw); go_simp; first | done | with_reducible rfl)
  try simp only [Act.put, List.getElem_toArray, List.getElem_cons_succ, List.getElem_cons_zero, List.setIfInBounds_toArray, List.set_cons_zero, List.set_cons_succ]
  refine wpAnyH_take (i := 2) (v := ?v2_8) rfl (by kernel_rfl) (by kernel_rfl) (by kernel_rfl) (fun _ _ _ h => h) (Or.inl ⟨by rfl, ?y2_8⟩) (by assumption) ?r2_8
  case y2_8 => (intro w hSw; (try dsimp only at hSw); go_simp; first | done | with_reducible rfl)
  try simp only [Act.put, List.getElem_toArray, List.getElem_cons_succ, List.getElem_cons_zero, List.setIfInBounds_toArray, List.set_cons_zero, List.set_cons_succ]
  refine wpAnyH_take (i := 4) (v := ?v4_9) rfl (by kernel_rfl) (by kernel_rfl) (by kernel_rfl) (fun _ _ _ h => h) (Or.inl ⟨by rfl, ?y4_9⟩) (by assumption) ?r4_9
  case y4_9 => (intro w hSw; (try dsimp only at hSw); go_simp; first | done | with_reducible rfl)
  try simp only [Act.put, List.getElem_toArray, List.getElem_cons_succ, List.getElem_cons_zero, List.setIfInBounds_toArray, List.set_cons_zero, List.set_cons_succ]
  refine wpAnyH_take (i := 5) (v := ?v5_10) rfl (by kernel_rfl) (by kernel_rfl) (by kernel_rfl) (fun _ _ _ h => h) (Or.inl ⟨by rfl, ?y5_10⟩) (by assumption) ?r5_10
  case y5_10 => (intro w hSw; (try dsimp only at hSw); have d14 := kp_kc E14.out hSw; go_simp; first | done | with_reducible rfl)
  try simp only [Act.put, List.getElem_toArray, List.getElem_cons_succ, List.getElem_cons_zero, List.setIfInBounds_toArray, List.set_cons_zero, List.set_cons_succ]
  refine wpAnyH_ready (rs := [3]) (by kernel_rfl) (by simp) ?_
  refine AllReadyH.cons rfl (fun K hK => ?_) AllReadyH.nil
  rw [if_pos (by rfl)]
  refine wp_append_rd (.tmp 26) (.tmp 28) (by rfl) wA.heap.size KC.out.size (vc) (6 + 2 + 6 + 4) (((([0, 1, 8, 0, 6, 4] ++ [op % 65536 / 256, op % 256]) ++ macL m) ++ four ip)) (by rfl) Oc.out (some ⟨w.heap.size, 8, none⟩) 6 6 (macL t) (by rfl) rfl ((HBA.out.kept KC.out (fun f => f)).rd t 8 FT.out) (fun h => by cases h) (by omega) ?_
  intro vd wd ownd kd
  have KC := Lib.hid (KC.out.trans kd (fun j hj hk => absurd (Oc.out.lt j hk).1 (by omega)))
  have Od := Lib.hid ownd
  clear ownd kd
  refine hK.out _ _ (KC.out) (fun hHeld => ?_)
  clear hK K
  try simp only [Act.put, List.getElem_toArray, List.getElem_cons_succ, List.getElem_cons_zero, List.setIfInBounds_toArray, List.set_cons_zero, List.set_cons_succ]
  refine wpAnyH_ready (rs := [6]) (by kernel_rfl) (by simp) ?_
  refine AllReadyH.cons rfl (fun K hK => ?_) AllReadyH.nil
  go_simp
  with_reducible refine (four_any tip _ ht).mono ?_
  rintro ev xe ⟨se, rfl, owne, k9⟩
  obtain ⟨ae, de, rfl, re⟩ := own_some owne (by omega)
  have KC := Lib.hid (KC.out.trans' k9)
  have Re := Lib.hid re
  have Od := Lib.hid (own_kp Od.out k9 (fun _ _ h => h))
  clear owne k9 re
  try dsimp only
  refine hK.out _ _ (KC.out) (fun hHeld => ?_)
  clear hK K
  try simp only [Act.put, List.getElem_toArray, List.getElem_cons_succ, List.getElem_cons_zero, List.setIfInBounds_toArray, List.set_cons_zero, List.set_cons_succ]
  refine wpAnyH_ready (rs := [7]) (by kernel_rfl) (by simp) ?_
  refine AllReadyH.cons rfl (fun K hK => ?_) AllReadyH.nil
  rw [if_pos (by rfl)]
  refine wp_append_rd (.tmp 29) (.tmp 32) (by rfl) wA.heap.size KC.out.size (vd) (6 + 2 + 6 + 4 + 6) ((((([0, 1, 8, 0, 6, 4] ++ [op % 65536 / 256, op % 256]) ++ macL m) ++ four ip) ++ macL t)) (by rfl) Od.out (some ae) 4 de (four tip) (by rfl) rfl (Re.out) (fun h => by cases h) (by omega) ?_
  intro vf wf ownf kf
  have KC := Lib.hid (KC.out.trans kf (fun j hj hk => absurd (Od.out.lt j hk).1 (by omega)))
  have Of := Lib.hid ownf
  clear ownf kf
  refine hK.out _ _ (KC.out) (fun hHeld => ?_)
  clear hK K
  try simp only [Act.put, List.getElem_toArray, List.getElem_cons_succ, List.getElem_cons_zero, List.setIfInBounds_toArray, List.set_cons_zero, List.set_cons_succ]
  refine wpAnyH_take (i := 8) (v := ?v8_11) rfl (by kernel_rfl) (by kernel_rfl) (by kernel_rfl) (fun _ _ _ h => h) (Or.inl ⟨by rfl, ?y8_11⟩) (by assumption) ?r8_11
  case y8_11 => (intro w hSw; (try dsimp only at hSw); go_simp; first | done | with_reducible rfl)
  try simp only [Act.put, List.getElem_toArray, List.getElem_cons_succ, List.getElem_cons_zero, List.setIfInBounds_toArray, List.set_cons_zero, List.set_cons_succ]
  refine wpAnyH_done (by kernel_rfl) ?_ _
  go_wp2_with fail
  go_ret
  have hls := HSZ.out
  refine ⟨vf, rfl, ?_, HK.out.trans' KC.out⟩
  have := own_low (base' := w.heap.size) Of.out (by omega)
  unfold pbytes
  rw [show op % 65536 % 256 = op % 256 by omega]
  exact this
end Go.Proofs.YtfhhmehlkjaibaaDoor
