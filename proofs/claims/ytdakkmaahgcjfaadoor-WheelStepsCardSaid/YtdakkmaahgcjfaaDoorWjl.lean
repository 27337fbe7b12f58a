/- Wheel: the walk of WheelSteps. -/
import Derived.Test.YtdakkmaahgcjfaaDoorWjk
set_option linter.unusedVariables false
set_option linter.unusedSimpArgs false
namespace Go.Proofs.YtdakkmaahgcjfaaDoor
open Go.RowKit

open Go.Shelf Go.Sort Go.Maps
theorem rgot_step {t T : Nat} (h : t ≤ T) : ∀ R : Rows, rgot t R ++ rgot T (rrest t R) = rgot T R ∧ rrest T (rrest t R) = rrest T R
  | [] => ⟨rfl, rfl⟩
  | y :: R => by
    have ih := rgot_step h R
    by_cases hy : y.2 ≤ t
    · have hT : y.2 ≤ T := by omega
      have e1 : rgot t (y :: R) = y.1 :: rgot t R := by conv => lhs; unfold rgot; rw [if_pos hy]
      have e2 : rrest t (y :: R) = rrest t R := by conv => lhs; unfold rrest; rw [if_pos hy]
      have e3 : rgot T (y :: R) = y.1 :: rgot T R := by conv => lhs; unfold rgot; rw [if_pos hT]
      have e4 : rrest T (y :: R) = rrest T R := by conv => lhs; unfold rrest; rw [if_pos hT]
      rw [e1, e2, e3, e4, List.cons_append, ih.1, ih.2]
      exact ⟨rfl, rfl⟩
    · have e1 : rgot t (y :: R) = [] := by conv => lhs; unfold rgot; rw [if_neg hy]
      have e2 : rrest t (y :: R) = y :: R := by conv => lhs; unfold rrest; rw [if_neg hy]
      rw [e1, e2]
      exact ⟨rfl, rfl⟩
theorem rgot_rest (t : Nat) : ∀ R : Rows, rgot t (rrest t R) = []
  | [] => rfl
  | y :: R => by
    by_cases hy : y.2 ≤ t
    · have e2 : rrest t (y :: R) = rrest t R := by conv => lhs; unfold rrest; rw [if_pos hy]
      rw [e2]; exact rgot_rest t R
    · have e2 : rrest t (y :: R) = y :: R := by conv => lhs; unfold rrest; rw [if_neg hy]
      rw [e2]; unfold rgot; rw [if_neg hy]
theorem own_bk {w : World} {base e size n : Nat} {v : Value} {xs : List Value} (h : w.ownsRow base e size v n xs) {k : Nat} (hk : v.ownBlock = some k) : ∃ cs, Bk w k e cs := by
  rcases h.2 with ⟨rfl, _⟩ | ⟨gb, cap, cur, rfl, _, hgb, _⟩
  · cases hk
  · obtain rfl : gb = k := Option.some.inj hk
    exact ⟨cur, hgb⟩
theorem own_by_whl {F : Nat → Prop} {w w' : World} {base size n : Nat} {v : Value} {xs : List Value} (h : w.ownsRow base 3 size v n xs) (hk : Kp (FK F w) w w') : w'.ownsRow base 3 size v n xs :=
  own_kp h hk (fun k e => by obtain ⟨cs, hb⟩ := own_bk h e; exact FK.not hb (by decide))
theorem Whl.by_row {F : Nat → Prop} {w w' : World} {g now base size n : Nat} {R : Rows} {v : Value} {xs : List Value} (h : Whl F w g now R) (ho : w.ownsRow base 3 size v n xs) (hk : Kp (fun b => v.ownBlock = some b) w w') : Whl F w' g now R := by
  obtain ⟨s, wm, inv, ag, hf, hk'⟩ := h
  exact ⟨s, wm.kept hk (fun b hb e => by obtain ⟨cs, hbk⟩ := own_bk ho e; exact fp_not wm hbk (by decide) hb), inv, ag, hf, hk'⟩
theorem Wx.by_row {w0 w w' : World} {s1 s2 g now base size n : Nat} {R : Rows} {v : Value} {xs : List Value} (h : Wx w0 s1 s2 w g now R) (ho : w.ownsRow base 3 size v n xs) (hb : w0.heap.size ≤ base) (hk : Kp (fun b => v.ownBlock = some b) w w') : Wx w0 s1 s2 w' g now R :=
  ⟨h.whl.by_row ho hk, Nat.le_trans h.sz hk.size, h.kp.trans hk (fun b hb' e => by have := (ho.lt b e).1; omega), h.tab.kept hk (fun e => by have := (ho.lt 0 e).1; have := h.pos; omega), h.pos⟩
theorem Wx.by_clone {w0 w w' : World} {s1 s2 g now : Nat} {R : Rows} (h : Wx w0 s1 s2 w g now R) (h0 : w0.heap.size ≤ s1) (hk : Kp (FK (fun b => s1 ≤ b ∧ b < s2) w) w w') : Wx w0 s1 s2 w' g now R :=
  h.beside hk (fun b _ hs => hs.1) (fun b hs => Nat.le_trans h0 hs.1.1)
theorem enc_one (l : List Int) : ∀ u ∈ l.map encZ, u.oneCell' = true := fun u hu => by
  obtain ⟨x, _, rfl⟩ := List.mem_map.1 hu
  rfl
theorem sameInts_selfI (A B : Option Addr) (c d : Nat) (xs : List Int) (w : World) (hx : RdI w .i64 A xs) (hy : RdI w .i64 B xs) :
    Calls Tryd.prog 19 #[.slice A xs.length c, .slice B xs.length d] w fun e w' => e = .returned (.bool true) ∧ ∃ n, w' = w.drewN n := by
  refine (sameInts_any A B c d xs xs w hx hy).mono ?_
  rintro e w' ⟨rfl, h⟩
  exact ⟨by simp, h⟩
/-- append of nil to a row of the call's own. -/
theorem wpList_append_nil {P : Program} {w : World} {ops : Array Oper} {rest : List Oper} {o : Oper} {a : Act} {Q : Exit → Act → World → Prop} (hgd : o.guard = none) (s x : Operand) (t : TypeId)
    (ho : o.op = .call { callee := .builtin .append, args := #[s, x], argTypes := #[t, t] }) (base : Nat) (e : TypeId) (i : TypeInfo) (size : Nat) (ht : P.underlying t = some (.slice e)) (hi : P.info? e = some i)
    (v : Value) (n : Nat) (xs : List Value) (hs : a.eval s = v) (hown : w.ownsRow base e size v n xs) (hx : a.eval x = .slice none 0 0) (h : wpList P ops Q rest (a.put o.dst v) w) : wpList P ops Q (o :: rest) a w :=
  wpList_plain hgd fun K hK => by
    have hrun := run_append_owned_none (P := P) (w := w) base t o.type e i size ht hi v n xs hown
    unfold Oper.wp execOp
    simp only [ho, resolve, invoke, builtin, Sem.run_bind, Sem.run_pure, Result.andThen_ok, List.map_toArray, List.map_cons, List.map_nil, hs, hx, hrun]
    exact hK _ _ h
/-- How it stands in the loop of WheelSteps. -/
structure SM (w wq : World) (s1 s2 g g2 now t i B0 : Nat) (R R1 : Rows) (v : Value) (out : List Int) : Prop where
  x : Wx w s1 s2 wq g t R1
  c : Whl (fun b => s1 ≤ b ∧ b < s2) wq g2 now R
  own : wq.ownsRow B0 3 1 v out.length (out.map encZ)
  nn : v ≠ .slice none 0 0
  eq : ∀ T, t ≤ T → out ++ rgot T R1 = rgot T R ∧ rrest T R1 = rrest T R
  off : 1 ≤ i → rgot t R1 = []
theorem SM.len {w wq : World} {s1 s2 g g2 now t i B0 : Nat} {R R1 : Rows} {v : Value} {out : List Int} (h : SM w wq s1 s2 g g2 now t i B0 R R1 v out) : out.length ≤ R.length ∧ R1.length ≤ R.length := by
  have h1 := h.eq t (Nat.le_refl _)
  have h2 := congrArg List.length h1.1
  have h3 := congrArg List.length h1.2
  have h4 := rgot_len t R
  have h5 := rgot_len t R1
  rw [List.length_append] at h2
  omega
set_option maxRecDepth 1000000 in
set_option maxHeartbeats 8000000 in
theorem steps_walk (now : Nat) (A B : Option Addr) (c d : Nat) (xs : List (Int × Int × Nat)) (S : List Nat) (w : World) (hT : Tab w) (hx : RdC w A xs) (hS : RdU w .u16 B S) (hs : ∀ j, S.getD j 0 ≤ 65535)
    (hbd : ∀ j, -9223372036854775808 ≤ (xs.getD j (0, 0, 0)).2.1 ∧ (xs.getD j (0, 0, 0)).2.1 ≤ 9223372036854775807) :
    Calls Tryd.prog 5 #[.int .u64 now, .slice A xs.length c, .slice B S.length d] w fun e w' => e = .returned (.bool true) ∧ Kp (fun _ => False) w w' := by
  have HT := Lib.hid hT
  have Hb := Lib.hid hbd
  have Hx := Lib.hid hx
  have hpos := hT.lt
  clear hT hbd hx
  have HS := Lib.hid hS
  have HSB := Lib.hid hs
  obtain ⟨i3, hi3, hy0, hy1, hy2⟩ := info3
  clear hS hs
  by_cases hl1 : (100 : Int) < (xs.length : Int)
  · go_enter Tryd.func5, Tryd.ntmps5
    go_wp2_with fail
    refine (alive13 _ HT.out).mono ?_
    rintro e w1 ⟨rfl, k1⟩
    go_wp2_with fail
    exact bodyPost_ret (results_tmp rfl _ _ _) rfl ⟨rfl, k1⟩
  by_cases hl2 : (S.length : Int) < 1
  · go_enter Tryd.func5, Tryd.ntmps5
    go_wp2_with fail
    refine (alive13 _ HT.out).mono ?_
    rintro e w1 ⟨rfl, k1⟩
    go_wp2_with fail
    exact bodyPost_ret (results_tmp rfl _ _ _) rfl ⟨rfl, k1⟩
  by_cases hl3 : (60 : Int) < (S.length : Int)
  · go_enter Tryd.func5, Tryd.ntmps5
    go_wp2_with fail
    refine (alive13 _ HT.out).mono ?_
    rintro e w1 ⟨rfl, k1⟩
    go_wp2_with fail
    exact bodyPost_ret (results_tmp rfl _ _ _) rfl ⟨rfl, k1⟩
  by_cases hl4 : (1152921504606846976 : Int) < (now : Int)
  · go_enter Tryd.func5, Tryd.ntmps5
    go_wp2_with fail
    refine (alive13 _ HT.out).mono ?_
    rintro e w1 ⟨rfl, k1⟩
    go_wp2_with fail
    exact bodyPost_ret (results_tmp rfl _ _ _) rfl ⟨rfl, k1⟩
  go_enter Tryd.func5, Tryd.ntmps5
  go_wp2_with fail
  refine (alive13 _ HT.out).mono ?_
  rintro e w1 ⟨rfl, k1⟩
  go_wp2_with fail
  refine (xnew now w w1 (by unfold TOP; omega) (HT.out.kept k1 (fun f => f)) hpos k1).mono ?_
  rintro e w2 ⟨g, rfl, h2, _⟩
  have X2 := Lib.hid h2
  clear h2 k1
  go_wp2_with fail
  go_loopw [9] (fun v wr => ∃ (i : Nat) (R : Rows), v = .int .i64 i ∧ i ≤ xs.length ∧ Wx w 0 0 wr g now R ∧ R.length ≤ i) (fun v _ => xs.length - (intOf v).toNat)
  case atStart => exact ⟨0, [], rfl, Nat.zero_le _, X2.out, Nat.le_refl _⟩
  case round =>
    obtain ⟨i, R, rfl, hi, hX, hlR⟩ := hrel
    have HX := Lib.hid hX
    have i0 : (0 : Int) ≤ (i : Int) := by omega
    clear hX
    by_cases hlt : i < xs.length
    · have i1 : (i : Int) < (xs.length : Int) := by omega
      have hyy := Hb.out i
      have HXW := Lib.hid (Hx.out.at_ hlt)
      obtain ⟨b, o, rfl, e0, e1, e2⟩ := (Hx.out.kp HX.out.kp).at_ hlt
      obtain ⟨b', o', hbo, e0', e1', e2'⟩ := HXW.out
      cases hbo
      generalize xs.getD i (0, 0, 0) = u at *
      obtain ⟨u0, u1, u2⟩ := u
      simp only at e0 e1 e2 hyy e0' e1' e2'
      have Y1 := Lib.hid e1'
      have Y2 := Lib.hid e2'
      clear HXW e0' e1' e2'
      have HLN : Hid ((setR R u1 u2).length ≤ i + 1) := Lib.hid (Nat.le_trans (setR_len ..) (by omega))
      have HST := Lib.hid (show ∀ W, Kp (fun _ => False) w W → Kp (fun _ => False) wr W → Calls Tryd.prog 17 #[.pointer (some ⟨g, 0, none⟩), .int .i64 u1, .int .u64 (u2 : Int)] W fun ev w' => ev = .returned (.int .i64 ((setE R u1 u2 : Nat) : Int)) ∧ Wx w 0 0 w' g now (setR R u1 u2) from fun W _ k2 => by
        refine (xset g now R u1 u2 W (HX.out.none_kept k2) hyy).mono ?_
        rintro ev w' ⟨rfl, h1, h2⟩
        exact ⟨rfl, h1⟩)
      generalize setR R u1 u2 = R4 at *
      generalize setE R u1 u2 = E4 at *
      have KC0 := Lib.hid ((Kp.refl (fun _ => False) wr).drew)
      have KC := Lib.hid HX.out.kp.drew
      by_cases hu0 : u0 = 0
      · subst hu0
        clear e1 e2 hyy
        go_wp2_with fail
        refine wp_region_held_drew (S := (fun w' => Kp (fun _ => False) w w')) (by kernel_rfl) (KC.out) (fun hHeld => ?_)
        refine wpAnyH_take (i := 0) (v := ?v0_0) rfl (by kernel_rfl) (by kernel_rfl) (by kernel_rfl) (fun _ _ _ h => h) (Or.inl ⟨by rfl, ?y0_0⟩) (by assumption) ?r0_0
        case y0_0 => (intro w hSw; (try dsimp only at hSw); go_simp; first | done | with_reducible rfl)
        try simp only [Act.put, List.getElem_toArray, List.getElem_cons_succ, List.getElem_cons_zero, List.setIfInBounds_toArray, List.set_cons_zero, List.set_cons_succ]
        refine wpAnyH_take (i := 1) (v := ?v1_1) rfl (by kernel_rfl) (by kernel_rfl) (by kernel_rfl) (fun _ _ _ h => h) (Or.inl ⟨by rfl, ?y1_1⟩) (by assumption) ?r1_1
        case y1_1 => (intro w hSw; (try dsimp only at hSw); go_simp; first | done | with_reducible rfl)
        try simp only [Act.put, List.getElem_toArray, List.getElem_cons_succ, List.getElem_cons_zero, List.setIfInBounds_toArray, List.set_cons_zero, List.set_cons_succ]
        refine wpAnyH_take (i := 2) (v := ?v2_2) rfl (by kernel_rfl) (by kernel_rfl) (by kernel_rfl) (fun _ _ _ h => h) (Or.inl ⟨by rfl, ?y2_2⟩) (by assumption) ?r2_2
        case y2_2 => (intro w hSw; (try dsimp only at hSw); go_simp; first | done | with_reducible rfl)
        try simp only [Act.put, List.getElem_toArray, List.getElem_cons_succ, List.getElem_cons_zero, List.setIfInBounds_toArray, List.set_cons_zero, List.set_cons_succ]
        refine wpAnyH_take (i := 3) (v := ?v3_3) rfl (by kernel_rfl) (by kernel_rfl) (by kernel_rfl) (fun _ _ _ h => h) (Or.inl ⟨by rfl, ?y3_3⟩) (by assumption) ?r3_3
        case y3_3 => (intro w hSw; (try dsimp only at hSw); go_simp; first | done | with_reducible rfl)
        try simp only [Act.put, List.getElem_toArray, List.getElem_cons_succ, List.getElem_cons_zero, List.setIfInBounds_toArray, List.set_cons_zero, List.set_cons_succ]
        refine wpAnyH_take (i := 4) (v := ?v4_4) rfl (by kernel_rfl) (by kernel_rfl) (by kernel_rfl) (fun _ _ _ h => h) (Or.inl ⟨by rfl, ?y4_4⟩) (by assumption) ?r4_4
        case y4_4 => (intro w hSw; (try dsimp only at hSw); go_simp; first | done | with_reducible rfl)
        try simp only [Act.put, List.getElem_toArray, List.getElem_cons_succ, List.getElem_cons_zero, List.setIfInBounds_toArray, List.set_cons_zero, List.set_cons_succ]
        refine wpAnyH_take (i := 5) (v := ?v5_5) rfl (by kernel_rfl) (by kernel_rfl) (by kernel_rfl) (fun _ _ _ h => h) (Or.inl ⟨by rfl, ?y5_5⟩) (by assumption) ?r5_5
        case y5_5 => (intro w hSw; (try dsimp only at hSw); have y1 := kp_kc0 Y1.out hSw; go_simp; first | done | with_reducible rfl)
        try simp only [Act.put, List.getElem_toArray, List.getElem_cons_succ, List.getElem_cons_zero, List.setIfInBounds_toArray, List.set_cons_zero, List.set_cons_succ]
        refine wpAnyH_take (i := 6) (v := ?v6_6) rfl (by kernel_rfl) (by kernel_rfl) (by kernel_rfl) (fun _ _ _ h => h) (Or.inl ⟨by rfl, ?y6_6⟩) (by assumption) ?r6_6
        case y6_6 => (intro w hSw; (try dsimp only at hSw); go_simp; first | done | with_reducible rfl)
        try simp only [Act.put, List.getElem_toArray, List.getElem_cons_succ, List.getElem_cons_zero, List.setIfInBounds_toArray, List.set_cons_zero, List.set_cons_succ]
        refine wpAnyH_take (i := 7) (v := ?v7_7) rfl (by kernel_rfl) (by kernel_rfl) (by kernel_rfl) (fun _ _ _ h => h) (Or.inl ⟨by rfl, ?y7_7⟩) (by assumption) ?r7_7
        case y7_7 => (intro w hSw; (try dsimp only at hSw); go_simp; first | done | with_reducible rfl)
        try simp only [Act.put, List.getElem_toArray, List.getElem_cons_succ, List.getElem_cons_zero, List.setIfInBounds_toArray, List.set_cons_zero, List.set_cons_succ]
        refine wpAnyH_take (i := 8) (v := ?v8_8) rfl (by kernel_rfl) (by kernel_rfl) (by kernel_rfl) (fun _ _ _ h => h) (Or.inl ⟨by rfl, ?y8_8⟩) (by assumption) ?r8_8
        case y8_8 => (intro w hSw; (try dsimp only at hSw); go_simp; first | done | with_reducible rfl)
        try simp only [Act.put, List.getElem_toArray, List.getElem_cons_succ, List.getElem_cons_zero, List.setIfInBounds_toArray, List.set_cons_zero, List.set_cons_succ]
        refine wpAnyH_take (i := 9) (v := ?v9_9) rfl (by kernel_rfl) (by kernel_rfl) (by kernel_rfl) (fun _ _ _ h => h) (Or.inl ⟨by rfl, ?y9_9⟩) (by assumption) ?r9_9
        case y9_9 => (intro w hSw; (try dsimp only at hSw); go_simp; first | done | with_reducible rfl)
        try simp only [Act.put, List.getElem_toArray, List.getElem_cons_succ, List.getElem_cons_zero, List.setIfInBounds_toArray, List.set_cons_zero, List.set_cons_succ]
        refine wpAnyH_take (i := 10) (v := ?v10_10) rfl (by kernel_rfl) (by kernel_rfl) (by kernel_rfl) (fun _ _ _ h => h) (Or.inl ⟨by rfl, ?y10_10⟩) (by assumption) ?r10_10
        case y10_10 => (intro w hSw; (try dsimp only at hSw); have y2 := kp_kc0 Y2.out hSw; go_simp; first | done | with_reducible rfl)
        try simp only [Act.put, List.getElem_toArray, List.getElem_cons_succ, List.getElem_cons_zero, List.setIfInBounds_toArray, List.set_cons_zero, List.set_cons_succ]
        refine wpAnyH_ready (rs := [11]) (by kernel_rfl) (by simp) ?_
        refine AllReadyH.cons rfl (fun K hK => ?_) AllReadyH.nil
        go_simp
        with_reducible refine (HST.out _ (by exact KC.out) (by exact KC0.out)).mono ?_
        rintro ev w4 ⟨rfl, x4⟩
        have KC := Lib.hid x4.kp
        have X4 := Lib.hid x4
        clear x4
        try dsimp only
        refine hK.out _ _ (KC.out) (fun hHeld => ?_)
        clear hK K
        try simp only [Act.put, List.getElem_toArray, List.getElem_cons_succ, List.getElem_cons_zero, List.setIfInBounds_toArray, List.set_cons_zero, List.set_cons_succ]
        refine wpAnyH_done (by kernel_rfl) ?_ _
        go_wp2_with fail
        go_roundw
        case rel => exact ⟨i + 1, R4, by go_num, hlt, X4.out, HLN.out⟩
        case measure => simp [intOf]; omega
      · have hb0 : (u0 == 0) = false := by simpa using hu0
        clear hu0 e1 e2 HST HLN
        go_wp2_with fail
        go_roundw
        case rel => exact ⟨i + 1, R, by go_num, hlt, HX.out, by omega⟩
        case measure => simp [intOf]; omega
    · have hRl : R.length ≤ 1000000 := by omega
      have hnow : now ≤ 1152921504606846976 := by omega
      have hsl : 1 ≤ S.length := by omega
      have hsl2 : S.length ≤ 60 := by omega
      have hw1 := HX.out.kp.size
      go_wp2_with fail
      refine (xclone g now R _ HX.out).mono ?_
      rintro ev w5 ⟨g2, rfl, x5, c5, k5⟩
      have hb0 : w.heap.size ≤ w5.heap.size := x5.kp.size
      have SM0 := Lib.hid (show SM w (w5.alloc (.cells #[] 3)) wr.heap.size w5.heap.size g g2 now now 0 w5.heap.size R R (.slice (some ⟨w5.heap.size, 0, none⟩) 0 0) [] from
        ⟨x5.alloc _, c5.none_kept ((Kp.refl _ _).alloc _), World.ownsRow_made w5 (base := w5.heap.size) (e := 3) (size := 1) #[] 0 (Nat.le_refl _) (by unfold maxLen; omega) rfl, fun e => (by cases e), fun T _ => ⟨rfl, rfl⟩, fun h => by omega⟩)
      clear x5 c5 k5
      go_wp2_with fail
      generalize hB0 : w5.heap.size = B0 at *
      generalize hs1 : wr.heap.size = s1 at *
      generalize w5.alloc (.cells #[] 3) = w6 at *
      clear hB0 hs1
      go_loopw [11, 12, 13] (fun v tv iv wq => ∃ (i t : Nat) (R1 : Rows) (out : List Int), tv = .int .u64 t ∧ iv = .int .i64 i ∧ i ≤ S.length ∧ t ≤ now + i * 65535 ∧ now ≤ t ∧ SM w wq s1 B0 g g2 now t i B0 R R1 v out) (fun _ _ iv _ => S.length - (intOf iv).toNat)
      case atStart => exact ⟨0, now, R, [], rfl, rfl, Nat.zero_le _, by omega, Nat.le_refl _, SM0.out⟩
      case round =>
        obtain ⟨i, t, R1, out, rfl, rfl, hi, ht, hnt, hm⟩ := hrel
        obtain ⟨hol, hrl1⟩ := hm.len
        have HM := Lib.hid hm
        have i0 : (0 : Int) ≤ (i : Int) := by omega
        clear hm
        by_cases hlt : i < S.length
        · have i1 : (i : Int) < (S.length : Int) := by omega
          obtain ⟨b, o, rfl, e0⟩ := (HS.out.kp HM.out.x.kp).at_ hlt
          have hsb := HSB.out i
          generalize S.getD i 0 = sv at e0 hsb
          have ht2 : t + sv ≤ now + (i + 1) * 65535 := by rw [Nat.add_mul]; omega
          have hts : t + sv ≤ TOP := by unfold TOP; have : (i + 1) * 65535 ≤ 60 * 65535 := Nat.mul_le_mul_right _ (by omega); omega
          have x1 : IntKind.u64.wrap ((t : Int) + (sv : Int)) = ((t + sv : Nat) : Int) := by
            unfold TOP at hts
            show ((t : Int) + (sv : Int)) % 18446744073709551616 = _
            omega
          have x2 : IntKind.u64.wrap (sv : Int) = (sv : Int) := by
            show (sv : Int) % 18446744073709551616 = _
            omega
          have HGO := wgo _ g t (t + sv) R1 wr HM.out.x.whl HM.out.x.tab HM.out.x.no0 hts (by omega) (by omega)
          have htT : t ≤ t + sv := by omega
          clear ht
          generalize hT' : t + sv = T at *
          clear hT'
          go_wp2_with fail
          refine HGO.mono ?_
          rintro ev w3 ⟨v3, rfl, o3, x3, k3⟩
          have hrg := rgot_step htT R1
          have X3 := Lib.hid (HM.out.x.turn x3 k3)
          have C3 := Lib.hid (HM.out.c.beside k3)
          have O3 := Lib.hid (own_by_whl HM.out.own k3)
          have HL := Lib.hid (show (out ++ rgot T R1).length ≤ R.length by
            have h1 := congrArg List.length (HM.out.eq T htT).1
            have h2 := rgot_len T R
            omega)
          have HLL := Lib.hid o3.1
          have HE := Lib.hid (show ∀ T', T ≤ T' → (out ++ rgot T R1) ++ rgot T' (rrest T R1) = rgot T' R ∧ rrest T' (rrest T R1) = rrest T' R from fun T' h => by
            obtain ⟨a1, a2⟩ := HM.out.eq T' (Nat.le_trans htT h)
            obtain ⟨b1, b2⟩ := rgot_step h R1
            rw [List.append_assoc, b1, a1, b2, a2]
            exact ⟨rfl, rfl⟩)
          have HOFF := Lib.hid (rgot_rest T R1)
          rcases o3.2 with ⟨rfl, hl0⟩ | ⟨gb, cp, cur, rfl, _, hgb, r1, r2, r3, r4⟩
          · have hl' : rgot T R1 = [] := List.eq_nil_of_length_eq_zero hl0
            have POST := Lib.hid (show SM w w3 s1 B0 g g2 now T (i + 1) B0 R (rrest T R1) u11 out from ⟨X3.out, C3.out, O3.out, HM.out.nn, fun T' h => by have := HE.out T' h; rw [hl', List.append_nil] at this; exact this, fun _ => HOFF.out⟩)
            clear HGO x3 k3 o3 hrg hl0 hl'
            go_wp2_with
              (at_builtin
               go_must (refine wpList_append_nil rfl (.tmp 99) (.tmp 100) _ rfl B0 3 i3 1 Tryd.underlying47 hi3 u11 out.length (out.map encZ) rfl O3.out rfl ?_))
            go_roundw
            case rel => exact ⟨i + 1, T, _, out, rfl, by go_num, hlt, ht2, by omega, POST.out⟩
            case measure => simp [intOf]; omega
          · have HCL := Lib.hid (fun j u (h : ((rgot T R1).map encZ)[j]? = some u) => o3.cells (g := gb) rfl j u h)
            have hll := HL.out
            rw [List.length_append] at hll
            have hb3 : B0 ≤ w3.heap.size := X3.out.sz
            clear HGO x3 k3 o3 hrg hgb r1 r2 r3 r4
            generalize rgot T R1 = l at *
            generalize rrest T R1 = R2 at *
            go_wp2_with
              (at_builtin
               go_must (
                 refine wpList_append_own _ rfl (.tmp 99) (.tmp 100) _ rfl B0 3 i3 _ 1 8 Tryd.underlying47 hi3 hy0 hy1 hy2 rfl (by omega) u11 out.length (out.map encZ) rfl O3.out ⟨gb, 0, none⟩ l.length cp (l.map encZ) rfl HLL.out HCL.out (enc_one l) (by unfold maxLen; omega) (by omega) hb3 ?_
                 intro v4 w4 own4 hgrow4 hnil4
                 have k4 := (Kp.refl (fun b => u11.ownBlock = some b) w3).grown hgrow4 (fun i hi => .inl hi)
                 have X4 := Lib.hid (X3.out.by_row O3.out (by omega) k4)
                 have C4 := Lib.hid (C3.out.by_row O3.out k4)
                 have O4 := Lib.hid own4
                 have NN4 := Lib.hid (fun e => HM.out.nn (hnil4.1 e).1)
                 clear k4 own4 hgrow4 hnil4))
            go_roundw
            case rel => exact ⟨i + 1, T, R2, out ++ l, rfl, by go_num, hlt, ht2, by omega, ⟨X4.out, C4.out, by rw [List.length_append, List.map_append]; exact O4.out, NN4.out, HE.out, fun _ => HOFF.out⟩⟩
            case measure => simp [intOf]; omega
        · obtain rfl : i = S.length := by omega
          have hts : t ≤ TOP := by unfold TOP; have : S.length * 65535 ≤ 60 * 65535 := Nat.mul_le_mul_right _ (by omega); omega
          have hs0 : w.heap.size ≤ s1 := hw1
          have HGO := wgo _ g2 now t R wr HM.out.c HM.out.x.tab (fun hh => by have := HM.out.x.pos; have := hh.1; omega) hts hnt hRl
          have hR1 : R1.length = (rrest t R).length ∧ out = rgot t R := by
            have h1 := HM.out.off hsl
            obtain ⟨a1, a2⟩ := HM.out.eq t (Nat.le_refl _)
            have h2 := rgot_len t R1
            rw [h1] at a1 h2
            rw [List.append_nil] at a1
            refine ⟨?_, a1⟩
            rw [← a2]
            simp at h2
            exact h2.symm
          obtain ⟨hR1l, hout⟩ := hR1
          go_wp2_with fail
          refine HGO.mono ?_
          rintro ev w8 ⟨v8, rfl, o8, x8, k8⟩
          have X8 := Lib.hid (HM.out.x.by_clone hs0 k8)
          have C8 := Lib.hid x8
          obtain ⟨A1, c1, hv1, _, hr1, _⟩ := RdI.of_own (k := .i64) (xs := rgot t R) o8
          obtain ⟨A2, c2, hv2, _, hr2, _⟩ := RdI.of_own (k := .i64) (xs := out) (own_by_whl HM.out.own k8)
          subst hv1 hv2
          have HR1 := Lib.hid hr1
          have HR2 := Lib.hid hr2
          have HL1 := Lib.hid (fun W (h : Wx w s1 B0 W g t R1) => xlen g t R1 W h)
          have HL2 := Lib.hid (fun F W (h : Whl F W g2 t (rrest t R)) => wlen F g2 t (rrest t R) W h)
          rw [hR1l] at HL1
          have C8 := Lib.hid C8.out
          clear HGO o8 x8 k8 hr1 hr2 HM hR1l hol hrl1 hnt ht
          generalize rrest t R = R2 at *
          generalize rgot t R = l at *
          subst hout
          generalize R2.length = n2 at *
          go_wp2_with fail
          refine (sameInts_selfI A1 A2 c1 c2 out _ HR1.out HR2.out).mono ?_
          rintro ev w9 ⟨rfl, n9, hn9⟩
          have X9 := Lib.hid (show Wx w s1 B0 w9 g t R1 from hn9 ▸ X8.out.drewN n9)
          have C9 := Lib.hid (show Whl _ w9 g2 t R2 from hn9 ▸ C8.out.drewN n9)
          clear hn9
          go_wp2_with fail
          refine (HL1.out _ X9.out).mono ?_
          rintro ev w10 ⟨rfl, rfl⟩
          go_wp2_with fail
          refine (HL2.out _ _ C9.out).mono ?_
          rintro ev w10 ⟨rfl, rfl⟩
          go_wp2_with fail
          exact bodyPost_ret (results_tmp rfl _ _ _) rfl ⟨rfl, X9.out.kp⟩
end Go.Proofs.YtdakkmaahgcjfaaDoor
