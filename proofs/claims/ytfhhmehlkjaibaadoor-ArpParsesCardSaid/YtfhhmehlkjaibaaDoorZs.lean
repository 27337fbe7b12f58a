/- Arp: the walk of ArpParses. -/
import Derived.Test.YtfhhmehlkjaibaaDoorZr
set_option linter.unusedVariables false
set_option linter.unusedSimpArgs false
namespace Go.Proofs.YtfhhmehlkjaibaaDoor
open Go.RowKit

theorem pbad (b c n : Nat) (xs : List Int) (w : World) (hx : RdI w .u8 (some ⟨b, 0, none⟩) xs) (hb : Byt xs) (hn : xs.length = n) (h1 : 28 ≤ n) (h2 : n ≤ 100000) (hc : n ≤ c) (he : badOf xs = true) :
    Calls Tryd.prog 18 #[.slice (some ⟨b, 0, none⟩) n c] w fun ev w' => ∃ v, ev = .returned (.tuple #[.agg #[.int .i64 0, .int .u8 0, .int .u8 0, .int .u8 0, .int .u8 0, .int .u8 0, .int .u8 0, .int .u32 0, .int .u8 0, .int .u8 0, .int .u8 0, .int .u8 0, .int .u8 0, .int .u8 0, .int .u32 0], v]) ∧ Chain w' 14 [16] v ∧ Kp (fun _ => False) w w' := by
  refine (parse_any b 0 c n xs w hx hb hn h1 h2 hc).mono ?_
  rintro ev w' (⟨_, ⟨v, rfl, c1⟩, k⟩ | ⟨g1, _⟩ | ⟨g1, _⟩)
  · exact ⟨v, rfl, c1, k⟩
  · rw [he] at g1; cases g1
  · rw [he] at g1; cases g1
/-- What both answer where it is none. -/
def NoneP (w : World) (A A2 : Option Addr) (c c2 n : Nat) (e r : Int) : Prop :=
  (∀ w', Kp (fun _ => False) w w' → Calls Tryd.prog 18 #[.slice A2 n c2] w' fun ev w'' => ∃ v, ev = .returned (.tuple #[.agg #[.int .i64 0, .int .u8 0, .int .u8 0, .int .u8 0, .int .u8 0, .int .u8 0, .int .u8 0, .int .u32 0, .int .u8 0, .int .u8 0, .int .u8 0, .int .u8 0, .int .u8 0, .int .u8 0, .int .u32 0], v]) ∧ Chain w'' e [r] v ∧ Kp (fun _ => False) w' w'') ∧
  (∀ w', Kp (fun _ => False) w w' → Calls Tryd.prog 19 #[.slice A n c] w' fun ev w'' => ∃ A3 c3, ev = .returned (.tuple #[.agg #[.int .i64 0, .int .u8 0, .int .u8 0, .int .u8 0, .int .u8 0, .int .u8 0, .int .u8 0, .int .u32 0, .int .u8 0, .int .u8 0, .int .u8 0, .int .u8 0, .int .u8 0, .int .u8 0, .int .u32 0], .agg #[.slice A3 1 c3, .int .i64 e]]) ∧ RdI w'' .i64 A3 [r] ∧ 1 ≤ c3 ∧ Kp (fun _ => False) w' w'') ∧ e ≠ 0
set_option maxRecDepth 1000000 in
set_option maxHeartbeats 40000000 in
theorem parses_none (A : Option Addr) (c n : Nat) (x : List Int) (e r : Int) (w : World) (hE : Et w) (hx : RdI w .u8 A x) (h0 : A = none → c = 0) (hn : x.length = n) (hbig : n ≤ 3000)
    (hN : ∀ w2 A2 c2, RdI w2 .u8 A x → w2.ownsRow 0 5 1 (.slice A2 n c2) n (intsK .u8 x) → NoneP w2 A A2 c c2 n e r) :
    Calls Tryd.prog 4 #[.slice A n c] w fun ev w' => ev = .returned (.bool true) ∧ Kp (fun _ => False) w w' := by
  have K := Lib.hid (Kp.refl (fun _ => False) w)
  have E := Lib.hid hE
  have RX := Lib.hid hx
  have HN := Lib.hid hn
  have H0 := Lib.hid h0
  have HNP := Lib.hid hN
  have hbi : ¬ ((3000 : Int) < (n : Int)) := by omega
  clear hE hx hn h0 hN
  go_enter Tryd.func4, Tryd.ntmps4
  go_wp2_with fail
  refine (alive06 _ E.out).mono ?_
  rintro ev w1 ⟨rfl, k1⟩
  have K := Lib.hid (K.out.trans' k1)
  have E := Lib.hid (E.out.kept k1 (fun f => f))
  have RX := Lib.hid (RX.out.kp k1 (fun _ _ _ f => f))
  clear k1
  go_wp2_with fail
  refine (ownB_any A n c x _ RX.out HN.out.symm (by omega) H0.out).mono ?_
  rintro ev w2 ⟨s2, rfl, own2, k2⟩
  have K := Lib.hid (K.out.trans' k2)
  have E := Lib.hid (E.out.kept k2 (fun f => f))
  have RX := Lib.hid (RX.out.kp k2 (fun _ _ _ f => f))
  obtain ⟨A2, c2, rfl, hnl, ro, hbb⟩ := RdI.of_own (k := .u8) (xs := x) own2
  have RO := Lib.hid ro
  obtain ⟨hp, hq, he0⟩ := HNP.out w2 A2 c2 RX.out (own_low own2 (Nat.zero_le _))
  have HP := Lib.hid hp
  have HQ := Lib.hid hq
  have HE0 := Lib.hid he0
  have KK := Lib.hid (Kp.refl (fun _ => False) w2)
  have K2 := K
  clear K own2 ro hp hq he0 k2 HNP hnl hbb
  go_wp2_with fail
  refine (HP.out _ (by exact KK.out)).mono ?_
  rintro ev w3 ⟨v3, rfl, c3', k3⟩
  obtain ⟨x3, rfl⟩ := chain_if c3'
  have kA := k3.alloc (.cells #[.int .i64 0, .int .u8 0, .int .u8 0, .int .u8 0, .int .u8 0, .int .u8 0, .int .u8 0, .int .u32 0, .int .u8 0, .int .u8 0, .int .u8 0, .int .u8 0, .int .u8 0, .int .u8 0, .int .u32 0] 44)
  have KK := Lib.hid (KK.out.trans' kA)
  have E := Lib.hid (E.out.kept kA (fun f => f))
  have RX := Lib.hid (RX.out.kp kA (fun _ _ _ f => f))
  have RO := Lib.hid (RO.out.kp kA (fun _ _ _ f => f))
  have B4 := Lib.hid (Bk.new w3 44 #[.int .i64 0, .int .u8 0, .int .u8 0, .int .u8 0, .int .u8 0, .int .u8 0, .int .u8 0, .int .u32 0, .int .u8 0, .int .u8 0, .int .u8 0, .int .u8 0, .int .u8 0, .int .u8 0, .int .u32 0])
  have CH := Lib.hid (c3'.none_kept ((Kp.refl (fun _ => False) w3).alloc (.cells #[.int .i64 0, .int .u8 0, .int .u8 0, .int .u8 0, .int .u8 0, .int .u8 0, .int .u8 0, .int .u32 0, .int .u8 0, .int .u8 0, .int .u8 0, .int .u8 0, .int .u8 0, .int .u8 0, .int .u32 0] 44)))
  clear c3'
  clear kA k3
  go_wp2_with fail
  refine (HQ.out _ (by exact KK.out)).mono ?_
  rintro ev w4 ⟨A3, c3, rfl, rf4, hc3, k4⟩
  have kA := (k4.alloc (.cells #[.int .i64 0, .int .u8 0, .int .u8 0, .int .u8 0, .int .u8 0, .int .u8 0, .int .u8 0, .int .u32 0, .int .u8 0, .int .u8 0, .int .u8 0, .int .u8 0, .int .u8 0, .int .u8 0, .int .u32 0] 48)).alloc (.cells #[.slice A3 1 c3, .int .i64 e] 28)
  have KK := Lib.hid (KK.out.trans' kA)
  have E := Lib.hid (E.out.kept kA (fun f => f))
  have RX := Lib.hid (RX.out.kp kA (fun _ _ _ f => f))
  have RO := Lib.hid (RO.out.kp kA (fun _ _ _ f => f))
  have B4 := Lib.hid (B4.out.kept kA (fun f => f))
  have CH := Lib.hid (CH.out.none_kept kA)
  have B6 := Lib.hid ((Bk.new w4 48 #[.int .i64 0, .int .u8 0, .int .u8 0, .int .u8 0, .int .u8 0, .int .u8 0, .int .u8 0, .int .u32 0, .int .u8 0, .int .u8 0, .int .u8 0, .int .u8 0, .int .u8 0, .int .u8 0, .int .u32 0]).alloc (.cells #[.slice A3 1 c3, .int .i64 e] 28))
  have b7 := Bk.new (w4.alloc (.cells #[.int .i64 0, .int .u8 0, .int .u8 0, .int .u8 0, .int .u8 0, .int .u8 0, .int .u8 0, .int .u32 0, .int .u8 0, .int .u8 0, .int .u8 0, .int .u8 0, .int .u8 0, .int .u8 0, .int .u32 0] 48)) 28 #[.slice A3 1 c3, .int .i64 e]
  rw [show (w4.alloc (.cells #[.int .i64 0, .int .u8 0, .int .u8 0, .int .u8 0, .int .u8 0, .int .u8 0, .int .u8 0, .int .u32 0, .int .u8 0, .int .u8 0, .int .u8 0, .int .u8 0, .int .u8 0, .int .u8 0, .int .u32 0] 48)).heap.size = w4.heap.size + 1 by simp] at b7
  have B7 := Lib.hid b7
  have RF := Lib.hid (rf4.kp (((Kp.refl (fun _ => False) w4).alloc (.cells #[.int .i64 0, .int .u8 0, .int .u8 0, .int .u8 0, .int .u8 0, .int .u8 0, .int .u8 0, .int .u32 0, .int .u8 0, .int .u8 0, .int .u8 0, .int .u8 0, .int .u8 0, .int .u8 0, .int .u32 0] 48)).alloc (.cells #[.slice A3 1 c3, .int .i64 e] 28)) (fun _ _ _ f => f))
  clear rf4
  clear kA k4 b7
  go_upto_region 8 with fail
  generalize (w4.alloc (.cells #[.int .i64 0, .int .u8 0, .int .u8 0, .int .u8 0, .int .u8 0, .int .u8 0, .int .u8 0, .int .u32 0, .int .u8 0, .int .u8 0, .int .u8 0, .int .u8 0, .int .u8 0, .int .u8 0, .int .u32 0] 48)).alloc (.cells #[.slice A3 1 c3, .int .i64 e] 28) = w5 at *
  have hIS : ∀ w', Kp (fun _ => False) w5 w' → Calls Tryd.prog 20 #[(.iface 73 x3), .agg #[.slice A3 1 c3, .int .i64 e]] w' fun ev w'' => ev = .returned (.bool true) ∧ Kp (fun _ => False) w' w'' := fun w' hk => is_chain r e _ A3 c3 w' (E.out.kept hk (fun f => f)) (CH.out.none_kept hk) HE0.out (RF.out.kp hk (fun _ _ _ f => f)) hc3
  have hOF : ∀ w', Calls Tryd.prog 21 #[.agg #[.int .i64 0, .int .u8 0, .int .u8 0, .int .u8 0, .int .u8 0, .int .u8 0, .int .u8 0, .int .u32 0, .int .u8 0, .int .u8 0, .int .u8 0, .int .u8 0, .int .u8 0, .int .u8 0, .int .u32 0]] w' fun ev w'' => ev = .returned (.agg #[.int .i64 0, .int .u8 0, .int .u8 0, .int .u8 0, .int .u8 0, .int .u8 0, .int .u8 0, .int .u32 0, .int .u8 0, .int .u8 0, .int .u8 0, .int .u8 0, .int .u8 0, .int .u8 0, .int .u32 0]) ∧ Kp (fun _ => False) w' w'' := fun w' => of_pkt 0 (fun _ => 0) (fun _ => 0) 0 0 w'
  have hSB : ∀ w', Kp (fun _ => False) w5 w' → Calls Tryd.prog 22 #[.slice A2 n c2, .slice A n c] w' fun ev w'' => ev = .returned (.bool (x == x)) ∧ ∃ m, w'' = w'.drewN m := fun w' hk => by
    have h := sameBytes_any A2 A c2 c x x w' (RO.out.kp hk (fun _ _ _ f => f)) (RX.out.kp hk (fun _ _ _ f => f))
    rw [HN.out] at h
    exact h
  have HIS := Lib.hid hIS
  have HOF := Lib.hid hOF
  have HSB := Lib.hid hSB
  have EQA := Lib.hid (fun w => run_equalIn_mac40_refl w (fun _ => 0))
  have EQM := Lib.hid (fun w => run_equalIn_mac40_refl w (fun _ => 0))
  clear hIS hOF hSB
  go_cut [40] (fun s40 wx => s40 = .bool false ∧ Kp (fun _ => False) w5 wx)
  case first =>
    as_aux_lemma =>
      have KC := Lib.hid ((Kp.refl (fun _ => False) w5).drew)
      refine wp_region_held_drew (S := (fun w' => Kp (fun _ => False) w5 w')) (by kernel_rfl) (KC.out) (fun hHeld => ?_)
      refine wpAnyH_take (i := 0) (v := ?v0_0) rfl (by kernel_rfl) (by kernel_rfl) (by kernel_rfl) (fun _ _ _ h => h) (Or.inl ⟨by rfl, ?y0_0⟩) (by assumption) ?r0_0
      case y0_0 => (intro w' hSw; (try dsimp only at hSw); go_simp; first | done | with_reducible rfl)
      try simp only [Act.put, List.getElem_toArray, List.getElem_cons_succ, List.getElem_cons_zero, List.setIfInBounds_toArray, List.set_cons_zero, List.set_cons_succ]
      refine wpAnyH_take (i := 1) (v := ?v1_1) rfl (by kernel_rfl) (by kernel_rfl) (by kernel_rfl) (fun _ _ _ h => h) (Or.inl ⟨by rfl, ?y1_1⟩) (by assumption) ?r1_1
      case y1_1 => (intro w' hSw; (try dsimp only at hSw); have d0 := kp_kc (show w5.cell? ⟨w4.heap.size + 1, 0, none⟩ = some (Value.slice A3 1 c3) from B7.out.cell 0) hSw; have d1 := kp_kc (show w5.cell? ⟨w4.heap.size + 1, 1, none⟩ = some (Value.int .i64 e) from B7.out.cell 1) hSw; go_simp; first | done | with_reducible rfl)
      try simp only [Act.put, List.getElem_toArray, List.getElem_cons_succ, List.getElem_cons_zero, List.setIfInBounds_toArray, List.set_cons_zero, List.set_cons_succ]
      refine wpAnyH_ready (rs := [2]) (by kernel_rfl) (by simp) ?_
      refine AllReadyH.cons rfl (fun K hK => ?_) AllReadyH.nil
      go_simp
      with_reducible refine (HIS.out _ (by exact KC.out)).mono ?_
      rintro ev x2 ⟨rfl, k9⟩
      have KC := Lib.hid (KC.out.trans' k9)
      clear k9
      try dsimp only
      refine hK.out _ _ (KC.out) (fun hHeld => ?_)
      clear hK K
      try simp only [Act.put, List.getElem_toArray, List.getElem_cons_succ, List.getElem_cons_zero, List.setIfInBounds_toArray, List.set_cons_zero, List.set_cons_succ]
      refine wpAnyH_take (i := 3) (v := ?v3_2) rfl (by kernel_rfl) (by kernel_rfl) (by kernel_rfl) (fun _ _ _ h => h) (Or.inl ⟨by rfl, ?y3_2⟩) (by assumption) ?r3_2
      case y3_2 => (intro w' hSw; (try dsimp only at hSw); go_simp; first | done | with_reducible rfl)
      try simp only [Act.put, List.getElem_toArray, List.getElem_cons_succ, List.getElem_cons_zero, List.setIfInBounds_toArray, List.set_cons_zero, List.set_cons_succ]
      refine wpAnyH_take (i := 4) (v := ?v4_3) rfl (by kernel_rfl) (by kernel_rfl) (by kernel_rfl) (fun _ _ _ h => h) (Or.inl ⟨by rfl, ?y4_3⟩) (by assumption) ?r4_3
      case y4_3 => (intro w' hSw; (try dsimp only at hSw); go_simp; first | done | with_reducible rfl)
      try simp only [Act.put, List.getElem_toArray, List.getElem_cons_succ, List.getElem_cons_zero, List.setIfInBounds_toArray, List.set_cons_zero, List.set_cons_succ]
      refine wpAnyH_take (i := 5) (v := ?v5_4) rfl (by kernel_rfl) (by kernel_rfl) (by kernel_rfl) (fun _ _ _ h => h) (Or.inl ⟨by rfl, ?y5_4⟩) (by assumption) ?r5_4
      case y5_4 => (intro w' hSw; (try dsimp only at hSw); have d0 := kp_kc (show w5.cell? ⟨w3.heap.size, 0, none⟩ = some (Value.int .i64 0) from B4.out.cell 0) hSw; have d1 := kp_kc (show w5.cell? ⟨w3.heap.size, 1, none⟩ = some (Value.int .u8 0) from B4.out.cell 1) hSw; have d2 := kp_kc (show w5.cell? ⟨w3.heap.size, 2, none⟩ = some (Value.int .u8 0) from B4.out.cell 2) hSw; have d3 := kp_kc (show w5.cell? ⟨w3.heap.size, 3, none⟩ = some (Value.int .u8 0) from B4.out.cell 3) hSw; have d4 := kp_kc (show w5.cell? ⟨w3.heap.size, 4, none⟩ = some (Value.int .u8 0) from B4.out.cell 4) hSw; have d5 := kp_kc (show w5.cell? ⟨w3.heap.size, 5, none⟩ = some (Value.int .u8 0) from B4.out.cell 5) hSw; have d6 := kp_kc (show w5.cell? ⟨w3.heap.size, 6, none⟩ = some (Value.int .u8 0) from B4.out.cell 6) hSw; have d7 := kp_kc (show w5.cell? ⟨w3.heap.size, 7, none⟩ = some (Value.int .u32 0) from B4.out.cell 7) hSw; have d8 := kp_kc (show w5.cell? ⟨w3.heap.size, 8, none⟩ = some (Value.int .u8 0) from B4.out.cell 8) hSw; have d9 := kp_kc (show w5.cell? ⟨w3.heap.size, 9, none⟩ = some (Value.int .u8 0) from B4.out.cell 9) hSw; have d10 := kp_kc (show w5.cell? ⟨w3.heap.size, 10, none⟩ = some (Value.int .u8 0) from B4.out.cell 10) hSw; have d11 := kp_kc (show w5.cell? ⟨w3.heap.size, 11, none⟩ = some (Value.int .u8 0) from B4.out.cell 11) hSw; have d12 := kp_kc (show w5.cell? ⟨w3.heap.size, 12, none⟩ = some (Value.int .u8 0) from B4.out.cell 12) hSw; have d13 := kp_kc (show w5.cell? ⟨w3.heap.size, 13, none⟩ = some (Value.int .u8 0) from B4.out.cell 13) hSw; have d14 := kp_kc (show w5.cell? ⟨w3.heap.size, 14, none⟩ = some (Value.int .u32 0) from B4.out.cell 14) hSw; go_simp; first | done | with_reducible rfl)
      try simp only [Act.put, List.getElem_toArray, List.getElem_cons_succ, List.getElem_cons_zero, List.setIfInBounds_toArray, List.set_cons_zero, List.set_cons_succ]
      refine wpAnyH_take (i := 7) (v := ?v7_5) rfl (by kernel_rfl) (by kernel_rfl) (by kernel_rfl) (fun _ _ _ h => h) (Or.inl ⟨by rfl, ?y7_5⟩) (by assumption) ?r7_5
      case y7_5 => (intro w' hSw; (try dsimp only at hSw); have d0 := kp_kc (show w5.cell? ⟨w4.heap.size, 0, none⟩ = some (Value.int .i64 0) from B6.out.cell 0) hSw; have d1 := kp_kc (show w5.cell? ⟨w4.heap.size, 1, none⟩ = some (Value.int .u8 0) from B6.out.cell 1) hSw; have d2 := kp_kc (show w5.cell? ⟨w4.heap.size, 2, none⟩ = some (Value.int .u8 0) from B6.out.cell 2) hSw; have d3 := kp_kc (show w5.cell? ⟨w4.heap.size, 3, none⟩ = some (Value.int .u8 0) from B6.out.cell 3) hSw; have d4 := kp_kc (show w5.cell? ⟨w4.heap.size, 4, none⟩ = some (Value.int .u8 0) from B6.out.cell 4) hSw; have d5 := kp_kc (show w5.cell? ⟨w4.heap.size, 5, none⟩ = some (Value.int .u8 0) from B6.out.cell 5) hSw; have d6 := kp_kc (show w5.cell? ⟨w4.heap.size, 6, none⟩ = some (Value.int .u8 0) from B6.out.cell 6) hSw; have d7 := kp_kc (show w5.cell? ⟨w4.heap.size, 7, none⟩ = some (Value.int .u32 0) from B6.out.cell 7) hSw; have d8 := kp_kc (show w5.cell? ⟨w4.heap.size, 8, none⟩ = some (Value.int .u8 0) from B6.out.cell 8) hSw; have d9 := kp_kc (show w5.cell? ⟨w4.heap.size, 9, none⟩ = some (Value.int .u8 0) from B6.out.cell 9) hSw; have d10 := kp_kc (show w5.cell? ⟨w4.heap.size, 10, none⟩ = some (Value.int .u8 0) from B6.out.cell 10) hSw; have d11 := kp_kc (show w5.cell? ⟨w4.heap.size, 11, none⟩ = some (Value.int .u8 0) from B6.out.cell 11) hSw; have d12 := kp_kc (show w5.cell? ⟨w4.heap.size, 12, none⟩ = some (Value.int .u8 0) from B6.out.cell 12) hSw; have d13 := kp_kc (show w5.cell? ⟨w4.heap.size, 13, none⟩ = some (Value.int .u8 0) from B6.out.cell 13) hSw; have d14 := kp_kc (show w5.cell? ⟨w4.heap.size, 14, none⟩ = some (Value.int .u32 0) from B6.out.cell 14) hSw; go_simp; first | done | with_reducible rfl)
      try simp only [Act.put, List.getElem_toArray, List.getElem_cons_succ, List.getElem_cons_zero, List.setIfInBounds_toArray, List.set_cons_zero, List.set_cons_succ]
      refine wpAnyH_ready (rs := [6]) (by kernel_rfl) (by simp) ?_
      refine AllReadyH.cons rfl (fun K hK => ?_) AllReadyH.nil
      go_simp
      with_reducible refine (HOF.out _).mono ?_
      rintro ev x6 ⟨rfl, k9⟩
      have KC := Lib.hid (KC.out.trans' k9)
      clear k9
      try dsimp only
      refine hK.out _ _ (KC.out) (fun hHeld => ?_)
      clear hK K
      try simp only [Act.put, List.getElem_toArray, List.getElem_cons_succ, List.getElem_cons_zero, List.setIfInBounds_toArray, List.set_cons_zero, List.set_cons_succ]
      refine wpAnyH_take (i := 8) (v := ?v8_6) rfl (by kernel_rfl) (by kernel_rfl) (by kernel_rfl) (fun _ _ _ h => h) (Or.inl ⟨by rfl, ?y8_6⟩) (by assumption) ?r8_6
      case y8_6 => (intro w' hSw; (try dsimp only at hSw); have hq1 := EQA.out w'; have hq2 := EQM.out w'; go_simp; first | done | with_reducible rfl)
      try simp only [Act.put, List.getElem_toArray, List.getElem_cons_succ, List.getElem_cons_zero, List.setIfInBounds_toArray, List.set_cons_zero, List.set_cons_succ]
      refine wpAnyH_take (i := 9) (v := ?v9_7) rfl (by kernel_rfl) (by kernel_rfl) (by kernel_rfl) (fun _ _ _ h => h) (Or.inl ⟨by rfl, ?y9_7⟩) (by assumption) ?r9_7
      case y9_7 => (intro w' hSw; (try dsimp only at hSw); go_simp; first | done | with_reducible rfl)
      try simp only [Act.put, List.getElem_toArray, List.getElem_cons_succ, List.getElem_cons_zero, List.setIfInBounds_toArray, List.set_cons_zero, List.set_cons_succ]
      refine wpAnyH_take (i := 10) (v := ?v10_8) rfl (by kernel_rfl) (by kernel_rfl) (by kernel_rfl) (fun _ _ _ h => h) (Or.inl ⟨by rfl, ?y10_8⟩) (by assumption) ?r10_8
      case y10_8 => (intro w' hSw; (try dsimp only at hSw); go_simp; first | done | with_reducible rfl)
      try simp only [Act.put, List.getElem_toArray, List.getElem_cons_succ, List.getElem_cons_zero, List.setIfInBounds_toArray, List.set_cons_zero, List.set_cons_succ]
      refine wpAnyH_take (i := 11) (v := ?v11_9) rfl (by kernel_rfl) (by kernel_rfl) (by kernel_rfl) (fun _ _ _ h => h) (Or.inl ⟨by rfl, ?y11_9⟩) (by assumption) ?r11_9
      case y11_9 => (intro w' hSw; (try dsimp only at hSw); go_simp; first | done | with_reducible rfl)
      try simp only [Act.put, List.getElem_toArray, List.getElem_cons_succ, List.getElem_cons_zero, List.setIfInBounds_toArray, List.set_cons_zero, List.set_cons_succ]
      refine wpAnyH_take (i := 12) (v := ?v12_10) rfl (by kernel_rfl) (by kernel_rfl) (by kernel_rfl) (fun _ _ _ h => h) (Or.inl ⟨by rfl, ?y12_10⟩) (by assumption) ?r12_10
      case y12_10 => (intro w' hSw; (try dsimp only at hSw); go_simp; first | done | with_reducible rfl)
      try simp only [Act.put, List.getElem_toArray, List.getElem_cons_succ, List.getElem_cons_zero, List.setIfInBounds_toArray, List.set_cons_zero, List.set_cons_succ]
      refine wpAnyH_ready (rs := [13]) (by kernel_rfl) (by simp) ?_
      refine AllReadyH.cons rfl (fun K hK => ?_) AllReadyH.nil
      go_simp
      with_reducible refine (HSB.out _ (by exact KC.out)).mono ?_
      rintro ev x13 ⟨rfl, n4', rfl⟩
      rw [beq_self_eq_true]
      have KC := Lib.hid (KC.out.drewN n4')
      try dsimp only
      refine hK.out _ _ (KC.out) (fun hHeld => ?_)
      clear hK K
      try simp only [Act.put, List.getElem_toArray, List.getElem_cons_succ, List.getElem_cons_zero, List.setIfInBounds_toArray, List.set_cons_zero, List.set_cons_succ]
      refine wpAnyH_take (i := 14) (v := ?v14_11) rfl (by kernel_rfl) (by kernel_rfl) (by kernel_rfl) (fun _ _ _ h => h) (Or.inl ⟨by rfl, ?y14_11⟩) (by assumption) ?r14_11
      case y14_11 => (intro w' hSw; (try dsimp only at hSw); go_simp; first | done | with_reducible rfl)
      try simp only [Act.put, List.getElem_toArray, List.getElem_cons_succ, List.getElem_cons_zero, List.setIfInBounds_toArray, List.set_cons_zero, List.set_cons_succ]
      refine wpAnyH_take (i := 15) (v := ?v15_12) rfl (by kernel_rfl) (by kernel_rfl) (by kernel_rfl) (fun _ _ _ h => h) (Or.inl ⟨by rfl, ?y15_12⟩) (by assumption) ?r15_12
      case y15_12 => (intro w' hSw; (try dsimp only at hSw); go_simp; first | done | with_reducible rfl)
      try simp only [Act.put, List.getElem_toArray, List.getElem_cons_succ, List.getElem_cons_zero, List.setIfInBounds_toArray, List.set_cons_zero, List.set_cons_succ]
      refine wpAnyH_done (by kernel_rfl) ?_ _
      go_wp2_with fail
      go_meet
      exact ⟨rfl, KC.out⟩
  case rest =>
  as_aux_lemma =>
  obtain ⟨rfl, kc⟩ := hcut
  have KK := Lib.hid (KK.out.trans' kc)
  have E := Lib.hid (E.out.kept kc (fun f => f))
  have RX := Lib.hid (RX.out.kp kc (fun _ _ _ f => f))
  have RO := Lib.hid (RO.out.kp kc (fun _ _ _ f => f))
  have B4 := Lib.hid (B4.out.kept kc (fun f => f))
  have CH := Lib.hid (CH.out.none_kept kc)
  have B6 := Lib.hid (B6.out.kept kc (fun f => f))
  have B7 := Lib.hid (B7.out.kept kc (fun f => f))
  have RF := Lib.hid (RF.out.kp kc (fun _ _ _ f => f))
  clear kc HIS HOF HSB
  go_upto_region 10 with fail
  have KC := Lib.hid ((Kp.refl (fun _ => False) wc).drew)
  refine wp_region_held_drew (S := (fun w' => Kp (fun _ => False) wc w')) (by kernel_rfl) (KC.out) (fun hHeld => ?_)
  refine wpAnyH_take (i := 0) (v := ?v0_13) rfl (by kernel_rfl) (by kernel_rfl) (by kernel_rfl) (fun _ _ _ h => h) (Or.inl ⟨by rfl, ?y0_13⟩) (by assumption) ?r0_13
  case y0_13 => (intro w' hSw; (try dsimp only at hSw); go_simp; first | done | with_reducible rfl)
  try simp only [Act.put, List.getElem_toArray, List.getElem_cons_succ, List.getElem_cons_zero, List.setIfInBounds_toArray, List.set_cons_zero, List.set_cons_succ]
  refine wpAnyH_take (i := 1) (v := ?v1_14) rfl (by kernel_rfl) (by kernel_rfl) (by kernel_rfl) (fun _ _ _ h => h) (Or.inl ⟨by rfl, ?y1_14⟩) (by assumption) ?r1_14
  case y1_14 => (intro w' hSw; (try dsimp only at hSw); go_simp; first | done | with_reducible rfl)
  try simp only [Act.put, List.getElem_toArray, List.getElem_cons_succ, List.getElem_cons_zero, List.setIfInBounds_toArray, List.set_cons_zero, List.set_cons_succ]
  refine wpAnyH_take (i := 2) (v := ?v2_15) rfl (by kernel_rfl) (by kernel_rfl) (by kernel_rfl) (fun _ _ _ h => h) (Or.inl ⟨by rfl, ?y2_15⟩) (by assumption) ?r2_15
  case y2_15 => (intro w' hSw; (try dsimp only at hSw); go_simp; first | done | with_reducible rfl)
  try simp only [Act.put, List.getElem_toArray, List.getElem_cons_succ, List.getElem_cons_zero, List.setIfInBounds_toArray, List.set_cons_zero, List.set_cons_succ]
  refine wpAnyH_take (i := 3) (v := undef) rfl (by kernel_rfl) (by kernel_rfl) (by kernel_rfl) (fun _ _ _ h => h) (Or.inr ⟨by rfl, rfl⟩) (by assumption) ?_
  try simp only [Act.put, List.getElem_toArray, List.getElem_cons_succ, List.getElem_cons_zero, List.setIfInBounds_toArray, List.set_cons_zero, List.set_cons_succ]
  refine wpAnyH_take (i := 4) (v := undef) rfl (by kernel_rfl) (by kernel_rfl) (by kernel_rfl) (fun _ _ _ h => h) (Or.inr ⟨by rfl, rfl⟩) (by assumption) ?_
  try simp only [Act.put, List.getElem_toArray, List.getElem_cons_succ, List.getElem_cons_zero, List.setIfInBounds_toArray, List.set_cons_zero, List.set_cons_succ]
  refine wpAnyH_take (i := 5) (v := undef) rfl (by kernel_rfl) (by kernel_rfl) (by kernel_rfl) (fun _ _ _ h => h) (Or.inr ⟨by rfl, rfl⟩) (by assumption) ?_
  try simp only [Act.put, List.getElem_toArray, List.getElem_cons_succ, List.getElem_cons_zero, List.setIfInBounds_toArray, List.set_cons_zero, List.set_cons_succ]
  refine wpAnyH_take (i := 6) (v := undef) rfl (by kernel_rfl) (by kernel_rfl) (by kernel_rfl) (fun _ _ _ h => h) (Or.inr ⟨by rfl, rfl⟩) (by assumption) ?_
  try simp only [Act.put, List.getElem_toArray, List.getElem_cons_succ, List.getElem_cons_zero, List.setIfInBounds_toArray, List.set_cons_zero, List.set_cons_succ]
  refine wpAnyH_take (i := 7) (v := undef) rfl (by kernel_rfl) (by kernel_rfl) (by kernel_rfl) (fun _ _ _ h => h) (Or.inr ⟨by rfl, rfl⟩) (by assumption) ?_
  try simp only [Act.put, List.getElem_toArray, List.getElem_cons_succ, List.getElem_cons_zero, List.setIfInBounds_toArray, List.set_cons_zero, List.set_cons_succ]
  refine wpAnyH_take (i := 8) (v := ?v8_16) rfl (by kernel_rfl) (by kernel_rfl) (by kernel_rfl) (fun _ _ _ h => h) (Or.inl ⟨by rfl, ?y8_16⟩) (by assumption) ?r8_16
  case y8_16 => (intro w' hSw; (try dsimp only at hSw); go_simp; first | done | with_reducible rfl)
  try simp only [Act.put, List.getElem_toArray, List.getElem_cons_succ, List.getElem_cons_zero, List.setIfInBounds_toArray, List.set_cons_zero, List.set_cons_succ]
  refine wpAnyH_take (i := 9) (v := ?v9_17) rfl (by kernel_rfl) (by kernel_rfl) (by kernel_rfl) (fun _ _ _ h => h) (Or.inl ⟨by rfl, ?y9_17⟩) (by assumption) ?r9_17
  case y9_17 => (intro w' hSw; (try dsimp only at hSw); go_simp; first | done | with_reducible rfl)
  try simp only [Act.put, List.getElem_toArray, List.getElem_cons_succ, List.getElem_cons_zero, List.setIfInBounds_toArray, List.set_cons_zero, List.set_cons_succ]
  refine wpAnyH_done (by kernel_rfl) ?_ _
  go_wp2_with fail
  go_ret
  exact ⟨rfl, K2.out.trans' (KK.out.trans' KC.out)⟩
set_option maxRecDepth 1000000 in
set_option maxHeartbeats 40000000 in
theorem parses_some (b o c n : Nat) (x : List Int) (w : World) (hE : Et w) (hx : RdI w .u8 (some ⟨b, o, none⟩) x) (hxb : Byt x) (hn : x.length = n) (hbig : n ≤ 3000) (h28 : 28 ≤ n) (hc : n ≤ c) (hbad : badOf x = false) (ho : (x.getD 8 0 % 2 != 0) = false) :
    Calls Tryd.prog 4 #[.slice (some ⟨b, o, none⟩) n c] w fun ev w' => ev = .returned (.bool true) ∧ Kp (fun _ => False) w w' := by
  obtain ⟨y, hy⟩ : ∃ y, nat x = y := ⟨_, rfl⟩
  have hlt : ∀ j, y j < 256 := fun j => by rw [← hy]; exact nat_lt hxb j
  have hpb := pbytes_pktOf x hxb (by omega) hbad
  rw [hy] at hpb
  have hby : ∀ w', Calls Tryd.prog 23 #[.agg #[.int .i64 (n2 y 6), .int .u8 (y 8), .int .u8 (y 9), .int .u8 (y 10), .int .u8 (y 11), .int .u8 (y 12), .int .u8 (y 13), .int .u32 (n4 y 14), .int .u8 (y 18), .int .u8 (y 19), .int .u8 (y 20), .int .u8 (y 21), .int .u8 (y 22), .int .u8 (y 23), .int .u32 (n4 y 24)]] w' fun ev w'' => ∃ s, ev = .returned s ∧ w''.ownsRow w'.heap.size 5 1 s 28 (intsK .u8 (x.take 28)) ∧ Kp (fun _ => False) w' w'' := fun w' => by
    have h := pbytes_any (n2 y 6) (fun i => y (8 + i)) (fun i => y (18 + i)) (n4 y 14) (n4 y 24) w' (n4_lt hlt 14) (n4_lt hlt 24)
    rw [hpb] at h
    exact h
  have HBY := Lib.hid hby
  obtain ⟨A, hA⟩ : ∃ A, some (⟨b, o, none⟩ : Addr) = A := ⟨_, rfl⟩
  have K := Lib.hid (Kp.refl (fun _ => False) w)
  have E := Lib.hid hE
  have RX := Lib.hid hx
  have HN := Lib.hid hn
  have H0 := Lib.hid (show some (⟨b, o, none⟩ : Addr) = none → c = 0 from fun h => by cases h)
  have HXB := Lib.hid hxb
  have HBD := Lib.hid hbad
  have HOD := Lib.hid ho
  have HY := Lib.hid hy
  have hbi : ¬ ((3000 : Int) < (n : Int)) := by omega
  have z1 : (28 : Int) ≤ (c : Int) := by omega
  have z2 : 28 ≤ c := by omega
  have hs2 : ∀ w' a4 d4, RdI w' .u8 (some a4) (x.take 28) → RdI w' .u8 (some ⟨b, o, none⟩) (x.take 28) → Calls Tryd.prog 22 #[.slice (some a4) 28 d4, .slice (some ⟨b, o, none⟩) 28 c] w' fun ev w'' => ev = .returned (.bool (x.take 28 == x.take 28)) ∧ ∃ m, w'' = w'.drewN m := fun w' a4 d4 h1 h2 => by
    have h := sameBytes_any (some a4) (some ⟨b, o, none⟩) d4 c (x.take 28) (x.take 28) w' h1 h2
    rw [show (x.take 28).length = 28 by rw [List.length_take]; omega] at h
    exact h
  have HS2 := Lib.hid hs2
  clear hE hx hn hby hpb hxb hbad ho hy hlt hs2 hA
  go_enter Tryd.func4, Tryd.ntmps4
  go_wp2_with fail
  refine (alive06 _ E.out).mono ?_
  rintro ev w1 ⟨rfl, k1⟩
  have K := Lib.hid (K.out.trans' k1)
  have E := Lib.hid (E.out.kept k1 (fun f => f))
  have RX := Lib.hid (RX.out.kp k1 (fun _ _ _ f => f))
  clear k1
  go_wp2_with fail
  refine (ownB_any (some ⟨b, o, none⟩) n c x _ RX.out HN.out.symm (by omega) H0.out).mono ?_
  rintro ev w2 ⟨s2, rfl, own2, k2⟩
  have K := Lib.hid (K.out.trans' k2)
  have E := Lib.hid (E.out.kept k2 (fun f => f))
  have RX := Lib.hid (RX.out.kp k2 (fun _ _ _ f => f))
  obtain ⟨g, c2, rfl, hc2, _, _⟩ := own_form own2 (by omega)
  have RO := Lib.hid (own_rd own2)
  have HP : Hid (∀ w', Kp (fun _ => False) w2 w' → Calls Tryd.prog 18 #[.slice (some ⟨g, 0, none⟩) n c2] w' fun ev w'' => ev = .returned (.tuple #[.agg #[.int .i64 (n2 y 6), .int .u8 (y 8), .int .u8 (y 9), .int .u8 (y 10), .int .u8 (y 11), .int .u8 (y 12), .int .u8 (y 13), .int .u32 (n4 y 14), .int .u8 (y 18), .int .u8 (y 19), .int .u8 (y 20), .int .u8 (y 21), .int .u8 (y 22), .int .u8 (y 23), .int .u32 (n4 y 24)], .nilIface]) ∧ Kp (fun _ => False) w' w'') := Lib.hid (fun w' hk => pok g c2 n x (n2 y 6) (fun i => y (8 + i)) (fun i => y (18 + i)) (n4 y 14) (n4 y 24) w' (RO.out.kp hk (fun _ _ _ f => f)) HXB.out HN.out h28 (by omega) hc2 HBD.out HOD.out (by rw [HY.out]; rfl))
  have HQ : Hid (∀ w', Kp (fun _ => False) w2 w' → Calls Tryd.prog 19 #[.slice (some ⟨b, o, none⟩) n c] w' fun ev w'' => ev = .returned (.tuple #[.agg #[.int .i64 (n2 y 6), .int .u8 (y 8), .int .u8 (y 9), .int .u8 (y 10), .int .u8 (y 11), .int .u8 (y 12), .int .u8 (y 13), .int .u32 (n4 y 14), .int .u8 (y 18), .int .u8 (y 19), .int .u8 (y 20), .int .u8 (y 21), .int .u8 (y 22), .int .u8 (y 23), .int .u32 (n4 y 24)], .agg #[.slice none 0 0, .int .i64 0]]) ∧ Kp (fun _ => False) w' w'') := Lib.hid (fun w' hk => by
    have h := rparse_ok b o c n x w' (RX.out.kp hk (fun _ _ _ f => f)) HXB.out HN.out h28 (by omega) hc (good_of HBD.out).1 (good_of HBD.out).2.1 (good_of HBD.out).2.2 HOD.out
    rw [HY.out] at h
    exact h)
  have KK := Lib.hid (Kp.refl (fun _ => False) w2)
  have K2 := K
  clear K own2 k2 HXB HBD HOD
  go_wp2_with fail
  refine (HP.out _ (by exact KK.out)).mono ?_
  rintro ev w3 ⟨rfl, k3⟩
  have kA := k3.alloc (.cells #[.int .i64 (n2 y 6), .int .u8 (y 8), .int .u8 (y 9), .int .u8 (y 10), .int .u8 (y 11), .int .u8 (y 12), .int .u8 (y 13), .int .u32 (n4 y 14), .int .u8 (y 18), .int .u8 (y 19), .int .u8 (y 20), .int .u8 (y 21), .int .u8 (y 22), .int .u8 (y 23), .int .u32 (n4 y 24)] 44)
  have KK := Lib.hid (KK.out.trans' kA)
  have E := Lib.hid (E.out.kept kA (fun f => f))
  have RX := Lib.hid (RX.out.kp kA (fun _ _ _ f => f))
  have RO := Lib.hid (RO.out.kp kA (fun _ _ _ f => f))
  have B4 := Lib.hid (Bk.new w3 44 #[.int .i64 (n2 y 6), .int .u8 (y 8), .int .u8 (y 9), .int .u8 (y 10), .int .u8 (y 11), .int .u8 (y 12), .int .u8 (y 13), .int .u32 (n4 y 14), .int .u8 (y 18), .int .u8 (y 19), .int .u8 (y 20), .int .u8 (y 21), .int .u8 (y 22), .int .u8 (y 23), .int .u32 (n4 y 24)])
  clear kA k3
  go_wp2_with fail
  refine (HQ.out _ (by exact KK.out)).mono ?_
  rintro ev w4 ⟨rfl, k4⟩
  have kA := (k4.alloc (.cells #[.int .i64 (n2 y 6), .int .u8 (y 8), .int .u8 (y 9), .int .u8 (y 10), .int .u8 (y 11), .int .u8 (y 12), .int .u8 (y 13), .int .u32 (n4 y 14), .int .u8 (y 18), .int .u8 (y 19), .int .u8 (y 20), .int .u8 (y 21), .int .u8 (y 22), .int .u8 (y 23), .int .u32 (n4 y 24)] 48)).alloc (.cells #[.slice none 0 0, .int .i64 0] 28)
  have KK := Lib.hid (KK.out.trans' kA)
  have E := Lib.hid (E.out.kept kA (fun f => f))
  have RX := Lib.hid (RX.out.kp kA (fun _ _ _ f => f))
  have RO := Lib.hid (RO.out.kp kA (fun _ _ _ f => f))
  have B4 := Lib.hid (B4.out.kept kA (fun f => f))
  have B6 := Lib.hid ((Bk.new w4 48 #[.int .i64 (n2 y 6), .int .u8 (y 8), .int .u8 (y 9), .int .u8 (y 10), .int .u8 (y 11), .int .u8 (y 12), .int .u8 (y 13), .int .u32 (n4 y 14), .int .u8 (y 18), .int .u8 (y 19), .int .u8 (y 20), .int .u8 (y 21), .int .u8 (y 22), .int .u8 (y 23), .int .u32 (n4 y 24)]).alloc (.cells #[.slice none 0 0, .int .i64 0] 28))
  have b7 := Bk.new (w4.alloc (.cells #[.int .i64 (n2 y 6), .int .u8 (y 8), .int .u8 (y 9), .int .u8 (y 10), .int .u8 (y 11), .int .u8 (y 12), .int .u8 (y 13), .int .u32 (n4 y 14), .int .u8 (y 18), .int .u8 (y 19), .int .u8 (y 20), .int .u8 (y 21), .int .u8 (y 22), .int .u8 (y 23), .int .u32 (n4 y 24)] 48)) 28 #[.slice none 0 0, .int .i64 0]
  rw [show (w4.alloc (.cells #[.int .i64 (n2 y 6), .int .u8 (y 8), .int .u8 (y 9), .int .u8 (y 10), .int .u8 (y 11), .int .u8 (y 12), .int .u8 (y 13), .int .u32 (n4 y 14), .int .u8 (y 18), .int .u8 (y 19), .int .u8 (y 20), .int .u8 (y 21), .int .u8 (y 22), .int .u8 (y 23), .int .u32 (n4 y 24)] 48)).heap.size = w4.heap.size + 1 by simp] at b7
  have B7 := Lib.hid b7
  clear kA k4 b7
  go_upto_region 8 with fail
  generalize (w4.alloc (.cells #[.int .i64 (n2 y 6), .int .u8 (y 8), .int .u8 (y 9), .int .u8 (y 10), .int .u8 (y 11), .int .u8 (y 12), .int .u8 (y 13), .int .u32 (n4 y 14), .int .u8 (y 18), .int .u8 (y 19), .int .u8 (y 20), .int .u8 (y 21), .int .u8 (y 22), .int .u8 (y 23), .int .u32 (n4 y 24)] 48)).alloc (.cells #[.slice none 0 0, .int .i64 0] 28) = w5 at *
  have hIS : ∀ w', Kp (fun _ => False) w5 w' → Calls Tryd.prog 20 #[.nilIface, .agg #[.slice none 0 0, .int .i64 0]] w' fun ev w'' => ev = .returned (.bool true) ∧ Kp (fun _ => False) w' w'' := fun w' hk => is_nil (.slice none 0 0) w'
  have hOF : ∀ w', Calls Tryd.prog 21 #[.agg #[.int .i64 (n2 y 6), .int .u8 (y 8), .int .u8 (y 9), .int .u8 (y 10), .int .u8 (y 11), .int .u8 (y 12), .int .u8 (y 13), .int .u32 (n4 y 14), .int .u8 (y 18), .int .u8 (y 19), .int .u8 (y 20), .int .u8 (y 21), .int .u8 (y 22), .int .u8 (y 23), .int .u32 (n4 y 24)]] w' fun ev w'' => ev = .returned (.agg #[.int .i64 (n2 y 6), .int .u8 (y 8), .int .u8 (y 9), .int .u8 (y 10), .int .u8 (y 11), .int .u8 (y 12), .int .u8 (y 13), .int .u32 (n4 y 14), .int .u8 (y 18), .int .u8 (y 19), .int .u8 (y 20), .int .u8 (y 21), .int .u8 (y 22), .int .u8 (y 23), .int .u32 (n4 y 24)]) ∧ Kp (fun _ => False) w' w'' := fun w' => of_pkt (n2 y 6) (fun i => y (8 + i)) (fun i => y (18 + i)) (n4 y 14) (n4 y 24) w'
  have hSB : ∀ w', Kp (fun _ => False) w5 w' → Calls Tryd.prog 22 #[.slice (some ⟨g, 0, none⟩) n c2, .slice (some ⟨b, o, none⟩) n c] w' fun ev w'' => ev = .returned (.bool (x == x)) ∧ ∃ m, w'' = w'.drewN m := fun w' hk => by
    have h := sameBytes_any (some ⟨g, 0, none⟩) (some ⟨b, o, none⟩) c2 c x x w' (RO.out.kp hk (fun _ _ _ f => f)) (RX.out.kp hk (fun _ _ _ f => f))
    rw [HN.out] at h
    exact h
  have HIS := Lib.hid hIS
  have HOF := Lib.hid hOF
  have HSB := Lib.hid hSB
  have EQA := Lib.hid (fun w => run_equalIn_mac40_refl w (fun i => y (8 + i)))
  have EQM := Lib.hid (fun w => run_equalIn_mac40_refl w (fun i => y (18 + i)))
  clear hIS hOF hSB
  go_cut [40] (fun s40 wx => s40 = .bool false ∧ Kp (fun _ => False) w5 wx)
  case first =>
    as_aux_lemma =>
      have KC := Lib.hid ((Kp.refl (fun _ => False) w5).drew)
      refine wp_region_held_drew (S := (fun w' => Kp (fun _ => False) w5 w')) (by kernel_rfl) (KC.out) (fun hHeld => ?_)
      refine wpAnyH_take (i := 0) (v := ?v0_18) rfl (by kernel_rfl) (by kernel_rfl) (by kernel_rfl) (fun _ _ _ h => h) (Or.inl ⟨by rfl, ?y0_18⟩) (by assumption) ?r0_18
      case y0_18 => (intro w' hSw; (try dsimp only at hSw); go_simp; first | done | with_reducible rfl)
      try simp only [Act.put, List.getElem_toArray, List.getElem_cons_succ, List.getElem_cons_zero, List.setIfInBounds_toArray, List.set_cons_zero, List.set_cons_succ]
      refine wpAnyH_take (i := 1) (v := ?v1_19) rfl (by kernel_rfl) (by kernel_rfl) (by kernel_rfl) (fun _ _ _ h => h) (Or.inl ⟨by rfl, ?y1_19⟩) (by assumption) ?r1_19
      case y1_19 => (intro w' hSw; (try dsimp only at hSw); have d0 := kp_kc (show w5.cell? ⟨w4.heap.size + 1, 0, none⟩ = some (Value.slice none 0 0) from B7.out.cell 0) hSw; have d1 := kp_kc (show w5.cell? ⟨w4.heap.size + 1, 1, none⟩ = some (Value.int .i64 0) from B7.out.cell 1) hSw; go_simp; first | done | with_reducible rfl)
      try simp only [Act.put, List.getElem_toArray, List.getElem_cons_succ, List.getElem_cons_zero, List.setIfInBounds_toArray, List.set_cons_zero, List.set_cons_succ]
      refine wpAnyH_ready (rs := [2]) (by kernel_rfl) (by simp) ?_
      refine AllReadyH.cons rfl (fun K hK => ?_) AllReadyH.nil
      go_simp
      with_reducible refine (HIS.out _ (by exact KC.out)).mono ?_
      rintro ev x2 ⟨rfl, k9⟩
      have KC := Lib.hid (KC.out.trans' k9)
      clear k9
      try dsimp only
      refine hK.out _ _ (KC.out) (fun hHeld => ?_)
      clear hK K
      try simp only [Act.put, List.getElem_toArray, List.getElem_cons_succ, List.getElem_cons_zero, List.setIfInBounds_toArray, List.set_cons_zero, List.set_cons_succ]
      refine wpAnyH_take (i := 3) (v := ?v3_20) rfl (by kernel_rfl) (by kernel_rfl) (by kernel_rfl) (fun _ _ _ h => h) (Or.inl ⟨by rfl, ?y3_20⟩) (by assumption) ?r3_20
      case y3_20 => (intro w' hSw; (try dsimp only at hSw); go_simp; first | done | with_reducible rfl)
      try simp only [Act.put, List.getElem_toArray, List.getElem_cons_succ, List.getElem_cons_zero, List.setIfInBounds_toArray, List.set_cons_zero, List.set_cons_succ]
      refine wpAnyH_take (i := 4) (v := ?v4_21) rfl (by kernel_rfl) (by kernel_rfl) (by kernel_rfl) (fun _ _ _ h => h) (Or.inl ⟨by rfl, ?y4_21⟩) (by assumption) ?r4_21
      case y4_21 => (intro w' hSw; (try dsimp only at hSw); go_simp; first | done | with_reducible rfl)
      try simp only [Act.put, List.getElem_toArray, List.getElem_cons_succ, List.getElem_cons_zero, List.setIfInBounds_toArray, List.set_cons_zero, List.set_cons_succ]
      refine wpAnyH_take (i := 5) (v := ?v5_22) rfl (by kernel_rfl) (by kernel_rfl) (by kernel_rfl) (fun _ _ _ h => h) (Or.inl ⟨by rfl, ?y5_22⟩) (by assumption) ?r5_22
      case y5_22 => (intro w' hSw; (try dsimp only at hSw); have d0 := kp_kc (show w5.cell? ⟨w3.heap.size, 0, none⟩ = some (Value.int .i64 (n2 y 6)) from B4.out.cell 0) hSw; have d1 := kp_kc (show w5.cell? ⟨w3.heap.size, 1, none⟩ = some (Value.int .u8 (y 8)) from B4.out.cell 1) hSw; have d2 := kp_kc (show w5.cell? ⟨w3.heap.size, 2, none⟩ = some (Value.int .u8 (y 9)) from B4.out.cell 2) hSw; have d3 := kp_kc (show w5.cell? ⟨w3.heap.size, 3, none⟩ = some (Value.int .u8 (y 10)) from B4.out.cell 3) hSw; have d4 := kp_kc (show w5.cell? ⟨w3.heap.size, 4, none⟩ = some (Value.int .u8 (y 11)) from B4.out.cell 4) hSw; have d5 := kp_kc (show w5.cell? ⟨w3.heap.size, 5, none⟩ = some (Value.int .u8 (y 12)) from B4.out.cell 5) hSw; have d6 := kp_kc (show w5.cell? ⟨w3.heap.size, 6, none⟩ = some (Value.int .u8 (y 13)) from B4.out.cell 6) hSw; have d7 := kp_kc (show w5.cell? ⟨w3.heap.size, 7, none⟩ = some (Value.int .u32 (n4 y 14)) from B4.out.cell 7) hSw; have d8 := kp_kc (show w5.cell? ⟨w3.heap.size, 8, none⟩ = some (Value.int .u8 (y 18)) from B4.out.cell 8) hSw; have d9 := kp_kc (show w5.cell? ⟨w3.heap.size, 9, none⟩ = some (Value.int .u8 (y 19)) from B4.out.cell 9) hSw; have d10 := kp_kc (show w5.cell? ⟨w3.heap.size, 10, none⟩ = some (Value.int .u8 (y 20)) from B4.out.cell 10) hSw; have d11 := kp_kc (show w5.cell? ⟨w3.heap.size, 11, none⟩ = some (Value.int .u8 (y 21)) from B4.out.cell 11) hSw; have d12 := kp_kc (show w5.cell? ⟨w3.heap.size, 12, none⟩ = some (Value.int .u8 (y 22)) from B4.out.cell 12) hSw; have d13 := kp_kc (show w5.cell? ⟨w3.heap.size, 13, none⟩ = some (Value.int .u8 (y 23)) from B4.out.cell 13) hSw; have d14 := kp_kc (show w5.cell? ⟨w3.heap.size, 14, none⟩ = some (Value.int .u32 (n4 y 24)) from B4.out.cell 14) hSw; go_simp; first | done | with_reducible rfl)
      try simp only [Act.put, List.getElem_toArray, List.getElem_cons_succ, List.getElem_cons_zero, List.setIfInBounds_toArray, List.set_cons_zero, List.set_cons_succ]
      refine wpAnyH_take (i := 7) (v := ?v7_23) rfl (by kernel_rfl) (by kernel_rfl) (by kernel_rfl) (fun _ _ _ h => h) (Or.inl ⟨by rfl, ?y7_23⟩) (by assumption) ?r7_23
      case y7_23 => (intro w' hSw; (try dsimp only at hSw); have d0 := kp_kc (show w5.cell? ⟨w4.heap.size, 0, none⟩ = some (Value.int .i64 (n2 y 6)) from B6.out.cell 0) hSw; have d1 := kp_kc (show w5.cell? ⟨w4.heap.size, 1, none⟩ = some (Value.int .u8 (y 8)) from B6.out.cell 1) hSw; have d2 := kp_kc (show w5.cell? ⟨w4.heap.size, 2, none⟩ = some (Value.int .u8 (y 9)) from B6.out.cell 2) hSw; have d3 := kp_kc (show w5.cell? ⟨w4.heap.size, 3, none⟩ = some (Value.int .u8 (y 10)) from B6.out.cell 3) hSw; have d4 := kp_kc (show w5.cell? ⟨w4.heap.size, 4, none⟩ = some (Value.int .u8 (y 11)) from B6.out.cell 4) hSw; have d5 := kp_kc (show w5.cell? ⟨w4.heap.size, 5, none⟩ = some (Value.int .u8 (y 12)) from B6.out.cell 5) hSw; have d6 := kp_kc (show w5.cell? ⟨w4.heap.size, 6, none⟩ = some (Value.int .u8 (y 13)) from B6.out.cell 6) hSw; have d7 := kp_kc (show w5.cell? ⟨w4.heap.size, 7, none⟩ = some (Value.int .u32 (n4 y 14)) from B6.out.cell 7) hSw; have d8 := kp_kc (show w5.cell? ⟨w4.heap.size, 8, none⟩ = some (Value.int .u8 (y 18)) from B6.out.cell 8) hSw; have d9 := kp_kc (show w5.cell? ⟨w4.heap.size, 9, none⟩ = some (Value.int .u8 (y 19)) from B6.out.cell 9) hSw; have d10 := kp_kc (show w5.cell? ⟨w4.heap.size, 10, none⟩ = some (Value.int .u8 (y 20)) from B6.out.cell 10) hSw; have d11 := kp_kc (show w5.cell? ⟨w4.heap.size, 11, none⟩ = some (Value.int .u8 (y 21)) from B6.out.cell 11) hSw; have d12 := kp_kc (show w5.cell? ⟨w4.heap.size, 12, none⟩ = some (Value.int .u8 (y 22)) from B6.out.cell 12) hSw; have d13 := kp_kc (show w5.cell? ⟨w4.heap.size, 13, none⟩ = some (Value.int .u8 (y 23)) from B6.out.cell 13) hSw; have d14 := kp_kc (show w5.cell? ⟨w4.heap.size, 14, none⟩ = some (Value.int .u32 (n4 y 24)) from B6.out.cell 14) hSw; go_simp; first | done | with_reducible rfl)
      try simp only [Act.put, List.getElem_toArray, List.getElem_cons_succ, List.getElem_cons_zero, List.setIfInBounds_toArray, List.set_cons_zero, List.set_cons_succ]
      refine wpAnyH_ready (rs := [6]) (by kernel_rfl) (by simp) ?_
      refine AllReadyH.cons rfl (fun K hK => ?_) AllReadyH.nil
      go_simp
      with_reducible refine (HOF.out _).mono ?_
      rintro ev x6 ⟨rfl, k9⟩
      have KC := Lib.hid (KC.out.trans' k9)
      clear k9
      try dsimp only
      refine hK.out _ _ (KC.out) (fun hHeld => ?_)
      clear hK K
      try simp only [Act.put, List.getElem_toArray, List.getElem_cons_succ, List.getElem_cons_zero, List.setIfInBounds_toArray, List.set_cons_zero, List.set_cons_succ]
      refine wpAnyH_take (i := 8) (v := ?v8_24) rfl (by kernel_rfl) (by kernel_rfl) (by kernel_rfl) (fun _ _ _ h => h) (Or.inl ⟨by rfl, ?y8_24⟩) (by assumption) ?r8_24
      case y8_24 => (intro w' hSw; (try dsimp only at hSw); have hq1 := EQA.out w'; have hq2 := EQM.out w'; go_simp; first | done | with_reducible rfl)
      try simp only [Act.put, List.getElem_toArray, List.getElem_cons_succ, List.getElem_cons_zero, List.setIfInBounds_toArray, List.set_cons_zero, List.set_cons_succ]
      refine wpAnyH_take (i := 9) (v := ?v9_25) rfl (by kernel_rfl) (by kernel_rfl) (by kernel_rfl) (fun _ _ _ h => h) (Or.inl ⟨by rfl, ?y9_25⟩) (by assumption) ?r9_25
      case y9_25 => (intro w' hSw; (try dsimp only at hSw); go_simp; first | done | with_reducible rfl)
      try simp only [Act.put, List.getElem_toArray, List.getElem_cons_succ, List.getElem_cons_zero, List.setIfInBounds_toArray, List.set_cons_zero, List.set_cons_succ]
      refine wpAnyH_take (i := 10) (v := ?v10_26) rfl (by kernel_rfl) (by kernel_rfl) (by kernel_rfl) (fun _ _ _ h => h) (Or.inl ⟨by rfl, ?y10_26⟩) (by assumption) ?r10_26
      case y10_26 => (intro w' hSw; (try dsimp only at hSw); go_simp; first | done | with_reducible rfl)
      try simp only [Act.put, List.getElem_toArray, List.getElem_cons_succ, List.getElem_cons_zero, List.setIfInBounds_toArray, List.set_cons_zero, List.set_cons_succ]
      refine wpAnyH_take (i := 11) (v := ?v11_27) rfl (by kernel_rfl) (by kernel_rfl) (by kernel_rfl) (fun _ _ _ h => h) (Or.inl ⟨by rfl, ?y11_27⟩) (by assumption) ?r11_27
      case y11_27 => (intro w' hSw; (try dsimp only at hSw); go_simp; first | done | with_reducible rfl)
      try simp only [Act.put, List.getElem_toArray, List.getElem_cons_succ, List.getElem_cons_zero, List.setIfInBounds_toArray, List.set_cons_zero, List.set_cons_succ]
      refine wpAnyH_take (i := 12) (v := ?v12_28) rfl (by kernel_rfl) (by kernel_rfl) (by kernel_rfl) (fun _ _ _ h => h) (Or.inl ⟨by rfl, ?y12_28⟩) (by assumption) ?r12_28
      case y12_28 => (intro w' hSw; (try dsimp only at hSw); go_simp; first | done | with_reducible rfl)
      try simp only [Act.put, List.getElem_toArray, List.getElem_cons_succ, List.getElem_cons_zero, List.setIfInBounds_toArray, List.set_cons_zero, List.set_cons_succ]
      refine wpAnyH_ready (rs := [13]) (by kernel_rfl) (by simp) ?_
      refine AllReadyH.cons rfl (fun K hK => ?_) AllReadyH.nil
      go_simp
      with_reducible refine (HSB.out _ (by exact KC.out)).mono ?_
      rintro ev x13 ⟨rfl, n4', rfl⟩
      rw [beq_self_eq_true]
      have KC := Lib.hid (KC.out.drewN n4')
      try dsimp only
      refine hK.out _ _ (KC.out) (fun hHeld => ?_)
      clear hK K
      try simp only [Act.put, List.getElem_toArray, List.getElem_cons_succ, List.getElem_cons_zero, List.setIfInBounds_toArray, List.set_cons_zero, List.set_cons_succ]
      refine wpAnyH_take (i := 14) (v := ?v14_29) rfl (by kernel_rfl) (by kernel_rfl) (by kernel_rfl) (fun _ _ _ h => h) (Or.inl ⟨by rfl, ?y14_29⟩) (by assumption) ?r14_29
      case y14_29 => (intro w' hSw; (try dsimp only at hSw); go_simp; first | done | with_reducible rfl)
      try simp only [Act.put, List.getElem_toArray, List.getElem_cons_succ, List.getElem_cons_zero, List.setIfInBounds_toArray, List.set_cons_zero, List.set_cons_succ]
      refine wpAnyH_take (i := 15) (v := ?v15_30) rfl (by kernel_rfl) (by kernel_rfl) (by kernel_rfl) (fun _ _ _ h => h) (Or.inl ⟨by rfl, ?y15_30⟩) (by assumption) ?r15_30
      case y15_30 => (intro w' hSw; (try dsimp only at hSw); go_simp; first | done | with_reducible rfl)
      try simp only [Act.put, List.getElem_toArray, List.getElem_cons_succ, List.getElem_cons_zero, List.setIfInBounds_toArray, List.set_cons_zero, List.set_cons_succ]
      refine wpAnyH_done (by kernel_rfl) ?_ _
      go_wp2_with fail
      go_meet
      exact ⟨rfl, KC.out⟩
  case rest =>
  as_aux_lemma =>
  obtain ⟨rfl, kc⟩ := hcut
  have KK := Lib.hid (KK.out.trans' kc)
  have E := Lib.hid (E.out.kept kc (fun f => f))
  have RX := Lib.hid (RX.out.kp kc (fun _ _ _ f => f))
  have RO := Lib.hid (RO.out.kp kc (fun _ _ _ f => f))
  have B4 := Lib.hid (B4.out.kept kc (fun f => f))
  have B6 := Lib.hid (B6.out.kept kc (fun f => f))
  have B7 := Lib.hid (B7.out.kept kc (fun f => f))
  clear kc HIS HOF HSB
  go_upto_region 10 with fail
  have KC := Lib.hid ((Kp.refl (fun _ => False) wc).drew)
  refine wp_region_held_drew (S := (fun w' => Kp (fun _ => False) wc w')) (by kernel_rfl) (KC.out) (fun hHeld => ?_)
  refine wpAnyH_take (i := 0) (v := ?v0_31) rfl (by kernel_rfl) (by kernel_rfl) (by kernel_rfl) (fun _ _ _ h => h) (Or.inl ⟨by rfl, ?y0_31⟩) (by assumption) ?r0_31
  case y0_31 => (intro w' hSw; (try dsimp only at hSw); go_simp; first | done | with_reducible rfl)
  try simp only [Act.put, List.getElem_toArray, List.getElem_cons_succ, List.getElem_cons_zero, List.setIfInBounds_toArray, List.set_cons_zero, List.set_cons_succ]
  refine wpAnyH_take (i := 1) (v := ?v1_32) rfl (by kernel_rfl) (by kernel_rfl) (by kernel_rfl) (fun _ _ _ h => h) (Or.inl ⟨by rfl, ?y1_32⟩) (by assumption) ?r1_32
  case y1_32 => (intro w' hSw; (try dsimp only at hSw); go_simp; first | done | with_reducible rfl)
  try simp only [Act.put, List.getElem_toArray, List.getElem_cons_succ, List.getElem_cons_zero, List.setIfInBounds_toArray, List.set_cons_zero, List.set_cons_succ]
  refine wpAnyH_take (i := 2) (v := ?v2_33) rfl (by kernel_rfl) (by kernel_rfl) (by kernel_rfl) (fun _ _ _ h => h) (Or.inl ⟨by rfl, ?y2_33⟩) (by assumption) ?r2_33
  case y2_33 => (intro w' hSw; (try dsimp only at hSw); go_simp; first | done | with_reducible rfl)
  try simp only [Act.put, List.getElem_toArray, List.getElem_cons_succ, List.getElem_cons_zero, List.setIfInBounds_toArray, List.set_cons_zero, List.set_cons_succ]
  refine wpAnyH_take (i := 3) (v := ?v3_34) rfl (by kernel_rfl) (by kernel_rfl) (by kernel_rfl) (fun _ _ _ h => h) (Or.inl ⟨by rfl, ?y3_34⟩) (by assumption) ?r3_34
  case y3_34 => (intro w' hSw; (try dsimp only at hSw); have d0 := kp_kc (show wc.cell? ⟨w3.heap.size, 0, none⟩ = some (Value.int .i64 (n2 y 6)) from B4.out.cell 0) hSw; have d1 := kp_kc (show wc.cell? ⟨w3.heap.size, 1, none⟩ = some (Value.int .u8 (y 8)) from B4.out.cell 1) hSw; have d2 := kp_kc (show wc.cell? ⟨w3.heap.size, 2, none⟩ = some (Value.int .u8 (y 9)) from B4.out.cell 2) hSw; have d3 := kp_kc (show wc.cell? ⟨w3.heap.size, 3, none⟩ = some (Value.int .u8 (y 10)) from B4.out.cell 3) hSw; have d4 := kp_kc (show wc.cell? ⟨w3.heap.size, 4, none⟩ = some (Value.int .u8 (y 11)) from B4.out.cell 4) hSw; have d5 := kp_kc (show wc.cell? ⟨w3.heap.size, 5, none⟩ = some (Value.int .u8 (y 12)) from B4.out.cell 5) hSw; have d6 := kp_kc (show wc.cell? ⟨w3.heap.size, 6, none⟩ = some (Value.int .u8 (y 13)) from B4.out.cell 6) hSw; have d7 := kp_kc (show wc.cell? ⟨w3.heap.size, 7, none⟩ = some (Value.int .u32 (n4 y 14)) from B4.out.cell 7) hSw; have d8 := kp_kc (show wc.cell? ⟨w3.heap.size, 8, none⟩ = some (Value.int .u8 (y 18)) from B4.out.cell 8) hSw; have d9 := kp_kc (show wc.cell? ⟨w3.heap.size, 9, none⟩ = some (Value.int .u8 (y 19)) from B4.out.cell 9) hSw; have d10 := kp_kc (show wc.cell? ⟨w3.heap.size, 10, none⟩ = some (Value.int .u8 (y 20)) from B4.out.cell 10) hSw; have d11 := kp_kc (show wc.cell? ⟨w3.heap.size, 11, none⟩ = some (Value.int .u8 (y 21)) from B4.out.cell 11) hSw; have d12 := kp_kc (show wc.cell? ⟨w3.heap.size, 12, none⟩ = some (Value.int .u8 (y 22)) from B4.out.cell 12) hSw; have d13 := kp_kc (show wc.cell? ⟨w3.heap.size, 13, none⟩ = some (Value.int .u8 (y 23)) from B4.out.cell 13) hSw; have d14 := kp_kc (show wc.cell? ⟨w3.heap.size, 14, none⟩ = some (Value.int .u32 (n4 y 24)) from B4.out.cell 14) hSw; go_simp; first | done | with_reducible rfl)
  try simp only [Act.put, List.getElem_toArray, List.getElem_cons_succ, List.getElem_cons_zero, List.setIfInBounds_toArray, List.set_cons_zero, List.set_cons_succ]
  refine wpAnyH_take (i := 5) (v := ?v5_35) rfl (by kernel_rfl) (by kernel_rfl) (by kernel_rfl) (fun _ _ _ h => h) (Or.inl ⟨by rfl, ?y5_35⟩) (by assumption) ?r5_35
  case y5_35 => (intro w' hSw; (try dsimp only at hSw); go_simp; first | done | with_reducible rfl)
  try simp only [Act.put, List.getElem_toArray, List.getElem_cons_succ, List.getElem_cons_zero, List.setIfInBounds_toArray, List.set_cons_zero, List.set_cons_succ]
  refine wpAnyH_take (i := 6) (v := ?v6_36) rfl (by kernel_rfl) (by kernel_rfl) (by kernel_rfl) (fun _ _ _ h => h) (Or.inl ⟨by rfl, ?y6_36⟩) (by assumption) ?r6_36
  case y6_36 => (intro w' hSw; (try dsimp only at hSw); go_simp; first | done | with_reducible rfl)
  try simp only [Act.put, List.getElem_toArray, List.getElem_cons_succ, List.getElem_cons_zero, List.setIfInBounds_toArray, List.set_cons_zero, List.set_cons_succ]
  refine wpAnyH_ready (rs := [4]) (by kernel_rfl) (by simp) ?_
  refine AllReadyH.cons rfl (fun K hK => ?_) AllReadyH.nil
  go_simp
  with_reducible refine (HBY.out _).mono ?_
  rintro ev x4 ⟨s4, rfl, own4, k9⟩
  obtain ⟨a4, d4, rfl, r4⟩ := own_some own4 (by omega)
  have KC := Lib.hid (KC.out.trans' k9)
  have R4 := Lib.hid r4
  clear own4 k9 r4
  try dsimp only
  refine hK.out _ _ (KC.out) (fun hHeld => ?_)
  clear hK K
  try simp only [Act.put, List.getElem_toArray, List.getElem_cons_succ, List.getElem_cons_zero, List.setIfInBounds_toArray, List.set_cons_zero, List.set_cons_succ]
  refine wpAnyH_ready (rs := [7]) (by kernel_rfl) (by simp) ?_
  refine AllReadyH.cons rfl (fun K hK => ?_) AllReadyH.nil
  go_simp
  with_reducible refine (HS2.out _ _ _ (by exact R4.out) (by exact (RX.out.kp KC.out (fun _ _ _ f => f)).take 28)).mono ?_
  rintro ev x7 ⟨rfl, n4', rfl⟩
  rw [beq_self_eq_true]
  have KC := Lib.hid (KC.out.drewN n4')
  try dsimp only
  refine hK.out _ _ (KC.out) (fun hHeld => ?_)
  clear hK K
  try simp only [Act.put, List.getElem_toArray, List.getElem_cons_succ, List.getElem_cons_zero, List.setIfInBounds_toArray, List.set_cons_zero, List.set_cons_succ]
  refine wpAnyH_take (i := 8) (v := ?v8_37) rfl (by kernel_rfl) (by kernel_rfl) (by kernel_rfl) (fun _ _ _ h => h) (Or.inl ⟨by rfl, ?y8_37⟩) (by assumption) ?r8_37
  case y8_37 => (intro w' hSw; (try dsimp only at hSw); go_simp; first | done | with_reducible rfl)
  try simp only [Act.put, List.getElem_toArray, List.getElem_cons_succ, List.getElem_cons_zero, List.setIfInBounds_toArray, List.set_cons_zero, List.set_cons_succ]
  refine wpAnyH_take (i := 9) (v := ?v9_38) rfl (by kernel_rfl) (by kernel_rfl) (by kernel_rfl) (fun _ _ _ h => h) (Or.inl ⟨by rfl, ?y9_38⟩) (by assumption) ?r9_38
  case y9_38 => (intro w' hSw; (try dsimp only at hSw); go_simp; first | done | with_reducible rfl)
  try simp only [Act.put, List.getElem_toArray, List.getElem_cons_succ, List.getElem_cons_zero, List.setIfInBounds_toArray, List.set_cons_zero, List.set_cons_succ]
  refine wpAnyH_done (by kernel_rfl) ?_ _
  go_wp2_with fail
  go_ret
  exact ⟨rfl, K2.out.trans' (KK.out.trans' KC.out)⟩
set_option maxRecDepth 1000000 in
set_option maxHeartbeats 20000000 in
theorem parses_walk (A : Option Addr) (c : Nat) (x : List Int) (w : World) (hE : Et w) (hx : RdI w .u8 A x) (hxb : Byt x) (h0 : A = none → c = 0) (hxc : x.length ≤ c) :
    Calls Tryd.prog 4 #[.slice A x.length c] w fun ev w' => ev = .returned (.bool true) ∧ Kp (fun _ => False) w w' := by
  obtain ⟨n, hn⟩ : ∃ n, x.length = n := ⟨_, rfl⟩
  rw [hn] at hxc ⊢
  by_cases hbig : 3000 < n
  · have hbi : (3000 : Int) < (n : Int) := by omega
    have E := Lib.hid hE
    clear hE hx hxb h0 hn
    go_enter Tryd.func4, Tryd.ntmps4
    go_wp2_with fail
    refine (alive06 _ E.out).mono ?_
    rintro ev w1 ⟨rfl, k1⟩
    have K := Lib.hid k1
    clear k1
    go_wp2_with fail
    go_ret
    exact ⟨rfl, K.out⟩
  by_cases h28 : n < 28
  · exact parses_none A c n x 12 1 w hE hx h0 hn (by omega) (fun w2 A2 c2 _ _ => ⟨fun w' _ => parse_short A2 c2 n w' h28, fun w' _ => rparse_short A c n w' h28, by decide⟩)
  · obtain ⟨b, o, rfl, _⟩ : ∃ b o, A = some ⟨b, o, none⟩ ∧ True := by
      rcases hx.2 with h | ⟨b, o, h, _⟩
      · omega
      · exact ⟨b, o, h, trivial⟩
    cases hbad : badOf x
    · cases ho : (x.getD 8 0 % 2 != 0)
      · exact parses_some b o c n x w hE hx hxb hn (by omega) (by omega) hxc hbad ho
      · refine parses_none (some ⟨b, o, none⟩) c n x 10 1 w hE hx h0 hn (by omega) (fun w2 A2 c2 h1 h2 => ?_)
        obtain ⟨g, c3, e3, hc3, _, _⟩ := own_form h2 (by omega)
        cases e3
        exact ⟨fun w' hk => podd g c2 n x w' ((own_rd h2).kp hk (fun _ _ _ f => f)) hxb hn (by omega) (by omega) hc3 hbad ho, fun w' hk => rparse_odd b o c n x w' (h1.kp hk (fun _ _ _ f => f)) hxb hn (by omega) (by omega) hxc (good_of hbad).1 (good_of hbad).2.1 (good_of hbad).2.2 ho, by decide⟩
    · refine parses_none (some ⟨b, o, none⟩) c n x 14 16 w hE hx h0 hn (by omega) (fun w2 A2 c2 h1 h2 => ?_)
      obtain ⟨g, c3, e3, hc3, _, _⟩ := own_form h2 (by omega)
      cases e3
      exact ⟨fun w' hk => pbad g c2 n x w' ((own_rd h2).kp hk (fun _ _ _ f => f)) hxb hn (by omega) (by omega) hc3 hbad, fun w' hk => rparse_bad b o c n x w' (h1.kp hk (fun _ _ _ f => f)) hxb hn (by omega) (by omega) hxc hbad, by decide⟩
end Go.Proofs.YtfhhmehlkjaibaaDoor
