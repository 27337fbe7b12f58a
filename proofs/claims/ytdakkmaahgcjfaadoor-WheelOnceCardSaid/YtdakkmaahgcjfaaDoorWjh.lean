/- Wheel: the walk of WheelCalls. -/
import Derived.Test.YtdakkmaahgcjfaaDoorWjg
import Derived.Test.YtdakkmaahgcjfaaDoorWid
set_option linter.unusedVariables false
set_option linter.unusedSimpArgs false
namespace Go.Proofs.YtdakkmaahgcjfaaDoor
open Go.RowKit

/-- A slice's cells are these calls. -/
def RdC (w : World) (A : Option Addr) (xs : List (Int × Int × Nat)) : Prop := xs.length ≤ 9223372036854775807 ∧ (xs.length = 0 ∨ ∃ b o, A = some ⟨b, o, none⟩ ∧ ∀ j, j < xs.length →
  w.cell? ⟨b, o + j * 3, none⟩ = some (.int .i64 (xs.getD j (0, 0, 0)).1) ∧ w.cell? ⟨b, o + j * 3 + 1, none⟩ = some (.int .i64 (xs.getD j (0, 0, 0)).2.1) ∧ w.cell? ⟨b, o + j * 3 + 2, none⟩ = some (.int .u64 ((xs.getD j (0, 0, 0)).2.2 : Int)))
theorem RdC.kp {w w' : World} {A : Option Addr} {xs : List (Int × Int × Nat)} (h : RdC w A xs) (hk : Kp (fun _ => False) w w') : RdC w' A xs := by
  refine ⟨h.1, ?_⟩
  rcases h.2 with h | ⟨b, o, rfl, hc⟩
  · exact .inl h
  · exact .inr ⟨b, o, rfl, fun j hj => ⟨kp_kc0 (hc j hj).1 hk, kp_kc0 (hc j hj).2.1 hk, kp_kc0 (hc j hj).2.2 hk⟩⟩
theorem RdC.at_ {w : World} {A : Option Addr} {xs : List (Int × Int × Nat)} (h : RdC w A xs) {j : Nat} (hj : j < xs.length) : ∃ b o, A = some ⟨b, o, none⟩ ∧
    w.cell? ⟨b, o + j * 3, none⟩ = some (.int .i64 (xs.getD j (0, 0, 0)).1) ∧ w.cell? ⟨b, o + j * 3 + 1, none⟩ = some (.int .i64 (xs.getD j (0, 0, 0)).2.1) ∧ w.cell? ⟨b, o + j * 3 + 2, none⟩ = some (.int .u64 ((xs.getD j (0, 0, 0)).2.2 : Int)) := by
  rcases h.2 with h | ⟨b, o, rfl, hc⟩
  · omega
  · exact ⟨b, o, rfl, hc j hj⟩
theorem Wx.by_do {w0 w w' : World} {g gr n : Nat} {R : Rows} (h : Wx w0 0 0 w g n R) (hp : DoPost (FI w0.heap.size 0 0) g gr R w w') (hg : w0.heap.size ≤ gr) : ∃ n' R', Wx w0 0 0 w' g n' R' ∧ RW w' gr n' R' ∧ R'.length ≤ R.length + 1 := by
  obtain ⟨n', R', h1, h2, h3, k⟩ := hp
  have hz := h.kp.size
  have hp := h.pos
  refine ⟨n', R', ⟨h1.mono (fun b _ hb => ?_), Nat.zero_le _, h.kp.trans k (fun b hb hs => ?_), h.tab.kept k (fun hs => ?_), hp⟩, h2, h3⟩
  · rcases hb with hb | hb
    · exact hb
    · exact ⟨by omega, by omega⟩
  · rcases hs with hs | hs
    · have := hs.1; omega
    · omega
  · rcases hs with hs | hs
    · have := hs.1; omega
    · omega
theorem rFindI_ge (R : Rows) (t : Int) : (rFindI R t = -1 ∧ (rdue t R).isSome = false) ∨ ∃ k : Nat, rFindI R t = k ∧ (rdue t R).isSome = true := by
  unfold rFindI
  rcases hf : rFind R t with _ | i
  · left
    rw [rFind_none.1 hf]
    exact ⟨rfl, rfl⟩
  · right
    refine ⟨i, rfl, ?_⟩
    rcases hd : rdue t R with _ | d
    · rw [rFind_none.2 hd] at hf; cases hf
    · rfl
theorem Kp.undrew {S : Nat → Prop} {a w : World} (h : Kp S a.drew w) : Kp S a w := ⟨h.os, h.tape, h.output, h.size, h.block⟩
set_option maxRecDepth 1000000 in
set_option maxHeartbeats 8000000 in
theorem calls_walk (now : Nat) (A : Option Addr) (c : Nat) (xs : List (Int × Int × Nat)) (x y : Int) (z : Nat) (w : World) (hT : Tab w) (hx : RdC w A xs)
    (hbd : ∀ j, -9223372036854775808 ≤ (xs.getD j (0, 0, 0)).2.1 ∧ (xs.getD j (0, 0, 0)).2.1 ≤ 9223372036854775807) (hy : -9223372036854775808 ≤ y ∧ y ≤ 9223372036854775807) :
    Calls Tryd.prog 3 #[.int .u64 now, .slice A xs.length c, .agg #[.int .i64 x, .int .i64 y, .int .u64 z]] w fun e w' => e = .returned (.bool true) ∧ Kp (fun _ => False) w w' := by
  have Hb := Lib.hid hbd
  have hxl := hx.1
  have hk0 := (Kp.refl (fun _ => False) w).alloc (.cells #[.int .i64 x, .int .i64 y, .int .u64 z] 25)
  have HT := Lib.hid (hT.kept hk0 (fun f => f))
  have Hx := Lib.hid (hx.kp hk0)
  have hb0 := Bk.new w 25 #[.int .i64 x, .int .i64 y, .int .u64 z]
  have q0 := hb0.cell 0
  have q1 := hb0.cell 1
  have q2 := hb0.cell 2
  simp only [List.getElem?_toArray, List.getElem?_cons_zero, List.getElem?_cons_succ] at q0 q1 q2
  have Hk0 := Lib.hid hk0
  have hb0l := hb0.lt
  generalize hW : w.alloc (.cells #[.int .i64 x, .int .i64 y, .int .u64 z] 25) = W at HT Hx Hk0 hb0l q0 q1 q2
  have HW := Lib.hid hW
  have P0 := Lib.hid q0
  have P1 := Lib.hid q1
  have P2 := Lib.hid q2
  have hpos := HT.out.lt
  clear hT hbd hx hk0 hb0 hW q0 q1 q2
  by_cases hl3 : (100 : Int) < (xs.length : Int)
  · go_enter Tryd.func3, Tryd.ntmps3
    go_wp2_with fail
    rw [HW.out]
    refine (alive13 _ HT.out).mono ?_
    rintro e w1 ⟨rfl, k1⟩
    go_wp2_with fail
    exact bodyPost_ret (results_tmp rfl _ _ _) rfl ⟨rfl, Hk0.out.trans' k1⟩
  by_cases hnow : now ≤ TOP
  · go_enter Tryd.func3, Tryd.ntmps3
    go_wp2_with fail
    rw [HW.out]
    refine (alive13 _ HT.out).mono ?_
    rintro e w1 ⟨rfl, k1⟩
    go_wp2_with fail
    refine (xnew now W w1 hnow (HT.out.kept k1 (fun f => f)) hpos k1).mono ?_
    rintro e w2 ⟨g, rfl, h2, _⟩
    have X2 := Lib.hid h2
    clear h2 k1
    go_wp2_with fail
    refine (rnew_ok now w2 hnow).mono ?_
    rintro e w3 ⟨gr, rfl, r3, hgr, k3⟩
    have X3 := Lib.hid (X2.out.none_kept k3)
    have R3 := Lib.hid r3
    have hgr2 : W.heap.size ≤ gr := Nat.le_trans X2.out.kp.size hgr
    clear r3 k3
    go_wp2_with fail
    go_loopw [11] (fun v wr => ∃ (i n : Nat) (R : Rows), v = .int .i64 i ∧ i ≤ xs.length ∧ Wx W 0 0 wr g n R ∧ RW wr gr n R ∧ R.length ≤ i) (fun v _ => xs.length - (intOf v).toNat)
    case atStart => exact ⟨0, now, [], rfl, Nat.zero_le _, X3.out, R3.out, Nat.le_refl _⟩
    case round =>
      obtain ⟨i, n, R, rfl, hi, hX, hR, hlR⟩ := hrel
      have HX := Lib.hid hX
      have HR := Lib.hid hR
      have i0 : (0 : Int) ≤ (i : Int) := by omega
      clear hX hR
      by_cases hlt : i < xs.length
      · have i1 : (i : Int) < (xs.length : Int) := by omega
        have hyy := Hb.out i
        obtain ⟨b, o, rfl, e0, e1, e2⟩ := (Hx.out.kp HX.out.kp).at_ hlt
        have HRB := Lib.hid (Hx.out)
        generalize hu : xs.getD i (0, 0, 0) = u at e0 e1 e2 hyy
        obtain ⟨u0, u1, u2⟩ := u
        simp only at e0 e1 e2 hyy
        clear hu
        go_wp2_with fail
        refine (do_any _ g gr n R u0 u1 u2 _ HX.out.whl HR.out hyy (by omega) HX.out.tab HX.out.no0).mono ?_
        rintro e w4 ⟨rfl, hd⟩
        obtain ⟨n4, R4, x4, r4, hl4⟩ := HX.out.by_do hd hgr2
        have X4 := Lib.hid x4
        have RR4 := Lib.hid r4
        clear x4 r4 hd
        go_wp2_with fail
        refine (agree _ g gr n4 R4 _ X4.out.whl RR4.out X4.out.tab (by omega)).mono ?_
        rintro e w5 ⟨rfl, k5⟩
        have X5 := Lib.hid (X4.out.none_kept k5)
        have R5 := Lib.hid (RR4.out.none_kept k5)
        clear k5
        go_wp2_with fail
        go_roundw
        case rel => exact ⟨i + 1, n4, R4, by go_num, by omega, X5.out, R5.out, by omega⟩
        case measure => simp [intOf]; omega
      · have hRl : R.length ≤ 16384 := by omega
        go_wp2_with fail
        refine (xclone g n R _ HX.out).mono ?_
        rintro e w5 ⟨g2, rfl, h5, c5, k5⟩
        have K5 := Lib.hid k5
        have X5 := Lib.hid h5
        have C5 := Lib.hid c5
        have Q0 := Lib.hid (kp_kc0 P0.out HX.out.kp)
        have Q1 := Lib.hid (kp_kc0 P1.out HX.out.kp)
        have Q2 := Lib.hid (kp_kc0 P2.out HX.out.kp)
        have z1 := kp_kc0 Q1.out k5
        clear h5 c5 k5
        go_wp2_with fail
        refine (xdue g n R y _ X5.out).mono ?_
        rintro e w6 ⟨rfl, k6⟩
        have k6s := k6.size
        have C6 := Lib.hid (C5.out.none_kept k6)
        have KC := Lib.hid (K5.out.trans' k6).drew
        have hwr0 : 0 < wr.heap.size := Nat.lt_of_lt_of_le hpos HX.out.kp.size
        have HT7 := Lib.hid (fun (V : World) (k : Kp (fun _ => False) wr V) => HX.out.tab.kept k (fun f => f))
        have HCP := Lib.hid (fun (V : World) (k : Kp (fun _ => False) wr V) => rcopy_any gr n R V (HR.out.none_kept k) (by omega))
        have HAG := Lib.hid (fun (V : World) (k : Kp (fun _ => False) wr V) => agree _ g gr n R V (HX.out.whl.none_kept k) (HR.out.none_kept k) (HX.out.tab.kept k (fun f => f)) (by omega))
        have HFI := Lib.hid (fun (V : World) (k : Kp (fun _ => False) wr V) => rfind gr n R y V (HR.out.none_kept k) (by omega))
        obtain ⟨E, kf, hE, hkf, hfs⟩ : ∃ (E : Bool) (kf : Int), (rdue y R).isSome = E ∧ rFindI R y = kf ∧ (E = false ∧ kf = -1 ∨ E = true ∧ 0 ≤ kf) := by
          rcases rFindI_ge R y with ⟨a1, a2⟩ | ⟨k, a1, a2⟩
          · exact ⟨_, _, rfl, rfl, .inl ⟨a2, a1⟩⟩
          · exact ⟨_, _, rfl, rfl, .inr ⟨a2, by omega⟩⟩
        rw [hE]
        rw [hkf] at HFI
        have C6' : Hid (Whl (fun b => wr.heap.size ≤ b ∧ b < w5.heap.size) w6.drew g2 n R) := Lib.hid (C6.out.none_kept ((Kp.refl _ w6).drew))
        clear k6 hE hkf z1
        rcases hfs with ⟨rfl, rfl⟩ | ⟨rfl, hkf⟩
        · go_wp2_with fail
          refine wp_region_held_drew (S := (fun w' => Kp (fun _ => False) wr w')) (by kernel_rfl) (KC.out) (fun hHeld => ?_)
          refine wpAnyH_take (i := 0) (v := ?v0_0) rfl (by kernel_rfl) (by kernel_rfl) (by kernel_rfl) (fun _ _ _ h => h) (Or.inl ⟨by rfl, ?y0_0⟩) (by assumption) ?r0_0
          case y0_0 => (intro w hSw; (try dsimp only at hSw); go_simp; first | done | with_reducible rfl)
          try simp only [Act.put, List.getElem_toArray, List.getElem_cons_succ, List.getElem_cons_zero, List.setIfInBounds_toArray, List.set_cons_zero, List.set_cons_succ]
          refine wpAnyH_take (i := 1) (v := ?v1_1) rfl (by kernel_rfl) (by kernel_rfl) (by kernel_rfl) (fun _ _ _ h => h) (Or.inl ⟨by rfl, ?y1_1⟩) (by assumption) ?r1_1
          case y1_1 => (intro w hSw; (try dsimp only at hSw); go_simp; first | done | with_reducible rfl)
          try simp only [Act.put, List.getElem_toArray, List.getElem_cons_succ, List.getElem_cons_zero, List.setIfInBounds_toArray, List.set_cons_zero, List.set_cons_succ]
          refine wpAnyH_take (i := 2) (v := ?v2_2) rfl (by kernel_rfl) (by kernel_rfl) (by kernel_rfl) (fun _ _ _ h => h) (Or.inl ⟨by rfl, ?y2_2⟩) (by assumption) ?r2_2
          case y2_2 => (intro w hSw; (try dsimp only at hSw); go_simp; first | done | with_reducible rfl)
          try simp only [Act.put, List.getElem_toArray, List.getElem_cons_succ, List.getElem_cons_zero, List.setIfInBounds_toArray, List.set_cons_zero, List.set_cons_succ]
          refine wpAnyH_take (i := 3) (v := ?v3_3) rfl (by kernel_rfl) (by kernel_rfl) (by kernel_rfl) (fun _ _ _ h => h) (Or.inl ⟨by rfl, ?y3_3⟩) (by assumption) ?r3_3
          case y3_3 => (intro w hSw; (try dsimp only at hSw); go_simp; first | done | with_reducible rfl)
          try simp only [Act.put, List.getElem_toArray, List.getElem_cons_succ, List.getElem_cons_zero, List.setIfInBounds_toArray, List.set_cons_zero, List.set_cons_succ]
          refine wpAnyH_take (i := 4) (v := ?v4_4) rfl (by kernel_rfl) (by kernel_rfl) (by kernel_rfl) (fun _ _ _ h => h) (Or.inl ⟨by rfl, ?y4_4⟩) (by assumption) ?r4_4
          case y4_4 => (intro w hSw; (try dsimp only at hSw); go_simp; first | done | with_reducible rfl)
          try simp only [Act.put, List.getElem_toArray, List.getElem_cons_succ, List.getElem_cons_zero, List.setIfInBounds_toArray, List.set_cons_zero, List.set_cons_succ]
          refine wpAnyH_take (i := 6) (v := ?v6_5) rfl (by kernel_rfl) (by kernel_rfl) (by kernel_rfl) (fun _ _ _ h => h) (Or.inl ⟨by rfl, ?y6_5⟩) (by assumption) ?r6_5
          case y6_5 => (intro w hSw; (try dsimp only at hSw); have z0 := kp_kc0 Q0.out hSw; have z1 := kp_kc0 Q1.out hSw; have z2 := kp_kc0 Q2.out hSw; go_simp; first | done | with_reducible rfl)
          try simp only [Act.put, List.getElem_toArray, List.getElem_cons_succ, List.getElem_cons_zero, List.setIfInBounds_toArray, List.set_cons_zero, List.set_cons_succ]
          refine wpAnyH_ready (rs := [5]) (by kernel_rfl) (by simp) ?_
          refine AllReadyH.cons rfl (fun K hK => ?_) AllReadyH.nil
          go_simp
          with_reducible refine (HCP.out _ (by exact KC.out)).mono ?_
          rintro ev w7 ⟨gr2, rfl, r7, a7, k7⟩
          have KC := Lib.hid (KC.out.trans' k7)
          have R7 := Lib.hid r7
          have A7 := Lib.hid (show wr.heap.size ≤ gr2 from Nat.le_trans (Nat.le_trans K5.out.size k6s) a7)
          have C7 := Lib.hid (C6'.out.none_kept k7)
          clear r7 k7 a7
          try dsimp only
          refine hK.out _ _ (KC.out) (fun hHeld => ?_)
          clear hK K
          try simp only [Act.put, List.getElem_toArray, List.getElem_cons_succ, List.getElem_cons_zero, List.setIfInBounds_toArray, List.set_cons_zero, List.set_cons_succ]
          refine wpAnyH_ready (rs := [7]) (by kernel_rfl) (by simp) ?_
          refine AllReadyH.cons rfl (fun K hK => ?_) AllReadyH.nil
          go_simp
          with_reducible refine (do_any _ g2 gr2 n R x y z _ (by exact C7.out) (by exact R7.out) hy hRl (by exact HT7.out _ KC.out) (fun hh => by have := hh.1; omega)).mono ?_
          rintro ev w8 ⟨rfl, n8, R8, _, _, _, k8⟩
          have KC := Lib.hid (KC.out.trans k8 (fun b hb hs => by have := A7.out; rcases hs with hs | hs; (have := hs.1; omega); omega))
          clear k8
          try dsimp only
          refine hK.out _ _ (KC.out) (fun hHeld => ?_)
          clear hK K
          try simp only [Act.put, List.getElem_toArray, List.getElem_cons_succ, List.getElem_cons_zero, List.setIfInBounds_toArray, List.set_cons_zero, List.set_cons_succ]
          refine wpAnyH_take (i := 8) (v := ?v8_6) rfl (by kernel_rfl) (by kernel_rfl) (by kernel_rfl) (fun _ _ _ h => h) (Or.inl ⟨by rfl, ?y8_6⟩) (by assumption) ?r8_6
          case y8_6 => (intro w hSw; (try dsimp only at hSw); go_simp; first | done | with_reducible rfl)
          try simp only [Act.put, List.getElem_toArray, List.getElem_cons_succ, List.getElem_cons_zero, List.setIfInBounds_toArray, List.set_cons_zero, List.set_cons_succ]
          refine wpAnyH_take (i := 9) (v := ?v9_7) rfl (by kernel_rfl) (by kernel_rfl) (by kernel_rfl) (fun _ _ _ h => h) (Or.inl ⟨by rfl, ?y9_7⟩) (by assumption) ?r9_7
          case y9_7 => (intro w hSw; (try dsimp only at hSw); go_simp; first | done | with_reducible rfl)
          try simp only [Act.put, List.getElem_toArray, List.getElem_cons_succ, List.getElem_cons_zero, List.setIfInBounds_toArray, List.set_cons_zero, List.set_cons_succ]
          refine wpAnyH_take (i := 10) (v := ?v10_8) rfl (by kernel_rfl) (by kernel_rfl) (by kernel_rfl) (fun _ _ _ h => h) (Or.inl ⟨by rfl, ?y10_8⟩) (by assumption) ?r10_8
          case y10_8 => (intro w hSw; (try dsimp only at hSw); go_simp; first | done | with_reducible rfl)
          try simp only [Act.put, List.getElem_toArray, List.getElem_cons_succ, List.getElem_cons_zero, List.setIfInBounds_toArray, List.set_cons_zero, List.set_cons_succ]
          refine wpAnyH_take (i := 11) (v := ?v11_9) rfl (by kernel_rfl) (by kernel_rfl) (by kernel_rfl) (fun _ _ _ h => h) (Or.inl ⟨by rfl, ?y11_9⟩) (by assumption) ?r11_9
          case y11_9 => (intro w hSw; (try dsimp only at hSw); go_simp; first | done | with_reducible rfl)
          try simp only [Act.put, List.getElem_toArray, List.getElem_cons_succ, List.getElem_cons_zero, List.setIfInBounds_toArray, List.set_cons_zero, List.set_cons_succ]
          refine wpAnyH_ready (rs := [12]) (by kernel_rfl) (by simp) ?_
          refine AllReadyH.cons rfl (fun K hK => ?_) AllReadyH.nil
          go_simp
          with_reducible refine (HAG.out _ (by exact KC.out)).mono ?_
          rintro ev w9 ⟨rfl, k9⟩
          have KC := Lib.hid (KC.out.trans' k9)
          clear k9
          try dsimp only
          refine hK.out _ _ (KC.out) (fun hHeld => ?_)
          clear hK K
          try simp only [Act.put, List.getElem_toArray, List.getElem_cons_succ, List.getElem_cons_zero, List.setIfInBounds_toArray, List.set_cons_zero, List.set_cons_succ]
          refine wpAnyH_take (i := 13) (v := ?v13_10) rfl (by kernel_rfl) (by kernel_rfl) (by kernel_rfl) (fun _ _ _ h => h) (Or.inl ⟨by rfl, ?y13_10⟩) (by assumption) ?r13_10
          case y13_10 => (intro w hSw; (try dsimp only at hSw); go_simp; first | done | with_reducible rfl)
          try simp only [Act.put, List.getElem_toArray, List.getElem_cons_succ, List.getElem_cons_zero, List.setIfInBounds_toArray, List.set_cons_zero, List.set_cons_succ]
          refine wpAnyH_take (i := 14) (v := ?v14_11) rfl (by kernel_rfl) (by kernel_rfl) (by kernel_rfl) (fun _ _ _ h => h) (Or.inl ⟨by rfl, ?y14_11⟩) (by assumption) ?r14_11
          case y14_11 => (intro w hSw; (try dsimp only at hSw); go_simp; first | done | with_reducible rfl)
          try simp only [Act.put, List.getElem_toArray, List.getElem_cons_succ, List.getElem_cons_zero, List.setIfInBounds_toArray, List.set_cons_zero, List.set_cons_succ]
          refine wpAnyH_take (i := 15) (v := ?v15_12) rfl (by kernel_rfl) (by kernel_rfl) (by kernel_rfl) (fun _ _ _ h => h) (Or.inl ⟨by rfl, ?y15_12⟩) (by assumption) ?r15_12
          case y15_12 => (intro w hSw; (try dsimp only at hSw); go_simp; first | done | with_reducible rfl)
          try simp only [Act.put, List.getElem_toArray, List.getElem_cons_succ, List.getElem_cons_zero, List.setIfInBounds_toArray, List.set_cons_zero, List.set_cons_succ]
          refine wpAnyH_take (i := 16) (v := ?v16_13) rfl (by kernel_rfl) (by kernel_rfl) (by kernel_rfl) (fun _ _ _ h => h) (Or.inl ⟨by rfl, ?y16_13⟩) (by assumption) ?r16_13
          case y16_13 => (intro w hSw; (try dsimp only at hSw); go_simp; first | done | with_reducible rfl)
          try simp only [Act.put, List.getElem_toArray, List.getElem_cons_succ, List.getElem_cons_zero, List.setIfInBounds_toArray, List.set_cons_zero, List.set_cons_succ]
          refine wpAnyH_take (i := 17) (v := ?v17_14) rfl (by kernel_rfl) (by kernel_rfl) (by kernel_rfl) (fun _ _ _ h => h) (Or.inl ⟨by rfl, ?y17_14⟩) (by assumption) ?r17_14
          case y17_14 => (intro w hSw; (try dsimp only at hSw); go_simp; first | done | with_reducible rfl)
          try simp only [Act.put, List.getElem_toArray, List.getElem_cons_succ, List.getElem_cons_zero, List.setIfInBounds_toArray, List.set_cons_zero, List.set_cons_succ]
          refine wpAnyH_take (i := 18) (v := ?v18_15) rfl (by kernel_rfl) (by kernel_rfl) (by kernel_rfl) (fun _ _ _ h => h) (Or.inl ⟨by rfl, ?y18_15⟩) (by assumption) ?r18_15
          case y18_15 => (intro w hSw; (try dsimp only at hSw); have z1 := kp_kc0 Q1.out hSw; go_simp; first | done | with_reducible rfl)
          try simp only [Act.put, List.getElem_toArray, List.getElem_cons_succ, List.getElem_cons_zero, List.setIfInBounds_toArray, List.set_cons_zero, List.set_cons_succ]
          refine wpAnyH_ready (rs := [19]) (by kernel_rfl) (by simp) ?_
          refine AllReadyH.cons rfl (fun K hK => ?_) AllReadyH.nil
          go_simp
          with_reducible refine (HFI.out _ (by exact KC.out)).mono ?_
          rintro ev w10 ⟨rfl, rfl⟩
          try dsimp only
          refine hK.out _ _ (KC.out) (fun hHeld => ?_)
          clear hK K
          try simp only [Act.put, List.getElem_toArray, List.getElem_cons_succ, List.getElem_cons_zero, List.setIfInBounds_toArray, List.set_cons_zero, List.set_cons_succ]
          refine wpAnyH_take (i := 20) (v := ?v20_16) rfl (by kernel_rfl) (by kernel_rfl) (by kernel_rfl) (fun _ _ _ h => h) (Or.inl ⟨by rfl, ?y20_16⟩) (by assumption) ?r20_16
          case y20_16 => (intro w hSw; (try dsimp only at hSw); go_simp; first | done | with_reducible rfl)
          try simp only [Act.put, List.getElem_toArray, List.getElem_cons_succ, List.getElem_cons_zero, List.setIfInBounds_toArray, List.set_cons_zero, List.set_cons_succ]
          refine wpAnyH_take (i := 21) (v := ?v21_17) rfl (by kernel_rfl) (by kernel_rfl) (by kernel_rfl) (fun _ _ _ h => h) (Or.inl ⟨by rfl, ?y21_17⟩) (by assumption) ?r21_17
          case y21_17 => (intro w hSw; (try dsimp only at hSw); go_simp; first | done | with_reducible rfl)
          try simp only [Act.put, List.getElem_toArray, List.getElem_cons_succ, List.getElem_cons_zero, List.setIfInBounds_toArray, List.set_cons_zero, List.set_cons_succ]
          refine wpAnyH_take (i := 22) (v := ?v22_18) rfl (by kernel_rfl) (by kernel_rfl) (by kernel_rfl) (fun _ _ _ h => h) (Or.inl ⟨by rfl, ?y22_18⟩) (by assumption) ?r22_18
          case y22_18 => (intro w hSw; (try dsimp only at hSw); go_simp; first | done | with_reducible rfl)
          try simp only [Act.put, List.getElem_toArray, List.getElem_cons_succ, List.getElem_cons_zero, List.setIfInBounds_toArray, List.set_cons_zero, List.set_cons_succ]
          refine wpAnyH_take (i := 23) (v := ?v23_19) rfl (by kernel_rfl) (by kernel_rfl) (by kernel_rfl) (fun _ _ _ h => h) (Or.inl ⟨by rfl, ?y23_19⟩) (by assumption) ?r23_19
          case y23_19 => (intro w hSw; (try dsimp only at hSw); go_simp; first | done | with_reducible rfl)
          try simp only [Act.put, List.getElem_toArray, List.getElem_cons_succ, List.getElem_cons_zero, List.setIfInBounds_toArray, List.set_cons_zero, List.set_cons_succ]
          refine wpAnyH_done (by kernel_rfl) ?_ _
          go_wp2_with fail
          exact bodyPost_ret (results_tmp rfl _ _ _) rfl ⟨rfl, Hk0.out.trans' (HX.out.kp.trans' KC.out)⟩
        · go_wp2_with fail
          refine wp_region_held_drew (S := (fun w' => Kp (fun _ => False) wr w')) (by kernel_rfl) (KC.out) (fun hHeld => ?_)
          refine wpAnyH_take (i := 0) (v := ?v0_20) rfl (by kernel_rfl) (by kernel_rfl) (by kernel_rfl) (fun _ _ _ h => h) (Or.inl ⟨by rfl, ?y0_20⟩) (by assumption) ?r0_20
          case y0_20 => (intro w hSw; (try dsimp only at hSw); go_simp; first | done | with_reducible rfl)
          try simp only [Act.put, List.getElem_toArray, List.getElem_cons_succ, List.getElem_cons_zero, List.setIfInBounds_toArray, List.set_cons_zero, List.set_cons_succ]
          refine wpAnyH_take (i := 1) (v := ?v1_21) rfl (by kernel_rfl) (by kernel_rfl) (by kernel_rfl) (fun _ _ _ h => h) (Or.inl ⟨by rfl, ?y1_21⟩) (by assumption) ?r1_21
          case y1_21 => (intro w hSw; (try dsimp only at hSw); go_simp; first | done | with_reducible rfl)
          try simp only [Act.put, List.getElem_toArray, List.getElem_cons_succ, List.getElem_cons_zero, List.setIfInBounds_toArray, List.set_cons_zero, List.set_cons_succ]
          refine wpAnyH_take (i := 2) (v := ?v2_22) rfl (by kernel_rfl) (by kernel_rfl) (by kernel_rfl) (fun _ _ _ h => h) (Or.inl ⟨by rfl, ?y2_22⟩) (by assumption) ?r2_22
          case y2_22 => (intro w hSw; (try dsimp only at hSw); go_simp; first | done | with_reducible rfl)
          try simp only [Act.put, List.getElem_toArray, List.getElem_cons_succ, List.getElem_cons_zero, List.setIfInBounds_toArray, List.set_cons_zero, List.set_cons_succ]
          refine wpAnyH_take (i := 3) (v := ?v3_23) rfl (by kernel_rfl) (by kernel_rfl) (by kernel_rfl) (fun _ _ _ h => h) (Or.inl ⟨by rfl, ?y3_23⟩) (by assumption) ?r3_23
          case y3_23 => (intro w hSw; (try dsimp only at hSw); go_simp; first | done | with_reducible rfl)
          try simp only [Act.put, List.getElem_toArray, List.getElem_cons_succ, List.getElem_cons_zero, List.setIfInBounds_toArray, List.set_cons_zero, List.set_cons_succ]
          refine wpAnyH_take (i := 4) (v := ?v4_24) rfl (by kernel_rfl) (by kernel_rfl) (by kernel_rfl) (fun _ _ _ h => h) (Or.inl ⟨by rfl, ?y4_24⟩) (by assumption) ?r4_24
          case y4_24 => (intro w hSw; (try dsimp only at hSw); go_simp; first | done | with_reducible rfl)
          try simp only [Act.put, List.getElem_toArray, List.getElem_cons_succ, List.getElem_cons_zero, List.setIfInBounds_toArray, List.set_cons_zero, List.set_cons_succ]
          refine wpAnyH_take (i := 6) (v := ?v6_25) rfl (by kernel_rfl) (by kernel_rfl) (by kernel_rfl) (fun _ _ _ h => h) (Or.inl ⟨by rfl, ?y6_25⟩) (by assumption) ?r6_25
          case y6_25 => (intro w hSw; (try dsimp only at hSw); have z0 := kp_kc0 Q0.out hSw; have z1 := kp_kc0 Q1.out hSw; have z2 := kp_kc0 Q2.out hSw; go_simp; first | done | with_reducible rfl)
          try simp only [Act.put, List.getElem_toArray, List.getElem_cons_succ, List.getElem_cons_zero, List.setIfInBounds_toArray, List.set_cons_zero, List.set_cons_succ]
          refine wpAnyH_ready (rs := [5]) (by kernel_rfl) (by simp) ?_
          refine AllReadyH.cons rfl (fun K hK => ?_) AllReadyH.nil
          go_simp
          with_reducible refine (HCP.out _ (by exact KC.out)).mono ?_
          rintro ev w7 ⟨gr2, rfl, r7, a7, k7⟩
          have KC := Lib.hid (KC.out.trans' k7)
          have R7 := Lib.hid r7
          have A7 := Lib.hid (show wr.heap.size ≤ gr2 from Nat.le_trans (Nat.le_trans K5.out.size k6s) a7)
          have C7 := Lib.hid (C6'.out.none_kept k7)
          clear r7 k7 a7
          try dsimp only
          refine hK.out _ _ (KC.out) (fun hHeld => ?_)
          clear hK K
          try simp only [Act.put, List.getElem_toArray, List.getElem_cons_succ, List.getElem_cons_zero, List.setIfInBounds_toArray, List.set_cons_zero, List.set_cons_succ]
          refine wpAnyH_ready (rs := [7]) (by kernel_rfl) (by simp) ?_
          refine AllReadyH.cons rfl (fun K hK => ?_) AllReadyH.nil
          go_simp
          with_reducible refine (do_any _ g2 gr2 n R x y z _ (by exact C7.out) (by exact R7.out) hy hRl (by exact HT7.out _ KC.out) (fun hh => by have := hh.1; omega)).mono ?_
          rintro ev w8 ⟨rfl, n8, R8, _, _, _, k8⟩
          have KC := Lib.hid (KC.out.trans k8 (fun b hb hs => by have := A7.out; rcases hs with hs | hs; (have := hs.1; omega); omega))
          clear k8
          try dsimp only
          refine hK.out _ _ (KC.out) (fun hHeld => ?_)
          clear hK K
          try simp only [Act.put, List.getElem_toArray, List.getElem_cons_succ, List.getElem_cons_zero, List.setIfInBounds_toArray, List.set_cons_zero, List.set_cons_succ]
          refine wpAnyH_take (i := 8) (v := ?v8_26) rfl (by kernel_rfl) (by kernel_rfl) (by kernel_rfl) (fun _ _ _ h => h) (Or.inl ⟨by rfl, ?y8_26⟩) (by assumption) ?r8_26
          case y8_26 => (intro w hSw; (try dsimp only at hSw); go_simp; first | done | with_reducible rfl)
          try simp only [Act.put, List.getElem_toArray, List.getElem_cons_succ, List.getElem_cons_zero, List.setIfInBounds_toArray, List.set_cons_zero, List.set_cons_succ]
          refine wpAnyH_take (i := 9) (v := ?v9_27) rfl (by kernel_rfl) (by kernel_rfl) (by kernel_rfl) (fun _ _ _ h => h) (Or.inl ⟨by rfl, ?y9_27⟩) (by assumption) ?r9_27
          case y9_27 => (intro w hSw; (try dsimp only at hSw); go_simp; first | done | with_reducible rfl)
          try simp only [Act.put, List.getElem_toArray, List.getElem_cons_succ, List.getElem_cons_zero, List.setIfInBounds_toArray, List.set_cons_zero, List.set_cons_succ]
          refine wpAnyH_take (i := 10) (v := ?v10_28) rfl (by kernel_rfl) (by kernel_rfl) (by kernel_rfl) (fun _ _ _ h => h) (Or.inl ⟨by rfl, ?y10_28⟩) (by assumption) ?r10_28
          case y10_28 => (intro w hSw; (try dsimp only at hSw); go_simp; first | done | with_reducible rfl)
          try simp only [Act.put, List.getElem_toArray, List.getElem_cons_succ, List.getElem_cons_zero, List.setIfInBounds_toArray, List.set_cons_zero, List.set_cons_succ]
          refine wpAnyH_take (i := 11) (v := ?v11_29) rfl (by kernel_rfl) (by kernel_rfl) (by kernel_rfl) (fun _ _ _ h => h) (Or.inl ⟨by rfl, ?y11_29⟩) (by assumption) ?r11_29
          case y11_29 => (intro w hSw; (try dsimp only at hSw); go_simp; first | done | with_reducible rfl)
          try simp only [Act.put, List.getElem_toArray, List.getElem_cons_succ, List.getElem_cons_zero, List.setIfInBounds_toArray, List.set_cons_zero, List.set_cons_succ]
          refine wpAnyH_ready (rs := [12]) (by kernel_rfl) (by simp) ?_
          refine AllReadyH.cons rfl (fun K hK => ?_) AllReadyH.nil
          go_simp
          with_reducible refine (HAG.out _ (by exact KC.out)).mono ?_
          rintro ev w9 ⟨rfl, k9⟩
          have KC := Lib.hid (KC.out.trans' k9)
          clear k9
          try dsimp only
          refine hK.out _ _ (KC.out) (fun hHeld => ?_)
          clear hK K
          try simp only [Act.put, List.getElem_toArray, List.getElem_cons_succ, List.getElem_cons_zero, List.setIfInBounds_toArray, List.set_cons_zero, List.set_cons_succ]
          refine wpAnyH_take (i := 13) (v := ?v13_30) rfl (by kernel_rfl) (by kernel_rfl) (by kernel_rfl) (fun _ _ _ h => h) (Or.inl ⟨by rfl, ?y13_30⟩) (by assumption) ?r13_30
          case y13_30 => (intro w hSw; (try dsimp only at hSw); go_simp; first | done | with_reducible rfl)
          try simp only [Act.put, List.getElem_toArray, List.getElem_cons_succ, List.getElem_cons_zero, List.setIfInBounds_toArray, List.set_cons_zero, List.set_cons_succ]
          refine wpAnyH_take (i := 14) (v := ?v14_31) rfl (by kernel_rfl) (by kernel_rfl) (by kernel_rfl) (fun _ _ _ h => h) (Or.inl ⟨by rfl, ?y14_31⟩) (by assumption) ?r14_31
          case y14_31 => (intro w hSw; (try dsimp only at hSw); go_simp; first | done | with_reducible rfl)
          try simp only [Act.put, List.getElem_toArray, List.getElem_cons_succ, List.getElem_cons_zero, List.setIfInBounds_toArray, List.set_cons_zero, List.set_cons_succ]
          refine wpAnyH_take (i := 15) (v := ?v15_32) rfl (by kernel_rfl) (by kernel_rfl) (by kernel_rfl) (fun _ _ _ h => h) (Or.inl ⟨by rfl, ?y15_32⟩) (by assumption) ?r15_32
          case y15_32 => (intro w hSw; (try dsimp only at hSw); go_simp; first | done | with_reducible rfl)
          try simp only [Act.put, List.getElem_toArray, List.getElem_cons_succ, List.getElem_cons_zero, List.setIfInBounds_toArray, List.set_cons_zero, List.set_cons_succ]
          refine wpAnyH_take (i := 16) (v := ?v16_33) rfl (by kernel_rfl) (by kernel_rfl) (by kernel_rfl) (fun _ _ _ h => h) (Or.inl ⟨by rfl, ?y16_33⟩) (by assumption) ?r16_33
          case y16_33 => (intro w hSw; (try dsimp only at hSw); go_simp; first | done | with_reducible rfl)
          try simp only [Act.put, List.getElem_toArray, List.getElem_cons_succ, List.getElem_cons_zero, List.setIfInBounds_toArray, List.set_cons_zero, List.set_cons_succ]
          refine wpAnyH_take (i := 17) (v := ?v17_34) rfl (by kernel_rfl) (by kernel_rfl) (by kernel_rfl) (fun _ _ _ h => h) (Or.inl ⟨by rfl, ?y17_34⟩) (by assumption) ?r17_34
          case y17_34 => (intro w hSw; (try dsimp only at hSw); go_simp; first | done | with_reducible rfl)
          try simp only [Act.put, List.getElem_toArray, List.getElem_cons_succ, List.getElem_cons_zero, List.setIfInBounds_toArray, List.set_cons_zero, List.set_cons_succ]
          refine wpAnyH_take (i := 18) (v := ?v18_35) rfl (by kernel_rfl) (by kernel_rfl) (by kernel_rfl) (fun _ _ _ h => h) (Or.inl ⟨by rfl, ?y18_35⟩) (by assumption) ?r18_35
          case y18_35 => (intro w hSw; (try dsimp only at hSw); have z1 := kp_kc0 Q1.out hSw; go_simp; first | done | with_reducible rfl)
          try simp only [Act.put, List.getElem_toArray, List.getElem_cons_succ, List.getElem_cons_zero, List.setIfInBounds_toArray, List.set_cons_zero, List.set_cons_succ]
          refine wpAnyH_ready (rs := [19]) (by kernel_rfl) (by simp) ?_
          refine AllReadyH.cons rfl (fun K hK => ?_) AllReadyH.nil
          go_simp
          with_reducible refine (HFI.out _ (by exact KC.out)).mono ?_
          rintro ev w10 ⟨rfl, rfl⟩
          try dsimp only
          refine hK.out _ _ (KC.out) (fun hHeld => ?_)
          clear hK K
          try simp only [Act.put, List.getElem_toArray, List.getElem_cons_succ, List.getElem_cons_zero, List.setIfInBounds_toArray, List.set_cons_zero, List.set_cons_succ]
          refine wpAnyH_take (i := 20) (v := ?v20_36) rfl (by kernel_rfl) (by kernel_rfl) (by kernel_rfl) (fun _ _ _ h => h) (Or.inl ⟨by rfl, ?y20_36⟩) (by assumption) ?r20_36
          case y20_36 => (intro w hSw; (try dsimp only at hSw); go_simp; first | done | with_reducible rfl)
          try simp only [Act.put, List.getElem_toArray, List.getElem_cons_succ, List.getElem_cons_zero, List.setIfInBounds_toArray, List.set_cons_zero, List.set_cons_succ]
          refine wpAnyH_take (i := 21) (v := ?v21_37) rfl (by kernel_rfl) (by kernel_rfl) (by kernel_rfl) (fun _ _ _ h => h) (Or.inl ⟨by rfl, ?y21_37⟩) (by assumption) ?r21_37
          case y21_37 => (intro w hSw; (try dsimp only at hSw); go_simp; first | done | with_reducible rfl)
          try simp only [Act.put, List.getElem_toArray, List.getElem_cons_succ, List.getElem_cons_zero, List.setIfInBounds_toArray, List.set_cons_zero, List.set_cons_succ]
          refine wpAnyH_take (i := 22) (v := ?v22_38) rfl (by kernel_rfl) (by kernel_rfl) (by kernel_rfl) (fun _ _ _ h => h) (Or.inl ⟨by rfl, ?y22_38⟩) (by assumption) ?r22_38
          case y22_38 => (intro w hSw; (try dsimp only at hSw); go_simp; first | done | with_reducible rfl)
          try simp only [Act.put, List.getElem_toArray, List.getElem_cons_succ, List.getElem_cons_zero, List.setIfInBounds_toArray, List.set_cons_zero, List.set_cons_succ]
          refine wpAnyH_take (i := 23) (v := ?v23_39) rfl (by kernel_rfl) (by kernel_rfl) (by kernel_rfl) (fun _ _ _ h => h) (Or.inl ⟨by rfl, ?y23_39⟩) (by assumption) ?r23_39
          case y23_39 => (intro w hSw; (try dsimp only at hSw); go_simp; first | done | with_reducible rfl)
          try simp only [Act.put, List.getElem_toArray, List.getElem_cons_succ, List.getElem_cons_zero, List.setIfInBounds_toArray, List.set_cons_zero, List.set_cons_succ]
          refine wpAnyH_done (by kernel_rfl) ?_ _
          go_wp2_with fail
          exact bodyPost_ret (results_tmp rfl _ _ _) rfl ⟨rfl, Hk0.out.trans' (HX.out.kp.trans' KC.out)⟩
  · go_enter Tryd.func3, Tryd.ntmps3
    go_wp2_with fail
    rw [HW.out]
    refine (alive13 _ HT.out).mono ?_
    rintro e w1 ⟨rfl, k1⟩
    go_wp2_with fail
    refine (new_far now _ hnow).mono ?_
    rintro e w2 ⟨rfl, rfl⟩
    go_wp2_with fail
    refine (rnew_far now _ hnow).mono ?_
    rintro e w2 ⟨rfl, rfl⟩
    go_wp2_with fail
    exact bodyPost_ret (results_tmp rfl _ _ _) rfl ⟨rfl, Hk0.out.trans' k1⟩
end Go.Proofs.YtdakkmaahgcjfaaDoor
