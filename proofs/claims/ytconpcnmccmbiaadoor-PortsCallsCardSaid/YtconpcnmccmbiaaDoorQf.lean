/- The walk of the reference's Give. -/
import Derived.Test.YtconpcnmccmbiaaDoorQe
import Derived.IntWalk
import Derived.Deep.RegionLaw
namespace Go.Proofs.YtconpcnmccmbiaaDoor
open Go.RowKit

attribute [local go_sem ↓] Go.wp_at_zero Go.wp_at_succ

set_option maxRecDepth 100000 in
set_option maxHeartbeats 400000 in
theorem rgive_out (g l m mk : Nat) (o : Option Nat) (T : Nat → Bool) (a : Int) (w : World) (h : Ref w g o l m mk T) (hp : isPort l m a = false) :
    Calls Tryd.prog 60 #[.pointer (some ⟨g, 0, none⟩), .int .i64 a] w fun e w' => e = .returned (.int .i64 11) ∧ w = w' := by
  have hc := isPort_no hp
  obtain ⟨c0, c1, _⟩ := h.cells
  obtain ⟨_, _, _, _, b1, b2, b3, _⟩ := h
  generalize hq : (l : Int) + m - 1 = q at c1
  have hcase : a < (l : Int) ∨ (l : Int) ≤ a ∧ q < a := by omega
  clear hp hq hc
  rcases hcase with h1 | ⟨h1, h2⟩
  all_goals
    go_enter Tryd.func60, Tryd.ntmps60
    go_wp2_with fail
    go_ret
    exact ⟨rfl, rfl⟩

set_option maxRecDepth 100000 in
set_option maxHeartbeats 4000000 in
theorem rgive_in (g l m mk : Nat) (o : Option Nat) (T : Nat → Bool) (a : Int) (w : World) (h : Ref w g o l m mk T) (hp : isPort l m a = true) :
    Calls Tryd.prog 60 #[.pointer (some ⟨g, 0, none⟩), .int .i64 a] w fun e w' => e = .returned (.int .i64 (giveE l m T a)) ∧ (∃ o', Ref w' g o' l m mk (giveT l m T a) ∧ ∀ j, o' = some j → o = some j ∨ w.heap.size ≤ j) ∧ Kp (fun b => b = g) w w' := by
  obtain ⟨p1, p2⟩ := isPort_yes hp
  have hlt := h.lt
  obtain ⟨i0, hi0, hz0, hz1, hz2⟩ := info_parts intInfo
  obtain ⟨c0, c1, _, _, f3, A, c, c3, hrd, hl1, hl2, hl3, hA0⟩ := h.cells
  have hb := h
  obtain ⟨_, _, _, _, b1, b2, b3, b4, b5⟩ := hb
  have hnd := takenL_nodup T l m
  have hgv := takenL_give T l m (a - l).toNat
  rw [show (((a - l).toNat : Nat) : Int) + (l : Int) = a from by omega] at hgv
  have hmem := takenL_mem T l m a
  generalize hq : (l : Int) + m - 1 = q at c1
  have hq1 : a ≤ q := by omega
  have hq2 : ¬ (q < a) := by omega
  unfold maxLen at hl3
  have H := Lib.hid h
  generalize hxs : takenL T l m = xs at c3 hrd hl1 hl2 hnd hgv hmem
  have Hxs := Lib.hid hxs
  have Hrd := Lib.hid hrd
  have Hnd := Lib.hid hnd
  have Hgv := Lib.hid hgv
  have Hmem := Lib.hid hmem
  have HA0 := Lib.hid hA0
  clear hrd h hxs hnd hgv hmem hA0 hq
  go_enter Tryd.func60, Tryd.ntmps60
  go_wp2_with fail
  go_loop [5] (fun v => ∃ j : Nat, v = .int .i64 j ∧ j ≤ xs.length ∧ ∀ k, k < j → xs.getD k 0 ≠ a) (fun v => xs.length - (intOf v).toNat)
  case atStart => exact ⟨0, rfl, by omega, fun k hk => by omega⟩
  case round =>
    obtain ⟨j, rfl, hj, hno⟩ := hrel
    have Hno := Lib.hid hno
    clear hno
    by_cases hlt2 : j < xs.length
    · obtain ⟨b, o', rfl, hc⟩ : ∃ b o', A = some ⟨b, o', none⟩ ∧ ∀ j, j < xs.length → w.cell? ⟨b, o' + j, none⟩ = some (.int .i64 (xs.getD j 0)) := by
        rcases Hrd.out.2 with h | h
        · omega
        · exact h
      obtain ⟨ho, rfl⟩ := HA0.out b o' rfl
      have Ho := Lib.hid ho
      have hcj := hc j hlt2
      rw [Nat.zero_add] at hcj
      have j1 : (0 : Int) ≤ (j : Int) := by omega
      have j2 : (j : Int) < (xs.length : Int) := by omega
      have Hc := Lib.hid hc
      clear hc ho
      by_cases he : xs.getD j 0 = a
      · have he2 : (xs.getD j 0 == a) = true := by simpa using he
        have He := Lib.hid he
        clear he
        generalize hqq : xs.getD j 0 = y at hcj he2
        have Hqq := Lib.hid hqq
        clear hqq
        have j3 : (0 : Int) ≤ (j : Int) + 1 := by omega
        have j4 : (j : Int) + 1 ≤ (xs.length : Int) := by omega
        have j5 : (j : Int) ≤ (c : Int) := by omega
        have j6 : (xs.length : Int) ≤ (c : Int) := by omega
        have hown0 := World.ownsRow_made w (base := w.heap.size) (e := 3) (size := 1) #[] 0 (Nat.le_refl _) (by unfold maxLen; omega) rfl
        have Hown0 := Lib.hid hown0
        clear hown0
        have hn1 : ∀ (W : World), Kp (fun _ => False) w W → ∀ i u, (ints (xs.take j))[i]? = some u → W.cell? ((⟨b, 0, none⟩ : Addr).add i) = some u := by
          intro W hW i u hu
          have hi : i < j := by have := (List.getElem?_eq_some_iff.1 hu).1; simp [ints] at this; omega
          have h1 := Hc.out i (by omega)
          rw [add_at, hW.cell (p := ⟨b, i, none⟩) (by have := World.block_lt_of_cell? w _ h1; exact this) (fun f => f)]
          rw [Nat.zero_add] at h1
          rw [h1, ← hu]
          simp [ints, List.getElem?_take_of_lt hi, show i < xs.length by omega]
        have hn2 : ∀ (W : World), Kp (fun _ => False) w W → ∀ i u, (ints (xs.drop (j + 1)))[i]? = some u → W.cell? ((⟨b, j + 1, none⟩ : Addr).add i) = some u := by
          intro W hW i u hu
          have hi : j + 1 + i < xs.length := by have := (List.getElem?_eq_some_iff.1 hu).1; simp [ints] at this; omega
          have h1 := Hc.out (j + 1 + i) hi
          have e1 : (⟨b, j + 1, none⟩ : Addr).add i = ⟨b, j + 1 + i, none⟩ := by unfold Addr.add; split <;> simp_all
          rw [e1, hW.cell (p := ⟨b, j + 1 + i, none⟩) (by have := World.block_lt_of_cell? w _ h1; exact this) (fun f => f)]
          rw [Nat.zero_add] at h1
          rw [h1, ← hu]
          simp [ints, hi]
        have hl5 : (ints (xs.take j)).length = j := by simp [ints]; omega
        have hl6 : (ints (xs.drop (j + 1))).length = xs.length - (j + 1) := by simp [ints]
        have K0 : Kp (fun _ => False) w ((w.alloc (.cells #[] 3)).drew) := ((Kp.refl _ _).alloc _).drew
        have Hn1 := Lib.hid hn1
        have Hn2 := Lib.hid hn2
        have Hl5 := Lib.hid hl5
        have Hl6 := Lib.hid hl6
        have HK0 := Lib.hid K0
        have m1 : 0 + j ≤ maxLen := by unfold maxLen; omega
        have m2 : (0 + j) * 8 ≤ 140737488355328 := by omega
        have m3 : (j : Nat) + (xs.length - (j + 1)) ≤ maxLen := by unfold maxLen; omega
        have m4 : ((j : Nat) + (xs.length - (j + 1))) * 8 ≤ 140737488355328 := by omega
        have j7 : IntKind.i64.wrap ((j : Int) + 1) = (j : Int) + 1 := IntWalk.i64_in _ (by omega)
        have j8 : ((j : Int) + 1).toNat = j + 1 := by omega
        clear hn1 hn2 hl5 hl6 K0
        have hE : giveE l m T a = 0 ∧ takenL (giveT l m T a) l m = xs.take j ++ xs.drop (j + 1) := by
          have hin : a ∈ xs := by rw [← He.out]; simp [hlt2]
          have ht := Hmem.out.1 hin
          refine ⟨giveE_yes ht, ?_⟩
          unfold giveT
          rw [ht, if_pos rfl, Hgv.out, cut_filter xs a j hlt2 He.out Hnd.out]
        have HE := Lib.hid hE.1
        have hL2 : [] ++ ints (xs.take j) ++ ints (xs.drop (j + 1)) = ints (takenL (giveT l m T a) l m) := by rw [hE.2]; simp [ints]
        have HL2 := Lib.hid hL2
        have hLL : 0 + j + (xs.length - (j + 1)) = (takenL (giveT l m T a) l m).length := by rw [hE.2]; simp; omega
        have HLL := Lib.hid hLL
        clear hE hL2 hLL
        obtain ⟨AD, hAD, hADn⟩ : ∃ AD : Addr, (if c = j + 1 then some (⟨b, 0, none⟩ : Addr) else some ⟨b, j + 1, none⟩) = some AD ∧ ∀ (W : World), Kp (fun _ => False) w W → ∀ i u, (ints (xs.drop (j + 1)))[i]? = some u → W.cell? (AD.add i) = some u := by
          by_cases hcj2 : c = j + 1
          · refine ⟨⟨b, 0, none⟩, by rw [if_pos hcj2], fun W _ i u hu => ?_⟩
            rw [List.drop_eq_nil_of_le (by omega)] at hu
            simp [ints] at hu
          · exact ⟨⟨b, j + 1, none⟩, by rw [if_neg hcj2], Hn2.out⟩
        have HAD := Lib.hid hADn
        clear hADn
        go_wp2_with fail
        go_region_law
          (first
            | ((refine step_app (by rfl) (.tmp 39) (.tmp 45) _ (by rfl) w.heap.size 3 i0 _ 1 8 Tryd.underlying45 hi0 hz0 hz1 hz2 rfl (by decide) (.slice (some ⟨w.heap.size, 0, none⟩) 0 0) 0 [] (by rfl) Hown0.out.drew ⟨b, 0, none⟩ j c (ints (xs.take j)) (by rfl) (Hl5.out.trans (Nat.mul_one j).symm) (Hn1.out _ HK0.out) (ints_one _) m1 m2 (by simp) ?_
                intro v1 w1 hown1 hgrow1 hnil1
                have k1 := HK0.out.grown hgrow1 (fun i hi => .inr (Hown0.out.lt i hi).1)
                have c3a := (k1.cell (p := ⟨g, 3, none⟩) hlt.1 (fun f => f)).trans c3
                have hs1 := k1.size
                have Hk1 := Lib.hid k1
                have Hown1 := Lib.hid hown1
                have Hnil1 := Lib.hid hnil1
                clear k1 hown1 hgrow1 hnil1))
            | ((refine step_app (by rfl) (.tmp 46) (.tmp 53) _ (by rfl) w.heap.size 3 i0 _ 1 8 Tryd.underlying45 hi0 hz0 hz1 hz2 rfl (by decide) v1 (0 + j) ([] ++ ints (xs.take j)) (by rfl) Hown1.out AD (xs.length - (j + 1)) (c - (j + 1)) (ints (xs.drop (j + 1))) (by rfl) (Hl6.out.trans (Nat.mul_one _).symm) (HAD.out _ Hk1.out) (ints_one _) (by rw [Nat.zero_add]; exact m3) (by rw [Nat.zero_add]; exact m4) hs1 ?_
                intro v2 w2 hown2 hgrow2 hnil2
                have k2 := Hk1.out.grown hgrow2 (fun i hi => .inr (Hown1.out.lt i hi).1)
                have c3b := (k2.cell (p := ⟨g, 3, none⟩) hlt.1 (fun f => f)).trans c3
                have f3b := (k2.frozen (p := ⟨g, 3, none⟩) hlt.1 (fun f => f)).trans f3
                obtain ⟨g', cap, hv, hbg⟩ := own_form hown2 (fun e => by have := (Hnil1.out.1 (hnil2.1 e).1).1; cases this)
                rw [hv] at hown2 ⊢
                have Hk2 := Lib.hid k2
                have Hown2 := Lib.hid hown2
                clear k2 hown2 hgrow2 hnil2 hv))
            | fail)
        all_goals
          clear j7 j8
          go_wp2_with fail
          go_ret
          have hr := H.out.relay (U := giveT l m T a) Hk2.out HLL.out (by rw [← HL2.out]; exact Hown2.out)
          rw [Nat.zero_add] at hr
          exact ⟨ret_int HE.out.symm, ⟨hr.1.choose, hr.1.choose_spec.1, fun i hi => .inr (hr.1.choose_spec.2 i hi)⟩, hr.2⟩
      · have he2 : (xs.getD j 0 == a) = false := by simpa using he
        have He := Lib.hid he
        clear he
        generalize hqq : xs.getD j 0 = y at hcj he2
        have Hqq := Lib.hid hqq
        clear hqq
        go_wp2_with fail
        go_round
        case rel => exact ⟨j + 1, by go_num, by omega, fun k hk => by
          by_cases hkj : k = j
          · subst hkj; exact He.out
          · exact Hno.out k (by omega)⟩
        case measure => simp [intOf]; omega
    · have hnot : isTaken l m T a = false := by
        rw [Bool.eq_false_iff]
        intro hc
        have := Hmem.out.2 hc
        obtain ⟨k, hk, hka⟩ := List.getElem_of_mem this
        exact Hno.out k (by omega) (by simp [hk, hka])
      have Hnot := Lib.hid hnot
      clear hnot
      go_wp2_with fail
      go_ret
      have hTf : T (a - l).toNat = false := by have := Hnot.out; unfold isTaken at this; rw [hp] at this; simpa using this
      refine ⟨ret_int ?_, ⟨o, ?_, fun j hj => .inl hj⟩, Kp.refl _ _⟩
      · unfold giveE; rw [hp, hTf]; rfl
      · unfold giveT; rw [Hnot.out]; exact H.out
end Go.Proofs.YtconpcnmccmbiaaDoor
