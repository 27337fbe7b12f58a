/- The walk of PortsCalls. -/
import Derived.Test.YtconpcnmccmbiaaDoorQi
import Derived.Test.YtconpcnmccmbiaaDoorQj
namespace Go.Proofs.YtconpcnmccmbiaaDoor
open Go.RowKit

theorem kp_fresh {w0 w w' : World} {g1 gw g : Nat} (h : Kp (fun _ => False) w0 w) (hk : Kp (S3 g1 gw g) w w') (h1 : w0.heap.size ≤ g1) (h2 : w0.heap.size ≤ gw) (h3 : w0.heap.size ≤ g) : Kp (fun _ => False) w0 w' :=
  h.trans hk (fun k hk => by rintro (h | h | h) <;> omega)
theorem rd_cells {w : World} {b o : Nat} {xs : List (Int × Int)} (h : RdP w (some ⟨b, o, none⟩) xs) {j : Nat} (hj : j < xs.length) : w.cell? ⟨b, o + j * 2, none⟩ = some (.int .i64 (xs.getD j (0, 0)).1) ∧ w.cell? ⟨b, o + j * 2 + 1, none⟩ = some (.int .i64 (xs.getD j (0, 0)).2) := by
  rcases h.2 with h | ⟨b', o', hA, h⟩
  · omega
  · cases hA
    exact h j hj

set_option maxRecDepth 100000 in
set_option maxHeartbeats 8000000 in
theorem calls_walk (a b : Int) (A : Option Addr) (c : Nat) (xs : List (Int × Int)) (x y : Int) (w : World) (hT : Tab w) (ha : -9223372036854775808 ≤ a ∧ a ≤ 9223372036854775807) (hb : -9223372036854775808 ≤ b ∧ b ≤ 9223372036854775807) (hx : RdP w A xs)
    (hbd : ∀ j, -9223372036854775808 ≤ (xs.getD j (0, 0)).2 ∧ (xs.getD j (0, 0)).2 ≤ 9223372036854775807) (hy : -9223372036854775808 ≤ y ∧ y ≤ 9223372036854775807) :
    Calls Tryd.prog 3 #[.int .i64 a, .int .i64 b, .slice A xs.length c, .agg #[.int .i64 x, .int .i64 y]] w fun e w' => e = .returned (.bool true) ∧ Kp (fun _ => False) w w' := by
  have hlt := hT.lt
  have Hb := Lib.hid hbd
  have hxl := hx.1
  have hk0 := (Kp.refl (fun _ => False) w).alloc (.cells #[.int .i64 x, .int .i64 y] 24)
  have HT := Lib.hid (hT.kept hk0 (fun f => f))
  have Hx := Lib.hid (hx.kp hk0 (fun _ _ _ f => f))
  have hb0 := Bk.new w 24 #[.int .i64 x, .int .i64 y]
  have Hb0 := Lib.hid hb0
  have Hk0 := Lib.hid hk0
  have hb0l := hb0.lt
  generalize hW : w.alloc (.cells #[.int .i64 x, .int .i64 y] 24) = W at HT Hx Hb0 Hk0 hb0l
  have HW := Lib.hid hW
  have hsz := Hk0.out.size
  clear hT hbd hx hk0 hb0 hW
  by_cases hl3 : (100 : Int) < (xs.length : Int)
  · go_enter Tryd.func3, Tryd.ntmps3
    go_wp2_with fail
    rw [HW.out]
    refine (alive18 _ HT.out).mono ?_
    rintro e w1 ⟨rfl, k1⟩
    go_wp2_with fail
    go_ret
    exact ⟨rfl, Hk0.out.trans k1 (fun _ _ f => f)⟩
  by_cases hbad : BadEnds a b
  · go_enter Tryd.func3, Tryd.ntmps3
    go_wp2_with fail
    rw [HW.out]
    refine (alive18 _ HT.out).mono ?_
    rintro e w1 ⟨rfl, k1⟩
    go_wp2_with fail
    refine (new_bad a b _ hbad).mono ?_
    rintro e w2 ⟨rfl, rfl⟩
    go_wp2_with fail
    refine (rnew_bad a b _ hbad).mono ?_
    rintro e w2 ⟨rfl, rfl⟩
    go_wp2_with fail
    go_ret
    exact ⟨rfl, Hk0.out.trans k1 (fun _ _ f => f)⟩
  obtain ⟨g1, g2, g3⟩ := BadEnds.no hbad
  obtain ⟨l, rfl⟩ := Int.eq_ofNat_of_zero_le (show 0 ≤ a by omega)
  obtain ⟨m, hm⟩ : ∃ m : Nat, b - l + 1 = m := ⟨(b - l + 1).toNat, by omega⟩
  have hm1 : 1 ≤ m := by omega
  have hm2 : l + m ≤ 65536 := by omega
  have hl1 : 1 ≤ l := by omega
  have hbm : b < (l : Int) + m := by omega
  have hbm2 : (l : Int) + m ≤ b + 1 := by omega
  clear hbad hm
  go_enter Tryd.func3, Tryd.ntmps3
  go_wp2_with fail
  rw [HW.out]
  refine (alive18 _ HT.out).mono ?_
  rintro e w1 ⟨rfl, k1⟩
  go_wp2_with fail
  refine (new_ok b l m _ hl1 hm1 hm2 (by omega) (HT.out.kept k1 (fun f => f))).mono ?_
  rintro e w2 ⟨g, gw, rfl, r2, q1, q2, k2⟩
  have hs1 := k1.size
  have hs2 := k2.size
  have hs12 := (HT.out.kept k1 (fun f => f)).lt
  have z2 := r2.lt
  have K2 := k1.trans k2 (fun _ _ f => f)
  have Hr2 := Lib.hid r2
  clear k1 k2 r2
  go_wp2_with fail
  refine (rnew_ok b l m _ hl1 hm1 hm2 (by omega) (by omega)).mono ?_
  rintro e w3 ⟨gr, rfl, r3, q3, k3⟩
  have hs3 := k3.size
  have p3 : Pr w3 g gw gr l m 0 (fun _ => false) 0 (fun _ => false) := ⟨Hr2.out.kept k3 (fun f => f) (fun f => f) (fun f => f), _, r3⟩
  have K3 := K2.trans k3 (fun _ _ f => f)
  have Hp3 := Lib.hid p3
  have HK3 := Lib.hid K3
  have d1 : W.heap.size ≤ g := by omega
  have d2 : W.heap.size ≤ gw := by omega
  have d3 : W.heap.size ≤ gr := by omega
  clear k3 K2 K3 p3 r3 Hr2
  go_wp2_with fail
  go_loopw [13] (fun v wr => ∃ (i mk : Nat) (T : Nat → Bool), v = .int .i64 i ∧ i ≤ xs.length ∧ Pr wr g gw gr l m mk T mk T ∧ Kp (fun _ => False) W wr) (fun v _ => xs.length - (intOf v).toNat)
  case atStart => exact ⟨0, 0, fun _ => false, rfl, by omega, Hp3.out, HK3.out⟩
  case round =>
    obtain ⟨i, mk, T, rfl, hi, hp, hk⟩ := hrel
    have Hp := Lib.hid hp
    have Hk := Lib.hid hk
    have hsr := hk.size
    clear hp hk
    by_cases hlt2 : i < xs.length
    · have hyy := Hb.out i
      have hrd := Hx.out.kp Hk.out (fun _ _ _ f => f)
      obtain ⟨cb, co, rfl⟩ : ∃ b o, A = some ⟨b, o, none⟩ := by
        rcases hrd.2 with h | ⟨b, o, h, _⟩
        · omega
        · exact ⟨b, o, h⟩
      obtain ⟨e1, e2⟩ := rd_cells hrd hlt2
      obtain ⟨f1, f2⟩ : (xs.getD i (0, 0)).1 = (xs.getD i (0, 0)).1 ∧ True := ⟨rfl, trivial⟩
      generalize hu : (xs.getD i (0, 0)).1 = u at e1
      generalize hv : (xs.getD i (0, 0)).2 = v at e2 hyy
      have Hu := Lib.hid hu
      have Hv := Lib.hid hv
      clear hrd f1 f2 hu hv
      go_wp2_with fail
      go_region_held3 (fun w' => w'.cell? ⟨cb, co + i * 2, none⟩ = some (.int .i64 u) ∧ w'.cell? ⟨cb, co + i * 2 + 1, none⟩ = some (.int .i64 v))
        (first | go_keep | fail)
        (first
          | (go_at_call 18
             refine (do_any g gw gr l m mk T u v _ (by exact Hp.out) hyy.1 hyy.2).mono ?_
             rintro e w4 ⟨rfl, ⟨mk4, T4, p4⟩, k4⟩
             have k4 := Kp.undrewN (n := 1) k4
             have K4 := kp_fresh Hk.out k4 d1 d2 d3
             obtain ⟨e41, e42⟩ := rd_cells (Hx.out.kp K4 (fun _ _ _ f => f)) hlt2
             rw [Hu.out] at e41
             rw [Hv.out] at e42
             have Hp4 := Lib.hid p4
             have HK4 := Lib.hid K4
             clear p4 k4 K4)
          | (go_at_call 19
             refine (agree_any g gw gr l m mk4 T4 _ (by exact Hp4.out)).mono ?_
             rintro e w5 ⟨rfl, k5⟩
             have K5 := HK4.out.trans k5 (fun _ _ f => f)
             obtain ⟨e51, e52⟩ := rd_cells (Hx.out.kp K5 (fun _ _ _ f => f)) hlt2
             rw [Hu.out] at e51
             rw [Hv.out] at e52
             have p5 := Hp4.out.kept k5 (fun _ _ f => f)
             obtain ⟨o5, r5⟩ := p5.2
             have Hp5 := Lib.hid p5
             have Hr5 := Lib.hid r5
             have HK5 := Lib.hid K5
             clear p5 k5 K5 r5)
          | (go_at_call 20
             refine (taken_pub g gw l m mk4 T4 v _ (by exact Hp5.out.1) hyy.1 hyy.2).mono ?_
             rintro e w6 ⟨rfl, n6, rfl⟩)
          | (go_at_call 21
             refine (rhas_any gr l m mk4 o5 T4 v _ (by exact Hr5.out)).mono ?_
             rintro e w6 ⟨rfl, rfl⟩)
          | fail)
      all_goals
        go_wp2_with fail
        go_roundw
        case rel => exact ⟨i + 1, mk4, T4, by go_num, by omega, Hp5.out.drewN _, HK5.out.drewN _⟩
        case measure => simp [intOf]; omega
    · go_wp2_with fail
      refine (clone_any g gw l m mk T _ Hp.out.1).mono ?_
      rintro e w4 ⟨g2, gw2, rfl, r4, s1, s2, k4⟩
      have hs4 := k4.size
      have hb4 := (Hb0.out.kept Hk.out (fun f => f)).kept k4 (fun f => f)
      have c40 := hb4.cell 0
      have c41 := hb4.cell 1
      have p4 := Hp.out.kept k4 (fun _ _ f => f)
      obtain ⟨o4, rr4⟩ := p4.2
      have Hb4 := Lib.hid hb4
      have Hr4 := Lib.hid r4
      have Hrr4 := Lib.hid rr4
      have Hk4 := Lib.hid k4
      clear r4 k4 hb4 p4 rr4
      go_wp2_with fail
      go_region_held3 (fun w' => w'.cell? ⟨w.heap.size, 0, none⟩ = some (.int .i64 x) ∧ w'.cell? ⟨w.heap.size, 1, none⟩ = some (.int .i64 y))
        (first | go_keep | fail)
        (first
          | (go_at_call 23
             refine (rcopy_any gr l m mk o4 T _ (by exact Hrr4.out)).mono ?_
             rintro e w5 ⟨g3, rfl, ⟨o5, r5, _⟩, s3, k5⟩
             have k5 := Kp.undrewN (n := 1) k5
             have s3 : w4.heap.size ≤ g3 := s3
             have s33 : wr.heap.size ≤ g3 := by omega
             have hb5 := Hb4.out.kept k5 (fun f => f)
             have c50 := hb5.cell 0
             have c51 := hb5.cell 1
             have p5 : Pr w5 g2 gw2 g3 l m mk T mk T := ⟨Hr4.out.kept k5 (fun f => f) (fun f => f) (fun f => f), o5, r5⟩
             have Hp5 := Lib.hid p5
             have Hb5 := Lib.hid hb5
             have Hk5 := Lib.hid (Hk4.out.trans k5 (fun _ _ f => f))
             clear k5 hb5 p5 r5)
          | (go_at_call 18
             refine (do_any g2 gw2 g3 l m mk T x y _ (by exact Hp5.out) hy.1 hy.2).mono ?_
             rintro e w6 ⟨rfl, _, k6⟩
             have K6 := kp_fresh Hk5.out k6 s1 s2 s33
             have p6 := Hp.out.kept K6 (fun _ _ f => f)
             have hb6 := (Hb0.out.kept Hk.out (fun f => f)).kept K6 (fun f => f)
             have c60 := hb6.cell 0
             have c61 := hb6.cell 1
             have Hp6 := Lib.hid p6
             have Hk6 := Lib.hid K6
             clear k6 K6 p6 hb6)
          | (go_at_call 19
             refine (agree_any g gw gr l m mk T _ (by exact Hp6.out)).mono ?_
             rintro e w7 ⟨rfl, k7⟩
             have Hk7 := Lib.hid (Hk6.out.trans k7 (fun _ _ f => f))
             have hb7 := (Hb0.out.kept Hk.out (fun f => f)).kept Hk7.out (fun f => f)
             have c70 := hb7.cell 0
             have c71 := hb7.cell 1
             clear k7)
          | fail)
      all_goals
        go_wp2_with fail
        go_ret
        exact ⟨ret_bool (by simp), Hk0.out.trans (Hk.out.trans Hk7.out (fun _ _ f => f)) (fun _ _ f => f)⟩
end Go.Proofs.YtconpcnmccmbiaaDoor
