/- The walk of WhyChains. -/
import Derived.Test.YtconpcnmccmbiaaDoorWm
namespace Go.Proofs.YtconpcnmccmbiaaDoor
open Go.RowKit Go.Proofs.YtconpcnmccmbiaaDoorW.PrintWords

theorem asNil (t : Value) (w : World) : Calls Tryd.prog 67 #[.nilIface, t] w fun ev w' => ev = .returned (.bool false) ∧ w = w' := by
  go_enter Tryd.func67, Tryd.ntmps67
  go_wp2_with fail
  go_ret
  exact ⟨rfl, rfl⟩
theorem wall_nil (w : World) : Calls Tryd.prog 33 #[.nilIface] w fun ev w' => ev = .returned (.slice none 0 0) ∧ Kp (fun _ => False) w w' := by
  have kA := (Kp.refl (fun _ => False) w).alloc (.cells #[.pointer none] 109)
  have HK := Lib.hid kA
  clear kA
  go_enter Tryd.func33, Tryd.ntmps33
  go_wp2_with fail
  refine wp_loop_rounds 1 ?_
  rw [rounds_succ]
  go_wp2_with fail
  refine (asNil _ _).mono ?_
  rintro ev w1 ⟨rfl, rfl⟩
  go_wp2_with fail
  go_ret
  exact ⟨rfl, HK.out⟩
theorem wreason_nil (w : World) : Calls Tryd.prog 35 #[.nilIface] w fun ev w' => ev = .returned (.int .i64 0) ∧ Kp (fun _ => False) w w' := by
  have kA := (Kp.refl (fun _ => False) w).alloc (.cells #[.pointer none] 109)
  have HK := Lib.hid kA
  clear kA
  go_enter Tryd.func35, Tryd.ntmps35
  go_wp2_with fail
  refine (asNil _ _).mono ?_
  rintro ev w1 ⟨rfl, rfl⟩
  go_wp2_with fail
  refine (errno_nil _).mono ?_
  rintro ev w2 ⟨rfl, rfl⟩
  go_wp2_with fail
  refine (of_any 0 _).mono ?_
  rintro ev w3 ⟨rfl, k3⟩
  have K3 := Lib.hid (HK.out.trans' k3)
  clear k3
  go_wp2_with fail
  go_ret
  exact ⟨rfl, K3.out⟩

set_option maxRecDepth 100000 in
set_option maxHeartbeats 8000000 in
theorem chains_walk (e o : Int) (A : Option Addr) (c : Nat) (rs : List Int) (bare : Bool) (w : World) (hE : Et w) (hx : RdI w .i64 A rs) :
    Calls Tryd.prog 7 #[.int .i64 e, .int .i64 o, .slice A rs.length c, .bool bare] w fun ev w' => ev = .returned (.bool true) ∧ Kp (fun _ => False) w w' := by
  have HE := Lib.hid hE
  have Hx := Lib.hid hx
  have hxl := hx.1
  clear hE hx
  by_cases hl : (50 : Int) < (rs.length : Int)
  · go_enter Tryd.func7, Tryd.ntmps7
    go_wp2_with fail
    refine (alive02 _ HE.out).mono ?_
    rintro ev w1 ⟨rfl, k1⟩
    go_wp2_with fail
    go_ret
    exact ⟨rfl, k1⟩
  go_enter Tryd.func7, Tryd.ntmps7
  go_wp2_with fail
  refine (alive02 _ HE.out).mono ?_
  rintro ev w1 ⟨rfl, k1⟩
  have K1 := Lib.hid k1
  have Hx1 := Lib.hid (Hx.out.kp k1 (fun _ _ _ f => f))
  clear k1
  go_wp2_with fail
  refine (chain_any e A c rs bare _ Hx1.out (by omega)).mono ?_
  rintro ev w2 ⟨v, u, l, f, rfl, hal, k2⟩
  obtain ⟨hR, hll, hcase⟩ := hal
  have kB := (Kp.refl (fun _ => False) w2).alloc (.cells #[u, .int .i64 f] 52)
  have hb := Bk.new w2 52 #[u, .int .i64 f]
  obtain ⟨Au, cu, rfl, hcu, hC, hrd⟩ := hR.read
  have c0 := hb.cell 0
  have c1 := hb.cell 1
  have Hb := Lib.hid hb
  have K2 := Lib.hid ((K1.out.trans' k2).trans' kB)
  have HR := Lib.hid (hrd.kp kB (fun _ _ _ f => f))
  have HCr := Lib.hid (Kd.C_below hC kB.below)
  clear hR hb k2 hC hrd
  rcases hcase with ⟨rfl, rfl, rfl⟩ | ⟨hne, hch⟩
  · clear kB
    go_wp2_with fail
    go_region_held3 (fun w' => w'.cell? ⟨w2.heap.size, 0, none⟩ = some (.slice Au 0 cu) ∧ w'.cell? ⟨w2.heap.size, 1, none⟩ = some (.int .i64 0))
      (first | go_keep | fail)
      (first
        | (go_at_call 31
           refine (errno_nil _).mono ?_
           rintro ev w3 ⟨rfl, rfl⟩)
        | (go_at_call 33
           refine (wall_nil _).mono ?_
           rintro ev w4 ⟨rfl, k4⟩
           have k4 := Kp.undrewN (n := 1) k4
           have c04 := (Hb.out.kept k4 (fun f => f)).cell 0
           have c14 := (Hb.out.kept k4 (fun f => f)).cell 1
           have HR4 := Lib.hid (HR.out.kp k4 (fun _ _ _ f => f))
           have HK4 := Lib.hid k4
           clear k4)
        | (go_at_call 32
           refine (sameInts_id none Au 0 cu [] _ (by exact ⟨by decide, .inl rfl⟩) (by exact HR4.out)).mono ?_
           rintro ev w5 ⟨rfl, k5⟩
           have c05 := (Hb.out.kept (HK4.out.trans' k5) (fun f => f)).cell 0
           have c15 := (Hb.out.kept (HK4.out.trans' k5) (fun f => f)).cell 1
           have HK5 := Lib.hid (HK4.out.trans' k5)
           clear k5)
        | fail)
    all_goals
      go_wp2_with fail
      refine (whyIs_nil o _).mono ?_
      rintro ev w6 ⟨rfl, n6, rfl⟩
      go_wp2_with fail
      refine (wreason_nil _).mono ?_
      rintro ev w7 ⟨rfl, k7⟩
      have K7 := Lib.hid ((K2.out.trans' HK5.out).trans' (Kp.undrewN k7))
      clear k7
      go_wp2_with fail
      go_ret
      exact ⟨rfl, K7.out⟩
  · have hlen : l.length ≤ 1000 := by omega
    have hf : (f == 0) = false := by simpa using hne
    obtain ⟨q, hq⟩ : ∃ q, (f == o) = q := ⟨_, rfl⟩
    have hq2 : (o == f) = q := by
      rw [← hq]
      by_cases h : f = o
      · subst h; rfl
      · rw [beq_eq_false_iff_ne.2 h, beq_eq_false_iff_ne.2 (fun h' => h h'.symm)]
    have Hq := Lib.hid hq
    have hv := hch.form
    have HC := Lib.hid (hch.none_kept kB)
    have HE2 := Lib.hid (HE.out.kept K2.out (fun f => f))
    clear hq hch kB
    rcases hv with ⟨y, rfl⟩ | ⟨y, rfl⟩
    all_goals
      go_wp2_with fail
      go_region_held3 (fun w' => w'.cell? ⟨w2.heap.size, 0, none⟩ = some (.slice Au l.length cu) ∧ w'.cell? ⟨w2.heap.size, 1, none⟩ = some (.int .i64 f))
        (first | go_keep | fail)
        (first
          | (go_at_call 31
             refine (errno_any l f _ _ (by exact HE2.out) (by exact HC.out.none_kept ((Kp.refl _ _).drew))).mono ?_
             rintro ev w3 ⟨rfl, k3⟩
             have k3 := Kp.undrewN (n := 1) k3
             have c03 := (Hb.out.kept k3 (fun f => f)).cell 0
             have c13 := (Hb.out.kept k3 (fun f => f)).cell 1
             have HK3 := Lib.hid k3
             have HE3 := Lib.hid (HE2.out.kept k3 (fun f => f))
             have HC3 := Lib.hid (HC.out.none_kept k3)
             clear k3)
          | (go_at_call 33
             refine (wall_rd l f _ _ (by exact HE3.out) (by exact HC3.out) hlen).mono ?_
             rintro ev w4 ⟨A4, c4, rfl, r4, k4⟩
             have k4 := HK3.out.trans' k4
             have c04 := (Hb.out.kept k4 (fun f => f)).cell 0
             have c14 := (Hb.out.kept k4 (fun f => f)).cell 1
             have HR4 := Lib.hid (HR.out.kp k4 (fun _ _ _ f => f))
             have HRa := Lib.hid r4
             have HK4 := Lib.hid k4
             clear k4 r4)
          | (go_at_call 32
             refine (sameInts_id A4 Au c4 cu l _ (by exact HRa.out) (by exact HR4.out)).mono ?_
             rintro ev w5 ⟨rfl, k5⟩
             have k5 := HK4.out.trans' k5
             have c05 := (Hb.out.kept k5 (fun f => f)).cell 0
             have c15 := (Hb.out.kept k5 (fun f => f)).cell 1
             have HK5 := Lib.hid k5
             have HE5 := Lib.hid (HE2.out.kept k5 (fun f => f))
             have HC5 := Lib.hid (HC.out.none_kept k5)
             have HCr5 := Lib.hid (Kd.C_below HCr.out k5.below)
             clear k5)
          | fail)
      go_wp2_with fail
      generalize hR : reasonOf l f = R
      have HRR := Lib.hid hR
      clear hR
      go_region_held3 (fun w' => w'.cell? ⟨w2.heap.size, 0, none⟩ = some (.slice Au l.length cu) ∧ w'.cell? ⟨w2.heap.size, 1, none⟩ = some (.int .i64 f))
        (first | go_keep | fail)
        (first
          | (go_at_call 35
             refine (wreason_any l f _ _ (by exact HE5.out) (by exact HC5.out.none_kept ((Kp.refl _ _).drew))).mono ?_
             rw [HRR.out]
             rintro ev w6 ⟨rfl, k6⟩
             have k6 := HK5.out.trans' (Kp.undrewN (n := 1) k6)
             have c06 := (Hb.out.kept k6 (fun f => f)).cell 0
             have c16 := (Hb.out.kept k6 (fun f => f)).cell 1
             have HK6 := Lib.hid k6
             have HC6 := Lib.hid (HC.out.none_kept k6)
             have HCr6 := Lib.hid (Kd.C_below HCr.out k6.below)
             clear k6)
          | (go_at_call 36
             refine (freason_any Au cu l f _ (by exact HCr6.out) (by exact hcu)).mono ?_
             rw [HRR.out]
             rintro ev w7 ⟨rfl, k7⟩
             have k7 := HK6.out.trans' k7
             have c07 := (Hb.out.kept k7 (fun f => f)).cell 0
             have c17 := (Hb.out.kept k7 (fun f => f)).cell 1
             have HK7 := Lib.hid k7
             have HC7 := Lib.hid (HC.out.none_kept k7)
             clear k7)
          | (go_at_call 34
             refine (whyIs_k l f o _ _ (by exact HC7.out)).mono ?_
             rw [Hq.out]
             rintro ev w8 ⟨rfl, k8⟩
             have k8 := HK7.out.trans' k8
             have c08 := (Hb.out.kept k8 (fun f => f)).cell 0
             have c18 := (Hb.out.kept k8 (fun f => f)).cell 1
             have HK8 := Lib.hid k8
             clear k8)
          | fail)
      all_goals
        go_wp2_with fail
        go_ret
        exact ⟨ret_bool (by simp), K2.out.trans' HK8.out⟩
end Go.Proofs.YtconpcnmccmbiaaDoor
