/- The walk of WhyOnce. -/
import Derived.Test.YtconpcnmccmbiaaDoorWn
namespace Go.Proofs.YtconpcnmccmbiaaDoor
open Go.RowKit Go.Proofs.YtconpcnmccmbiaaDoorW.PrintWords

theorem ofE_known {e : Int} (h : e ≠ 0) : knownR (ofE e) = true := by
  unfold ofE PWhyChains.why_Of.f
  rw [if_neg h]
  repeat' split
  all_goals decide
theorem ofE_zero : ofE 0 = 0 := rfl

set_option maxRecDepth 100000 in
set_option maxHeartbeats 8000000 in
theorem once2_walk (e o : Int) (w : World) (hE : Et w) :
    Calls Tryd.prog 10 #[.int .i64 e, .int .i64 o] w fun ev w' => ev = .returned (.bool true) ∧ Kp (fun _ => False) w w' := by
  have HE := Lib.hid hE
  clear hE
  by_cases he : e = 0
  · subst he
    go_enter Tryd.func10, Tryd.ntmps10
    go_wp2_with fail
    refine (alive02 _ HE.out).mono ?_
    rintro ev w1 ⟨rfl, k1⟩
    have K1 := Lib.hid k1
    clear k1
    go_wp2_with fail
    refine (of_any 0 _).mono ?_
    rw [ofE_zero]
    rintro ev w2 ⟨rfl, k2⟩
    have K2 := Lib.hid (K1.out.trans' k2)
    clear k2
    go_wp2_with fail
    go_ret
    exact ⟨rfl, K2.out⟩
  have hk := ofE_known he
  have Hne := Lib.hid he
  have hef : (e == 0) = false := by simpa using he
  have hwn : ((wordB (ofE e)).toList == ([] : List UInt8)) = false := beq_eq_false_iff_ne.2 (wordB_known hk)
  have hwn2 : ((wordB (ofE e)).toList != ([] : List UInt8)) = true := bne_iff_ne.2 (wordB_known hk)
  obtain ⟨q, hq⟩ : ∃ q, (e == o) = q := ⟨_, rfl⟩
  have Hq := Lib.hid hq
  have hr1 : reasonOf [] e = ofE e := rfl
  have hr2 : reasonOf [ofE e] e = ofE e := rfl
  generalize hR : ofE e = R at hk hwn hwn2 hr1 hr2
  have HR := Lib.hid hR
  have Hr1 := Lib.hid hr1
  have Hr2 := Lib.hid hr2
  have Hk := Lib.hid hk
  generalize hW : wordB R = W at hwn hwn2
  have HW := Lib.hid hW
  clear hR hr1 hr2 hk hW he
  go_enter Tryd.func10, Tryd.ntmps10
  go_wp2_with fail
  refine (alive02 _ HE.out).mono ?_
  rintro ev w1 ⟨rfl, k1⟩
  have K1 := Lib.hid k1
  clear k1
  go_wp2_with fail
  refine (of_any e _).mono ?_
  rw [HR.out]
  rintro ev w2 ⟨rfl, k2⟩
  have K2 := Lib.hid (K1.out.trans' k2)
  clear k2
  go_wp2_with fail
  refine (fault_yes R e _ Hne.out Hk.out).mono ?_
  rintro ev w3 ⟨v, rfl, c3, k3⟩
  have K3 := Lib.hid (K2.out.trans' k3)
  have C3 := Lib.hid c3
  have E3 := Lib.hid (HE.out.kept K3.out (fun f => f))
  obtain ⟨t, x, rfl⟩ : ∃ t x, v = .iface t x := by rcases c3.form with ⟨x, rfl⟩ | ⟨x, rfl⟩ <;> exact ⟨_, x, rfl⟩
  clear k3 c3
  go_wp2_with fail
  refine (wreason_any [R] e _ _ E3.out C3.out).mono ?_
  rw [Hr2.out]
  rintro ev w4 ⟨rfl, k4⟩
  have K4 := Lib.hid (K3.out.trans' k4)
  have C4 := Lib.hid (C3.out.none_kept k4)
  have E4 := Lib.hid (HE.out.kept K4.out (fun f => f))
  clear k4
  go_wp2_with fail
  refine (wreason_any [] e _ _ E4.out rfl).mono ?_
  rw [Hr1.out]
  rintro ev w5 ⟨rfl, k5⟩
  have K5 := Lib.hid (K4.out.trans' k5)
  have C5 := Lib.hid (C4.out.none_kept k5)
  have E5 := Lib.hid (HE.out.kept K5.out (fun f => f))
  clear k5
  go_wp2_with fail
  refine (wreason_any [] e _ _ E5.out rfl).mono ?_
  rw [Hr1.out]
  rintro ev w6 ⟨rfl, k6⟩
  have K6 := Lib.hid (K5.out.trans' k6)
  have C6 := Lib.hid (C5.out.none_kept k6)
  clear k6
  go_wp2_with fail
  refine (of_any e _).mono ?_
  rw [HR.out]
  rintro ev w7 ⟨rfl, k7⟩
  have K7 := Lib.hid (K6.out.trans' k7)
  have C7 := Lib.hid (C6.out.none_kept k7)
  have E7 := Lib.hid (HE.out.kept K7.out (fun f => f))
  clear k7
  go_wp2_with fail
  refine (wall_rd [] e _ _ E7.out rfl (by decide)).mono ?_
  rintro ev w8 ⟨A8, c8, rfl, _, k8⟩
  have K8 := Lib.hid (K7.out.trans' k8)
  have C8 := Lib.hid (C7.out.none_kept k8)
  have E8 := Lib.hid (HE.out.kept K8.out (fun f => f))
  clear k8
  go_wp2_with fail
  refine (wall_rd [R] e _ _ E8.out C8.out (by simp)).mono ?_
  rintro ev w9 ⟨A9, c9, rfl, r9, k9⟩
  have K9 := Lib.hid (K8.out.trans' k9)
  have C9 := Lib.hid (C8.out.none_kept k9)
  have R9 := Lib.hid r9
  clear k9 r9
  go_wp2_with fail
  refine (of_any e _).mono ?_
  rw [HR.out]
  rintro ev w10 ⟨rfl, k10⟩
  have kB := (Kp.refl (fun _ => False) w10).alloc (.cells #[.int .i64 R] 3)
  have C10 := Lib.hid ((C9.out.none_kept k10).none_kept kB)
  have R10 := Lib.hid ((R9.out.kp k10 (fun _ _ _ f => f)).kp kB (fun _ _ _ f => f))
  have R11 := Lib.hid (RdI.new w10 .i64 3 [R] (by simp))
  have K10 := Lib.hid ((K9.out.trans' k10).trans' kB)
  clear k10 kB
  go_wp2_with fail
  refine (sameInts_id _ _ _ _ [R] _ (by exact R10.out) (by exact R11.out)).mono ?_
  rintro ev w11 ⟨rfl, k11⟩
  have K11 := Lib.hid (K10.out.trans' k11)
  have C11 := Lib.hid (C10.out.none_kept k11)
  clear k11
  go_wp2_with fail
  refine (whyIs_k [R] e o _ _ C11.out).mono ?_
  rw [Hq.out]
  rintro ev w12 ⟨rfl, k12⟩
  have K12 := Lib.hid (K11.out.trans' k12)
  have C12 := Lib.hid (C11.out.none_kept k12)
  clear k12
  go_wp2_with fail
  refine (whyIs_k [] e o _ _ rfl).mono ?_
  rw [Hq.out]
  rintro ev w13 ⟨rfl, k13⟩
  have K13 := Lib.hid (K12.out.trans' k13)
  have C13 := Lib.hid (C12.out.none_kept k13)
  have E13 := Lib.hid (HE.out.kept K13.out (fun f => f))
  clear k13
  go_wp2_with fail
  refine (errno_any [R] e _ _ E13.out C13.out).mono ?_
  rintro ev w14 ⟨rfl, k14⟩
  have K14 := Lib.hid (K13.out.trans' k14)
  clear k14
  go_wp2_with fail
  refine (of_any e _).mono ?_
  rw [HR.out]
  rintro ev w15 ⟨rfl, k15⟩
  have K15 := Lib.hid (K14.out.trans' k15)
  clear k15
  go_wp2_with fail
  refine (word_any R _).mono ?_
  rw [HW.out]
  rintro ev w16 ⟨rfl, k16⟩
  have K16 := Lib.hid (K15.out.trans' k16)
  clear k16
  go_wp2_with fail
  go_ret
  exact ⟨ret_bool (by simp), K16.out⟩
end Go.Proofs.YtconpcnmccmbiaaDoor
