/- Ether: the walk of EtherCuts. -/
import Derived.Test.YtconpcnmccmbiaaDoorFb
namespace Go.Proofs.YtconpcnmccmbiaaDoor
open Go.RowKit

theorem eparse_short1 (A : Option Addr) (c n : Nat) (w : World) (h : n < 14) :
    Calls Tryd.prog 47 #[.slice A n c] w fun ev w' => ∃ v, ev = .returned (.tuple #[.agg #[.int .u8 0, .int .u8 0, .int .u8 0, .int .u8 0, .int .u8 0, .int .u8 0, .int .u8 0, .int .u8 0, .int .u8 0, .int .u8 0, .int .u8 0, .int .u8 0, .int .u16 0, .slice none 0 0], v]) ∧ Chain w' 12 [1] v ∧ Kp (fun _ => False) w w' := eparse_short A c n w h
theorem eparse_even1 (g cut c : Nat) (t f : Nat → Int) (k : Nat) (ys : List Int) (w : World) (hr : RdI w .u8 (some ⟨g, 0, none⟩) (fbytes t f k ys)) (ht : Oct t) (hf : Oct f) (hk : k < 65536) (hy : Byt ys) (h1 : 14 ≤ cut) (h2 : cut ≤ 14 + ys.length) (h3 : ys.length ≤ 1500) (h4 : cut ≤ c) (he : (f 0 % 2 != 0) = false) :
    Calls Tryd.prog 47 #[.slice (some ⟨g, 0, none⟩) cut c] w fun ev w' => ∃ A d, ev = .returned (.tuple #[.agg #[.int .u8 (t 0), .int .u8 (t 1), .int .u8 (t 2), .int .u8 (t 3), .int .u8 (t 4), .int .u8 (t 5), .int .u8 (f 0), .int .u8 (f 1), .int .u8 (f 2), .int .u8 (f 3), .int .u8 (f 4), .int .u8 (f 5), .int .u16 k, .slice A (cut - 14) d], .nilIface]) ∧ w'.ownsRow w.heap.size 5 1 (.slice A (cut - 14) d) (cut - 14) (intsK .u8 (ys.take (cut - 14))) ∧ Kp (fun _ => False) w w' := eparse_even g cut c t f k ys w hr ht hf hk hy h1 h2 h3 h4 he

set_option maxRecDepth 100000 in
set_option maxHeartbeats 20000000 in
theorem cuts_walk (t f : Nat → Int) (k : Nat) (A : Option Addr) (c : Nat) (ys : List Int) (cut : Int) (w : World) (hE : Et w) (ht : Oct t) (hf : Oct f) (hk : k < 65536) (hy : RdI w .u8 A ys) (by' : Byt ys) (h0 : A = none → c = 0) (hyc : ys.length ≤ c) :
    Calls Tryd.prog 14 #[.agg (frm t f k (.slice A ys.length c)), .int .i64 cut] w fun ev w' => ev = .returned (.bool true) ∧ Kp (fun _ => False) w w' := by
  obtain ⟨n, hn⟩ : ∃ n, ys.length = n := ⟨_, rfl⟩
  rw [hn] at hyc ⊢
  have kA := (Kp.refl (fun _ => False) w).alloc (.cells (frm t f k (.slice A n c)) 77)
  have HB0 := Lib.hid (Bk.new w 77 (frm t f k (.slice A n c)))
  have HK := Lib.hid kA
  have HE := Lib.hid (hE.kept kA (fun x => x))
  have HY := Lib.hid (hy.kp kA (fun _ _ _ x => x))
  have HT := Lib.hid ht
  have HF := Lib.hid hf
  have HBY := Lib.hid by'
  have HN := Lib.hid hn
  have H0 := Lib.hid h0
  clear kA hE hy ht hf by' hn h0
  go_enter Tryd.func14, Tryd.ntmps14
  go_wp2_with fail
  refine (alive05 _ HE.out).mono ?_
  rintro ev w1 ⟨rfl, k1⟩
  have b1 := HB0.out.kept k1 (fun x => x)
  have x0 : _ = some (Value.int IntKind.u8 (t 0)) := b1.cell 0
  have x1 : _ = some (Value.int IntKind.u8 (t 1)) := b1.cell 1
  have x2 : _ = some (Value.int IntKind.u8 (t 2)) := b1.cell 2
  have x3 : _ = some (Value.int IntKind.u8 (t 3)) := b1.cell 3
  have x4 : _ = some (Value.int IntKind.u8 (t 4)) := b1.cell 4
  have x5 : _ = some (Value.int IntKind.u8 (t 5)) := b1.cell 5
  have x6 : _ = some (Value.int IntKind.u8 (f 0)) := b1.cell 6
  have x7 : _ = some (Value.int IntKind.u8 (f 1)) := b1.cell 7
  have x8 : _ = some (Value.int IntKind.u8 (f 2)) := b1.cell 8
  have x9 : _ = some (Value.int IntKind.u8 (f 3)) := b1.cell 9
  have x10 : _ = some (Value.int IntKind.u8 (f 4)) := b1.cell 10
  have x11 : _ = some (Value.int IntKind.u8 (f 5)) := b1.cell 11
  have x12 : _ = some (Value.int IntKind.u16 k) := b1.cell 12
  have x13 : _ = some (Value.slice A n c) := b1.cell 13
  have B1 := Lib.hid b1
  have K1 := Lib.hid (HK.out.trans' k1)
  have Y1 := Lib.hid (HY.out.kp k1 (fun _ _ _ x => x))
  clear b1 k1
  go_wp2_with fail
  clear x0 x1 x2 x3 x4 x5 x6 x7 x8 x9 x10 x11 x12 x13
  by_cases hlong : 1500 < n
  · refine (ebytes_long t f k A n c _ hlong).mono ?_
    rintro ev w2 ⟨v2, rfl, c2, k2⟩
    have hv2 := c2.form
    rcases hv2 with ⟨x2, rfl⟩ | ⟨x2, rfl⟩
    · exact absurd c2 (by rintro ⟨g, v', h, _⟩; cases h)
    have K2 := Lib.hid (K1.out.trans' k2)
    clear c2 k2
    go_wp2_with fail
    go_ret
    exact ⟨rfl, K2.out⟩
  refine (ebytes_mid t f k A n c ys _ (by omega) hk Y1.out HN.out.symm H0.out).mono ?_
  rintro ev w2 ⟨s2, rfl, own2, k2⟩
  obtain ⟨g, d, rfl, hgd, hdm, hgb⟩ := own_form own2 (by omega)
  have rd2 : RdI w2 .u8 (some ⟨g, 0, none⟩) (fbytes t f k ys) := by
    obtain ⟨A', c', e, _, h, _⟩ := RdI.of_own (k := .u8) (xs := fbytes t f k ys) own2
    cases e
    exact h
  have b2 := B1.out.kept k2 (fun x => x)
  have x6 : _ = some (Value.int IntKind.u8 (f 0)) := b2.cell 6
  have B2 := Lib.hid b2
  have K2 := Lib.hid (K1.out.trans' k2)
  have Y2 := Lib.hid (Y1.out.kp k2 (fun _ _ _ x => x))
  have R2 := Lib.hid rd2
  clear b2 k2 own2 rd2 hgb
  have hf0 := HF.out 0
  by_cases hneg : cut < 0
  · go_wp2_with fail
    go_ret
    exact ⟨rfl, K2.out⟩
  obtain ⟨m, rfl⟩ : ∃ m : Nat, cut = m := ⟨cut.toNat, by omega⟩
  by_cases hbig : ((14 + n : Nat) : Int) < (m : Int)
  · go_wp2_with fail
    go_ret
    exact ⟨rfl, K2.out⟩
  by_cases hodd : f 0 % 2 = 1
  · have hodb : (f 0 % 2 == 1) = true := by simp [hodd]
    go_wp2_with fail
    go_ret
    exact ⟨rfl, K2.out⟩
  have hodb : (f 0 % 2 == 1) = false := by simp [hodd]
  have hev : (f 0 % 2 != 0) = false := by have : f 0 % 2 = 0 := by omega
                                          simp [this]
  have HEV := Lib.hid hev
  clear hev
  by_cases hm14 : m < 14
  · go_wp2_with fail
    refine (eparse_short1 _ d m _ hm14).mono ?_
    rintro ev w3 ⟨v3, rfl, c3, k3⟩
    have kB := (Kp.refl (fun _ => False) w3).alloc (.cells #[.int .u8 0, .int .u8 0, .int .u8 0, .int .u8 0, .int .u8 0, .int .u8 0, .int .u8 0, .int .u8 0, .int .u8 0, .int .u8 0, .int .u8 0, .int .u8 0, .int .u16 0, .slice none 0 0] 77)
    have HZ := Lib.hid (Bk.new w3 77 #[.int .u8 0, .int .u8 0, .int .u8 0, .int .u8 0, .int .u8 0, .int .u8 0, .int .u8 0, .int .u8 0, .int .u8 0, .int .u8 0, .int .u8 0, .int .u8 0, .int .u16 0, .slice none 0 0])
    have hv3 := c3.form
    have K3 := Lib.hid (K2.out.trans' (k3.trans' kB))
    have C3 := Lib.hid (c3.none_kept kB)
    rcases hv3 with ⟨x3, rfl⟩ | ⟨x3, rfl⟩
    · exact absurd c3 (by rintro ⟨g, v', h, _⟩; cases h)
    have hm14' : (m : Int) < 14 := by omega
    clear c3 k3 kB x6
    go_wp2_with fail
    refine (whyIs_k [1] 12 12 _ _ C3.out).mono ?_
    rintro ev w4 ⟨rfl, k4⟩
    have z4 := HZ.out.kept k4 (fun x => x)
    have z0 : _ = some (Value.int IntKind.u8 0) := z4.cell 0
    have z1 : _ = some (Value.int IntKind.u8 0) := z4.cell 1
    have z2 : _ = some (Value.int IntKind.u8 0) := z4.cell 2
    have z3 : _ = some (Value.int IntKind.u8 0) := z4.cell 3
    have zz4 : _ = some (Value.int IntKind.u8 0) := z4.cell 4
    have z5 : _ = some (Value.int IntKind.u8 0) := z4.cell 5
    have z6 : _ = some (Value.int IntKind.u8 0) := z4.cell 6
    have z7 : _ = some (Value.int IntKind.u8 0) := z4.cell 7
    have z8 : _ = some (Value.int IntKind.u8 0) := z4.cell 8
    have z9 : _ = some (Value.int IntKind.u8 0) := z4.cell 9
    have z10 : _ = some (Value.int IntKind.u8 0) := z4.cell 10
    have z11 : _ = some (Value.int IntKind.u8 0) := z4.cell 11
    have z12 : _ = some (Value.int IntKind.u16 0) := z4.cell 12
    have z13 : _ = some (Value.slice none 0 0) := z4.cell 13
    have K4 := Lib.hid (K3.out.trans' k4)
    clear z4 k4
    go_wp2_with fail
    refine (same_any m0 m0 m0 m0 0 0 none none 0 0 0 0 [] [] _ ⟨by decide, .inl rfl⟩ ⟨by decide, .inl rfl⟩ rfl rfl (byt_of _ (by decide)) (byt_of _ (by decide))).mono ?_
    rintro ev w5 ⟨rfl, k5⟩
    rw [show (macEq m0 m0 && macEq m0 m0 && ((0 : Int) == 0) && (([] : List Int) == [])) = true by decide]
    go_wp2_with fail
    go_ret
    exact ⟨rfl, K4.out.trans' k5⟩
  obtain ⟨q, rfl⟩ : ∃ q, m = q + 14 := ⟨m - 14, by omega⟩
  have hq : q ≤ n := by omega
  have hpe : ∀ w, RdI w .u8 (some ⟨g, 0, none⟩) (fbytes t f k ys) → Calls Tryd.prog 47 #[.slice (some ⟨g, 0, none⟩) (q + 14) d] w fun ev w' => ∃ A d, ev = .returned (.tuple #[.agg #[.int .u8 (t 0), .int .u8 (t 1), .int .u8 (t 2), .int .u8 (t 3), .int .u8 (t 4), .int .u8 (t 5), .int .u8 (f 0), .int .u8 (f 1), .int .u8 (f 2), .int .u8 (f 3), .int .u8 (f 4), .int .u8 (f 5), .int .u16 k, .slice A q d], .nilIface]) ∧ w'.ownsRow w.heap.size 5 1 (.slice A q d) q (intsK .u8 (ys.take q)) ∧ Kp (fun _ => False) w w' := fun w hr => by
    have h := eparse_even1 g (q + 14) d t f k ys w hr HT.out HF.out hk HBY.out (by omega) (by rw [HN.out]; omega) (by rw [HN.out]; omega) (by omega) HEV.out
    simp only [Nat.add_sub_cancel] at h
    exact h
  have HPE := Lib.hid hpe
  clear hpe
  go_wp2_with fail
  refine (HPE.out _ R2.out).mono ?_
  rintro ev w3 ⟨A3, d3, rfl, own3, k3⟩
  have kB := (Kp.refl (fun _ => False) w3).alloc (.cells #[.int .u8 (t 0), .int .u8 (t 1), .int .u8 (t 2), .int .u8 (t 3), .int .u8 (t 4), .int .u8 (t 5), .int .u8 (f 0), .int .u8 (f 1), .int .u8 (f 2), .int .u8 (f 3), .int .u8 (f 4), .int .u8 (f 5), .int .u16 k, .slice A3 q d3] 77)
  have HN3 := Lib.hid (Bk.new w3 77 #[.int .u8 (t 0), .int .u8 (t 1), .int .u8 (t 2), .int .u8 (t 3), .int .u8 (t 4), .int .u8 (t 5), .int .u8 (f 0), .int .u8 (f 1), .int .u8 (f 2), .int .u8 (f 3), .int .u8 (f 4), .int .u8 (f 5), .int .u16 k, .slice A3 q d3])
  have HB3 := Lib.hid (B2.out.kept (k3.trans' kB) (fun x => x))
  have K3 := Lib.hid (K2.out.trans' (k3.trans' kB))
  have Y3 := Lib.hid (Y2.out.kp (k3.trans' kB) (fun _ _ _ x => x))
  have r3 : RdI w3 .u8 A3 (ys.take q) := by
    obtain ⟨A', c', e, _, h, _⟩ := RdI.of_own (k := .u8) (xs := ys.take q) own3
    cases e
    exact h
  have R3 := Lib.hid (r3.kp kB (fun _ _ _ x => x))
  clear own3 k3 kB r3 x6
  have hq14 : ¬ (((q + 14 : Nat) : Int) < 14) := by omega
  go_upto_region 9 with fail
  generalize w3.alloc (.cells #[.int .u8 (t 0), .int .u8 (t 1), .int .u8 (t 2), .int .u8 (t 3), .int .u8 (t 4), .int .u8 (t 5), .int .u8 (f 0), .int .u8 (f 1), .int .u8 (f 2), .int .u8 (f 3), .int .u8 (f 4), .int .u8 (f 5), .int .u16 k, .slice A3 q d3] 77) = w4 at *
  have n4 := HN3.out
  have b4 := HB3.out
  have u0 : _ = some (Value.int IntKind.u8 (t 0)) := n4.cell 0
  have u1 : _ = some (Value.int IntKind.u8 (t 1)) := n4.cell 1
  have u2 : _ = some (Value.int IntKind.u8 (t 2)) := n4.cell 2
  have u3 : _ = some (Value.int IntKind.u8 (t 3)) := n4.cell 3
  have u4 : _ = some (Value.int IntKind.u8 (t 4)) := n4.cell 4
  have u5 : _ = some (Value.int IntKind.u8 (t 5)) := n4.cell 5
  have u6 : _ = some (Value.int IntKind.u8 (f 0)) := n4.cell 6
  have u7 : _ = some (Value.int IntKind.u8 (f 1)) := n4.cell 7
  have u8 : _ = some (Value.int IntKind.u8 (f 2)) := n4.cell 8
  have u9 : _ = some (Value.int IntKind.u8 (f 3)) := n4.cell 9
  have u10 : _ = some (Value.int IntKind.u8 (f 4)) := n4.cell 10
  have u11 : _ = some (Value.int IntKind.u8 (f 5)) := n4.cell 11
  have u12 : _ = some (Value.int IntKind.u16 k) := n4.cell 12
  have u13 : _ = some (Value.slice A3 q d3) := n4.cell 13
  have x0 : _ = some (Value.int IntKind.u8 (t 0)) := b4.cell 0
  have x1 : _ = some (Value.int IntKind.u8 (t 1)) := b4.cell 1
  have x2 : _ = some (Value.int IntKind.u8 (t 2)) := b4.cell 2
  have x3 : _ = some (Value.int IntKind.u8 (t 3)) := b4.cell 3
  have x4 : _ = some (Value.int IntKind.u8 (t 4)) := b4.cell 4
  have x5 : _ = some (Value.int IntKind.u8 (t 5)) := b4.cell 5
  have x6 : _ = some (Value.int IntKind.u8 (f 0)) := b4.cell 6
  have x7 : _ = some (Value.int IntKind.u8 (f 1)) := b4.cell 7
  have x8 : _ = some (Value.int IntKind.u8 (f 2)) := b4.cell 8
  have x9 : _ = some (Value.int IntKind.u8 (f 3)) := b4.cell 9
  have x10 : _ = some (Value.int IntKind.u8 (f 4)) := b4.cell 10
  have x11 : _ = some (Value.int IntKind.u8 (f 5)) := b4.cell 11
  have x12 : _ = some (Value.int IntKind.u16 k) := b4.cell 12
  have x13 : _ = some (Value.slice A n c) := b4.cell 13
  have hm1 : ∀ w, (binOp .eql 73 (.agg #[.int .u8 (t 0), .int .u8 (t 1), .int .u8 (t 2), .int .u8 (t 3), .int .u8 (t 4), .int .u8 (t 5)]) (.agg #[.int .u8 (t 0), .int .u8 (t 1), .int .u8 (t 2), .int .u8 (t 3), .int .u8 (t 4), .int .u8 (t 5)])).run Tryd.prog w = .ok (.bool true) w := fun w => by
    have := run_eql_mac w t t
    rwa [(macEq_iff t t).2 (fun _ _ => rfl)] at this
  have hm2 : ∀ w, (binOp .eql 73 (.agg #[.int .u8 (f 0), .int .u8 (f 1), .int .u8 (f 2), .int .u8 (f 3), .int .u8 (f 4), .int .u8 (f 5)]) (.agg #[.int .u8 (f 0), .int .u8 (f 1), .int .u8 (f 2), .int .u8 (f 3), .int .u8 (f 4), .int .u8 (f 5)])).run Tryd.prog w = .ok (.bool true) w := fun w => by
    have := run_eql_mac w f f
    rwa [(macEq_iff f f).2 (fun _ _ => rfl)] at this
  have hkk : ((k : Int) == k) = true := by simp
  have e1 : IntKind.i64.wrap (q : Int) = (q : Int) := IntWalk.i64_in _ (by unfold maxLen at hdm; omega)
  have e1' : IntKind.i64.wrap ((q : Int) + 14 - 14) = (q : Int) := by rw [show (q : Int) + 14 - 14 = q by omega]; exact e1
  have e2 : (0 : Int) ≤ (q : Int) := by omega
  have e3 : (q : Int) ≤ (c : Int) := by omega
  have e4 : q ≤ c := by omega
  have hql : (ys.take q).length = q := by rw [List.length_take, HN.out]; omega
  have hsb : ∀ c', Calls Tryd.prog 53 #[.slice A3 q d3, .slice A q c'] w4.drew fun ev w' => ev = .returned (.bool true) ∧ Kp (fun _ => False) w4 w' := fun c' => by
    have h := sameBytes_any A3 A d3 c' (ys.take q) (ys.take q) w4.drew R3.out (Y3.out.take q)
    rw [hql] at h
    refine h.mono ?_
    rintro ev w' ⟨rfl, nn, rfl⟩
    exact ⟨by simp, ((Kp.refl _ _).drew).drewN nn⟩
  have HSB := Lib.hid hsb
  clear hsb hql
  clear n4 b4
  rcases A with _ | a
  · obtain rfl : c = 0 := H0.out rfl
    obtain rfl : n = 0 := by omega
    obtain rfl : q = 0 := by omega
    have e5 : IntKind.i64.wrap 0 = 0 := by decide
    have e6 : IntKind.i64.wrap (14 - 14) = 0 := by decide
    clear e1 e1' e2 e3 e4 hq hyc
    go_still_tail 31, (by kernel_rfl)
    change wpList _ _ _ _ _ w4.drew
    go_wp2_with fail
    refine (HSB.out 0).mono ?_
    rintro ev w5 ⟨rfl, k5⟩
    go_wp2_with fail
    go_ret
    exact ⟨rfl, K3.out.trans' k5⟩
  · go_still_tail 31, (by kernel_rfl)
    change wpList _ _ _ _ _ w4.drew
    go_wp2_with fail
    refine (HSB.out c).mono ?_
    rintro ev w5 ⟨rfl, k5⟩
    go_wp2_with fail
    go_ret
    exact ⟨rfl, K3.out.trans' k5⟩
end Go.Proofs.YtconpcnmccmbiaaDoor
