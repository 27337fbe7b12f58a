/- The walk of Do. -/
import Derived.Test.YtconpcnmccmbiaaDoorQh
import Derived.Deep.RegionHeld3
namespace Go.Proofs.YtconpcnmccmbiaaDoor
open Go.RowKit

set_option maxRecDepth 100000 in
set_option maxHeartbeats 4000000 in
theorem do_take (g1 gw g l m mk : Nat) (T : Nat → Bool) (a : Int) (w : World) (h : Pr w g1 gw g l m mk T mk T) (b1' : -9223372036854775808 ≤ a) (b2' : a ≤ 9223372036854775807) :
    Calls Tryd.prog 18 #[.pointer (some ⟨g1, 0, none⟩), .pointer (some ⟨g, 0, none⟩), .agg #[.int .i64 0, .int .i64 a]] w fun e w' => e = .returned (.bool true) ∧ (∃ mk' T', Pr w' g1 gw g l m mk' T' mk' T') ∧ Kp (S3 g1 gw g) w w' := by
  have hlt := h.lt
  obtain ⟨b1, b2, b3, hmk, _⟩ := h.1.bounds
  have HP := Lib.hid h
  have Hlt := Lib.hid hlt
  clear h hlt
  by_cases hc : cnt T m = 0
  · have HC := Lib.hid hc
    clear hc
    have hk0 := (Kp.refl (S3 g1 gw g) w).alloc (.cells #[.int .i64 0, .int .i64 a] 24)
    have hp0 := HP.out.kept ((Kp.refl (fun _ => False) w).alloc (.cells #[.int .i64 0, .int .i64 a] 24)) (fun _ _ f => f)
    have hb0 := Bk.new w 24 #[.int .i64 0, .int .i64 a]
    have d1 := hb0.cell 1
    obtain ⟨o, hp2⟩ := hp0.2
    have Hk0 := Lib.hid hk0
    have Hp0 := Lib.hid hp0
    have Hp2 := Lib.hid hp2
    clear hk0 hp0 hp2 hb0
    go_enter Tryd.func18, Tryd.ntmps18
    go_wp2_with fail
    refine (take_full g1 gw l m mk T a _ Hp0.out.1 (cnt_zero _ _ HC.out)).mono ?_
    rintro e w1 ⟨rfl, rfl⟩
    go_wp2_with fail
    refine (rtake_full g l m mk o T a _ Hp2.out HC.out).mono ?_
    rintro e w1 ⟨rfl, n, rfl⟩
    go_wp2_with fail
    go_ret
    exact ⟨rfl, ⟨mk, T, Hp0.out.drewN n⟩, Hk0.out.drewN n⟩
  · have HC := Lib.hid hc
    clear hc
    have hk0 := (Kp.refl (S3 g1 gw g) w).alloc (.cells #[.int .i64 0, .int .i64 a] 24)
    have hp0 := HP.out.kept ((Kp.refl (fun _ => False) w).alloc (.cells #[.int .i64 0, .int .i64 a] 24)) (fun _ _ f => f)
    have hb0 := Bk.new w 24 #[.int .i64 0, .int .i64 a]
    have hn0 : ¬ S3 g1 gw g w.heap.size := by have := Hlt.out; rintro (h | h | h) <;> omega
    have Hk0 := Lib.hid hk0
    have Hp0 := Lib.hid hp0
    have Hb0 := Lib.hid hb0
    have Hn0 := Lib.hid hn0
    clear hk0 hp0 hb0 hn0
    go_enter Tryd.func18, Tryd.ntmps18
    go_wp2_with fail
    refine (Hp0.out.take1 a b1' b2' HC.out).mono ?_
    rintro e w1 ⟨k, mk', ht, rfl, p1, k1⟩
    have d1 := (Hb0.out.kept k1 Hn0.out).cell 1
    have Ht := Lib.hid ht
    have Hp1 := Lib.hid p1
    have Hk1 := Lib.hid (Hk0.out.trans' k1)
    clear ht p1 k1
    go_wp2_with fail
    refine (Hp1.out.take2 a b1' b2' hmk Ht.out).mono ?_
    rintro e w2 ⟨rfl, p2, k2⟩
    have Hp2 := Lib.hid p2
    have Hk2 := Lib.hid (Hk1.out.trans' k2)
    clear p2 k2
    go_wp2_with fail
    go_ret
    exact ⟨rfl, ⟨_, _, Hp2.out⟩, Hk2.out⟩

set_option maxRecDepth 100000 in
set_option maxHeartbeats 4000000 in
theorem do_give (g1 gw g l m mk : Nat) (T : Nat → Bool) (a : Int) (w : World) (h : Pr w g1 gw g l m mk T mk T) (b1' : -9223372036854775808 ≤ a) (b2' : a ≤ 9223372036854775807) :
    Calls Tryd.prog 18 #[.pointer (some ⟨g1, 0, none⟩), .pointer (some ⟨g, 0, none⟩), .agg #[.int .i64 1, .int .i64 a]] w fun e w' => e = .returned (.bool true) ∧ (∃ mk' T', Pr w' g1 gw g l m mk' T' mk' T') ∧ Kp (S3 g1 gw g) w w' := by
  have hlt := h.lt
  have HP := Lib.hid h
  have Hlt := Lib.hid hlt
  clear h hlt
  have hk0 := (Kp.refl (S3 g1 gw g) w).alloc (.cells #[.int .i64 1, .int .i64 a] 24)
  have hp0 := HP.out.kept ((Kp.refl (fun _ => False) w).alloc (.cells #[.int .i64 1, .int .i64 a] 24)) (fun _ _ f => f)
  have hb0 := Bk.new w 24 #[.int .i64 1, .int .i64 a]
  have hn0 : ¬ S3 g1 gw g w.heap.size := by have := Hlt.out; rintro (h | h | h) <;> omega
  have d1 := hb0.cell 1
  have Hk0 := Lib.hid hk0
  have Hp0 := Lib.hid hp0
  have Hb0 := Lib.hid hb0
  have Hn0 := Lib.hid hn0
  clear hk0 hp0 hb0 hn0
  go_enter Tryd.func18, Tryd.ntmps18
  go_wp2_with fail
  generalize hE : giveE l m T a = E
  have HE := Lib.hid hE
  clear hE
  go_region_held3 (fun w' => w'.cell? ⟨w.heap.size, 1, none⟩ = some (.int .i64 a))
    (first | go_keep | fail)
    (first
      | (go_at_call 26
         refine (Pr.give1 (g := g) (mk2 := mk) (U := T) (T := T) (mk := mk) (gw := gw) (l := l) (m := m) (by exact Hp0.out) a b1' b2').mono ?_
         rw [HE.out]
         rintro e w1 ⟨rfl, p1, k1⟩
         have k1 := Kp.undrewN (n := 1) k1
         have d2 := (Hb0.out.kept k1 Hn0.out).cell 1
         have Hp1 := Lib.hid p1
         have Hk1 := Lib.hid (Hk0.out.trans' k1)
         have Hb1 := Lib.hid (Hb0.out.kept k1 Hn0.out)
         clear p1 k1)
      | (go_at_call 26
         refine (Pr.give1 (g := g) (mk2 := mk) (U := giveT l m T a) (T := T) (mk := mk) (gw := gw) (l := l) (m := m) (by exact Hp5.out) a b1' b2').mono ?_
         rw [HE.out]
         rintro e w1 ⟨rfl, p1, k1⟩
         have d2 := (Hb5.out.kept k1 Hn0.out).cell 1
         have Hp1 := Lib.hid p1
         have Hk1 := Lib.hid (Hk5.out.trans' k1)
         have Hb1 := Lib.hid (Hb5.out.kept k1 Hn0.out)
         clear p1 k1)
      | (go_at_call 60
         refine (Pr.give2 (g1 := g1) (mk := mk) (U := T) (T := T) (mk2 := mk) (gw := gw) (l := l) (m := m) (by exact Hp0.out) a).mono ?_
         rw [HE.out]
         rintro e w1 ⟨rfl, p5, k5⟩
         have k5 := Kp.undrewN (n := 1) k5
         have d5 := (Hb0.out.kept k5 Hn0.out).cell 1
         have Hp5 := Lib.hid p5
         have Hk5 := Lib.hid (Hk0.out.trans' k5)
         have Hb5 := Lib.hid (Hb0.out.kept k5 Hn0.out)
         clear p5 k5)
      | (go_at_call 60
         refine (Pr.give2 (g1 := g1) (mk := mk) (U := T) (T := giveT l m T a) (mk2 := mk) (gw := gw) (l := l) (m := m) (by exact Hp1.out) a).mono ?_
         rw [HE.out]
         rintro e w1 ⟨rfl, p5, k5⟩
         have d5 := (Hb1.out.kept k5 Hn0.out).cell 1
         have Hp5 := Lib.hid p5
         have Hk5 := Lib.hid (Hk1.out.trans' k5)
         have Hb5 := Lib.hid (Hb1.out.kept k5 Hn0.out)
         clear p5 k5)
      | fail)
  all_goals
    go_wp2_with fail
    go_ret
    first
      | exact ⟨ret_bool (by simp), ⟨mk, giveT l m T a, Hp5.out⟩, Hk5.out⟩
      | exact ⟨ret_bool (by simp), ⟨mk, giveT l m T a, Hp1.out⟩, Hk1.out⟩

set_option maxRecDepth 100000 in
set_option maxHeartbeats 4000000 in
theorem do_none (g1 gw g l m mk : Nat) (T : Nat → Bool) (x a : Int) (w : World) (h : Pr w g1 gw g l m mk T mk T) (h0 : (x == 0) = false) (h1 : (x == 1) = false) :
    Calls Tryd.prog 18 #[.pointer (some ⟨g1, 0, none⟩), .pointer (some ⟨g, 0, none⟩), .agg #[.int .i64 x, .int .i64 a]] w fun e w' => e = .returned (.bool true) ∧ (∃ mk' T', Pr w' g1 gw g l m mk' T' mk' T') ∧ Kp (S3 g1 gw g) w w' := by
  have HP := Lib.hid h
  clear h
  have hk0 := (Kp.refl (S3 g1 gw g) w).alloc (.cells #[.int .i64 x, .int .i64 a] 24)
  have hp0 := HP.out.kept ((Kp.refl (fun _ => False) w).alloc (.cells #[.int .i64 x, .int .i64 a] 24)) (fun _ _ f => f)
  have Hk0 := Lib.hid hk0
  have Hp0 := Lib.hid hp0
  clear hk0 hp0
  go_enter Tryd.func18, Tryd.ntmps18
  go_wp2_with fail
  go_ret
  exact ⟨rfl, ⟨mk, T, Hp0.out⟩, Hk0.out⟩

theorem do_any (g1 gw g l m mk : Nat) (T : Nat → Bool) (x a : Int) (w : World) (h : Pr w g1 gw g l m mk T mk T) (b1' : -9223372036854775808 ≤ a) (b2' : a ≤ 9223372036854775807) :
    Calls Tryd.prog 18 #[.pointer (some ⟨g1, 0, none⟩), .pointer (some ⟨g, 0, none⟩), .agg #[.int .i64 x, .int .i64 a]] w fun e w' => e = .returned (.bool true) ∧ (∃ mk' T', Pr w' g1 gw g l m mk' T' mk' T') ∧ Kp (S3 g1 gw g) w w' := by
  by_cases h0 : x = 0
  · subst h0
    exact do_take g1 gw g l m mk T a w h b1' b2'
  · by_cases h1 : x = 1
    · subst h1
      exact do_give g1 gw g l m mk T a w h b1' b2'
    · exact do_none g1 gw g l m mk T x a w h (by simpa using h0) (by simpa using h1)
end Go.Proofs.YtconpcnmccmbiaaDoor
