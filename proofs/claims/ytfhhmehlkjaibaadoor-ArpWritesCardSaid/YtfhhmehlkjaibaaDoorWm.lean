/- why's alive: a fault in a fault. -/
import Derived.Test.YtfhhmehlkjaibaaDoorWl
namespace Go.Proofs.YtfhhmehlkjaibaaDoor
open Go.RowKit Go.Proofs.YtfhhmehlkjaibaaDoorW.PrintWords

theorem chain_any (e : Int) (A : Option Addr) (c : Nat) (rs : List Int) (bare : Bool) (w : World) (hx : RdI w .i64 A rs) (hl : rs.length ≤ 50) :
    Calls Tryd.prog 9 #[.int .i64 e, .slice A rs.length c, .bool bare] w fun ev w' => ∃ v u l f, ev = .returned (.tuple #[v, .agg #[u, .int .i64 f]]) ∧ Alike2 w' w.heap.size v u l f rs.length ∧ Kp (fun _ => False) w w' := by
  cases bare with
  | true =>
    by_cases he : e = 0
    · subst he
      exact chain_bare0 A c rs.length w
    · exact chain_bare e A c rs w hx (by simpa using he) hl
  | false =>
    by_cases h0 : rs.length = 0
    · rw [h0]
      exact chain_none e A c w
    · exact chain_full e A c rs w hx (by omega) hl

theorem fault_yes (r e : Int) (w : World) (h1 : e ≠ 0) (h2 : knownR r = true) :
    Calls Tryd.prog 29 #[.int .i64 r, .int .i64 e] w fun ev w' => ∃ v', ev = .returned v' ∧ Chain w' e [r] v' ∧ Kp (fun _ => False) w w' := by
  refine (fault_any r e w).mono ?_
  rintro ev w' ⟨v, rfl, hf, hk⟩
  rcases hf with ⟨h | h, _⟩ | ⟨_, _, h⟩
  · exact absurd h h1
  · rw [h2] at h; cases h
  · exact ⟨v, rfl, h, hk⟩
theorem fault_not (r e : Int) (w : World) (h : e = 0 ∨ knownR r = false) :
    Calls Tryd.prog 29 #[.int .i64 r, .int .i64 e] w fun ev w' => ev = .returned .nilIface ∧ Kp (fun _ => False) w w' := by
  refine (fault_any r e w).mono ?_
  rintro ev w' ⟨v, rfl, hf, hk⟩
  rcases hf with ⟨_, rfl⟩ | ⟨h1, h2, _⟩
  · exact ⟨rfl, hk⟩
  · rcases h with h | h
    · exact absurd h h1
    · rw [h2] at h; cases h
theorem number_any (a : ByteArray) (r : Int) (b : Bool) (w : World) (h : PWhyChains.why_Number.f 100 a = some (r, b)) :
    Calls Tryd.prog 31 #[.string a] w fun ev w' => ev = .returned (.tuple #[.int .i64 r, .bool b]) ∧ Kp (fun _ => False) w w' :=
  (PWhyChains.why_Number.calls 100 a r b w h).mono fun _ _ ⟨h1, h2⟩ => ⟨h1, Kp.of_below h2 _⟩
theorem word_any (r : Int) (w : World) : Calls Tryd.prog 32 #[.int .i64 r] w fun ev w' => ev = .returned (.string (wordB r)) ∧ Kp (fun _ => False) w w' :=
  (PWhyChains.why_Word.calls r (wordB r) w (word_f r)).mono fun _ _ ⟨h1, h2⟩ => ⟨h1, Kp.of_below h2 _⟩
theorem wall_rd (rs : List Int) (e : Int) (v : Value) (w : World) (hE : Et w) (hc : Chain w e rs v) (hl : rs.length ≤ 1000) :
    Calls Tryd.prog 12 #[v] w fun ev w' => ∃ A c, ev = .returned (.slice A rs.length c) ∧ RdI w' .i64 A rs ∧ Kp (fun _ => False) w w' := by
  refine (wall_any rs e v w hE hc hl).mono ?_
  rintro ev w' ⟨u, rfl, h1, h2⟩
  obtain ⟨A, c, rfl, _, h3, _⟩ := RdI.of_own (k := .i64) (xs := rs) h1
  exact ⟨A, c, rfl, h3, h2⟩
theorem sameInts_id (A B : Option Addr) (c d : Nat) (xs : List Int) (w : World) (hx : RdI w .i64 A xs) (hy : RdI w .i64 B xs) :
    Calls Tryd.prog 11 #[.slice A xs.length c, .slice B xs.length d] w fun e w' => e = .returned (.bool true) ∧ Kp (fun _ => False) w w' := by
  refine (sameInts_any A B c d xs xs w hx hy).mono ?_
  rintro e w' ⟨rfl, n, rfl⟩
  exact ⟨by simp, (Kp.refl _ _).drewN n⟩
theorem whyIs_k (rs : List Int) (e o : Int) (v : Value) (w : World) (hc : Chain w e rs v) :
    Calls Tryd.prog 13 #[v, .int .i64 o] w fun ev w' => ev = .returned (.bool (e == o)) ∧ Kp (fun _ => False) w w' := by
  refine (whyIs_any rs e o v w hc).mono ?_
  rintro ev w' ⟨rfl, n, rfl⟩
  exact ⟨rfl, (Kp.refl _ _).drewN n⟩
theorem num_route : PWhyChains.why_Number.f 100 ⟨#[114, 111, 117, 116, 101]⟩ = some (7, true) := by decide +kernel
theorem num_what : PWhyChains.why_Number.f 100 ⟨#[119, 104, 97, 116]⟩ = some (0, false) := by decide +kernel

set_option maxRecDepth 100000 in
set_option maxHeartbeats 4000000 in
theorem alive02 (w : World) (hE : Et w) : Calls Tryd.prog 8 #[] w fun ev w' => ev = .returned (.bool true) ∧ Kp (fun _ => False) w w' := by
  have HE := Lib.hid hE
  clear hE
  go_enter Tryd.func8, Tryd.ntmps8
  go_wp2_with fail
  refine (fault_yes 2 13 _ (by decide) (by decide)).mono ?_
  rintro ev w1 ⟨v1, rfl, c1, k1⟩
  have C1 := Lib.hid c1
  have K1 := Lib.hid k1
  have hv1 := c1.form
  clear c1 k1
  go_wp2_with fail
  refine (wrap_any 7 [2] 13 v1 _ C1.out).mono ?_
  rintro ev w2 ⟨v2, rfl, c2, k2⟩
  have c2 : Chain w2 13 [7, 2] v2 := c2
  have K2 := Lib.hid (K1.out.trans' k2)
  have hv2 := c2.form
  have C2 := Lib.hid c2
  clear c2 k2
  go_wp2_with fail
  refine (fault_not 2 0 _ (.inl rfl)).mono ?_
  rintro ev w3 ⟨rfl, k3⟩
  have C3 := Lib.hid (C2.out.none_kept k3)
  have K3 := Lib.hid (K2.out.trans' k3)
  clear k3
  go_wp2_with fail
  refine (fault_not 99 13 _ (.inr (by decide))).mono ?_
  rintro ev w4 ⟨rfl, k4⟩
  have C4 := Lib.hid (C3.out.none_kept k4)
  have K4 := Lib.hid (K3.out.trans' k4)
  clear k4
  go_wp2_with fail
  refine (number_any _ 7 true _ num_route).mono ?_
  rintro ev w5 ⟨rfl, k5⟩
  have C5 := Lib.hid (C4.out.none_kept k5)
  have K5 := Lib.hid (K4.out.trans' k5)
  clear k5
  go_wp2_with fail
  refine (number_any _ 0 false _ num_what).mono ?_
  rintro ev w6 ⟨rfl, k6⟩
  have C6 := Lib.hid (C5.out.none_kept k6)
  have K6 := Lib.hid (K5.out.trans' k6)
  have E6 := Lib.hid (HE.out.kept K6.out (fun f => f))
  clear k6
  rcases hv1 with ⟨x1, rfl⟩ | ⟨x1, rfl⟩
  · exact absurd C1.out (by rintro ⟨g, v', h, _⟩; cases h)
  rcases hv2 with ⟨x2, rfl⟩ | ⟨x2, rfl⟩
  · exact absurd C2.out (by rintro ⟨g, v', h, _⟩; cases h)
  go_wp2_with fail
  refine (errno_any [7, 2] 13 _ _ E6.out C6.out).mono ?_
  rintro ev w7 ⟨rfl, k7⟩
  have C7 := Lib.hid (C6.out.none_kept k7)
  have K7 := Lib.hid (K6.out.trans' k7)
  clear k7
  go_wp2_with fail
  refine (errno_nil _).mono ?_
  rintro ev w8 ⟨rfl, rfl⟩
  have E7 := Lib.hid (HE.out.kept K7.out (fun f => f))
  go_wp2_with fail
  refine (wreason_any [7, 2] 13 _ _ E7.out C7.out).mono ?_
  rintro ev w9 ⟨rfl, k9⟩
  have hr9 : reasonOf [7, 2] 13 = 7 := rfl
  rw [hr9]
  have C9 := Lib.hid (C7.out.none_kept k9)
  have K9 := Lib.hid (K7.out.trans' k9)
  have E9 := Lib.hid (HE.out.kept K9.out (fun f => f))
  clear k9 hr9
  go_wp2_with fail
  refine (wall_rd [7, 2] 13 _ _ E9.out C9.out (by decide)).mono ?_
  rintro ev w10 ⟨A10, c10, rfl, r10, k10⟩
  have C10 := Lib.hid (C9.out.none_kept k10)
  have K10 := Lib.hid (K9.out.trans' k10)
  have kB := (Kp.refl (fun _ => False) w10).alloc (.cells #[.int .i64 7, .int .i64 2] 3)
  have hr11 := RdI.new w10 .i64 3 [7, 2] (by decide)
  have R10 := Lib.hid (r10.alloc (.cells #[.int .i64 7, .int .i64 2] 3))
  have R11 := Lib.hid hr11
  have C11 := Lib.hid (C10.out.none_kept kB)
  have K11 := Lib.hid (K10.out.trans' kB)
  clear k10 r10 kB hr11
  go_wp2_with fail
  refine (sameInts_id _ _ _ _ [7, 2] _ (by exact R10.out) (by exact R11.out)).mono ?_
  rintro ev w12 ⟨rfl, k12⟩
  have C12 := Lib.hid (C11.out.none_kept k12)
  have K12 := Lib.hid (K11.out.trans' k12)
  clear k12
  go_wp2_with fail
  refine (whyIs_k [7, 2] 13 13 _ _ C12.out).mono ?_
  rintro ev w13 ⟨rfl, k13⟩
  have C13 := Lib.hid (C12.out.none_kept k13)
  have K13 := Lib.hid (K12.out.trans' k13)
  clear k13
  go_wp2_with fail
  refine (whyIs_k [7, 2] 13 12 _ _ C13.out).mono ?_
  rintro ev w14 ⟨rfl, k14⟩
  have K14 := Lib.hid (K13.out.trans' k14)
  clear k14
  have E14 := Lib.hid (HE.out.kept K14.out (fun f => f))
  go_wp2_with fail
  refine (wreason_any [] 20 _ _ E14.out rfl).mono ?_
  rintro ev w15 ⟨rfl, k15⟩
  have hr15 : reasonOf [] 20 = 5 := rfl
  rw [hr15]
  have K15 := Lib.hid (K14.out.trans' k15)
  clear k15 hr15
  go_wp2_with fail
  refine (word_any 19 _).mono ?_
  rintro ev w16 ⟨rfl, k16⟩
  have hr16 : wordB 19 = ⟨#[111, 108, 100]⟩ := by rfl
  rw [hr16]
  have K16 := Lib.hid (K15.out.trans' k16)
  clear k16 hr16
  go_wp2_with fail
  go_ret
  exact ⟨rfl, K16.out⟩
end Go.Proofs.YtfhhmehlkjaibaaDoor
