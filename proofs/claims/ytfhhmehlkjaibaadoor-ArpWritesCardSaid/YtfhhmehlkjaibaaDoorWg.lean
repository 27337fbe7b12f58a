/- why's Errno, Is, Wrap, Fault. -/
import Derived.Test.YtfhhmehlkjaibaaDoorWe
import Derived.Test.YtfhhmehlkjaibaaDoorWf
import Derived.Test.YtfhhmehlkjaibaaDoorYz
namespace Go.Proofs.YtfhhmehlkjaibaaDoor
open Go.RowKit

theorem errno_nil (w : World) : Calls Tryd.prog 10 #[.nilIface] w fun ev w' => ev = .returned (.int .i64 0) ∧ w = w' := by
  go_enter Tryd.func10, Tryd.ntmps10
  go_wp2_with fail
  go_ret
  exact ⟨rfl, rfl⟩

set_option maxRecDepth 100000 in
set_option maxHeartbeats 1000000 in
theorem errno_any (rs : List Int) (e : Int) (v : Value) (w : World) (hE : Et w) (hc : Chain w e rs v) :
    Calls Tryd.prog 10 #[v] w fun ev w' => ev = .returned (.int .i64 e) ∧ Kp (fun _ => False) w w' := by
  have hv := hc.form
  have kA := (Kp.refl (fun _ => False) w).alloc (.cells #[.int .i64 0] 22)
  have HE := Lib.hid (hE.kept kA (fun f => f))
  have HC := Lib.hid (hc.none_kept kA)
  have HB := Lib.hid (Bk.new w 22 #[.int .i64 0])
  have HK := Lib.hid kA
  clear hE hc kA
  rcases hv with ⟨y, rfl⟩ | ⟨y, rfl⟩
  all_goals
    go_enter Tryd.func10, Tryd.ntmps10
    go_wp2_with fail
    refine (asInt w.heap.size rs e 0 _ _ HE.out HC.out HB.out).mono ?_
    rintro ev w1 ⟨rfl, b1, k1⟩
    have c1 := b1.cell 0
    have K1 := Lib.hid (HK.out.trans k1 (fun k hk h => by omega))
    clear b1 k1
    go_wp2_with fail
    go_ret
    exact ⟨rfl, K1.out⟩

theorem whyIs_nil (o : Int) (w : World) : Calls Tryd.prog 13 #[.nilIface, .int .i64 o] w fun ev w' => ev = .returned (.bool false) ∧ ∃ n, w' = w.drewN n := by
  go_enter Tryd.func13, Tryd.ntmps13
  go_wp2_with fail
  go_ret
  exact ⟨rfl, 0, rfl⟩

set_option maxRecDepth 100000 in
set_option maxHeartbeats 1000000 in
theorem whyIs_any (rs : List Int) (e o : Int) (v : Value) (w : World) (hc : Chain w e rs v) :
    Calls Tryd.prog 13 #[v, .int .i64 o] w fun ev w' => ev = .returned (.bool (e == o)) ∧ ∃ n, w' = w.drewN n := by
  have hv := hc.form
  have HC := Lib.hid hc
  obtain ⟨b, hb⟩ : ∃ b, (e == o) = b := ⟨_, rfl⟩
  have HB := Lib.hid hb
  rw [hb]
  clear hc hb
  rcases hv with ⟨y, rfl⟩ | ⟨y, rfl⟩
  all_goals
    go_enter Tryd.func13, Tryd.ntmps13
    go_wp2_with fail
    refine (isErr rs e o b _ _ HC.out HB.out).mono ?_
    rintro ev w1 ⟨rfl, rfl⟩
    go_wp2_with fail
    go_ret
    exact ⟨rfl, 0, rfl⟩

/-- Is there such a reason? -/
def knownR (r : Int) : Bool := decide (1 ≤ r ∧ r < 20)
theorem known_any (r : Int) (w : World) : Calls Tryd.prog 47 #[.int .i64 r] w fun ev w' => ev = .returned (.bool (knownR r)) ∧ ∃ n, w' = w.drewN n := by
  by_cases h1 : 1 ≤ r
  · by_cases h2 : r < 20
    · go_enter Tryd.func47, Tryd.ntmps47
      go_wp2_with fail
      go_ret
      exact ⟨ret_bool (by unfold knownR; rw [decide_eq_true (And.intro h1 h2)]), 0, rfl⟩
    · go_enter Tryd.func47, Tryd.ntmps47
      go_wp2_with fail
      go_ret
      exact ⟨ret_bool (by unfold knownR; rw [decide_eq_false (by omega)]), 0, rfl⟩
  · go_enter Tryd.func47, Tryd.ntmps47
    go_wp2_with fail
    go_ret
    exact ⟨ret_bool (by unfold knownR; rw [decide_eq_false (by omega)]), 0, rfl⟩

theorem wrap_nil (r : Int) (w : World) : Calls Tryd.prog 30 #[.nilIface, .int .i64 r] w fun ev w' => ev = .returned .nilIface ∧ Kp (fun _ => False) w w' := by
  go_enter Tryd.func30, Tryd.ntmps30
  go_wp2_with fail
  go_ret
  exact ⟨rfl, Kp.refl _ _⟩

/-- What a wrapping leaves: the reasons. -/
def wrapR (r : Int) (rs : List Int) : List Int := if knownR r then r :: rs else rs

set_option maxRecDepth 100000 in
set_option maxHeartbeats 1000000 in
theorem wrap_any (r : Int) (rs : List Int) (e : Int) (v : Value) (w : World) (hc : Chain w e rs v) :
    Calls Tryd.prog 30 #[v, .int .i64 r] w fun ev w' => ∃ v', ev = .returned v' ∧ Chain w' e (wrapR r rs) v' ∧ Kp (fun _ => False) w w' := by
  have hv := hc.form
  have HC := Lib.hid hc
  obtain ⟨b, hb⟩ : ∃ b, knownR r = b := ⟨_, rfl⟩
  have HB := Lib.hid hb
  unfold wrapR
  rw [hb]
  clear hc hb
  rcases hv with ⟨y, rfl⟩ | ⟨y, rfl⟩
  all_goals
    cases b
    all_goals
      go_enter Tryd.func30, Tryd.ntmps30
      go_wp2_with fail
      refine (known_any r _).mono ?_
      rintro ev w1 ⟨rfl, n1, rfl⟩
      rw [HB.out]
      go_wp2_with fail
      go_ret
      first
        | exact ⟨_, rfl, HC.out.none_kept ((Kp.refl _ _).drewN n1), (Kp.refl _ _).drewN n1⟩
        | exact ⟨_, rfl, ⟨_, _, rfl, Bk.new _ 76 _, HC.out.none_kept (((Kp.refl _ _).drewN n1).alloc _)⟩, ((Kp.refl _ _).drewN n1).alloc _⟩

/-- What Fault tells. -/
def FaultIs (w : World) (r e : Int) (v : Value) : Prop := (e = 0 ∨ knownR r = false) ∧ v = .nilIface ∨ e ≠ 0 ∧ knownR r = true ∧ Chain w e [r] v
set_option maxRecDepth 100000 in
set_option maxHeartbeats 1000000 in
theorem fault_any (r e : Int) (w : World) :
    Calls Tryd.prog 29 #[.int .i64 r, .int .i64 e] w fun ev w' => ∃ v', ev = .returned v' ∧ FaultIs w' r e v' ∧ Kp (fun _ => False) w w' := by
  by_cases he : e = 0
  · subst he
    go_enter Tryd.func29, Tryd.ntmps29
    go_wp2_with fail
    go_ret
    exact ⟨_, rfl, .inl ⟨.inl rfl, rfl⟩, Kp.refl _ _⟩
  · obtain ⟨b, hb⟩ : ∃ b, knownR r = b := ⟨_, rfl⟩
    have HB := Lib.hid hb
    have HE := Lib.hid he
    clear hb
    cases b
    all_goals
      go_enter Tryd.func29, Tryd.ntmps29
      go_wp2_with fail
      refine (known_any r _).mono ?_
      rintro ev w1 ⟨rfl, n1, rfl⟩
      rw [HB.out]
      go_wp2_with fail
      go_ret
      first
        | exact ⟨_, rfl, .inl ⟨.inr HB.out, rfl⟩, (Kp.refl _ _).drewN n1⟩
        | exact ⟨_, rfl, .inr ⟨HE.out, HB.out, _, _, rfl, Bk.new _ 76 _, rfl⟩, ((Kp.refl _ _).drewN n1).alloc _⟩
end Go.Proofs.YtfhhmehlkjaibaaDoor
