/- A range's Give, Taken, Left, Many. -/
import Derived.Test.YtconpcnmccmbiaaDoorPd
namespace Go.Proofs.YtconpcnmccmbiaaDoor
open Go.RowKit

/-- Is a number a port of the range? -/
def isPort (l m : Nat) (a : Int) : Bool := decide ((l : Int) ≤ a ∧ a < l + m)
theorem isPort_yes {l m : Nat} {a : Int} (h : isPort l m a = true) : (l : Int) ≤ a ∧ a < l + m := of_decide_eq_true h
theorem isPort_no {l m : Nat} {a : Int} (h : isPort l m a = false) : ¬ ((l : Int) ≤ a ∧ a < l + m) := of_decide_eq_false h

set_option maxHeartbeats 400000 in
theorem give_out (g gw l m mk : Nat) (T : Nat → Bool) (a : Int) (w : World) (h : Rng w g gw l m mk T) (b1' : -9223372036854775808 ≤ a) (b2' : a ≤ 9223372036854775807) (hp : isPort l m a = false) :
    Calls Tryd.prog 26 #[.pointer (some ⟨g, 0, none⟩), .int .i64 a] w fun e w' => e = .returned (.int .i64 11) ∧ ∃ n, w' = w.drewN n := by
  obtain ⟨ws, hr, _⟩ := h
  have hc := isPort_no hp
  have Hr := Lib.hid hr
  clear hr hp
  go_enter Tryd.func26, Tryd.ntmps26
  go_wp2_with fail
  refine (has_no g gw l m mk _ ws a _ Hr.out b1' b2' hc).mono ?_
  rintro e w1 ⟨rfl, n1, rfl⟩
  clear hc
  go_wp2_with fail
  go_ret
  exact ⟨rfl, n1, rfl⟩

set_option maxHeartbeats 400000 in
theorem give_free (g gw l m mk : Nat) (T : Nat → Bool) (a : Int) (w : World) (h : Rng w g gw l m mk T) (hp : isPort l m a = true) (hT : T (a - l).toNat = false) :
    Calls Tryd.prog 26 #[.pointer (some ⟨g, 0, none⟩), .int .i64 a] w fun e w' => e = .returned (.int .i64 17) ∧ ∃ n, w' = w.drewN n := by
  obtain ⟨ws, hr, h3, h4, h5, h6, h7, h8⟩ := h
  obtain ⟨h1, h2⟩ := isPort_yes hp
  obtain ⟨c0, c1, c2, c3, _, _, b1, b2, b3, b4, b5⟩ := hr.cells
  have hbt : bit ws (a - l).toNat = false := (h4 _ (by omega)).trans hT
  have Hbt := Lib.hid hbt
  have hal : 0 ≤ a - l := by omega
  have Hr := Lib.hid hr
  clear hr hp hT hbt
  go_enter Tryd.func26, Tryd.ntmps26
  go_wp2_with fail
  refine (has_yes g gw l m mk _ ws a _ Hr.out h1 h2).mono ?_
  rintro e w1 ⟨rfl, n1, rfl⟩
  go_wp2_with fail
  refine (taken_any g gw l m mk _ ws (a - l) _ (Hr.out.drewN n1) hal (by omega)).mono ?_
  rintro e w1 ⟨rfl, rfl⟩
  rw [Hbt.out]
  go_wp2_with fail
  go_ret
  exact ⟨rfl, n1, rfl⟩

set_option maxHeartbeats 1000000 in
theorem give_taken (g gw l m mk : Nat) (T : Nat → Bool) (a : Int) (w : World) (h : Rng w g gw l m mk T) (hp : isPort l m a = true) (hT : T (a - l).toNat = true) :
    Calls Tryd.prog 26 #[.pointer (some ⟨g, 0, none⟩), .int .i64 a] w fun e w' => e = .returned (.int .i64 0) ∧ Rng w' g gw l m mk (upd T (a - l).toNat false) ∧ Kp (fun b => b = g ∨ b = gw) w w' := by
  obtain ⟨ws, hr, h3, h4, h5, h6, h7, h8⟩ := h
  obtain ⟨h1, h2⟩ := isPort_yes hp
  obtain ⟨c0, c1, c2, c3, _, _, b1, b2, b3, b4, b5⟩ := hr.cells
  have hlt : (a - l).toNat < m := by omega
  have hbt : bit ws (a - l).toNat = true := (h4 _ hlt).trans hT
  have hcnt := cnt_give (bit ws) _ m hlt hbt
  have Hcnt := Lib.hid hcnt
  have Hbt := Lib.hid hbt
  have hal : 0 ≤ a - l := by omega
  have Hr := Lib.hid hr
  clear hr hp hT hbt hcnt
  go_enter Tryd.func26, Tryd.ntmps26
  go_wp2_with fail
  refine (has_yes g gw l m mk _ ws a _ Hr.out h1 h2).mono ?_
  rintro e w1 ⟨rfl, n1, rfl⟩
  go_wp2_with fail
  refine (taken_any g gw l m mk _ ws (a - l) _ (Hr.out.drewN n1) hal (by omega)).mono ?_
  rintro e w1 ⟨rfl, rfl⟩
  rw [Hbt.out]
  go_wp2_with fail
  refine (flip_any g gw l m mk _ ws (a - l) _ (Hr.out.drewN n1) hal (by omega) (fun n h1 h2 => by omega)).mono ?_
  rintro e w1 ⟨rfl, hr1, hk1⟩
  obtain ⟨d0, d1, d2, d3, e2, e3, _⟩ := hr1.cells
  have Hr1 := Lib.hid hr1
  clear hr1
  go_wp2_with fail
  go_ret
  have hk2 := Kp.setCell (hk1.mono (T := fun b => b = g ∨ b = gw) (fun k hk => .inr hk)) (p := ⟨g, 3, none⟩) (.inl (.inl rfl)) (.int .i64 (((cnt (bit ws) m : Nat) : Int) + 1))
  refine ⟨rfl, ⟨flipW ws (a - l).toNat, ?_, h3, ?_, ?_, h6.kept hk2.undrewN (by omega), h7, h8⟩, hk2.undrewN⟩
  · have e : cnt (bit (flipW ws (a - l).toNat)) m = cnt (bit ws) m + 1 := by
      have := Hcnt.out
      rw [show cnt (bit (flipW ws (a - l).toNat)) m = cnt (upd (bit ws) (a - l).toNat false) m from cnt_congr _ _ _ (fun j hj => by
        rw [bit_flip, Hbt.out]; rfl)]
      omega
    rw [e, show ((cnt (bit ws) m : Nat) : Int) + 1 = ((cnt (bit ws) m + 1 : Nat) : Int) from by omega]
    exact Hr1.out.put_left _ (by have q1 := Hcnt.out; have q2 := cnt_le (upd (bit ws) (a - l).toNat false) m; omega)
  · intro j hj
    rw [bit_flip, Hbt.out]
    unfold upd
    split
    · rfl
    · exact h4 j hj
  · intro j h1 h2
    rw [bit_flip, if_neg (by omega)]
    exact h5 j h1 h2

set_option maxHeartbeats 400000 in
theorem left_any (g gw l m mk : Nat) (T : Nat → Bool) (w : World) (h : Rng w g gw l m mk T) :
    Calls Tryd.prog 27 #[.pointer (some ⟨g, 0, none⟩)] w fun e w' => e = .returned (.int .i64 (cnt T m)) ∧ w = w' := by
  obtain ⟨ws, hr, h3, h4, h5, h6, h7, h8⟩ := h
  obtain ⟨c0, c1, c2, c3, _⟩ := hr.cells
  have e : cnt (bit ws) m = cnt T m := cnt_congr _ _ _ h4
  rw [e] at c3
  clear hr h4 h5 h6 e
  go_enter Tryd.func27, Tryd.ntmps27
  go_wp2_with fail
  go_ret
  exact ⟨rfl, rfl⟩
theorem many_any (g gw l m mk : Nat) (T : Nat → Bool) (w : World) (h : Rng w g gw l m mk T) :
    Calls Tryd.prog 25 #[.pointer (some ⟨g, 0, none⟩)] w fun e w' => e = .returned (.int .i64 m) ∧ w = w' := by
  obtain ⟨ws, hr, h3, h4, h5, h6, h7, h8⟩ := h
  obtain ⟨c0, c1, c2, c3, _⟩ := hr.cells
  clear hr h4 h5 h6
  go_enter Tryd.func25, Tryd.ntmps25
  go_wp2_with fail
  go_ret
  exact ⟨rfl, rfl⟩

/-- What Taken tells. -/
def isTaken (l m : Nat) (T : Nat → Bool) (a : Int) : Bool := isPort l m a && T (a - l).toNat
set_option maxHeartbeats 400000 in
theorem taken_pub (g gw l m mk : Nat) (T : Nat → Bool) (a : Int) (w : World) (h : Rng w g gw l m mk T) (b1' : -9223372036854775808 ≤ a) (b2' : a ≤ 9223372036854775807) :
    Calls Tryd.prog 20 #[.pointer (some ⟨g, 0, none⟩), .int .i64 a] w fun e w' => e = .returned (.bool (isTaken l m T a)) ∧ ∃ n, w' = w.drewN n := by
  obtain ⟨ws, hr, h3, h4, h5, h6, h7, h8⟩ := h
  obtain ⟨c0, c1, c2, c3, _, _, b1, b2, b3, b4, b5⟩ := hr.cells
  have Hr := Lib.hid hr
  have H4 := Lib.hid h4
  clear hr h4 h5
  cases hp : isPort l m a with
  | false =>
    have hc := isPort_no hp
    have Hp := Lib.hid hp
    clear hp
    go_enter Tryd.func20, Tryd.ntmps20
    go_wp2_with fail
    refine (has_no g gw l m mk _ ws a _ Hr.out b1' b2' hc).mono ?_
    rintro e w1 ⟨rfl, n1, rfl⟩
    clear hc
    go_wp2_with fail
    go_ret
    exact ⟨ret_bool (by unfold isTaken; rw [Hp.out]; rfl), n1, rfl⟩
  | true =>
    obtain ⟨h1, h2⟩ := isPort_yes hp
    have Hp := Lib.hid hp
    have hal : 0 ≤ a - l := by omega
    clear hp
    go_enter Tryd.func20, Tryd.ntmps20
    go_wp2_with fail
    refine (has_yes g gw l m mk _ ws a _ Hr.out h1 h2).mono ?_
    rintro e w1 ⟨rfl, n1, rfl⟩
    go_wp2_with fail
    refine (taken_any g gw l m mk _ ws (a - l) _ (Hr.out.drewN n1) hal (by omega)).mono ?_
    rintro e w1 ⟨rfl, rfl⟩
    go_wp2_with fail
    go_ret
    exact ⟨ret_bool (by unfold isTaken; rw [Hp.out, Bool.true_and, show a.toNat - l = (a - l).toNat from by omega]; exact H4.out _ (by omega)), n1, rfl⟩
end Go.Proofs.YtconpcnmccmbiaaDoor
