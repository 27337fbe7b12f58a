/- Both ranges together: each call turns one of them and leaves the other. -/
import Derived.Test.YtconpcnmccmbiaaDoorQf
import Derived.Test.YtconpcnmccmbiaaDoorQg
namespace Go.Proofs.YtconpcnmccmbiaaDoor
open Go.RowKit

/-- The program's range and the reference's, side by side. -/
def Pr (w : World) (g1 gw g l m mk : Nat) (T : Nat → Bool) (mk2 : Nat) (U : Nat → Bool) : Prop := Rng w g1 gw l m mk T ∧ ∃ o, Ref w g o l m mk2 U
/-- The blocks that both turn. -/
def S3 (g1 gw g : Nat) (b : Nat) : Prop := b = g1 ∨ b = gw ∨ b = g
theorem Pr.drewN {w : World} {g1 gw g l m mk mk2 : Nat} {T U : Nat → Bool} (h : Pr w g1 gw g l m mk T mk2 U) (n : Nat) : Pr (w.drewN n) g1 gw g l m mk T mk2 U := h
theorem Pr.lt {w : World} {g1 gw g l m mk mk2 : Nat} {T U : Nat → Bool} (h : Pr w g1 gw g l m mk T mk2 U) : g1 < w.heap.size ∧ gw < w.heap.size ∧ g < w.heap.size := by
  obtain ⟨h1, o, h2⟩ := h
  exact ⟨h1.lt.1, h1.lt.2, h2.lt.1⟩
theorem Pr.two {w : World} {g1 gw g l m mk mk2 : Nat} {T U : Nat → Bool} (h : Pr w g1 gw g l m mk T mk2 U) : 2 ≤ g1 ∧ 2 ≤ gw ∧ 2 ≤ g := by
  obtain ⟨h1, o, v, _, _, _, _, _, _, _, h2⟩ := h
  obtain ⟨_, _, _, _, a, b⟩ := h1.bounds
  exact ⟨a, b, h2⟩
theorem Pr.left {w w' : World} {g1 gw g l m mk mk2 mk' : Nat} {T U T' : Nat → Bool} (h : Pr w g1 gw g l m mk T mk2 U) (hr : Rng w' g1 gw l m mk' T') (hk : Kp (fun b => b = g1 ∨ b = gw) w w') : Pr w' g1 gw g l m mk' T' mk2 U ∧ Kp (S3 g1 gw g) w w' := by
  obtain ⟨h1, o, h2⟩ := h
  obtain ⟨a, b, c⟩ := h2.apart h1
  exact ⟨⟨hr, o, h2.kept hk (by rintro (h | h); exact a h; exact b h) (fun k hk => by rintro (h | h); exact (c k hk).1 h; exact (c k hk).2 h)⟩, hk.mono (by rintro k (h | h); exact .inl h; exact .inr (.inl h))⟩
theorem Pr.right {w w' : World} {g1 gw g l m mk mk2 mk' : Nat} {T U U' : Nat → Bool} {o' : Option Nat} (h : Pr w g1 gw g l m mk T mk2 U) (hr : Ref w' g o' l m mk' U') (hk : Kp (fun b => b = g) w w') : Pr w' g1 gw g l m mk T mk' U' ∧ Kp (S3 g1 gw g) w w' := by
  have h0 := h.two
  obtain ⟨h1, o, h2⟩ := h
  obtain ⟨a, b, c⟩ := h2.apart h1
  exact ⟨⟨h1.kept hk (fun h => a h.symm) (fun h => b h.symm) (fun h => by omega), o', hr⟩, hk.mono (fun k h => .inr (.inr h))⟩
theorem Pr.kept {w w' : World} {g1 gw g l m mk mk2 : Nat} {T U : Nat → Bool} {S : Nat → Prop} (h : Pr w g1 gw g l m mk T mk2 U) (hk : Kp S w w') (hS : ∀ k, k < w.heap.size → ¬ S k) : Pr w' g1 gw g l m mk T mk2 U := by
  obtain ⟨h1, o, h2⟩ := h
  exact ⟨h1.kept hk (hS _ h1.lt.1) (hS _ h1.lt.2) (hS _ (by have := h1.lt; have := h1.bounds; omega)), o, h2.kept hk (hS _ h2.lt.1) (fun k hk => hS _ (h2.lt.2 k hk))⟩

theorem TakeIs.same {l m mk : Nat} {T : Nat → Bool} {a : Int} {k mk' k2 mk2 : Nat} (h : TakeIs l m mk T a k mk') (h' : TakeIs l m mk T a k2 mk2) : k = k2 ∧ mk' = mk2 := by
  rcases h with ⟨a1, a2, rfl, rfl⟩ | ⟨a1, a2, rfl⟩ <;> rcases h' with ⟨b1, b2, rfl, rfl⟩ | ⟨b1, b2, rfl⟩
  · exact ⟨rfl, rfl⟩
  · rcases b1 with b1 | b1
    · rw [a1] at b1; cases b1
    · rw [a2] at b1; cases b1
  · rcases a1 with a1 | a1
    · rw [b1] at a1; cases a1
    · rw [b2] at a1; cases a1
  · have := a2.unique b2
    subst this
    exact ⟨rfl, rfl⟩

theorem rtake_any (g l m mk k mk' : Nat) (o : Option Nat) (T : Nat → Bool) (a : Int) (w : World) (h : Ref w g o l m mk T) (b1' : -9223372036854775808 ≤ a) (b2' : a ≤ 9223372036854775807) (hmk : mk < m) (ht : TakeIs l m mk T a k mk') :
    Calls Tryd.prog 59 #[.pointer (some ⟨g, 0, none⟩), .int .i64 a] w fun e w' => e = .returned (.tuple #[.int .i64 ((k : Int) + l), .int .i64 0]) ∧ (∃ o', Ref w' g o' l m mk' (upd T k true)) ∧ Kp (fun b => b = g) w w' := by
  rcases ht with ⟨h1, h2, rfl, rfl⟩ | ⟨h1, h2, rfl⟩
  · refine (rtake_wish g l m mk' o T a w h h1 h2).mono ?_
    rintro e w' ⟨rfl, ⟨o', hr, _⟩, hk⟩
    have := isPort_yes h1
    exact ⟨ret_two (by omega) rfl, ⟨o', hr⟩, hk⟩
  · refine (rtake_next g l m mk k o T a w h b1' b2' hmk h1 h2).mono ?_
    rintro e w' ⟨rfl, ⟨o', hr, _⟩, hk⟩
    exact ⟨rfl, ⟨o', hr⟩, hk⟩

theorem Pr.take1 {w : World} {g1 gw g l m mk mk2 : Nat} {T U : Nat → Bool} (h : Pr w g1 gw g l m mk T mk2 U) (a : Int) (b1' : -9223372036854775808 ≤ a) (b2' : a ≤ 9223372036854775807) (hc : cnt T m ≠ 0) :
    Calls Tryd.prog 24 #[.pointer (some ⟨g1, 0, none⟩), .int .i64 a] w fun e w' => ∃ k mk', TakeIs l m mk T a k mk' ∧ e = .returned (.tuple #[.int .i64 ((k : Int) + l), .int .i64 0]) ∧ Pr w' g1 gw g l m mk' (upd T k true) mk2 U ∧ Kp (S3 g1 gw g) w w' := by
  refine (take_any g1 gw l m mk T a w h.1 b1' b2' hc).mono ?_
  rintro e w' ⟨k, mk', h1, h2, h3, h4⟩
  exact ⟨k, mk', h1, h2, h.left h3 h4⟩
theorem Pr.take2 {w : World} {g1 gw g l m mk mk2 : Nat} {T U : Nat → Bool} (h : Pr w g1 gw g l m mk T mk2 U) {k mk' : Nat} (a : Int) (b1' : -9223372036854775808 ≤ a) (b2' : a ≤ 9223372036854775807) (hmk : mk2 < m) (ht : TakeIs l m mk2 U a k mk') :
    Calls Tryd.prog 59 #[.pointer (some ⟨g, 0, none⟩), .int .i64 a] w fun e w' => e = .returned (.tuple #[.int .i64 ((k : Int) + l), .int .i64 0]) ∧ Pr w' g1 gw g l m mk T mk' (upd U k true) ∧ Kp (S3 g1 gw g) w w' := by
  obtain ⟨o, h2⟩ := h.2
  refine (rtake_any g l m mk2 k mk' o U a w h2 b1' b2' hmk ht).mono ?_
  rintro e w' ⟨h1, ⟨o', h3⟩, h4⟩
  exact ⟨h1, h.right h3 h4⟩
theorem Pr.give1 {w : World} {g1 gw g l m mk mk2 : Nat} {T U : Nat → Bool} (h : Pr w g1 gw g l m mk T mk2 U) (a : Int) (b1' : -9223372036854775808 ≤ a) (b2' : a ≤ 9223372036854775807) :
    Calls Tryd.prog 26 #[.pointer (some ⟨g1, 0, none⟩), .int .i64 a] w fun e w' => e = .returned (.int .i64 (giveE l m T a)) ∧ Pr w' g1 gw g l m mk (giveT l m T a) mk2 U ∧ Kp (S3 g1 gw g) w w' := by
  refine (give_any g1 gw l m mk T a w h.1 b1' b2').mono ?_
  rintro e w' ⟨h1, h3, h4⟩
  exact ⟨h1, h.left h3 h4⟩
theorem Pr.give2 {w : World} {g1 gw g l m mk mk2 : Nat} {T U : Nat → Bool} (h : Pr w g1 gw g l m mk T mk2 U) (a : Int) :
    Calls Tryd.prog 60 #[.pointer (some ⟨g, 0, none⟩), .int .i64 a] w fun e w' => e = .returned (.int .i64 (giveE l m U a)) ∧ Pr w' g1 gw g l m mk T mk2 (giveT l m U a) ∧ Kp (S3 g1 gw g) w w' := by
  obtain ⟨o, h2⟩ := h.2
  cases hp : isPort l m a with
  | false =>
    refine (rgive_out g l m mk2 o U a w h2 hp).mono ?_
    rintro e w' ⟨rfl, rfl⟩
    refine ⟨by simp [giveE, hp], ?_, Kp.refl _ _⟩
    simpa [giveT, isTaken, hp] using h
  | true =>
    refine (rgive_in g l m mk2 o U a w h2 hp).mono ?_
    rintro e w' ⟨h1, ⟨o', h3, _⟩, h4⟩
    exact ⟨h1, h.right h3 h4⟩
theorem sameInts_self (A B : Option Addr) (c d : Nat) (xs : List Int) (w : World) (hx : RdI w .i64 A xs) (hy : RdI w .i64 B xs) :
    Calls Tryd.prog 32 #[.slice A xs.length c, .slice B xs.length d] w fun e w' => e = .returned (.bool true) ∧ ∃ n, w' = w.drewN n := by
  refine (sameInts_any A B c d xs xs w hx hy).mono ?_
  rintro e w' ⟨rfl, h⟩
  exact ⟨by simp, h⟩
theorem all_rd (g gw l m mk : Nat) (T : Nat → Bool) (w : World) (h : Rng w g gw l m mk T) :
    Calls Tryd.prog 28 #[.pointer (some ⟨g, 0, none⟩)] w fun e w' => ∃ A c, e = .returned (.slice A (takenL T l m).length c) ∧ RdI w' .i64 A (takenL T l m) ∧ Kp (fun _ => False) w w' := by
  refine (all_any g gw l m mk T w h).mono ?_
  rintro e w' ⟨v, rfl, h1, h2⟩
  obtain ⟨A, c, rfl, _, h3, _⟩ := RdI.of_own (k := .i64) (xs := takenL T l m) h1
  exact ⟨A, c, rfl, h3, h2⟩
end Go.Proofs.YtconpcnmccmbiaaDoor
