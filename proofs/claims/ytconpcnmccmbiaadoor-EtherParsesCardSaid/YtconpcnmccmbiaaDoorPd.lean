/- A range as it is seen from without; Take, Give, Taken, Left, Many. -/
import Derived.Test.YtconpcnmccmbiaaDoorPc
namespace Go.Proofs.YtconpcnmccmbiaaDoor
open Go.RowKit

/-- A range of m ports from l on, with its mark and the taken ones. -/
def Rng (w : World) (g gw l m mk : Nat) (T : Nat → Bool) : Prop :=
  ∃ ws, Raw w g gw l m mk (cnt (bit ws) m) ws ∧ mk < m ∧ (∀ k, k < m → bit ws k = T k) ∧ (∀ k, m ≤ k → k < 64 * ((m + 63) / 64) → bit ws k = true) ∧ Tab w ∧ 2 ≤ g ∧ 2 ≤ gw

theorem Rng.kept {w w' : World} {g gw l m mk : Nat} {T : Nat → Bool} {S : Nat → Prop} (h : Rng w g gw l m mk T) (hk : Kp S w w') (h1 : ¬ S g) (h2 : ¬ S gw) (h3 : ¬ S 1) : Rng w' g gw l m mk T := by
  obtain ⟨ws, a, b, c, d, e, f⟩ := h
  exact ⟨ws, a.kept hk h1 h2, b, c, d, e.kept hk h3, f⟩
theorem Rng.drewN {w : World} {g gw l m mk : Nat} {T : Nat → Bool} (h : Rng w g gw l m mk T) (n : Nat) : Rng (w.drewN n) g gw l m mk T := h
theorem Rng.lt {w : World} {g gw l m mk : Nat} {T : Nat → Bool} (h : Rng w g gw l m mk T) : g < w.heap.size ∧ gw < w.heap.size := by
  obtain ⟨ws, a, r⟩ := h
  exact a.lt
theorem Rng.bounds {w : World} {g gw l m mk : Nat} {T : Nat → Bool} (h : Rng w g gw l m mk T) : 1 ≤ l ∧ 1 ≤ m ∧ l + m ≤ 65536 ∧ mk < m ∧ 2 ≤ g ∧ 2 ≤ gw := by
  obtain ⟨ws, a, b, c, d, e, f1, f2⟩ := h
  obtain ⟨_, _, _, _, _, _, b1, b2, b3, _⟩ := a.cells
  exact ⟨b2, b1, b3, b, f1, f2⟩

theorem has_yes (g gw l m mk lf : Nat) (ws : Nat → Nat) (a : Int) (w : World) (h : Raw w g gw l m mk lf ws) (h1 : (l : Int) ≤ a) (h2 : a < l + m) :
    Calls Tryd.prog 61 #[.pointer (some ⟨g, 0, none⟩), .int .i64 a] w fun e w' => e = .returned (.bool true) ∧ ∃ n, w' = w.drewN n := by
  obtain ⟨_, _, _, _, _, _, b1, b2, b3, _⟩ := h.cells
  refine (has_any g gw l m mk lf ws a w h (by omega) (by omega)).mono ?_
  rintro e w' ⟨rfl, hw⟩
  exact ⟨ret_bool (decide_eq_true ⟨h1, h2⟩), hw⟩
theorem has_no (g gw l m mk lf : Nat) (ws : Nat → Nat) (a : Int) (w : World) (h : Raw w g gw l m mk lf ws) (b1 : -9223372036854775808 ≤ a) (b2 : a ≤ 9223372036854775807) (h1 : ¬ ((l : Int) ≤ a ∧ a < l + m)) :
    Calls Tryd.prog 61 #[.pointer (some ⟨g, 0, none⟩), .int .i64 a] w fun e w' => e = .returned (.bool false) ∧ ∃ n, w' = w.drewN n := by
  refine (has_any g gw l m mk lf ws a w h b1 b2).mono ?_
  rintro e w' ⟨rfl, hw⟩
  exact ⟨ret_bool (decide_eq_false h1), hw⟩

set_option maxHeartbeats 400000 in
theorem take_full (g gw l m mk : Nat) (T : Nat → Bool) (a : Int) (w : World) (h : Rng w g gw l m mk T) (hf : ∀ k, k < m → T k = true) :
    Calls Tryd.prog 24 #[.pointer (some ⟨g, 0, none⟩), .int .i64 a] w fun e w' => e = .returned (.tuple #[.int .i64 0, .int .i64 18]) ∧ w = w' := by
  obtain ⟨ws, hr, _, h3, _⟩ := h
  have hz : cnt (bit ws) m = 0 := cnt_all _ _ (fun k hk => (h3 k hk).trans (hf k hk))
  rw [hz] at hr
  obtain ⟨_, _, _, c3, _⟩ := hr.cells
  clear hz h3 hf hr
  go_enter Tryd.func24, Tryd.ntmps24
  go_wp2_with fail
  go_ret2
  exact ⟨rfl, rfl⟩

/-- A port is laid whose bit was open: the range is as before but for it. -/
theorem Rng.laid {w : World} {g gw l m mk' : Nat} {T : Nat → Bool} {ws : Nat → Nat} {k : Nat} {w2 : World} {S : Nat → Prop} (h4 : ∀ k, k < m → bit ws k = T k) (h5 : ∀ k, m ≤ k → k < 64 * ((m + 63) / 64) → bit ws k = true) (h6 : Tab w) (h7 : 2 ≤ g) (h8 : 2 ≤ gw)
    (hk : k < m) (hb : bit ws k = false) (hr : Raw w2 g gw l m mk' (cnt (bit ws) m - 1) (flipW ws k)) (hmk : mk' < m) (hkp : Kp S w w2) (hS : ¬ S 1) : Rng w2 g gw l m mk' (upd T k true) := by
  have hcnt := cnt_lay (bit ws) _ m hk hb
  refine ⟨flipW ws k, ?_, hmk, ?_, ?_, ?_, h7, h8⟩
  · have e : cnt (bit (flipW ws k)) m = cnt (bit ws) m - 1 := by
      rw [show cnt (bit (flipW ws k)) m = cnt (upd (bit ws) k true) m from cnt_congr _ _ _ (fun j hj => by
        rw [bit_flip, hb]; rfl)]
      omega
    rw [e]; exact hr
  · intro j hj
    rw [bit_flip, hb]
    unfold upd
    split
    · rfl
    · exact h4 j hj
  · intro j h1 h2
    rw [bit_flip, if_neg (by omega)]
    exact h5 j h1 h2
  · exact h6.kept hkp hS

set_option maxHeartbeats 1000000 in
theorem take_wish (g gw l m mk : Nat) (T : Nat → Bool) (a : Int) (w : World) (h : Rng w g gw l m mk T) (h1 : (l : Int) ≤ a) (h2 : a < l + m) (hf : T (a - l).toNat = false) :
    Calls Tryd.prog 24 #[.pointer (some ⟨g, 0, none⟩), .int .i64 a] w fun e w' => e = .returned (.tuple #[.int .i64 a, .int .i64 0]) ∧ Rng w' g gw l m mk (upd T (a - l).toNat true) ∧ Kp (fun b => b = g ∨ b = gw) w w' := by
  obtain ⟨ws, hr, h3, h4, h5, h6, h7, h8⟩ := h
  obtain ⟨c0, c1, c2, c3, _, _, b1, b2, b3, b4, b5⟩ := hr.cells
  have hlt : (a - l).toNat < m := by omega
  have hbit : bit ws (a - l).toNat = false := (h4 _ hlt).trans hf
  have hcnt := cnt_lay (bit ws) _ m hlt hbit
  have hpos : ((cnt (bit ws) m : Nat) : Int) ≠ 0 := by omega
  have hpos2 : (((cnt (bit ws) m : Nat) : Int) == 0) = false := by simpa using hpos
  have Hcnt := Lib.hid hcnt
  have Hbit := Lib.hid hbit
  have Hr := Lib.hid hr
  have hal : 0 ≤ a - l := by omega
  clear hcnt hbit hr hpos hf
  go_enter Tryd.func24, Tryd.ntmps24
  go_wp2_with fail
  refine (has_yes g gw l m mk _ ws a _ Hr.out h1 h2).mono ?_
  rintro e w1 ⟨rfl, n1, rfl⟩
  go_wp2_with fail
  refine (taken_any g gw l m mk _ ws (a - l) _ (Hr.out.drewN n1) hal (by omega)).mono ?_
  rintro e w1 ⟨rfl, rfl⟩
  rw [Hbit.out]
  go_wp2_with fail
  refine (lay_any g gw l m mk _ ws (a - l) _ (Hr.out.drewN n1) hal (by omega) (by have := Hcnt.out; omega)).mono ?_
  rintro e w1 ⟨rfl, hr1, hk1⟩
  have Hr1 := Lib.hid hr1
  clear hr1
  go_wp2_with fail
  go_ret2
  exact ⟨ret_two (by omega) rfl, Rng.laid h4 h5 h6 h7 h8 hlt Hbit.out Hr1.out h3 hk1.undrewN (by omega), hk1.undrewN⟩

theorem next_of_free {ws : Nat → Nat} {T : Nat → Bool} {m : Nat} (h4 : ∀ k, k < m → bit ws k = T k) (h5 : ∀ k, m ≤ k → k < 64 * ((m + 63) / 64) → bit ws k = true) {a k : Nat} (h : First (bit ws) a (64 * ((m + 63) / 64)) k) : First T a m k := by
  obtain ⟨f1, f2, f3, f4⟩ := h
  have hk : k < m := by
    apply Classical.byContradiction
    intro hn
    rw [h5 k (by omega) f2] at f3
    cases f3
  exact ⟨f1, hk, (h4 k hk).symm.trans f3, fun j h1 h2 => (h4 j (by omega)).symm.trans (f4 j h1 h2)⟩
theorem full_of_free {ws : Nat → Nat} {T : Nat → Bool} {m : Nat} (h4 : ∀ k, k < m → bit ws k = T k) {a : Nat} (h : Full (bit ws) a (64 * ((m + 63) / 64))) : Full T a m :=
  fun j h1 h2 => (h4 j h2).symm.trans (h j h1 (by omega))

set_option maxHeartbeats 2000000 in
theorem take_next (g gw l m mk : Nat) (T : Nat → Bool) (a : Int) (k : Nat) (w : World) (h : Rng w g gw l m mk T) (b1' : -9223372036854775808 ≤ a) (b2' : a ≤ 9223372036854775807)
    (hc : ¬ ((l : Int) ≤ a ∧ a < l + m) ∨ ((l : Int) ≤ a ∧ a < l + m) ∧ T (a - l).toNat = true) (hnx : Next T mk m k) :
    Calls Tryd.prog 24 #[.pointer (some ⟨g, 0, none⟩), .int .i64 a] w fun e w' => e = .returned (.tuple #[.int .i64 ((k : Int) + l), .int .i64 0]) ∧ Rng w' g gw l m ((k + 1) % m) (upd T k true) ∧ Kp (fun b => b = g ∨ b = gw) w w' := by
  obtain ⟨ws, hr, h3, h4, h5, h6, h7, h8⟩ := h
  obtain ⟨c0, c1, c2, c3, f2, f3, b1, b2, b3, b4, b5⟩ := hr.cells
  have hlt := hnx.lt
  have hfree := hnx.free
  have hbit : bit ws k = false := (h4 _ hlt).trans hfree
  have hcnt := cnt_lay (bit ws) _ m hlt hbit
  have hpos : ((cnt (bit ws) m : Nat) : Int) ≠ 0 := by omega
  have hpos2 : (((cnt (bit ws) m : Nat) : Int) == 0) = false := by simpa using hpos
  have Hcnt := Lib.hid hcnt
  have Hbit := Lib.hid hbit
  have Hr := Lib.hid hr
  have H4 := Lib.hid h4
  have H5 := Lib.hid h5
  have H6 := Lib.hid h6
  have Hnx := Lib.hid hnx
  have hm0 : ((k : Int) + 1) % (m : Int) = (((k + 1) % m : Nat) : Int) := by simp
  have Hm0 := Lib.hid hm0
  have hkm : (0 : Int) ≤ ((k : Int) + 1) := by omega
  have hm1 : (1 : Int) ≤ (m : Int) := by omega
  clear hcnt hbit hr hpos hfree h4 h5 h6 hnx hm0
  go_enter Tryd.func24, Tryd.ntmps24
  go_wp2_with fail
  rcases hc with hc | ⟨⟨hc1, hc2⟩, hc3⟩
  all_goals first
    | (refine (has_no g gw l m mk _ ws a _ Hr.out b1' b2' hc).mono ?_
       rintro e w1 ⟨rfl, n1, rfl⟩
       clear hc
       go_wp2_with fail)
    | (refine (has_yes g gw l m mk _ ws a _ Hr.out hc1 hc2).mono ?_
       rintro e w1 ⟨rfl, n1, rfl⟩
       have hbt : bit ws (a - l).toNat = true := (H4.out _ (by omega)).trans hc3
       have Hbt := Lib.hid hbt
       have hal : 0 ≤ a - l := by omega
       clear hc3 hbt
       go_wp2_with fail
       refine (taken_any g gw l m mk _ ws (a - l) _ (Hr.out.drewN n1) hal (by omega)).mono ?_
       rintro e w1 ⟨rfl, rfl⟩
       rw [Hbt.out]
       go_wp2_with fail)
  all_goals
    refine (free_any g gw l m mk _ ws mk _ (Hr.out.drewN n1) H6.out (by omega) (by omega)).mono ?_
    rintro e w1 ⟨r, rfl, hf, rfl⟩
    rcases hf with ⟨j, rfl, hf⟩ | ⟨rfl, hf⟩
    all_goals first
      | (obtain rfl : k = j := Hnx.out.unique (.inl (next_of_free H4.out H5.out hf))
         have hk0 : (0 : Int) ≤ (k : Int) := by omega
         clear hf
         go_wp2_with fail)
      | (have Hf := Lib.hid hf
         clear hf
         go_wp2_with fail
         refine (free_any g gw l m mk _ ws 0 _ (Hr.out.drewN n1) H6.out (by omega) (by omega)).mono ?_
         rintro e w1 ⟨r, rfl, hf, rfl⟩
         have hf2 : ∃ j : Nat, r = j ∧ First (bit ws) 0 (64 * ((m + 63) / 64)) j := by
           rcases hf with hf | ⟨_, hf⟩
           · exact hf
           · exact absurd (hf k (Nat.zero_le _) (by omega)) (by rw [Hbit.out]; simp)
         obtain ⟨j, rfl, hf3⟩ := hf2
         obtain rfl : k = j := Hnx.out.unique (.inr ⟨full_of_free H4.out Hf.out, next_of_free H4.out H5.out hf3⟩)
         have hk0 : (0 : Int) ≤ (k : Int) := by omega
         clear hf hf3
         go_wp2_with fail)
    all_goals
      rw [Hm0.out]
      have hr2 := (Hr.out.drewN n1).put_mark ((k + 1) % m) (by have := Nat.mod_lt (k + 1) (show m > 0 by omega); omega)
      refine (lay_any g gw l m _ _ ws k _ hr2 hk0 (by omega) (by have := Hcnt.out; omega)).mono ?_
      rintro e w1 ⟨rfl, hr1, hk1⟩
      have hk2 := Kp.trans' (Kp.setCell (Kp.refl (fun b => b = g ∨ b = gw) (w.drewN n1)) (p := ⟨g, 2, none⟩) (.inl (.inl rfl)) _) hk1
      have Hr1 := Lib.hid hr1
      clear hr1 hr2
      go_wp2_with fail
      go_ret2
      exact ⟨ret_two rfl rfl, Rng.laid H4.out H5.out H6.out h7 h8 (by omega) Hbit.out Hr1.out (Nat.mod_lt _ (by omega)) hk2.undrewN (by omega), hk2.undrewN⟩
end Go.Proofs.YtconpcnmccmbiaaDoor
