/- The reference's Take. -/
import Derived.Test.YtconpcnmccmbiaaDoorQc
namespace Go.Proofs.YtconpcnmccmbiaaDoor
open Go.RowKit

theorem Ref.put_mark {w : World} {g l m mk : Nat} {o : Option Nat} {T : Nat → Bool} (h : Ref w g o l m mk T) (t : Nat) (ht : t ≤ m) : Ref (w.setCell ⟨g, 2, none⟩ (.int .i64 ((l : Int) + t))) g o l m t T := by
  obtain ⟨v, a, b, c, d1, d2, d3, d4, d5⟩ := h
  refine ⟨v, by simpa using a.put 2 (.int .i64 ((l : Int) + t)), b, ?_, d1, d2, d3, ht, d5⟩
  refine own_kp c ((Kp.refl (fun b => b = g) w).setCell (p := ⟨g, 2, none⟩) (.inl rfl) _) (fun k hk => ?_)
  rintro rfl
  rcases c.2 with ⟨rfl, _⟩ | ⟨gg, cap, cur, rfl, _, hh, _⟩
  · cases hk
  · have : gg = k := by simpa [Value.ownBlock] using hk
    subst this
    exact Bk.ne_of (t := 3) hh a (by decide) rfl
theorem Ref.at2 {w : World} {g l m mk : Nat} {o : Option Nat} {T : Nat → Bool} (h : Ref w g o l m mk T) : w.cell? ⟨g, 2, none⟩ = some (.int .i64 ((l : Int) + mk)) := h.cells.2.2.1

set_option maxRecDepth 100000 in
set_option maxHeartbeats 1000000 in
theorem rtake_full (g l m mk : Nat) (o : Option Nat) (T : Nat → Bool) (a : Int) (w : World) (h : Ref w g o l m mk T) (hf : cnt T m = 0) :
    Calls Tryd.prog 59 #[.pointer (some ⟨g, 0, none⟩), .int .i64 a] w fun e w' => e = .returned (.tuple #[.int .i64 0, .int .i64 18]) ∧ ∃ n, w' = w.drewN n := by
  obtain ⟨c0, c1, c2, f2, f3, A, c, c3, hrd, hl1, hl2, hl3, hA0⟩ := h.cells
  have hb := h
  obtain ⟨_, _, _, _, b1, b2, b3, b4, b5⟩ := hb
  have hlen : (takenL T l m).length = m := by have := takenL_cnt T l m; omega
  rw [hlen] at c3
  generalize hq : (l : Int) + m - 1 = q at c1
  have q1 : q - l + 1 = (m : Int) := by omega
  have q2 : (0 : Int) ≤ q := by omega
  have q3 : q ≤ 65536 := by omega
  clear hrd hl1 hl2 hA0 hf hlen h hq
  go_enter Tryd.func59, Tryd.ntmps59
  go_wp2_with fail
  go_quiet (fail)
  go_wp2_with fail
  go_ret2
  exact ⟨rfl, _, rfl⟩

set_option maxRecDepth 100000 in
set_option maxHeartbeats 2000000 in
theorem rtake_wish (g l m mk : Nat) (o : Option Nat) (T : Nat → Bool) (a : Int) (w : World) (h : Ref w g o l m mk T) (hp : isPort l m a = true) (hT : T (a - l).toNat = false) :
    Calls Tryd.prog 59 #[.pointer (some ⟨g, 0, none⟩), .int .i64 a] w fun e w' => e = .returned (.tuple #[.int .i64 a, .int .i64 0]) ∧ (∃ o', Ref w' g o' l m mk (upd T (a - l).toNat true) ∧ ∀ j, o' = some j → w.heap.size ≤ j) ∧ Kp (fun b => b = g) w w' := by
  obtain ⟨hp1, hp2⟩ := isPort_yes hp
  obtain ⟨c0, c1, c2, f2, f3, A, c, c3, hrd, hl1, hl2, hl3, hA0⟩ := h.cells
  have hb := h
  obtain ⟨_, _, _, _, b1, b2, b3, b4, b5⟩ := hb
  have hlen : (takenL T l m).length ≠ m := by
    have h1 := takenL_cnt T l m
    have h2 := cnt_lay T _ m (show (a - l).toNat < m by omega) hT
    omega
  generalize (takenL T l m).length = len at c3 hl1 hl2 hlen
  generalize hq : (l : Int) + m - 1 = q at c1
  have q1 : q - l + 1 = (m : Int) := by omega
  have q2 : (0 : Int) ≤ q := by omega
  have q3 : q ≤ 65536 := by omega
  have q4 : ((len : Int) == (m : Int)) = false := by simp; omega
  have q5 : a ≤ q := by omega
  have htk : isTaken l m T a = false := by unfold isTaken; rw [hp, hT]; rfl
  have Htk := Lib.hid htk
  have H := Lib.hid h
  have HT := Lib.hid hT
  clear hrd hA0 hlen h hq htk hp hT
  go_enter Tryd.func59, Tryd.ntmps59
  go_wp2_with fail
  go_quiet (fail)
  go_wp2_with fail
  refine (rhas_any g l m mk o T a _ (H.out.drewN nq)).mono ?_
  rintro e w1 ⟨rfl, rfl⟩
  rw [Htk.out]
  go_wp2_with fail
  refine (rlay_any g l m mk (a - l).toNat o T a _ (H.out.drewN nq) (by omega) HT.out (by omega)).mono ?_
  rintro e w1 ⟨rfl, hr, hk⟩
  have Hr := Lib.hid hr
  have Hk := Lib.hid hk
  clear hr hk
  go_wp2_with fail
  go_ret2
  exact ⟨rfl, Hr.out, Hk.out.undrewN⟩

/-- How many steps from a mark on to k, round the end. -/
def dist (k m t : Nat) : Nat := if t ≤ k then k - t else m - t + k
/-- From a mark on all are taken, up to k. -/
def Way (T : Nat → Bool) (m k t : Nat) : Prop := t < m ∧ k < m ∧ T k = false ∧ (if t ≤ k then (∀ j, t ≤ j → j < k → T j = true) else (∀ j, t ≤ j → j < m → T j = true) ∧ ∀ j, j < k → T j = true)
theorem Way.of_next {T : Nat → Bool} {m k mk : Nat} (h : Next T mk m k) (hm : mk < m) : Way T m k mk := by
  rcases h with ⟨h1, h2, h3, h4⟩ | ⟨hf, h1, h2, h3, h4⟩
  · exact ⟨hm, h2, h3, by rw [if_pos h1]; exact h4⟩
  · refine ⟨hm, h2, h3, ?_⟩
    have hlt : k < mk := by
      apply Classical.byContradiction
      intro hn
      have := hf k (by omega) h2
      rw [h3] at this
      cases this
    rw [if_neg (by omega)]
    exact ⟨hf, fun j hj => h4 j (by omega) hj⟩
theorem Way.step {T : Nat → Bool} {m k t : Nat} (h : Way T m k t) (hne : t ≠ k) : T t = true ∧ Way T m k (if t + 1 < m then t + 1 else 0) ∧ dist k m (if t + 1 < m then t + 1 else 0) < dist k m t := by
  obtain ⟨h1, h2, h3, h4⟩ := h
  unfold dist
  by_cases hk : t ≤ k
  · rw [if_pos hk] at h4
    have h5 : t + 1 < m := by omega
    rw [if_pos h5, if_pos hk, if_pos (by omega)]
    exact ⟨h4 t (Nat.le_refl _) (by omega), ⟨h5, h2, h3, by rw [if_pos (by omega)]; exact fun j a b => h4 j (by omega) b⟩, by omega⟩
  · rw [if_neg hk] at h4
    rw [if_neg hk]
    by_cases h5 : t + 1 < m
    · rw [if_pos h5, if_neg (by omega)]
      exact ⟨h4.1 t (Nat.le_refl _) h1, ⟨h5, h2, h3, by rw [if_neg (by omega)]; exact ⟨fun j a b => h4.1 j (by omega) b, h4.2⟩⟩, by omega⟩
    · rw [if_neg h5, if_pos (Nat.zero_le _)]
      exact ⟨h4.1 t (Nat.le_refl _) h1, ⟨by omega, h2, h3, by rw [if_pos (Nat.zero_le _)]; exact fun j a b => h4.2 j b⟩, by omega⟩

set_option maxRecDepth 100000 in
set_option maxHeartbeats 4000000 in
theorem rtake_next (g l m mk k : Nat) (o : Option Nat) (T : Nat → Bool) (a : Int) (w : World) (h : Ref w g o l m mk T) (b1' : -9223372036854775808 ≤ a) (b2' : a ≤ 9223372036854775807) (hmk : mk < m)
    (hc : isPort l m a = false ∨ T (a - l).toNat = true) (hnx : Next T mk m k) :
    Calls Tryd.prog 59 #[.pointer (some ⟨g, 0, none⟩), .int .i64 a] w fun e w' => e = .returned (.tuple #[.int .i64 ((k : Int) + l), .int .i64 0]) ∧ (∃ o', Ref w' g o' l m ((k + 1) % m) (upd T k true) ∧ ∀ j, o' = some j → w.heap.size ≤ j) ∧ Kp (fun b => b = g) w w' := by
  obtain ⟨c0, c1, c2, f2, f3, A, c, c3, hrd, hl1, hl2, hl3, hA0⟩ := h.cells
  have hb := h
  obtain ⟨_, _, _, _, b1, b2, b3, b4, b5⟩ := hb
  have hlt := h.lt
  have hlen : (takenL T l m).length ≠ m := by
    have h1 := takenL_cnt T l m
    have h2 := cnt_lay T k m hnx.lt hnx.free
    omega
  generalize (takenL T l m).length = len at c3 hl1 hl2 hlen
  generalize hq : (l : Int) + m - 1 = q at c1
  have q1 : q - l + 1 = (m : Int) := by omega
  have q2 : (0 : Int) ≤ q := by omega
  have q3 : q ≤ 65536 := by omega
  have q4 : ((len : Int) == (m : Int)) = false := by simp; omega
  have H := Lib.hid h
  have Hnx := Lib.hid hnx
  have Hq := Lib.hid hq
  have hcase : a < (l : Int) ∨ (l : Int) ≤ a ∧ q < a ∨ ((l : Int) ≤ a ∧ a ≤ q) ∧ isTaken l m T a = true := by
    by_cases h1 : a < (l : Int)
    · exact .inl h1
    · by_cases h2 : q < a
      · exact .inr (.inl ⟨by omega, h2⟩)
      · have hp : isPort l m a = true := decide_eq_true (by omega)
        refine .inr (.inr ⟨by omega, ?_⟩)
        unfold isTaken
        rw [hp] at hc ⊢
        simpa using hc
  clear hrd hA0 hlen h hq hc hnx
  go_enter Tryd.func59, Tryd.ntmps59
  go_wp2_with fail
  go_quiet (fail)
  rcases hcase with hA | ⟨hB1, hB2⟩ | ⟨⟨hC1, hC2⟩, hC3⟩
  all_goals first
    | (have hA0 := hA
       go_wp2_with fail
       have Hn : Hid True := trivial)
    | (have hB0 := hB2
       go_wp2_with fail
       have Hn : Hid True := trivial)
    | (have HC := Lib.hid hC3
       clear hC3
       go_wp2_with fail
       refine (rhas_any g l m mk o T a _ (H.out.drewN nq)).mono ?_
       rintro e w1 ⟨rfl, rfl⟩
       rw [HC.out]
       go_wp2_with fail
       have Hn : Hid True := trivial)
  all_goals
    go_loopw [6] (fun _ wr => ∃ t : Nat, Way T m k t ∧ Ref wr g o l m t T ∧ Kp (fun b => b = g) w wr) (fun _ wr => dist k m (intOf ((wr.cell? ⟨g, 2, none⟩).getD (.bool false)) - l).toNat)
    case atStart => exact ⟨mk, Way.of_next Hnx.out hmk, H.out.drewN nq, (Kp.refl _ _).drewN _⟩
    case round =>
      obtain ⟨t, hw, hr, hk⟩ := hrel
      obtain ⟨d0, d1, d2, e2, e3, _⟩ := hr.cells
      rw [Hq.out] at d1
      have htm := hw.1
      have hrl := hr.lt
      have Hw := Lib.hid hw
      have Hr := Lib.hid hr
      have Hk := Lib.hid hk
      clear hw hr hk
      have hr1 : Ref (wr.setCell ⟨g, 2, none⟩ (.int .i64 ((l : Int) + t + 1))) g o l m (t + 1) T := by
        have := Hr.out.put_mark (t + 1) (by omega)
        rwa [show ((l : Int) + ((t + 1 : Nat) : Int)) = (l : Int) + t + 1 from by omega] at this
      have hk1 := Kp.setCell Hk.out (p := ⟨g, 2, none⟩) (.inl rfl) (.int .i64 ((l : Int) + t + 1))
      have hd1 := hr1.cells.2.1
      have hd2 := hr1.cells.2.2.1
      rw [Hq.out] at hd1
      rw [show ((l : Int) + ((t + 1 : Nat) : Int)) = (l : Int) + t + 1 from by omega] at hd2
      have hd3 := hr1.cells.2.2.2.1
      have Hr1 := Lib.hid hr1
      have Hk1 := Lib.hid hk1
      have hqq := Hq.out
      clear hr1 hk1
      by_cases hend : t + 1 < m
      · have hgt : ¬ (q < (l : Int) + t + 1) := by omega
        have Hqq := Lib.hid hqq
        clear hqq
        go_wp2_with fail
        go_quiet (fail)
        go_wp2_with fail
        by_cases htk : t = k
        · subst htk
          have hf : isTaken l m T ((l : Int) + t) = false := by
            unfold isTaken
            rw [show (((l : Int) + (t : Int)) - (l : Int)).toNat = t from by omega, Hw.out.2.2.1]; simp
          have Hf := Lib.hid hf
          clear hf
          refine (rhas_any g l m (t + 1) o T _ _ (Hr1.out.drewN nq)).mono ?_
          rintro e w1 ⟨rfl, rfl⟩
          rw [Hf.out]
          go_wp2_with fail
          refine (rlay_any g l m (t + 1) t o T _ _ (Hr1.out.drewN nq) htm Hw.out.2.2.1 (by omega)).mono ?_
          rintro e w1 ⟨rfl, hr5, hk5⟩
          obtain ⟨o', hr5, ho5⟩ := hr5
          have Hr5 := Lib.hid hr5
          have Hk5 := Lib.hid hk5
          have hks := (Hk1.out.drewN nq)
          clear hr5 hk5
          go_wp2_with fail
          go_ret2
          refine ⟨ret_two (by omega) rfl, ⟨o', by rw [show (t + 1) % m = t + 1 from Nat.mod_eq_of_lt hend]; exact Hr5.out, fun j hj => Nat.le_trans hks.size (ho5 j hj)⟩, hks.trans' Hk5.out⟩
        · obtain ⟨s1, s2, s3⟩ := Hw.out.step htk
          rw [if_pos hend] at s2 s3
          have hf : isTaken l m T ((l : Int) + t) = true := by
            unfold isTaken isPort
            rw [show (((l : Int) + (t : Int)) - (l : Int)).toNat = t from by omega, s1, decide_eq_true (by omega)]; rfl
          have Hf := Lib.hid hf
          have Hs2 := Lib.hid s2
          have Hs3 := Lib.hid s3
          clear hf s1 s2 s3
          refine (rhas_any g l m (t + 1) o T _ _ (Hr1.out.drewN nq)).mono ?_
          rintro e w1 ⟨rfl, rfl⟩
          rw [Hf.out]
          go_wp2_with fail
          go_roundw
          case rel => exact ⟨(t + 1), Hs2.out, (Hr1.out.drewN nq), (Hk1.out.drewN nq)⟩
          case measure =>
            rw [Ref.at2 (Hr1.out.drewN nq), d2]
            simp only [Option.getD_some, intOf]
            rw [show ((l : Int) + ((t + 1 : Nat) : Int) - (l : Int)).toNat = t + 1 from by omega, show ((l : Int) + (t : Int) - (l : Int)).toNat = t from by omega]
            exact Hs3.out
      · have hgt : q < (l : Int) + t + 1 := by omega
        have Hqq := Lib.hid hqq
        clear hqq
        go_wp2_with fail
        go_quiet (fail)
        go_wp2_with fail
        have hr2 := (Hr1.out.drewN nq).put_mark 0 (Nat.zero_le _)
        have hk2 := Kp.setCell (Hk1.out.drewN nq) (p := ⟨g, 2, none⟩) (.inl rfl) (.int .i64 ((l : Int) + ((0 : Nat) : Int)))
        rw [show ((l : Int) + ((0 : Nat) : Int)) = (l : Int) from by omega] at hr2 hk2
        have Hr2 := Lib.hid hr2
        have Hk2 := Lib.hid hk2
        clear hr2 hk2
        by_cases htk : t = k
        · subst htk
          have hf : isTaken l m T ((l : Int) + t) = false := by
            unfold isTaken
            rw [show (((l : Int) + (t : Int)) - (l : Int)).toNat = t from by omega, Hw.out.2.2.1]; simp
          have Hf := Lib.hid hf
          clear hf
          refine (rhas_any g l m 0 o T _ _ Hr2.out).mono ?_
          rintro e w1 ⟨rfl, rfl⟩
          rw [Hf.out]
          go_wp2_with fail
          refine (rlay_any g l m 0 t o T _ _ Hr2.out htm Hw.out.2.2.1 (by omega)).mono ?_
          rintro e w1 ⟨rfl, hr5, hk5⟩
          obtain ⟨o', hr5, ho5⟩ := hr5
          have Hr5 := Lib.hid hr5
          have Hk5 := Lib.hid hk5
          have hks := Hk2.out
          clear hr5 hk5
          go_wp2_with fail
          go_ret2
          refine ⟨ret_two (by omega) rfl, ⟨o', by rw [show (t + 1) % m = 0 from by rw [show t + 1 = m from by omega]; exact Nat.mod_self m]; exact Hr5.out, fun j hj => Nat.le_trans hks.size (ho5 j hj)⟩, hks.trans' Hk5.out⟩
        · obtain ⟨s1, s2, s3⟩ := Hw.out.step htk
          rw [if_neg hend] at s2 s3
          have hf : isTaken l m T ((l : Int) + t) = true := by
            unfold isTaken isPort
            rw [show (((l : Int) + (t : Int)) - (l : Int)).toNat = t from by omega, s1, decide_eq_true (by omega)]; rfl
          have Hf := Lib.hid hf
          have Hs2 := Lib.hid s2
          have Hs3 := Lib.hid s3
          clear hf s1 s2 s3
          refine (rhas_any g l m 0 o T _ _ Hr2.out).mono ?_
          rintro e w1 ⟨rfl, rfl⟩
          rw [Hf.out]
          go_wp2_with fail
          go_roundw
          case rel => exact ⟨0, Hs2.out, Hr2.out, Hk2.out⟩
          case measure =>
            rw [Ref.at2 Hr2.out, d2]
            simp only [Option.getD_some, intOf]
            rw [show ((l : Int) + ((0 : Nat) : Int) - (l : Int)).toNat = 0 from by omega, show ((l : Int) + (t : Int) - (l : Int)).toNat = t from by omega]
            exact Hs3.out
end Go.Proofs.YtconpcnmccmbiaaDoor
