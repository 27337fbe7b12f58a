/- The reference's range in memory; its New and Has. -/
import Derived.Test.YtconpcnmccmbiaaDoorPl
namespace Go.Proofs.YtconpcnmccmbiaaDoor
open Go.RowKit

/-- The reference's range: its struct in block g, its row of taken ones in block o (or none). -/
def Ref (w : World) (g : Nat) (o : Option Nat) (l m mk : Nat) (T : Nat → Bool) : Prop :=
  ∃ v, Bk w g 103 #[.int .i64 l, .int .i64 ((l : Int) + m - 1), .int .i64 ((l : Int) + mk), v] ∧ v.ownBlock = o ∧ w.ownsRow 2 3 1 v (takenL T l m).length (ints (takenL T l m)) ∧ 1 ≤ l ∧ 1 ≤ m ∧ l + m ≤ 65536 ∧ mk ≤ m ∧ 2 ≤ g
theorem Ref.kept {w w' : World} {g l m mk : Nat} {o : Option Nat} {T : Nat → Bool} {S : Nat → Prop} (h : Ref w g o l m mk T) (hk : Kp S w w') (h1 : ¬ S g) (h2 : ∀ k, o = some k → ¬ S k) : Ref w' g o l m mk T := by
  obtain ⟨v, a, b, c, d⟩ := h
  exact ⟨v, a.kept hk h1, b, own_kp c hk (fun k hk => h2 k (by rw [← b, hk])), d⟩
theorem Ref.drewN {w : World} {g l m mk : Nat} {o : Option Nat} {T : Nat → Bool} (h : Ref w g o l m mk T) (n : Nat) : Ref (w.drewN n) g o l m mk T := h
theorem Ref.lt {w : World} {g l m mk : Nat} {o : Option Nat} {T : Nat → Bool} (h : Ref w g o l m mk T) : g < w.heap.size ∧ ∀ k, o = some k → k < w.heap.size := by
  obtain ⟨v, a, b, c, d⟩ := h
  exact ⟨a.lt, fun k hk => (c.lt k (by rw [b, hk])).2⟩
/-- The two ranges lie apart. -/
theorem Ref.apart {w : World} {g l m mk g1 gw l1 m1 mk1 : Nat} {o : Option Nat} {T T1 : Nat → Bool} (h : Ref w g o l m mk T) (hr : Rng w g1 gw l1 m1 mk1 T1) : g ≠ g1 ∧ g ≠ gw ∧ ∀ k, o = some k → k ≠ g1 ∧ k ≠ gw := by
  obtain ⟨v, a, b, c, d⟩ := h
  obtain ⟨ws, hraw, _⟩ := hr
  obtain ⟨n, cc, cs, h1, h2, _⟩ := hraw
  refine ⟨a.ne_of h1 (by decide), a.ne_of h2 (by decide), fun k hk => ?_⟩
  rcases c.2 with ⟨rfl, _⟩ | ⟨gg, cap, cur, rfl, _, hh, _⟩
  · rw [← b] at hk; cases hk
  · have : gg = k := by rw [← b] at hk; simpa [Value.ownBlock] using hk
    subst this
    exact ⟨Bk.ne_of (t := 3) hh h1 (by decide), Bk.ne_of (t := 3) hh h2 (by decide)⟩
/-- What a walk reads of it. -/
theorem Ref.cells {w : World} {g l m mk : Nat} {o : Option Nat} {T : Nat → Bool} (h : Ref w g o l m mk T) :
    w.cell? ⟨g, 0, none⟩ = some (.int .i64 l) ∧ w.cell? ⟨g, 1, none⟩ = some (.int .i64 ((l : Int) + m - 1)) ∧ w.cell? ⟨g, 2, none⟩ = some (.int .i64 ((l : Int) + mk)) ∧ w.frozen? ⟨g, 2, none⟩ = false ∧ w.frozen? ⟨g, 3, none⟩ = false ∧
    ∃ A c, w.cell? ⟨g, 3, none⟩ = some (.slice A (takenL T l m).length c) ∧ RdI w .i64 A (takenL T l m) ∧ (takenL T l m).length ≤ m ∧ (takenL T l m).length ≤ c ∧ c ≤ maxLen ∧ (∀ b o', A = some ⟨b, o', none⟩ → o = some b ∧ o' = 0) := by
  obtain ⟨v, a, b, c, d1, d2, d3, d4, d5⟩ := h
  have hlen : (takenL T l m).length ≤ m := takenL_len T l m
  obtain ⟨A, cc, rfl, _, h2, _⟩ := RdI.of_own (k := .i64) (xs := takenL T l m) c
  refine ⟨by rw [a.cell 0]; rfl, by rw [a.cell 1]; rfl, by rw [a.cell 2]; rfl, a.frozen 2, a.frozen 3, A, cc, by rw [a.cell 3]; rfl, h2, hlen, ?_⟩
  rcases c.2 with ⟨hv, h0⟩ | ⟨gg, cap, cur, hv, _, hh, h3, h4, _⟩
  · injection hv with q1 q2 q3
    subst q1 q3
    exact ⟨by omega, by unfold maxLen; omega, fun b o' h => by cases h⟩
  · injection hv with q1 q2 q3
    subst q1 q3
    refine ⟨h3, h4, fun b' o' h => ?_⟩
    injection h with h
    injection h with h5 h6
    subst h5 h6
    rw [← b]
    exact ⟨rfl, rfl⟩

theorem takenL_mem (T : Nat → Bool) (l m : Nat) (a : Int) : a ∈ takenL T l m ↔ isTaken l m T a = true := by
  unfold takenL isTaken isPort
  simp only [List.mem_map, List.mem_filter, List.mem_range, Bool.and_eq_true, decide_eq_true_eq]
  constructor
  · rintro ⟨k, ⟨h1, h2⟩, rfl⟩
    rw [show (((k : Int) + (l : Int)) - (l : Int)).toNat = k from by omega]
    exact ⟨by omega, h2⟩
  · rintro ⟨h1, h2⟩
    exact ⟨(a - l).toNat, ⟨by omega, h2⟩, by omega⟩

set_option maxHeartbeats 400000 in
theorem rnew_bad (a b : Int) (w : World) (hb : BadEnds a b) :
    Calls Tryd.prog 17 #[.int .i64 a, .int .i64 b] w fun e w' => e = .returned (.tuple #[.pointer none, .int .i64 11]) ∧ w = w' := by
  rcases hb with h | ⟨h1, h2⟩ | ⟨h1, h2, h3⟩
  all_goals
    go_enter Tryd.func17, Tryd.ntmps17
    go_wp2_with fail
    go_ret2
    exact ⟨rfl, rfl⟩
set_option maxHeartbeats 400000 in
theorem rnew_ok (b : Int) (l m : Nat) (w : World) (h1 : 1 ≤ l) (h2 : 1 ≤ m) (h3 : l + m ≤ 65536) (hb : b = l + m - 1) (h4 : 2 ≤ w.heap.size) :
    Calls Tryd.prog 17 #[.int .i64 l, .int .i64 b] w fun e w' => ∃ g, e = .returned (.tuple #[.pointer (some ⟨g, 0, none⟩), .int .i64 0]) ∧ Ref w' g none l m 0 (fun _ => false) ∧ w.heap.size ≤ g ∧ Kp (fun _ => False) w w' := by
  have i1 : ¬ ((l : Int) < 1) := by omega
  have i2 : ¬ (65535 < b) := by omega
  have i3 : ¬ (b < (l : Int)) := by omega
  have Hb := Lib.hid hb
  clear hb
  go_enter Tryd.func17, Tryd.ntmps17
  go_wp2_with fail
  go_ret2
  refine ⟨w.heap.size, rfl, ⟨.slice none 0 0, ?_, rfl, ?_, h1, h2, h3, by omega, h4⟩, Nat.le_refl _, (Kp.refl _ _).alloc _⟩
  · have := Bk.new w 103 #[.int .i64 l, .int .i64 b, .int .i64 l, .slice none 0 0]
    rw [Hb.out] at this ⊢
    simpa using this
  · rw [takenL_none _ _ _ (fun _ _ => rfl)]
    exact World.ownsRow_nil _ _ _ _

set_option maxRecDepth 100000 in
set_option maxHeartbeats 1000000 in
theorem rhas_any (g l m mk : Nat) (o : Option Nat) (T : Nat → Bool) (a : Int) (w : World) (h : Ref w g o l m mk T) :
    Calls Tryd.prog 21 #[.pointer (some ⟨g, 0, none⟩), .int .i64 a] w fun e w' => e = .returned (.bool (isTaken l m T a)) ∧ w = w' := by
  obtain ⟨_, _, _, _, _, A, c, c3, hrd, hl1, hl2, hl3, hA0⟩ := h.cells
  have hb := h
  obtain ⟨_, _, _, _, b1, b2, b3, _⟩ := hb
  have hfin : isTaken l m T a = (takenL T l m).contains a := by
    rw [Bool.eq_iff_iff, ← takenL_mem]; simp
  have Hfin := Lib.hid hfin
  generalize takenL T l m = xs at c3 hrd hl1 hl2 Hfin
  have Hrd := Lib.hid hrd
  unfold maxLen at hl3
  clear hfin hrd h hA0
  go_enter Tryd.func21, Tryd.ntmps21
  go_wp2_with fail
  go_loop [5] (fun v => ∃ j : Nat, v = .int .i64 j ∧ j ≤ xs.length ∧ ∀ k, k < j → xs.getD k 0 ≠ a) (fun v => xs.length - (intOf v).toNat)
  case atStart => exact ⟨0, rfl, by omega, fun k hk => by omega⟩
  case round =>
    obtain ⟨j, rfl, hj, hno⟩ := hrel
    have Hno := Lib.hid hno
    clear hno
    by_cases hlt : j < xs.length
    · obtain ⟨b, o', rfl, hc⟩ : ∃ b o', A = some ⟨b, o', none⟩ ∧ ∀ j, j < xs.length → w.cell? ⟨b, o' + j, none⟩ = some (.int .i64 (xs.getD j 0)) := by
        rcases Hrd.out.2 with h | h
        · omega
        · exact h
      have hcj := hc j hlt
      have j1 : (0 : Int) ≤ (j : Int) := by omega
      have j2 : (j : Int) < (xs.length : Int) := by omega
      clear hc
      by_cases he : xs.getD j 0 = a
      · have he2 : (xs.getD j 0 == a) = true := by simpa using he
        have He := Lib.hid he
        clear he
        generalize hq : xs.getD j 0 = q at hcj he2
        have Hq := Lib.hid hq
        clear hq
        go_wp2_with fail
        go_ret
        refine ⟨ret_bool ?_, rfl⟩
        rw [Hfin.out]
        symm
        rw [List.contains_iff_mem, ← He.out]
        simp [hlt]
      · have he2 : (xs.getD j 0 == a) = false := by simpa using he
        have He := Lib.hid he
        clear he
        generalize hq : xs.getD j 0 = q at hcj he2
        have Hq := Lib.hid hq
        clear hq
        go_wp2_with fail
        go_round
        case rel => exact ⟨j + 1, by go_num, by omega, fun k hk => by
          by_cases hkj : k = j
          · subst hkj; exact He.out
          · exact Hno.out k (by omega)⟩
        case measure => simp [intOf]; omega
    · go_wp2_with fail
      go_ret
      refine ⟨ret_bool ?_, rfl⟩
      rw [Hfin.out]
      symm
      rw [Bool.eq_false_iff]
      intro hc
      rw [List.contains_iff_mem] at hc
      obtain ⟨k, hk, hka⟩ := List.getElem_of_mem hc
      exact Hno.out k (by omega) (by simp [hk, hka])
end Go.Proofs.YtconpcnmccmbiaaDoor
