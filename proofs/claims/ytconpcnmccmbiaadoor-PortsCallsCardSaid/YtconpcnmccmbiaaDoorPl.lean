/- The walk of PortsOnce. -/
import Derived.Test.YtconpcnmccmbiaaDoorPk
import Derived.Test.YtconpcnmccmbiaaDoorMp
import Derived.RegionTactic
namespace Go.Proofs.YtconpcnmccmbiaaDoor
open Go.RowKit

/-- A slice's cells are these pairs of numbers. -/
def RdP (w : World) (A : Option Addr) (xs : List (Int × Int)) : Prop := xs.length ≤ 9223372036854775807 ∧ (xs.length = 0 ∨ ∃ b o, A = some ⟨b, o, none⟩ ∧ ∀ j, j < xs.length → w.cell? ⟨b, o + j * 2, none⟩ = some (.int .i64 (xs.getD j (0, 0)).1) ∧ w.cell? ⟨b, o + j * 2 + 1, none⟩ = some (.int .i64 (xs.getD j (0, 0)).2))
theorem RdP.kp {S : Nat → Prop} {w w' : World} {A : Option Addr} {xs : List (Int × Int)} (h : RdP w A xs) (hk : Kp S w w') (hS : ∀ b o, A = some ⟨b, o, none⟩ → ¬ S b) : RdP w' A xs := by
  refine ⟨h.1, ?_⟩
  rcases h.2 with h | ⟨b, o, rfl, hc⟩
  · exact .inl h
  · exact .inr ⟨b, o, rfl, fun j hj => ⟨(hk.cell (p := ⟨b, o + j * 2, none⟩) (World.block_lt_of_cell? w _ (hc j hj).1) (hS b o rfl)).trans (hc j hj).1, (hk.cell (p := ⟨b, o + j * 2 + 1, none⟩) (World.block_lt_of_cell? w _ (hc j hj).2) (hS b o rfl)).trans (hc j hj).2⟩⟩

theorem zero4 (w : World) : (zeroValue 4).run Tryd.prog w = .ok (.bool false) w := by kernel_rfl
/-- The map holds true at just the taken ports. -/
def Marks (l m : Nat) (T : Nat → Bool) (L : List Ent) : Prop := (∀ k, mget k L = if isTaken l m T k then some (.bool true) else none) ∧ L.length + cnt T m = m
theorem Marks.look {l m : Nat} {T : Nat → Bool} {L : List Ent} (h : Marks l m T L) {w : World} {b c : Nat} (hm : IMap w b c L) (k : Int) :
    (Instr.lookup 39 (.map (some b)) (.int .i64 k) false).run Tryd.prog w = .ok (.bool (isTaken l m T k)) w := by
  have h1 := (hm.run_lookup (P := Tryd.prog) Tryd.underlying39 Tryd.underlying3 (zero4 w) k).1
  rw [h1, h.1 k]
  cases isTaken l m T k <;> rfl
theorem isTaken_upd (l m : Nat) (T : Nat → Bool) (k : Nat) (b : Bool) (hk : k < m) (j : Int) : isTaken l m (upd T k b) j = if j = (k : Int) + l then b else isTaken l m T j := by
  unfold isTaken upd isPort
  by_cases hj : j = (k : Int) + l
  · subst hj
    rw [if_pos rfl, if_pos (by omega), decide_eq_true (by omega)]
    rfl
  · rw [if_neg hj]
    by_cases hp : (l : Int) ≤ j ∧ j < l + m
    · rw [if_neg (by omega)]
    · rw [decide_eq_false hp]; rfl
theorem Marks.lay {l m : Nat} {T : Nat → Bool} {L : List Ent} (h : Marks l m T L) {k : Nat} (hk : k < m) (hT : T k = false) (c : Nat) : Marks l m (upd T k true) (mput ((k : Int) + l) (.bool true) c L) := by
  have hn : mget ((k : Int) + l) L = none := by
    rw [h.1]
    have : isTaken l m T ((k : Int) + l) = false := by
      unfold isTaken
      rw [show (((k : Int) + (l : Int)) - (l : Int)).toNat = k from by omega, hT]; simp
    rw [this]; rfl
  refine ⟨fun j => ?_, ?_⟩
  · unfold mput
    rw [hn]
    simp only [Option.isSome_none, Bool.false_eq_true, if_false]
    rw [mget_append, isTaken_upd _ _ _ _ _ hk]
    by_cases hj : j = (k : Int) + l
    · subst hj; rw [hn]; simp [mget]
    · have : ¬ ((k : Int) + l = j) := fun e => hj e.symm
      rw [if_neg hj, h.1 j]
      split <;> simp [mget, this]
  · have := cnt_lay T k m hk hT
    have h2 := h.2
    unfold mput
    rw [hn]
    simp
    omega
theorem Marks.give {l m : Nat} {T : Nat → Bool} {L : List Ent} (h : Marks l m T L) (hn : (L.map Ent.k).Nodup) {k : Nat} (hk : k < m) (hT : T k = true) : Marks l m (upd T k false) (mdel ((k : Int) + l) L) := by
  have ht : isTaken l m T ((k : Int) + l) = true := by
    unfold isTaken isPort
    rw [show (((k : Int) + (l : Int)) - (l : Int)).toNat = k from by omega, hT, decide_eq_true (by omega)]; rfl
  refine ⟨fun j => ?_, ?_⟩
  · rw [mget_mdel _ _ _ hn, isTaken_upd _ _ _ _ _ hk, h.1 j]
    by_cases hj : j = (k : Int) + l
    · simp [hj]
    · simp [hj]
  · have h1 := cnt_give T k m hk hT
    have h2 := h.2
    have h3 := mdel_len ((k : Int) + l) L (by rw [h.1, ht]; rfl)
    omega
theorem Marks.none_ {l m : Nat} {T : Nat → Bool} {L : List Ent} (h : Marks l m T L) {j : Int} (hj : isTaken l m T j = false) : mdel j L = L := mdel_none j L (by rw [h.1, hj]; rfl)

/-- What Give tells. -/
def giveE (l m : Nat) (T : Nat → Bool) (a : Int) : Int := if isPort l m a then (if T (a - l).toNat then 0 else 17) else 11
/-- Which are taken behind a Give. -/
def giveT (l m : Nat) (T : Nat → Bool) (a : Int) : Nat → Bool := if isTaken l m T a then upd T (a - l).toNat false else T
theorem giveE_yes {l m : Nat} {T : Nat → Bool} {a : Int} (h : isTaken l m T a = true) : giveE l m T a = 0 := by
  unfold isTaken at h
  simp only [Bool.and_eq_true] at h
  unfold giveE; rw [h.1, h.2]; rfl
theorem giveE_no {l m : Nat} {T : Nat → Bool} {a : Int} (h : isTaken l m T a = false) : (giveE l m T a == 0) = false := by
  unfold isTaken at h
  unfold giveE
  cases h1 : isPort l m a with
  | false => simp
  | true =>
    rw [h1, Bool.true_and] at h
    rw [h]; rfl
theorem giveT_taken (l m : Nat) (T : Nat → Bool) (a : Int) : isTaken l m (giveT l m T a) a = false := by
  unfold giveT
  cases h : isTaken l m T a with
  | false => simpa using h
  | true => simp [isTaken, upd]
theorem give_any (g gw l m mk : Nat) (T : Nat → Bool) (a : Int) (w : World) (h : Rng w g gw l m mk T) (b1' : -9223372036854775808 ≤ a) (b2' : a ≤ 9223372036854775807) :
    Calls Tryd.prog 26 #[.pointer (some ⟨g, 0, none⟩), .int .i64 a] w fun e w' => e = .returned (.int .i64 (giveE l m T a)) ∧ Rng w' g gw l m mk (giveT l m T a) ∧ Kp (fun b => b = g ∨ b = gw) w w' := by
  cases hp : isPort l m a with
  | false =>
    refine (give_out g gw l m mk T a w h b1' b2' hp).mono ?_
    rintro e w' ⟨rfl, n, rfl⟩
    exact ⟨by simp [giveE, hp], by simpa [giveT, isTaken, hp] using h.drewN n, (Kp.refl _ _).drewN _⟩
  | true =>
    cases hT : T (a - l).toNat with
    | false =>
      refine (give_free g gw l m mk T a w h hp hT).mono ?_
      rintro e w' ⟨rfl, n, rfl⟩
      exact ⟨by simp only [giveE, hp, hT]; rfl, by have := h.drewN n; simp only [giveT, isTaken, hp, hT]; exact this, (Kp.refl _ _).drewN _⟩
    | true =>
      refine (give_taken g gw l m mk T a w h hp hT).mono ?_
      rintro e w' ⟨rfl, hr, hk⟩
      exact ⟨by simp only [giveE, hp, hT]; rfl, by simp only [giveT, isTaken, hp, hT]; exact hr, hk⟩
theorem Marks.gave {l m : Nat} {T : Nat → Bool} {L : List Ent} (h : Marks l m T L) (hn : (L.map Ent.k).Nodup) (a : Int) : Marks l m (giveT l m T a) (mdel a L) := by
  unfold giveT
  cases ht : isTaken l m T a with
  | false => rw [h.none_ ht]; simpa using h
  | true =>
    have h1 := ht
    unfold isTaken at h1
    simp only [Bool.and_eq_true] at h1
    obtain ⟨h2, h3⟩ := isPort_yes h1.1
    have := h.give hn (k := (a - l).toNat) (by omega) h1.2
    rw [show (((a - l).toNat : Nat) : Int) + (l : Int) = a from by omega] at this
    simpa using this
end Go.Proofs.YtconpcnmccmbiaaDoor
