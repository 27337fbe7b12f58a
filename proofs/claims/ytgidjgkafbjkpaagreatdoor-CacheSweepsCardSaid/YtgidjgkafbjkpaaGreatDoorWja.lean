/- Wheel: the plain law of rows of timers, in order. -/
import Derived.Test.YtgidjgkafbjkpaaGreatDoorWinv
set_option linter.unusedVariables false
set_option linter.unusedSimpArgs false
namespace Go.Proofs.YtgidjgkafbjkpaaGreatDoor
open Go.RowKit

abbrev Rows := List (Int × Nat)
/-- A row comes ahead of another. -/
abbrev rlt (x y : Int × Nat) : Prop := x.2 < y.2 ∨ x.2 = y.2 ∧ x.1 < y.1
theorem rlt_asymm (x y : Int × Nat) (h : rlt x y) (k : rlt y x) : False := by unfold rlt at h k; omega
theorem rlt_trans {x y z : Int × Nat} (h : rlt x y) (k : rlt y z) : rlt x z := by unfold rlt at h k ⊢; omega
theorem rlt_total {x y : Int × Nat} (h : x.1 ≠ y.1) : rlt x y ∨ rlt y x := by unfold rlt; omega
/-- Rows in order, each timer once. -/
structure RS (R : Rows) : Prop where
  ord : R.Pairwise rlt
  nd : (R.map Prod.fst).Nodup
def rdel (i : Int) (R : Rows) : Rows := R.filter (fun r => r.1 != i)
def rins (x : Int × Nat) : Rows → Rows
  | [] => [x]
  | y :: R => if rlt x y then x :: y :: R else y :: rins x R
def rset (i : Int) (d : Nat) (R : Rows) : Rows := rins (i, d) (rdel i R)
def rgot (t : Nat) : Rows → List Int
  | [] => []
  | y :: R => if y.2 ≤ t then y.1 :: rgot t R else []
def rrest (t : Nat) : Rows → Rows
  | [] => []
  | y :: R => if y.2 ≤ t then rrest t R else y :: R
def rdue (i : Int) : Rows → Option Nat
  | [] => none
  | y :: R => if y.1 = i then some y.2 else rdue i R

theorem eq_of_strict {α : Type} {r : α → α → Prop} (ha : ∀ a b, r a b → r b a → False) : ∀ {l m : List α}, l.Pairwise r → m.Pairwise r → (∀ x, x ∈ l ↔ x ∈ m) → l = m
  | [], [], _, _, _ => rfl
  | [], b :: m, _, _, h => by have := (h b).2 List.mem_cons_self; cases this
  | a :: l, [], _, _, h => by have := (h a).1 List.mem_cons_self; cases this
  | a :: l, b :: m, hl, hm, h => by
    rw [List.pairwise_cons] at hl hm
    have hab : a = b := by
      rcases List.mem_cons.1 ((h a).1 List.mem_cons_self) with h1 | h1
      · exact h1
      · rcases List.mem_cons.1 ((h b).2 List.mem_cons_self) with h2 | h2
        · exact h2.symm
        · exact (ha a b (hl.1 b h2) (hm.1 a h1)).elim
    subst hab
    congr 1
    refine eq_of_strict ha hl.2 hm.2 (fun x => ⟨fun hx => ?_, fun hx => ?_⟩)
    · rcases List.mem_cons.1 ((h x).1 (List.mem_cons_of_mem _ hx)) with h1 | h1
      · subst h1; exact (ha x x (hl.1 x hx) (hl.1 x hx)).elim
      · exact h1
    · rcases List.mem_cons.1 ((h x).2 (List.mem_cons_of_mem _ hx)) with h1 | h1
      · subst h1; exact (ha x x (hm.1 x hx) (hm.1 x hx)).elim
      · exact h1
theorem RS.uniq {R S : Rows} (h : RS R) (k : RS S) (e : ∀ x, x ∈ R ↔ x ∈ S) : R = S := eq_of_strict rlt_asymm h.ord k.ord e
theorem RS.nil : RS [] := ⟨List.Pairwise.nil, by simp⟩
theorem RS.tail {x : Int × Nat} {R : Rows} (h : RS (x :: R)) : RS R := ⟨(List.pairwise_cons.1 h.ord).2, by have := h.nd; rw [List.map_cons, List.nodup_cons] at this; exact this.2⟩
theorem RS.same {R : Rows} (h : RS R) {i : Int} {d e : Nat} (h1 : (i, d) ∈ R) (h2 : (i, e) ∈ R) : d = e := by
  induction R with
  | nil => cases h1
  | cons y R ih =>
    have hn := h.nd
    rw [List.map_cons, List.nodup_cons] at hn
    rcases List.mem_cons.1 h1 with h1 | h1 <;> rcases List.mem_cons.1 h2 with h2 | h2
    · rw [← h1] at h2; cases h2; rfl
    · exact absurd (List.mem_map.2 ⟨_, h2, by rw [← h1]⟩) hn.1
    · exact absurd (List.mem_map.2 ⟨_, h1, by rw [← h2]⟩) hn.1
    · exact ih h.tail h1 h2
theorem mem_rdel {i : Int} {R : Rows} {x : Int × Nat} : x ∈ rdel i R ↔ x ∈ R ∧ x.1 ≠ i := by simp [rdel]
theorem mem_rins {x y : Int × Nat} : ∀ {R : Rows}, x ∈ rins y R ↔ x = y ∨ x ∈ R
  | [] => by simp [rins]
  | z :: R => by
    unfold rins
    split
    · simp
    · rw [List.mem_cons, mem_rins, List.mem_cons]
      constructor
      · rintro (h | h | h) <;> simp [h]
      · rintro (h | h | h) <;> simp [h]
theorem rins_len (x : Int × Nat) : ∀ R : Rows, (rins x R).length = R.length + 1
  | [] => rfl
  | y :: R => by unfold rins; split <;> simp [rins_len x R]
theorem RS.del {R : Rows} (h : RS R) (i : Int) : RS (rdel i R) := ⟨h.ord.sublist List.filter_sublist, ((List.filter_sublist (l := R)).map Prod.fst).nodup h.nd⟩
theorem rins_keys (x : Int × Nat) : ∀ R : Rows, ((rins x R).map Prod.fst).Perm (x.1 :: R.map Prod.fst)
  | [] => List.Perm.refl _
  | y :: R => by
    unfold rins
    split
    · exact List.Perm.refl _
    · exact ((rins_keys x R).cons y.1).trans (List.Perm.swap ..)
theorem RS.ins {R : Rows} (h : RS R) {x : Int × Nat} (hx : ∀ y ∈ R, y.1 ≠ x.1) : RS (rins x R) := by
  refine ⟨?_, ?_⟩
  · have ho := h.ord
    clear h
    induction R with
    | nil => exact List.pairwise_singleton ..
    | cons y R ih =>
      rw [List.pairwise_cons] at ho
      unfold rins
      split
      · rename_i hlt
        rw [List.pairwise_cons, List.pairwise_cons]
        refine ⟨fun z hz => ?_, ho⟩
        rcases List.mem_cons.1 hz with hz | hz
        · rw [hz]; exact hlt
        · exact rlt_trans hlt (ho.1 z hz)
      · rename_i hlt
        rw [List.pairwise_cons]
        refine ⟨fun z hz => ?_, ih (fun z hz => hx z (List.mem_cons_of_mem _ hz)) ho.2⟩
        rcases mem_rins.1 hz with hz | hz
        · rw [hz]; exact (rlt_total (hx y List.mem_cons_self)).resolve_right hlt
        · exact ho.1 z hz
  · rw [(rins_keys x R).nodup_iff, List.nodup_cons]
    refine ⟨fun hm => ?_, h.nd⟩
    obtain ⟨y, hy, e⟩ := List.mem_map.1 hm
    exact hx y hy e
theorem RS.set {R : Rows} (h : RS R) (i : Int) (d : Nat) : RS (rset i d R) := (h.del i).ins (fun y hy => (mem_rdel.1 hy).2)
theorem mem_rset {R : Rows} {i : Int} {d : Nat} {x : Int × Nat} : x ∈ rset i d R ↔ x = (i, d) ∨ x ∈ R ∧ x.1 ≠ i := by unfold rset; rw [mem_rins, mem_rdel]
theorem rdue_none {i : Int} : ∀ {R : Rows}, rdue i R = none ↔ ∀ x ∈ R, x.1 ≠ i
  | [] => by simp [rdue]
  | y :: R => by
    unfold rdue
    by_cases h : y.1 = i
    · simp [h]
    · rw [if_neg h, rdue_none]; simp [h]
theorem rdue_mem {i : Int} {d : Nat} : ∀ {R : Rows}, rdue i R = some d → (i, d) ∈ R
  | [], h => by cases h
  | y :: R, h => by
    unfold rdue at h
    by_cases e : y.1 = i
    · rw [if_pos e] at h
      cases h
      subst e
      exact List.mem_cons_self
    · rw [if_neg e] at h
      exact List.mem_cons_of_mem _ (rdue_mem h)
theorem RS.due {R : Rows} (h : RS R) {i : Int} {d : Nat} : rdue i R = some d ↔ (i, d) ∈ R := by
  refine ⟨rdue_mem, fun hm => ?_⟩
  rcases e : rdue i R with _ | d'
  · exact absurd rfl (rdue_none.1 e _ hm)
  · rw [h.same (rdue_mem e) hm]
theorem rdel_none {i : Int} {R : Rows} (h : rdue i R = none) : rdel i R = R := by
  unfold rdel
  rw [List.filter_eq_self]
  intro x hx
  simpa using rdue_none.1 h x hx
theorem rdel_len {i : Int} : ∀ {R : Rows} {d : Nat}, (R.map Prod.fst).Nodup → rdue i R = some d → (rdel i R).length + 1 = R.length
  | [], _, _, h => by cases h
  | y :: R, d, hn, h => by
    rw [List.map_cons, List.nodup_cons] at hn
    unfold rdue at h
    by_cases e : y.1 = i
    · have hh : rdel i R = R := rdel_none (rdue_none.2 (fun x hx ex => hn.1 (List.mem_map.2 ⟨x, hx, by rw [ex, e]⟩)))
      have : rdel i (y :: R) = rdel i R := by simp [rdel, e]
      rw [this, hh]
      rfl
    · rw [if_neg e] at h
      have : rdel i (y :: R) = y :: rdel i R := by simp [rdel, e]
      rw [this, List.length_cons, rdel_len hn.2 h, List.length_cons]
theorem rset_len_le (i : Int) (d : Nat) (R : Rows) : (rset i d R).length ≤ R.length + 1 := by
  unfold rset
  rw [rins_len]
  have : (rdel i R).length ≤ R.length := List.length_filter_le ..
  omega
theorem rrest_len_le (t : Nat) : ∀ R : Rows, (rrest t R).length ≤ R.length
  | [] => Nat.le_refl _
  | y :: R => by unfold rrest; split; (have := rrest_len_le t R; simp; omega); exact Nat.le_refl _
theorem rgot_len (t : Nat) : ∀ R : Rows, (rgot t R).length + (rrest t R).length = R.length
  | [] => rfl
  | y :: R => by
    unfold rgot rrest
    split
    · have := rgot_len t R; simp; omega
    · simp
theorem rrest_sub (t : Nat) : ∀ R : Rows, (rrest t R).Sublist R
  | [] => .slnil
  | y :: R => by unfold rrest; split; exact (rrest_sub t R).cons _; exact List.Sublist.refl _
theorem RS.rest {R : Rows} (h : RS R) (t : Nat) : RS (rrest t R) := ⟨h.ord.sublist (rrest_sub t R), ((rrest_sub t R).map Prod.fst).nodup h.nd⟩
theorem RS.mem_rest {R : Rows} (h : RS R) {t : Nat} {x : Int × Nat} : x ∈ rrest t R ↔ x ∈ R ∧ t < x.2 := by
  induction R with
  | nil => simp [rrest]
  | cons y R ih =>
    unfold rrest
    split
    · rename_i hle
      rw [ih h.tail, List.mem_cons]
      constructor
      · rintro ⟨h1, h2⟩; exact ⟨.inr h1, h2⟩
      · rintro ⟨rfl | h1, h2⟩
        · omega
        · exact ⟨h1, h2⟩
    · rename_i hle
      refine ⟨fun hx => ⟨hx, ?_⟩, fun hx => hx.1⟩
      rcases List.mem_cons.1 hx with rfl | hx
      · omega
      · have := (List.pairwise_cons.1 h.ord).1 x hx
        unfold rlt at this
        omega
theorem RS.mem_got {R : Rows} (h : RS R) {t : Nat} {i : Int} : i ∈ rgot t R ↔ ∃ d, (i, d) ∈ R ∧ d ≤ t := by
  induction R with
  | nil => simp [rgot]
  | cons y R ih =>
    unfold rgot
    split
    · rename_i hle
      rw [List.mem_cons, ih h.tail]
      constructor
      · rintro (rfl | ⟨d, h1, h2⟩)
        · exact ⟨y.2, List.mem_cons_self, hle⟩
        · exact ⟨d, List.mem_cons_of_mem _ h1, h2⟩
      · rintro ⟨d, h1, h2⟩
        rcases List.mem_cons.1 h1 with h1 | h1
        · left; rw [← h1]
        · exact .inr ⟨d, h1, h2⟩
    · rename_i hle
      simp only [List.not_mem_nil, false_iff, not_exists, not_and]
      intro d hd
      rcases List.mem_cons.1 hd with hd | hd
      · subst hd; exact hle
      · have := (List.pairwise_cons.1 h.ord).1 _ hd
        unfold rlt at this
        omega
/-- When a timer is due, as a whole number; 0: it isn't there. -/
def rdI (R : Rows) (i : Int) : Nat := (rdue i R).getD 0
/-- Those that are told come in order. -/
theorem RS.got_ord {R : Rows} (h : RS R) (t : Nat) : (rgot t R).Pairwise (fun a b => rdI R a < rdI R b ∨ rdI R a = rdI R b ∧ a < b) := by
  have key : ∀ S : Rows, S.Sublist R → (rgot t S).Pairwise (fun a b => rdI R a < rdI R b ∨ rdI R a = rdI R b ∧ a < b) := by
    intro S hS
    induction S with
    | nil => exact List.Pairwise.nil
    | cons y S ih =>
      have hRS : RS (y :: S) := ⟨h.ord.sublist hS, (hS.map Prod.fst).nodup h.nd⟩
      unfold rgot
      split
      · rw [List.pairwise_cons]
        refine ⟨fun b hb => ?_, ih ((List.sublist_cons_self y S).trans hS)⟩
        obtain ⟨d, hd, _⟩ := hRS.tail.mem_got.1 hb
        have h1 : rdI R y.1 = y.2 := by unfold rdI; rw [h.due.2 (hS.subset List.mem_cons_self : (y.1, y.2) ∈ R)]; rfl
        have h2 : rdI R b = d := by unfold rdI; rw [h.due.2 (hS.subset (List.mem_cons_of_mem _ hd))]; rfl
        rw [h1, h2]
        exact (List.pairwise_cons.1 hRS.ord).1 _ hd
      · exact List.Pairwise.nil
  exact key R (List.Sublist.refl _)

/-- What a wheel's timers are, as rows. -/
structure Agr (L : List Ent) (R : Rows) : Prop where
  rs : RS R
  len : L.length = R.length
  mem : ∀ i d, (∃ p, mget i L = some (spotV d p)) ↔ (i, d) ∈ R
theorem Agr.nil : Agr [] [] := ⟨RS.nil, rfl, fun i d => ⟨fun ⟨p, h⟩ => (by cases h), fun h => (by cases h)⟩⟩
theorem Agr.some_ {L : List Ent} {R : Rows} (h : Agr L R) {i : Int} {d : Nat} {p : Pos} (hg : mget i L = some (spotV d p)) : rdue i R = some d := h.rs.due.2 ((h.mem i d).1 ⟨p, hg⟩)
theorem Agr.none_ {L : List Ent} {R : Rows} (h : Agr L R) {i : Int} (hg : mget i L = none) : rdue i R = none := by
  rcases e : rdue i R with _ | d
  · rfl
  · obtain ⟨p, hp⟩ := (h.mem i d).2 (rdue_mem e)
    rw [hg] at hp; cases hp
theorem Agr.isSome {L : List Ent} {R : Rows} (h : Agr L R) (hs : ∀ i v, mget i L = some v → ∃ d p, v = spotV d p) (i : Int) : (mget i L).isSome = (rdue i R).isSome := by
  rcases hg : mget i L with _ | v
  · rw [h.none_ hg]; rfl
  · obtain ⟨d, p, rfl⟩ := hs i v hg
    rw [h.some_ hg]; rfl
theorem Agr.isNone {L : List Ent} {R : Rows} (h : Agr L R) (hs : ∀ i v, mget i L = some v → ∃ d p, v = spotV d p) (i : Int) : mget i L = none ↔ rdue i R = none := by
  have := h.isSome hs i
  rcases h1 : mget i L with _ | v <;> rcases h2 : rdue i R with _ | d <;> simp_all
theorem Agr.del {L : List Ent} {R : Rows} (h : Agr L R) (hn : (L.map Ent.k).Nodup) (hs : ∀ i v, mget i L = some v → ∃ d p, v = spotV d p) (i : Int) : Agr (mdel i L) (rdel i R) := by
  refine ⟨h.rs.del i, ?_, fun j d => ?_⟩
  · rcases hg : mget i L with _ | v
    · rw [mdel_none i L hg, rdel_none (h.none_ hg)]; exact h.len
    · obtain ⟨d, p, rfl⟩ := hs i v hg
      have h1 := mdel_len i L (by rw [hg]; rfl)
      have h2 := rdel_len h.rs.nd (h.some_ hg)
      have h3 := h.len
      omega
  · rw [mget_mdel i j L hn, mem_rdel, ← h.mem]
    by_cases e : j = i
    · simp [e]
    · simp [e]
theorem Agr.put {L : List Ent} {R : Rows} (h : Agr L R) {i : Int} (hg : mget i L = none) (d : Nat) (p : Pos) (c : Nat) : Agr (mput i (spotV d p) c L) (rins (i, d) R) := by
  have hno := rdue_none.1 (h.none_ hg)
  refine ⟨h.rs.ins (fun y hy => hno y hy), ?_, fun j e => ?_⟩
  · unfold mput
    rw [hg, rins_len, ← h.len]
    simp
  · rw [mget_mput, mem_rins, ← h.mem]
    by_cases hj : j = i
    · subst hj
      rw [if_pos rfl]
      constructor
      · rintro ⟨q, hq⟩
        obtain ⟨rfl, _⟩ := spotV_inj (Option.some.inj hq)
        exact .inl rfl
      · rintro (h1 | ⟨q, hq⟩)
        · cases h1; exact ⟨p, rfl⟩
        · rw [hg] at hq; cases hq
    · rw [if_neg hj]
      constructor
      · exact fun h1 => .inr h1
      · rintro (h1 | h1)
        · cases h1; exact absurd rfl hj
        · exact h1
theorem Agr.rest {L L' : List Ent} {R : Rows} (h : Agr L R) {t n : Nat} (hm : ∀ i d, (∃ p, mget i L' = some (spotV d p)) ↔ (∃ p, mget i L = some (spotV d p)) ∧ t < d) (hn : n = (rgot t R).length) (hl : L'.length + n = L.length) : Agr L' (rrest t R) := by
  refine ⟨h.rs.rest t, ?_, fun i d => ?_⟩
  · have := rgot_len t R
    have := h.len
    omega
  · rw [hm, h.mem, h.rs.mem_rest]
end Go.Proofs.YtgidjgkafbjkpaaGreatDoor
