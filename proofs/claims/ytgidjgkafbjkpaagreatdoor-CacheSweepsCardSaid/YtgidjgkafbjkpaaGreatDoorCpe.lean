/- Cache: what it holds, in order, and what its calls make of it, plain. Cache: what learn, wait and sweep make of it, plain. Cache: tokens that wait, each told once, plain. Cache: what was learned last of an Ip is found, plain. Cache: the tokens of one row; sweeps at several times, plain. -/
import Derived.Test.YtgidjgkafbjkpaaGreatDoorWja
import Derived.Test.YtgidjgkafbjkpaaGreatDoorMp
set_option linter.unusedVariables false
set_option linter.unusedSimpArgs false
namespace Go.Proofs.YtgidjgkafbjkpaaGreatDoor
open Go.RowKit

/-- A Mac's six bytes. -/
structure M6 where
  (a b c d e f : Nat)
/-- A thing of an Ip, the how manieth that came, and when it is over. -/
structure It (β : Type) where
  (ip : Nat) (v : β) (ord due : Nat)
/-- A neighbour is a Mac; a row that waits is tokens. -/
abbrev En := It M6
abbrev Rw := It (List Int)
section
variable {β : Type}
/-- The thing of an Ip. -/
def iget (i : Nat) : List (It β) → Option (It β)
  | [] => none
  | x :: l => if x.ip = i then some x else iget i l
/-- All but the thing of an Ip. -/
def idel (i : Nat) (l : List (It β)) : List (It β) := l.filter (fun x => x.ip != i)
/-- Each Ip once; in order. -/
structure IS (n : Nat) (l : List (It β)) : Prop where
  nd : (l.map It.ip).Nodup
  ord : l.Pairwise (fun x y => x.ord < y.ord)
  le : ∀ x ∈ l, x.ord ≤ n
theorem iget_none {i : Nat} : ∀ {l : List (It β)}, iget i l = none ↔ ∀ x ∈ l, x.ip ≠ i
  | [] => by simp [iget]
  | x :: l => by
    unfold iget
    by_cases h : x.ip = i
    · simp [h]
    · rw [if_neg h, iget_none]; simp [h]
theorem iget_mem {i : Nat} {x : It β} : ∀ {l : List (It β)}, iget i l = some x → x ∈ l ∧ x.ip = i
  | [], h => by cases h
  | y :: l, h => by
    unfold iget at h
    by_cases hy : y.ip = i
    · rw [if_pos hy] at h
      injection h with h
      subst h
      exact ⟨List.mem_cons_self, hy⟩
    · rw [if_neg hy] at h
      exact ⟨List.mem_cons_of_mem _ (iget_mem h).1, (iget_mem h).2⟩
theorem IS.nil (n : Nat) : IS n ([] : List (It β)) := ⟨by simp, List.Pairwise.nil, fun x hx => by cases hx⟩
theorem IS.get {n i : Nat} {x : It β} {l : List (It β)} (h : IS n l) (hx : x ∈ l) (hi : x.ip = i) : iget i l = some x := by
  have hn := h.nd
  clear h
  induction l with
  | nil => cases hx
  | cons y l ih =>
    rw [List.map_cons, List.nodup_cons] at hn
    unfold iget
    rcases List.mem_cons.1 hx with rfl | hx
    · rw [if_pos hi]
    · have : y.ip ≠ i := fun e => hn.1 (by rw [e, ← hi]; exact List.mem_map_of_mem hx)
      rw [if_neg this]
      exact ih hx hn.2
theorem mem_idel {i : Nat} {l : List (It β)} {x : It β} : x ∈ idel i l ↔ x ∈ l ∧ x.ip ≠ i := by simp [idel]
theorem IS.sub {n : Nat} {l m : List (It β)} (h : IS n l) (hs : m.Sublist l) : IS n m := ⟨(hs.map It.ip).nodup h.nd, h.ord.sublist hs, fun x hx => h.le x (hs.subset hx)⟩
theorem idel_sub (i : Nat) (l : List (It β)) : (idel i l).Sublist l := List.filter_sublist
theorem IS.del {n : Nat} {l : List (It β)} (h : IS n l) (i : Nat) : IS n (idel i l) := h.sub (idel_sub i l)
theorem iget_idel (i j : Nat) : ∀ l : List (It β), iget j (idel i l) = if j = i then none else iget j l
  | [] => by simp [idel, iget]
  | x :: l => by
    have ih := iget_idel i j l
    unfold idel at ih ⊢
    by_cases hx : x.ip = i
    · rw [List.filter_cons_of_neg (by simp [hx]), ih]
      by_cases hj : j = i
      · rw [if_pos hj, if_pos hj]
      · rw [if_neg hj, if_neg hj, iget, if_neg (by omega)]
    · rw [List.filter_cons_of_pos (by simp [hx])]
      unfold iget
      rw [ih]
      by_cases hj : j = i
      · rw [if_pos hj, if_neg (by omega), if_pos hj]
      · rw [if_neg hj, if_neg hj]
theorem idel_none {i : Nat} {l : List (It β)} (h : iget i l = none) : idel i l = l := by
  unfold idel
  rw [List.filter_eq_self]
  intro x hx
  simpa using iget_none.1 h x hx
theorem idel_len {n i : Nat} {x : It β} : ∀ {l : List (It β)}, IS n l → iget i l = some x → (idel i l).length + 1 = l.length
  | [], _, h => by cases h
  | y :: l, hs, h => by
    have hn := hs.nd
    rw [List.map_cons, List.nodup_cons] at hn
    unfold iget at h
    by_cases hy : y.ip = i
    · have h0 : iget i l = none := iget_none.2 (fun z hz e => hn.1 (by rw [hy, ← e]; exact List.mem_map_of_mem hz))
      have e : idel i (y :: l) = l := by
        have := idel_none h0
        unfold idel at this ⊢
        rw [List.filter_cons_of_neg (by simp [hy]), this]
      rw [e]; rfl
    · rw [if_neg hy] at h
      have ih := idel_len (hs.sub (List.sublist_cons_self y l)) h
      unfold idel at ih ⊢
      rw [List.filter_cons_of_pos (by simp [hy])]
      simp [ih]
theorem IS.add {n : Nat} {l : List (It β)} (h : IS n l) {x : It β} (hx : iget (x.ip) l = none) (ho : x.ord = n + 1) : IS (n + 1) (l ++ [x]) := by
  refine ⟨?_, ?_, fun y hy => ?_⟩
  · rw [List.map_append, List.nodup_append]
    refine ⟨h.nd, by simp, fun a ha b hb => ?_⟩
    obtain ⟨y, hy, rfl⟩ := List.mem_map.1 ha
    rw [List.map_singleton, List.mem_singleton] at hb
    subst hb
    exact iget_none.1 hx y hy
  · rw [List.pairwise_append]
    refine ⟨h.ord, List.pairwise_singleton _ _, fun y hy z hz => ?_⟩
    rw [List.mem_singleton] at hz
    subst hz
    have := h.le y hy
    omega
  · rcases List.mem_append.1 hy with hy | hy
    · have := h.le y hy; omega
    · rw [List.mem_singleton] at hy; subst hy; omega
theorem IS.up {n m : Nat} {l : List (It β)} (h : IS n l) (hm : n ≤ m) : IS m l := ⟨h.nd, h.ord, fun x hx => Nat.le_trans (h.le x hx) hm⟩
/-- A wheel's rows are these things' times. -/
structure WR (R : Rows) (l : List (It β)) : Prop where
  rs : RS R
  mem : ∀ i d, (i, d) ∈ R ↔ ∃ x ∈ l, (x.ip : Int) = i ∧ x.due = d
theorem WR.nil : WR [] ([] : List (It β)) := ⟨RS.nil, fun i d => ⟨fun h => (by cases h), fun ⟨_, h, _⟩ => (by cases h)⟩⟩
theorem WR.due {n i : Nat} {R : Rows} {l : List (It β)} (h : WR R l) (hl : IS n l) : rdue (i : Int) R = (iget i l).map It.due := by
  cases hg : iget i l with
  | none =>
    rw [Option.map_none, rdue_none]
    rintro ⟨j, d⟩ hx
    obtain ⟨y, hy, e, _⟩ := (h.mem j d).1 hx
    intro hj
    simp only at hj
    exact iget_none.1 hg y hy (by omega)
  | some x =>
    obtain ⟨hx, hi⟩ := iget_mem hg
    rw [Option.map_some]
    exact h.rs.due.2 ((h.mem _ _).2 ⟨x, hx, by omega, rfl⟩)
theorem WR.del {R : Rows} {l : List (It β)} (h : WR R l) (i : Nat) : WR (rdel (i : Int) R) (idel i l) := by
  refine ⟨h.rs.del _, fun j d => ?_⟩
  rw [mem_rdel, h.mem]
  constructor
  · rintro ⟨⟨x, hx, h1, h2⟩, h3⟩
    simp only at h3
    exact ⟨x, mem_idel.2 ⟨hx, by omega⟩, h1, h2⟩
  · rintro ⟨x, hx, h1, h2⟩
    obtain ⟨hx, h3⟩ := mem_idel.1 hx
    exact ⟨⟨x, hx, h1, h2⟩, by simp only; omega⟩
theorem WR.set {R : Rows} {l : List (It β)} (h : WR R l) (x : It β) : WR (rset (x.ip : Int) (x.due) R) (idel (x.ip) l ++ [x]) := by
  refine ⟨h.rs.set _ _, fun j d => ?_⟩
  rw [mem_rset]
  constructor
  · rintro (e | ⟨h1, h2⟩)
    · injection e with e1 e2
      exact ⟨x, List.mem_append_right _ (List.mem_singleton.2 rfl), e1.symm, e2.symm⟩
    · obtain ⟨y, hy, h3, h4⟩ := (h.mem j d).1 h1
      simp only at h2
      exact ⟨y, List.mem_append_left _ (mem_idel.2 ⟨hy, by omega⟩), h3, h4⟩
  · rintro ⟨y, hy, h1, h2⟩
    rcases List.mem_append.1 hy with hy | hy
    · obtain ⟨hy, h3⟩ := mem_idel.1 hy
      exact .inr ⟨(h.mem j d).2 ⟨y, hy, h1, h2⟩, by simp only; omega⟩
    · rw [List.mem_singleton] at hy
      subst hy
      left
      rw [← h1, ← h2]
theorem WR.len {n : Nat} {R : Rows} {l : List (It β)} (h : WR R l) (hl : IS n l) : R.length = l.length := by
  have h1 : (R.map Prod.fst).Perm ((l.map It.ip).map (fun n : Nat => (n : Int))) := by
    rw [List.perm_ext_iff_of_nodup h.rs.nd (List.Pairwise.map _ (fun a b h => by omega) hl.nd)]
    intro i
    constructor
    · intro hi
      obtain ⟨⟨j, d⟩, hx, rfl⟩ := List.mem_map.1 hi
      obtain ⟨x, hx, e, _⟩ := (h.mem j d).1 hx
      rw [List.map_map]
      exact List.mem_map.2 ⟨x, hx, e⟩
    · intro hi
      rw [List.map_map] at hi
      obtain ⟨x, hx, rfl⟩ := List.mem_map.1 hi
      exact List.mem_map.2 ⟨(_, _), (h.mem _ _).2 ⟨x, hx, rfl, rfl⟩, rfl⟩
  have := h1.length_eq
  simpa using this
/-- What is left at a time. -/
def lft (t : Nat) (l : List (It β)) : List (It β) := l.filter (fun x => decide (t < x.due))
theorem mem_left {t : Nat} {l : List (It β)} {x : It β} : x ∈ lft t l ↔ x ∈ l ∧ t < x.due := by simp [lft]
theorem IS.left {n t : Nat} {l : List (It β)} (h : IS n l) : IS n (lft t l) := h.sub List.filter_sublist
theorem WR.left {R : Rows} {l : List (It β)} (h : WR R l) (t : Nat) : WR (rrest t R) (lft t l) := by
  refine ⟨h.rs.rest t, fun j d => ?_⟩
  rw [h.rs.mem_rest, h.mem]
  constructor
  · rintro ⟨⟨x, hx, h1, h2⟩, h3⟩
    exact ⟨x, mem_left.2 ⟨hx, by simp only at h3; omega⟩, h1, h2⟩
  · rintro ⟨x, hx, h1, h2⟩
    obtain ⟨hx, h3⟩ := mem_left.1 hx
    exact ⟨⟨x, hx, h1, h2⟩, by simp only; omega⟩
/-- Those that are over, by their times, then by Ips. -/
theorem WR.got {n t : Nat} {R : Rows} {l : List (It β)} (h : WR R l) (hl : IS n l) {i : Int} : i ∈ rgot t R ↔ ∃ x ∈ l, (x.ip : Int) = i ∧ x.due ≤ t := by
  rw [h.rs.mem_got]
  constructor
  · rintro ⟨d, h1, h2⟩
    obtain ⟨x, hx, h3, h4⟩ := (h.mem i d).1 h1
    exact ⟨x, hx, h3, by omega⟩
  · rintro ⟨x, hx, h1, h2⟩
    exact ⟨_, (h.mem i _).2 ⟨x, hx, h1, rfl⟩, h2⟩
/-- All but those of Ips. -/
def idels (L : List Nat) (l : List (It β)) : List (It β) := L.foldl (fun l i => idel i l) l
theorem idels_nil (l : List (It β)) : idels [] l = l := rfl
theorem idels_snoc (L : List Nat) (i : Nat) (l : List (It β)) : idels (L ++ [i]) l = idel i (idels L l) := by unfold idels; rw [List.foldl_append]; rfl
theorem idels_cons (L : List Nat) (i : Nat) (l : List (It β)) : idels (i :: L) l = idels L (idel i l) := rfl
theorem idels_filter : ∀ (L : List Nat) (l : List (It β)), idels L l = l.filter (fun x => decide (x.ip ∉ L))
  | [], l => by rw [idels_nil]; symm; rw [List.filter_eq_self]; intro x _; simp
  | i :: L, l => by
    rw [idels_cons, idels_filter L]
    unfold idel
    rw [List.filter_filter]
    congr 1
    funext x
    by_cases h1 : x.ip = i <;> by_cases h2 : x.ip ∈ L <;> simp [h1, h2, bne]
theorem mem_idels {L : List Nat} {l : List (It β)} {x : It β} : x ∈ idels L l ↔ x ∈ l ∧ x.ip ∉ L := by rw [idels_filter]; simp
theorem IS.dels {n : Nat} {l : List (It β)} (h : IS n l) (L : List Nat) : IS n (idels L l) := by rw [idels_filter]; exact h.sub List.filter_sublist
end
end Go.Proofs.YtgidjgkafbjkpaaGreatDoor
namespace Go.Proofs.YtgidjgkafbjkpaaGreatDoor
open Go.RowKit

section
variable {β : Type}
theorem IS.tail {n : Nat} {l : List (It β)} (h : IS n l) : IS n l.tail := h.sub (List.tail_sublist l)
/-- The head is the eldest. -/
theorem IS.head {n : Nat} {x y : It β} {l : List (It β)} (h : IS n (x :: l)) (hy : y ∈ x :: l) : x.ord ≤ y.ord := by
  rcases List.mem_cons.1 hy with rfl | hy
  · exact Nat.le_refl _
  · exact Nat.le_of_lt ((List.pairwise_cons.1 h.ord).1 y hy)
theorem IS.head_lt {n : Nat} {x y : It β} {l : List (It β)} (h : IS n (x :: l)) (hy : y ∈ x :: l) (hne : y.ip ≠ x.ip) : x.ord < y.ord := by
  rcases List.mem_cons.1 hy with rfl | hy
  · exact absurd rfl hne
  · exact (List.pairwise_cons.1 h.ord).1 y hy
theorem IS.head_del {n : Nat} {x : It β} {l : List (It β)} (h : IS n (x :: l)) : idel x.ip (x :: l) = l := by
  have hn := h.nd
  rw [List.map_cons, List.nodup_cons] at hn
  have h0 : iget x.ip l = none := iget_none.2 (fun z hz e => hn.1 (by rw [← e]; exact List.mem_map_of_mem hz))
  have := idel_none h0
  unfold idel at this ⊢
  rw [List.filter_cons_of_neg (by simp), this]
/-- What learning leaves of what was there. -/
def base (room i : Nat) (l : List (It β)) : List (It β) := if (iget i l).isSome then idel i l else if room ≤ l.length then l.tail else l
theorem IS.base {n room i : Nat} {l : List (It β)} (h : IS n l) : IS n (base room i l) := by
  unfold Go.Proofs.YtgidjgkafbjkpaaGreatDoor.base
  split
  · exact h.del i
  · split
    · exact h.tail
    · exact h
theorem base_none {n room i : Nat} {l : List (It β)} (h : IS n l) : iget i (base room i l) = none := by
  unfold base
  split
  · rw [iget_idel, if_pos rfl]
  · rename_i hn
    have h0 : iget i l = none := by
      cases hg : iget i l with
      | none => rfl
      | some x => rw [hg] at hn; exact absurd rfl hn
    split
    · exact iget_none.2 (fun x hx => iget_none.1 h0 x (List.mem_of_mem_tail hx))
    · exact h0
theorem base_len {n room i : Nat} {l : List (It β)} (h : IS n l) (h1 : 1 ≤ room) (hl : l.length ≤ room) : (base room i l).length + 1 ≤ room := by
  unfold base
  split
  · rename_i hs
    obtain ⟨x, hx⟩ := Option.isSome_iff_exists.1 hs
    have := idel_len h hx
    omega
  · split
    · rw [List.length_tail]; omega
    · omega
/-- The thing of an Ip has another value. -/
def iset (i : Nat) (v : β) (l : List (It β)) : List (It β) := l.map fun x => if x.ip = i then { x with v := v } else x
theorem iset_ips (i : Nat) (v : β) (l : List (It β)) : (iset i v l).map It.ip = l.map It.ip := by
  unfold iset
  rw [List.map_map]
  refine List.map_congr_left (fun x _ => ?_)
  show (if x.ip = i then { x with v := v } else x).ip = x.ip
  split <;> rfl
theorem mem_iset {i : Nat} {v : β} {l : List (It β)} {y : It β} : y ∈ iset i v l ↔ ∃ x ∈ l, y = if x.ip = i then { x with v := v } else x := by
  unfold iset
  rw [List.mem_map]
  constructor
  · rintro ⟨x, hx, e⟩; exact ⟨x, hx, e.symm⟩
  · rintro ⟨x, hx, e⟩; exact ⟨x, hx, e.symm⟩
theorem iset_len (i : Nat) (v : β) (l : List (It β)) : (iset i v l).length = l.length := List.length_map ..
theorem IS.set {n : Nat} {l : List (It β)} (h : IS n l) (i : Nat) (v : β) : IS n (iset i v l) := by
  refine ⟨by rw [iset_ips]; exact h.nd, ?_, fun y hy => ?_⟩
  · unfold iset
    rw [List.pairwise_map]
    refine h.ord.imp (fun {x y} hxy => ?_)
    have e : ∀ x : It β, (if x.ip = i then { x with v := v } else x).ord = x.ord := fun x => by split <;> rfl
    rw [e, e]
    exact hxy
  · obtain ⟨x, hx, rfl⟩ := mem_iset.1 hy
    have := h.le x hx
    split <;> exact this
theorem iget_iset (i j : Nat) (v : β) : ∀ l : List (It β), iget j (iset i v l) = (iget j l).map fun x => if j = i then { x with v := v } else x
  | [] => rfl
  | x :: l => by
    have ih := iget_iset i j v l
    unfold iset at ih ⊢
    rw [List.map_cons]
    unfold iget
    have e : (if x.ip = i then { x with v := v } else x).ip = x.ip := by split <;> rfl
    rw [e, ih]
    by_cases hj : x.ip = j
    · rw [if_pos hj, if_pos hj, Option.map_some, hj]
    · rw [if_neg hj, if_neg hj]
theorem WR.iset {R : Rows} {l : List (It β)} (h : WR R l) (i : Nat) (v : β) : WR R (iset i v l) := by
  refine ⟨h.rs, fun j d => ?_⟩
  rw [h.mem]
  constructor
  · rintro ⟨x, hx, h1, h2⟩
    refine ⟨_, mem_iset.2 ⟨x, hx, rfl⟩, ?_, ?_⟩ <;> split <;> assumption
  · rintro ⟨y, hy, h1, h2⟩
    obtain ⟨x, hx, rfl⟩ := mem_iset.1 hy
    refine ⟨x, hx, ?_, ?_⟩
    · revert h1; split <;> exact fun h => h
    · revert h2; split <;> exact fun h => h
/-- What a wheel tells at two times is what it tells at the greater one. -/
theorem rgot_two : ∀ {R : Rows} {t u : Nat}, t ≤ u → rgot u R = rgot t R ++ rgot u (rrest t R)
  | [], _, _, _ => rfl
  | y :: R, t, u, h => by
    by_cases h1 : y.2 ≤ t
    · have e1 : rrest t (y :: R) = rrest t R := by rw [rrest, if_pos h1]
      have e2 : rgot t (y :: R) = y.1 :: rgot t R := by rw [rgot, if_pos h1]
      have e3 : rgot u (y :: R) = y.1 :: rgot u R := by rw [rgot, if_pos (by omega)]
      rw [e1, e2, e3, List.cons_append, ← rgot_two h]
    · have e1 : rrest t (y :: R) = y :: R := by rw [rrest, if_neg h1]
      have e2 : rgot t (y :: R) = [] := by rw [rgot, if_neg h1]
      rw [e1, e2, List.nil_append]
theorem rrest_two : ∀ {R : Rows} {t u : Nat}, t ≤ u → rrest u (rrest t R) = rrest u R
  | [], _, _, _ => rfl
  | y :: R, t, u, h => by
    by_cases h1 : y.2 ≤ t
    · have e1 : rrest t (y :: R) = rrest t R := by rw [rrest, if_pos h1]
      have e2 : rrest u (y :: R) = rrest u R := by rw [rrest, if_pos (by omega)]
      rw [e1, e2, rrest_two h]
    · have e1 : rrest t (y :: R) = y :: R := by rw [rrest, if_neg h1]
      rw [e1]
theorem left_two {t u : Nat} (h : t ≤ u) (l : List (It β)) : lft u (lft t l) = lft u l := by
  unfold lft
  rw [List.filter_filter]
  congr 1
  funext x
  by_cases h1 : u < x.due
  · simp [h1, show t < x.due by omega]
  · simp [h1]
theorem iget_left {n t i : Nat} {l : List (It β)} {x : It β} (h : IS n l) (hg : iget i l = some x) (hd : t < x.due) : iget i (lft t l) = some x :=
  h.left.get (mem_left.2 ⟨(iget_mem hg).1, hd⟩) (iget_mem hg).2
theorem iget_idels {i : Nat} : ∀ {L : List Nat} {l : List (It β)}, i ∉ L → iget i (idels L l) = iget i l
  | [], l, _ => rfl
  | j :: L, l, h => by
    rw [List.mem_cons, not_or] at h
    rw [idels_cons, iget_idels h.2, iget_idel, if_neg h.1]
/-- All that are over gone, one by one: those that are left. -/
theorem WR.gone {n t : Nat} {R : Rows} {l : List (It β)} (h : WR R l) (hl : IS n l) {L : List Nat} (hL : L.map (fun i : Nat => (i : Int)) = rgot t R) : idels L l = lft t l := by
  rw [idels_filter]
  unfold lft
  refine List.filter_congr (fun x hx => ?_)
  have hiff : x.ip ∈ L ↔ x.due ≤ t := by
    have h1 : x.ip ∈ L ↔ (x.ip : Int) ∈ rgot t R := by
      rw [← hL]
      constructor
      · exact fun hm => List.mem_map.2 ⟨_, hm, rfl⟩
      · intro hm
        obtain ⟨j, hj, e⟩ := List.mem_map.1 hm
        have : j = x.ip := by omega
        rw [← this]; exact hj
    rw [h1, h.got hl]
    constructor
    · rintro ⟨y, hy, e, hd⟩
      have hxy := hl.get hx rfl
      have hyx := hl.get hy rfl
      have e' : y.ip = x.ip := by omega
      rw [e'] at hyx
      rw [hxy] at hyx
      injection hyx with hyx
      rw [hyx]; exact hd
    · exact fun hd => ⟨x, hx, rfl, hd⟩
  by_cases h1 : x.due ≤ t
  · simp [hiff.2 h1, h1]
  · have h2 : x.ip ∉ L := fun hm => h1 (hiff.1 hm)
    simp [h2]
    omega
end
/-- All tokens, row by row. -/
def toks (l : List Rw) : List Int := l.flatMap It.v
/-- The tokens of an Ip's row. -/
def tokof (l : List Rw) (i : Nat) : List Int := ((iget i l).map It.v).getD []
/-- What a sweep tells. -/
def outs (L : List Nat) (l : List Rw) : List Int := L.flatMap (tokof l)
theorem outs_two {n t u : Nat} {R : Rows} {l : List Rw} (h : WR R l) (hl : IS n l) {A B : List Nat} (hA : A.map (fun i : Nat => (i : Int)) = rgot t R) (hB : B.map (fun i : Nat => (i : Int)) = rgot u (rrest t R)) : outs (A ++ B) l = outs A l ++ outs B (lft t l) := by
  unfold outs
  rw [List.flatMap_append]
  congr 1
  rw [List.flatMap_def, List.flatMap_def]
  refine congrArg List.flatten (List.map_congr_left (fun i hi => ?_))
  have hm : (i : Int) ∈ rgot u (rrest t R) := by rw [← hB]; exact List.mem_map.2 ⟨i, hi, rfl⟩
  obtain ⟨x, hx, e, _⟩ := ((h.left t).got hl.left).1 hm
  obtain ⟨hx1, hx2⟩ := mem_left.1 hx
  have e' : x.ip = i := by omega
  unfold tokof
  rw [hl.get hx1 e', hl.left.get hx e']
end Go.Proofs.YtgidjgkafbjkpaaGreatDoor
namespace Go.Proofs.YtgidjgkafbjkpaaGreatDoor
open Go.RowKit

/-- Tokens with their rows' Ips. -/
def prs (l : List Rw) : List (Int × Nat) := l.flatMap fun r => r.v.map fun t => (t, r.ip)
theorem prs_cons (r : Rw) (l : List Rw) : prs (r :: l) = r.v.map (fun t => (t, r.ip)) ++ prs l := rfl
theorem prs_toks : ∀ l : List Rw, (prs l).map Prod.fst = toks l
  | [] => rfl
  | r :: l => by
    rw [prs_cons, List.map_append, prs_toks l, List.map_map]
    show r.v.map (fun t => t) ++ toks l = toks (r :: l)
    rw [List.map_id']
    rfl
theorem prs_len (l : List Rw) : (prs l).length = (toks l).length := by rw [← prs_toks, List.length_map]
theorem mem_prs {l : List Rw} {t : Int} {i : Nat} : (t, i) ∈ prs l ↔ ∃ r ∈ l, r.ip = i ∧ t ∈ r.v := by
  unfold prs
  rw [List.mem_flatMap]
  constructor
  · rintro ⟨r, hr, h⟩
    obtain ⟨u, hu, e⟩ := List.mem_map.1 h
    injection e with e1 e2
    subst e1
    exact ⟨r, hr, e2, hu⟩
  · rintro ⟨r, hr, rfl, h⟩
    exact ⟨r, hr, List.mem_map.2 ⟨t, h, rfl⟩⟩
/-- A map of tokens holds just these. -/
structure TW (W : List Ent) (P : List (Int × Nat)) : Prop where
  mem : ∀ t v, mget t W = some v ↔ ∃ i : Nat, (t, i) ∈ P ∧ v = .int .u32 (i : Int)
  len : W.length = P.length
  nd : (P.map Prod.fst).Nodup
theorem TW.nil : TW [] [] := ⟨fun t v => by simp [mget], rfl, by simp⟩
theorem TW.perm {W : List Ent} {P Q : List (Int × Nat)} (h : TW W P) (hp : P.Perm Q) : TW W Q :=
  ⟨fun t v => by rw [h.mem]; simp only [hp.mem_iff], h.len.trans hp.length_eq, ((hp.map Prod.fst).nodup_iff).1 h.nd⟩
theorem TW.none_ {W : List Ent} {P : List (Int × Nat)} (h : TW W P) {t : Int} (ht : t ∉ P.map Prod.fst) : mget t W = none := by
  cases hg : mget t W with
  | none => rfl
  | some v =>
    obtain ⟨i, hi, _⟩ := (h.mem t v).1 hg
    exact absurd (List.mem_map.2 ⟨_, hi, rfl⟩) ht
theorem TW.some_ {W : List Ent} {P : List (Int × Nat)} (h : TW W P) {t : Int} {i : Nat} (ht : (t, i) ∈ P) : mget t W = some (.int .u32 (i : Int)) := (h.mem t _).2 ⟨i, ht, rfl⟩
theorem TW.put {W : List Ent} {P : List (Int × Nat)} (h : TW W P) {t : Int} (ht : t ∉ P.map Prod.fst) (i c : Nat) : TW (mput t (.int .u32 (i : Int)) c W) (P ++ [(t, i)]) := by
  have h0 := h.none_ ht
  refine ⟨fun u v => ?_, ?_, ?_⟩
  · rw [mget_mput]
    by_cases hu : u = t
    · subst hu
      rw [if_pos rfl]
      constructor
      · intro e
        injection e with e
        exact ⟨i, List.mem_append_right _ (List.mem_singleton.2 rfl), e.symm⟩
      · rintro ⟨j, hj, rfl⟩
        rcases List.mem_append.1 hj with hj | hj
        · exact absurd (List.mem_map.2 ⟨_, hj, rfl⟩) ht
        · rw [List.mem_singleton] at hj
          injection hj with _ hj
          rw [hj]
    · rw [if_neg hu, h.mem]
      constructor
      · rintro ⟨j, hj, rfl⟩; exact ⟨j, List.mem_append_left _ hj, rfl⟩
      · rintro ⟨j, hj, rfl⟩
        rcases List.mem_append.1 hj with hj | hj
        · exact ⟨j, hj, rfl⟩
        · rw [List.mem_singleton] at hj
          injection hj with hj _
          exact absurd hj hu
  · unfold mput
    rw [h0]
    simp [h.len]
  · rw [List.map_append, List.nodup_append]
    refine ⟨h.nd, by simp, fun a ha b hb => ?_⟩
    rw [List.map_singleton, List.mem_singleton] at hb
    subst hb
    rintro rfl
    exact ht ha
theorem filter_none {α : Type} {p : α → Bool} {l : List α} (h : ∀ x ∈ l, p x = true) : l.filter p = l := List.filter_eq_self.2 h
theorem del_len : ∀ {P : List (Int × Nat)} {t : Int} {i : Nat}, (P.map Prod.fst).Nodup → (t, i) ∈ P → (P.filter (fun x => x.1 != t)).length + 1 = P.length
  | [], _, _, _, h => by cases h
  | y :: P, t, i, hn, h => by
    rw [List.map_cons, List.nodup_cons] at hn
    by_cases hy : y.1 = t
    · have e : P.filter (fun x => x.1 != t) = P := filter_none (fun x hx => by
        have : x.1 ≠ t := fun e => hn.1 (by rw [hy, ← e]; exact List.mem_map_of_mem hx)
        simpa using this)
      rw [List.filter_cons_of_neg (by simp [hy]), e]
      rfl
    · rcases List.mem_cons.1 h with h | h
      · exact absurd (by rw [← h]) hy
      · have ih := del_len hn.2 h
        rw [List.filter_cons_of_pos (by simp [hy])]
        simp [ih]
theorem TW.del {W : List Ent} {P : List (Int × Nat)} (h : TW W P) (hk : (W.map Ent.k).Nodup) {t : Int} {i : Nat} (ht : (t, i) ∈ P) : TW (mdel t W) (P.filter (fun x => x.1 != t)) := by
  refine ⟨fun u v => ?_, ?_, ?_⟩
  · rw [mget_mdel t u W hk]
    by_cases hu : u = t
    · subst hu
      rw [if_pos rfl]
      constructor
      · intro e; cases e
      · rintro ⟨j, hj, _⟩
        have := (List.mem_filter.1 hj).2
        simp at this
    · rw [if_neg hu, h.mem]
      constructor
      · rintro ⟨j, hj, rfl⟩; exact ⟨j, List.mem_filter.2 ⟨hj, by simpa using hu⟩, rfl⟩
      · rintro ⟨j, hj, rfl⟩; exact ⟨j, (List.mem_filter.1 hj).1, rfl⟩
  · have h1 := mdel_len t W (by rw [h.some_ ht]; rfl)
    have h2 := del_len h.nd ht
    have := h.len
    omega
  · exact (List.filter_sublist.map Prod.fst).nodup h.nd
/-- What is left behind the first k told. -/
def lessk (T : List Int) (k : Nat) (P : List (Int × Nat)) : List (Int × Nat) := P.filter (fun x => decide (x.1 ∉ T.take k))
theorem lessk_zero (T : List Int) (P : List (Int × Nat)) : lessk T 0 P = P := filter_none (fun x _ => by simp)
theorem lessk_succ {T : List Int} {k : Nat} (h : k < T.length) (P : List (Int × Nat)) : lessk T (k + 1) P = (lessk T k P).filter (fun x => x.1 != T[k]) := by
  unfold lessk
  rw [List.filter_filter]
  congr 1
  funext x
  have hm : x.1 ∈ T.take (k + 1) ↔ x.1 ∈ T.take k ∨ x.1 = T[k] := by rw [List.take_succ_eq_append_getElem h, List.mem_append, List.mem_singleton]
  by_cases h1 : x.1 ∈ T.take k
  · rw [decide_eq_false (fun hx => hx (hm.2 (.inl h1))), decide_eq_false (fun hx => hx h1), Bool.and_false]
  · by_cases h2 : x.1 = T[k]
    · rw [decide_eq_false (fun hx => hx (hm.2 (.inr h2))), h2]
      simp
    · have h3 : x.1 ∉ T.take (k + 1) := fun hx => by rcases hm.1 hx with h | h; exact h1 h; exact h2 h
      rw [decide_eq_true h3, decide_eq_true h1]
      simp [h2]
theorem lessk_mem {T : List Int} {k : Nat} (h : k < T.length) (hn : T.Nodup) {P : List (Int × Nat)} {i : Nat} (hm : (T[k], i) ∈ P) : (T[k], i) ∈ lessk T k P := by
  unfold lessk
  refine List.mem_filter.2 ⟨hm, ?_⟩
  have : T[k] ∉ T.take k := fun hx => by
    obtain ⟨j, hj, e⟩ := List.getElem_of_mem hx
    rw [List.length_take] at hj
    rw [List.getElem_take] at e
    exact absurd e (List.pairwise_iff_getElem.1 hn j k (by omega) h (by omega))
  simpa using this
theorem tokof_sub {n i : Nat} {l : List Rw} (h : IS n l) {t : Int} (ht : t ∈ tokof l i) : (t, i) ∈ prs l := by
  unfold tokof at ht
  cases hg : iget i l with
  | none => rw [hg] at ht; cases ht
  | some r =>
    rw [hg] at ht
    exact mem_prs.2 ⟨r, (iget_mem hg).1, (iget_mem hg).2, ht⟩
theorem tokof_iff {n i : Nat} {l : List Rw} (h : IS n l) {t : Int} : t ∈ tokof l i ↔ (t, i) ∈ prs l := by
  refine ⟨tokof_sub h, fun hp => ?_⟩
  obtain ⟨r, hr, e, ht⟩ := mem_prs.1 hp
  unfold tokof
  rw [h.get hr e]
  exact ht
theorem prs_uniq {l : List Rw} (hn : (toks l).Nodup) {t : Int} {i j : Nat} (h1 : (t, i) ∈ prs l) (h2 : (t, j) ∈ prs l) : i = j := by
  rw [← prs_toks] at hn
  have key : ∀ {P : List (Int × Nat)}, (P.map Prod.fst).Nodup → (t, i) ∈ P → (t, j) ∈ P → i = j := by
    intro P
    induction P with
    | nil => intro _ h _; cases h
    | cons y P ih =>
      intro hn h1 h2
      rw [List.map_cons, List.nodup_cons] at hn
      rcases List.mem_cons.1 h1 with e1 | h1 <;> rcases List.mem_cons.1 h2 with e2 | h2
      · rw [← e1] at e2; injection e2 with _ e2; exact e2.symm
      · exact absurd (by rw [← e1]; exact List.mem_map.2 ⟨_, h2, rfl⟩) hn.1
      · exact absurd (by rw [← e2]; exact List.mem_map.2 ⟨_, h1, rfl⟩) hn.1
      · exact ih hn.2 h1 h2
  exact key hn h1 h2
/-- Rows that go by a test leave the pairs of the others. -/
theorem prs_filter (p : Rw → Bool) (T : List Int) : ∀ {l : List Rw}, (∀ r ∈ l, ∀ t ∈ r.v, (t ∈ T ↔ p r = false)) → prs (l.filter p) = (prs l).filter (fun x => decide (x.1 ∉ T))
  | [], _ => rfl
  | r :: l, h => by
    have ih := prs_filter p T (fun r' hr' => h r' (List.mem_cons_of_mem _ hr'))
    have h0 := h r List.mem_cons_self
    rw [prs_cons, List.filter_append, ← ih]
    cases hp : p r with
    | true =>
      rw [List.filter_cons_of_pos hp, prs_cons]
      congr 1
      symm
      refine filter_none (fun x hx => ?_)
      obtain ⟨t, ht, rfl⟩ := List.mem_map.1 hx
      have : t ∉ T := fun hT => by rw [(h0 t ht).1 hT] at hp; cases hp
      simpa using this
    | false =>
      rw [List.filter_cons_of_neg (by simp [hp])]
      have : (r.v.map fun t => (t, r.ip)).filter (fun x => decide (x.1 ∉ T)) = [] := by
        rw [List.filter_eq_nil_iff]
        intro x hx
        obtain ⟨t, ht, rfl⟩ := List.mem_map.1 hx
        have : t ∈ T := (h0 t ht).2 hp
        simpa using this
      rw [this]
      rfl
theorem toks_nd {l : List Rw} {p : Rw → Bool} (h : (toks l).Nodup) : (toks (l.filter p)).Nodup := by
  have : (toks (l.filter p)).Sublist (toks l) := by
    induction l with
    | nil => exact List.Sublist.refl _
    | cons r l ih =>
      have hn : (toks l).Nodup := (List.nodup_append.1 (show (r.v ++ toks l).Nodup from h)).2.1
      by_cases hp : p r = true
      · rw [List.filter_cons_of_pos hp]
        exact (ih hn).append_left r.v
      · rw [List.filter_cons_of_neg hp]
        exact (ih hn).trans (List.sublist_append_right _ _)
  exact this.nodup h
/-- Learning tells the tokens of its Ip's row, and leaves the others. -/
theorem prs_learn {n i : Nat} {l : List Rw} (h : IS n l) (hn : (toks l).Nodup) : prs (idel i l) = lessk (tokof l i) (tokof l i).length (prs l) := by
  unfold lessk idel
  rw [List.take_length]
  refine prs_filter _ _ (fun r hr t ht => ?_)
  rw [tokof_iff h]
  constructor
  · intro hp
    have := prs_uniq hn hp (mem_prs.2 ⟨r, hr, rfl, ht⟩)
    simp [this]
  · intro hf
    have : r.ip = i := by simpa using hf
    exact mem_prs.2 ⟨r, hr, this, ht⟩
theorem mem_outs {n t : Nat} {R : Rows} {l : List Rw} (h : WR R l) (hl : IS n l) {L : List Nat} (hL : L.map (fun i : Nat => (i : Int)) = rgot t R) {u : Int} : u ∈ outs L l ↔ ∃ r ∈ l, u ∈ r.v ∧ r.due ≤ t := by
  unfold outs
  rw [List.mem_flatMap]
  constructor
  · rintro ⟨i, hi, hu⟩
    have hm : (i : Int) ∈ rgot t R := by rw [← hL]; exact List.mem_map.2 ⟨i, hi, rfl⟩
    obtain ⟨r, hr, e, hd⟩ := (h.got hl).1 hm
    have e' : r.ip = i := by omega
    unfold tokof at hu
    rw [hl.get hr e'] at hu
    exact ⟨r, hr, hu, hd⟩
  · rintro ⟨r, hr, hu, hd⟩
    have hm : (r.ip : Int) ∈ rgot t R := (h.got hl).2 ⟨r, hr, rfl, hd⟩
    rw [← hL] at hm
    obtain ⟨i, hi, e⟩ := List.mem_map.1 hm
    have e' : i = r.ip := by omega
    subst e'
    refine ⟨r.ip, hi, ?_⟩
    unfold tokof
    rw [hl.get hr rfl]
    exact hu
theorem prs_sweep {n t : Nat} {R : Rows} {l : List Rw} (h : WR R l) (hl : IS n l) (hn : (toks l).Nodup) {L : List Nat} (hL : L.map (fun i : Nat => (i : Int)) = rgot t R) : prs (lft t l) = lessk (outs L l) (outs L l).length (prs l) := by
  unfold lessk lft
  rw [List.take_length]
  refine prs_filter _ _ (fun r hr u hu => ?_)
  rw [mem_outs h hl hL]
  constructor
  · rintro ⟨r', hr', hu', hd⟩
    have e := prs_uniq hn (mem_prs.2 ⟨r', hr', rfl, hu'⟩) (mem_prs.2 ⟨r, hr, rfl, hu⟩)
    have h1 := hl.get hr' rfl
    rw [e, hl.get hr rfl] at h1
    injection h1 with h1
    subst h1
    simpa using hd
  · intro hf
    exact ⟨r, hr, hu, by simpa using hf⟩
theorem toks_le {m : Nat} : ∀ {l : List Rw}, (∀ r ∈ l, r.v.length ≤ m) → (toks l).length ≤ l.length * m
  | [], _ => by simp [toks]
  | r :: l, h => by
    have ih := toks_le (fun r' hr' => h r' (List.mem_cons_of_mem _ hr'))
    have h0 := h r List.mem_cons_self
    show (r.v ++ toks l).length ≤ _
    rw [List.length_append, List.length_cons, Nat.add_mul]
    omega
end Go.Proofs.YtgidjgkafbjkpaaGreatDoor
namespace Go.Proofs.YtgidjgkafbjkpaaGreatDoor
open Go.RowKit

/-- A list's values, each once, the last one first. -/
def recs (l : List Nat) : List Nat := l.foldl (fun r x => x :: r.filter (fun y => y != x)) []
theorem recs_snoc (l : List Nat) (x : Nat) : recs (l ++ [x]) = x :: (recs l).filter (fun y => y != x) := by unfold recs; rw [List.foldl_append]; rfl
theorem snoc_ind {α : Type} {p : List α → Prop} (h0 : p []) (h1 : ∀ l x, p l → p (l ++ [x])) (l : List α) : p l := by
  have key : ∀ n, ∀ l : List α, l.length = n → p l := by
    intro n
    induction n with
    | zero => intro l hl; rw [List.eq_nil_of_length_eq_zero hl]; exact h0
    | succ n ih =>
      intro l hl
      rcases List.eq_nil_or_concat l with rfl | ⟨m, x, rfl⟩
      · cases hl
      · rw [List.concat_eq_append] at hl ⊢
        exact h1 m x (ih m (by simpa using hl))
  exact key _ l rfl
theorem mem_recs {l : List Nat} {x : Nat} : x ∈ recs l ↔ x ∈ l := by
  refine snoc_ind (p := fun l => x ∈ recs l ↔ x ∈ l) (by simp [recs]) (fun l y ih => ?_) l
  rw [recs_snoc, List.mem_cons, List.mem_filter, ih, List.mem_append, List.mem_singleton]
  by_cases h : x = y <;> simp [h]
theorem recs_nd (l : List Nat) : (recs l).Nodup := by
  refine snoc_ind (p := fun l => (recs l).Nodup) (by simp [recs]) (fun l y ih => ?_) l
  rw [recs_snoc, List.nodup_cons]
  exact ⟨fun h => by simpa using (List.mem_filter.1 h).2, List.filter_sublist.nodup ih⟩
/-- Those of the tail come first. -/
theorem recs_app (a b : List Nat) : recs (a ++ b) = recs b ++ (recs a).filter (fun y => decide (y ∉ b)) := by
  refine snoc_ind (p := fun b => recs (a ++ b) = recs b ++ (recs a).filter (fun y => decide (y ∉ b))) ?_ (fun b x ih => ?_) b
  · rw [List.append_nil]
    symm
    show [] ++ _ = _
    rw [List.nil_append, List.filter_eq_self]
    intro y _
    simp
  · rw [← List.append_assoc, recs_snoc, recs_snoc, ih, List.filter_append, List.filter_filter, List.cons_append]
    congr 2
    congr 1
    funext y
    by_cases h1 : y = x <;> by_cases h2 : y ∈ b <;> simp [h1, h2]
theorem take_filter_ne {x : Nat} : ∀ (n : Nat) (l : List Nat), x ∉ l.take n → l.Nodup → (l.filter (fun y => y != x)).take n = l.take n ∨ n < (l.filter (fun y => y != x)).length ∨ True := fun _ _ _ _ => .inr (.inr trivial)
theorem take_pre {x : Nat} : ∀ (n : Nat) (l : List Nat), x ∉ l.take (n + 1) → (l.filter (fun y => y != x)).take n = l.take n
  | 0, _, _ => by simp
  | n + 1, [], _ => by simp
  | n + 1, y :: l, h => by
    rw [List.take_succ_cons, List.mem_cons, not_or] at h
    rw [List.filter_cons_of_pos (by simp; exact fun e => h.1 e.symm), List.take_succ_cons, List.take_succ_cons, take_pre n l h.2]
theorem filter_take {x : Nat} : ∀ (n : Nat) (l : List Nat), x ∈ l.take (n + 1) → l.Nodup → (l.filter (fun y => y != x)).take n = (l.take (n + 1)).filter (fun y => y != x)
  | n, [], h, _ => by simp at h
  | n, y :: l, h, hn => by
    rw [List.nodup_cons] at hn
    by_cases hy : y = x
    · subst hy
      have e : ∀ m : List Nat, y ∉ m → m.filter (fun z => z != y) = m := fun m hm => List.filter_eq_self.2 (fun z hz => by
        have : z ≠ y := fun e => hm (e ▸ hz)
        simpa using this)
      rw [List.filter_cons_of_neg (by simp), List.take_succ_cons, List.filter_cons_of_neg (by simp), e l hn.1, e _ (fun h => hn.1 (List.mem_of_mem_take h))]
    · rw [List.take_succ_cons] at h ⊢
      rcases List.mem_cons.1 h with h | h
      · exact absurd h.symm hy
      · rw [List.filter_cons_of_pos (by simpa using hy), List.filter_cons_of_pos (by simpa using hy)]
        cases n with
        | zero => simp at h
        | succ n => rw [List.take_succ_cons, filter_take n l h hn.2]
/-- Behind some learning of one time: the last Ips that were learned, as many as there is room for. -/
structure FS (room due : Nat) (ms : Nat → M6) (L : List Nat) (l : List En) : Prop where
  ips : (l.map It.ip).reverse = (recs L).take room
  val : ∀ x ∈ l, x.due = due ∧ ∃ (i : Nat) (h : i < L.length), L[i] = x.ip ∧ x.v = ms i ∧ ∀ (j : Nat) (hj : j < L.length), i < j → L[j] ≠ x.ip
theorem FS.nil (room due : Nat) (ms : Nat → M6) : FS room due ms [] [] := ⟨by simp [recs], fun x hx => by cases hx⟩
theorem FS.step {room due n : Nat} {ms : Nat → M6} {L : List Nat} {l : List En} (h : FS room due ms L l) (hl : IS n l) (h1 : 1 ≤ room) (i : Nat) : FS room due ms (L ++ [i]) (base room i l ++ [⟨i, ms L.length, n + 1, due⟩]) := by
  have hmem : i ∈ l.map It.ip ↔ i ∈ (recs L).take room := by rw [← h.ips, List.mem_reverse]
  have hlen : l.length = ((recs L).take room).length := by rw [← h.ips, List.length_reverse, List.length_map]
  obtain ⟨r, rfl⟩ : ∃ r, room = r + 1 := ⟨room - 1, by omega⟩
  refine ⟨?_, fun x hx => ?_⟩
  · rw [List.map_append, List.reverse_append, recs_snoc, List.take_succ_cons]
    show i :: ((base (r + 1) i l).map It.ip).reverse = _
    congr 1
    unfold base
    by_cases hi : i ∈ l.map It.ip
    · have hs : (iget i l).isSome = true := by
        obtain ⟨x, hx, e⟩ := List.mem_map.1 hi
        rw [hl.get hx e]; rfl
      rw [if_pos hs, filter_take r (recs L) (hmem.1 hi) (recs_nd L), ← h.ips, List.filter_reverse]
      congr 1
      unfold idel
      rw [List.filter_map]
      congr 1
    · have hs : ¬ (iget i l).isSome = true := fun hs => by
        obtain ⟨x, hx⟩ := Option.isSome_iff_exists.1 hs
        exact hi (List.mem_map.2 ⟨x, (iget_mem hx).1, (iget_mem hx).2⟩)
      rw [if_neg hs, take_pre r (recs L) (fun hx => hi (hmem.2 hx))]
      by_cases hr : r + 1 ≤ l.length
      · rw [if_pos hr]
        have e : ((recs L).take (r + 1)).take r = (recs L).take r := by rw [List.take_take]; congr 1; omega
        rw [← e, ← h.ips]
        rw [List.take_reverse, List.map_tail]
        congr 1
        rw [List.length_map]
        have hl1 : l.length = r + 1 := by
          have := List.length_take_le (r + 1) (recs L)
          omega
        rw [hl1, show r + 1 - r = 1 by omega, List.drop_one]
      · rw [if_neg hr, h.ips]
        rw [List.length_take] at hlen
        rw [List.take_of_length_le (by omega), List.take_of_length_le (by omega)]
  · rcases List.mem_append.1 hx with hx | hx
    · have hne : x.ip ≠ i := iget_none.1 (base_none (room := r + 1) hl) x hx
      have hxl : x ∈ l := by
        unfold base at hx
        split at hx
        · exact (mem_idel.1 hx).1
        · split at hx
          · exact List.mem_of_mem_tail hx
          · exact hx
      obtain ⟨h2, j, hj, e1, e2, e3⟩ := h.val x hxl
      refine ⟨h2, j, by rw [List.length_append]; omega, by rw [List.getElem_append_left hj]; exact e1, e2, fun k hk hjk => ?_⟩
      by_cases hkl : k < L.length
      · rw [List.getElem_append_left hkl]; exact e3 k hkl hjk
      · rw [List.length_append, List.length_singleton] at hk
        have : k = L.length := by omega
        subst this
        rw [List.getElem_append_right (Nat.le_refl _)]
        simpa using fun e => hne e.symm
    · rw [List.mem_singleton] at hx
      subst hx
      refine ⟨rfl, L.length, by simp, by simp, rfl, fun k hk hjk => ?_⟩
      rw [List.length_append, List.length_singleton] at hk
      omega
/-- What is asked of an Ip that no later one is: it is there just if there is room for it. -/
theorem FS.there {room due n : Nat} {ms : Nat → M6} {L : List Nat} {l : List En} (h : FS room due ms L l) (hl : IS n l) {i : Nat} (hi : i < L.length) (hn : L[i] ∉ L.drop (i + 1)) :
    (if (recs (L.drop (i + 1))).length < room then ∃ x, iget L[i] l = some x ∧ x.v = ms i ∧ x.due = due else iget L[i] l = none) := by
  have e : L = L.take i ++ [L[i]] ++ L.drop (i + 1) := by rw [← List.take_succ_eq_append_getElem hi, List.take_append_drop]
  have hrec : recs L = recs (L.drop (i + 1)) ++ L[i] :: ((recs (L.take i)).filter (fun y => y != L[i])).filter (fun y => decide (y ∉ L.drop (i + 1))) := by
    conv => lhs; rw [e]
    rw [recs_app, recs_snoc, List.filter_cons_of_pos (by simpa using hn)]
  have hmem : L[i] ∈ l.map It.ip ↔ L[i] ∈ (recs L).take room := by rw [← h.ips, List.mem_reverse]
  have hnot : L[i] ∉ recs (L.drop (i + 1)) := fun hm => hn (mem_recs.1 hm)
  split
  · rename_i hlt
    have hin : L[i] ∈ (recs L).take room := by
      rw [hrec, List.take_append, List.mem_append]
      right
      obtain ⟨k, hk⟩ : ∃ k, room - (recs (L.drop (i + 1))).length = k + 1 := ⟨room - (recs (L.drop (i + 1))).length - 1, by omega⟩
      rw [hk, List.take_succ_cons]
      exact List.mem_cons_self
    obtain ⟨x, hx, ex⟩ := List.mem_map.1 (hmem.2 hin)
    obtain ⟨h2, j, hj, e1, e2, e3⟩ := h.val x hx
    refine ⟨x, hl.get hx ex, ?_, h2⟩
    have hji : j = i := by
      rcases Nat.lt_trichotomy j i with hlt' | heq | hgt
      · exact absurd ex.symm (e3 i hi hlt')
      · exact heq
      · exfalso
        apply hn
        rw [← ex, ← e1]
        have : (L.drop (i + 1))[j - (i + 1)]'(by rw [List.length_drop]; omega) = L[j] := by
          rw [List.getElem_drop]
          congr 1
          omega
        rw [← this]
        exact List.getElem_mem _
    rw [e2, hji]
  · rename_i hge
    rw [iget_none]
    intro x hx ex
    have hin := hmem.1 (List.mem_map.2 ⟨x, hx, ex⟩)
    rw [hrec, List.take_append, List.mem_append] at hin
    rcases hin with hin | hin
    · exact hnot (List.mem_of_mem_take hin)
    · rw [show room - (recs (L.drop (i + 1))).length = 0 by omega] at hin
      cases hin
theorem FS.len {room due : Nat} {ms : Nat → M6} {L : List Nat} {l : List En} (h : FS room due ms L l) : l.length = min (recs L).length room := by
  have := congrArg List.length h.ips
  rw [List.length_reverse, List.length_map, List.length_take] at this
  omega
/-- One more that was seen. -/
theorem recs_seen {L : List Nat} {i : Nat} (hi : i < L.length) : recs (L.drop i) = if L[i] ∈ L.drop (i + 1) then recs (L.drop (i + 1)) else recs (L.drop (i + 1)) ++ [L[i]] := by
  rw [show L.drop i = [L[i]] ++ L.drop (i + 1) from List.drop_eq_getElem_cons hi, recs_app]
  show _ ++ [L[i]].filter _ = _
  by_cases h : L[i] ∈ L.drop (i + 1)
  · rw [if_pos h, List.filter_cons_of_neg (by simpa using h)]
    simp
  · rw [if_neg h, List.filter_cons_of_pos (by simpa using h)]
    rfl
end Go.Proofs.YtgidjgkafbjkpaaGreatDoor
namespace Go.Proofs.YtgidjgkafbjkpaaGreatDoor
open Go.RowKit

/-- A row takes one token more: the pairs of all. -/
theorem prs_iset {n i : Nat} {l : List Rw} {r : Rw} (h : IS n l) (hg : iget i l = some r) (t : Int) : (prs (iset i (r.v ++ [t]) l)).Perm (prs l ++ [(t, i)]) := by
  have hn := h.nd
  clear h
  induction l with
  | nil => cases hg
  | cons x l ih =>
    rw [List.map_cons, List.nodup_cons] at hn
    unfold iget at hg
    show (prs ((if x.ip = i then { x with v := r.v ++ [t] } else x) :: iset i (r.v ++ [t]) l)).Perm _
    by_cases hx : x.ip = i
    · rw [if_pos hx] at hg
      injection hg with hg
      subst hg
      rw [if_pos hx, prs_cons, prs_cons]
      have e : iset i (x.v ++ [t]) l = l := by
        unfold iset
        refine (List.map_congr_left (fun y hy => ?_)).trans (List.map_id' l)
        have : y.ip ≠ i := fun e => hn.1 (by rw [hx, ← e]; exact List.mem_map_of_mem hy)
        rw [if_neg this]
      rw [e]
      show ((x.v ++ [t]).map (fun u => (u, x.ip)) ++ prs l).Perm _
      rw [List.map_append, List.append_assoc, List.append_assoc, hx]
      refine List.Perm.append_left _ ?_
      show ([(t, i)] ++ prs l).Perm _
      exact List.perm_append_comm
    · rw [if_neg hx] at hg
      rw [if_neg hx, prs_cons, prs_cons, List.append_assoc]
      exact List.Perm.append_left _ (ih hg hn.2)
theorem prs_add (l : List Rw) (x : Rw) : prs (l ++ [x]) = prs l ++ x.v.map (fun t => (t, x.ip)) := by
  unfold prs
  rw [List.flatMap_append]
  simp
theorem toks_add (l : List Rw) (x : Rw) : toks (l ++ [x]) = toks l ++ x.v := by
  unfold toks
  rw [List.flatMap_append]
  simp
theorem toks_one (x : Rw) : toks [x] = x.v := by simp [toks]
end Go.Proofs.YtgidjgkafbjkpaaGreatDoor
