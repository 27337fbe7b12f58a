/- Wheel: Go, plain part, the end. -/
import Derived.Test.YtdakkmaahgcjfaaDoorWhq
set_option linter.unusedVariables false
set_option linter.unusedSimpArgs false
namespace Go.Proofs.YtdakkmaahgcjfaaDoor
open Go.RowKit

open Go.Shelf Go.Sort Go.Maps
theorem nodup_sub_len : ∀ {l m : List Int}, l.Nodup → (∀ x ∈ l, x ∈ m) → l.length ≤ m.length
  | [], _, _, _ => Nat.zero_le _
  | a :: l, m, hn, hs => by
    have ha := hs a List.mem_cons_self
    have h1 := nodup_sub_len (l := l) (m := m.erase a) (List.nodup_cons.1 hn).2 (fun x hx => by
      have hne : x ≠ a := fun e => (List.nodup_cons.1 hn).1 (by rw [← e]; exact hx)
      exact (List.mem_erase_of_ne hne).2 (hs x (List.mem_cons_of_mem _ hx)))
    rw [List.length_erase_of_mem ha] at h1
    have := List.length_pos_of_mem ha
    rw [List.length_cons]
    omega
theorem mem_keys {i : Int} {M : List Ent} : i ∈ M.map Ent.k ↔ has i M := by
  unfold has
  rcases hg : mget i M with _ | v
  · have := mget_none.1 hg
    simp only [List.mem_map, Option.isSome_none, Bool.false_eq_true, iff_false, not_exists, not_and]
    intro e he
    exact this e he
  · simp only [Option.isSome_some, iff_true]
    apply Classical.byContradiction
    intro hh
    have : mget i M = none := mget_none.2 (fun e he h2 => hh (List.mem_map.2 ⟨e, he, h2⟩))
    rw [this] at hg
    cases hg
/-- What lies over is in range, and not too much. -/
theorem over_small {now : Nat} {s s' : WS} {w : World} {g : Nat} (h : WM w g now s') (inv : Inv now s'.tm.L s'.ov.L s'.sls s'.full (fun _ => False)) (hd : Dues s.tm.L s'.tm.L) (hl : s'.tm.L.length = s.tm.L.length)
    (hr : ∀ i v, mget i s.tm.L = some v → -9223372036854775808 ≤ i ∧ i ≤ 9223372036854775807) (hn : s.tm.L.length ≤ 1000000) : (∀ e ∈ s'.ov.L, -9223372036854775808 ≤ e.k ∧ e.k ≤ 9223372036854775807) ∧ s'.ov.L.length ≤ 1000000 := by
  have hsub : ∀ i, has i s'.ov.L → ∃ d, mget i s'.tm.L = some (spotV d .over) := fun i hi => (inv.over i (fun f => f)).1 hi
  refine ⟨fun e he => ?_, ?_⟩
  · obtain ⟨d, hd'⟩ := hsub e.k (mem_keys.1 (List.mem_map.2 ⟨e, he, rfl⟩))
    obtain ⟨q, hq⟩ := (hd e.k d).2 ⟨_, hd'⟩
    exact hr _ _ hq
  · have := nodup_sub_len h.ov.keys (m := s'.tm.L.map Ent.k) (fun x hx => by
      obtain ⟨d, hd'⟩ := hsub x (mem_keys.1 hx)
      exact mem_keys.2 (by unfold has; rw [hd']; rfl))
    rw [List.length_map, List.length_map] at this
    omega
open Classical in
theorem go_ends {g t X now c2 : Nat} {s s' : WS} {w w0 W2 W3 W5 W6 W7 : World} {v : Value} {l : List Int} (h : GMid g t X s w w0 W2 now s') (inv0 : ∀ i v, mget i s.tm.L = some v → ∃ d p, v = spotV d p) (hw : w.heap.size ≤ w0.heap.size)
    (ht : t ≤ TOP) (hfs : ∀ k j, First s'.full k j → t < fromOf now k j)
    (k3 : Kp (fun b => b = g) W2 W3) (h3 : WM W3 g t s') (k5 : Kp (fun _ => False) W3 W5) (hperm : l.Perm (s'.ov.L.map Ent.k)) (hpw : l.Pairwise (sooner s'.tm.L)) (hrow : W5.ownsRow W3.heap.size 3 1 v l.length (l.map encZ))
    (k6 : Kp (fun b => b = s'.tm.b) W5 W6) (i6 : IMap W6 s'.tm.b c2 (delAll l s'.tm.L)) (k7 : Kp (fun b => b = s'.ov.b) W6 W7) (i7 : IMap W7 s'.ov.b s'.ov.c []) : GoPost g t s w W7 v := by
  have hor := first_or s'.full h.inv.full_lt
  obtain ⟨invT, hover⟩ := h.inv.time h.le ht hfs (hor.imp (fun h => h) (fun ⟨k, j, _, hf⟩ => ⟨k, j, hf⟩))
  have hmem : ∀ i, i ∈ l ↔ has i s'.ov.L := fun i => hperm.mem_iff.trans mem_keys
  have hnd : l.Nodup := hperm.nodup_iff.2 h3.ov.keys
  have hsome : ∀ i ∈ l, (mget i s'.tm.L).isSome = true := fun i hi => by
    obtain ⟨d, hd⟩ := (invT.over i (fun f => f)).1 ((hmem i).1 hi)
    rw [hd]; rfl
  have hget : ∀ i, mget i (delAll l s'.tm.L) = if has i s'.ov.L then none else mget i s'.tm.L := fun i => by
    rw [mget_delAll l _ i h3.tm.keys]
    by_cases hi : i ∈ l
    · rw [if_pos hi, if_pos ((hmem i).1 hi)]
    · rw [if_neg hi, if_neg (fun hh => hi ((hmem i).2 hh))]
  have h5 := h3.none_kept k5
  have h6 := h5.setTm k6 i6
  have h7 := h6.setOv k7 i7
  have hinv := invT.cleared hget
  have hspot' : ∀ i v, mget i s'.tm.L = some v → ∃ d p, v = spotV d p := fun i v hv => by
    obtain ⟨d, p, e, _⟩ := h.inv.spot i v hv
    exact ⟨d, p, e⟩
  have hdue := dueI_dues h.dues inv0 hspot'
  have hsz2 := h.kp.size
  have hsz3 := k3.size
  have hsz5 := k5.size
  have hot : ∀ i d, (∃ p, mget i s'.tm.L = some (spotV d p)) → (has i s'.ov.L ↔ d ≤ t) := by
    rintro i d ⟨p, hp⟩
    rw [← hover i d p hp]
    constructor
    · intro hh
      obtain ⟨d', hd'⟩ := (invT.over i (fun f => f)).1 hh
      rw [hp] at hd'
      exact (spotV_inj (Option.some.inj hd')).2
    · rintro rfl
      exact (invT.over i (fun f => f)).2 ⟨d, hp⟩
  have tl := h3.tm.lt
  have ol := h3.ov.lt
  have hrow7 : W7.ownsRow W3.heap.size 3 1 v l.length (l.map encZ) := by
    refine own_kp (own_kp hrow k6 ?_) k7 ?_
    · intro k hk e
      rcases hrow.2 with ⟨rfl, _⟩ | ⟨gb, cap, cur, rfl, hb, _⟩
      · cases hk
      · have : gb = k := Option.some.inj hk
        have e : k = s'.tm.b := e
        omega
    · intro k hk e
      rcases hrow.2 with ⟨rfl, _⟩ | ⟨gb, cap, cur, rfl, hb, _⟩
      · cases hk
      · have : gb = k := Option.some.inj hk
        have e : k = s'.ov.b := e
        omega
  refine ⟨l, _, h7, hinv, ?_, hpw.imp (fun {a b} hab => (sooner_dues hdue a b).2 hab), fun i => ?_, fun i d => ?_, ?_, h.tb, h.ob, ?_, ?_⟩
  · refine ⟨hrow7.1, ?_⟩
    rcases hrow7.2 with hh | ⟨gb, cap, cur, e, hb, rest⟩
    · exact .inl hh
    · exact .inr ⟨gb, cap, cur, e, by omega, rest⟩
  · rw [hmem i]
    constructor
    · intro hh
      obtain ⟨d, hd⟩ := (invT.over i (fun f => f)).1 hh
      obtain ⟨q, hq⟩ := (h.dues i d).2 ⟨_, hd⟩
      exact ⟨d, q, hq, (hot i d ⟨_, hd⟩).1 hh⟩
    · rintro ⟨d, p, hp, hle⟩
      exact (hot i d ((h.dues i d).1 ⟨p, hp⟩)).2 hle
  · show (∃ p, mget i (delAll l s'.tm.L) = some (spotV d p)) ↔ _
    rw [hget i]
    constructor
    · rintro ⟨p, hp⟩
      by_cases ho : has i s'.ov.L
      · rw [if_pos ho] at hp; cases hp
      · rw [if_neg ho] at hp
        refine ⟨(h.dues i d).2 ⟨p, hp⟩, ?_⟩
        rcases Nat.lt_or_ge t d with hlt | hle
        · exact hlt
        · exact absurd ((hot i d ⟨p, hp⟩).2 hle) ho
    · rintro ⟨hp, hlt⟩
      obtain ⟨p, hp'⟩ := (h.dues i d).1 hp
      have ho : ¬ has i s'.ov.L := fun hh => by
        have := (hot i d ⟨p, hp'⟩).1 hh
        omega
      exact ⟨p, by rw [if_neg ho]; exact hp'⟩
  · show (delAll l s'.tm.L).length + l.length = s.tm.L.length
    rw [delAll_len l _ h3.tm.keys hnd hsome, h.len]
  · have ho : ∀ b, b < w.heap.size → fp g s' b → fp g s b := fun b hb hf => by
      rcases h.own b hf with h1 | h1
      · exact h1
      · omega
    refine (((h.kp.trans k3 ?_).trans k5 (fun _ _ f => f.elim)).trans k6 ?_).trans k7 ?_
    · rintro b hb rfl; exact .inl rfl
    · rintro b hb rfl; exact ho _ hb (.inr (.inl rfl))
    · rintro b hb rfl; exact ho _ hb (.inr (.inr (.inl rfl)))
  · intro b hb
    rcases h.own b hb with h1 | h1
    · exact .inl h1
    · right; omega
end Go.Proofs.YtdakkmaahgcjfaaDoor
