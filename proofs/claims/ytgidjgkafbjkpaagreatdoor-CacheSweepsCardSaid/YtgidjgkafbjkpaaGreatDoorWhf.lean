/- Wheel: spill. -/
import Derived.Test.YtgidjgkafbjkpaaGreatDoorWhd
import Derived.Test.YtgidjgkafbjkpaaGreatDoorMu
set_option linter.unusedVariables false
set_option linter.unusedSimpArgs false
namespace Go.Proofs.YtgidjgkafbjkpaaGreatDoor
open Go.RowKit

/-- Two timers' maps have the same timers with the same moments. -/
def Dues (L L' : List Ent) : Prop := ∀ i d, (∃ p, mget i L = some (spotV d p)) ↔ ∃ p, mget i L' = some (spotV d p)
theorem Dues.refl (L : List Ent) : Dues L L := fun _ _ => Iff.rfl
theorem Dues.trans {L L' L'' : List Ent} (h : Dues L L') (h' : Dues L' L'') : Dues L L'' := fun i d => (h i d).trans (h' i d)
theorem Dues.put {L : List Ent} {i : Int} {d c : Nat} {p q : Pos} (h : mget i L = some (spotV d p)) : Dues L (mput i (spotV d q) c L) := by
  intro x d'
  rw [mget_mput]
  by_cases e : x = i
  · subst e
    rw [if_pos rfl, h]
    constructor
    · rintro ⟨p', e⟩
      obtain ⟨rfl, _⟩ := spotV_inj (Option.some.inj e)
      exact ⟨q, rfl⟩
    · rintro ⟨p', e⟩
      obtain ⟨rfl, _⟩ := spotV_inj (Option.some.inj e)
      exact ⟨p, rfl⟩
  · rw [if_neg e]
theorem mput_len {L : List Ent} {i : Int} {v : Value} {c : Nat} (h : (mget i L).isSome = true) : (mput i v c L).length = L.length := by
  unfold mput
  rw [if_pos h, mset_len]
/-- How many of the entries an iterator has not handed out. -/
def yet (w : World) (r : Nat) (L : List Ent) : Nat :=
  match w.heap[r]? with
  | some (.mapIter _ _ seen _) => (L.filter (fun e => !seen.contains e.born)).length
  | _ => 0
theorem IIt.yet {w : World} {r b clock : Nat} {L : List Ent} {D : List Int} (h : IIt w r b clock L D) : yet w r L = (L.filter (fun e => !D.contains e.k)).length := by
  obtain ⟨since, seen, c0, h1, _, _, h4⟩ := h
  unfold Go.Proofs.YtgidjgkafbjkpaaGreatDoor.yet
  rw [h1]
  show (L.filter (fun e => !seen.contains e.born)).length = _
  congr 1
  apply List.filter_congr
  intro e he
  have := h4 e he
  cases h5 : seen.contains e.born <;> cases h6 : D.contains e.k <;> simp_all
theorem filter_less {L : List Ent} {D : List Int} {e : Ent} (he : e ∈ L) (hn : e.k ∉ D) : (L.filter (fun x => !(e.k :: D).contains x.k)).length < (L.filter (fun x => !D.contains x.k)).length := by
  have h1 : (L.filter (fun x => !(e.k :: D).contains x.k)) = (L.filter (fun x => !D.contains x.k)).filter (fun x => !(x.k == e.k)) := by
    rw [List.filter_filter]
    apply List.filter_congr
    intro x _
    simp only [List.contains_cons]
    cases (x.k == e.k) <;> simp
  rw [h1]
  rcases Nat.lt_or_ge ((L.filter (fun x => !D.contains x.k)).filter (fun x => !(x.k == e.k))).length (L.filter (fun x => !D.contains x.k)).length with h | h
  · exact h
  · have h2 := List.length_filter_eq_length_iff.1 (Nat.le_antisymm (List.length_filter_le _ _) h)
    have := h2 e (by simp [he, hn])
    simp at this
/-- What spill leaves. -/
def SpillPost (g now : Nat) (s : WS) (w w' : World) : Prop :=
  ∃ s', WM w' g now s' ∧ Inv now s'.tm.L s'.ov.L s'.sls s'.full (fun _ => False) ∧ Dues s.tm.L s'.tm.L ∧ s'.tm.L.length = s.tm.L.length ∧ s'.tm.b = s.tm.b ∧ s'.ov.b = s.ov.b ∧ Kp (fp g s) w w' ∧ ∀ b, fp g s' b → fp g s b ∨ w.heap.size ≤ b
/-- How it stands within spill's loop. -/
structure Mid (g now : Nat) (s : WS) (m : MapR) (r : Nat) (w w4 wr : World) (s' : WS) (D : List Int) : Prop where
  wm : WM wr g now s'
  inv : Inv now s'.tm.L s'.ov.L s'.sls s'.full (fun i => has i m.L ∧ i ∉ D)
  im : IMap wr m.b m.c m.L
  it : IIt wr r m.b m.c m.L D
  dues : Dues s.tm.L s'.tm.L
  len : s'.tm.L.length = s.tm.L.length
  tb : s'.tm.b = s.tm.b
  ob : s'.ov.b = s.ov.b
  kp : Kp (fp g s) w wr
  own : ∀ b, fp g s' b → fp g s b ∧ b ≠ m.b ∨ w4.heap.size ≤ b
  sz : w4.heap.size ≤ wr.heap.size
  ml : m.b < w.heap.size
  rl : w.heap.size ≤ r ∧ r < w4.heap.size
theorem Mid.apart {g now : Nat} {s s' : WS} {m : MapR} {r : Nat} {w w4 wr : World} {D : List Int} (h : Mid g now s m r w w4 wr s' D) (hs : ∀ b, fp g s b → b < w.heap.size) : ¬ fp g s' m.b ∧ ¬ fp g s' r := by
  have h1 := h.ml
  have h2 := h.rl
  refine ⟨fun hf => ?_, fun hf => ?_⟩
  · rcases h.own _ hf with ⟨_, h3⟩ | h3
    · exact h3 rfl
    · omega
  · rcases h.own _ hf with ⟨h3, _⟩ | h3
    · have := hs _ h3; omega
    · omega
theorem Mid.stepped {g now : Nat} {s s' : WS} {m : MapR} {r : Nat} {w w4 wr w5 : World} {D : List Int} {e : Ent} (h : Mid g now s m r w w4 wr s' D) (hs : ∀ b, fp g s b → b < w.heap.size) (hk : Kp (fun x => x = r) wr w5) (hit : IIt w5 r m.b m.c m.L (e.k :: D)) : WM w5 g now s' ∧ IMap w5 m.b m.c m.L ∧ Kp (fp g s) w w5 := by
  have ha := h.apart hs
  have h1 := h.ml
  have h2 := h.rl
  refine ⟨h.wm.kept hk (fun b hb e => ha.2 (e ▸ hb)), h.im.kept hk (by omega), h.kp.trans hk ?_⟩
  rintro b hb rfl
  omega
theorem Mid.hung {g now : Nat} {s s' : WS} {m : MapR} {r : Nat} {w w4 wr w5 w6 : World} {D : List Int} {e : Ent} {d : Nat} {p : Pos} (h : Mid g now s m r w w4 wr s' D) (hs : ∀ b, fp g s b → b < w.heap.size) (hk : Kp (fun x => x = r) wr w5) (hit : IIt w5 r m.b m.c m.L (e.k :: D))
    (hg : mget e.k s'.tm.L = some (spotV d p)) (hp : HangPost g now s' (fun i => has i m.L ∧ i ∉ D) e.k d w5 w6) : ∃ s'', Mid g now s m r w w4 w6 s'' (e.k :: D) := by
  obtain ⟨h5, im5, k5⟩ := h.stepped hs hk hit
  have ha := h.apart hs
  obtain ⟨s6, q, c, wm6, inv6, hL, tb6, ob6, k6, own6⟩ := hp
  have hsz := hk.size
  have h4 := h.sz
  refine ⟨s6, wm6, inv6.congr (fun i => ?_), im5.kept k6 ha.1, hit.kept k6 ha.2, h.dues.trans (by rw [hL]; exact Dues.put hg), ?_, tb6.trans h.tb, ob6.trans h.ob, k5.trans k6 ?_, ?_, ?_, h.ml, h.rl⟩
  · simp only [List.mem_cons, not_or]
    constructor
    · rintro ⟨⟨a, b⟩, c⟩; exact ⟨a, c, b⟩
    · rintro ⟨a, c, b⟩; exact ⟨⟨a, b⟩, c⟩
  · rw [hL, mput_len (by rw [hg]; rfl), h.len]
  · intro b hb hf
    rcases h.own b hf with ⟨h3, _⟩ | h3
    · exact h3
    · have := h.ml; have := h.rl; omega
  · intro b hb
    rcases own6 b hb with h3 | h3
    · exact h.own b h3
    · right; omega
  · have := k6.size; omega
theorem Mid.ends {g now : Nat} {s s' : WS} {m : MapR} {r : Nat} {w w4 wr : World} {D : List Int} (h : Mid g now s m r w w4 wr s' D) (hall : ∀ e ∈ m.L, e.k ∈ D) : SpillPost g now s w wr := by
  refine ⟨s', h.wm, h.inv.congr (fun i => ⟨?_, fun f => f.elim⟩), h.dues, h.len, h.tb, h.ob, h.kp, ?_⟩
  · rintro ⟨hi, hD⟩
    unfold has at hi
    rcases hg : mget i m.L with _ | v
    · rw [hg] at hi; cases hi
    · have hne : ¬ ∀ e ∈ m.L, e.k ≠ i := fun hh => by rw [mget_none.2 hh] at hg; cases hg
      have : ∃ e ∈ m.L, e.k = i := by
        apply Classical.byContradiction
        intro hh
        exact hne (fun e he h2 => hh ⟨e, he, h2⟩)
      obtain ⟨e, he, rfl⟩ := this
      exact hD (hall e he)
  · intro b hb
    rcases h.own b hb with ⟨h3, _⟩ | h3
    · exact .inl h3
    · have := h.rl; right; omega
end Go.Proofs.YtgidjgkafbjkpaaGreatDoor
