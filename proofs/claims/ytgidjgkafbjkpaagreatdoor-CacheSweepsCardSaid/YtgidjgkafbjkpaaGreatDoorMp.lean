/- A map with whole numbers as its keys, in memory: what it holds, and what look-up, update, delete, len do. -/
import Derived.Test.YtgidjgkafbjkpaaGreatDoorOwn
import Derived.Maps.Own
namespace Go.Proofs.YtgidjgkafbjkpaaGreatDoor
open Go.RowKit

/-- An entry: its key, its value, when it was born. -/
structure Ent where
  (k : Int) (v : Value) (born : Nat)
def Ent.me (e : Ent) : MapEntry := { key := .int .i64 e.k, val := e.v, born := e.born }
/-- What entries hold at a key. -/
def mget (k : Int) : List Ent → Option Value
  | [] => none
  | e :: es => if e.k = k then some e.v else mget k es
/-- An entry's value is another one. -/
def mset (k : Int) (v : Value) : List Ent → List Ent
  | [] => []
  | e :: es => if e.k = k then { e with v := v } :: es else e :: mset k v es
/-- An entry is gone. -/
def mdel (k : Int) : List Ent → List Ent
  | [] => []
  | e :: es => if e.k = k then es else e :: mdel k es
/-- A key is written. -/
def mput (k : Int) (v : Value) (clock : Nat) (L : List Ent) : List Ent := if (mget k L).isSome then mset k v L else L ++ [⟨k, v, clock⟩]

theorem mget_none {k : Int} : ∀ {L : List Ent}, mget k L = none ↔ ∀ e ∈ L, e.k ≠ k
  | [] => by simp [mget]
  | e :: es => by
    unfold mget
    by_cases h : e.k = k
    · simp [h]
    · rw [if_neg h, mget_none]; simp [h]
theorem mget_mset (k j : Int) (v : Value) : ∀ L : List Ent, mget j (mset k v L) = if j = k then (mget k L).map (fun _ => v) else mget j L
  | [] => by simp [mset, mget]
  | e :: es => by
    unfold mset
    by_cases h : e.k = k
    · rw [if_pos h]
      unfold mget
      by_cases hj : j = k
      · subst hj; simp [h]
      · have : ¬ e.k = j := by omega
        simp [hj, this]
    · rw [if_neg h]
      unfold mget
      by_cases hj : j = k
      · subst hj; simp [h, mget_mset]
      · by_cases he : e.k = j
        · simp [he, hj]
        · simp [he, hj, mget_mset]
theorem mset_keys (k : Int) (v : Value) : ∀ L : List Ent, (mset k v L).map Ent.k = L.map Ent.k
  | [] => rfl
  | e :: es => by unfold mset; split <;> simp [mset_keys]
theorem mset_borns (k : Int) (v : Value) : ∀ L : List Ent, (mset k v L).map Ent.born = L.map Ent.born
  | [] => rfl
  | e :: es => by unfold mset; split <;> simp [mset_borns]
theorem mset_len (k : Int) (v : Value) (L : List Ent) : (mset k v L).length = L.length := by
  have := congrArg List.length (mset_keys k v L); simpa using this
theorem mdel_sub (k : Int) : ∀ L : List Ent, (mdel k L).Sublist L
  | [] => .slnil
  | e :: es => by unfold mdel; split; exact List.sublist_cons_self ..; exact (mdel_sub k es).cons_cons _
theorem mget_mdel (k j : Int) : ∀ L : List Ent, (L.map Ent.k).Nodup → mget j (mdel k L) = if j = k then none else mget j L
  | [], _ => by simp [mdel, mget]
  | e :: es, hn => by
    simp only [List.map_cons, List.nodup_cons] at hn
    unfold mdel
    by_cases h : e.k = k
    · rw [if_pos h]
      by_cases hj : j = k
      · subst hj; rw [if_pos rfl, mget_none]
        intro e' he' hk
        exact hn.1 (by rw [h, ← hk]; exact List.mem_map_of_mem he')
      · have : ¬ e.k = j := by omega
        rw [if_neg hj]
        simp [mget, this]
    · rw [if_neg h]
      unfold mget
      by_cases he : e.k = j
      · have : ¬ j = k := by omega
        simp [he, this]
      · rw [if_neg he, mget_mdel k j es hn.2]
        split
        · rfl
        · simp
theorem mdel_len (k : Int) : ∀ L : List Ent, (mget k L).isSome = true → (mdel k L).length + 1 = L.length
  | [], h => by simp [mget] at h
  | e :: es, h => by
    unfold mdel
    by_cases he : e.k = k
    · simp [he]
    · unfold mget at h
      rw [if_neg he] at h ⊢
      simp [mdel_len k es h]
theorem mdel_none (k : Int) : ∀ L : List Ent, mget k L = none → mdel k L = L
  | [], _ => rfl
  | e :: es, h => by
    unfold mget at h
    unfold mdel
    by_cases he : e.k = k
    · simp [he] at h
    · rw [if_neg he] at h ⊢; rw [mdel_none k es h]

theorem mget_append (k : Int) : ∀ (L M : List Ent), mget k (L ++ M) = (mget k L).or (mget k M)
  | [], M => by simp [mget]
  | e :: es, M => by
    simp only [List.cons_append, mget]
    split
    · rfl
    · exact mget_append k es M

/-- Block b is a map with these entries. -/
structure IMap (w : World) (b : Nat) (clock : Nat) (L : List Ent) : Prop where
  at_ : w.heap[b]? = some (.map (L.map Ent.me).toArray clock)
  keys : (L.map Ent.k).Nodup
  borns : (L.map Ent.born).Pairwise (· < ·)
  below : ∀ e ∈ L, e.born < clock

namespace IMap
variable {S : Nat → Prop} {w w' : World} {b clock : Nat} {L : List Ent}
theorem lt (h : IMap w b clock L) : b < w.heap.size := by
  rcases Nat.lt_or_ge b w.heap.size with hlt | hge
  · exact hlt
  · have := h.at_; rw [Array.getElem?_eq_none hge] at this; cases this
theorem kept (h : IMap w b clock L) (hk : Kp S w w') (hn : ¬ S b) : IMap w' b clock L := ⟨(hk.block b h.lt hn).trans h.at_, h.keys, h.borns, h.below⟩
theorem drewN (h : IMap w b clock L) (n : Nat) : IMap (w.drewN n) b clock L := ⟨h.at_, h.keys, h.borns, h.below⟩
theorem made (w : World) : IMap (w.alloc (.map #[] 0)) w.heap.size 0 [] := ⟨heap_alloc_new w _, by simp, by simp, fun e h => by cases h⟩
end IMap

section
variable {P : Program} {T E : TypeId}
theorem findNow_is (k : Int) : ∀ (L : List Ent) (i : Nat), ∃ r, Instr.findNow (.int .i64) (.int .i64 k) (L.map Ent.me) i = some r ∧
    (r = none ∧ mget k L = none ∨ ∃ j v, r = some (i + j, v) ∧ mget k L = some v ∧ j < L.length ∧ (L[j]?).map Ent.k = some k ∧ ∀ u, mset k u L = L.modify j (fun e => { e with v := u }) ∧ mdel k L = L.eraseIdx j)
  | [], i => ⟨none, rfl, .inl ⟨rfl, rfl⟩⟩
  | e :: es, i => by
    by_cases hk : e.k = k
    · refine ⟨some (i, e.v), ?_, .inr ⟨0, e.v, rfl, ?_, by simp, by simp [hk], fun u => ?_⟩⟩
      · simp [Instr.findNow, Ent.me, Instr.sameNow, hk]
      · simp [mget, hk]
      · simp [mset, mdel, hk]
    · obtain ⟨r, h1, h2⟩ := findNow_is k es (i + 1)
      refine ⟨r, ?_, ?_⟩
      · have hb : (k == e.k) = false := by simp; omega
        simp only [List.map_cons, Instr.findNow, Ent.me, Instr.sameNow, if_true]
        rw [hb]
        exact h1
      · rcases h2 with ⟨rfl, h2⟩ | ⟨j, v, rfl, h2, h3, h4, h5⟩
        · exact .inl ⟨rfl, by simp [mget, hk, h2]⟩
        · refine .inr ⟨j + 1, v, by rw [show i + 1 + j = i + (j + 1) from by omega], by simp [mget, hk, h2], by simp; omega, by simpa using h4, fun u => ?_⟩
          simp [mset, mdel, hk, (h5 u).1, (h5 u).2]

theorem isKey_int (k : Int) : MapKept.IsKey (.int .i64) (.int .i64 k) := by simp [MapKept.IsKey]
theorem run_findKey_int {w : World} {K : TypeId} (hK : P.underlying K = some (.int .i64)) (k : Int) {es : List MapEntry} {r : Option (Nat × Value)} (h : Instr.findNow (.int .i64) (.int .i64 k) es 0 = some r) :
    (Instr.findKey K (.int .i64 k) es).run P w = .ok r w := by
  simp [Instr.findKey, run_underlying hK, h]

/-- 'm[k]', with or without 'ok'. -/
theorem IMap.run_lookup {w : World} {b clock : Nat} {L : List Ent} {K : TypeId} (h : IMap w b clock L) (hT : P.underlying T = some (.map K E)) (hK : P.underlying K = some (.int .i64)) {z : Value} (hz : (zeroValue E).run P w = .ok z w) (k : Int) :
    (Instr.lookup T (.map (some b)) (.int .i64 k) false).run P w = .ok ((mget k L).getD z) w ∧
    (Instr.lookup T (.map (some b)) (.int .i64 k) true).run P w = .ok (.tuple #[(mget k L).getD z, .bool (mget k L).isSome]) w := by
  obtain ⟨r, h1, h2⟩ := findNow_is k L 0
  have hck := fun e => MapKept.run_checkKey (P := P) (w := w) hK (isKey_int k) e 9999
  have hfk := run_findKey_int (P := P) (w := w) hK k h1
  have hg := MapKept.run_getObj_map (P := P) h.at_
  rcases h2 with ⟨rfl, h2⟩ | ⟨j, v, rfl, h2, _⟩
  · rw [h2]
    constructor <;> simp [Instr.lookup, run_underlying hT, hg, hck, hfk, hz]
  · rw [h2]
    constructor <;> simp [Instr.lookup, run_underlying hT, hg, hck, hfk]

/-- The world with other entries in a map's block. -/
def withMap (w : World) (b : Nat) (L : List Ent) (c : Nat) : World := { w with heap := w.heap.setIfInBounds b (.map (L.map Ent.me).toArray c) }
theorem withMap_kp (w : World) (b : Nat) (L : List Ent) (c : Nat) : Kp (fun j => j = b) w (withMap w b L c) :=
  ⟨rfl, rfl, rfl, by simp [withMap], fun i _ hn => by simp only [withMap]; rw [Array.getElem?_setIfInBounds_ne (Ne.symm hn)]⟩
theorem withMap_at (w : World) (b : Nat) (L : List Ent) (c : Nat) (h : b < w.heap.size) : (withMap w b L c).heap[b]? = some (.map (L.map Ent.me).toArray c) := by
  simp [withMap, h]

/-- 'm[k] = v'. -/
theorem IMap.run_update {w : World} {b clock : Nat} {L : List Ent} {K : TypeId} (h : IMap w b clock L) (hT : P.underlying T = some (.map K E)) (hK : P.underlying K = some (.int .i64)) (k : Int) (v : Value) :
    ∃ w' clock', (Instr.mapUpdate T (.map (some b)) (.int .i64 k) v).run P w = .ok () w' ∧ IMap w' b clock' (mput k v clock L) ∧ Kp (fun j => j = b) w w' := by
  obtain ⟨r, h1, h2⟩ := findNow_is k L 0
  have hck := fun e => MapKept.run_checkKey (P := P) (w := w) hK (isKey_int k) e 9999
  have hfk := run_findKey_int (P := P) (w := w) hK k h1
  have hg := MapKept.run_getObj_map (P := P) h.at_
  have hks := MapKept.run_keyThatStays (P := P) (w := w) (isKey_int k)
  have hb := h.at_
  have hlt := h.lt
  rcases h2 with ⟨rfl, h2⟩ | ⟨j, u, rfl, h2, h3, h4, h5⟩
  · refine ⟨withMap w b (L ++ [⟨k, v, clock⟩]) (clock + 1), clock + 1, ?_, ⟨?_, ?_, ?_, ?_⟩, withMap_kp ..⟩
    · have hs := fun o => MapKept.run_setObj_map (P := P) o hb
      simp [Instr.mapUpdate, run_underlying hT, hg, hck, hfk, hs, Ent.me, withMap]
    · rw [withMap_at _ _ _ _ hlt]; simp [mput, h2]
    · simp only [mput, h2, Option.isSome_none, Bool.false_eq_true, if_false, List.map_append, List.map_cons, List.map_nil]
      rw [List.nodup_append]
      refine ⟨h.keys, by simp, fun x hx y hy => ?_⟩
      simp at hy
      subst hy
      rintro rfl
      obtain ⟨e, he, hek⟩ := List.mem_map.1 hx
      exact mget_none.1 h2 e he hek
    · simp only [mput, h2, Option.isSome_none, Bool.false_eq_true, if_false, List.map_append, List.map_cons, List.map_nil]
      rw [List.pairwise_append]
      refine ⟨h.borns, by simp, fun x hx y hy => ?_⟩
      simp at hy
      subst hy
      obtain ⟨e, he, hek⟩ := List.mem_map.1 hx
      have := h.below e he
      omega
    · simp only [mput, h2, Option.isSome_none, Bool.false_eq_true, if_false]
      intro e he
      rcases List.mem_append.1 he with he | he
      · have := h.below e he; omega
      · simp at he; subst he; show clock < clock + 1; omega
  · refine ⟨withMap w b (mset k v L) clock, clock, ?_, ⟨?_, ?_, ?_, ?_⟩, withMap_kp ..⟩
    · have hs := fun o => MapKept.run_setObj_map (P := P) o hb
      have hkey : ((L.map Ent.me)[j]?.map (·.key)).getD (.int .i64 k) = .int .i64 k := by
        rw [List.getElem?_map]
        rcases hLj : L[j]? with _ | e
        · simp
        · rw [hLj] at h4; simp at h4; simp [Ent.me, h4]
      have hkey2 : (Option.map ((fun (x : MapEntry) => x.key) ∘ Ent.me) L[j]?).getD (.int .i64 k) = .int .i64 k := by
        simpa [List.getElem?_map] using hkey
      have hmod : (L.map Ent.me).modify j (fun e => { key := .int .i64 k, val := v, born := e.born }) = (mset k v L).map Ent.me := by
        rw [(h5 v).1]
        apply List.ext_getElem?
        intro i
        simp only [List.getElem?_modify, List.getElem?_map]
        by_cases hi : j = i
        · subst hi
          rcases hLj : L[j]? with _ | e
          · simp
          · rw [hLj] at h4; simp at h4; simp [Ent.me, h4]
        · simp [hi]
      simp [Instr.mapUpdate, run_underlying hT, hg, hck, hfk, withMap, hkey2, hks, hs, hmod]
    · rw [withMap_at _ _ _ _ hlt]; simp [mput, h2]
    · simp only [mput, h2, Option.isSome_some, if_true, mset_keys]; exact h.keys
    · simp only [mput, h2, Option.isSome_some, if_true, mset_borns]; exact h.borns
    · simp only [mput, h2, Option.isSome_some, if_true]
      intro e he
      have : e.born ∈ (mset k v L).map Ent.born := List.mem_map_of_mem he
      rw [mset_borns] at this
      obtain ⟨e', he', hb'⟩ := List.mem_map.1 this
      have := h.below e' he'
      omega

theorem erase_map {α β : Type} (f : α → β) : ∀ (L : List α) (j : Nat), (L.map f).eraseIdx j = (L.eraseIdx j).map f
  | [], j => by simp
  | a :: L, 0 => by simp
  | a :: L, j + 1 => by simp [erase_map f L j]

/-- 'delete(m, k)'. -/
theorem IMap.run_delete {w : World} {b clock : Nat} {L : List Ent} {K : TypeId} (h : IMap w b clock L) (hT : P.underlying T = some (.map K E)) (hK : P.underlying K = some (.int .i64)) (k : Int) (t1 t2 : TypeId) :
    ∃ w', (Builtin.delete_ #[T, t1] t2 #[.map (some b), .int .i64 k]).run P w = .ok (.tuple #[]) w' ∧ IMap w' b clock (mdel k L) ∧ Kp (fun j => j = b) w w' := by
  obtain ⟨r, h1, h2⟩ := findNow_is k L 0
  have hck := fun e => MapKept.run_checkKey (P := P) (w := w) hK (isKey_int k) e 9999
  have hfk := run_findKey_int (P := P) (w := w) hK k h1
  have hg := MapKept.run_getObj_map (P := P) h.at_
  have hs := fun o => MapKept.run_setObj_map (P := P) o h.at_
  have hlt := h.lt
  have hsub := mdel_sub k L
  have hm : IMap (withMap w b (mdel k L) clock) b clock (mdel k L) :=
    ⟨withMap_at _ _ _ _ hlt, (hsub.map Ent.k).nodup h.keys, h.borns.sublist (hsub.map Ent.born), fun e he => h.below e (hsub.subset he)⟩
  refine ⟨withMap w b (mdel k L) clock, ?_, hm, withMap_kp ..⟩
  rcases h2 with ⟨rfl, h2⟩ | ⟨j, u, rfl, h2, h3, h4, h5⟩
  · rw [mdel_none k L h2]
    simp [Builtin.delete_, run_underlying hT, hg, hck, hfk, hs, withMap]
  · rw [(h5 u).2]
    have he : (L.map Ent.me).eraseIdx j = (L.eraseIdx j).map Ent.me := erase_map _ _ _
    simp [Builtin.delete_, run_underlying hT, hg, hck, hfk, hs, withMap, he]

/-- 'len(m)'. -/
theorem IMap.run_len {w : World} {b clock : Nat} {L : List Ent} {K : TypeId} (h : IMap w b clock L) (hT : P.underlying T = some (.map K E)) (t2 : TypeId) :
    (Builtin.len_ #[T] t2 #[.map (some b)]).run P w = .ok (.int .i64 L.length) w := by
  have hg := MapKept.run_getObj_map (P := P) h.at_
  simp [Builtin.len_, run_underlying hT, hg, goInt]
end
end Go.Proofs.YtgidjgkafbjkpaaGreatDoor
