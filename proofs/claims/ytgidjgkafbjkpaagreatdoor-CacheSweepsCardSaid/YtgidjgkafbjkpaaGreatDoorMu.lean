/- Ranging over a map with int keys. Maps whose keys are whole numbers of 32 bits without sign; ranging over one. -/
import Derived.Test.YtgidjgkafbjkpaaGreatDoorMp
import Derived.Maps.RangeRun
set_option linter.unusedVariables false
set_option linter.unusedSimpArgs false
namespace Go.Proofs.YtgidjgkafbjkpaaGreatDoor
open Go.RowKit

open Go.ChangeMaps (setBlock)
/-- Block r goes over the map in block b; the keys in D have been. -/
def IIt (w : World) (r b clock : Nat) (L : List Ent) (D : List Int) : Prop :=
  ∃ since seen c0, w.heap[r]? = some (.mapIter (some b) since seen c0) ∧ (since ≤ c0 ∧ since ≤ clock) ∧ (∀ e ∈ L, e.born < since) ∧ ∀ e ∈ L, (seen.contains e.born = true ↔ e.k ∈ D)
theorem IIt.lt {w : World} {r b clock : Nat} {L : List Ent} {D : List Int} (h : IIt w r b clock L D) : r < w.heap.size := by
  obtain ⟨_, _, _, h1, _⟩ := h
  rcases Nat.lt_or_ge r w.heap.size with h | h
  · exact h
  · rw [Array.getElem?_eq_none h] at h1; cases h1
theorem IIt.kept {S : Nat → Prop} {w w' : World} {r b clock : Nat} {L : List Ent} {D : List Int} (h : IIt w r b clock L D) (hk : Kp S w w') (hn : ¬ S r) : IIt w' r b clock L D := by
  have hlt := h.lt
  obtain ⟨since, seen, c0, h1, h2⟩ := h
  exact ⟨since, seen, c0, (hk.block r hlt hn).trans h1, h2⟩
theorem nodup_inj {α β : Type} {f : α → β} : ∀ {L : List α}, (L.map f).Nodup → ∀ {x y : α}, x ∈ L → y ∈ L → f x = f y → x = y
  | [], _, _, _, h, _, _ => by cases h
  | a :: L, hn, x, y, hx, hy, e => by
    simp only [List.map_cons, List.nodup_cons, List.mem_map, not_exists, not_and] at hn
    rcases List.mem_cons.1 hx with h1 | h1 <;> rcases List.mem_cons.1 hy with h2 | h2
    · exact h1.trans h2.symm
    · subst h1; exact absurd e.symm (hn.1 _ h2)
    · subst h2; exact absurd e (hn.1 _ h1)
    · exact nodup_inj hn.2 h1 h2 e
theorem IMap.born_nd {w : World} {b clock : Nat} {L : List Ent} (h : IMap w b clock L) : (L.map Ent.born).Nodup := h.borns.imp (fun h => Nat.ne_of_lt h)
section
variable {P : Program} {T E K : TypeId}
theorem IMap.run_range {w : World} {b clock : Nat} {L : List Ent} (h : IMap w b clock L) (hT : P.underlying T = some (.map K E)) :
    (Instr.range T (.map (some b))).run P w = .ok (.pointer (some ⟨w.heap.size, 0, none⟩)) (w.alloc (.mapIter (some b) clock #[] clock)) ∧ IIt (w.alloc (.mapIter (some b) clock #[] clock)) w.heap.size b clock L [] := by
  refine ⟨run_range_map w T K E b _ clock hT h.at_, clock, #[], clock, heap_alloc_new w _, ⟨Nat.le_refl _, Nat.le_refl _⟩, h.below, fun e he => by simp⟩
theorem IMap.next {w : World} {r b clock : Nat} {L : List Ent} {D : List Int} (h : IMap w b clock L) (hi : IIt w r b clock L D) (ty : TypeId) :
    ((∀ e ∈ L, e.k ∈ D) ∧ (Instr.next (.pointer (some ⟨r, 0, none⟩)) false ty).run P w = .ok (.tuple #[.bool false]) w) ∨
    ∃ e ∈ L, e.k ∉ D ∧ ∃ w' : World, (Instr.next (.pointer (some ⟨r, 0, none⟩)) false ty).run P w = .ok (.tuple #[.bool true, .int .i64 e.k, e.v]) w' ∧ Kp (fun x => x = r) w w' ∧ IMap w' b clock L ∧ IIt w' r b clock L (e.k :: D) ∧
      (Instr.entry (.pointer (some ⟨r, 0, none⟩))).run P w' = .ok (.tuple #[.int .i64 e.k, e.v]) w' := by
  have hbr : b ≠ r := by
    rintro rfl
    obtain ⟨_, _, _, h1, _⟩ := hi
    rw [h.at_] at h1
    cases h1
  have hrlt := hi.lt
  obtain ⟨since, seen, c0, h1, h2, h3, h4⟩ := hi
  rcases run_next_at (P := P) w ty r b since c0 seen _ clock h1 h.at_ (by intro x hx; simp at hx; obtain ⟨e, he, rfl⟩ := hx; exact h3 e he) h2.1 with ⟨h0, hrun⟩ | ⟨me, hme, w1, hal, hrun⟩
  · left
    refine ⟨fun e he => ?_, hrun⟩
    rw [← h4 e he]
    have : leftOf (L.map Ent.me).toArray seen = #[] := Array.eq_empty_of_size_eq_zero h0
    unfold leftOf at this
    rw [Array.filter_eq_empty_iff] at this
    have := this e.me (by simp; exact ⟨e, he, rfl⟩)
    simpa [Ent.me] using this
  · right
    unfold leftOf at hme
    simp only [Array.toList_filter, List.mem_filter, List.mem_map] at hme
    obtain ⟨⟨e, he, rfl⟩, hns⟩ := hme
    have hnD : e.k ∉ D := by
      rw [← h4 e he]
      simpa [Ent.me] using hns
    have hr1 : w1.heap[r]? = some (.mapIter (some b) since seen c0) := by rcases hal with rfl | rfl <;> exact h1
    have hb1 : w1.heap[b]? = some (.map (L.map Ent.me).toArray clock) := by rcases hal with rfl | rfl <;> exact h.at_
    have hlt1 : r < w1.heap.size := by rcases hal with rfl | rfl <;> exact hrlt
    have hset : (setBlock w1 r (.mapIter (some b) since (seen.push e.me.born) clock)).heap[r]? = some (.mapIter (some b) since (seen.push e.me.born) clock) := by
      show (w1.heap.setIfInBounds r _)[r]? = _
      rw [Array.getElem?_setIfInBounds_self_of_lt hlt1]
    have hk : Kp (fun x => x = r) w (setBlock w1 r (.mapIter (some b) since (seen.push e.me.born) clock)) := by
      have : ∀ i, i ≠ r → (setBlock w1 r (.mapIter (some b) since (seen.push e.me.born) clock)).heap[i]? = w1.heap[i]? := by
        intro i hi
        show (w1.heap.setIfInBounds r _)[i]? = _
        rw [Array.getElem?_setIfInBounds_ne (fun e => hi e.symm)]
      rcases hal with rfl | rfl
      · exact ⟨rfl, rfl, rfl, by simp [setBlock], fun i _ hi => this i hi⟩
      · exact ⟨rfl, rfl, rfl, by simp [setBlock], fun i _ hi => this i hi⟩
    have hm' := h.kept hk hbr
    refine ⟨e, he, hnD, _, hrun, hk, hm', ⟨since, seen.push e.born, clock, hset, ?_, h3, ?_⟩, ?_⟩
    · exact ⟨h2.2, h2.2⟩
    · intro x hx
      rw [Array.contains_push]
      simp only [Bool.or_eq_true, beq_iff_eq, List.mem_cons]
      rw [h4 x hx]
      constructor
      · rintro (h5 | h5)
        · exact .inr h5
        · exact .inl (congrArg Ent.k (nodup_inj h.born_nd hx he h5))
      · rintro (h5 | h5)
        · exact .inr (congrArg Ent.born (nodup_inj h.keys hx he h5))
        · exact .inl h5
    · exact run_entry_at _ r b since seen _ clock e.me hset hm'.at_ (by simp; exact ⟨e, he, rfl⟩) (by
        rw [List.toList_toArray, List.map_map]
        exact h.born_nd)
end
end Go.Proofs.YtgidjgkafbjkpaaGreatDoor
namespace Go.Proofs.YtgidjgkafbjkpaaGreatDoor
open Go.RowKit
open Go.ChangeMaps (setBlock)

def Ent.mu (e : Ent) : MapEntry := { key := .int .u32 e.k, val := e.v, born := e.born }
/-- Block b is a map with these entries. -/
structure UMap (w : World) (b : Nat) (clock : Nat) (L : List Ent) : Prop where
  at_ : w.heap[b]? = some (.map (L.map Ent.mu).toArray clock)
  keys : (L.map Ent.k).Nodup
  borns : (L.map Ent.born).Pairwise (· < ·)
  below : ∀ e ∈ L, e.born < clock

namespace UMap
variable {S : Nat → Prop} {w w' : World} {b clock : Nat} {L : List Ent}
theorem lt (h : UMap w b clock L) : b < w.heap.size := by
  rcases Nat.lt_or_ge b w.heap.size with hlt | hge
  · exact hlt
  · have := h.at_; rw [Array.getElem?_eq_none hge] at this; cases this
theorem kept (h : UMap w b clock L) (hk : Kp S w w') (hn : ¬ S b) : UMap w' b clock L := ⟨(hk.block b h.lt hn).trans h.at_, h.keys, h.borns, h.below⟩
theorem drewN (h : UMap w b clock L) (n : Nat) : UMap (w.drewN n) b clock L := ⟨h.at_, h.keys, h.borns, h.below⟩
theorem made (w : World) : UMap (w.alloc (.map #[] 0)) w.heap.size 0 [] := ⟨heap_alloc_new w _, by simp, by simp, fun e h => by cases h⟩
end UMap

section
variable {P : Program} {T E : TypeId}
theorem findNow_u (k : Int) : ∀ (L : List Ent) (i : Nat), ∃ r, Instr.findNow (.int .u32) (.int .u32 k) (L.map Ent.mu) i = some r ∧
    (r = none ∧ mget k L = none ∨ ∃ j v, r = some (i + j, v) ∧ mget k L = some v ∧ j < L.length ∧ (L[j]?).map Ent.k = some k ∧ ∀ u, mset k u L = L.modify j (fun e => { e with v := u }) ∧ mdel k L = L.eraseIdx j)
  | [], i => ⟨none, rfl, .inl ⟨rfl, rfl⟩⟩
  | e :: es, i => by
    by_cases hk : e.k = k
    · refine ⟨some (i, e.v), ?_, .inr ⟨0, e.v, rfl, ?_, by simp, by simp [hk], fun u => ?_⟩⟩
      · simp [Instr.findNow, Ent.mu, Instr.sameNow, hk]
      · simp [mget, hk]
      · simp [mset, mdel, hk]
    · obtain ⟨r, h1, h2⟩ := findNow_u k es (i + 1)
      refine ⟨r, ?_, ?_⟩
      · have hb : (k == e.k) = false := by simp; omega
        simp only [List.map_cons, Instr.findNow, Ent.mu, Instr.sameNow, if_true]
        rw [hb]
        exact h1
      · rcases h2 with ⟨rfl, h2⟩ | ⟨j, v, rfl, h2, h3, h4, h5⟩
        · exact .inl ⟨rfl, by simp [mget, hk, h2]⟩
        · refine .inr ⟨j + 1, v, by rw [show i + 1 + j = i + (j + 1) from by omega], by simp [mget, hk, h2], by simp; omega, by simpa using h4, fun u => ?_⟩
          simp [mset, mdel, hk, (h5 u).1, (h5 u).2]

theorem isKey_u32 (k : Int) : MapKept.IsKey (.int .u32) (.int .u32 k) := by simp [MapKept.IsKey]
theorem run_findKey_u32 {w : World} {K : TypeId} (hK : P.underlying K = some (.int .u32)) (k : Int) {es : List MapEntry} {r : Option (Nat × Value)} (h : Instr.findNow (.int .u32) (.int .u32 k) es 0 = some r) :
    (Instr.findKey K (.int .u32 k) es).run P w = .ok r w := by
  simp [Instr.findKey, run_underlying hK, h]

/-- 'm[k]', with or without 'ok'. -/
theorem UMap.run_lookup {w : World} {b clock : Nat} {L : List Ent} {K : TypeId} (h : UMap w b clock L) (hT : P.underlying T = some (.map K E)) (hK : P.underlying K = some (.int .u32)) {z : Value} (hz : (zeroValue E).run P w = .ok z w) (k : Int) :
    (Instr.lookup T (.map (some b)) (.int .u32 k) false).run P w = .ok ((mget k L).getD z) w ∧
    (Instr.lookup T (.map (some b)) (.int .u32 k) true).run P w = .ok (.tuple #[(mget k L).getD z, .bool (mget k L).isSome]) w := by
  obtain ⟨r, h1, h2⟩ := findNow_u k L 0
  have hck := fun e => MapKept.run_checkKey (P := P) (w := w) hK (isKey_u32 k) e 9999
  have hfk := run_findKey_u32 (P := P) (w := w) hK k h1
  have hg := MapKept.run_getObj_map (P := P) h.at_
  rcases h2 with ⟨rfl, h2⟩ | ⟨j, v, rfl, h2, _⟩
  · rw [h2]
    constructor <;> simp [Instr.lookup, run_underlying hT, hg, hck, hfk, hz]
  · rw [h2]
    constructor <;> simp [Instr.lookup, run_underlying hT, hg, hck, hfk]

/-- The world with other entries in a map's block. -/
def withMapU (w : World) (b : Nat) (L : List Ent) (c : Nat) : World := { w with heap := w.heap.setIfInBounds b (.map (L.map Ent.mu).toArray c) }
theorem withMapU_kp (w : World) (b : Nat) (L : List Ent) (c : Nat) : Kp (fun j => j = b) w (withMapU w b L c) :=
  ⟨rfl, rfl, rfl, by simp [withMapU], fun i _ hn => by simp only [withMapU]; rw [Array.getElem?_setIfInBounds_ne (Ne.symm hn)]⟩
theorem withMapU_at (w : World) (b : Nat) (L : List Ent) (c : Nat) (h : b < w.heap.size) : (withMapU w b L c).heap[b]? = some (.map (L.map Ent.mu).toArray c) := by
  simp [withMapU, h]

/-- 'm[k] = v'. -/
theorem UMap.run_update {w : World} {b clock : Nat} {L : List Ent} {K : TypeId} (h : UMap w b clock L) (hT : P.underlying T = some (.map K E)) (hK : P.underlying K = some (.int .u32)) (k : Int) (v : Value) :
    ∃ w' clock', (Instr.mapUpdate T (.map (some b)) (.int .u32 k) v).run P w = .ok () w' ∧ UMap w' b clock' (mput k v clock L) ∧ Kp (fun j => j = b) w w' := by
  obtain ⟨r, h1, h2⟩ := findNow_u k L 0
  have hck := fun e => MapKept.run_checkKey (P := P) (w := w) hK (isKey_u32 k) e 9999
  have hfk := run_findKey_u32 (P := P) (w := w) hK k h1
  have hg := MapKept.run_getObj_map (P := P) h.at_
  have hks := MapKept.run_keyThatStays (P := P) (w := w) (isKey_u32 k)
  have hb := h.at_
  have hlt := h.lt
  rcases h2 with ⟨rfl, h2⟩ | ⟨j, u, rfl, h2, h3, h4, h5⟩
  · refine ⟨withMapU w b (L ++ [⟨k, v, clock⟩]) (clock + 1), clock + 1, ?_, ⟨?_, ?_, ?_, ?_⟩, withMapU_kp ..⟩
    · have hs := fun o => MapKept.run_setObj_map (P := P) o hb
      simp [Instr.mapUpdate, run_underlying hT, hg, hck, hfk, hs, Ent.mu, withMapU]
    · rw [withMapU_at _ _ _ _ hlt]; simp [mput, h2]
    · simp only [mput, h2, Option.isSome_none, Bool.false_eq_true, if_false, List.map_append, List.map_cons, List.map_nil]
      rw [List.nodup_append]
      refine ⟨h.keys, by simp, fun x hx y hy => ?_⟩
      simp at hy
      subst hy
      rintro rfl
      obtain ⟨e, he, hek⟩ := List.mem_map.1 hx
      exact mget_none.1 h2 e he hek
    · simp only [mput, h2, Option.isSome_none, Bool.false_eq_true, if_false, List.map_append, List.map_cons, List.map_nil]
      rw [List.pairwise_append]
      refine ⟨h.borns, by simp, fun x hx y hy => ?_⟩
      simp at hy
      subst hy
      obtain ⟨e, he, hek⟩ := List.mem_map.1 hx
      have := h.below e he
      omega
    · simp only [mput, h2, Option.isSome_none, Bool.false_eq_true, if_false]
      intro e he
      rcases List.mem_append.1 he with he | he
      · have := h.below e he; omega
      · simp at he; subst he; show clock < clock + 1; omega
  · refine ⟨withMapU w b (mset k v L) clock, clock, ?_, ⟨?_, ?_, ?_, ?_⟩, withMapU_kp ..⟩
    · have hs := fun o => MapKept.run_setObj_map (P := P) o hb
      have hkey : ((L.map Ent.mu)[j]?.map (·.key)).getD (.int .u32 k) = .int .u32 k := by
        rw [List.getElem?_map]
        rcases hLj : L[j]? with _ | e
        · simp
        · rw [hLj] at h4; simp at h4; simp [Ent.mu, h4]
      have hkey2 : (Option.map ((fun (x : MapEntry) => x.key) ∘ Ent.mu) L[j]?).getD (.int .u32 k) = .int .u32 k := by
        simpa [List.getElem?_map] using hkey
      have hmod : (L.map Ent.mu).modify j (fun e => { key := .int .u32 k, val := v, born := e.born }) = (mset k v L).map Ent.mu := by
        rw [(h5 v).1]
        apply List.ext_getElem?
        intro i
        simp only [List.getElem?_modify, List.getElem?_map]
        by_cases hi : j = i
        · subst hi
          rcases hLj : L[j]? with _ | e
          · simp
          · rw [hLj] at h4; simp at h4; simp [Ent.mu, h4]
        · simp [hi]
      simp [Instr.mapUpdate, run_underlying hT, hg, hck, hfk, withMapU, hkey2, hks, hs, hmod]
    · rw [withMapU_at _ _ _ _ hlt]; simp [mput, h2]
    · simp only [mput, h2, Option.isSome_some, if_true, mset_keys]; exact h.keys
    · simp only [mput, h2, Option.isSome_some, if_true, mset_borns]; exact h.borns
    · simp only [mput, h2, Option.isSome_some, if_true]
      intro e he
      have : e.born ∈ (mset k v L).map Ent.born := List.mem_map_of_mem he
      rw [mset_borns] at this
      obtain ⟨e', he', hb'⟩ := List.mem_map.1 this
      have := h.below e' he'
      omega

/-- 'delete(m, k)'. -/
theorem UMap.run_delete {w : World} {b clock : Nat} {L : List Ent} {K : TypeId} (h : UMap w b clock L) (hT : P.underlying T = some (.map K E)) (hK : P.underlying K = some (.int .u32)) (k : Int) (t1 t2 : TypeId) :
    ∃ w', (Builtin.delete_ #[T, t1] t2 #[.map (some b), .int .u32 k]).run P w = .ok (.tuple #[]) w' ∧ UMap w' b clock (mdel k L) ∧ Kp (fun j => j = b) w w' := by
  obtain ⟨r, h1, h2⟩ := findNow_u k L 0
  have hck := fun e => MapKept.run_checkKey (P := P) (w := w) hK (isKey_u32 k) e 9999
  have hfk := run_findKey_u32 (P := P) (w := w) hK k h1
  have hg := MapKept.run_getObj_map (P := P) h.at_
  have hs := fun o => MapKept.run_setObj_map (P := P) o h.at_
  have hlt := h.lt
  have hsub := mdel_sub k L
  have hm : UMap (withMapU w b (mdel k L) clock) b clock (mdel k L) :=
    ⟨withMapU_at _ _ _ _ hlt, (hsub.map Ent.k).nodup h.keys, h.borns.sublist (hsub.map Ent.born), fun e he => h.below e (hsub.subset he)⟩
  refine ⟨withMapU w b (mdel k L) clock, ?_, hm, withMapU_kp ..⟩
  rcases h2 with ⟨rfl, h2⟩ | ⟨j, u, rfl, h2, h3, h4, h5⟩
  · rw [mdel_none k L h2]
    simp [Builtin.delete_, run_underlying hT, hg, hck, hfk, hs, withMapU]
  · rw [(h5 u).2]
    have he : (L.map Ent.mu).eraseIdx j = (L.eraseIdx j).map Ent.mu := erase_map _ _ _
    simp [Builtin.delete_, run_underlying hT, hg, hck, hfk, hs, withMapU, he]

/-- 'len(m)'. -/
theorem UMap.run_len {w : World} {b clock : Nat} {L : List Ent} {K : TypeId} (h : UMap w b clock L) (hT : P.underlying T = some (.map K E)) (t2 : TypeId) :
    (Builtin.len_ #[T] t2 #[.map (some b)]).run P w = .ok (.int .i64 L.length) w := by
  have hg := MapKept.run_getObj_map (P := P) h.at_
  simp [Builtin.len_, run_underlying hT, hg, goInt]
end
/-- Block r goes over the map in block b; the keys in D have been. -/
def UIt (w : World) (r b clock : Nat) (L : List Ent) (D : List Int) : Prop :=
  ∃ since seen c0, w.heap[r]? = some (.mapIter (some b) since seen c0) ∧ (since ≤ c0 ∧ since ≤ clock) ∧ (∀ e ∈ L, e.born < since) ∧ ∀ e ∈ L, (seen.contains e.born = true ↔ e.k ∈ D)
theorem UIt.lt {w : World} {r b clock : Nat} {L : List Ent} {D : List Int} (h : UIt w r b clock L D) : r < w.heap.size := by
  obtain ⟨_, _, _, h1, _⟩ := h
  rcases Nat.lt_or_ge r w.heap.size with h | h
  · exact h
  · rw [Array.getElem?_eq_none h] at h1; cases h1
theorem UIt.kept {S : Nat → Prop} {w w' : World} {r b clock : Nat} {L : List Ent} {D : List Int} (h : UIt w r b clock L D) (hk : Kp S w w') (hn : ¬ S r) : UIt w' r b clock L D := by
  have hlt := h.lt
  obtain ⟨since, seen, c0, h1, h2⟩ := h
  exact ⟨since, seen, c0, (hk.block r hlt hn).trans h1, h2⟩
theorem UMap.born_nd {w : World} {b clock : Nat} {L : List Ent} (h : UMap w b clock L) : (L.map Ent.born).Nodup := h.borns.imp (fun h => Nat.ne_of_lt h)
section
variable {P : Program} {T E K : TypeId}
theorem UMap.run_range {w : World} {b clock : Nat} {L : List Ent} (h : UMap w b clock L) (hT : P.underlying T = some (.map K E)) :
    (Instr.range T (.map (some b))).run P w = .ok (.pointer (some ⟨w.heap.size, 0, none⟩)) (w.alloc (.mapIter (some b) clock #[] clock)) ∧ UIt (w.alloc (.mapIter (some b) clock #[] clock)) w.heap.size b clock L [] := by
  refine ⟨run_range_map w T K E b _ clock hT h.at_, clock, #[], clock, heap_alloc_new w _, ⟨Nat.le_refl _, Nat.le_refl _⟩, h.below, fun e he => by simp⟩
theorem UMap.next {w : World} {r b clock : Nat} {L : List Ent} {D : List Int} (h : UMap w b clock L) (hi : UIt w r b clock L D) (ty : TypeId) :
    ((∀ e ∈ L, e.k ∈ D) ∧ (Instr.next (.pointer (some ⟨r, 0, none⟩)) false ty).run P w = .ok (.tuple #[.bool false]) w) ∨
    ∃ e ∈ L, e.k ∉ D ∧ ∃ w' : World, (Instr.next (.pointer (some ⟨r, 0, none⟩)) false ty).run P w = .ok (.tuple #[.bool true, .int .u32 e.k, e.v]) w' ∧ Kp (fun x => x = r) w w' ∧ UMap w' b clock L ∧ UIt w' r b clock L (e.k :: D) ∧
      (Instr.entry (.pointer (some ⟨r, 0, none⟩))).run P w' = .ok (.tuple #[.int .u32 e.k, e.v]) w' := by
  have hbr : b ≠ r := by
    rintro rfl
    obtain ⟨_, _, _, h1, _⟩ := hi
    rw [h.at_] at h1
    cases h1
  have hrlt := hi.lt
  obtain ⟨since, seen, c0, h1, h2, h3, h4⟩ := hi
  rcases run_next_at (P := P) w ty r b since c0 seen _ clock h1 h.at_ (by intro x hx; simp at hx; obtain ⟨e, he, rfl⟩ := hx; exact h3 e he) h2.1 with ⟨h0, hrun⟩ | ⟨me, hme, w1, hal, hrun⟩
  · left
    refine ⟨fun e he => ?_, hrun⟩
    rw [← h4 e he]
    have : leftOf (L.map Ent.mu).toArray seen = #[] := Array.eq_empty_of_size_eq_zero h0
    unfold leftOf at this
    rw [Array.filter_eq_empty_iff] at this
    have := this e.mu (by simp; exact ⟨e, he, rfl⟩)
    simpa [Ent.mu] using this
  · right
    unfold leftOf at hme
    simp only [Array.toList_filter, List.mem_filter, List.mem_map] at hme
    obtain ⟨⟨e, he, rfl⟩, hns⟩ := hme
    have hnD : e.k ∉ D := by
      rw [← h4 e he]
      simpa [Ent.mu] using hns
    have hr1 : w1.heap[r]? = some (.mapIter (some b) since seen c0) := by rcases hal with rfl | rfl <;> exact h1
    have hb1 : w1.heap[b]? = some (.map (L.map Ent.mu).toArray clock) := by rcases hal with rfl | rfl <;> exact h.at_
    have hlt1 : r < w1.heap.size := by rcases hal with rfl | rfl <;> exact hrlt
    have hset : (setBlock w1 r (.mapIter (some b) since (seen.push e.mu.born) clock)).heap[r]? = some (.mapIter (some b) since (seen.push e.mu.born) clock) := by
      show (w1.heap.setIfInBounds r _)[r]? = _
      rw [Array.getElem?_setIfInBounds_self_of_lt hlt1]
    have hk : Kp (fun x => x = r) w (setBlock w1 r (.mapIter (some b) since (seen.push e.mu.born) clock)) := by
      have : ∀ i, i ≠ r → (setBlock w1 r (.mapIter (some b) since (seen.push e.mu.born) clock)).heap[i]? = w1.heap[i]? := by
        intro i hi
        show (w1.heap.setIfInBounds r _)[i]? = _
        rw [Array.getElem?_setIfInBounds_ne (fun e => hi e.symm)]
      rcases hal with rfl | rfl
      · exact ⟨rfl, rfl, rfl, by simp [setBlock], fun i _ hi => this i hi⟩
      · exact ⟨rfl, rfl, rfl, by simp [setBlock], fun i _ hi => this i hi⟩
    have hm' := h.kept hk hbr
    refine ⟨e, he, hnD, _, hrun, hk, hm', ⟨since, seen.push e.born, clock, hset, ?_, h3, ?_⟩, ?_⟩
    · exact ⟨h2.2, h2.2⟩
    · intro x hx
      rw [Array.contains_push]
      simp only [Bool.or_eq_true, beq_iff_eq, List.mem_cons]
      rw [h4 x hx]
      constructor
      · rintro (h5 | h5)
        · exact .inr h5
        · exact .inl (congrArg Ent.k (nodup_inj h.born_nd hx he h5))
      · rintro (h5 | h5)
        · exact .inr (congrArg Ent.born (nodup_inj h.keys hx he h5))
        · exact .inl h5
    · exact run_entry_at _ r b since seen _ clock e.mu hset hm'.at_ (by simp; exact ⟨e, he, rfl⟩) (by
        rw [List.toList_toArray, List.map_map]
        exact h.born_nd)
end
end Go.Proofs.YtgidjgkafbjkpaaGreatDoor
