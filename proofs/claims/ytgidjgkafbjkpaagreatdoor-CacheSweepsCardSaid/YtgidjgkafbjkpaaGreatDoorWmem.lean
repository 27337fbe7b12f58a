/- Wheel: the wheel in memory: its cells, its maps, what of memory is its own. -/
import Derived.Test.YtgidjgkafbjkpaaGreatDoorProg
import Derived.Test.YtgidjgkafbjkpaaGreatDoorWinv
import Derived.Lib.Hide
set_option linter.unusedVariables false
set_option linter.unusedSimpArgs false
namespace Go.Proofs.YtgidjgkafbjkpaaGreatDoor
open Go.RowKit

/-- A wheel's cells. -/
def WC (now tb ob : Nat) (sv : Nat → Nat → Option Nat) (full : Nat → Nat) : Array Value :=
  Array.ofFn (n := 718) fun i => if i.val = 0 then .int .u64 now else if i.val = 1 then .map (some tb) else if i.val = 717 then .map (some ob) else
    if (i.val - 2) % 65 = 64 then .int .u64 (full ((i.val - 2) / 65)) else .map (sv ((i.val - 2) / 65) ((i.val - 2) % 65))
theorem WC_size (now tb ob : Nat) (sv : Nat → Nat → Option Nat) (full : Nat → Nat) : (WC now tb ob sv full).size = 718 := by simp [WC]
theorem WC_at (now tb ob : Nat) (sv : Nat → Nat → Option Nat) (full : Nat → Nat) (i : Nat) (h : i < 718) : (WC now tb ob sv full)[i]? = some (if i = 0 then .int .u64 now else if i = 1 then .map (some tb) else if i = 717 then .map (some ob) else
    if (i - 2) % 65 = 64 then .int .u64 (full ((i - 2) / 65)) else .map (sv ((i - 2) / 65) ((i - 2) % 65))) := by
  rw [Array.getElem?_eq_getElem (by rw [WC_size]; exact h)]
  simp [WC]
theorem WC_now (now tb ob : Nat) (sv : Nat → Nat → Option Nat) (full : Nat → Nat) : (WC now tb ob sv full)[0]? = some (.int .u64 now) := by rw [WC_at _ _ _ _ _ _ (by omega)]; rfl
theorem WC_tm (now tb ob : Nat) (sv : Nat → Nat → Option Nat) (full : Nat → Nat) : (WC now tb ob sv full)[1]? = some (.map (some tb)) := by rw [WC_at _ _ _ _ _ _ (by omega)]; rfl
theorem WC_ov (now tb ob : Nat) (sv : Nat → Nat → Option Nat) (full : Nat → Nat) : (WC now tb ob sv full)[717]? = some (.map (some ob)) := by rw [WC_at _ _ _ _ _ _ (by omega)]; rfl
theorem WC_sl (now tb ob : Nat) (sv : Nat → Nat → Option Nat) (full : Nat → Nat) {k j : Nat} (hk : k < 11) (hj : j < 64) : (WC now tb ob sv full)[2 + k * 65 + j]? = some (.map (sv k j)) := by
  rw [WC_at _ _ _ _ _ _ (by omega), if_neg (by omega), if_neg (by omega), if_neg (by omega), if_neg (by omega)]
  rw [show (2 + k * 65 + j - 2) / 65 = k by omega, show (2 + k * 65 + j - 2) % 65 = j by omega]
theorem WC_full (now tb ob : Nat) (sv : Nat → Nat → Option Nat) (full : Nat → Nat) {k : Nat} (hk : k < 11) : (WC now tb ob sv full)[2 + k * 65 + 64]? = some (.int .u64 (full k)) := by
  rw [WC_at _ _ _ _ _ _ (by omega), if_neg (by omega), if_neg (by omega), if_neg (by omega), if_pos (by omega)]
  rw [show (2 + k * 65 + 64 - 2) / 65 = k by omega]
theorem WC_set_now (now now' tb ob : Nat) (sv : Nat → Nat → Option Nat) (full : Nat → Nat) : (WC now tb ob sv full).setIfInBounds 0 (.int .u64 now') = WC now' tb ob sv full := by
  apply Array.ext_getElem?
  intro i
  rw [Array.getElem?_setIfInBounds, WC_size]
  rcases Nat.lt_or_ge i 718 with hi | hi
  · rw [WC_at _ _ _ _ _ _ hi, WC_at _ _ _ _ _ _ hi]
    by_cases h : 0 = i
    · subst h; simp
    · have h' : ¬ i = 0 := fun e => h e.symm
      simp only [h, h', if_false]
  · rw [if_neg (by omega), Array.getElem?_eq_none (by rw [WC_size]; exact hi), Array.getElem?_eq_none (by rw [WC_size]; exact hi)]
/-- A slot's map is another one. -/
def updv (sv : Nat → Nat → Option Nat) (k j : Nat) (x : Option Nat) : Nat → Nat → Option Nat := fun k' j' => if k' = k ∧ j' = j then x else sv k' j'
theorem WC_set_sl (now tb ob : Nat) (sv : Nat → Nat → Option Nat) (full : Nat → Nat) {k j : Nat} (x : Option Nat) (hk : k < 11) (hj : j < 64) : (WC now tb ob sv full).setIfInBounds (2 + k * 65 + j) (.map x) = WC now tb ob (updv sv k j x) full := by
  apply Array.ext_getElem?
  intro i
  rw [Array.getElem?_setIfInBounds, WC_size]
  rcases Nat.lt_or_ge i 718 with hi | hi
  · rw [WC_at _ _ _ _ _ _ hi, WC_at _ _ _ _ _ _ hi]
    by_cases h : 2 + k * 65 + j = i
    · subst h
      rw [if_pos rfl, if_pos hi, if_neg (by omega), if_neg (by omega), if_neg (by omega), if_neg (by omega)]
      rw [show (2 + k * 65 + j - 2) / 65 = k by omega, show (2 + k * 65 + j - 2) % 65 = j by omega]
      simp [updv]
    · rw [if_neg h]
      by_cases h0 : i = 0
      · simp only [h0, if_true]
      by_cases h1 : i = 1
      · simp only [h1, if_true]
      by_cases h2 : i = 717
      · simp only [h2, if_true]
      simp only [h0, h1, h2, if_false]
      have : ¬ ((i - 2) / 65 = k ∧ (i - 2) % 65 = j) := by omega
      simp only [updv, this, if_false]
  · rw [if_neg (by omega), Array.getElem?_eq_none (by rw [WC_size]; exact hi), Array.getElem?_eq_none (by rw [WC_size]; exact hi)]
theorem WC_set_full (now tb ob : Nat) (sv : Nat → Nat → Option Nat) (full : Nat → Nat) {k : Nat} (x : Nat) (hk : k < 11) : (WC now tb ob sv full).setIfInBounds (2 + k * 65 + 64) (.int .u64 x) = WC now tb ob sv (upd1 full k x) := by
  apply Array.ext_getElem?
  intro i
  rw [Array.getElem?_setIfInBounds, WC_size]
  rcases Nat.lt_or_ge i 718 with hi | hi
  · rw [WC_at _ _ _ _ _ _ hi, WC_at _ _ _ _ _ _ hi]
    by_cases h : 2 + k * 65 + 64 = i
    · subst h
      rw [if_pos rfl, if_pos hi, if_neg (by omega), if_neg (by omega), if_neg (by omega), if_pos (by omega)]
      rw [show (2 + k * 65 + 64 - 2) / 65 = k by omega]
      simp [upd1]
    · rw [if_neg h]
      by_cases h0 : i = 0
      · simp only [h0, if_true]
      by_cases h1 : i = 1
      · simp only [h1, if_true]
      by_cases h2 : i = 717
      · simp only [h2, if_true]
      simp only [h0, h1, h2, if_false]
      by_cases h3 : (i - 2) % 65 = 64
      · have : ¬ ((i - 2) / 65 = k) := by omega
        simp only [h3, if_true, upd1, this, if_false]
      · simp only [h3, if_false]
  · rw [if_neg (by omega), Array.getElem?_eq_none (by rw [WC_size]; exact hi), Array.getElem?_eq_none (by rw [WC_size]; exact hi)]

/-- A map in memory. -/
structure MapR where
  (b c : Nat) (L : List Ent)
/-- A wheel's maps and bits. -/
structure WS where
  (tm ov : MapR) (sl : Nat → Nat → Option MapR) (full : Nat → Nat)
/-- What lies in a slot. -/
def WS.sls (s : WS) (k j : Nat) : List Ent := ((s.sl k j).map MapR.L).getD []
def WS.slb (s : WS) (k j : Nat) : Option Nat := (s.sl k j).map MapR.b
/-- The blocks that are a wheel's own. -/
def fp (g : Nat) (s : WS) (b : Nat) : Prop := b = g ∨ b = s.tm.b ∨ b = s.ov.b ∨ ∃ k j m, s.sl k j = some m ∧ m.b = b
/-- Block g is a wheel. -/
structure WM (w : World) (g now : Nat) (s : WS) : Prop where
  bk : Bk w g 113 (WC now s.tm.b s.ov.b s.slb s.full)
  tm : IMap w s.tm.b s.tm.c s.tm.L
  ov : IMap w s.ov.b s.ov.c s.ov.L
  sl : ∀ k j m, s.sl k j = some m → IMap w m.b m.c m.L
  d1 : s.tm.b ≠ s.ov.b
  d2 : ∀ k j m, s.sl k j = some m → m.b ≠ s.tm.b ∧ m.b ≠ s.ov.b
  d3 : ∀ k j k' j' m m', s.sl k j = some m → s.sl k' j' = some m' → m.b = m'.b → k = k' ∧ j = j'
theorem IMap.ne_bk {w : World} {b c g : Nat} {L : List Ent} {t : TypeId} {cs : Array Value} (h : IMap w b c L) (hb : Bk w g t cs) : b ≠ g := by
  rintro rfl
  have h1 := h.at_
  unfold Bk at hb
  rw [hb] at h1
  cases h1
theorem WM.lt {w : World} {g now : Nat} {s : WS} (h : WM w g now s) {b : Nat} (hb : fp g s b) : b < w.heap.size := by
  rcases hb with rfl | rfl | rfl | ⟨k, j, m, hm, rfl⟩
  · exact h.bk.lt
  · exact h.tm.lt
  · exact h.ov.lt
  · exact (h.sl k j m hm).lt
theorem WM.kept {S : Nat → Prop} {w w' : World} {g now : Nat} {s : WS} (h : WM w g now s) (hk : Kp S w w') (hS : ∀ b, fp g s b → ¬ S b) : WM w' g now s :=
  ⟨h.bk.kept hk (hS _ (.inl rfl)), h.tm.kept hk (hS _ (.inr (.inl rfl))), h.ov.kept hk (hS _ (.inr (.inr (.inl rfl)))), fun k j m hm => (h.sl k j m hm).kept hk (hS _ (.inr (.inr (.inr ⟨k, j, m, hm, rfl⟩)))), h.d1, h.d2, h.d3⟩
theorem WM.none_kept {w w' : World} {g now : Nat} {s : WS} (h : WM w g now s) (hk : Kp (fun _ => False) w w') : WM w' g now s := h.kept hk (fun _ _ f => f)
def WS.withTm (s : WS) (c : Nat) (L : List Ent) : WS := { s with tm := ⟨s.tm.b, c, L⟩ }
def WS.withOv (s : WS) (c : Nat) (L : List Ent) : WS := { s with ov := ⟨s.ov.b, c, L⟩ }
def WS.withSl (s : WS) (k j : Nat) (m : Option MapR) : WS := { s with sl := fun k' j' => if k' = k ∧ j' = j then m else s.sl k' j' }
def WS.withFull (s : WS) (k v : Nat) : WS := { s with full := upd1 s.full k v }
/-- The timers' map is written. -/
theorem WM.setTm {w w' : World} {g now c : Nat} {s : WS} {L : List Ent} (h : WM w g now s) (hk : Kp (fun b => b = s.tm.b) w w') (hm : IMap w' s.tm.b c L) : WM w' g now (s.withTm c L) :=
  ⟨h.bk.kept hk (fun e => h.tm.ne_bk h.bk e.symm), hm, h.ov.kept hk (fun e => h.d1 e.symm), fun k j m hm' => (h.sl k j m hm').kept hk (fun e => (h.d2 k j m hm').1 e), h.d1, h.d2, h.d3⟩
theorem WM.setOv {w w' : World} {g now c : Nat} {s : WS} {L : List Ent} (h : WM w g now s) (hk : Kp (fun b => b = s.ov.b) w w') (hm : IMap w' s.ov.b c L) : WM w' g now (s.withOv c L) :=
  ⟨h.bk.kept hk (fun e => h.ov.ne_bk h.bk e.symm), h.tm.kept hk (fun e => h.d1 e), hm, fun k j m hm' => (h.sl k j m hm').kept hk (fun e => (h.d2 k j m hm').2 e), h.d1, h.d2, h.d3⟩
/-- A slot's map is written. -/
theorem WM.setSl {w w' : World} {g now c k j : Nat} {s : WS} {m : MapR} {L : List Ent} (h : WM w g now s) (hs : s.sl k j = some m) (hk : Kp (fun b => b = m.b) w w') (hm : IMap w' m.b c L) : WM w' g now (s.withSl k j (some ⟨m.b, c, L⟩)) := by
  have hd2 := h.d2 k j m hs
  have hslb : (s.withSl k j (some ⟨m.b, c, L⟩)).slb = s.slb := by
    funext k' j'
    unfold WS.slb WS.withSl
    by_cases e : k' = k ∧ j' = j
    · obtain ⟨rfl, rfl⟩ := e; simp [hs]
    · simp [e]
  refine ⟨?_, h.tm.kept hk (fun e => hd2.1 e.symm), h.ov.kept hk (fun e => hd2.2 e.symm), ?_, h.d1, ?_, ?_⟩
  · rw [hslb]
    exact h.bk.kept hk (fun e => (h.sl k j m hs).ne_bk h.bk e.symm)
  · intro k' j' m' hm'
    unfold WS.withSl at hm'
    by_cases e : k' = k ∧ j' = j
    · simp only [e, and_self, if_true, Option.some.injEq] at hm'
      subst hm'
      exact hm
    · simp only [e, if_false] at hm'
      exact (h.sl k' j' m' hm').kept hk (fun e2 => e (h.d3 k' j' k j m' m hm' hs e2))
  · intro k' j' m' hm'
    unfold WS.withSl at hm'
    by_cases e : k' = k ∧ j' = j
    · simp only [e, and_self, if_true, Option.some.injEq] at hm'
      subst hm'
      exact hd2
    · simp only [e, if_false] at hm'
      exact h.d2 k' j' m' hm'
  · intro k1 j1 k2 j2 m1 m2 h1 h2 he
    unfold WS.withSl at h1 h2
    by_cases e1 : k1 = k ∧ j1 = j <;> by_cases e2 : k2 = k ∧ j2 = j
    · exact ⟨by omega, by omega⟩
    · simp only [e1, and_self, if_true, Option.some.injEq] at h1
      simp only [e2, if_false] at h2
      subst h1
      obtain ⟨rfl, rfl⟩ := h.d3 k j k2 j2 m m2 hs h2 he
      exact absurd ⟨rfl, rfl⟩ e2
    · simp only [e2, and_self, if_true, Option.some.injEq] at h2
      simp only [e1, if_false] at h1
      subst h2
      obtain ⟨rfl, rfl⟩ := h.d3 k1 j1 k j m1 m h1 hs he
      exact absurd ⟨rfl, rfl⟩ e1
    · simp only [e1, if_false] at h1
      simp only [e2, if_false] at h2
      exact h.d3 k1 j1 k2 j2 m1 m2 h1 h2 he
/-- A slot gets a new map, or none. -/
theorem WM.newSl {w w' : World} {g now k j : Nat} {s : WS} (h : WM w g now s) (x : Option MapR) (hk : Kp (fun b => b = g) w w') (hb : Bk w' g 113 (WC now s.tm.b s.ov.b (updv s.slb k j (x.map MapR.b)) s.full))
    (hx : ∀ m, x = some m → IMap w' m.b m.c m.L ∧ w.heap.size ≤ m.b) : WM w' g now (s.withSl k j x) := by
  refine ⟨?_, h.tm.kept hk (fun e => h.tm.ne_bk h.bk e), h.ov.kept hk (fun e => h.ov.ne_bk h.bk e), ?_, h.d1, ?_, ?_⟩
  · have : (s.withSl k j x).slb = updv s.slb k j (x.map MapR.b) := by
      funext k' j'
      unfold WS.slb WS.withSl updv
      by_cases e : k' = k ∧ j' = j <;> simp [e, WS.slb]
    rw [this]
    exact hb
  · intro k' j' m' hm'
    unfold WS.withSl at hm'
    by_cases e : k' = k ∧ j' = j
    · simp only [e, and_self, if_true] at hm'
      exact (hx m' hm').1
    · simp only [e, if_false] at hm'
      exact (h.sl k' j' m' hm').kept hk (fun e2 => (h.sl k' j' m' hm').ne_bk h.bk e2)
  · intro k' j' m' hm'
    unfold WS.withSl at hm'
    by_cases e : k' = k ∧ j' = j
    · simp only [e, and_self, if_true] at hm'
      have h1 := (hx m' hm').2
      have h2 := h.tm.lt
      have h3 := h.ov.lt
      show m'.b ≠ s.tm.b ∧ m'.b ≠ s.ov.b
      omega
    · simp only [e, if_false] at hm'
      exact h.d2 k' j' m' hm'
  · intro k1 j1 k2 j2 m1 m2 h1 h2 he
    unfold WS.withSl at h1 h2
    by_cases e1 : k1 = k ∧ j1 = j <;> by_cases e2 : k2 = k ∧ j2 = j
    · exact ⟨by omega, by omega⟩
    · simp only [e1, and_self, if_true] at h1
      simp only [e2, if_false] at h2
      have := (hx m1 h1).2
      have := (h.sl k2 j2 m2 h2).lt
      omega
    · simp only [e2, and_self, if_true] at h2
      simp only [e1, if_false] at h1
      have := (hx m2 h2).2
      have := (h.sl k1 j1 m1 h1).lt
      omega
    · simp only [e1, if_false] at h1
      simp only [e2, if_false] at h2
      exact h.d3 k1 j1 k2 j2 m1 m2 h1 h2 he
/-- Cells of the wheel itself are written, and no map is another one. -/
theorem WM.setBk {w w' : World} {g now now' : Nat} {s : WS} {full' : Nat → Nat} (h : WM w g now s) (hk : Kp (fun b => b = g) w w') (hb : Bk w' g 113 (WC now' s.tm.b s.ov.b s.slb full')) : WM w' g now' { s with full := full' } :=
  ⟨hb, h.tm.kept hk (fun e => h.tm.ne_bk h.bk e), h.ov.kept hk (fun e => h.ov.ne_bk h.bk e), fun k j m hm => (h.sl k j m hm).kept hk (fun e => (h.sl k j m hm).ne_bk h.bk e), h.d1, h.d2, h.d3⟩
end Go.Proofs.YtgidjgkafbjkpaaGreatDoor
