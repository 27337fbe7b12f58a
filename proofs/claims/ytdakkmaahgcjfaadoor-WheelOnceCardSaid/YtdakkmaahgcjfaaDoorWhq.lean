/- Wheel: Go, plain part. -/
import Derived.Test.YtdakkmaahgcjfaaDoorWhp
set_option linter.unusedVariables false
set_option linter.unusedSimpArgs false
namespace Go.Proofs.YtdakkmaahgcjfaaDoor
open Go.RowKit

section
variable {P : Program} {T E : TypeId}
/-- 'clear(m)'. -/
theorem IMap.run_clear {w : World} {b clock : Nat} {L : List Ent} {K : TypeId} (h : IMap w b clock L) (hT : P.underlying T = some (.map K E)) (t2 : TypeId) :
    ∃ w', (Builtin.clear_ #[T] t2 #[.map (some b)]).run P w = .ok (.tuple #[]) w' ∧ IMap w' b clock [] ∧ Kp (fun j => j = b) w w' := by
  have hg := MapKept.run_getObj_map (P := P) h.at_
  have hs := fun o => MapKept.run_setObj_map (P := P) o h.at_
  have hm : IMap (withMap w b [] clock) b clock [] := ⟨withMap_at _ _ _ _ h.lt, by simp, by simp, fun e he => by cases he⟩
  refine ⟨withMap w b [] clock, ?_, hm, withMap_kp ..⟩
  simp [Builtin.clear_, run_underlying hT, hg, hs, withMap]
end
/-- All of these keys are deleted. -/
def delAll : List Int → List Ent → List Ent
  | [], L => L
  | i :: is, L => delAll is (mdel i L)
theorem delAll_snoc : ∀ (is : List Int) (i : Int) (L : List Ent), delAll (is ++ [i]) L = mdel i (delAll is L)
  | [], i, L => rfl
  | j :: is, i, L => delAll_snoc is i (mdel j L)
theorem mdel_nodup {i : Int} {L : List Ent} (h : (L.map Ent.k).Nodup) : ((mdel i L).map Ent.k).Nodup := ((mdel_sub i L).map Ent.k).nodup h
theorem mget_delAll : ∀ (is : List Int) (L : List Ent) (j : Int), (L.map Ent.k).Nodup → mget j (delAll is L) = if j ∈ is then none else mget j L
  | [], L, j, _ => by simp [delAll]
  | i :: is, L, j, h => by
    rw [delAll, mget_delAll is (mdel i L) j (mdel_nodup h), mget_mdel i j L h]
    by_cases h1 : j ∈ is
    · simp [h1]
    · by_cases h2 : j = i
      · simp [h1, h2]
      · simp [h1, h2]
theorem delAll_len : ∀ (is : List Int) (L : List Ent), (L.map Ent.k).Nodup → is.Nodup → (∀ i ∈ is, (mget i L).isSome = true) → (delAll is L).length + is.length = L.length
  | [], L, _, _, _ => rfl
  | i :: is, L, h, hn, ha => by
    have h1 := mdel_len i L (ha i List.mem_cons_self)
    have h2 := delAll_len is (mdel i L) (mdel_nodup h) (List.nodup_cons.1 hn).2 (fun j hj => by
      have hne : ¬ j = i := fun e => (List.nodup_cons.1 hn).1 (by rw [← e]; exact hj)
      rw [mget_mdel i j L h, if_neg hne]
      exact ha j (List.mem_cons_of_mem _ hj))
    rw [delAll, List.length_cons]
    omega
/-- What was over is gone. -/
theorem Inv.cleared {now : Nat} {L L' ov : List Ent} {sl : Nat → Nat → List Ent} {full : Nat → Nat} (h : Inv now L ov sl full (fun _ => False)) [∀ i, Decidable (has i ov)] (hL : ∀ i, mget i L' = if has i ov then none else mget i L) : Inv now L' [] sl full (fun _ => False) := by
  have hL2 : ∀ i v, mget i L' = some v → mget i L = some v ∧ ¬ has i ov := by
    intro i v hv
    rw [hL] at hv
    by_cases ho : has i ov
    · rw [if_pos ho] at hv; cases hv
    · rw [if_neg ho] at hv; exact ⟨hv, ho⟩
  refine ⟨h.now_le, fun i v hv => h.spot i v (hL2 i v hv).1, fun i _ => ⟨fun hi => absurd hi (has_nil i), fun ⟨d, hd⟩ => ?_⟩, fun k j i _ => ⟨fun hi => ?_, fun ⟨d, hd⟩ => ?_⟩, fun i f => f.elim, h.bits, h.full_lt⟩
  · have := hL2 i _ hd
    exact absurd ((h.over i (fun f => f)).2 ⟨d, this.1⟩) this.2
  · obtain ⟨d, hd⟩ := (h.slots k j i (fun f => f)).1 hi
    refine ⟨d, ?_⟩
    have hno : ¬ has i ov := fun ho => by
      obtain ⟨d', hd'⟩ := (h.over i (fun f => f)).1 ho
      rw [hd] at hd'
      have := (spotV_inj (Option.some.inj hd')).2
      cases this
    rw [hL, if_neg hno]
    exact hd
  · exact (h.slots k j i (fun f => f)).2 ⟨d, (hL2 i _ hd).1⟩
theorem dueI_dues {L L' : List Ent} (h : Dues L L') (h1 : ∀ i v, mget i L = some v → ∃ d p, v = spotV d p) (h2 : ∀ i v, mget i L' = some v → ∃ d p, v = spotV d p) (x : Int) : dueI L x = dueI L' x := by
  rcases hx : mget x L with _ | v
  · have hx' : mget x L' = none := by
      rcases hx' : mget x L' with _ | v
      · rfl
      · obtain ⟨d, p, rfl⟩ := h2 x v hx'
        obtain ⟨q, hq⟩ := (h x d).2 ⟨p, hx'⟩
        rw [hx] at hq; cases hq
    unfold dueI
    rw [hx, hx']
  · obtain ⟨d, p, rfl⟩ := h1 x v hx
    obtain ⟨q, hq⟩ := (h x d).1 ⟨p, hx⟩
    rw [dueI_some hx, dueI_some hq]
theorem sooner_dues {L L' : List Ent} (h : ∀ x, dueI L x = dueI L' x) (x y : Int) : sooner L x y ↔ sooner L' x y := by
  unfold sooner
  rw [h, h]
/-- The moment in a wheel's first cell. -/
def nowOf (w : World) (g : Nat) : Nat := match w.cell? ⟨g, 0, none⟩ with | some (.int _ n) => n.toNat | _ => 0
theorem WM.nowOf {w : World} {g now : Nat} {s : WS} (h : WM w g now s) : nowOf w g = now := by
  unfold Go.Proofs.YtdakkmaahgcjfaaDoor.nowOf
  rw [(h.bk.cell 0).trans (WC_now ..)]
  simp
/-- What Go leaves, and tells. -/
def GoPost (g t : Nat) (s : WS) (w w' : World) (v : Value) : Prop :=
  ∃ (l : List Int) (s' : WS), WM w' g t s' ∧ Inv t s'.tm.L s'.ov.L s'.sls s'.full (fun _ => False) ∧ w'.ownsRow w.heap.size 3 1 v l.length (l.map encZ) ∧ l.Pairwise (sooner s.tm.L) ∧ (∀ i, i ∈ l ↔ ∃ d p, mget i s.tm.L = some (spotV d p) ∧ d ≤ t) ∧
    (∀ i d, (∃ p, mget i s'.tm.L = some (spotV d p)) ↔ (∃ p, mget i s.tm.L = some (spotV d p)) ∧ t < d) ∧ s'.tm.L.length + l.length = s.tm.L.length ∧ s'.tm.b = s.tm.b ∧ s'.ov.b = s.ov.b ∧ Kp (fp g s) w w' ∧ ∀ b, fp g s' b → fp g s b ∨ w.heap.size ≤ b
/-- How it stands in Go's first loop. -/
structure GMid (g t X : Nat) (s : WS) (w w0 wr : World) (now : Nat) (s' : WS) : Prop where
  wm : WM wr g now s'
  inv : Inv now s'.tm.L s'.ov.L s'.sls s'.full (fun _ => False)
  le : now ≤ t
  dues : Dues s.tm.L s'.tm.L
  len : s'.tm.L.length = s.tm.L.length
  tb : s'.tm.b = s.tm.b
  ob : s'.ov.b = s.ov.b
  kp : Kp (fp g s) w wr
  own : ∀ b, fp g s' b → fp g s b ∨ w0.heap.size ≤ b
  sz : w0.heap.size ≤ wr.heap.size
  tab : Tab wr
  box : wr.cell? ⟨X, 0, none⟩ = some (.pointer (some ⟨g, 0, none⟩))
theorem GMid.apart {g t X now : Nat} {s s' : WS} {w w0 wr : World} (h : GMid g t X s w w0 wr now s') (hs : ∀ b, fp g s b → b < w.heap.size) (h0 : ¬ fp g s 0) (hw : 0 < w.heap.size) (hX : w.heap.size ≤ X ∧ X < w0.heap.size) : ¬ fp g s' 0 ∧ ¬ fp g s' X := by
  refine ⟨fun hf => ?_, fun hf => ?_⟩
  · rcases h.own 0 hf with h1 | h1
    · exact h0 h1
    · omega
  · rcases h.own X hf with h1 | h1
    · have := hs X h1; omega
    · omega
theorem GMid.drewN {g t X now : Nat} {s s' : WS} {w w0 wr : World} (h : GMid g t X s w w0 wr now s') (n : Nat) : GMid g t X s w w0 (wr.drewN n) now s' :=
  ⟨h.wm.none_kept ((Kp.refl _ wr).drewN n), h.inv, h.le, h.dues, h.len, h.tb, h.ob, h.kp.drewN n, h.own, h.sz, h.tab, h.box⟩
theorem GMid.spilled {g t X now k j : Nat} {s s' : WS} {w w0 wr w5 : World} (h : GMid g t X s w w0 wr now s') (hs : ∀ b, fp g s b → b < w.heap.size) (h0 : ¬ fp g s 0) (hw : 0 < w.heap.size) (hX : w.heap.size ≤ X ∧ X < w0.heap.size) (hle : fromOf now k j ≤ t) (hp : SpillPost g (fromOf now k j) s' wr w5) :
    ∃ s'', GMid g t X s w w0 w5 (fromOf now k j) s'' := by
  obtain ⟨s6, wm, inv, du, len, tb, ob, kp, own⟩ := hp
  have ha := h.apart hs h0 hw hX
  have h4 := h.sz
  refine ⟨s6, wm, inv, hle, h.dues.trans du, len.trans h.len, tb.trans h.tb, ob.trans h.ob, h.kp.trans kp ?_, ?_, Nat.le_trans h.sz kp.size, h.tab.kept kp ha.1, kp_kc' h.box kp ha.2⟩
  · intro b hb hf
    rcases h.own b hf with h1 | h1
    · exact h1
    · omega
  · intro b hb
    rcases own b hb with h1 | h1
    · exact h.own b h1
    · right; omega
end Go.Proofs.YtdakkmaahgcjfaaDoor
