/- Wheel: Clone. -/
import Derived.Test.YtgidjgkafbjkpaaGreatDoorWhr
set_option linter.unusedVariables false
set_option linter.unusedSimpArgs false
namespace Go.Proofs.YtgidjgkafbjkpaaGreatDoor
open Go.RowKit

/-- What Clone leaves: a wheel of its own with the same timers. -/
def ClonePost (g2 now : Nat) (s : WS) (w w' : World) : Prop :=
  ∃ s', WM w' g2 now s' ∧ Inv now s'.tm.L s'.ov.L s'.sls s'.full (fun _ => False) ∧ Dues s.tm.L s'.tm.L ∧ s'.tm.L.length = s.tm.L.length ∧ Kp (fun _ => False) w w' ∧ ∀ b, fp g2 s' b → w.heap.size ≤ b
/-- How it stands in Clone's loop. -/
structure CMid (g2 now r : Nat) (s : WS) (w wr : World) (s' : WS) (D : List Int) : Prop where
  wm : WM wr g2 now s'
  inv : Inv now s'.tm.L s'.ov.L s'.sls s'.full (fun _ => False)
  im : IMap wr s.tm.b s.tm.c s.tm.L
  it : IIt wr r s.tm.b s.tm.c s.tm.L D
  dues : ∀ i d, (∃ p, mget i s'.tm.L = some (spotV d p)) ↔ i ∈ D ∧ ∃ p, mget i s.tm.L = some (spotV d p)
  len : s'.tm.L.length = D.length
  nd : D.Nodup
  sub : ∀ i ∈ D, i ∈ s.tm.L.map Ent.k
  kp : Kp (fun _ => False) w wr
  own : ∀ b, fp g2 s' b → w.heap.size ≤ b ∧ b ≠ r
  rl : w.heap.size ≤ r
theorem CMid.ends {g2 now r : Nat} {s s' : WS} {w wr : World} {D : List Int} (h : CMid g2 now r s w wr s' D) (hall : ∀ e ∈ s.tm.L, e.k ∈ D) : ClonePost g2 now s w wr := by
  refine ⟨s', h.wm, h.inv, fun i d => ?_, ?_, h.kp, fun b hb => (h.own b hb).1⟩
  · rw [h.dues i d]
    constructor
    · rintro ⟨p, hp⟩
      have : i ∈ s.tm.L.map Ent.k := mem_keys.2 (by unfold has; rw [hp]; rfl)
      obtain ⟨e, he, rfl⟩ := List.mem_map.1 this
      exact ⟨hall e he, p, hp⟩
    · exact fun hh => hh.2
  · rw [h.len]
    refine Nat.le_antisymm ?_ ?_
    · have := nodup_sub_len h.nd h.sub
      rwa [List.length_map] at this
    · have := nodup_sub_len h.im.keys (m := D) (fun x hx => by
        obtain ⟨e, he, rfl⟩ := List.mem_map.1 hx
        exact hall e he)
      rwa [List.length_map] at this
theorem mput_len_new {L : List Ent} {i : Int} {v : Value} {c : Nat} (h : mget i L = none) : (mput i v c L).length = L.length + 1 := by
  unfold mput
  rw [h]
  simp
theorem CMid.step {g2 now r : Nat} {s s' : WS} {w wr w5 w6 w7 : World} {D : List Int} {e : Ent} {d : Nat} {p : Pos} (h : CMid g2 now r s w wr s' D) (hk5 : Kp (fun x => x = r) wr w5) (im5 : IMap w5 s.tm.b s.tm.c s.tm.L) (it5 : IIt w5 r s.tm.b s.tm.c s.tm.L (e.k :: D)) (he : e ∈ s.tm.L) (hnD : e.k ∉ D)
    (hv : mget e.k s.tm.L = some (spotV d p)) (k6 : Kp (fun _ => False) w5 w6) (htm : s.tm.b < w.heap.size) (hp : HangPost g2 now s' (fun _ => False) e.k d w6 w7) : ∃ s'', CMid g2 now r s w w7 s'' (e.k :: D) := by
  obtain ⟨s7, q, c, wm7, inv7, hL, tb, ob, k7, own7⟩ := hp
  have hrl := h.rl
  have hnone : mget e.k s'.tm.L = none := by
    rcases hg : mget e.k s'.tm.L with _ | v
    · rfl
    · obtain ⟨d', p', rfl, _⟩ := h.inv.spot e.k v hg
      exact absurd ((h.dues e.k d').1 ⟨p', hg⟩).1 hnD
  have hntm : ¬ fp g2 s' s.tm.b := fun hf => by have := (h.own _ hf).1; omega
  have hnr : ¬ fp g2 s' r := fun hf => (h.own _ hf).2 rfl
  have k67 := k6.mono (T := fp g2 s') (fun _ f => f.elim)
  have hrs := it5.lt
  have hs6 := k6.size
  have hs5 := hk5.size
  have hsw := h.kp.size
  refine ⟨s7, wm7, inv7.congr (fun x => ⟨fun f => f.1.elim, fun f => f.elim⟩), (im5.kept k6 (fun f => f)).kept k7 hntm, (it5.kept k6 (fun f => f)).kept k7 hnr, fun i d' => ?_, ?_, List.nodup_cons.2 ⟨hnD, h.nd⟩, fun i hi => ?_, ?_, fun b hb => ?_, hrl⟩
  · rw [hL, mget_mput]
    by_cases hi : i = e.k
    · subst hi
      rw [if_pos rfl, hv]
      constructor
      · rintro ⟨p', e⟩
        obtain ⟨rfl, _⟩ := spotV_inj (Option.some.inj e)
        exact ⟨List.mem_cons_self, p, rfl⟩
      · rintro ⟨_, p', e⟩
        obtain ⟨rfl, _⟩ := spotV_inj (Option.some.inj e)
        exact ⟨q, rfl⟩
    · rw [if_neg hi, h.dues i d']
      simp [hi]
  · rw [hL, mput_len_new hnone, h.len]
    rfl
  · rcases List.mem_cons.1 hi with rfl | hi
    · exact List.mem_map.2 ⟨e, he, rfl⟩
    · exact h.sub i hi
  · refine ((h.kp.trans hk5 ?_).trans' k6).trans k7 ?_
    · rintro b hb rfl; omega
    · intro b hb hf; have := (h.own b hf).1; omega
  · rcases own7 b hb with h1 | h1
    · exact h.own b h1
    · exact ⟨by omega, by omega⟩
theorem mget_of_mem : ∀ {L : List Ent} {e : Ent}, (L.map Ent.k).Nodup → e ∈ L → mget e.k L = some e.v
  | a :: L, e, hn, he => by
    simp only [List.map_cons, List.nodup_cons, List.mem_map, not_exists, not_and] at hn
    rcases List.mem_cons.1 he with h | h
    · subst h
      simp [mget]
    · have hne : ¬ a.k = e.k := fun h2 => hn.1 e h h2.symm
      have := mget_of_mem hn.2 h
      simp only [mget]
      rw [if_neg (by simpa using hne)]
      exact this
set_option maxRecDepth 1000000 in
set_option maxHeartbeats 8000000 in
theorem clone_ (g now : Nat) (s : WS) (w : World) (h : WM w g now s) (inv : Inv now s.tm.L s.ov.L s.sls s.full (fun _ => False)) :
    Calls Tryz.prog 41 #[.pointer (some ⟨g, 0, none⟩)] w fun ev w' => ∃ g2, ev = .returned (.pointer (some ⟨g2, 0, none⟩)) ∧ ClonePost g2 now s w w' := by
  have z0 := (h.bk.cell 0).trans (WC_now ..)
  have hmm := @run_makeMap Tryz.prog
  obtain ⟨s0, wm0, inv0, hL0, k0, own0⟩ := new_post now w inv.now_le
  have hsz : (((w.alloc (.map #[] 0)).alloc (.map #[] 0)).alloc (.cells (WC now w.heap.size (w.heap.size + 1) noSl noFull) 113)).heap.size = w.heap.size + 3 := by
    show (((w.heap.push _).push _).push _).size = _
    simp
  have z1 := kp_kc0 ((h.bk.cell 1).trans (WC_tm ..)) k0
  have im1 := h.tm.kept k0 (fun f => f)
  obtain ⟨hrg, hit⟩ := im1.run_range (P := Tryz.prog) (T := 106) (E := 118) (K := 3) Tryz.underlying106
  have hka := (Kp.refl (fun _ => False) (((w.alloc (.map #[] 0)).alloc (.map #[] 0)).alloc (.cells (WC now w.heap.size (w.heap.size + 1) noSl noFull) 113))).alloc (.mapIter (some s.tm.b) s.tm.c #[] s.tm.c)
  have CM := Lib.hid (show CMid (w.heap.size + 2) now (w.heap.size + 3) s w ((((w.alloc (.map #[] 0)).alloc (.map #[] 0)).alloc (.cells (WC now w.heap.size (w.heap.size + 1) noSl noFull) 113)).alloc (.mapIter (some s.tm.b) s.tm.c #[] s.tm.c)) s0 [] from
    ⟨wm0.none_kept hka, inv0, im1.kept hka (fun f => f), (by rw [← hsz]; exact hit), (fun i d => by rw [hL0]; simp [mget]), (by rw [hL0]; rfl), List.nodup_nil, (fun _ f => by cases f), k0.trans' hka, (fun b hb => ⟨own0 b hb, fun e => by have := wm0.lt hb; omega⟩), Nat.le_add_right _ _⟩)
  rw [hsz] at hrg
  have H := Lib.hid h
  have I := Lib.hid inv
  have Z0 := Lib.hid (zero68 now w.heap.size (w.heap.size + 1))
  have zz := zero68 now w.heap.size (w.heap.size + 1)
  clear h inv wm0 inv0 hL0 own0 im1 hit hka hsz
  go_enter Tryz.func41, Tryz.ntmps41
  go_wp2_with (simp only [zz])
  have HW := Lib.hid H.out.tm.lt
  generalize w.heap.size + 3 = r at *
  generalize (((w.alloc (.map #[] 0)).alloc (.map #[] 0)).alloc (.cells (WC now w.heap.size (w.heap.size + 1) noSl noFull) 113)).alloc (.mapIter (some s.tm.b) s.tm.c #[] s.tm.c) = w4 at *
  generalize w.heap.size + 1 + 1 = g2 at *
  go_loopw [4, 5] (fun _ _ wr => ∃ s' D, CMid g2 now r s w wr s' D) (fun _ _ wr => yet wr r s.tm.L)
  case atStart => exact ⟨_, _, CM.out⟩
  case round =>
    obtain ⟨s', D, hm⟩ := hrel
    have HM := Lib.hid hm
    rcases hm.im.next (P := Tryz.prog) hm.it 0 with ⟨hall, hrun⟩ | ⟨e, he, hnD, w5, hrun, hk5, him5, hit5, hent⟩
    · have HA := Lib.hid hall
      clear hm hall
      go_wp2_with fail
      exact bodyPost_ret (results_tmp rfl _ _ _) rfl ⟨_, rfl, HM.out.ends HA.out⟩
    · have hv0 := mget_of_mem H.out.tm.keys he
      obtain ⟨d, p, hdp, hd, _⟩ := I.out.spot e.k _ hv0
      have hv : mget e.k s.tm.L = some (spotV d p) := by rw [hv0, hdp]
      obtain ⟨a, b, hab⟩ := spotV_agg d p
      rw [hdp, hab] at hent hrun
      have k6 := (Kp.refl (fun _ => False) w5).alloc (.cells #[.int .u64 d, .int .i64 a, .int .i64 b] 118)
      have wm6 := (hm.wm.kept hk5 (fun b hb e => (hm.own b hb).2 e)).none_kept k6
      have hnone : mget e.k s'.tm.L = none := by
        rcases hg : mget e.k s'.tm.L with _ | v
        · rfl
        · obtain ⟨d', p', rfl, _⟩ := hm.inv.spot e.k v hg
          exact absurd ((hm.dues e.k d').1 ⟨p', hg⟩).1 hnD
      have HCALL := Lib.hid (hang g2 now s' (fun _ => False) e.k d _ wm6 hm.inv (.inr hnone) hd)
      have STEP := Lib.hid (fun w7 hp => hm.step hk5 him5 hit5 he hnD hv k6 HW.out hp (w7 := w7))
      have YT := Lib.hid (show yet wr r s.tm.L = _ from hm.it.yet)
      have YL := Lib.hid (filter_less he hnD)
      clear hm hv0 hdp hab hv k6 wm6 hnone him5 hit5 hk5 he hnD hd
      go_wp2_with fail
      refine HCALL.out.mono ?_
      rintro ev w7 ⟨rfl, hp⟩
      obtain ⟨s7, hm7⟩ := STEP.out w7 hp
      go_wp2_with fail
      refine ⟨⟨s7, e.k :: D, hm7⟩, ?_⟩
      rw [YT.out, hm7.it.yet]
      exact YL.out
end Go.Proofs.YtgidjgkafbjkpaaGreatDoor
