/- Wheel: what each of its functions does, told of rows. -/
import Derived.Test.YtgidjgkafbjkpaaGreatDoorWht
import Derived.Test.YtgidjgkafbjkpaaGreatDoorWja
set_option linter.unusedVariables false
set_option linter.unusedSimpArgs false
namespace Go.Proofs.YtgidjgkafbjkpaaGreatDoor
open Go.RowKit

/-- Keys are numbers of 64 bits. -/
def Keys64 (R : Rows) : Prop := ∀ x ∈ R, -9223372036854775808 ≤ x.1 ∧ x.1 ≤ 9223372036854775807
/-- Block g is a wheel with these timers; its blocks are among F's. -/
def Whl (F : Nat → Prop) (w : World) (g now : Nat) (R : Rows) : Prop :=
  ∃ s, WM w g now s ∧ Inv now s.tm.L s.ov.L s.sls s.full (fun _ => False) ∧ Agr s.tm.L R ∧ (∀ b, fp g s b → F b) ∧ Keys64 R
theorem fp_kind {w : World} {g now : Nat} {s : WS} (h : WM w g now s) {b : Nat} (hb : fp g s b) : (∃ cs, Bk w b 113 cs) ∨ ∃ es c, w.heap[b]? = some (.map es c) := by
  rcases hb with rfl | rfl | rfl | ⟨k, j, m, hm, rfl⟩
  · exact .inl ⟨_, h.bk⟩
  · exact .inr ⟨_, _, h.tm.at_⟩
  · exact .inr ⟨_, _, h.ov.at_⟩
  · exact .inr ⟨_, _, (h.sl k j m hm).at_⟩
theorem fp_not {w : World} {g now : Nat} {s : WS} (h : WM w g now s) {b t : Nat} {cs : Array Value} (hb : Bk w b t cs) (ht : t ≠ 113) : ¬ fp g s b := by
  intro hf
  unfold Bk at hb
  rcases fp_kind h hf with ⟨cs', h'⟩ | ⟨es, c, h'⟩
  · unfold Bk at h'
    rw [hb] at h'
    injection h' with h'
    injection h' with _ h2
    exact ht h2
  · rw [hb] at h'; cases h'
/-- Those of F that are of a wheel's kinds. -/
def FK (F : Nat → Prop) (w : World) (b : Nat) : Prop := F b ∧ ∀ t cs, Bk w b t cs → t = 113
theorem FK.of {F : Nat → Prop} {w w' : World} {g now : Nat} {s : WS} (h : WM w g now s) (hf : ∀ b, fp g s b → F b) (hk : Kp (fp g s) w w') : Kp (FK F w) w w' := by
  refine hk.mono (fun b hb => ⟨hf b hb, fun t cs hbk => ?_⟩)
  rcases Nat.decEq t 113 with ht | ht
  · exact absurd hb (fp_not h hbk ht)
  · exact ht
theorem FK.not {F : Nat → Prop} {w : World} {b t : Nat} {cs : Array Value} (hb : Bk w b t cs) (ht : t ≠ 113) : ¬ FK F w b := fun h => ht (h.2 t cs hb)
/-- F and what is new. -/
def Grn (F : Nat → Prop) (w : World) (b : Nat) : Prop := F b ∨ w.heap.size ≤ b
theorem Whl.rs {F : Nat → Prop} {w : World} {g now : Nat} {R : Rows} (h : Whl F w g now R) : RS R := by
  obtain ⟨s, _, _, h, _⟩ := h
  exact h.rs
theorem Whl.now_le {F : Nat → Prop} {w : World} {g now : Nat} {R : Rows} (h : Whl F w g now R) : now ≤ TOP := by
  obtain ⟨s, _, h, _⟩ := h
  exact h.now_le
theorem Whl.keys {F : Nat → Prop} {w : World} {g now : Nat} {R : Rows} (h : Whl F w g now R) : Keys64 R := by
  obtain ⟨s, _, _, _, _, h⟩ := h
  exact h
theorem Whl.top {F : Nat → Prop} {w : World} {g now : Nat} {R : Rows} (h : Whl F w g now R) : ∀ x ∈ R, x.2 ≤ TOP := by
  obtain ⟨s, wm, inv, ag, _⟩ := h
  rintro ⟨i, d⟩ hx
  obtain ⟨p, hp⟩ := (ag.mem i d).2 hx
  exact (inv.spot_of hp (fun f => f)).2
theorem Whl.mono {F G : Nat → Prop} {w : World} {g now : Nat} {R : Rows} (h : Whl F w g now R) (hs : ∀ b, b < w.heap.size → F b → G b) : Whl G w g now R := by
  obtain ⟨s, wm, inv, ag, hf, hk⟩ := h
  exact ⟨s, wm, inv, ag, fun b hb => hs b (wm.lt hb) (hf b hb), hk⟩
theorem Whl.kept {F S : Nat → Prop} {w w' : World} {g now : Nat} {R : Rows} (h : Whl F w g now R) (hk : Kp S w w') (hS : ∀ b, b < w.heap.size → F b → ¬ S b) : Whl F w' g now R := by
  obtain ⟨s, wm, inv, ag, hf, hk'⟩ := h
  exact ⟨s, wm.kept hk (fun b hb => hS b (wm.lt hb) (hf b hb)), inv, ag, hf, hk'⟩
theorem Whl.none_kept {F : Nat → Prop} {w w' : World} {g now : Nat} {R : Rows} (h : Whl F w g now R) (hk : Kp (fun _ => False) w w') : Whl F w' g now R := h.kept hk (fun _ _ _ f => f)
theorem Whl.drewN {F : Nat → Prop} {w : World} {g now : Nat} {R : Rows} (h : Whl F w g now R) (n : Nat) : Whl F (w.drewN n) g now R := h.none_kept ((Kp.refl _ w).drewN n)
theorem Inv.spots {now : Nat} {L ov : List Ent} {sl : Nat → Nat → List Ent} {full : Nat → Nat} {X : Int → Prop} (h : Inv now L ov sl full X) : ∀ i v, mget i L = some v → ∃ d p, v = spotV d p := fun i v hv => by
  obtain ⟨d, p, e, _⟩ := h.spot i v hv
  exact ⟨d, p, e⟩
/-- New. -/
theorem wnew (now : Nat) (w : World) (hn : now ≤ TOP) :
    Calls Tryz.prog 22 #[.int .u64 now] w fun ev w' => ∃ g, ev = .returned (.tuple #[.pointer (some ⟨g, 0, none⟩), .int .i64 0]) ∧ Whl (fun b => w.heap.size ≤ b) w' g now [] ∧ Kp (fun _ => False) w w' := by
  refine (new_ok now w hn).mono ?_
  rintro ev w' ⟨g, rfl, s, wm, inv, hL, k, own⟩
  exact ⟨g, rfl, ⟨s, wm, inv, by rw [hL]; exact Agr.nil, own, fun x hx => by cases hx⟩, k⟩
/-- Cancel. -/
theorem wcancel (F : Nat → Prop) (g now : Nat) (R : Rows) (i : Int) (w : World) (h : Whl F w g now R) :
    Calls Tryz.prog 46 #[.pointer (some ⟨g, 0, none⟩), .int .i64 i] w fun ev w' => ev = .returned (.bool (rdue i R).isSome) ∧ Whl F w' g now (rdel i R) ∧ Kp (FK F w) w w' := by
  obtain ⟨s, wm, inv, ag, hf, hk⟩ := h
  refine (cancel g now s i w wm inv).mono ?_
  rintro ev w' ⟨rfl, s', wm', inv', hL, _, _, k, own⟩
  refine ⟨by rw [ag.isSome inv.spots], ⟨s', wm', inv', by rw [hL]; exact ag.del wm.tm.keys inv.spots i, fun b hb => hf b (own b hb), fun x hx => hk x (mem_rdel.1 hx).1⟩, FK.of wm hf k⟩
/-- What Set answers. -/
def setE (R : Rows) (i : Int) (d : Nat) : Nat := if TOP < d then 11 else if rdue i R = none ∧ 16384 ≤ R.length then 18 else 0
def setR (R : Rows) (i : Int) (d : Nat) : Rows := if setE R i d = 0 then rset i d R else R
theorem setE_same {s : WS} {R : Rows} (ag : Agr s.tm.L R) (hs : ∀ i v, mget i s.tm.L = some v → ∃ d p, v = spotV d p) (i : Int) (d : Nat) : setErr s i d = setE R i d := by
  unfold setErr setE
  have h1 := ag.isNone hs i
  have h2 := ag.len
  by_cases h : mget i s.tm.L = none ∧ 16384 ≤ s.tm.L.length
  · rw [if_pos h, if_pos (show rdue i R = none ∧ 16384 ≤ R.length from ⟨h1.1 h.1, by omega⟩)]
  · rw [if_neg h, if_neg (show ¬ (rdue i R = none ∧ 16384 ≤ R.length) from fun hh => h ⟨h1.2 hh.1, by omega⟩)]
/-- Set. -/
theorem wset (F : Nat → Prop) (g now : Nat) (R : Rows) (i : Int) (d : Nat) (w : World) (h : Whl F w g now R) (hi : -9223372036854775808 ≤ i ∧ i ≤ 9223372036854775807) :
    Calls Tryz.prog 26 #[.pointer (some ⟨g, 0, none⟩), .int .i64 i, .int .u64 d] w fun ev w' => ev = .returned (.int .i64 ((setE R i d : Nat) : Int)) ∧ Whl (Grn F w) w' g now (setR R i d) ∧ Kp (FK F w) w w' := by
  obtain ⟨s, wm, inv, ag, hf, hk⟩ := h
  refine (set_ g now s i d w wm inv).mono ?_
  rintro ev w' ⟨rfl, hp⟩
  rw [setE_same ag inv.spots] at hp ⊢
  refine ⟨rfl, ?_⟩
  unfold setR
  by_cases e : setE R i d = 0
  · rw [if_pos e] at hp ⊢
    obtain ⟨s', p, c, wm', inv', hL, _, _, k, own⟩ := hp
    refine ⟨⟨s', wm', inv', ?_, fun b hb => (own b hb).imp (hf b) (fun x => x), fun x hx => ?_⟩, FK.of wm hf k⟩
    · rw [hL]
      exact (ag.del wm.tm.keys inv.spots i).put (by rw [mget_mdel i i _ wm.tm.keys, if_pos rfl]) d p c
    · rcases mem_rset.1 hx with rfl | hx
      · exact hi
      · exact hk x hx.1
  · rw [if_neg e] at hp ⊢
    exact ⟨⟨s, wm.none_kept hp, inv, ag, fun b hb => .inl (hf b hb), hk⟩, hp.mono (fun _ f => f.elim)⟩
theorem wnow (F : Nat → Prop) (g now : Nat) (R : Rows) (w : World) (h : Whl F w g now R) : Calls Tryz.prog 52 #[.pointer (some ⟨g, 0, none⟩)] w fun ev w' => ev = .returned (.int .u64 now) ∧ w' = w := by
  obtain ⟨s, wm, inv, ag, hf, hk⟩ := h
  exact now_ g now s w wm
/-- Due. -/
theorem wdue (F : Nat → Prop) (g now : Nat) (R : Rows) (i : Int) (w : World) (h : Whl F w g now R) :
    Calls Tryz.prog 34 #[.pointer (some ⟨g, 0, none⟩), .int .i64 i] w fun ev w' => ev = .returned (.tuple #[.int .u64 ((rdI R i : Nat) : Int), .bool (rdue i R).isSome]) ∧ Kp (fun _ => False) w w' := by
  obtain ⟨s, wm, inv, ag, hf, hk⟩ := h
  unfold rdI
  rcases hg : mget i s.tm.L with _ | v
  · rw [ag.none_ hg]
    exact due_none g now s i w wm hg
  · obtain ⟨d, p, rfl⟩ := inv.spots i v hg
    rw [ag.some_ hg]
    exact due_some' g now s i d p w wm hg
/-- The first row's time. -/
def rfst (R : Rows) : Nat := match R with | [] => 0 | x :: _ => x.2
theorem RS.least {R : Rows} (h : RS R) {n : Nat} {i : Int} (h1 : (i, n) ∈ R) (h2 : ∀ i d, (i, d) ∈ R → n ≤ d) : rfst R = n := by
  rcases R with _ | ⟨y, R⟩
  · cases h1
  · show y.2 = n
    have h3 := h2 y.1 y.2 List.mem_cons_self
    rcases List.mem_cons.1 h1 with e | e
    · rw [← e]
    · have := (List.pairwise_cons.1 h.ord).1 _ e
      unfold rlt at this
      simp only at this
      omega
/-- Go. -/
theorem wgo_far (F : Nat → Prop) (g now t : Nat) (R : Rows) (w : World) (h : Whl F w g now R) (ht : ¬ t ≤ TOP) :
    Calls Tryz.prog 51 #[.pointer (some ⟨g, 0, none⟩), .int .u64 t] w fun ev w' => ev = .returned (.tuple #[.slice none 0 0, .int .i64 11]) ∧ Kp (fun _ => False) w w' := by
  obtain ⟨s, wm, inv, ag, hf, hk⟩ := h
  exact go_far g now t s w wm ht
theorem wgo_old (F : Nat → Prop) (g now t : Nat) (R : Rows) (w : World) (h : Whl F w g now R) (ht : t ≤ TOP) (hn : t < now) :
    Calls Tryz.prog 51 #[.pointer (some ⟨g, 0, none⟩), .int .u64 t] w fun ev w' => ev = .returned (.tuple #[.slice none 0 0, .int .i64 22]) ∧ Kp (fun _ => False) w w' := by
  obtain ⟨s, wm, inv, ag, hf, hk⟩ := h
  exact go_old g now t s w wm ht hn
theorem dueI_rdI {L : List Ent} {R : Rows} (ag : Agr L R) (hs : ∀ i v, mget i L = some v → ∃ d p, v = spotV d p) (i : Int) : dueI L i = ((rdI R i : Nat) : Int) := by
  unfold rdI
  rcases hg : mget i L with _ | v
  · rw [ag.none_ hg]; unfold dueI; rw [hg]; rfl
  · obtain ⟨d, p, rfl⟩ := hs i v hg
    rw [ag.some_ hg, dueI_some hg]; rfl
theorem wgo (F : Nat → Prop) (g now t : Nat) (R : Rows) (w : World) (h : Whl F w g now R) (hT : Tab w) (h0 : ¬ F 0) (ht : t ≤ TOP) (hn : now ≤ t) (hl : R.length ≤ 1000000) :
    Calls Tryz.prog 51 #[.pointer (some ⟨g, 0, none⟩), .int .u64 t] w fun ev w' => ∃ v, ev = .returned (.tuple #[v, .int .i64 0]) ∧ w'.ownsRow w.heap.size 3 1 v (rgot t R).length ((rgot t R).map encZ) ∧ Whl (Grn F w) w' g t (rrest t R) ∧ Kp (FK F w) w w' := by
  obtain ⟨s, wm, inv, ag, hf, hk⟩ := h
  refine (go_ok g now t s w wm inv hT (fun h => h0 (hf 0 h)) ht hn (fun i v hv => ?_) (by rw [ag.len]; exact hl)).mono ?_
  · obtain ⟨d, p, rfl⟩ := inv.spots i v hv
    exact hk _ ((ag.mem i d).1 ⟨p, hv⟩)
  · rintro ev w' ⟨v, rfl, l, s', wm', inv', ho, hpw, hm, hmem, hlen, _, _, k, own⟩
    have e : l = rgot t R := by
      refine eq_of_strict (r := fun a b => rdI R a < rdI R b ∨ rdI R a = rdI R b ∧ a < b) (fun a b h1 h2 => by omega) (hpw.imp (fun {a b} hab => ?_)) (ag.rs.got_ord t) (fun i => ?_)
      · unfold sooner at hab
        rw [dueI_rdI ag inv.spots, dueI_rdI ag inv.spots] at hab
        omega
      · rw [hm, ag.rs.mem_got]
        constructor
        · rintro ⟨d, p, h1, h2⟩
          exact ⟨d, (ag.mem i d).1 ⟨p, h1⟩, h2⟩
        · rintro ⟨d, h1, h2⟩
          obtain ⟨p, hp⟩ := (ag.mem i d).2 h1
          exact ⟨d, p, hp, h2⟩
    subst e
    exact ⟨v, rfl, ho, ⟨s', wm', inv', ag.rest hmem rfl hlen, fun b hb => (own b hb).imp (hf b) (fun x => x), fun x hx => hk x (ag.rs.mem_rest.1 hx).1⟩, FK.of wm hf k⟩
/-- Clone. -/
theorem wclone (F : Nat → Prop) (g now : Nat) (R : Rows) (w : World) (h : Whl F w g now R) :
    Calls Tryz.prog 41 #[.pointer (some ⟨g, 0, none⟩)] w fun ev w' => ∃ g2, ev = .returned (.pointer (some ⟨g2, 0, none⟩)) ∧ Whl (fun b => w.heap.size ≤ b) w' g2 now R ∧ Kp (fun _ => False) w w' := by
  obtain ⟨s, wm, inv, ag, hf, hk⟩ := h
  refine (clone_ g now s w wm inv).mono ?_
  rintro ev w' ⟨g2, rfl, s', wm', inv', hd, hlen, k, own⟩
  exact ⟨g2, rfl, ⟨s', wm', inv', ⟨ag.rs, hlen.trans ag.len, fun i d => (hd i d).symm.trans (ag.mem i d)⟩, own, hk⟩, k⟩
end Go.Proofs.YtgidjgkafbjkpaaGreatDoor
