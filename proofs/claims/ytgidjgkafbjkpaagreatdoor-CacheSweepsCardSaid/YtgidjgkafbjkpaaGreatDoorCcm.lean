/- A slice of numbers whose block holds ints. Cache: what its two maps hold. Cache: how it lies in memory. -/
import Derived.Test.YtgidjgkafbjkpaaGreatDoorSi
import Derived.Test.YtgidjgkafbjkpaaGreatDoorCpe
import Derived.Test.YtgidjgkafbjkpaaGreatDoorMu
import Derived.Test.YtgidjgkafbjkpaaGreatDoorWjb
set_option linter.unusedVariables false
set_option linter.unusedSimpArgs false
namespace Go.Proofs.YtgidjgkafbjkpaaGreatDoor
open Go.RowKit

/-- A slice's cells are these numbers, and its block holds ints. -/
def RdN (w : World) (A : Option Addr) (l : List Int) : Prop := RdI w .i64 A l ∧ ∀ b o, A = some ⟨b, o, none⟩ → ∃ cs, Bk w b 3 cs
theorem RdN.nil (w : World) : RdN w none [] := ⟨⟨by simp, .inl rfl⟩, fun b o h => by cases h⟩
theorem RdN.kp {S : Nat → Prop} {w w' : World} {A : Option Addr} {l : List Int} (h : RdN w A l) (hk : Kp S w w') (hS : ∀ b o cs, A = some ⟨b, o, none⟩ → Bk w b 3 cs → ¬ S b) : RdN w' A l :=
  ⟨h.1.kp hk (fun b o e => by obtain ⟨cs, hb⟩ := h.2 b o e; exact hS b o cs e hb), fun b o e => by
    obtain ⟨cs, hb⟩ := h.2 b o e
    exact ⟨cs, hb.kept hk (hS b o cs e hb)⟩⟩
theorem RdN.none_kept {w w' : World} {A : Option Addr} {l : List Int} (h : RdN w A l) (hk : Kp (fun _ => False) w w') : RdN w' A l := h.kp hk (fun _ _ _ _ _ f => f)
end Go.Proofs.YtgidjgkafbjkpaaGreatDoor
namespace Go.Proofs.YtgidjgkafbjkpaaGreatDoor
open Go.RowKit

/-- A neighbour's and a row's values. -/
def entV (m : M6) (o : Nat) : Value := .agg #[.int .u8 (m.a : Int), .int .u8 (m.b : Int), .int .u8 (m.c : Int), .int .u8 (m.d : Int), .int .u8 (m.e : Int), .int .u8 (m.f : Int), .int .i64 (o : Int)]
def rowV (A : Option Addr) (n c o : Nat) : Value := .agg #[.slice A n c, .int .i64 (o : Int)]
/-- A map by Ips holds what is told of each thing, and nothing else. -/
structure HM {β : Type} (T : It β → Value → Prop) (L : List Ent) (l : List (It β)) : Prop where
  some_ : ∀ x ∈ l, ∃ v, mget (x.ip : Int) L = some v ∧ T x v
  none_ : ∀ i : Int, (∀ x ∈ l, (x.ip : Int) ≠ i) → mget i L = none
  len : L.length = l.length
section
variable {β : Type} {T : It β → Value → Prop} {L : List Ent} {l : List (It β)}
theorem HM.nil : HM T [] [] := ⟨fun x hx => (by cases hx), fun i _ => rfl, rfl⟩
theorem HM.none_of {i : Nat} (h : HM T L l) (hg : iget i l = none) : mget (i : Int) L = none := h.none_ _ (fun x hx e => iget_none.1 hg x hx (by omega))
theorem HM.some_of {i : Nat} {x : It β} (h : HM T L l) (hg : iget i l = some x) : ∃ v, mget (i : Int) L = some v ∧ T x v := by
  obtain ⟨hx, e⟩ := iget_mem hg
  rw [← e]
  exact h.some_ x hx
theorem HM.isSome (h : HM T L l) (i : Nat) : (mget (i : Int) L).isSome = (iget i l).isSome := by
  cases hg : iget i l with
  | none => rw [h.none_of hg]; rfl
  | some x =>
    obtain ⟨v, hv, _⟩ := h.some_of hg
    rw [hv]; rfl
theorem HM.mono {T' : It β → Value → Prop} (h : HM T L l) (hT : ∀ x ∈ l, ∀ v, T x v → T' x v) : HM T' L l :=
  ⟨fun x hx => (h.some_ x hx).imp fun v hv => ⟨hv.1, hT x hx v hv.2⟩, h.none_, h.len⟩
theorem HM.del {n i : Nat} (h : HM T L l) (hl : IS n l) (hk : (L.map Ent.k).Nodup) : HM T (mdel (i : Int) L) (idel i l) := by
  refine ⟨fun x hx => ?_, fun j hj => ?_, ?_⟩
  · obtain ⟨hx, hne⟩ := mem_idel.1 hx
    rw [mget_mdel _ _ _ hk, if_neg (by omega)]
    exact h.some_ x hx
  · rw [mget_mdel _ _ _ hk]
    by_cases e : j = (i : Int)
    · rw [if_pos e]
    · rw [if_neg e]
      refine h.none_ j (fun x hx e' => ?_)
      exact hj x (mem_idel.2 ⟨hx, by omega⟩) e'
  · cases hg : iget i l with
    | none => rw [mdel_none _ _ (h.none_of hg), idel_none hg]; exact h.len
    | some x =>
      have h1 := mdel_len (i : Int) L (by rw [h.isSome, hg]; rfl)
      have h2 := idel_len hl hg
      have := h.len
      omega
theorem HM.put {n c : Nat} (h : HM T L l) (hl : IS n l) {x : It β} (hx : iget x.ip l = none) {v : Value} (hv : T x v) : HM T (mput (x.ip : Int) v c L) (l ++ [x]) := by
  refine ⟨fun y hy => ?_, fun j hj => ?_, ?_⟩
  · rw [mget_mput]
    rcases List.mem_append.1 hy with hy | hy
    · rw [if_neg (fun e => iget_none.1 hx y hy (by omega))]
      exact h.some_ y hy
    · rw [List.mem_singleton] at hy
      subst hy
      rw [if_pos rfl]
      exact ⟨v, rfl, hv⟩
  · rw [mget_mput, if_neg (fun e => hj x (List.mem_append_right _ (List.mem_singleton.2 rfl)) e.symm)]
    exact h.none_ j (fun y hy => hj y (List.mem_append_left _ hy))
  · have h0 := h.none_of hx
    unfold mput
    rw [h0]
    simp [h.len]
/-- A thing that is there is written anew, as the last one. -/
theorem HM.again {n c i : Nat} (h : HM T L l) (hl : IS n l) (hk : (L.map Ent.k).Nodup) {x : It β} (hs : (iget x.ip l).isSome = true) {v : Value} (hv : T x v) : HM T (mput (x.ip : Int) v c L) (idel x.ip l ++ [x]) := by
  refine ⟨fun y hy => ?_, fun j hj => ?_, ?_⟩
  · rw [mget_mput]
    rcases List.mem_append.1 hy with hy | hy
    · obtain ⟨hy, hne⟩ := mem_idel.1 hy
      rw [if_neg (by omega)]
      exact h.some_ y hy
    · rw [List.mem_singleton] at hy
      subst hy
      rw [if_pos rfl]
      exact ⟨v, rfl, hv⟩
  · have hjx : j ≠ (x.ip : Int) := fun e => hj x (List.mem_append_right _ (List.mem_singleton.2 rfl)) e.symm
    rw [mget_mput, if_neg hjx]
    exact h.none_ j (fun y hy e => hj y (List.mem_append_left _ (mem_idel.2 ⟨hy, by omega⟩)) e)
  · obtain ⟨y, hy⟩ := Option.isSome_iff_exists.1 hs
    have h1 := idel_len hl hy
    unfold mput
    rw [if_pos (by rw [h.isSome]; exact hs), mset_len, List.length_append, List.length_singleton, h1]
    exact h.len
/-- A thing's value turns. -/
theorem HM.set {n c i : Nat} (h : HM T L l) (hl : IS n l) {x : It β} (hg : iget i l = some x) {u : β} {v : Value} (hv : T { x with v := u } v) : HM T (mput (i : Int) v c L) (iset i u l) := by
  refine ⟨fun y hy => ?_, fun j hj => ?_, ?_⟩
  · rw [mget_mput]
    obtain ⟨z, hz, rfl⟩ := mem_iset.1 hy
    by_cases e : z.ip = i
    · rw [if_pos e]
      have : z = x := by
        have := hl.get hz e
        rw [hg] at this
        injection this with this
        exact this.symm
      subst this
      rw [if_pos (by show ((z.ip : Nat) : Int) = _; omega)]
      exact ⟨v, rfl, hv⟩
    · rw [if_neg e, if_neg (by omega)]
      exact h.some_ z hz
  · have hji : j ≠ (i : Int) := by
      rintro rfl
      obtain ⟨hx, e⟩ := iget_mem hg
      refine hj _ (mem_iset.2 ⟨x, hx, rfl⟩) ?_
      rw [if_pos e]
      show ((x.ip : Nat) : Int) = _
      omega
    rw [mget_mput, if_neg hji]
    refine h.none_ j (fun y hy e => hj _ (mem_iset.2 ⟨y, hy, rfl⟩) ?_)
    split <;> exact e
  · unfold mput
    rw [if_pos (by rw [h.isSome, hg]; rfl), mset_len, iset_len]
    exact h.len
end
/-- A neighbour's value; a row's: its slice holds the tokens. -/
def TE (x : En) (v : Value) : Prop := v = entV x.v x.ord
def TR (w : World) (x : Rw) (v : Value) : Prop := ∃ A c, v = rowV A x.v.length c x.ord ∧ RdN w A x.v ∧ (A = none → c = 0)
theorem TR.kp {S : Nat → Prop} {w w' : World} {x : Rw} {v : Value} (h : TR w x v) (hk : Kp S w w') (hS : ∀ b cs, Bk w b 3 cs → ¬ S b) : TR w' x v := by
  obtain ⟨A, c, e, hr, hn⟩ := h
  exact ⟨A, c, e, hr.kp hk (fun b o cs _ hb => hS b cs hb), hn⟩
end Go.Proofs.YtgidjgkafbjkpaaGreatDoor
namespace Go.Proofs.YtgidjgkafbjkpaaGreatDoor
open Go.RowKit

structure CS where
  (room wait life pat count eb ec rb rc gl gw : Nat)
  (EL RL : List Ent)
  (ents : List En)
  (rows : List Rw)
  (R1 R2 : Rows)
  (F1 F2 : Nat → Prop)
def CC (s : CS) : Array Value := #[.int .i64 (s.room : Int), .int .i64 (s.wait : Int), .int .u64 (s.life : Int), .int .u64 (s.pat : Int), .map (some s.eb), .map (some s.rb), .pointer (some ⟨s.gl, 0, none⟩), .pointer (some ⟨s.gw, 0, none⟩), .int .i64 (s.count : Int)]
/-- Its blocks. -/
def cfp (g : Nat) (s : CS) (b : Nat) : Prop := b = g ∨ b = s.eb ∨ b = s.rb ∨ s.F1 b ∨ s.F2 b
/-- Those that are of its kinds. -/
def CK (g : Nat) (s : CS) (w : World) (b : Nat) : Prop := cfp g s b ∧ ∀ t cs, Bk w b t cs → t = 68 ∨ t = 113
structure CM (w : World) (g : Nat) (s : CS) : Prop where
  bk : Bk w g 68 (CC s)
  em : UMap w s.eb s.ec s.EL
  rm : UMap w s.rb s.rc s.RL
  eh : HM TE s.EL s.ents
  rh : HM (TR w) s.RL s.rows
  lw : Whl s.F1 w s.gl 0 s.R1
  ww : Whl s.F2 w s.gw 0 s.R2
  es : IS s.count s.ents
  rs : IS s.count s.rows
  er : WR s.R1 s.ents
  rr : WR s.R2 s.rows
  f1lt : ∀ b, s.F1 b → b < w.heap.size
  f2lt : ∀ b, s.F2 b → b < w.heap.size
  dj : ∀ b, s.F1 b → ¬ s.F2 b
  e1 : ¬ s.F1 s.eb
  e2 : ¬ s.F2 s.eb
  r1 : ¬ s.F1 s.rb
  r2 : ¬ s.F2 s.rb
  ne : s.eb ≠ s.rb
  g1 : ¬ s.F1 g
  g2 : ¬ s.F2 g
theorem not_map_bk {w : World} {b t c : Nat} {cs : Array Value} {L : List Ent} (h : UMap w b c L) (hb : Bk w b t cs) : False := by
  have h1 := h.at_
  unfold Bk at hb
  rw [hb] at h1
  cases h1
namespace CM
variable {S : Nat → Prop} {w w' w1 w2 : World} {g : Nat} {s : CS}
theorem lt (h : CM w g s) {b : Nat} (hb : cfp g s b) : b < w.heap.size := by
  rcases hb with rfl | rfl | rfl | hb | hb
  · exact h.bk.lt
  · exact h.em.lt
  · exact h.rm.lt
  · exact h.f1lt b hb
  · exact h.f2lt b hb
theorem kept (h : CM w g s) (hk : Kp S w w') (hS : ∀ b, cfp g s b → ¬ S b) (h3 : ∀ b cs, Bk w b 3 cs → ¬ S b) : CM w' g s :=
  ⟨h.bk.kept hk (hS _ (.inl rfl)), h.em.kept hk (hS _ (.inr (.inl rfl))), h.rm.kept hk (hS _ (.inr (.inr (.inl rfl)))), h.eh, h.rh.mono (fun x _ v hv => hv.kp hk h3),
    h.lw.kept hk (fun b _ hb => hS _ (.inr (.inr (.inr (.inl hb))))), h.ww.kept hk (fun b _ hb => hS _ (.inr (.inr (.inr (.inr hb))))), h.es, h.rs, h.er, h.rr,
    fun b hb => Nat.lt_of_lt_of_le (h.f1lt b hb) hk.size, fun b hb => Nat.lt_of_lt_of_le (h.f2lt b hb) hk.size, h.dj, h.e1, h.e2, h.r1, h.r2, h.ne, h.g1, h.g2⟩
theorem none_kept (h : CM w g s) (hk : Kp (fun _ => False) w w') : CM w' g s := h.kept hk (fun _ _ f => f) (fun _ _ _ f => f)
theorem ck (h : CM w g s) {b : Nat} (hb : cfp g s b) (ht : ∀ t cs, Bk w b t cs → t = 68 ∨ t = 113) : CK g s w b := ⟨hb, ht⟩
theorem ck_g (h : CM w g s) : CK g s w g := ⟨.inl rfl, fun t cs hb => by have h1 := h.bk; unfold Bk at h1 hb; rw [hb] at h1; injection h1 with h1; injection h1 with _ h1; exact .inl h1⟩
theorem ck_e (h : CM w g s) : CK g s w s.eb := ⟨.inr (.inl rfl), fun t cs hb => (not_map_bk h.em hb).elim⟩
theorem ck_r (h : CM w g s) : CK g s w s.rb := ⟨.inr (.inr (.inl rfl)), fun t cs hb => (not_map_bk h.rm hb).elim⟩
theorem g_ne_e (h : CM w g s) : g ≠ s.eb := fun e => not_map_bk h.em (e ▸ h.bk)
theorem g_ne_r (h : CM w g s) : g ≠ s.rb := fun e => not_map_bk h.rm (e ▸ h.bk)
/-- What the wheel of lives turns. -/
theorem ck_1 (h : CM w g s) (k1 : Kp (fun j => j = s.eb) w w1) (k2 : Kp (FK s.F1 w1) w1 w2) : Kp (CK g s w) w w2 := by
  refine (k1.mono (fun b e => by rw [e]; exact h.ck_e)).trans k2 (fun b hb hf => ⟨.inr (.inr (.inr (.inl hf.1))), fun t cs ht => ?_⟩)
  refine .inr (hf.2 t cs (ht.kept k1 (fun e => not_map_bk h.em (by have : b = s.eb := e; rw [this] at ht; exact ht))))
theorem ck_2 (h : CM w g s) (k1 : Kp (fun j => j = s.rb) w w1) (k2 : Kp (FK s.F2 w1) w1 w2) : Kp (CK g s w) w w2 := by
  refine (k1.mono (fun b e => by rw [e]; exact h.ck_r)).trans k2 (fun b hb hf => ⟨.inr (.inr (.inr (.inr hf.1))), fun t cs ht => ?_⟩)
  refine .inr (hf.2 t cs (ht.kept k1 (fun e => not_map_bk h.rm (by have : b = s.rb := e; rw [this] at ht; exact ht))))
/-- An int slice's block is turned by neither. -/
theorem no3 (b : Nat) {cs : Array Value} {G : Nat} {Q : CS} (hb : Bk w b 3 cs) : ¬ CK G Q w b := fun h => by
  rcases h.2 3 cs hb with e | e <;> exact absurd e (by decide)
theorem no3F {F : Nat → Prop} (b : Nat) {cs : Array Value} (hb : Bk w b 3 cs) : ¬ FK F w b := fun h => absurd (h.2 3 cs hb) (by decide)
theorem no3m {c : Nat} {L : List Ent} {e : Nat} (he : UMap w e c L) (b : Nat) {cs : Array Value} (hb : Bk w b 3 cs) : ¬ b = e := fun h => not_map_bk he (h ▸ hb)
end CM
/-- What drop leaves. -/
def CS.drop (s : CS) (i : Nat) : CS := { s with EL := mdel (i : Int) s.EL, ents := idel i s.ents, R1 := rdel (i : Int) s.R1 }
/-- What release leaves. -/
def CS.rel (s : CS) (i : Nat) : CS := { s with RL := mdel (i : Int) s.RL, rows := idel i s.rows, R2 := rdel (i : Int) s.R2 }
theorem CM.dropped {w w1 w2 : World} {g i : Nat} {s : CS} (h : CM w g s) (u1 : UMap w1 s.eb s.ec (mdel (i : Int) s.EL)) (k1 : Kp (fun j => j = s.eb) w w1) (h2 : Whl s.F1 w2 s.gl 0 (rdel (i : Int) s.R1)) (k2 : Kp (FK s.F1 w1) w1 w2) :
    CM w2 g (s.drop i) ∧ Kp (CK g s w) w w2 := by
  have b1 := h.bk.kept k1 h.g_ne_e
  have r1 := h.rm.kept k1 (fun e => h.ne e.symm)
  refine ⟨⟨b1.kept k2 (FK.not b1 (by decide)), u1.kept k2 (fun hf => h.e1 hf.1), r1.kept k2 (fun hf => h.r1 hf.1), h.eh.del h.es h.em.keys, ?_, h2, ?_, h.es.del i, h.rs, h.er.del i, h.rr, ?_, ?_, h.dj, h.e1, h.e2, h.r1, h.r2, h.ne, h.g1, h.g2⟩, h.ck_1 k1 k2⟩
  · refine h.rh.mono (fun x _ v hv => (hv.kp k1 (fun b cs hb => CM.no3m h.em b hb)).kp k2 (fun b cs hb => CM.no3F b hb))
  · exact (h.ww.kept k1 (fun b _ hb e => h.e2 (by have : b = s.eb := e; rw [← this]; exact hb))).kept k2 (fun b _ hb hf => h.dj b hf.1 hb)
  · exact fun b hb => Nat.lt_of_lt_of_le (h.f1lt b hb) (Nat.le_trans k1.size k2.size)
  · exact fun b hb => Nat.lt_of_lt_of_le (h.f2lt b hb) (Nat.le_trans k1.size k2.size)
theorem CM.released {w w1 w2 : World} {g i : Nat} {s : CS} (h : CM w g s) (u1 : UMap w1 s.rb s.rc (mdel (i : Int) s.RL)) (k1 : Kp (fun j => j = s.rb) w w1) (h2 : Whl s.F2 w2 s.gw 0 (rdel (i : Int) s.R2)) (k2 : Kp (FK s.F2 w1) w1 w2) :
    CM w2 g (s.rel i) ∧ Kp (CK g s w) w w2 := by
  have b1 := h.bk.kept k1 h.g_ne_r
  have e1 := h.em.kept k1 h.ne
  refine ⟨⟨b1.kept k2 (FK.not b1 (by decide)), e1.kept k2 (fun hf => h.e2 hf.1), u1.kept k2 (fun hf => h.r2 hf.1), h.eh, ?_, ?_, h2, h.es, h.rs.del i, h.er, h.rr.del i, ?_, ?_, h.dj, h.e1, h.e2, h.r1, h.r2, h.ne, h.g1, h.g2⟩, h.ck_2 k1 k2⟩
  · refine (h.rh.del h.rs h.rm.keys).mono (fun x _ v hv => (hv.kp k1 (fun b cs hb => CM.no3m h.rm b hb)).kp k2 (fun b cs hb => CM.no3F b hb))
  · exact (h.lw.kept k1 (fun b _ hb e => h.r1 (by have : b = s.rb := e; rw [← this]; exact hb))).kept k2 (fun b _ hb hf => h.dj b hb hf.1)
  · exact fun b hb => Nat.lt_of_lt_of_le (h.f1lt b hb) (Nat.le_trans k1.size k2.size)
  · exact fun b hb => Nat.lt_of_lt_of_le (h.f2lt b hb) (Nat.le_trans k1.size k2.size)
/-- One more has begun. -/
theorem CM.counted {w w1 : World} {g : Nat} {s : CS} (h : CM w g s) (b1 : Bk w1 g 68 (CC { s with count := s.count + 1 })) (k1 : Kp (fun j => j = g) w w1) : CM w1 g { s with count := s.count + 1 } ∧ Kp (CK g s w) w w1 := by
  refine ⟨⟨b1, h.em.kept k1 (fun e => h.g_ne_e e.symm), h.rm.kept k1 (fun e => h.g_ne_r e.symm), h.eh, ?_, ?_, ?_, h.es.up (Nat.le_succ _), h.rs.up (Nat.le_succ _), h.er, h.rr, ?_, ?_, h.dj, h.e1, h.e2, h.r1, h.r2, h.ne, h.g1, h.g2⟩, k1.mono (fun b e => by rw [e]; exact h.ck_g)⟩
  · refine h.rh.mono (fun x _ v hv => hv.kp k1 (fun b cs hb e => ?_))
    have h1 := h.bk
    have : b = g := e
    rw [this] at hb
    unfold Bk at h1 hb
    rw [hb] at h1
    injection h1 with h1
    injection h1 with _ h1
    exact absurd h1 (by decide)
  · exact h.lw.kept k1 (fun b _ hb e => h.g1 (by have : b = g := e; rw [← this]; exact hb))
  · exact h.ww.kept k1 (fun b _ hb e => h.g2 (by have : b = g := e; rw [← this]; exact hb))
  · exact fun b hb => Nat.lt_of_lt_of_le (h.f1lt b hb) k1.size
  · exact fun b hb => Nat.lt_of_lt_of_le (h.f2lt b hb) k1.size
/-- F and what is new up to a world. -/
def Gru (F : Nat → Prop) (w1 w2 : World) (b : Nat) : Prop := Grn F w1 b ∧ b < w2.heap.size
def CS.note (s : CS) (x : En) (c1 : Nat) (w1 w2 : World) : CS := { s with EL := mput (x.ip : Int) (entV x.v x.ord) s.ec s.EL, ec := c1, ents := idel x.ip s.ents ++ [x], R1 := rset (x.ip : Int) x.due s.R1, F1 := Gru s.F1 w1 w2 }
theorem HM.noted {β : Type} {T : It β → Value → Prop} {L : List Ent} {l : List (It β)} {n c : Nat} (h : HM T L l) (hl : IS n l) (hk : (L.map Ent.k).Nodup) {x : It β} {v : Value} (hv : T x v) : HM T (mput (x.ip : Int) v c L) (idel x.ip l ++ [x]) := by
  cases hg : iget x.ip l with
  | none => rw [idel_none hg]; exact h.put hl hg hv
  | some y => exact h.again (i := x.ip) hl hk (by rw [hg]; rfl) hv
/-- A neighbour is noted. -/
theorem CM.noted {w w1 w2 : World} {g c1 : Nat} {s : CS} {x : En} (h : CM w g s) (hes : IS s.count (idel x.ip s.ents ++ [x])) (u1 : UMap w1 s.eb c1 (mput (x.ip : Int) (entV x.v x.ord) s.ec s.EL)) (k1 : Kp (fun j => j = s.eb) w w1)
    (h2 : Whl (Grn s.F1 w1) w2 s.gl 0 (rset (x.ip : Int) x.due s.R1)) (k2 : Kp (FK s.F1 w1) w1 w2) :
    CM w2 g (s.note x c1 w1 w2) ∧ Kp (CK g s w) w w2 ∧ ∀ b, cfp g (s.note x c1 w1 w2) b → cfp g s b ∨ w.heap.size ≤ b := by
  have b1 := h.bk.kept k1 h.g_ne_e
  have r1 := h.rm.kept k1 (fun e => h.ne e.symm)
  have hs := k1.size
  refine ⟨⟨b1.kept k2 (FK.not b1 (by decide)), u1.kept k2 (fun hf => h.e1 hf.1), r1.kept k2 (fun hf => h.r1 hf.1), h.eh.noted h.es h.em.keys rfl, ?_, h2.mono (fun b hb hf => ⟨hf, hb⟩), ?_, hes, h.rs, h.er.set x, h.rr, fun b hb => hb.2, ?_, ?_, ?_, h.e2, ?_, h.r2, h.ne, ?_, h.g2⟩, h.ck_1 k1 k2, ?_⟩
  · exact h.rh.mono (fun x _ v hv => (hv.kp k1 (fun b cs hb => CM.no3m h.em b hb)).kp k2 (fun b cs hb => CM.no3F b hb))
  · exact (h.ww.kept k1 (fun b _ hb e => h.e2 (by have : b = s.eb := e; rw [← this]; exact hb))).kept k2 (fun b _ hb hf => h.dj b hf.1 hb)
  · exact fun b hb => Nat.lt_of_lt_of_le (h.f2lt b hb) (Nat.le_trans k1.size k2.size)
  · rintro b ⟨hb | hb, _⟩ h2'
    · exact h.dj b hb h2'
    · have := h.f2lt b h2'; omega
  · rintro ⟨hb | hb, _⟩
    · exact h.e1 hb
    · exact absurd h.em.lt (Nat.not_lt.2 (Nat.le_trans (hs) hb))
  · rintro ⟨hb | hb, _⟩
    · exact h.r1 hb
    · exact absurd h.rm.lt (Nat.not_lt.2 (Nat.le_trans (hs) hb))
  · rintro ⟨hb | hb, _⟩
    · exact h.g1 hb
    · have := h.bk.lt; omega
  · rintro b (hb | hb | hb | ⟨hb | hb, _⟩ | hb)
    · exact .inl (.inl hb)
    · exact .inl (.inr (.inl hb))
    · exact .inl (.inr (.inr (.inl hb)))
    · exact .inl (.inr (.inr (.inr (.inl hb))))
    · exact .inr (by omega)
    · exact .inl (.inr (.inr (.inr (.inr hb))))
def CS.join (s : CS) (i : Nat) (l : List Int) (v : Value) (c1 : Nat) : CS := { s with RL := mput (i : Int) v s.rc s.RL, rc := c1, rows := iset i l s.rows }
/-- A token joins a row. -/
theorem CM.joined {w w1 w2 : World} {g c1 i c : Nat} {A : Option Addr} {l : List Int} {s : CS} {x : Rw} (h : CM w g s) (hx : iget i s.rows = some x) (k1 : Kp (fun _ => False) w w1) (hA : RdN w1 A l) (hN : A = none → c = 0)
    (u2 : UMap w2 s.rb c1 (mput (i : Int) (rowV A l.length c x.ord) s.rc s.RL)) (k2 : Kp (fun j => j = s.rb) w1 w2) :
    CM w2 g (s.join i l (rowV A l.length c x.ord) c1) ∧ Kp (CK g s w) w w2 := by
  have h1 := h.none_kept k1
  refine ⟨⟨h1.bk.kept k2 h.g_ne_r, h1.em.kept k2 h.ne, u2, h.eh, ?_, ?_, ?_, h.es, h.rs.set i l, h.er, h.rr.iset i l, ?_, ?_, h.dj, h.e1, h.e2, h.r1, h.r2, h.ne, h.g1, h.g2⟩, (k1.mono (fun _ f => f.elim)).trans k2 (fun b hb e => by have : b = s.rb := e; rw [this]; exact h.ck_r)⟩
  · have h3 := (h1.rh.mono (T' := TR w2) (fun x _ v hv => hv.kp k2 (fun b cs hb => CM.no3m h1.rm b hb)))
    exact h3.set h.rs hx ⟨A, c, rfl, hA.kp k2 (fun b o cs _ hb => CM.no3m h1.rm b hb), hN⟩
  · exact h1.lw.kept k2 (fun b _ hb e => h.r1 (by have : b = s.rb := e; rw [← this]; exact hb))
  · exact h1.ww.kept k2 (fun b _ hb e => h.r2 (by have : b = s.rb := e; rw [← this]; exact hb))
  · exact fun b hb => Nat.lt_of_lt_of_le (h1.f1lt b hb) k2.size
  · exact fun b hb => Nat.lt_of_lt_of_le (h1.f2lt b hb) k2.size
def CS.begin (s : CS) (x : Rw) (v : Value) (c1 : Nat) (w1 w2 : World) : CS := { s with RL := mput (x.ip : Int) v s.rc s.RL, rc := c1, rows := s.rows ++ [x], R2 := rset (x.ip : Int) x.due s.R2, F2 := Gru s.F2 w1 w2 }
/-- A row begins. -/
theorem CM.began {w w1 w2 w3 : World} {g c1 c : Nat} {A : Option Addr} {s : CS} {x : Rw} (h : CM w g s) (hx : iget x.ip s.rows = none) (hrs : IS s.count (s.rows ++ [x]))
    (h1 : Whl (Grn s.F2 w) w1 s.gw 0 (rset (x.ip : Int) x.due s.R2)) (k1 : Kp (FK s.F2 w) w w1) (k2 : Kp (fun _ => False) w1 w2) (hA : RdN w2 A x.v) (hN : A = none → c = 0)
    (u3 : UMap w3 s.rb c1 (mput (x.ip : Int) (rowV A x.v.length c x.ord) s.rc s.RL)) (k3 : Kp (fun j => j = s.rb) w2 w3) :
    CM w3 g (s.begin x (rowV A x.v.length c x.ord) c1 w w1) ∧ Kp (CK g s w) w w3 ∧ ∀ b, cfp g (s.begin x (rowV A x.v.length c x.ord) c1 w w1) b → cfp g s b ∨ w.heap.size ≤ b := by
  have b2 := (h.bk.kept k1 (FK.not h.bk (by decide))).kept k2 (fun f => f)
  have e2 := (h.em.kept k1 (fun hf => h.e2 hf.1)).kept k2 (fun f => f)
  have r2 := (h.rm.kept k1 (fun hf => h.r2 hf.1)).kept k2 (fun f => f)
  have hs := k1.size
  refine ⟨⟨b2.kept k3 h.g_ne_r, e2.kept k3 h.ne, u3, h.eh, ?_, ?_, ?_, h.es, hrs, h.er, ?_, ?_, ?_, ?_, h.e1, ?_, h.r1, ?_, h.ne, h.g1, ?_⟩, ?_, ?_⟩
  · have h3 := (h.rh.mono (T' := TR w3) (fun x _ v hv => ((hv.kp k1 (fun b cs hb => CM.no3F b hb)).kp k2 (fun _ _ _ f => f)).kp k3 (fun b cs hb => CM.no3m r2 b hb)))
    exact h3.put h.rs hx ⟨A, c, rfl, hA.kp k3 (fun b o cs _ hb => CM.no3m r2 b hb), hN⟩
  · exact ((h.lw.kept k1 (fun b _ hb hf => h.dj b hb hf.1)).none_kept k2).kept k3 (fun b _ hb e => h.r1 (by have : b = s.rb := e; rw [← this]; exact hb))
  · exact (((h1.mono (G := Gru s.F2 w w1) (fun b hb hf => ⟨hf, hb⟩)).none_kept k2).kept k3 (fun b _ hb e => by
      have : b = s.rb := e
      rw [this] at hb
      rcases hb.1 with hb | hb
      · exact h.r2 hb
      · have := h.rm.lt; omega))
  · have := h.rr.set x
    rw [idel_none hx] at this
    exact this
  · exact fun b hb => Nat.lt_of_lt_of_le (h.f1lt b hb) (Nat.le_trans k1.size (Nat.le_trans k2.size k3.size))
  · exact fun b hb => Nat.lt_of_lt_of_le hb.2 (Nat.le_trans k2.size k3.size)
  · rintro b hb ⟨hb2 | hb2, _⟩
    · exact h.dj b hb hb2
    · have := h.f1lt b hb; omega
  · rintro ⟨hb | hb, _⟩
    · exact h.e2 hb
    · exact absurd h.em.lt (Nat.not_lt.2 (Nat.le_trans (Nat.le_refl _) hb))
  · rintro ⟨hb | hb, _⟩
    · exact h.r2 hb
    · exact absurd h.rm.lt (Nat.not_lt.2 (Nat.le_trans (Nat.le_refl _) hb))
  · rintro ⟨hb | hb, _⟩
    · exact h.g2 hb
    · have := h.bk.lt; omega
  · have q1 : Kp (CK g s w) w w1 := k1.mono (fun b hb => ⟨.inr (.inr (.inr (.inr hb.1))), fun t cs ht => .inr (hb.2 t cs ht)⟩)
    have q2 : Kp (CK g s w) w w2 := q1.trans k2 (fun _ _ f => f.elim)
    exact q2.trans k3 (fun b hb e => by have : b = s.rb := e; rw [this]; exact h.ck_r)
  · rintro b (hb | hb | hb | hb | ⟨hb | hb, _⟩)
    · exact .inl (.inl hb)
    · exact .inl (.inr (.inl hb))
    · exact .inl (.inr (.inr (.inl hb)))
    · exact .inl (.inr (.inr (.inr (.inl hb))))
    · exact .inl (.inr (.inr (.inr (.inr hb))))
    · exact .inr hb
end Go.Proofs.YtgidjgkafbjkpaaGreatDoor
