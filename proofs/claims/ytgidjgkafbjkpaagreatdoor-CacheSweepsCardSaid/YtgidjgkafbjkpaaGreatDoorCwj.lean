/- Cache: a row begins, its block laid before. -/
import Derived.Test.YtgidjgkafbjkpaaGreatDoorCwi
import Derived.Test.YtgidjgkafbjkpaaGreatDoorCwh
set_option linter.unusedVariables false
set_option linter.unusedSimpArgs false
namespace Go.Proofs.YtgidjgkafbjkpaaGreatDoor
open Go.RowKit

/-- A row begins; block X, none of the cache's, is turned on the way. -/
theorem CM.began2 {w w1 w2 w3 : World} {g c1 c X : Nat} {q : Array Value} {A : Option Addr} {s : CS} {x : Rw} (h : CM w g s) (hx : iget x.ip s.rows = none) (hX : ∀ b, cfp g s b → b ≠ X) (hXb : Bk w X 77 q) (hrs : IS s.count (s.rows ++ [x]))
    (h1 : Whl (Grn s.F2 w) w1 s.gw 0 (rset (x.ip : Int) x.due s.R2)) (k1 : Kp (FK s.F2 w) w w1) (k2 : Kp (fun b => b = X) w1 w2) (hA : RdN w2 A x.v) (hN : A = none → c = 0)
    (u3 : UMap w3 s.rb c1 (mput (x.ip : Int) (rowV A x.v.length c x.ord) s.rc s.RL)) (k3 : Kp (fun j => j = s.rb) w2 w3) :
    CM w3 g (s.begin x (rowV A x.v.length c x.ord) c1 w w1) ∧ Kp (fun b => CK g s w b ∨ b = X) w w3 ∧ ∀ b, cfp g (s.begin x (rowV A x.v.length c x.ord) c1 w w1) b → cfp g s b ∨ w.heap.size ≤ b := by
  have xb := hXb.kept k1 (FK.not hXb (by decide))
  have xl := hXb.lt
  have b2 := (h.bk.kept k1 (FK.not h.bk (by decide))).kept k2 (fun e => hX _ (.inl rfl) e)
  have e2 := (h.em.kept k1 (fun hf => h.e2 hf.1)).kept k2 (fun e => hX _ (.inr (.inl rfl)) e)
  have r2 := (h.rm.kept k1 (fun hf => h.r2 hf.1)).kept k2 (fun e => hX _ (.inr (.inr (.inl rfl))) e)
  have hs := k1.size
  refine ⟨⟨b2.kept k3 h.g_ne_r, e2.kept k3 h.ne, u3, h.eh, ?_, ?_, ?_, h.es, hrs, h.er, ?_, ?_, ?_, ?_, h.e1, ?_, h.r1, ?_, h.ne, h.g1, ?_⟩, ?_, ?_⟩
  · have h3 := (h.rh.mono (T' := TR w3) (fun x _ v hv => ((hv.kp k1 (fun b cs hb => CM.no3F b hb)).kp k2 (fun b cs hb e => by
      have e : b = X := e
      subst e
      unfold Bk at hb xb
      rw [hb] at xb
      injection xb with h1
      injection h1 with _ h1
      exact absurd h1 (by decide))).kp k3 (fun b cs hb => CM.no3m r2 b hb)))
    exact h3.put h.rs hx ⟨A, c, rfl, hA.kp k3 (fun b o cs _ hb => CM.no3m r2 b hb), hN⟩
  · exact ((h.lw.kept k1 (fun b _ hb hf => h.dj b hb hf.1)).kept k2 (fun b _ hb e => hX b (.inr (.inr (.inr (.inl hb)))) e)).kept k3 (fun b _ hb e => h.r1 (by have : b = s.rb := e; rw [← this]; exact hb))
  · exact (((h1.mono (G := Gru s.F2 w w1) (fun b hb hf => ⟨hf, hb⟩)).kept k2 (fun b _ hb e => by
      rcases hb.1 with hb | hb
      · exact hX b (.inr (.inr (.inr (.inr hb)))) e
      · have e : b = X := e
        omega)).kept k3 (fun b _ hb e => by
      have : b = s.rb := e
      rw [this] at hb
      rcases hb.1 with hb | hb
      · exact h.r2 hb
      · have := h.rm.lt; omega))
  · have := h.rr.set x
    rw [idel_none hx] at this
    exact this
  · exact fun b hb => Nat.lt_of_lt_of_le (h.f1lt b hb) (Nat.le_trans k1.size (Nat.le_trans k2.size k3.size))
  · exact fun b hb => Nat.lt_of_lt_of_le hb.2 (Nat.le_trans k2.size k3.size)
  · rintro b hb ⟨hb2 | hb2, _⟩
    · exact h.dj b hb hb2
    · have := h.f1lt b hb; omega
  · rintro ⟨hb | hb, _⟩
    · exact h.e2 hb
    · exact absurd h.em.lt (Nat.not_lt.2 (Nat.le_trans (Nat.le_refl _) hb))
  · rintro ⟨hb | hb, _⟩
    · exact h.r2 hb
    · exact absurd h.rm.lt (Nat.not_lt.2 (Nat.le_trans (Nat.le_refl _) hb))
  · rintro ⟨hb | hb, _⟩
    · exact h.g2 hb
    · have := h.bk.lt; omega
  · have q1 : Kp (fun b => CK g s w b ∨ b = X) w w1 := k1.mono (fun b hb => .inl ⟨.inr (.inr (.inr (.inr hb.1))), fun t cs ht => .inr (hb.2 t cs ht)⟩)
    have q2 : Kp (fun b => CK g s w b ∨ b = X) w w2 := q1.trans k2 (fun _ _ e => .inr e)
    exact q2.trans k3 (fun b hb e => .inl (by have : b = s.rb := e; rw [this]; exact h.ck_r))
  · rintro b (hb | hb | hb | hb | ⟨hb | hb, _⟩)
    · exact .inl (.inl hb)
    · exact .inl (.inr (.inl hb))
    · exact .inl (.inr (.inr (.inl hb)))
    · exact .inl (.inr (.inr (.inr (.inl hb))))
    · exact .inl (.inr (.inr (.inr (.inr hb))))
    · exact .inr hb
end Go.Proofs.YtgidjgkafbjkpaaGreatDoor
