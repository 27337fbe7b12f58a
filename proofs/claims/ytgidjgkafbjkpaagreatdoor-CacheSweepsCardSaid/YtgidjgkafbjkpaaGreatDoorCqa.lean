/- Cache: sweeps at several times; a clone aside, plain. -/
import Derived.Test.YtgidjgkafbjkpaaGreatDoorCqp
set_option linter.unusedVariables false
set_option linter.unusedSimpArgs false
namespace Go.Proofs.YtgidjgkafbjkpaaGreatDoor
open Go.RowKit

/-- What sweeps up to the time t have told of v, and what is left: i of them. -/
def Swp (v : CV) (i t : Nat) (v' : CV) (T : List Int) : Prop :=
  (i = 0 ∧ v' = v ∧ T = []) ∨ (1 ≤ i ∧ v' = v.left t ∧ ∃ A, Got t v.rows A ∧ T = outs A v.rows)
theorem CV.twice {t u : Nat} (h : t ≤ u) (v : CV) : (v.left t).left u = v.left u := by
  show (⟨v.room, v.wait, v.life, v.pat, v.count, lft u (lft t v.ents), lft u (lft t v.rows)⟩ : CV) = ⟨v.room, v.wait, v.life, v.pat, v.count, lft u v.ents, lft u v.rows⟩
  rw [left_two h v.ents, left_two h v.rows]
theorem Got.two {t u : Nat} {n : Nat} {l : List Rw} {A B : List Nat} (hs : IS n l) (h : t ≤ u) (hA : Got t l A) (hB : Got u (lft t l) B) : Got u l (A ++ B) ∧ outs (A ++ B) l = outs A l ++ outs B (lft t l) := by
  obtain ⟨R, h1, h2⟩ := hA
  obtain ⟨S, k1, k2⟩ := hB
  have e : S = rrest t R := k1.uniq (h1.left t)
  subst e
  exact ⟨⟨R, h1, by rw [List.map_append, h2, k2]; exact (rgot_two h).symm⟩, outs_two h1 hs h2 k2⟩
theorem Swp.step {v v' : CV} {i t u : Nat} {T : List Int} {A : List Nat} (hv : VOK v) (h : Swp v i t v' T) (htu : t ≤ u) (hA : Got u v'.rows A) : Swp v (i + 1) u (v'.left u) (T ++ outs A v'.rows) := by
  right
  rcases h with ⟨_, rfl, rfl⟩ | ⟨_, rfl, B, hB, rfl⟩
  · exact ⟨by omega, rfl, A, hA, rfl⟩
  · have h2 := Got.two hv.rs htu hB hA
    exact ⟨by omega, CV.twice htu v, _, h2.1, h2.2.symm⟩
theorem Swp.count {v v' : CV} {i t : Nat} {T : List Int} (h : Swp v i t v' T) : v'.room = v.room ∧ v'.wait = v.wait := by
  rcases h with ⟨_, rfl, _⟩ | ⟨_, rfl, _⟩ <;> exact ⟨rfl, rfl⟩
theorem Got.told_le {v : CV} (hv : VOK v) {t : Nat} {A : List Nat} (h : Got t v.rows A) : (outs A v.rows).length ≤ 16384 := by
  obtain ⟨R, hR, hL⟩ := h
  have h1 := outs_le hv.vlen A
  have h2 := congrArg List.length hL
  have h3 := rgot_len t R
  have h4 := hR.len hv.rs
  have h5 := hv.rlen
  have h6 := hv.room.2
  have h7 := hv.wait.2
  rw [List.length_map] at h2
  have h8 : A.length * v.wait ≤ 256 * 64 := Nat.mul_le_mul (by omega) h7
  omega
theorem Swp.len {v v' : CV} {i t : Nat} {T : List Int} (hv : VOK v) (h : Swp v i t v' T) : T.length ≤ 16384 := by
  rcases h with ⟨_, _, rfl⟩ | ⟨_, _, A, hA, rfl⟩
  · exact Nat.zero_le _
  · exact hA.told_le hv
/-- A row of the law's own grows: a cache aside. -/
theorem Tch.grows {F G : Nat → Prop} {W W' : World} {g n base : Nat} {v : CV} {u u' : Value} {xs : List Value} (h : Tch F G W g v) (ho : W.ownsRow base 3 1 u n xs) (hg : W.grownBy W' u.ownBlock) (hG : ∀ b, G b → u.ownBlock ≠ some b)
    (hu : u'.ownBlock = u.ownBlock ∨ u'.ownBlock = some W.heap.size) : Tch F (fun b => u'.ownBlock ≠ some b) W' g v := by
  have hk : Kp (fun b => u.ownBlock = some b) W W' := (Kp.refl _ W).grown hg (fun q hq => .inl hq)
  have h2 := h.mono (F' := F) (G' := fun b => G b ∧ u'.ownBlock ≠ some b) (fun b _ hf => hf) (fun b hb hb2 => ⟨hb2, fun e => by
    rcases hu with hu | hu
    · rw [hu] at e; exact hG b hb2 e
    · rw [hu] at e
      have : W.heap.size = b := Option.some.inj e
      omega⟩)
  have h3 := h2.kept3 hk (fun b hb => own_block_bk ho hb) (fun b hb => hG b hb.1)
  exact h3.mono (fun b _ hf => hf) (fun b _ hb => hb.2)
/-- A cache aside while another turns. -/
theorem Tch.aside {F G Fx Gx : Nat → Prop} {W W' : World} {gx : Nat} {vx : CV} (h : Tch Fx Gx W gx vx) (hd : ∀ b, Fx b → ¬ F b) (k : Kp (FC F W) W W') : Tch Fx Gx W' gx vx :=
  h.kept k (fun b _ hb hf => hd b hb hf.1) FC.no3
/-- A clone is made: each on its own. -/
theorem AT.cloned {w W W' : World} {F G : Nat → Prop} {g g' : Nat} {v : CV} (h : AT w F G g v W) (hc : Tch (fun b => W.heap.size ≤ b) G W' g' v) (k : Kp (fun _ => False) W W') :
    AT w (fun b => F b ∧ ¬ (W.heap.size ≤ b ∧ b < W'.heap.size)) G g v W' ∧ Tch (fun b => W.heap.size ≤ b ∧ b < W'.heap.size) G W' g' v :=
  ⟨⟨h.kp.trans' k, (h.c.mono (F' := fun b => F b ∧ ¬ (W.heap.size ≤ b ∧ b < W'.heap.size)) (fun b hb hf => ⟨hf, fun hh => by omega⟩) (fun _ _ x => x)).none_kept k, h.ok, fun b hb hf => h.old b hb hf.1, fun b hb => ⟨h.new b (Nat.le_trans k.size hb), fun hh => by omega⟩⟩, hc.mono (fun b hb hf => ⟨hf, hb⟩) (fun _ _ x => x)⟩
end Go.Proofs.YtgidjgkafbjkpaaGreatDoor
