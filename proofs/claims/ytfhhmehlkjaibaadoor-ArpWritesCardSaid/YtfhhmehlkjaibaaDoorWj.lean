/- The reference's faults: New and Wrap. -/
import Derived.Test.YtfhhmehlkjaibaaDoorWi
namespace Go.Proofs.YtfhhmehlkjaibaaDoor
open Go.RowKit Go.Proofs.YtfhhmehlkjaibaaDoorW.PrintWords

/-- A row of reasons of the call's own. -/
def Rs (w : World) (base : Nat) (u : Value) (l : List Int) : Prop := Kd.R (Kd.int .i64) 3 w base (fun _ => True) u l
theorem Rs.tight {w : World} {base : Nat} {u : Value} {l : List Int} (h : Rs w base u l) : Kd.R (Kd.int .i64) 3 w base (fun k => u.ownBlock = some k) u l := ⟨fun _ hk => hk, h.2⟩
theorem Rs.of {w : World} {base : Nat} {ok : Nat → Prop} {u : Value} {l : List Int} (h : Kd.R (Kd.int .i64) 3 w base ok u l) : Rs w base u l := Kd.R_mono h (fun _ _ => trivial)
theorem Rs.own {w : World} {base : Nat} {u : Value} {l : List Int} (h : Rs w base u l) : ∃ inner, w.ownsRow base 3 1 u l.length inner := ⟨h.2.choose, h.2.choose_spec.1⟩
theorem Rs.ne {w : World} {base : Nat} {u : Value} {l : List Int} (h : Rs w base u l) {k : Nat} {t : TypeId} {cs : Array Value} (hb : Bk w k t cs) (ht : 3 ≠ t) : ¬ (u.ownBlock = some k) := by
  obtain ⟨_, ho⟩ := h.own
  exact own_type ho hb ht
theorem Rs.base {w : World} {base : Nat} {u : Value} {l : List Int} (h : Rs w base u l) {k : Nat} (hk : u.ownBlock = some k) : base ≤ k ∧ k < w.heap.size := by
  obtain ⟨_, ho⟩ := h.own
  exact ho.lt k hk
theorem Rs.kept {w w' : World} {base : Nat} {u : Value} {l : List Int} {S : Nat → Prop} (h : Rs w base u l) (hk : Kp S w w') (hS : ∀ k, u.ownBlock = some k → ¬ S k) : Rs w' base u l :=
  Rs.of (Kd.R_step h.tight (fun k h1 h2 => hk.block k h2 (hS k h1)))
theorem Rs.nil (w : World) (base : Nat) : Rs w base (.slice none 0 0) [] := Kd.R_nil _ _ _ _ _
theorem RdI.of_C {w : World} {A : Option Addr} {xs : List Int} (h : Kd.C (Kd.int .i64) w A xs.length xs) : RdI w .i64 A xs := by
  refine ⟨h.2.1, ?_⟩
  by_cases h0 : xs.length = 0
  · exact .inl h0
  · refine .inr ?_
    obtain ⟨ad, hA, h1⟩ := Kd.at_int h 0 (by omega) (by omega)
    have hsp : ad.spot = none := by
      have h2 : w.cell? (ad.add (0 : Int).toNat) ≠ none := by rw [h1]; simp
      obtain ⟨b, o, s⟩ := ad
      cases s with
      | none => rfl
      | some s => exact absurd h1 (by
          intro hc
          unfold Addr.add at hc
          unfold World.cell? at hc
          split at hc <;> simp_all)
    obtain ⟨b, o, s⟩ := ad
    simp at hsp
    subst hsp
    refine ⟨b, o, hA, fun j hj => ?_⟩
    obtain ⟨ad2, hA2, h3⟩ := Kd.at_int h (j : Int) (by omega) (by omega)
    rw [hA] at hA2
    obtain rfl := Option.some.inj hA2
    have e1 : (⟨b, o, none⟩ : Addr).add ((j : Int)).toNat = ⟨b, o + j, none⟩ := by unfold Addr.add; split <;> simp_all
    rw [e1] at h3
    rw [h3]
    simp [rd]
theorem Rs.read {w : World} {base : Nat} {u : Value} {l : List Int} (h : Rs w base u l) : ∃ A c, u = .slice A l.length c ∧ l.length ≤ c ∧ Kd.C (Kd.int .i64) w A l.length l ∧ RdI w .i64 A l := by
  obtain ⟨A, c, h1, h2, h3⟩ := Kd.R_reads h
  exact ⟨A, c, h1, h2, h3, RdI.of_C h3⟩

theorem kp_of_kept {b : Nat} {w0 w w' : World} {S : Nat → Prop} (h : Below b w0 w) (h' : Below b w0 w') (hk : Kept w w' S) : Kp S w w' :=
  ⟨h'.os.trans h.os.symm, h'.tape.trans h.tape.symm, h'.output.trans h.output.symm, hk.1, hk.2⟩

theorem fwrap_any (u : Value) (l : List Int) (e r : Int) (w0 w : World) (hB : Kp (fun _ => False) w0 w) (hR : Rs w w0.heap.size u l) (he : e ≠ 0) (hl : l.length ≤ 1000) :
    Calls Tryd.prog 33 #[.agg #[u, .int .i64 e], .int .i64 r] w fun ev w' => ∃ u', ev = .returned (.agg #[u', .int .i64 e]) ∧ Rs w' w0.heap.size u' (wrapR r l) ∧ Kp (fun k => u.ownBlock = some k) w w' := by
  refine (PWhyChains.vizardref02_Wrap.calls _ u l e r (wrapR r l) e w0 w hB.below hR.tight (wrap_f he hl)).mono ?_
  rintro ev w' ⟨u', h1, h2, h3, h4⟩
  exact ⟨u', h1, Rs.of h2, kp_of_kept hB.below h3 h4⟩
/-- What New tells. -/
def NewIs (w : World) (base : Nat) (r e : Int) (u : Value) (l : List Int) (f : Int) : Prop := Rs w base u l ∧ ((e = 0 ∨ knownR r = false) ∧ l = [] ∧ f = 0 ∨ e ≠ 0 ∧ knownR r = true ∧ l = [r] ∧ f = e)
theorem fnew_any (r e : Int) (w : World) :
    Calls Tryd.prog 34 #[.int .i64 r, .int .i64 e] w fun ev w' => ∃ u l f, ev = .returned (.agg #[u, .int .i64 f]) ∧ NewIs w' w.heap.size r e u l f ∧ Kp (fun _ => False) w w' := by
  by_cases h : e = 0 ∨ knownR r = false
  · refine (PWhyChains.vizardref02_New.calls r e [] 0 w (new_f_no h)).mono ?_
    rintro ev w' ⟨u, h1, h2, h3⟩
    exact ⟨u, [], 0, h1, ⟨Rs.of h2, .inl ⟨h, rfl, rfl⟩⟩, Kp.of_below h3 _⟩
  · have he : e ≠ 0 := fun hh => h (.inl hh)
    have hk : knownR r = true := by cases hk : knownR r with | true => rfl | false => exact absurd (.inr hk) h
    refine (PWhyChains.vizardref02_New.calls r e [r] e w (new_f_yes he hk)).mono ?_
    rintro ev w' ⟨u, h1, h2, h3⟩
    exact ⟨u, [r], e, h1, ⟨Rs.of h2, .inr ⟨he, hk, rfl, rfl⟩⟩, Kp.of_below h3 _⟩
end Go.Proofs.YtfhhmehlkjaibaaDoor
