/- why's small functions and the reference's: what the printed summaries say. -/
import Derived.Test.YtfhhmehlkjaibaaDoorWh
import Derived.Test.YtfhhmehlkjaibaaDoorPWhyChainsx2
namespace Go.Proofs.YtfhhmehlkjaibaaDoor
open Go.RowKit Go.Proofs.YtfhhmehlkjaibaaDoorW.PrintWords

/-- The reason of an error of api's. -/
def ofE (e : Int) : Int := (PWhyChains.why_Of.f e).getD 0
theorem of_f (e : Int) : PWhyChains.why_Of.f e = some (ofE e) := by
  unfold ofE PWhyChains.why_Of.f
  repeat' split
  all_goals rfl
theorem rof_f (e : Int) : PWhyChains.vizardref02_Of.f e = some (ofE e) := by rw [← of_f]; rfl
theorem known_iff (r : Int) : knownR r = true ↔ 1 ≤ r ∧ r < 20 := by unfold knownR; exact decide_eq_true_iff
theorem known_no {r : Int} (h : knownR r = false) : ¬ (1 ≤ r ∧ r < 20) := fun hh => by rw [(known_iff r).2 hh] at h; cases h
theorem known_cases {r : Int} (h : knownR r = true) : r = 1 ∨ r = 2 ∨ r = 3 ∨ r = 4 ∨ r = 5 ∨ r = 6 ∨ r = 7 ∨ r = 8 ∨ r = 9 ∨ r = 10 ∨ r = 11 ∨ r = 12 ∨ r = 13 ∨ r = 14 ∨ r = 15 ∨ r = 16 ∨ r = 17 ∨ r = 18 ∨ r = 19 := by
  have := (known_iff r).1 h
  omega
/-- A reason's word. -/
def wordB (r : Int) : ByteArray := (PWhyChains.vizardref02_Word.f r).getD ByteArray.empty
theorem rword_f (r : Int) : PWhyChains.vizardref02_Word.f r = some (wordB r) := by
  cases h : knownR r with
  | true => rcases known_cases h with rfl | rfl | rfl | rfl | rfl | rfl | rfl | rfl | rfl | rfl | rfl | rfl | rfl | rfl | rfl | rfl | rfl | rfl | rfl <;> rfl
  | false =>
    have h1 := known_no h
    unfold wordB PWhyChains.vizardref02_Word.f
    by_cases h2 : r < 1
    · rw [if_pos h2]; rfl
    · rw [if_neg h2, if_pos (by omega)]; rfl
theorem word_f (r : Int) : PWhyChains.why_Word.f r = some (wordB r) := by
  cases h : knownR r with
  | true => rcases known_cases h with rfl | rfl | rfl | rfl | rfl | rfl | rfl | rfl | rfl | rfl | rfl | rfl | rfl | rfl | rfl | rfl | rfl | rfl | rfl <;> rfl
  | false =>
    have h1 := known_no h
    unfold wordB PWhyChains.vizardref02_Word.f PWhyChains.why_Word.f PWhyChains.why_known.f
    by_cases h2 : r < 1
    · rw [if_pos h2, if_neg (by omega)]; rfl
    · rw [if_neg h2, if_pos (by omega : r > 19), if_pos (by omega), decide_eq_false (by omega : ¬ r < 20)]; rfl
theorem wordB_known {r : Int} (h : knownR r = true) : (wordB r).toList ≠ [] := by
  rcases known_cases h with rfl | rfl | rfl | rfl | rfl | rfl | rfl | rfl | rfl | rfl | rfl | rfl | rfl | rfl | rfl | rfl | rfl | rfl | rfl <;> decide +kernel
theorem wordB_none {r : Int} (h : knownR r = false) : wordB r = ⟨#[]⟩ := by
  have h1 := known_no h
  unfold wordB PWhyChains.vizardref02_Word.f
  by_cases h2 : r < 1
  · rw [if_pos h2]; rfl
  · rw [if_neg h2, if_pos (by omega)]; rfl
theorem new_f_yes {r e : Int} (he : e ≠ 0) (h : knownR r = true) : PWhyChains.vizardref02_New.f r e = some ([r], e) := by
  unfold PWhyChains.vizardref02_New.f
  rw [if_neg he, rword_f]
  exact if_neg (wordB_known h)
theorem new_f_no {r e : Int} (h : e = 0 ∨ knownR r = false) : PWhyChains.vizardref02_New.f r e = some ([], 0) := by
  unfold PWhyChains.vizardref02_New.f
  by_cases he : e = 0
  · rw [if_pos he]
  · have hk : knownR r = false := by rcases h with h | h; exact absurd h he; exact h
    rw [if_neg he, rword_f]
    refine if_pos ?_
    rw [wordB_none hk]
    decide +kernel
theorem wrap_f {l : List Int} {r e : Int} (he : e ≠ 0) (hl : l.length ≤ 1000) : PWhyChains.vizardref02_Wrap.f l e r = some (wrapR r l, e) := by
  unfold PWhyChains.vizardref02_Wrap.f wrapR
  rw [if_neg he, rword_f]
  cases h : knownR r with
  | true => exact (if_neg (wordB_known h)).trans (if_pos (by simp; omega))
  | false => exact if_pos (by rw [wordB_none h]; decide +kernel)
/-- The outermost reason. -/
def reasonOf (l : List Int) (e : Int) : Int := match l with | [] => ofE e | r :: _ => r
theorem reason_f (l : List Int) (e : Int) : PWhyChains.vizardref02_Reason.f l e = some (reasonOf l e) := by
  unfold PWhyChains.vizardref02_Reason.f
  cases l with
  | nil => rw [if_neg (by simp), rof_f]; rfl
  | cons r l => rw [if_pos (by simp), if_pos (by simp)]; rfl

theorem of_any (e : Int) (w : World) : Calls Tryd.prog 37 #[.int .i64 e] w fun ev w' => ev = .returned (.int .i64 (ofE e)) ∧ Kp (fun _ => False) w w' :=
  (PWhyChains.why_Of.calls e (ofE e) w (of_f e)).mono fun _ _ ⟨h1, h2⟩ => ⟨h1, by obtain ⟨n, rfl⟩ := h2; exact (Kp.refl _ _).drewN n⟩
theorem freason_any (A : Option Addr) (c : Nat) (l : List Int) (e : Int) (w : World) (h : Kd.C (Kd.int .i64) w A l.length l) (hc : l.length ≤ c) :
    Calls Tryd.prog 15 #[.agg #[.slice A l.length c, .int .i64 e]] w fun ev w' => ev = .returned (.int .i64 (reasonOf l e)) ∧ Kp (fun _ => False) w w' :=
  (PWhyChains.vizardref02_Reason.calls A c l e (reasonOf l e) w h hc (reason_f l e)).mono fun _ _ ⟨h1, h2⟩ => ⟨h1, Kp.of_below h2 _⟩

set_option maxRecDepth 100000 in
set_option maxHeartbeats 1000000 in
/-- why.Reason of an error. -/
theorem wreason_any (rs : List Int) (e : Int) (v : Value) (w : World) (hE : Et w) (hc : Chain w e rs v) :
    Calls Tryd.prog 14 #[v] w fun ev w' => ev = .returned (.int .i64 (reasonOf rs e)) ∧ Kp (fun _ => False) w w' := by
  have kA := (Kp.refl (fun _ => False) w).alloc (.cells #[.pointer none] 73)
  have HE := Lib.hid (hE.kept kA (fun f => f))
  have HC := Lib.hid (hc.none_kept kA)
  have HB := Lib.hid (Bk.new w 73 #[.pointer none])
  have HK := Lib.hid kA
  clear hE kA
  cases rs with
  | nil =>
    obtain rfl := hc
    go_enter Tryd.func14, Tryd.ntmps14
    go_wp2_with fail
    refine (asFault_no w.heap.size e _ HE.out).mono ?_
    rintro ev w1 ⟨rfl, k1⟩
    have K1 := Lib.hid (HK.out.trans' k1)
    have E1 := Lib.hid (HE.out.kept k1 (fun f => f))
    clear k1
    go_wp2_with fail
    refine (errno_any [] e _ _ E1.out rfl).mono ?_
    rintro ev w2 ⟨rfl, k2⟩
    have K2 := Lib.hid (K1.out.trans' k2)
    clear k2
    go_wp2_with fail
    refine (of_any e _).mono ?_
    rintro ev w3 ⟨rfl, k3⟩
    have K3 := Lib.hid (K2.out.trans' k3)
    clear k3
    go_wp2_with fail
    go_ret
    exact ⟨rfl, K3.out⟩
  | cons r rs =>
    obtain ⟨g, v', rfl, hb, _⟩ := hc
    have Hb := Lib.hid hb
    have HGB := Lib.hid (hb.kept HK.out (fun f => f))
    clear hb
    go_enter Tryd.func14, Tryd.ntmps14
    go_wp2_with fail
    refine (asFault_hit g w.heap.size _ _ HE.out HB.out).mono ?_
    rintro ev w1 ⟨rfl, b1, k1⟩
    have c1 := b1.cell 0
    have hb1 := HGB.out.kept k1 (fun h => by have := Hb.out.lt; omega)
    have d0 := hb1.cell 0
    have K1 := Lib.hid (HK.out.trans k1 (fun k hk h => by omega))
    clear k1 b1 hb1
    go_wp2_with fail
    go_ret
    exact ⟨rfl, K1.out⟩
end Go.Proofs.YtfhhmehlkjaibaaDoor
