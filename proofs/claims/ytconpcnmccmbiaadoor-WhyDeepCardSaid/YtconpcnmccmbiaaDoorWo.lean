/- The walk of WhyDeep. -/
import Derived.Test.YtconpcnmccmbiaaDoorWn
import Derived.IntWalk
namespace Go.Proofs.YtconpcnmccmbiaaDoor
open Go.RowKit Go.Proofs.YtconpcnmccmbiaaDoorW.PrintWords

/-- A slice of the call's own: its cells, its form. -/
def RdO (w : World) (A : Option Addr) (xs : List Int) (c : Nat) : Prop := RdI w .i64 A xs ∧ xs.length ≤ c ∧ c ≤ maxLen ∧ (xs.length = 0 ∨ ∃ b, A = some ⟨b, 0, none⟩ ∧ ∀ j, j < xs.length → w.cell? ⟨b, j, none⟩ = some (.int .i64 (xs.getD j 0)))
theorem wall_own (rs : List Int) (e : Int) (v : Value) (w : World) (hE : Et w) (hc : Chain w e rs v) (hl : rs.length ≤ 1000) :
    Calls Tryd.prog 33 #[v] w fun ev w' => ∃ A c, ev = .returned (.slice A rs.length c) ∧ RdO w' A rs c ∧ Kp (fun _ => False) w w' := by
  refine (wall_any rs e v w hE hc hl).mono ?_
  rintro ev w' ⟨u, rfl, h1, h2⟩
  obtain ⟨A, c, rfl, _, h3, _⟩ := RdI.of_own (k := .i64) (xs := rs) h1
  refine ⟨A, c, rfl, ⟨h3, ?_⟩, h2⟩
  rcases h1.2 with ⟨hv, h0⟩ | ⟨gg, cap, cur, hv, _, hh, h4, h5, _⟩
  · injection hv with q1 q2 q3
    subst q1 q3
    exact ⟨by omega, by unfold maxLen; omega, .inl h0⟩
  · injection hv with q1 q2 q3
    subst q1 q3
    refine ⟨by omega, by omega, ?_⟩
    rcases h3.2 with h | ⟨b, o, hA, hcc⟩
    · exact .inl h
    · cases hA
      exact .inr ⟨gg, rfl, fun j hj => by have := hcc j hj; rwa [Nat.zero_add] at this⟩
theorem RdI.tail {w : World} {b : Nat} {r : Int} {l : List Int} {c : Nat} (h : RdO w (some ⟨b, 0, none⟩) (r :: l) c) : RdI w .i64 (if c = 1 then some ⟨b, 0, none⟩ else some ⟨b, 1, none⟩) l := by
  obtain ⟨h1, h2, h3, h4⟩ := h
  have hlen : (r :: l).length = l.length + 1 := rfl
  refine ⟨by have := h1.1; omega, ?_⟩
  by_cases h0 : l.length = 0
  · exact .inl h0
  · refine .inr ⟨b, 1, by rw [if_neg (by omega)], fun j hj => ?_⟩
    rcases h4 with h4 | ⟨b', hb, h4⟩
    · omega
    · cases hb
      have := h4 (j + 1) (by omega)
      rw [Nat.add_comm 1 j, this]
      rfl

set_option maxRecDepth 100000 in
set_option maxHeartbeats 8000000 in
theorem deep_walk (e r : Int) (A : Option Addr) (c : Nat) (rs : List Int) (bare : Bool) (w : World) (hE : Et w) (hx : RdI w .i64 A rs) :
    Calls Tryd.prog 9 #[.int .i64 e, .slice A rs.length c, .bool bare, .int .i64 r] w fun ev w' => ev = .returned (.bool true) ∧ Kp (fun _ => False) w w' := by
  have HE := Lib.hid hE
  have Hx := Lib.hid hx
  have hxl := hx.1
  clear hE hx
  by_cases hl : (50 : Int) < (rs.length : Int)
  · go_enter Tryd.func9, Tryd.ntmps9
    go_wp2_with fail
    refine (alive02 _ HE.out).mono ?_
    rintro ev w1 ⟨rfl, k1⟩
    go_wp2_with fail
    go_ret
    exact ⟨rfl, k1⟩
  go_enter Tryd.func9, Tryd.ntmps9
  go_wp2_with fail
  refine (alive02 _ HE.out).mono ?_
  rintro ev w1 ⟨rfl, k1⟩
  have K1 := Lib.hid k1
  have Hx1 := Lib.hid (Hx.out.kp k1 (fun _ _ _ f => f))
  clear k1
  go_wp2_with fail
  refine (chain_any e A c rs bare _ Hx1.out (by omega)).mono ?_
  rintro ev w2 ⟨v, u, l, f, rfl, hal, k2⟩
  obtain ⟨hR, hll, hcase⟩ := hal
  obtain ⟨Au, cu, rfl, hcu, _, _⟩ := hR.read
  have kB := (Kp.refl (fun _ => False) w2).alloc (.cells #[.slice Au l.length cu, .int .i64 f] 52)
  have hvl : Vl (w2.alloc (.cells #[.slice Au l.length cu, .int .i64 f] 52)) f l v := Vl.kept (w := w2) hcase kB (fun _ _ _ f => f)
  have K2 := Lib.hid ((K1.out.trans' k2).trans' kB)
  have Hvl := Lib.hid hvl
  clear hR k2 kB hcase
  go_wp2_with fail
  rcases hvl with ⟨rfl, rfl, rfl⟩ | ⟨hne, hch⟩
  · refine (wrap_nil r _).mono ?_
    rintro ev w3 ⟨rfl, k3⟩
    have K3 := Lib.hid (K2.out.trans' k3)
    clear k3
    go_wp2_with fail
    refine (wall_nil _).mono ?_
    rintro ev w4 ⟨rfl, k4⟩
    have K4 := Lib.hid (K3.out.trans' k4)
    clear k4
    go_wp2_with fail
    go_ret
    exact ⟨rfl, K4.out⟩
  · have Hne := Lib.hid hne
    have Hch := Lib.hid hch
    have hv := hch.form
    clear hne hch
    refine (wrap_any r l f v _ Hch.out).mono ?_
    rintro ev w3 ⟨v3, rfl, hc3, k3⟩
    have hwl : (wrapR r l).length ≤ 1000 := by
      have := wrapF_len f r l
      unfold wrapF at this
      rw [if_neg Hne.out] at this
      omega
    have hv3 := hc3.form
    have HC3 := Lib.hid hc3
    have HL3 := Lib.hid (Hch.out.none_kept k3)
    have K3 := Lib.hid (K2.out.trans' k3)
    have E3 := Lib.hid (HE.out.kept K3.out (fun f => f))
    clear hc3 k3
    have hvn : ∃ t x, v = .iface t x := by rcases hv with ⟨x, rfl⟩ | ⟨x, rfl⟩ <;> exact ⟨_, x, rfl⟩
    have hvn3 : ∃ t x, v3 = .iface t x := by rcases hv3 with ⟨x, rfl⟩ | ⟨x, rfl⟩ <;> exact ⟨_, x, rfl⟩
    obtain ⟨t, x, rfl⟩ := hvn
    obtain ⟨t3, x3, rfl⟩ := hvn3
    clear hv hv3
    go_wp2_with fail
    refine (wall_own l f _ _ E3.out HL3.out (by omega)).mono ?_
    rintro ev w4 ⟨A4, c4, rfl, r4, k4⟩
    have HC4 := Lib.hid (HC3.out.none_kept k4)
    have HL4 := Lib.hid (HL3.out.none_kept k4)
    have K4 := Lib.hid (K3.out.trans' k4)
    have E4 := Lib.hid (HE.out.kept K4.out (fun f => f))
    have R4 := Lib.hid r4.1
    clear k4 r4
    go_wp2_with fail
    refine (wall_own (wrapR r l) f _ _ E4.out HC4.out hwl).mono ?_
    rintro ev w5 ⟨A5, c5, rfl, r5, k5⟩
    have HC5 := Lib.hid (HC4.out.none_kept k5)
    have HL5 := Lib.hid (HL4.out.none_kept k5)
    have K5 := Lib.hid (K4.out.trans' k5)
    have E5 := Lib.hid (HE.out.kept K5.out (fun f => f))
    have R45 := Lib.hid (R4.out.kp k5 (fun _ _ _ f => f))
    have R5 := Lib.hid r5
    clear k5 r5
    go_wp2_with fail
    refine (errno_any (wrapR r l) f _ _ E5.out HC5.out).mono ?_
    rintro ev w6 ⟨rfl, k6⟩
    have HL6 := Lib.hid (HL5.out.none_kept k6)
    have E6 := Lib.hid (E5.out.kept k6 (fun f => f))
    have HK6 := Lib.hid k6
    clear k6
    go_wp2_with fail
    refine (errno_any l f _ _ E6.out HL6.out).mono ?_
    rintro ev w7 ⟨rfl, k7⟩
    have HK7 := Lib.hid (HK6.out.trans' k7)
    clear k7
    go_wp2_with fail
    refine (word_any r _).mono ?_
    rintro ev w8 ⟨rfl, k8⟩
    have k8 := HK7.out.trans' k8
    have HL8 := Lib.hid (HL5.out.none_kept k8)
    have HC8 := Lib.hid (HC5.out.none_kept k8)
    have K8 := Lib.hid (K5.out.trans' k8)
    have E8 := Lib.hid (HE.out.kept K8.out (fun f => f))
    have R48 := Lib.hid (R45.out.kp k8 (fun _ _ _ f => f))
    have HK8 := Lib.hid k8
    clear k8
    obtain ⟨q, hq⟩ : ∃ q, knownR r = q := ⟨_, rfl⟩
    cases q with
    | false =>
      rw [wordB_none hq]
      have hwr : wrapR r l = l := by unfold wrapR; rw [hq]; rfl
      rw [hwr] at R5 HC8 ⊢
      have R58 := Lib.hid (R5.out.1.kp HK8.out (fun _ _ _ f => f))
      have Hq := Lib.hid hq
      clear hq hwr
      go_wp2_with fail
      refine (sameInts_id _ _ _ _ l _ R48.out R58.out).mono ?_
      rintro ev w9 ⟨rfl, k9⟩
      have HL9 := Lib.hid (HL8.out.none_kept k9)
      have HC9 := Lib.hid (HC8.out.none_kept k9)
      have K9 := Lib.hid (K8.out.trans' k9)
      have E9 := Lib.hid (HE.out.kept K9.out (fun f => f))
      clear k9
      go_wp2_with fail
      refine (wreason_any l f _ _ E9.out HC9.out).mono ?_
      rintro ev w10 ⟨rfl, k10⟩
      have HL10 := Lib.hid (HL9.out.none_kept k10)
      have K10 := Lib.hid (K9.out.trans' k10)
      have E10 := Lib.hid (HE.out.kept K10.out (fun f => f))
      clear k10
      go_wp2_with fail
      refine (wreason_any l f _ _ E10.out HL10.out).mono ?_
      rintro ev w11 ⟨rfl, k11⟩
      have K11 := Lib.hid (K10.out.trans' k11)
      clear k11
      go_wp2_with fail
      go_ret
      exact ⟨ret_bool (by simp), K11.out⟩
    | true =>
      have hwn : ((wordB r).toList == ([] : List UInt8)) = false := beq_eq_false_iff_ne.2 (wordB_known hq)
      generalize wordB r = W at hwn ⊢
      have hwr : wrapR r l = r :: l := by unfold wrapR; rw [hq]; rfl
      have hr5 := R5.out
      rw [hwr] at hr5 HC8 ⊢
      obtain ⟨s1, s2, s3, s4⟩ := hr5
      have hlc : (r :: l).length = l.length + 1 := rfl
      obtain ⟨b5, rfl, hcc⟩ : ∃ b, A5 = some ⟨b, 0, none⟩ ∧ ∀ j, j < (r :: l).length → w5.cell? ⟨b, j, none⟩ = some (.int .i64 ((r :: l).getD j 0)) := by
        rcases s4 with h | h
        · omega
        · exact h
      have hc0 : w5.cell? ⟨b5, 0, none⟩ = some (.int .i64 r) := hcc 0 (by omega)
      have hc08 := (HK8.out.cell (p := ⟨b5, 0, none⟩) (World.block_lt_of_cell? w5 _ hc0) (fun f => f)).trans hc0
      have htl : RdI w5 .i64 (if c5 = 1 then some ⟨b5, 0, none⟩ else some ⟨b5, 1, none⟩) l := RdI.tail ⟨s1, s2, s3, .inr ⟨b5, rfl, hcc⟩⟩
      obtain ⟨AD, hAD, htl2⟩ : ∃ AD, (if c5 = 1 then some (⟨b5, 0, none⟩ : Addr) else some ⟨b5, 1, none⟩) = AD ∧ RdI w5 .i64 AD l := ⟨_, rfl, htl⟩
      have RT := Lib.hid (htl2.kp HK8.out (fun _ _ _ f => f))
      have hq2 : l.length + 1 ≤ c5 := by omega
      have e1 : IntKind.i64.wrap ((l.length : Int) + 1) = (l.length : Int) + 1 := IntWalk.i64_in _ (by omega)
      have Hq := Lib.hid hq
      clear hq hwr s1 s2 s4 hcc hc0 htl htl2
      rw [hlc]
      go_wp2_with fail
      refine (sameInts_id AD A4 (c5 - 1) c4 l _ RT.out R48.out).mono ?_
      rintro ev w9 ⟨rfl, k9⟩
      have HL9 := Lib.hid (HL8.out.none_kept k9)
      have HC9 := Lib.hid (HC8.out.none_kept k9)
      have K9 := Lib.hid (K8.out.trans' k9)
      have E9 := Lib.hid (HE.out.kept K9.out (fun f => f))
      clear k9
      have hrr : reasonOf (r :: l) f = r := rfl
      have Hrr := Lib.hid hrr
      clear hrr
      go_wp2_with fail
      refine (wreason_any (r :: l) f _ _ E9.out HC9.out).mono ?_
      rw [Hrr.out]
      rintro ev w10 ⟨rfl, k10⟩
      have HL10 := Lib.hid (HL9.out.none_kept k10)
      have HC10 := Lib.hid (HC9.out.none_kept k10)
      have K10 := Lib.hid (K9.out.trans' k10)
      have E10 := Lib.hid (HE.out.kept K10.out (fun f => f))
      clear k10
      go_wp2_with fail
      refine (errno_any l f _ _ E10.out HL10.out).mono ?_
      rintro ev w11 ⟨rfl, k11⟩
      have HC11 := Lib.hid (HC10.out.none_kept k11)
      have K11 := Lib.hid (K10.out.trans' k11)
      clear k11
      go_wp2_with fail
      refine (whyIs_k (r :: l) f f _ _ HC11.out).mono ?_
      rw [show (f == f) = true from beq_self_eq_true f]
      rintro ev w12 ⟨rfl, k12⟩
      have K12 := Lib.hid (K11.out.trans' k12)
      clear k12
      go_wp2_with fail
      go_ret
      exact ⟨ret_bool (by simp), K12.out⟩
end Go.Proofs.YtconpcnmccmbiaaDoor
