/- Wheel's reference: Cancel. -/
import Derived.Test.YtdakkmaahgcjfaaDoorWib
import Derived.Deep.RegionHeld3
import Derived.IntWalk
import Derived.Deep.RegionLaw
set_option linter.unusedVariables false
set_option linter.unusedSimpArgs false
namespace Go.Proofs.YtdakkmaahgcjfaaDoor
open Go.RowKit

/-- append to a row of the call's own, as a step of a region that draws. -/
theorem step_app {P : Program} {w : World} {ops : Array Oper} {o : Oper} {a : Act} {K : Act → World → Prop} {Q : Exit → Act → World → Prop} {E : Prop} (hgd : o.guard = none) (s x : Operand) (t : TypeId)
    (ho : o.op = .call { callee := .builtin .append, args := #[s, x], argTypes := #[t, t] })
    (base : Nat) (e : TypeId) (i : TypeInfo) (z : Value) (size bytes : Nat) (ht : P.underlying t = some (.slice e)) (hi : P.info? e = some i) (hz : i.zero = some z)
    (hsize : i.size = size) (hby : i.bytes = bytes) (hzs : z.cells.size = size) (hsz : 0 < size)
    (v : Value) (n : Nat) (xs : List Value) (hs : a.eval s = v) (hown : w.ownsRow base e size v n xs)
    (ad : Addr) (m c : Nat) (news : List Value) (hx : a.eval x = .slice (some ad) m c) (hl : news.length = m * size) (hnews : ∀ j u, news[j]? = some u → w.cell? (ad.add j) = some u) (h1 : ∀ u ∈ news, u.oneCell' = true)
    (h63 : n + m ≤ maxLen) (hbytes : (n + m) * bytes ≤ 140737488355328) (hbase : base ≤ w.heap.size)
    (h : ∀ v' w', w'.ownsRow base e size v' (n + m) (xs ++ news) → w.grownBy w' v.ownBlock → (v' = .slice none 0 0 ↔ v = .slice none 0 0 ∧ m = 0) → K (a.put o.dst v') w') :
    if Region.wanted o (yielded ops a.tmps) = true then Oper.wp P o a w K Q else E := by
  have hw : Region.wanted o (yielded ops a.tmps) = true := by simp [Region.wanted, hgd]
  rw [if_pos hw]
  exact wp_append_own w s x t ho base e i z size bytes ht hi hz hsize hby hzs hsz v n xs hs hown ad m c news hx hl hnews h1 h63 hbytes hbase h
theorem own_form {w : World} {base : Nat} {e : TypeId} {size : Nat} {v : Value} {n : Nat} {xs : List Value} (h : w.ownsRow base e size v n xs) (hn : v ≠ .slice none 0 0) : ∃ g cap, v = .slice (some ⟨g, 0, none⟩) n cap ∧ base ≤ g := by
  rcases h.2 with ⟨h0, _⟩ | ⟨g, cap, cur, hv, hb, _⟩
  · exact absurd h0 hn
  · exact ⟨g, cap, hv, hb⟩
theorem info73 : ∃ i, Tryd.prog.info? 73 = some i ∧ i.zero = some (.agg #[.int .i64 0, .int .u64 0]) ∧ i.size = 2 ∧ i.bytes = 16 := by
  have h : (Tryd.prog.info? 73).map (fun i => (i.zero, i.size, i.bytes)) = some (some (.agg #[.int .i64 0, .int .u64 0]), 2, 16) := by kernel_rfl
  rcases hi : Tryd.prog.info? 73 with _ | i
  · rw [hi] at h; cases h
  · rw [hi] at h
    simp only [Option.map_some, Option.some.injEq, Prod.mk.injEq] at h
    exact ⟨i, rfl, h.1, h.2.1, h.2.2⟩
theorem add_at (b i j : Nat) : (⟨b, i, none⟩ : Addr).add j = ⟨b, i + j, none⟩ := by unfold Addr.add; split <;> simp_all
/-- A reference wheel whose rows are cut. -/
def rCut (R : List (Int × Nat)) (i : Nat) : List (Int × Nat) := R.take i ++ R.drop (i + 1)
theorem rcancel_post {w w2 : World} {g now i gb cap : Nat} {R : List (Int × Nat)} (h : RW w g now R) (hi : i < R.length) (k2 : Kp (fun _ => False) w w2) (ho : w2.ownsRow w.heap.size 73 2 (.slice (some ⟨gb, 0, none⟩) (i + (R.length - (i + 1))) cap) (i + (R.length - (i + 1))) ([] ++ rowsC (R.take i) ++ rowsC (R.drop (i + 1)))) (hg : w.heap.size ≤ gb) :
    RW (w2.setCell ⟨g, 1, none⟩ (.slice (some ⟨gb, 0, none⟩) (i + (R.length - (i + 1))) cap)) g now (rCut R i) ∧ Kp (fun b => b = g) w (w2.setCell ⟨g, 1, none⟩ (.slice (some ⟨gb, 0, none⟩) (i + (R.length - (i + 1))) cap)) := by
  obtain ⟨v, hb, _⟩ := h
  have hb2 := (hb.kept k2 (fun f => f)).put 1 (.slice (some ⟨gb, 0, none⟩) (i + (R.length - (i + 1))) cap)
  have hll : i + (R.length - (i + 1)) = (rCut R i).length := by unfold rCut; rw [List.length_append, List.length_take, List.length_drop]; omega
  have hk : Kp (fun b => b = g) w2 (w2.setCell ⟨g, 1, none⟩ (.slice (some ⟨gb, 0, none⟩) (i + (R.length - (i + 1))) cap)) := (Kp.refl (fun b => b = g) w2).setCell (p := ⟨g, 1, none⟩) (.inl rfl) _
  have hgl := hb.lt
  refine ⟨⟨_, hb2, ?_⟩, (k2.mono (fun _ f => f.elim)).trans' hk⟩
  have ho2 := own_kp ho hk (by
    intro k hk' e
    obtain rfl : gb = k := Option.some.inj hk'
    have e : gb = g := e
    omega)
  rw [List.nil_append, ← rowsC_append] at ho2
  rw [hll] at ho2 ⊢
  exact own_base ho2 (Nat.zero_le _)
set_option maxRecDepth 1000000 in
set_option maxHeartbeats 8000000 in
theorem rcancel_none (g now : Nat) (R : List (Int × Nat)) (t : Int) (w : World) (h : RW w g now R) (hl : R.length ≤ 1000000) (hf : rFind R t = none) :
    Calls Tryd.prog 25 #[.pointer (some ⟨g, 0, none⟩), .int .i64 t] w fun ev w' => ev = .returned (.bool false) ∧ w' = w := by
  have hc := rfind g now R t w h hl
  unfold rFindI at hc
  rw [hf] at hc
  clear h
  go_enter Tryd.func25, Tryd.ntmps25
  go_wp2_with fail
  refine hc.mono ?_
  rintro ev w1 ⟨rfl, rfl⟩
  go_wp2_with fail
  exact bodyPost_ret (results_tmp rfl _ _ _) rfl ⟨rfl, rfl⟩
attribute [local go_sem ↓] Go.wp_at_zero Go.wp_at_succ
set_option maxRecDepth 1000000 in
set_option maxHeartbeats 8000000 in
theorem rcancel_some (g now i : Nat) (R : List (Int × Nat)) (t : Int) (w : World) (h : RW w g now R) (hl : R.length ≤ 1000000) (hf : rFind R t = some i) :
    Calls Tryd.prog 25 #[.pointer (some ⟨g, 0, none⟩), .int .i64 t] w fun ev w' => ev = .returned (.bool true) ∧ RW w' g now (rCut R i) ∧ Kp (fun b => b = g) w w' := by
  have hc := rfind g now R t w h hl
  unfold rFindI at hc
  rw [hf] at hc
  have hi : i < R.length := (List.findIdx?_eq_some_iff_getElem.1 hf).1
  obtain ⟨i0, hi0, hz0, hz1, hz2⟩ := info73
  have H := Lib.hid h
  obtain ⟨v, hb, ho⟩ := h
  rcases ho.2 with ⟨_, hl0⟩ | ⟨b, cap, cur, rfl, _, hgb, r1, r2, r3, r4⟩
  · omega
  have hbk : Bk w b 73 cur := hgb
  have c1 : w.cell? ⟨g, 1, none⟩ = some (.slice (some ⟨b, 0, none⟩) R.length cap) := hb.cell 1
  have fr : w.frozen? ⟨g, 1, none⟩ = false := hb.frozen 1
  have hgl := hb.lt
  have hK : ∀ (W : World), Kp (fun _ => False) w W → ∀ j u, (rowsC R)[j]? = some u → W.cell? ⟨b, j, none⟩ = some u := by
    intro W hW j u hu
    have hlt := (List.getElem?_eq_some_iff.1 hu).1
    rw [rowsC_len] at hlt
    rw [← r4, List.getElem?_take_of_lt hlt, Array.getElem?_toList] at hu
    exact kp_kc0 ((hbk.cell j).trans hu) hW
  have hn1 : ∀ (W : World), Kp (fun _ => False) w W → ∀ j u, (rowsC (R.take i))[j]? = some u → W.cell? ((⟨b, 0, none⟩ : Addr).add j) = some u := by
    intro W hW j u hu
    rw [add_at, Nat.zero_add]
    refine hK W hW j u ?_
    rw [rowsC_take] at hu
    have hlt := (List.getElem?_eq_some_iff.1 hu).1
    rw [List.length_take] at hlt
    rwa [List.getElem?_take_of_lt (by omega)] at hu
  have hn2 : ∀ (W : World), Kp (fun _ => False) w W → ∀ j u, (rowsC (R.drop (i + 1)))[j]? = some u → W.cell? ((⟨b, (i + 1) * 2, none⟩ : Addr).add j) = some u := by
    intro W hW j u hu
    rw [add_at]
    refine hK W hW _ u ?_
    rw [rowsC_drop, List.getElem?_drop] at hu
    rwa [show 2 * (i + 1) = (i + 1) * 2 by omega] at hu
  have Hn1 := Lib.hid hn1
  have Hown0 := Lib.hid (World.ownsRow_made w (base := w.heap.size) (e := 73) (size := 2) #[] 0 (Nat.le_refl _) (by unfold maxLen; omega) rfl)
  have HK0 := Lib.hid (show Kp (fun _ => False) w ((w.alloc (.cells #[] 73)).drew) from ((Kp.refl _ _).alloc _).drew)
  obtain ⟨AD, hAD, hADn⟩ : ∃ AD : Addr, (if cap = i + 1 then some (⟨b, 0, none⟩ : Addr) else some ⟨b, (i + 1) * 2, none⟩) = some AD ∧ ∀ (W : World), Kp (fun _ => False) w W → ∀ j u, (rowsC (R.drop (i + 1)))[j]? = some u → W.cell? (AD.add j) = some u := by
    by_cases hcj2 : cap = i + 1
    · refine ⟨⟨b, 0, none⟩, by rw [if_pos hcj2], fun W _ j u hu => ?_⟩
      rw [List.drop_eq_nil_of_le (by omega)] at hu
      simp [rowsC] at hu
    · exact ⟨⟨b, (i + 1) * 2, none⟩, by rw [if_neg hcj2], hn2⟩
  have HAD := Lib.hid hADn
  have Hl5 := Lib.hid (show (rowsC (R.take i)).length = i * 2 by rw [rowsC_len, List.length_take, Nat.min_eq_left (by omega)])
  have Hl6 := Lib.hid (show (rowsC (R.drop (i + 1))).length = (R.length - (i + 1)) * 2 by rw [rowsC_len, List.length_drop])
  have m1 : 0 + i ≤ maxLen := by unfold maxLen; omega
  have m2 : (0 + i) * 16 ≤ 140737488355328 := by omega
  have m3 : (i : Nat) + (R.length - (i + 1)) ≤ maxLen := by unfold maxLen; omega
  have m4 : ((i : Nat) + (R.length - (i + 1))) * 16 ≤ 140737488355328 := by omega
  have i1 : (0 : Int) ≤ (i : Int) := by omega
  have i2 : (i : Int) < (R.length : Int) := by omega
  have i3 : ¬ (i : Int) < 0 := by omega
  have i4 : (R.length : Int) ≤ (cap : Int) := by omega
  have i5 : (R.length : Int) ≤ 1000000 := by omega
  have i6 : (i : Int) ≤ (cap : Int) := by omega
  have i7 : (i : Int) + 1 ≤ (R.length : Int) := by omega
  have i8 : (0 : Int) ≤ (i : Int) + 1 := by omega
  have j7 : IntKind.i64.wrap ((i : Int) + 1) = (i : Int) + 1 := IntWalk.i64_in _ (by omega)
  have j8 : ((i : Int) + 1).toNat = i + 1 := by omega
  have hb73 : Bk w b 73 cur := hgb
  clear hb ho hgb hbk hK hn1 hn2 hADn hb73 r2 r3 r4 hl hf
  go_enter Tryd.func25, Tryd.ntmps25
  go_wp2_with fail
  refine hc.mono ?_
  rintro ev w1 ⟨rfl, rfl⟩
  go_wp2_with fail
  go_region_law
    (first
      | ((refine step_app (by rfl) (.tmp 12) (.tmp 18) _ (by rfl) w1.heap.size 73 i0 _ 2 16 Tryd.underlying69 hi0 hz0 hz1 hz2 rfl (by decide) (.slice (some ⟨w1.heap.size, 0, none⟩) 0 0) 0 [] (by rfl) Hown0.out.drew ⟨b, 0, none⟩ i cap (rowsC (R.take i)) (by rfl) Hl5.out (Hn1.out _ HK0.out) (rowsC_one _) m1 m2 (by simp) ?_
          intro v1 w2 hown1 hgrow1 hnil1
          have k1 := HK0.out.grown hgrow1 (fun i hi => .inr (Hown0.out.lt i hi).1)
          have c3a := (k1.cell (p := ⟨g, 1, none⟩) hgl (fun f => f)).trans c1
          have hs1 := k1.size
          have Hk1 := Lib.hid k1
          have Hown1 := Lib.hid hown1
          have Hnil1 := Lib.hid hnil1
          clear k1 hown1 hgrow1 hnil1))
      | ((refine step_app (by rfl) (.tmp 19) (.tmp 26) _ (by rfl) w1.heap.size 73 i0 _ 2 16 Tryd.underlying69 hi0 hz0 hz1 hz2 rfl (by decide) v1 (0 + i) ([] ++ rowsC (R.take i)) (by rfl) Hown1.out AD (R.length - (i + 1)) (cap - (i + 1)) (rowsC (R.drop (i + 1))) (by rfl) Hl6.out (HAD.out _ Hk1.out) (rowsC_one _) (by rw [Nat.zero_add]; exact m3) (by rw [Nat.zero_add]; exact m4) hs1 ?_
          intro v2 w3 hown2 hgrow2 hnil2
          have k2 := Hk1.out.grown hgrow2 (fun i hi => .inr (Hown1.out.lt i hi).1)
          have c3b := (k2.cell (p := ⟨g, 1, none⟩) hgl (fun f => f)).trans c1
          have f3b := (k2.frozen (p := ⟨g, 1, none⟩) hgl (fun f => f)).trans fr
          obtain ⟨g', cap2, hv, hbg⟩ := own_form hown2 (fun e => by have := (Hnil1.out.1 (hnil2.1 e).1).1; cases this)
          rw [hv] at hown2 ⊢
          have Hk2 := Lib.hid k2
          have Hown2 := Lib.hid hown2
          clear k2 hown2 hgrow2 hnil2 hv))
      | fail)
  all_goals
    clear j7 j8
    have POST := Lib.hid (rcancel_post H.out hi Hk2.out (by have q := Hown2.out; rw [Nat.zero_add] at q; exact q) hbg)
    generalize w3.setCell ⟨g, 1, none⟩ (.slice (some ⟨g', 0, none⟩) (i + (R.length - (i + 1))) cap2) = w9 at *
    go_wp2_with fail
    exact bodyPost_ret (results_tmp rfl _ _ _) rfl ⟨rfl, POST.out.1, POST.out.2⟩
end Go.Proofs.YtdakkmaahgcjfaaDoor
