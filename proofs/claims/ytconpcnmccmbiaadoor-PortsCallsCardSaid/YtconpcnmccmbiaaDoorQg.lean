/- The reference's Copy. -/
import Derived.Test.YtconpcnmccmbiaaDoorQf
import Derived.Deep.RegionHeld3
namespace Go.Proofs.YtconpcnmccmbiaaDoor
open Go.RowKit
attribute [local go_sem ↓] Go.wp_at_zero Go.wp_at_succ

/-- append of nil to a row of the call's own, as a step of a region that draws. -/
theorem step_app_nil {P : Program} {w : World} {ops : Array Oper} {o : Oper} {a : Act} {K : Act → World → Prop} {Q : Exit → Act → World → Prop} {E : Prop} (hgd : o.guard = none) (s x : Operand) (t : TypeId)
    (ho : o.op = .call { callee := .builtin .append, args := #[s, x], argTypes := #[t, t] }) (e : TypeId) (i : TypeInfo) (ht : P.underlying t = some (.slice e)) (hi : P.info? e = some i)
    (g cap : Nat) (hs : a.eval s = .slice (some ⟨g, 0, none⟩) 0 cap) (c : Nat) (hx : a.eval x = .slice none 0 c)
    (h : K (a.put o.dst (.slice (some ⟨g, 0, none⟩) 0 cap)) w) :
    if Region.wanted o (yielded ops a.tmps) = true then Oper.wp P o a w K Q else E := by
  have hw : Region.wanted o (yielded ops a.tmps) = true := by simp [Region.wanted, hgd]
  rw [if_pos hw]
  have hrun : (Builtin.append_ #[t, t] o.type #[.slice (some ⟨g, 0, none⟩) 0 cap, .slice none 0 c]).run P w = .ok (.slice (some ⟨g, 0, none⟩) 0 cap) w := by
    simp [Builtin.append_, run_underlying ht, sizeOf, typeInfo, hi, Builtin.lenOf, Builtin.firstCells, storeCells]
  unfold Oper.wp execOp
  simp only [ho, resolve, invoke, builtin, Sem.run_bind, Sem.run_pure, Result.andThen_ok, List.map_toArray, List.map_cons, List.map_nil, hs, hx, hrun]
  exact h

/-- A range's row: nil, or at the head of a block. -/
theorem Ref.head {w : World} {g l m mk : Nat} {o : Option Nat} {T : Nat → Bool} (h : Ref w g o l m mk T) {A : Option Addr} {n c : Nat} (hc : w.cell? ⟨g, 3, none⟩ = some (.slice A n c)) : A = none ∨ ∃ b, A = some ⟨b, 0, none⟩ := by
  obtain ⟨v, a, _, c', _⟩ := h
  rw [a.cell 3] at hc
  have hv : v = .slice A n c := by simpa using hc
  rcases c'.2 with ⟨h1, _⟩ | ⟨gg, cap, cur, h1, _⟩
  · rw [h1] at hv; injection hv with e1; exact .inl e1.symm
  · rw [h1] at hv; injection hv with e1; exact .inr ⟨gg, e1.symm⟩

/-- A new struct over a row of the call's own: the reference's range anew. -/
theorem Ref.copied {w w1 : World} {g l m mk : Nat} {o : Option Nat} {T : Nat → Bool} (h : Ref w g o l m mk T) (hk : Kp (fun _ => False) w w1) {v : Value} (hown : w1.ownsRow w.heap.size 3 1 v (takenL T l m).length (ints (takenL T l m))) (h2 : 2 ≤ w.heap.size) :
    (∃ o', Ref (w1.alloc (.cells #[.int .i64 l, .int .i64 ((l : Int) + m - 1), .int .i64 ((l : Int) + mk), v] 103)) w1.heap.size o' l m mk T ∧ ∀ j, o' = some j → w.heap.size ≤ j) ∧ w.heap.size ≤ w1.heap.size := by
  obtain ⟨v0, a, b, c, d1, d2, d3, d4, d5⟩ := h
  refine ⟨⟨v.ownBlock, ⟨v, Bk.new _ _ _, rfl, own_mono' (hown.alloc _) h2, d1, d2, d3, d4, by have := hk.size; omega⟩, fun j hj => (hown.lt j hj).1⟩, hk.size⟩

set_option maxRecDepth 100000 in
set_option maxHeartbeats 2000000 in
theorem rcopy_any (g l m mk : Nat) (o : Option Nat) (T : Nat → Bool) (w : World) (h : Ref w g o l m mk T) :
    Calls Tryd.prog 23 #[.pointer (some ⟨g, 0, none⟩)] w fun e w' => ∃ g2, e = .returned (.pointer (some ⟨g2, 0, none⟩)) ∧ (∃ o', Ref w' g2 o' l m mk T ∧ ∀ j, o' = some j → w.heap.size ≤ j) ∧ w.heap.size ≤ g2 ∧ Kp (fun _ => False) w w' := by
  have hlt := h.lt
  obtain ⟨i0, hi0, hz0, hz1, hz2⟩ := info_parts intInfo
  obtain ⟨c0, c1, c2, _, _, A, c, c3, hrd, hl1, hl2, hl3, hA0⟩ := h.cells
  have hb := h
  obtain ⟨_, _, _, _, b1, b2, b3, b4, b5⟩ := hb
  have h2s : 2 ≤ w.heap.size := by omega
  have hhead := h.head c3
  have hown0 := World.ownsRow_made w (base := w.heap.size) (e := 3) (size := 1) #[] 0 (Nat.le_refl _) (by unfold maxLen; omega) rfl
  have Hown0 := Lib.hid hown0
  have H := Lib.hid h
  have K0 : Kp (fun _ => False) w ((w.alloc (.cells #[] 3)).drew) := ((Kp.refl _ _).alloc _).drew
  have HK0 := Lib.hid K0
  generalize hxs : takenL T l m = xs at c3 hrd hl1 hl2
  have Hxs := Lib.hid hxs
  have Hrd := Lib.hid hrd
  generalize hq : (l : Int) + m - 1 = q at c1
  generalize hq2 : (l : Int) + mk = q2 at c2
  have Hq := Lib.hid hq
  have Hq2 := Lib.hid hq2
  clear hown0 h K0 hxs hrd hA0 hq hq2
  have hsrc : A = none ∧ xs.length = 0 ∨ ∃ b o', A = some ⟨b, o', none⟩ ∧ ∀ j, j < xs.length → w.cell? ⟨b, o' + j, none⟩ = some (.int .i64 (xs.getD j 0)) := by
    rcases Hrd.out.2 with h0 | h0
    · rcases hhead with h1 | ⟨b, h1⟩
      · exact .inl ⟨h1, h0⟩
      · exact .inr ⟨b, 0, h1, fun j hj => by omega⟩
    · exact .inr h0
  clear hhead
  rcases hsrc with ⟨rfl, h0⟩ | ⟨b, o', rfl, hc⟩
  · have hxe : xs = [] := List.eq_nil_of_length_eq_zero h0
    have Hxe := Lib.hid hxe
    rw [h0] at c3
    clear hxe h0 hl1 hl2
    go_enter Tryd.func23, Tryd.ntmps23
    go_wp2_with fail
    go_region_held3 (fun w' => w'.cell? ⟨g, 0, none⟩ = some (.int .i64 l) ∧ w'.cell? ⟨g, 1, none⟩ = some (.int .i64 q) ∧ w'.cell? ⟨g, 2, none⟩ = some (.int .i64 q2) ∧ w'.cell? ⟨g, 3, none⟩ = some (.slice none 0 c))
      (first | go_keep | fail)
      (first
        | (refine step_app_nil (by rfl) (.tmp 15) (.tmp 19) _ (by rfl) 3 i0 Tryd.underlying45 hi0 w.heap.size 0 (by rfl) c (by rfl) ?_)
        | fail)
    go_wp2_with fail
    go_ret
    have hown2 : (w.alloc (.cells #[] 3)).ownsRow w.heap.size 3 1 (.slice (some ⟨w.heap.size, 0, none⟩) 0 0) (takenL T l m).length (ints (takenL T l m)) := by
      rw [Hxs.out, Hxe.out]
      exact Hown0.out
    obtain ⟨q3, q4⟩ := H.out.copied ((Kp.refl (fun _ => False) w).alloc _) hown2 h2s
    rw [Hq.out, Hq2.out] at q3
    obtain ⟨o', q5, q6⟩ := q3
    have hsz : (w.alloc (.cells #[] 3)).heap.size = w.heap.size + 1 := by simp
    rw [hsz] at q5
    exact ⟨_, rfl, ⟨o', q5, q6⟩, by omega, (((Kp.refl (fun _ => False) w).alloc _).alloc _).drew⟩
  · have hn1 : ∀ (W : World), Kp (fun _ => False) w W → ∀ i u, (ints xs)[i]? = some u → W.cell? ((⟨b, o', none⟩ : Addr).add i) = some u := by
      intro W hW i u hu
      have hi : i < xs.length := by have := (List.getElem?_eq_some_iff.1 hu).1; simpa [ints] using this
      have h1 := hc i hi
      have e1 : (⟨b, o', none⟩ : Addr).add i = ⟨b, o' + i, none⟩ := by unfold Addr.add; split <;> simp_all
      rw [e1, hW.cell (p := ⟨b, o' + i, none⟩) (by have := World.block_lt_of_cell? w _ h1; exact this) (fun f => f), h1, ← hu]
      simp [ints, hi]
    have Hn1 := Lib.hid hn1
    have hlx : (ints xs).length = xs.length := by simp [ints]
    have Hlx := Lib.hid hlx
    have m1 : 0 + xs.length ≤ maxLen := by unfold maxLen; omega
    have m2 : (0 + xs.length) * 8 ≤ 140737488355328 := by omega
    clear hn1 hlx hc
    go_enter Tryd.func23, Tryd.ntmps23
    go_wp2_with fail
    go_region_held3 (fun w' => w'.cell? ⟨g, 0, none⟩ = some (.int .i64 l) ∧ w'.cell? ⟨g, 1, none⟩ = some (.int .i64 q) ∧ w'.cell? ⟨g, 2, none⟩ = some (.int .i64 q2) ∧ w'.cell? ⟨g, 3, none⟩ = some (.slice (some ⟨b, o', none⟩) xs.length c))
      (first | go_keep | fail)
      (first
        | ((refine step_app (by rfl) (.tmp 15) (.tmp 19) _ (by rfl) w.heap.size 3 i0 _ 1 8 Tryd.underlying45 hi0 hz0 hz1 hz2 rfl (by decide) (.slice (some ⟨w.heap.size, 0, none⟩) 0 0) 0 [] (by rfl) Hown0.out.drew ⟨b, o', none⟩ xs.length c (ints xs) (by rfl) (Hlx.out.trans (Nat.mul_one _).symm) (Hn1.out _ HK0.out) (ints_one _) m1 m2 (by simp) ?_
            intro v1 w1 hown1 hgrow1 hnil1
            have k1 := HK0.out.grown hgrow1 (fun i hi => .inr (Hown0.out.lt i hi).1)
            have k10 := (k1.cell (p := ⟨g, 0, none⟩) hlt.1 (fun f => f)).trans c0
            have k11 := (k1.cell (p := ⟨g, 1, none⟩) hlt.1 (fun f => f)).trans c1
            have k12 := (k1.cell (p := ⟨g, 2, none⟩) hlt.1 (fun f => f)).trans c2
            have k13 := (k1.cell (p := ⟨g, 3, none⟩) hlt.1 (fun f => f)).trans c3
            obtain ⟨g', cap, hv, hbg⟩ := own_form hown1 (fun e => by have := (hnil1.1 e).1; cases this)
            rw [hv] at hown1 ⊢
            have Hk1 := Lib.hid k1
            have Hown1 := Lib.hid hown1
            clear k1 hown1 hgrow1 hnil1 hv))
        | fail)
    go_wp2_with fail
    go_ret
    have hown2 : w1.ownsRow w.heap.size 3 1 (.slice (some ⟨g', 0, none⟩) xs.length cap) (takenL T l m).length (ints (takenL T l m)) := by
      have := Hown1.out
      rw [Hxs.out]
      simpa using this
    obtain ⟨q3, q4⟩ := H.out.copied Hk1.out hown2 h2s
    rw [Hq.out, Hq2.out] at q3
    exact ⟨w1.heap.size, rfl, q3, q4, Hk1.out.alloc _⟩
end Go.Proofs.YtconpcnmccmbiaaDoor
