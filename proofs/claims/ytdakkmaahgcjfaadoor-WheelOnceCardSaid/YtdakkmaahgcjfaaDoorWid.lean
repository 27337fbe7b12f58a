/- Wheel's reference: Copy. -/
import Derived.Test.YtdakkmaahgcjfaaDoorWic
set_option linter.unusedVariables false
set_option linter.unusedSimpArgs false
namespace Go.Proofs.YtdakkmaahgcjfaaDoor
open Go.RowKit

attribute [local go_sem ↓] Go.wp_at_zero Go.wp_at_succ
/-- append of nil to a row of the call's own, as a step of a region that draws. -/
theorem step_app_nil {P : Program} {w : World} {ops : Array Oper} {o : Oper} {a : Act} {K : Act → World → Prop} {Q : Exit → Act → World → Prop} {E : Prop} (hgd : o.guard = none) (s x : Operand) (t : TypeId)
    (ho : o.op = .call { callee := .builtin .append, args := #[s, x], argTypes := #[t, t] }) (e : TypeId) (i : TypeInfo) (ht : P.underlying t = some (.slice e)) (hi : P.info? e = some i)
    (g cap : Nat) (hs : a.eval s = .slice (some ⟨g, 0, none⟩) 0 cap) (c : Nat) (hx : a.eval x = .slice none 0 c)
    (h : K (a.put o.dst (.slice (some ⟨g, 0, none⟩) 0 cap)) w) :
    if Region.wanted o (yielded ops a.tmps) = true then Oper.wp P o a w K Q else E := by
  have hw : Region.wanted o (yielded ops a.tmps) = true := by simp [Region.wanted, hgd]
  rw [if_pos hw]
  have hrun : (Builtin.append_ #[t, t] o.type #[.slice (some ⟨g, 0, none⟩) 0 cap, .slice none 0 c]).run P w = .ok (.slice (some ⟨g, 0, none⟩) 0 cap) w := by
    simp [Builtin.append_, run_underlying ht, sizeOf, typeInfo, hi, Builtin.lenOf, Builtin.firstCells, storeCells]
  unfold Oper.wp execOp
  simp only [ho, resolve, invoke, builtin, Sem.run_bind, Sem.run_pure, Result.andThen_ok, List.map_toArray, List.map_cons, List.map_nil, hs, hx, hrun]
  exact h
/-- What Copy leaves. -/
def RCopied (g now : Nat) (R : List (Int × Nat)) (w w' : World) : Prop := RW w' g now R ∧ w.heap.size ≤ g ∧ Kp (fun _ => False) w w'
theorem rcopied {w w1 : World} {now : Nat} {R : List (Int × Nat)} {v : Value} (k : Kp (fun _ => False) w w1) (ho : w1.ownsRow w.heap.size 73 2 v R.length (rowsC R)) : RCopied w1.heap.size now R w (w1.alloc (.cells #[.int .u64 now, v] 71)) :=
  ⟨⟨v, Bk.new _ _ _, own_base (own_kp ho ((Kp.refl (fun _ => False) w1).alloc _) (fun _ _ f => f)) (Nat.zero_le _)⟩, k.size, k.alloc _⟩
set_option maxRecDepth 1000000 in
set_option maxHeartbeats 8000000 in
theorem rcopy_any (g now : Nat) (R : List (Int × Nat)) (w : World) (h : RW w g now R) (hl : R.length ≤ 1000000) :
    Calls Tryd.prog 15 #[.pointer (some ⟨g, 0, none⟩)] w fun ev w' => ∃ g2, ev = .returned (.pointer (some ⟨g2, 0, none⟩)) ∧ RCopied g2 now R w w' := by
  obtain ⟨i0, hi0, hz0, hz1, hz2⟩ := info73
  obtain ⟨v, hb, ho⟩ := h
  have c0 : w.cell? ⟨g, 0, none⟩ = some (.int .u64 now) := hb.cell 0
  have hgl := hb.lt
  have Hown0 := Lib.hid (World.ownsRow_made w (base := w.heap.size) (e := 73) (size := 2) #[] 0 (Nat.le_refl _) (by unfold maxLen; omega) rfl)
  have HK0 := Lib.hid (show Kp (fun _ => False) w ((w.alloc (.cells #[] 73)).drew) from ((Kp.refl _ _).alloc _).drew)
  rcases ho.2 with ⟨rfl, hl0⟩ | ⟨b, cap, cur, rfl, _, hgb, r1, r2, r3, r4⟩
  · have c1 : w.cell? ⟨g, 1, none⟩ = some (.slice none 0 0) := hb.cell 1
    obtain rfl : R = [] := List.eq_nil_of_length_eq_zero hl0
    have hsz : (w.alloc (.cells #[] 73)).heap.size = w.heap.size + 1 := by simp
    have q := rcopied (w := w) (now := now) (R := []) (v := .slice (some ⟨w.heap.size, 0, none⟩) 0 0) ((Kp.refl (fun _ => False) w).alloc (.cells #[] 73)) Hown0.out
    rw [hsz] at q
    have POST := Lib.hid (show RCopied (w.heap.size + 1) now [] w (((w.alloc (.cells #[] 73)).alloc (.cells #[.int .u64 now, .slice (some ⟨w.heap.size, 0, none⟩) 0 0] 71)).drew) from ⟨q.1, q.2.1, q.2.2.drew⟩)
    clear hsz q
    clear hb ho
    go_enter Tryd.func15, Tryd.ntmps15
    go_wp2_with fail
    go_region_law
      (first
        | ((refine step_app_nil (by rfl) (.tmp 7) (.tmp 11) _ (by rfl) 73 i0 Tryd.underlying69 hi0 w.heap.size 0 (by rfl) 0 (by rfl) ?_))
        | fail)
    all_goals
      go_wp2_with fail
      go_ret
      exact ⟨_, rfl, POST.out⟩
  · have hbk : Bk w b 73 cur := hgb
    have c1 : w.cell? ⟨g, 1, none⟩ = some (.slice (some ⟨b, 0, none⟩) R.length cap) := hb.cell 1
    have Hn1 := Lib.hid (show ∀ (W : World), Kp (fun _ => False) w W → ∀ j u, (rowsC R)[j]? = some u → W.cell? ((⟨b, 0, none⟩ : Addr).add j) = some u by
      intro W hW j u hu
      rw [add_at, Nat.zero_add]
      have hlt := (List.getElem?_eq_some_iff.1 hu).1
      rw [rowsC_len] at hlt
      rw [← r4, List.getElem?_take_of_lt hlt, Array.getElem?_toList] at hu
      exact kp_kc0 ((hbk.cell j).trans hu) hW)
    have m1 : 0 + R.length ≤ maxLen := by unfold maxLen; omega
    have m2 : (0 + R.length) * 16 ≤ 140737488355328 := by omega
    have Hl5 := Lib.hid (rowsC_len R)
    clear hb ho hgb hbk r1 r2 r3 r4
    go_enter Tryd.func15, Tryd.ntmps15
    go_wp2_with fail
    go_region_law
      (first
        | ((refine step_app (by rfl) (.tmp 7) (.tmp 11) _ (by rfl) w.heap.size 73 i0 _ 2 16 Tryd.underlying69 hi0 hz0 hz1 hz2 rfl (by decide) (.slice (some ⟨w.heap.size, 0, none⟩) 0 0) 0 [] (by rfl) Hown0.out.drew ⟨b, 0, none⟩ R.length cap (rowsC R) (by rfl) Hl5.out (Hn1.out _ HK0.out) (rowsC_one _) m1 m2 (by simp) ?_
            intro v1 w1 hown1 hgrow1 hnil1
            have k1 := HK0.out.grown hgrow1 (fun i hi => .inr (Hown0.out.lt i hi).1)
            have c0a := (k1.cell (p := ⟨g, 0, none⟩) hgl (fun f => f)).trans c0
            obtain ⟨g', cap2, hv, hbg⟩ := own_form hown1 (fun e => by have := (hnil1.1 e).1; cases this)
            rw [hv] at hown1 ⊢
            rw [Nat.zero_add] at hown1
            have POST := Lib.hid (rcopied (now := now) k1 hown1)
            rw [Nat.zero_add]
            clear k1 hown1 hgrow1 hnil1 hv))
        | fail)
    all_goals
      go_wp2_with fail
      go_ret
      exact ⟨_, rfl, POST.out⟩
end Go.Proofs.YtdakkmaahgcjfaaDoor
