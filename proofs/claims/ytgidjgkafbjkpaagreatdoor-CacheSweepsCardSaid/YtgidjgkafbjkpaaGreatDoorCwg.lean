/- Cache: Learn, told once; slices.Clone. -/
import Derived.Test.YtgidjgkafbjkpaaGreatDoorCwf
import Derived.RangeFuncBox
import Derived.OwnWalk
set_option linter.unusedVariables false
set_option linter.unusedSimpArgs false
namespace Go.Proofs.YtgidjgkafbjkpaaGreatDoor
open Go.RowKit

/-- Learn. -/
theorem clearn (g i now : Nat) (m : M6) (s : CS) (w : World) (h : CM w g s) (hi : i < 4294967296) (hc : s.count < 1000000) (hr : 1 ≤ s.room ∧ s.room ≤ 1000) (hlen : s.ents.length ≤ s.room) (hlife : s.life ≤ 4294967296) (hips : ∀ x ∈ s.ents, x.ip < 4294967296) :
    Calls Tryz.prog 9 #[.pointer (some ⟨g, 0, none⟩), .int .u32 (i : Int), macV m, .int .u64 (now : Int)] w fun ev w' => LrnPost g i now m s w w' ev := by
  obtain ⟨m1, m2, m3, m4, m5, m6⟩ := m
  cases he : (iget i s.ents).isSome with
  | true => exact learn_t g i now m1 m2 m3 m4 m5 m6 s w h hi hc hr.2 hlen hlife he
  | false =>
    rcases Nat.lt_or_ge s.ents.length s.room with hl | hl
    · exact learn_n g i now m1 m2 m3 m4 m5 m6 s w h hi hc hr.2 hlen hlife he hl
    · obtain ⟨x, l, hxl⟩ : ∃ x l, s.ents = x :: l := by
        cases hq : s.ents with
        | nil => rw [hq] at hl; simp at hl; omega
        | cons x l => exact ⟨x, l, rfl⟩
      exact learn_f g i now m1 m2 m3 m4 m5 m6 s w h hi hc hr.2 hlen hlife he (Nat.le_antisymm hlen hl) x l hxl (hips x (by rw [hxl]; exact List.mem_cons_self))
/-- A row of ints of one's own is a slice of numbers. -/
theorem RdN.of_own {w : World} {base n : Nat} {v : Value} {l : List Int} (h : w.ownsRow base 3 1 v n (intsK .i64 l)) : ∃ A c, v = .slice A l.length c ∧ RdN w A l ∧ ∀ b o, A = some ⟨b, o, none⟩ → base ≤ b := by
  obtain ⟨A, c, e, hn, hr, hb⟩ := RdI.of_own h
  refine ⟨A, c, by rw [e, hn], ⟨hr, fun b o hA => ?_⟩, hb⟩
  rcases h.2 with ⟨h1, h0⟩ | ⟨g, cap, cur, h1, _, hg, _⟩
  · rw [h1] at e
    injection e with e1 _ _
    rw [← e1] at hA
    cases hA
  · rw [h1] at e
    injection e with e1 _ _
    rw [← e1] at hA
    injection hA with hA
    injection hA with hA1 hA2
    subst hA1
    exact ⟨cur, hg⟩
set_option maxRecDepth 1000000 in
set_option maxHeartbeats 8000000 in
/-- slices.Clone. -/
theorem cclone (A : Option Addr) (c : Nat) (l : List Int) (w : World) (hA : RdN w A l) (hl : l.length ≤ 1000000) (hnil : A = none → c = 0) :
    Calls Tryz.prog 28 #[.slice A l.length c] w fun ev w' => ∃ v, ev = .returned v ∧ w'.ownsRow w.heap.size 3 1 v l.length (intsK .i64 l) ∧ Kp (fun _ => False) w w' := by
  have hmx : (1000000 : Nat) < maxLen := by decide
  by_cases h0 : A = none
  · subst h0
    obtain rfl : c = 0 := hnil rfl
    have hl0 : l.length = 0 := by
      rcases hA.1.2 with h | ⟨b, o, h, _⟩
      · exact h
      · cases h
    have hl1 : l = [] := List.eq_nil_of_length_eq_zero hl0
    subst hl1
    clear hA hl hnil
    have hq : ∀ w : World, (binOp .eql 35 (.slice none 0 0) (.slice none 0 0)).run Tryz.prog w = .ok (.bool true) w := fun _ => by kernel_rfl
    go_enter Tryz.func28, Tryz.ntmps28
    go_wp2_with fail
    exact bodyPost_ret (results_tmp rfl _ _ _) rfl ⟨_, rfl, World.ownsRow_nil _ _ _ _, Kp.refl _ _⟩
  · obtain ⟨a, rfl⟩ := Option.ne_none_iff_exists'.1 h0
    obtain ⟨i0, hi, hz0, hz1, hz2⟩ := info_parts (show (Tryz.prog.info? 3).map (fun i => (i.zero, i.size, i.bytes)) = some (some (.int .i64 0), 1, 8) by kernel_rfl)
    have HA := Lib.hid hA
    clear hA h0 hnil
    have hq : ∀ w : World, (binOp .eql 35 (.slice (some a) l.length c) (.slice none 0 0)).run Tryz.prog w = .ok (.bool false) w := fun _ => by kernel_rfl
    have hown := (World.ownsRow_made (base := w.heap.size) (e := 3) (size := 1) w #[] 0 (Nat.le_refl _) (by omega) rfl)
    have HO := Lib.hid hown
    have hcells : ∀ j u, (intsK .i64 l)[j]? = some u → (w.alloc (.cells #[] 3)).cell? (a.add j) = some u := by
      intro j u hj
      have hjl : j < l.length := by
        rcases Nat.lt_or_ge j l.length with h | h
        · exact h
        · rw [List.getElem?_eq_none (by simpa [intsK] using h)] at hj; cases hj
      rcases HA.out.1.2 with h | ⟨b, o, e, hcl⟩
      · omega
      · injection e with e
        subst e
        have h1 := kp_kc' (hcl j hjl) ((Kp.refl (fun _ => False) w).alloc (.cells #[] 3)) (fun f => f)
        have h2 : u = .int .i64 (l.getD j 0) := by
          simp [intsK, hjl] at hj
          rw [← hj]
          simp [hjl]
        rw [h2]
        exact (show (⟨b, o, none⟩ : Addr).add j = ⟨b, o + j, none⟩ by simp [Addr.add]) ▸ h1
    have HCL := Lib.hid hcells
    clear hown hcells
    go_enter Tryz.func28, Tryz.ntmps28
    go_wp2_with
      (at_builtin
       go_must (
         refine wpList_append_own _ rfl (.tmp 5) (.tmp 6) 35 rfl w.heap.size 3 i0 _ 1 8 Tryz.underlying35 hi hz0 hz1 hz2 rfl (by omega) _ 0 [] rfl HO.out a l.length c (intsK .i64 l) rfl (by simp [intsK]) HCL.out (by intro u hu; simp only [intsK, List.mem_map] at hu; obtain ⟨x, _, rfl⟩ := hu; rfl) (by omega) (by omega) (by simp) ?_
         intro v1 w1 own1 hgrow1 _
         have O1 := Lib.hid own1
         have KD := Lib.hid (((Kp.refl (fun _ => False) w).alloc (.cells #[] 3)).grown hgrow1 (fun k hk => .inr (by have e : some w.heap.size = some k := hk; have := Option.some.inj e; omega)))
         clear own1 hgrow1))
    rw [Nat.zero_add, List.nil_append] at O1
    exact bodyPost_ret (results_tmp rfl _ _ _) rfl ⟨v1, rfl, O1.out, KD.out⟩
end Go.Proofs.YtgidjgkafbjkpaaGreatDoor
