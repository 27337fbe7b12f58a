/- Wheel's reference: New, Find. -/
import Derived.Test.YtdakkmaahgcjfaaDoorWia
set_option linter.unusedVariables false
set_option linter.unusedSimpArgs false
namespace Go.Proofs.YtdakkmaahgcjfaaDoor
open Go.RowKit

set_option maxRecDepth 1000000 in
set_option maxHeartbeats 8000000 in
theorem rnew_far (now : Nat) (w : World) (hn : ¬ now ≤ TOP) : Calls Tryd.prog 10 #[.int .u64 now] w fun ev w' => ev = .returned (.tuple #[.pointer none, .int .i64 11]) ∧ w' = w := by
  have h1 : (4611686018427387904 : Int) < (now : Int) := by unfold TOP at hn; omega
  have h2 : ¬ ((now : Int) ≤ 4611686018427387904) := by omega
  go_enter Tryd.func10, Tryd.ntmps10
  go_wp2_with fail
  exact bodyPost_ret (results_tmp2 rfl _ _ _) rfl ⟨rfl, rfl⟩
set_option maxRecDepth 1000000 in
set_option maxHeartbeats 8000000 in
theorem rnew_ok (now : Nat) (w : World) (hn : now ≤ TOP) : Calls Tryd.prog 10 #[.int .u64 now] w fun ev w' => ∃ g, ev = .returned (.tuple #[.pointer (some ⟨g, 0, none⟩), .int .i64 0]) ∧ RW w' g now [] ∧ w.heap.size ≤ g ∧ Kp (fun _ => False) w w' := by
  have h1 : ¬ (4611686018427387904 : Int) < (now : Int) := by unfold TOP at hn; omega
  have h2 : (now : Int) ≤ 4611686018427387904 := by unfold TOP at hn; omega
  have POST := Lib.hid (show RW (w.alloc (.cells #[.int .u64 now, .slice none 0 0] 71)) w.heap.size now [] from ⟨.slice none 0 0, Bk.new _ _ _, rfl, .inl ⟨rfl, rfl⟩⟩)
  go_enter Tryd.func10, Tryd.ntmps10
  go_wp2_with fail
  exact bodyPost_ret (results_tmp2 rfl _ _ _) rfl ⟨_, rfl, POST.out, Nat.le_refl _, (Kp.refl _ w).alloc _⟩
/-- A timer's place among the rows. -/
def rFind (R : List (Int × Nat)) (t : Int) : Option Nat := R.findIdx? (fun r => r.1 == t)
def rFindI (R : List (Int × Nat)) (t : Int) : Int := match rFind R t with | some i => i | none => -1
/-- A reference wheel's rows, read. -/
theorem RW.read {w : World} {g now : Nat} {R : List (Int × Nat)} (h : RW w g now R) : ∃ A cap, w.cell? ⟨g, 0, none⟩ = some (.int .u64 now) ∧ w.cell? ⟨g, 1, none⟩ = some (.slice A R.length cap) ∧
    ∀ i (hi : i < R.length), ∃ b, A = some ⟨b, 0, none⟩ ∧ w.cell? ⟨b, i * 2, none⟩ = some (.int .i64 (R[i]'hi).1) ∧ w.cell? ⟨b, i * 2 + 1, none⟩ = some (.int .u64 ((R[i]'hi).2 : Int)) := by
  obtain ⟨v, hb, ho⟩ := h
  have hc : ∀ (gb cap : Nat) (cur : Array Value), w.heap[gb]? = some (.cells cur 73 (0, 0)) → cur.toList.take (R.length * 2) = rowsC R → ∀ i (hi : i < R.length), w.cell? ⟨gb, i * 2, none⟩ = some (.int .i64 (R[i]'hi).1) ∧ w.cell? ⟨gb, i * 2 + 1, none⟩ = some (.int .u64 ((R[i]'hi).2 : Int)) := by
    intro gb cap cur hgb ht i hi
    have hb' : Bk w gb 73 cur := hgb
    obtain ⟨h1, h2⟩ := rowsC_at R i hi
    rw [show 2 * i = i * 2 by omega] at h1 h2
    rw [← ht] at h1 h2
    rw [List.getElem?_take_of_lt (by omega), Array.getElem?_toList] at h1 h2
    exact ⟨(hb'.cell _).trans h1, (hb'.cell _).trans h2⟩
  rcases ho.2 with ⟨rfl, hl⟩ | ⟨gb, cap, cur, rfl, _, hgb, r1, r2, r3, r4⟩
  · refine ⟨none, 0, hb.cell 0, (hb.cell 1).trans (by rw [hl]; rfl), fun i hi => by omega⟩
  · exact ⟨_, cap, hb.cell 0, hb.cell 1, fun i hi => ⟨gb, rfl, hc gb cap cur hgb r4 i hi⟩⟩
set_option maxRecDepth 1000000 in
set_option maxHeartbeats 8000000 in
theorem rfind (g now : Nat) (R : List (Int × Nat)) (t : Int) (w : World) (h : RW w g now R) (hl : R.length ≤ 1000000) : Calls Tryd.prog 16 #[.pointer (some ⟨g, 0, none⟩), .int .i64 t] w fun ev w' => ev = .returned (.int .i64 (rFindI R t)) ∧ w' = w := by
  obtain ⟨A, cap, c0, c1, hrd⟩ := h.read
  have l1 : (R.length : Int) ≤ 1000000 := by omega
  have l0 : (0 : Int) ≤ (R.length : Int) := by omega
  have HR := Lib.hid hrd
  clear h hrd
  go_enter Tryd.func16, Tryd.ntmps16
  go_wp2_with fail
  go_loop [5] (fun v => ∃ i : Nat, v = .int .i64 i ∧ i ≤ R.length ∧ ∀ j (hj : j < R.length), j < i → (R[j]'hj).1 ≠ t) (fun v => R.length - (intOf v).toNat)
  case atStart => exact ⟨0, rfl, Nat.zero_le _, fun j _ hj => by omega⟩
  case round =>
    obtain ⟨i, rfl, hi, hno⟩ := hrel
    have HN := Lib.hid hno
    clear hno
    have i0 : (0 : Int) ≤ (i : Int) := by omega
    by_cases hlt : i < R.length
    · have i1 : (i : Int) < (R.length : Int) := by omega
      obtain ⟨b, hA, c2, c3⟩ := HR.out i hlt
      subst hA
      by_cases he : (R[i]'hlt).1 = t
      · have FIN := Lib.hid (show rFindI R t = (i : Int) by
          have : rFind R t = some i := by
            unfold rFind
            rw [List.findIdx?_eq_some_iff_getElem]
            exact ⟨hlt, by simpa using he, fun j hj => by simpa using HN.out j (by omega) hj⟩
          unfold rFindI
          rw [this])
        generalize (R[i]'hlt).1 = x at *
        subst he
        go_wp2_with fail
        exact bodyPost_ret (results_tmp rfl _ _ _) rfl ⟨by rw [FIN.out]; rfl, rfl⟩
      · have he2 : ((R[i]'hlt).1 == t) = false := by simpa using he
        have HE := Lib.hid he
        clear he
        go_wp2_with fail
        refine ⟨⟨i + 1, by simp, by omega, fun j hj hji => ?_⟩, by simp [intOf]; omega⟩
        rcases Nat.lt_or_ge j i with h | h
        · exact HN.out j hj h
        · obtain rfl : j = i := by omega
          exact HE.out
    · obtain rfl : i = R.length := by omega
      go_wp2_with fail
      have FIN : rFindI R t = -1 := by
        have : rFind R t = none := by
          unfold rFind
          rw [List.findIdx?_eq_none_iff]
          intro x hx
          obtain ⟨j, hj, rfl⟩ := List.getElem_of_mem hx
          simpa using HN.out j hj hj
        unfold rFindI
        rw [this]
      exact bodyPost_ret (results_tmp rfl _ _ _) rfl ⟨by rw [FIN]; rfl, rfl⟩
end Go.Proofs.YtdakkmaahgcjfaaDoor
