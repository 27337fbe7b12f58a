/- Two lists of numbers are held against one another: SameInts. -/
import Derived.Test.YtgidjgkafbjkpaaGreatDoorProg
import Derived.Test.YtgidjgkafbjkpaaGreatDoorOwn
import Derived.LoopTactic
import Derived.Lib.Hide
import Derived.Deep.QuietTactic
import Derived.BigQuiet
import Derived.OwnWalk
namespace Go.Proofs.YtgidjgkafbjkpaaGreatDoor
open Go.RowKit

/-- A slice's cells are these numbers. -/
def RdI (w : World) (k : IntKind) (A : Option Addr) (xs : List Int) : Prop := xs.length ≤ 9223372036854775807 ∧ (xs.length = 0 ∨ ∃ b o, A = some ⟨b, o, none⟩ ∧ ∀ j, j < xs.length → w.cell? ⟨b, o + j, none⟩ = some (.int k (xs.getD j 0)))
theorem RdI.drewN {w : World} {k : IntKind} {A : Option Addr} {xs : List Int} (h : RdI w k A xs) (n : Nat) : RdI (w.drewN n) k A xs := h
theorem RdI.kp {S : Nat → Prop} {w w' : World} {k : IntKind} {A : Option Addr} {xs : List Int} (h : RdI w k A xs) (hk : Kp S w w') (hS : ∀ b o, A = some ⟨b, o, none⟩ → ¬ S b) : RdI w' k A xs := by
  refine ⟨h.1, ?_⟩
  rcases h.2 with h | ⟨b, o, rfl, hc⟩
  · exact .inl h
  · exact .inr ⟨b, o, rfl, fun j hj => (hk.cell (p := ⟨b, o + j, none⟩) (World.block_lt_of_cell? w _ (hc j hj)) (hS b o rfl)).trans (hc j hj)⟩
theorem RdI.alloc {w : World} {k : IntKind} {A : Option Addr} {xs : List Int} (h : RdI w k A xs) (o : Obj) : RdI (w.alloc o) k A xs := h.kp ((Kp.refl (fun _ => False) w).alloc o) (fun _ _ _ f => f)
/-- A new row. -/
theorem RdI.new (w : World) (k : IntKind) (t : TypeId) (xs : List Int) (hl : xs.length ≤ 9223372036854775807) : RdI (w.alloc (.cells (xs.map fun x => Value.int k x).toArray t)) k (some ⟨w.heap.size, 0, none⟩) xs :=
  ⟨hl, .inr ⟨_, _, rfl, fun j hj => by simp [hj]⟩⟩
def intsK (k : IntKind) (xs : List Int) : List Value := xs.map fun x => .int k x
theorem RdI.of_own {w : World} {base : Nat} {e : TypeId} {k : IntKind} {v : Value} {n : Nat} {xs : List Int} (h : w.ownsRow base e 1 v n (intsK k xs)) : ∃ A c, v = .slice A n c ∧ n = xs.length ∧ RdI w k A xs ∧ ∀ b o, A = some ⟨b, o, none⟩ → base ≤ b := by
  have hl : n = xs.length := by have := h.1; simp [intsK] at this; omega
  rcases h.2 with ⟨rfl, h0⟩ | ⟨g, cap, cur, rfl, hb, hh, h1, h2, h3, h4⟩
  · exact ⟨none, 0, by rw [h0], hl, ⟨by omega, .inl (by omega)⟩, fun b o h => by cases h⟩
  · refine ⟨_, cap, rfl, hl, ⟨by simp only [maxLen] at h2; omega, .inr ⟨g, 0, rfl, fun j hj => ?_⟩⟩, fun b o h => by injection h with h; injection h with h; omega⟩
    have e : (intsK k xs)[j]? = some (.int k (xs.getD j 0)) := by simp [intsK, hj]
    rw [← h4, List.getElem?_take_of_lt (by omega)] at e
    simp [World.cell?, hh]
    simpa using e

theorem ret_bool' {a b : Bool} (h : a = b) : Ending.returned (.bool a) = .returned (.bool b) := by rw [h]

theorem getD_eq_or (xs ys : List Int) : ∀ k, k < xs.length → xs.length = ys.length → (xs.take k = ys.take k) → xs.getD k 0 = ys.getD k 0 → xs.take (k + 1) = ys.take (k + 1) := by
  intro k hk hl h e
  rw [List.take_succ_eq_append_getElem hk, List.take_succ_eq_append_getElem (by omega), h]
  simp [hk, show k < ys.length by omega] at e
  rw [e]
theorem getD_ne (xs ys : List Int) (k : Nat) (h : xs.getD k 0 ≠ ys.getD k 0) : xs ≠ ys := by rintro rfl; exact h rfl

set_option maxRecDepth 100000 in
set_option maxHeartbeats 1000000 in
theorem sameInts_any (A B : Option Addr) (c d : Nat) (xs ys : List Int) (w : World) (hx : RdI w .i64 A xs) (hy : RdI w .i64 B ys) :
    Calls Tryz.prog 16 #[.slice A xs.length c, .slice B ys.length d] w fun e w' => e = .returned (.bool (xs == ys)) ∧ ∃ n, w' = w.drewN n := by
  obtain ⟨h1, h2⟩ := hx
  obtain ⟨h3, h4⟩ := hy
  by_cases hl : xs.length = ys.length
  · have hb : (((xs.length : Nat) : Int) != ((ys.length : Nat) : Int)) = false := by simp [hl]
    have Hl := Lib.hid hl
    have H2 := Lib.hid h2
    have H4 := Lib.hid h4
    clear hl h2 h4
    go_enter Tryz.func16, Tryz.ntmps16
    go_wp2_with fail
    go_loopw [5] (fun v wr => ∃ k : Nat, v = .int .i64 k ∧ k ≤ xs.length ∧ xs.take k = ys.take k ∧ ∃ n, wr = w.drewN n) (fun v _ => xs.length - (intOf v).toNat)
    case atStart => exact ⟨0, rfl, by omega, rfl, 0, rfl⟩
    case round =>
      obtain ⟨k, rfl, hk, ht, nw, rfl⟩ := hrel
      have Ht := Lib.hid ht
      clear ht
      by_cases hlt : k < xs.length
      · obtain ⟨b, o, rfl, hc⟩ : ∃ b o, A = some ⟨b, o, none⟩ ∧ ∀ j, j < xs.length → w.cell? ⟨b, o + j, none⟩ = some (.int .i64 (xs.getD j 0)) := by
          rcases H2.out with h | h
          · omega
          · exact h
        obtain ⟨b2, o2, rfl, hc2⟩ : ∃ b o, B = some ⟨b, o, none⟩ ∧ ∀ j, j < ys.length → w.cell? ⟨b, o + j, none⟩ = some (.int .i64 (ys.getD j 0)) := by
          rcases H4.out with h | h
          · have := Hl.out; omega
          · exact h
        have d1 := hc k hlt
        have d2 := hc2 k (by have := Hl.out; omega)
        have k0 : (0 : Int) ≤ (k : Int) := by omega
        have k1 : (k : Int) < (xs.length : Int) := by omega
        have k2 : (k : Int) < (ys.length : Int) := by have := Hl.out; omega
        clear hc hc2
        generalize hxk : xs.getD k 0 = x at d1
        generalize hyk : ys.getD k 0 = y at d2
        have Hxk := Lib.hid hxk
        have Hyk := Lib.hid hyk
        clear hxk hyk
        go_wp2_with fail
        go_quiet (fail)
        by_cases he : x = y
        · have hb2 : (x != y) = false := by simp [he]
          have He := Lib.hid he
          clear he
          go_wp2_with fail
          go_roundw
          case rel => exact ⟨k + 1, by go_num, by omega, getD_eq_or _ _ _ hlt Hl.out Ht.out (by rw [Hxk.out, Hyk.out]; exact He.out), _, rfl⟩
          case measure => simp [intOf]; omega
        · have hb2 : (x != y) = true := by simp [he]
          go_wp2_with fail
          go_ret
          exact ⟨ret_bool' (Eq.symm (by have := getD_ne xs ys k (by rw [Hxk.out, Hyk.out]; exact he); simp [this])), _, World.drewN_drewN ..⟩
      · go_wp2_with fail
        go_ret
        exact ⟨ret_bool' (Eq.symm (by
          have h := Ht.out
          rw [List.take_of_length_le (by omega), List.take_of_length_le (by have := Hl.out; omega)] at h
          simp [h])), _, rfl⟩
  · have hb : (((xs.length : Nat) : Int) != ((ys.length : Nat) : Int)) = true := by simp; omega
    have hne : xs ≠ ys := fun h => hl (by rw [h])
    have Hne := Lib.hid hne
    clear hl hne h2 h4
    go_enter Tryz.func16, Tryz.ntmps16
    go_wp2_with fail
    go_ret
    exact ⟨ret_bool' (Eq.symm (by simp [Hne.out])), 0, rfl⟩
end Go.Proofs.YtgidjgkafbjkpaaGreatDoor
