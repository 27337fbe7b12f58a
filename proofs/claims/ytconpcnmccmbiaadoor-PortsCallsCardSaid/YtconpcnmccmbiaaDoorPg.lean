/- A range's New. -/
import Derived.Test.YtconpcnmccmbiaaDoorPf
import Derived.Deep.OwnRows
namespace Go.Proofs.YtconpcnmccmbiaaDoor
open Go.RowKit

theorem u64Info : (Tryd.prog.info? 117).map (fun i => (i.zero, i.size, i.bytes)) = some (some (.int .u64 0), 1, 8) := by kernel_rfl

/-- Ends of which there is no range. -/
def BadEnds (a b : Int) : Prop := (a < 1) ∨ ¬ (a < 1) ∧ 65535 < b ∨ ¬ (a < 1) ∧ ¬ (65535 < b) ∧ b < a
theorem BadEnds.no {a b : Int} (h : ¬ BadEnds a b) : 1 ≤ a ∧ b ≤ 65535 ∧ a ≤ b := by unfold BadEnds at h; omega
set_option maxHeartbeats 400000 in
theorem new_bad (a b : Int) (w : World) (hb : BadEnds a b) :
    Calls Tryd.prog 16 #[.int .i64 a, .int .i64 b] w fun e w' => e = .returned (.tuple #[.pointer none, .int .i64 11]) ∧ w = w' := by
  rcases hb with h | ⟨h1, h2⟩ | ⟨h1, h2, h3⟩
  all_goals
    go_enter Tryd.func16, Tryd.ntmps16
    go_wp2_with fail
    go_ret2
    exact ⟨rfl, rfl⟩

theorem madeAt (n j : Nat) (h : j < n) : (madeCells #[Value.int .u64 0] n)[j]? = some (.int .u64 (0 : Nat)) := by
  have hs : (madeCells #[Value.int .u64 0] n).size = n := size_madeCells _ _
  rw [Array.getElem?_eq_getElem (by omega)]
  simp [madeCells, Nat.mod_one]
/-- A range's words, for a walk. -/
theorem Raw.cell4 {w : World} {g gw l m mk lf : Nat} {ws : Nat → Nat} (h : Raw w g gw l m mk lf ws) {n : Nat} (hn : n = (m + 63) / 64) : ∃ c, w.cell? ⟨g, 4, none⟩ = some (.slice (some ⟨gw, 0, none⟩) n c) := by
  obtain ⟨n', c, cs, a1, a2, a3, a4, a5, a6, a7, a8⟩ := h
  obtain rfl : n = n' := by omega
  exact ⟨c, by rw [a1.cell 4]; rfl⟩
theorem raw_new (w : World) (l m n : Nat) (hn : n = (m + 63) / 64) (h1 : 1 ≤ l) (h2 : 1 ≤ m) (h3 : l + m ≤ 65536) :
    Raw ((w.alloc (.cells (madeCells #[.int .u64 0] n) 117)).alloc (.cells #[.int .i64 l, .int .i64 m, .int .i64 0, .int .i64 m, .slice (some ⟨w.heap.size, 0, none⟩) n n] 100)) (w.heap.size + 1) w.heap.size l m 0 m (fun _ => 0) := by
  refine ⟨n, n, madeCells #[.int .u64 0] n, ?_, (Bk.new w 117 _).alloc _, Nat.le_of_eq (size_madeCells _ _).symm, fun j hj => madeAt n j hj, fun _ => by show 0 < _; omega, by omega, by omega, h2, h1, h3, by omega, Nat.le_refl _⟩
  have := Bk.new (w.alloc (.cells (madeCells #[.int .u64 0] n) 117)) 100 #[.int .i64 l, .int .i64 m, .int .i64 0, .int .i64 m, .slice (some ⟨w.heap.size, 0, none⟩) n n]
  simpa using this

set_option maxRecDepth 100000 in
set_option maxHeartbeats 1000000 in
theorem new_ok (b : Int) (l m : Nat) (w : World) (h1 : 1 ≤ l) (h2 : 1 ≤ m) (h3 : l + m ≤ 65536) (hb : b = l + m - 1) (hT : Tab w) :
    Calls Tryd.prog 16 #[.int .i64 l, .int .i64 b] w fun e w' => ∃ g gw, e = .returned (.tuple #[.pointer (some ⟨g, 0, none⟩), .int .i64 0]) ∧ Rng w' g gw l m 0 (fun _ => false) ∧ w.heap.size ≤ g ∧ w.heap.size ≤ gw ∧ Kp (fun _ => False) w w' := by
  obtain ⟨n, hn⟩ : ∃ n, n = (m + 63) / 64 := ⟨_, rfl⟩
  have hmk := run_make_row' (P := Tryd.prog) 98 117 (.int .u64 0) 8 Tryd.underlying98 u64Info rfl .i64 .i64 n (by omega) (by omega)
  have e1 : b - l + 1 = (m : Int) := by omega
  have e2 : ((m : Int) + 64 - 1) / 64 = (n : Int) := by omega
  have i1 : ¬ ((l : Int) < 1) := by omega
  have i2 : ¬ (65535 < b) := by omega
  have i3 : ¬ (b < (l : Int)) := by omega
  have Hn := Lib.hid hn
  have HT := Lib.hid hT
  have hn1 : 1 ≤ n := by omega
  have hn2 : n ≤ 1024 := by omega
  have hm2 : m ≤ 65535 := by omega
  have hm0 : (0 : Int) ≤ (m : Int) := by omega
  have hT2 := hT.lt
  have hraw := raw_new w l m n hn h1 h2 h3
  have Hraw := Lib.hid hraw
  clear hn hb hT hraw
  go_enter Tryd.func16, Tryd.ntmps16
  go_wp2_with fail
  go_loopw [8] (fun v wr => ∃ (k : Nat) (ws : Nat → Nat), v = .int .i64 k ∧ m ≤ k ∧ k ≤ 64 * n ∧ Raw wr (w.heap.size + 1) w.heap.size l m 0 m ws ∧ (∀ j, bit ws j = (decide (m ≤ j) && decide (j < k))) ∧ Kp (fun _ => False) w wr) (fun v _ => 64 * n - (intOf v).toNat)
  case atStart =>
    exact ⟨m, fun _ => 0, rfl, Nat.le_refl _, by have := Hn.out; omega, Hraw.out, fun j => by simp [bit], ((Kp.refl _ _).alloc _).alloc _⟩
  case round =>
    obtain ⟨k, ws, rfl, hk1, hk2, hr, hbits, hkp⟩ := hrel
    obtain ⟨c, c4⟩ := hr.cell4 Hn.out
    have Hbits := Lib.hid hbits
    have Hr := Lib.hid hr
    have Hkp := Lib.hid hkp
    clear hbits hr hkp
    by_cases hlt : k < 64 * n
    · go_wp2_with fail
      refine (flip_any _ _ l m 0 m ws k _ Hr.out (by omega) (by omega) (fun n' q1 q2 => by have := Hn.out; omega)).mono ?_
      rintro e w1 ⟨rfl, hr1, hk1'⟩
      have Hr1 := Lib.hid hr1
      clear hr1
      go_wp2_with fail
      go_roundw
      case rel => exact ⟨k + 1, flipW ws k, by go_num, by omega, by omega, Hr1.out, fun j => by
        rw [bit_flip, Hbits.out, Hbits.out]
        by_cases hj : j = k
        · subst hj; simp [hk1]
        · rw [if_neg hj]; congr 1; rw [decide_eq_decide]; omega, Hkp.out.trans hk1' (fun j hj he => by omega)⟩
      case measure => simp [intOf]; omega
    · go_wp2_with fail
      go_ret2
      obtain rfl : k = 64 * n := by omega
      refine ⟨w.heap.size + 1, w.heap.size, rfl, ⟨ws, ?_, by omega, ?_, ?_, ?_, by omega, by omega⟩, by omega, by omega, Hkp.out⟩
      · rw [cnt_none _ _ (fun j hj => by rw [Hbits.out]; simp; omega)]; exact Hr.out
      · intro j hj; rw [Hbits.out]; simp; omega
      · intro j q1 q2; rw [Hbits.out]; have := Hn.out; simp; omega
      · exact HT.out.kept Hkp.out (fun f => f)
end Go.Proofs.YtconpcnmccmbiaaDoor
