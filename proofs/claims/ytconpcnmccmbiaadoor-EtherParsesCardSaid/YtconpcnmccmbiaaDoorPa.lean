/- The walks of a range's inner functions: flip, taken, has, lay, free. -/
import Derived.Test.YtconpcnmccmbiaaDoorProg
import Derived.Test.YtconpcnmccmbiaaDoorOwn
import Derived.Test.YtconpcnmccmbiaaDoorPp
import Derived.RegionTactic
import Derived.BigRegion
import Derived.Outline
import Derived.Laws.BitsAllLaws
import Derived.Laws.Bits64b
import Derived.Laws.ShiftsVar
import Derived.Lib.TrailingZeros
import Derived.Lib.Hide
import Derived.Deep.QuietTactic
import Derived.BigQuiet
import Derived.OwnWalk
namespace Go.Proofs.YtconpcnmccmbiaaDoor
open Go.RowKit

theorem ret_bool {a b : Bool} (h : a = b) : Ending.returned (.bool a) = .returned (.bool b) := by rw [h]
theorem ret_int {k : IntKind} {a b : Int} (h : a = b) : Ending.returned (.int k a) = .returned (.int k b) := by rw [h]

theorem ret_two {k k' : IntKind} {a b c d : Int} (h : a = b) (h' : c = d) : Ending.returned (.tuple #[.int k a, .int k' c]) = .returned (.tuple #[.int k b, .int k' d]) := by rw [h, h']

/-- A range in memory: its struct in block g, its words in block gw. -/
def Raw (w : World) (g gw : Nat) (l m mk lf : Nat) (ws : Nat → Nat) : Prop :=
  ∃ (n c : Nat) (cs : Array Value), Bk w g 100 #[.int .i64 l, .int .i64 m, .int .i64 mk, .int .i64 lf, .slice (some ⟨gw, 0, none⟩) n c] ∧ Bk w gw 117 cs ∧ n ≤ cs.size ∧
    (∀ j, j < n → cs[j]? = some (.int .u64 (ws j))) ∧ (∀ j, ws j < 18446744073709551616) ∧ m ≤ 64 * n ∧ 64 * n < m + 64 ∧ 1 ≤ m ∧ 1 ≤ l ∧ l + m ≤ 65536 ∧ mk ≤ 65535 ∧ lf ≤ m

theorem Raw.kept {w w' : World} {g gw l m mk lf : Nat} {ws : Nat → Nat} {S : Nat → Prop} (h : Raw w g gw l m mk lf ws) (hk : Kp S w w') (h1 : ¬ S g) (h2 : ¬ S gw) : Raw w' g gw l m mk lf ws := by
  obtain ⟨n, c, cs, a, b, r⟩ := h
  exact ⟨n, c, cs, a.kept hk h1, b.kept hk h2, r⟩
theorem Raw.ne {w : World} {g gw l m mk lf : Nat} {ws : Nat → Nat} (h : Raw w g gw l m mk lf ws) : g ≠ gw := by
  obtain ⟨n, c, cs, a, b, r⟩ := h
  exact a.ne_of b (by decide)

theorem xor_val (x y : Nat) (hx : x < 18446744073709551616) (hy : y < 64) : bits BinOp.xor IntKind.u64 (x : Int) (IntKind.u64.wrap (2 ^ y)) = ((x ^^^ 2 ^ y : Nat) : Int) := by
  have h2 : 2 ^ y < 2 ^ 64 := Nat.pow_lt_pow_right (by omega) hy
  have e : IntKind.u64.wrap (2 ^ y : Int) = ((2 ^ y : Nat) : Int) := by
    rw [IntKind.wrap_u64]
    have : ((2 : Int) ^ y) = ((2 ^ y : Nat) : Int) := by simp
    rw [this]
    have h3 : 2 ^ y < 18446744073709551616 := h2
    generalize 2 ^ y = z at h3
    omega
  rw [e, u64_xor_nat x _ hx h2]

set_option maxHeartbeats 400000 in
theorem flip_any (g gw l m mk lf : Nat) (ws : Nat → Nat) (a : Int) (w : World) (h : Raw w g gw l m mk lf ws) (h0 : 0 ≤ a) (ha : a < 65600) (ha2 : ∀ n, m ≤ 64 * n → 64 * n < m + 64 → a < 64 * n) :
    Calls Tryd.prog 58 #[.pointer (some ⟨g, 0, none⟩), .int .i64 a] w fun e w' => e = .returned (.tuple #[]) ∧ Raw w' g gw l m mk lf (flipW ws a.toNat) ∧ Kp (fun b => b = gw) w w' := by
  obtain ⟨k, rfl⟩ := Int.eq_ofNat_of_zero_le h0
  have hg := h.ne
  obtain ⟨n, c, cs, h1, h2, h3, h4, h5, h6, h7, h8⟩ := h
  have hk : (k : Int) < 64 * n := ha2 n h6 h7
  have hx := h4 (k / 64) (by omega)
  have hx2 := h5 (k / 64)
  have hfin : Raw ((w.setCell ⟨gw, k / 64, none⟩ (.int .u64 ((ws (k / 64) ^^^ (2 ^ (k % 64)) : Nat) : Int))).drew) g gw l m mk lf (flipW ws k) ∧ Kp (fun b => b = gw) w ((w.setCell ⟨gw, k / 64, none⟩ (.int .u64 ((ws (k / 64) ^^^ (2 ^ (k % 64)) : Nat) : Int))).drew) := by
    refine ⟨⟨n, c, cs.setIfInBounds (k / 64) (.int .u64 ((ws (k / 64) ^^^ (2 ^ (k % 64)) : Nat) : Int)), (h1.far (p := ⟨gw, k / 64, none⟩) hg _).drew, (h2.put _ _).drew, by simpa using h3, ?_, flipW_lt ws h5 k, h6, h7, h8⟩, Kp.drew (Kp.setCell (Kp.refl (fun b => b = gw) w) (p := ⟨gw, k / 64, none⟩) (.inl rfl) _)⟩
    intro j hj
    by_cases hjk : j = k / 64
    · subst hjk; rw [flipW_at, Array.getElem?_setIfInBounds_self_of_lt (by omega)]
    · rw [flipW_other _ _ _ hjk, Array.getElem?_setIfInBounds_ne (Ne.symm hjk)]; exact h4 j hj
  have hx3 := xor_val (ws (k / 64)) (k % 64) hx2 (by omega)
  have Hfin := Lib.hid hfin
  clear hfin
  have c1 := h1.cell 4
  simp at c1
  have c2 := (h2.cell (k / 64)).trans hx
  have f2 := h2.frozen (k / 64)
  have hk1 : (0 : Int) ≤ (k : Int) / 64 := by omega
  have hk2 : (k : Int) / 64 < (n : Int) := by omega
  have hk3 : (0 : Int) ≤ (k : Int) % 64 := by omega
  have hk4 : (k : Int) % 64 < 64 := by omega
  have hk5 : ((k : Int) / 64).toNat = k / 64 := by omega
  have hx4 := Lib.hid hx3
  clear h1 h2 h3 hx h4 h5 h6 h7 h8 hk ha2 hg hx3
  go_enter Tryd.func58, Tryd.ntmps58
  go_region
  rw [hx4.out]
  go_end0
  exact ⟨rfl, Hfin.out⟩

theorem and_val (x y : Nat) (hx : x < 18446744073709551616) : (bits BinOp.and IntKind.u64 ((x : Int) / 2 ^ y) 1 != 0) = x.testBit y := by
  have e : ((x : Int) / 2 ^ y) = ((x >>> y : Nat) : Int) := by
    rw [Nat.shiftRight_eq_div_pow]; simp
  have h1 : x >>> y < 18446744073709551616 := Nat.lt_of_le_of_lt (by rw [Nat.shiftRight_eq_div_pow]; exact Nat.div_le_self _ _) hx
  have h2 := u64_and_nat (x >>> y) 1 h1 (by omega)
  rw [e, show (1 : Int) = ((1 : Nat) : Int) from rfl, h2, ← shr_and_one]
  rw [Bool.eq_iff_iff]
  simp only [bne_iff_ne, ne_eq]
  omega

set_option maxHeartbeats 400000 in
theorem taken_any (g gw l m mk lf : Nat) (ws : Nat → Nat) (a : Int) (w : World) (h : Raw w g gw l m mk lf ws) (h0 : 0 ≤ a) (ha : a < m) :
    Calls Tryd.prog 62 #[.pointer (some ⟨g, 0, none⟩), .int .i64 a] w fun e w' => e = .returned (.bool (bit ws a.toNat)) ∧ w = w' := by
  obtain ⟨k, rfl⟩ := Int.eq_ofNat_of_zero_le h0
  obtain ⟨n, c, cs, h1, h2, h3, h4, h5, h6, h7, h8⟩ := h
  have hk : (k : Int) < 64 * n := by omega
  have hkb : (k : Int) ≤ 70000 := by omega
  have hx := h4 (k / 64) (by omega)
  have hx2 := h5 (k / 64)
  have c1 := h1.cell 4
  simp at c1
  have c2 := (h2.cell (k / 64)).trans hx
  have hk1 : (0 : Int) ≤ (k : Int) / 64 := by omega
  have hk2 : (k : Int) / 64 < (n : Int) := by omega
  have hk3 : (0 : Int) ≤ (k : Int) % 64 := by omega
  have hk4 : (k : Int) % 64 < 64 := by omega
  have hk5 : ((k : Int) / 64).toNat = k / 64 := by omega
  clear h1 h2 h3 hx h4 h5 h6 h7 h8 hk
  go_enter Tryd.func62, Tryd.ntmps62
  go_wp2
  go_ret
  exact ⟨by rw [and_val _ _ hx2]; rfl, rfl⟩

/-- The table of math/bits, as its initialiser lays it. -/
def Tab (w : World) : Prop := ∀ j, j < 64 → w.cell? ⟨1, j, none⟩ = some (.int .u8 (Lib.deBruijn64tab.getD j 0))
theorem Tab.lt {w : World} (h : Tab w) : 1 < w.heap.size := World.block_lt_of_cell? w _ (h 0 (by omega))
theorem Tab.kept {w w' : World} {S : Nat → Prop} (h : Tab w) (hk : Kp S w w') (hn : ¬ S 1) : Tab w' := fun j hj => (hk.cell (p := ⟨1, j, none⟩) h.lt hn).trans (h j hj)

set_option maxHeartbeats 400000 in
theorem has_any (g gw l m mk lf : Nat) (ws : Nat → Nat) (a : Int) (w : World) (h : Raw w g gw l m mk lf ws) (b1 : -9223372036854775808 ≤ a) (b2 : a ≤ 9223372036854775807) :
    Calls Tryd.prog 61 #[.pointer (some ⟨g, 0, none⟩), .int .i64 a] w fun e w' => e = .returned (.bool (decide ((l : Int) ≤ a ∧ a < l + m))) ∧ ∃ n, w' = w.drewN n := by
  obtain ⟨n, c, cs, h1, h2, h3, h4, h5, h6, h7, h8, h9, h10, h11, h12⟩ := h
  have c0 := h1.cell 0
  have c1 := h1.cell 1
  simp at c0 c1
  clear h1 h2 h3 h4 h5 h6 h7
  by_cases hc : (l : Int) ≤ a
  · have hc1 : (0 : Int) ≤ a - l := by omega
    go_enter Tryd.func61, Tryd.ntmps61
    go_wp2
    go_quiet (fail)
    go_wp2
    go_ret
    exact ⟨ret_bool (by rw [decide_eq_decide]; omega), nq, rfl⟩
  · have hc2 : decide ((l : Int) ≤ a) = false := by simpa using hc
    go_enter Tryd.func61, Tryd.ntmps61
    go_wp2
    go_quiet (fail)
    go_wp2
    go_ret
    exact ⟨ret_bool (Eq.symm (decide_eq_false (by omega))), nq, rfl⟩
theorem tz64_key (x a : Nat) (hx : x < 18446744073709551616) (hx0 : x ≠ 0) (hlow : x &&& (18446744073709551616 - x) = a) :
    IntKind.u64.wrap (bits BinOp.and IntKind.u64 (x : Int) (IntKind.u64.wrap (-(x : Int))) * 285870213051353865) / 288230376151711744 = ((a * 285870213051353865 % 18446744073709551616 / 288230376151711744 : Nat) : Int) := by
  have e1 : IntKind.u64.wrap (-(x : Int)) = ((18446744073709551616 - x : Nat) : Int) := by rw [IntKind.wrap_u64]; omega
  rw [e1, u64_and_nat x _ hx (by omega), hlow, IntKind.wrap_u64]
  omega
set_option maxHeartbeats 400000 in
theorem ctz_core (x k idx : Nat) (w : World) (hx0 : ((x : Int) == 0) = false)
    (key : IntKind.u64.wrap (bits BinOp.and IntKind.u64 (x : Int) (IntKind.u64.wrap (-(x : Int))) * 285870213051353865) / 288230376151711744 = (idx : Int))
    (hi : idx < 64) (hk : k < 64) (hcell : w.cell? ⟨1, idx, none⟩ = some (.int .u8 k)) :
    Calls Tryd.prog 80 #[.int .u64 x] w fun e w' => e = .returned (.int .i64 k) ∧ w = w' := by
  go_enter Tryd.func80, Tryd.ntmps80
  go_wp2_with (simp only [key])
  go_ret
  exact ⟨rfl, rfl⟩
theorem ctz_any (x : Nat) (hx : x < 18446744073709551616) (hx0 : x ≠ 0) (w : World) (hT : Tab w) :
    Calls Tryd.prog 80 #[.int .u64 x] w fun e w' => e = .returned (.int .i64 (Lib.ctz 64 x)) ∧ w = w' := by
  obtain ⟨hlow, hk⟩ := Lib.lowest_bit 64 x hx0 hx
  obtain ⟨hi, htab⟩ := Lib.deBruijn64_at _ hk
  have hcell := hT _ hi
  rw [htab] at hcell
  exact ctz_core x _ _ w (by simp; omega) (tz64_key x _ hx hx0 hlow) hi hk hcell
end Go.Proofs.YtconpcnmccmbiaaDoor
