/- Place: formatBits at base 16 (under way). -/
import Derived.Test.YtkafdpidhelfdaaDoorPhx
import Derived.LoopTactic
import Derived.Laws.BytesString
set_option linter.unusedVariables false
set_option linter.unusedSimpArgs false
namespace Go.Proofs.YtkafdpidhelfdaaDoor
open Go.RowKit

theorem str1 {w : World} {g k c : Nat} {n : Int} (h : w.cell? ⟨g, k, none⟩ = some (.int .u8 n)) : (convert 68 9 (.slice (some ⟨g, k, none⟩) 1 c)).run Tryd.prog w = .ok (.string ⟨#[UInt8.ofNat n.toNat]⟩) w := by
  rw [run_convert_bytes_string w 68 9 5 (some ⟨g, k, none⟩) 1 c Tryd.underlying68 Tryd.underlying5 Tryd.underlying9]
  rw [run_bytesToString w ⟨g, k, none⟩ 1 c [n] ?_]
  · rfl
  · refine run_loadCells_list w ⟨g, k, none⟩ [.int .u8 n] (fun j v hj => ?_)
    rcases j with _ | j
    · injection hj with hj; subst hj; exact h
    · cases hj
theorem str2 {w : World} {g k c : Nat} {n m : Int} (hk : k + 1 ≠ 0) (h : w.cell? ⟨g, k, none⟩ = some (.int .u8 n)) (h2 : w.cell? ⟨g, k + 1, none⟩ = some (.int .u8 m)) : (convert 68 9 (.slice (some ⟨g, k, none⟩) 2 c)).run Tryd.prog w = .ok (.string ⟨#[UInt8.ofNat n.toNat, UInt8.ofNat m.toNat]⟩) w := by
  rw [run_convert_bytes_string w 68 9 5 (some ⟨g, k, none⟩) 2 c Tryd.underlying68 Tryd.underlying5 Tryd.underlying9]
  rw [run_bytesToString w ⟨g, k, none⟩ 2 c [n, m] ?_]
  · rfl
  · refine run_loadCells_list w ⟨g, k, none⟩ [.int .u8 n, .int .u8 m] (fun j v hj => ?_)
    rcases j with _ | _ | j
    · injection hj with hj; subst hj; exact h
    · injection hj with hj; subst hj; exact h2
    · cases hj
abbrev hexS : ByteArray := ⟨#[48, 49, 50, 51, 52, 53, 54, 55, 56, 57, 97, 98, 99, 100, 101, 102, 103, 104, 105, 106, 107, 108, 109, 110, 111, 112, 113, 114, 115, 116, 117, 118, 119, 120, 121, 122]⟩
def hexd (n : Nat) : UInt8 := hexS.data.toList.getD n 0
def hexT (u : Nat) : List UInt8 := if u < 16 then [hexd u] else [hexd (u / 16), hexd (u % 16)]
theorem hexd_at {u : Nat} (h : u < hexS.size) : (hexS[u]'h) = hexd u := by
  unfold hexd
  have hl : u < hexS.data.toList.length := h
  rw [List.getD_eq_getElem?_getD, List.getElem?_eq_getElem hl]
  rfl
set_option maxRecDepth 1000000 in
set_option maxHeartbeats 8000000 in
theorem hexbits (u : Nat) (hu : u < 256) (w : World) (hT : w.cell? ⟨7, 15, none⟩ = some (.int .u8 4)) : Calls Tryd.prog 72 #[.slice none 0 0, .int .u64 (u : Int), .int .i64 16, .bool false, .bool false] w fun ev w' => ev = .returned (.tuple #[.slice none 0 0, strV (hexT u)]) ∧ Kp (fun _ => False) w w' := by
  have HP := Lib.hid (fun W => pow2_16 W)
  have HZ := Lib.hid (fun W h => tz_16 W h)
  go_enter Tryd.func72, Tryd.ntmps72
  go_wp2_with fail
  refine (HP.out _).mono ?_
  rintro ev w1 ⟨rfl, hw1⟩
  go_wp2_with fail
  have K0 := Lib.hid ((Kp.refl (fun _ => False) w).alloc (.cells Tryd.zeroCells107 107))
  have hT' := kp_kc0 hT K0.out
  have hbk := Lib.hid (Bk.new w 107 Tryd.zeroCells107)
  generalize hW : w.alloc (.cells Tryd.zeroCells107 107) = wb at *
  refine (HZ.out _ hT').mono ?_
  rintro ev w2 ⟨rfl, hw2⟩
  have p64 : wb.cell? ⟨w.heap.size, 64, none⟩ = some (.int .u8 0) := (hbk.out.cell 64).trans (by kernel_rfl)
  have p63 : wb.cell? ⟨w.heap.size, 63, none⟩ = some (.int .u8 0) := (hbk.out.cell 63).trans (by kernel_rfl)
  have f64 : wb.frozen? ⟨w.heap.size, 64, none⟩ = false := hbk.out.frozen 64
  have f63 : wb.frozen? ⟨w.heap.size, 63, none⟩ = false := hbk.out.frozen 63
  clear hT hT' hW HP HZ hw1
  by_cases h16 : u < 16
  · have a1 : ¬ (16 : Int) ≤ (u : Int) := by omega
    have a2 : (u : Int) < 16 := by omega
    have hst : ∀ D : Int, (convert 68 9 (.slice (some ⟨w.heap.size, 64, none⟩) 1 1)).run Tryd.prog (wb.setCell ⟨w.heap.size, 64, none⟩ (.int .u8 D)) = .ok (.string ⟨#[UInt8.ofNat D.toNat]⟩) (wb.setCell ⟨w.heap.size, 64, none⟩ (.int .u8 D)) := fun D => str1 (World.cell?_setCell_same' _ _ _ (by rw [p64]; rfl))
    have HT := Lib.hid (show hexT u = [hexd u] from if_pos h16)
    have hu36 : u < hexS.size := Nat.lt_trans h16 (by decide)
    have HX := Lib.hid (hexd_at hu36)
    go_wp2_with fail
    refine wp_loop_rounds 1 ?_
    rw [rounds_succ]
    go_wp2_with fail
    exact bodyPost_ret (results_tmp2 rfl _ _ _) rfl ⟨by rw [HT.out, ← HX.out]; rfl, K0.out.setCell (p := ⟨w.heap.size, 64, none⟩) (.inr (Nat.le_refl _)) _⟩
  · have a1 : (16 : Int) ≤ (u : Int) := by omega
    have y1 : bits BinOp.and IntKind.u64 (u : Int) 15 = ((u % 16 : Nat) : Int) := by
      rw [show (15 : Int) = ((15 : Nat) : Int) by rfl, u64_and_nat _ _ (by omega) (by omega), Nat.and_two_pow_sub_one_eq_mod _ 4]
    have y2 : (u : Int) / 16 = ((u / 16 : Nat) : Int) := rfl
    have hq : u / 16 < 16 := by omega
    have hr : u % 16 < 16 := Nat.mod_lt _ (by omega)
    have HT := Lib.hid (show hexT u = [hexd (u / 16), hexd (u % 16)] from if_neg h16)
    generalize u / 16 = q at *
    generalize u % 16 = r at *
    have HX := Lib.hid (hexd_at (Nat.lt_trans hq (by decide)))
    have HY := Lib.hid (hexd_at (Nat.lt_trans hr (by decide)))
    have hst : ∀ D E : Int, (convert 68 9 (.slice (some ⟨w.heap.size, 63, none⟩) 2 2)).run Tryd.prog ((wb.setCell ⟨w.heap.size, 64, none⟩ (.int .u8 D)).setCell ⟨w.heap.size, 63, none⟩ (.int .u8 E)) = .ok (.string ⟨#[UInt8.ofNat E.toNat, UInt8.ofNat D.toNat]⟩) ((wb.setCell ⟨w.heap.size, 64, none⟩ (.int .u8 D)).setCell ⟨w.heap.size, 63, none⟩ (.int .u8 E)) := fun D E => by
      have o1 : (wb.setCell ⟨w.heap.size, 64, none⟩ (.int .u8 D)).cell? ⟨w.heap.size, 63, none⟩ = some (.int .u8 0) := (World.cell?_setCell_other _ _ _ _ (by simp)).trans p63
      exact str2 (by omega) (World.cell?_setCell_same' _ _ _ (by rw [o1]; rfl)) ((World.cell?_setCell_other _ _ _ _ (by simp)).trans (World.cell?_setCell_same' _ _ _ (by rw [p64]; rfl)))
    have a2 : ¬ (16 : Int) ≤ (q : Int) := by omega
    have a3 : (q : Int) < 36 := by omega
    have a4 : (r : Int) < 36 := by omega
    go_wp2_with fail
    refine wp_loop_rounds 2 ?_
    rw [rounds_succ]
    go_wp2_with fail
    rw [rounds_succ]
    go_wp2_with fail
    exact bodyPost_ret (results_tmp2 rfl _ _ _) rfl ⟨by rw [HT.out, ← HX.out, ← HY.out]; rfl, (K0.out.setCell (p := ⟨w.heap.size, 64, none⟩) (.inr (Nat.le_refl _)) _).setCell (p := ⟨w.heap.size, 63, none⟩) (.inr (Nat.le_refl _)) _⟩
end Go.Proofs.YtkafdpidhelfdaaDoor
