/- Place: the walk of the reference's ParseMac. -/
import Derived.Test.YtkafdpidhelfdaaDoorPmj
set_option linter.unusedVariables false
set_option linter.unusedSimpArgs false
namespace Go.Proofs.YtkafdpidhelfdaaDoor
open Go.RowKit

theorem info36 : (Tryd.prog.info? 36).map (·.size) = some 6 := by kernel_rfl
theorem digv_hexd : ∀ p < 16, digv (hexd p).toNat = p := by decide +kernel
theorem digv_le (c : Nat) : digv c ≤ 15 := by
  unfold digv
  split
  · omega
  · split <;> omega
theorem run_idx9i (S : ByteArray) {p : Nat} (h : p < S.size) (W : World) : (Instr.index 9 (.string S) (.int .i64 (p : Int))).run Tryd.prog W = .ok (.int .u8 ((S[p]'h).toNat : Int)) W := by
  have h1 : (p : Int) < (S.size : Int) := by omega
  have h3 : ¬ (p : Int) < 0 := by omega
  simp [Instr.index, run_underlying Tryd.underlying9, asIntOf, go_sem, h1, h3, h]
theorem six' {ns : List Nat} (h : ns.length = 6) : ∃ a b c d e f, ns = [a, b, c, d, e, f] := by
  match ns, h with
  | [a, b, c, d, e, f], _ => exact ⟨a, b, c, d, e, f, rfl⟩
theorem mac_size {s : ByteArray} (h : s.size ≠ 17) : NoMac s := fun ns hl _ hs => by
  obtain ⟨a, b, c, d, e, f, rfl⟩ := six' hl
  refine h ?_
  have : s.data.toList.length = 17 := by rw [hs]; rfl
  rw [← this]
  show s.data.size = _
  simp
theorem tell_0 {s : ByteArray} (h : 1 < s.size) : Tells s 0 (some (digv (s[0]'(by omega)).toNat * 16 + digv (s[1]'h).toNat)) := fun ns hl hb hs => by
  obtain ⟨a, b, c, d, e, f, rfl⟩ := six' hl
  have hx := hb a (by simp)
  have e1 : s[0]'(by omega) = hexd (a / 16) := by
    have q : s.data.toList[0]? = some (hexd (a / 16)) := by rw [hs]; rfl
    rw [List.getElem?_eq_some_iff] at q
    obtain ⟨_, q⟩ := q
    exact q
  have e2 : s[1]'h = hexd (a % 16) := by
    have q : s.data.toList[1]? = some (hexd (a % 16)) := by rw [hs]; rfl
    rw [List.getElem?_eq_some_iff] at q
    obtain ⟨_, q⟩ := q
    exact q
  rw [e1, e2, digv_hexd _ (by omega), digv_hexd _ (by omega)]
  show some _ = some a
  congr 1
  omega
theorem tell_1 {s : ByteArray} (h : 4 < s.size) : Tells s 1 (some (digv (s[3]'(by omega)).toNat * 16 + digv (s[4]'h).toNat)) := fun ns hl hb hs => by
  obtain ⟨a, b, c, d, e, f, rfl⟩ := six' hl
  have hx := hb b (by simp)
  have e1 : s[3]'(by omega) = hexd (b / 16) := by
    have q : s.data.toList[3]? = some (hexd (b / 16)) := by rw [hs]; rfl
    rw [List.getElem?_eq_some_iff] at q
    obtain ⟨_, q⟩ := q
    exact q
  have e2 : s[4]'h = hexd (b % 16) := by
    have q : s.data.toList[4]? = some (hexd (b % 16)) := by rw [hs]; rfl
    rw [List.getElem?_eq_some_iff] at q
    obtain ⟨_, q⟩ := q
    exact q
  rw [e1, e2, digv_hexd _ (by omega), digv_hexd _ (by omega)]
  show some _ = some b
  congr 1
  omega
theorem tell_2 {s : ByteArray} (h : 7 < s.size) : Tells s 2 (some (digv (s[6]'(by omega)).toNat * 16 + digv (s[7]'h).toNat)) := fun ns hl hb hs => by
  obtain ⟨a, b, c, d, e, f, rfl⟩ := six' hl
  have hx := hb c (by simp)
  have e1 : s[6]'(by omega) = hexd (c / 16) := by
    have q : s.data.toList[6]? = some (hexd (c / 16)) := by rw [hs]; rfl
    rw [List.getElem?_eq_some_iff] at q
    obtain ⟨_, q⟩ := q
    exact q
  have e2 : s[7]'h = hexd (c % 16) := by
    have q : s.data.toList[7]? = some (hexd (c % 16)) := by rw [hs]; rfl
    rw [List.getElem?_eq_some_iff] at q
    obtain ⟨_, q⟩ := q
    exact q
  rw [e1, e2, digv_hexd _ (by omega), digv_hexd _ (by omega)]
  show some _ = some c
  congr 1
  omega
theorem tell_3 {s : ByteArray} (h : 10 < s.size) : Tells s 3 (some (digv (s[9]'(by omega)).toNat * 16 + digv (s[10]'h).toNat)) := fun ns hl hb hs => by
  obtain ⟨a, b, c, d, e, f, rfl⟩ := six' hl
  have hx := hb d (by simp)
  have e1 : s[9]'(by omega) = hexd (d / 16) := by
    have q : s.data.toList[9]? = some (hexd (d / 16)) := by rw [hs]; rfl
    rw [List.getElem?_eq_some_iff] at q
    obtain ⟨_, q⟩ := q
    exact q
  have e2 : s[10]'h = hexd (d % 16) := by
    have q : s.data.toList[10]? = some (hexd (d % 16)) := by rw [hs]; rfl
    rw [List.getElem?_eq_some_iff] at q
    obtain ⟨_, q⟩ := q
    exact q
  rw [e1, e2, digv_hexd _ (by omega), digv_hexd _ (by omega)]
  show some _ = some d
  congr 1
  omega
theorem tell_4 {s : ByteArray} (h : 13 < s.size) : Tells s 4 (some (digv (s[12]'(by omega)).toNat * 16 + digv (s[13]'h).toNat)) := fun ns hl hb hs => by
  obtain ⟨a, b, c, d, e, f, rfl⟩ := six' hl
  have hx := hb e (by simp)
  have e1 : s[12]'(by omega) = hexd (e / 16) := by
    have q : s.data.toList[12]? = some (hexd (e / 16)) := by rw [hs]; rfl
    rw [List.getElem?_eq_some_iff] at q
    obtain ⟨_, q⟩ := q
    exact q
  have e2 : s[13]'h = hexd (e % 16) := by
    have q : s.data.toList[13]? = some (hexd (e % 16)) := by rw [hs]; rfl
    rw [List.getElem?_eq_some_iff] at q
    obtain ⟨_, q⟩ := q
    exact q
  rw [e1, e2, digv_hexd _ (by omega), digv_hexd _ (by omega)]
  show some _ = some e
  congr 1
  omega
theorem tell_5 {s : ByteArray} (h : 16 < s.size) : Tells s 5 (some (digv (s[15]'(by omega)).toNat * 16 + digv (s[16]'h).toNat)) := fun ns hl hb hs => by
  obtain ⟨a, b, c, d, e, f, rfl⟩ := six' hl
  have hx := hb f (by simp)
  have e1 : s[15]'(by omega) = hexd (f / 16) := by
    have q : s.data.toList[15]? = some (hexd (f / 16)) := by rw [hs]; rfl
    rw [List.getElem?_eq_some_iff] at q
    obtain ⟨_, q⟩ := q
    exact q
  have e2 : s[16]'h = hexd (f % 16) := by
    have q : s.data.toList[16]? = some (hexd (f % 16)) := by rw [hs]; rfl
    rw [List.getElem?_eq_some_iff] at q
    obtain ⟨_, q⟩ := q
    exact q
  rw [e1, e2, digv_hexd _ (by omega), digv_hexd _ (by omega)]
  show some _ = some f
  congr 1
  omega
set_option maxRecDepth 1000000 in
set_option maxHeartbeats 8000000 in
theorem rparsemac_ (s : ByteArray) (w : World) (hs : s.size ≤ 1000) : Calls Tryd.prog 28 #[.string s] w fun ev w' => (∃ v, ev = .returned v ∧ PM s v) ∧ Kp (fun _ => False) w w' := by
  have kk := ((Kp.refl (fun _ => False) w).alloc (.cells (macC 0 0 0 0 0 0) 36)).alloc (.cells (macC 0 0 0 0 0 0) 36)
  have b0 := (Bk.new w 36 (macC 0 0 0 0 0 0)).alloc (.cells (macC 0 0 0 0 0 0) 36)
  have b1 := Bk.new (w.alloc (.cells (macC 0 0 0 0 0 0) 36)) 36 (macC 0 0 0 0 0 0)
  rw [World.size_alloc] at b1
  have HB1 := Lib.hid b1
  have K0 := Lib.hid (kp_row kk (g := w.heap.size + 1) (.inr (by omega)) (macC 0 0 0 0 0 0))
  have B0 := Lib.hid (show Bk _ w.heap.size 36 (macC 0 0 0 0 0 0) from (setRow_far (cs := macC 0 0 0 0 0 0) (g := w.heap.size + 1) (k := w.heap.size) (by omega)).trans b0)
  have B1 := Lib.hid (setRow_heap b1 (cs' := macC 0 0 0 0 0 0))
  clear kk b0 b1
  go_enter Tryd.func28, Tryd.ntmps28
  go_wp2_with
    ((with_reducible refine at_store (t := 36) (p := 4) (v := .tmp 6) rfl ?_)
     go_must (refine wpList_store_row (by rfl) 36 (.tmp 4) (.tmp 6) (by rfl) (w.heap.size + 1) (macC 0 0 0 0 0 0) (by rfl) (by rfl) 36 (macC 0 0 0 0 0 0) HB1.out info36 rfl (mac_one _ _ _ _ _ _) ?_))
  clear HB1
  have hZ : (((w.alloc (.cells #[.int .u8 0, .int .u8 0, .int .u8 0, .int .u8 0, .int .u8 0, .int .u8 0] 36)).alloc (.cells #[.int .u8 0, .int .u8 0, .int .u8 0, .int .u8 0, .int .u8 0, .int .u8 0] 36)).setRow (w.heap.size + 1) (macC 0 0 0 0 0 0)) = ((w.alloc (.cells (macC 0 0 0 0 0 0) 36)).alloc (.cells (macC 0 0 0 0 0 0) 36)).setRow (w.heap.size + 1) (macC 0 0 0 0 0 0) := rfl
  rw [hZ]
  clear hZ
  generalize ((w.alloc (.cells (macC 0 0 0 0 0 0) 36)).alloc (.cells (macC 0 0 0 0 0 0) 36)).setRow (w.heap.size + 1) (macC 0 0 0 0 0 0) = wb at *
  go_loopw [5] (fun iv wr => ∃ (k a b c d e f : Nat), k ≤ 6 ∧ iv = .int .i64 (k : Int) ∧ Gd s k [a, b, c, d, e, f] ∧ Bk wr w.heap.size 36 (macC 0 0 0 0 0 0) ∧ Bk wr (w.heap.size + 1) 36 (macC a b c d e f) ∧ Kp (fun _ => False) w wr) (fun iv _ => (32 - intOf iv).toNat)
  case atStart => exact ⟨0, 0, 0, 0, 0, 0, 0, by omega, rfl, Gd.zero s, B0.out, B1.out, K0.out⟩
  case round =>
    obtain ⟨k, a, b, c, d, e, f, hk, rfl, hgd, hb0, hb1, hkp⟩ := hrel
    clear B0 B1 K0
    have G := Lib.hid hgd
    have HR := Lib.hid hb0
    have HM := Lib.hid hb1
    have HK := Lib.hid hkp
    clear hgd hb0 hb1 hkp
    by_cases hc : k < 6 ∧ 3 * k + 1 < s.size
    · obtain ⟨hc6, hcs⟩ := hc
      clear hk
      rcases (show k = 0 ∨ k = 1 ∨ k = 2 ∨ k = 3 ∨ k = 4 ∨ k = 5 by omega) with rfl | rfl | rfl | rfl | rfl | rfl
      · have hi1 : 1 < s.size := hcs
        have hi0 : 0 < s.size := by omega
        have hI1 : (1 : Int) < (s.size : Int) := by omega
        have z0 : IntKind.i64.wrap 0 = 0 := by decide
        have z1 : IntKind.i64.wrap 1 = 1 := by decide
        have x0 : ∀ W, (Instr.index 9 (.string s) (.int .i64 0)).run Tryd.prog W = .ok (.int .u8 ((s[0]'hi0).toNat : Int)) W := run_idx9i s hi0
        have x1 : ∀ W, (Instr.index 9 (.string s) (.int .i64 1)).run Tryd.prog W = .ok (.int .u8 ((s[1]'hi1).toNat : Int)) W := run_idx9i s hi1
        have HG := Lib.hid (G.out.next (by omega) (tell_0 hi1) (by have := digv_le (s[0]'hi0).toNat; have := digv_le (s[1]'hi1).toNat; omega))
        have y0 := (s[0]'hi0).toNat_lt
        have y1 := (s[1]'hi1).toNat_lt
        generalize (s[0]'hi0).toNat = x at *
        generalize (s[1]'hi1).toNat = y at *
        have D0 := Lib.hid (fun W => (digit_ x W y0).mono (fun ev w' h => (⟨h.1, h.2 ▸ Kp.refl (fun _ => False) W⟩ : _ ∧ Kp (fun _ => False) W w')))
        have D1 := Lib.hid (fun W => (digit_ y W y1).mono (fun ev w' h => (⟨h.1, h.2 ▸ Kp.refl (fun _ => False) W⟩ : _ ∧ Kp (fun _ => False) W w')))
        have l0 := digv_le x
        have l1 := digv_le y
        generalize digv x = p at *
        generalize digv y = q at *
        obtain ⟨z, hz⟩ : ∃ z, z = p * 16 + q := ⟨_, rfl⟩
        rw [← hz] at HG
        have e1 : IntKind.u8.wrap ((p : Int) * 16) = (p : Int) * 16 := by
          show ((p : Int) * 16) % 256 = _
          omega
        have e2 : IntKind.u8.wrap (z : Int) = (z : Int) := by
          show (z : Int) % 256 = _
          omega
        have e3 : ((p : Int) * 16 + (q : Int)) = (z : Int) := by omega
        clear hc6 hcs hz
        go_wp2_with fail
        have KF := Lib.hid (Kp.refl (fun _ => False) wr).drew
        have KC := Lib.hid (Kp.refl (fun b => b = w.heap.size + 1) wr).drew
        refine wp_region_held_drew (S := (fun w' => Kp (fun b => b = w.heap.size + 1) wr w')) (by kernel_rfl) (KC.out) (fun hHeld => ?_)
        refine wpAnyH_take (i := 0) (v := ?v0_0) rfl (by kernel_rfl) (by kernel_rfl) (by kernel_rfl) (fun _ _ _ h => h) (Or.inl ⟨by rfl, ?y0_0⟩) (by assumption) ?r0_0
        case y0_0 => (intro w hSw; (try dsimp only at hSw); go_simp; first | done | with_reducible rfl)
        try simp only [Act.put, List.getElem_toArray, List.getElem_cons_succ, List.getElem_cons_zero, List.setIfInBounds_toArray, List.set_cons_zero, List.set_cons_succ]
        refine wpAnyH_take (i := 1) (v := ?v1_1) rfl (by kernel_rfl) (by kernel_rfl) (by kernel_rfl) (fun _ _ _ h => h) (Or.inl ⟨by rfl, ?y1_1⟩) (by assumption) ?r1_1
        case y1_1 => (intro w hSw; (try dsimp only at hSw); go_simp; first | done | with_reducible rfl)
        try simp only [Act.put, List.getElem_toArray, List.getElem_cons_succ, List.getElem_cons_zero, List.setIfInBounds_toArray, List.set_cons_zero, List.set_cons_succ]
        refine wpAnyH_take (i := 2) (v := ?v2_2) rfl (by kernel_rfl) (by kernel_rfl) (by kernel_rfl) (fun _ _ _ h => h) (Or.inl ⟨by rfl, ?y2_2⟩) (by assumption) ?r2_2
        case y2_2 => (intro w hSw; (try dsimp only at hSw); go_simp; first | done | with_reducible rfl)
        try simp only [Act.put, List.getElem_toArray, List.getElem_cons_succ, List.getElem_cons_zero, List.setIfInBounds_toArray, List.set_cons_zero, List.set_cons_succ]
        refine wpAnyH_take (i := 3) (v := ?v3_3) rfl (by kernel_rfl) (by kernel_rfl) (by kernel_rfl) (fun _ _ _ h => h) (Or.inl ⟨by rfl, ?y3_3⟩) (by assumption) ?r3_3
        case y3_3 => (intro w hSw; (try dsimp only at hSw); go_simp; first | done | with_reducible rfl)
        try simp only [Act.put, List.getElem_toArray, List.getElem_cons_succ, List.getElem_cons_zero, List.setIfInBounds_toArray, List.set_cons_zero, List.set_cons_succ]
        refine wpAnyH_take (i := 4) (v := ?v4_4) rfl (by kernel_rfl) (by kernel_rfl) (by kernel_rfl) (fun _ _ _ h => h) (Or.inl ⟨by rfl, ?y4_4⟩) (by assumption) ?r4_4
        case y4_4 => (intro w hSw; (try dsimp only at hSw); go_simp; first | done | with_reducible rfl)
        try simp only [Act.put, List.getElem_toArray, List.getElem_cons_succ, List.getElem_cons_zero, List.setIfInBounds_toArray, List.set_cons_zero, List.set_cons_succ]
        refine wpAnyH_take (i := 7) (v := ?v7_5) rfl (by kernel_rfl) (by kernel_rfl) (by kernel_rfl) (fun _ _ _ h => h) (Or.inl ⟨by rfl, ?y7_5⟩) (by assumption) ?r7_5
        case y7_5 => (intro w hSw; (try dsimp only at hSw); go_simp; first | done | with_reducible rfl)
        try simp only [Act.put, List.getElem_toArray, List.getElem_cons_succ, List.getElem_cons_zero, List.setIfInBounds_toArray, List.set_cons_zero, List.set_cons_succ]
        refine wpAnyH_take (i := 8) (v := ?v8_6) rfl (by kernel_rfl) (by kernel_rfl) (by kernel_rfl) (fun _ _ _ h => h) (Or.inl ⟨by rfl, ?y8_6⟩) (by assumption) ?r8_6
        case y8_6 => (intro w hSw; (try dsimp only at hSw); go_simp; first | done | with_reducible rfl)
        try simp only [Act.put, List.getElem_toArray, List.getElem_cons_succ, List.getElem_cons_zero, List.setIfInBounds_toArray, List.set_cons_zero, List.set_cons_succ]
        refine wpAnyH_take (i := 9) (v := ?v9_7) rfl (by kernel_rfl) (by kernel_rfl) (by kernel_rfl) (fun _ _ _ h => h) (Or.inl ⟨by rfl, ?y9_7⟩) (by assumption) ?r9_7
        case y9_7 => (intro w hSw; (try dsimp only at hSw); go_simp; first | done | with_reducible rfl)
        try simp only [Act.put, List.getElem_toArray, List.getElem_cons_succ, List.getElem_cons_zero, List.setIfInBounds_toArray, List.set_cons_zero, List.set_cons_succ]
        refine wpAnyH_take (i := 10) (v := ?v10_8) rfl (by kernel_rfl) (by kernel_rfl) (by kernel_rfl) (fun _ _ _ h => h) (Or.inl ⟨by rfl, ?y10_8⟩) (by assumption) ?r10_8
        case y10_8 => (intro w hSw; (try dsimp only at hSw); go_simp; first | done | with_reducible rfl)
        try simp only [Act.put, List.getElem_toArray, List.getElem_cons_succ, List.getElem_cons_zero, List.setIfInBounds_toArray, List.set_cons_zero, List.set_cons_succ]
        refine wpAnyH_take (i := 11) (v := ?v11_9) rfl (by kernel_rfl) (by kernel_rfl) (by kernel_rfl) (fun _ _ _ h => h) (Or.inl ⟨by rfl, ?y11_9⟩) (by assumption) ?r11_9
        case y11_9 => (intro w hSw; (try dsimp only at hSw); go_simp; first | done | with_reducible rfl)
        try simp only [Act.put, List.getElem_toArray, List.getElem_cons_succ, List.getElem_cons_zero, List.setIfInBounds_toArray, List.set_cons_zero, List.set_cons_succ]
        refine wpAnyH_ready (rs := [5]) (by kernel_rfl) (by simp) ?_
        refine AllReadyH.cons rfl (fun K hK => ?_) AllReadyH.nil
        go_simp
        with_reducible refine (D0.out _).mono ?_
        rintro ev v5 ⟨rfl, k5⟩
        have KF := Lib.hid (KF.out.trans' k5)
        have KC := Lib.hid (KF.out.mono (T := fun b => b = w.heap.size + 1) (fun _ f => f.elim))
        clear k5
        try dsimp only
        refine hK.out _ _ (KC.out) (fun hHeld => ?_)
        clear hK K
        try simp only [Act.put, List.getElem_toArray, List.getElem_cons_succ, List.getElem_cons_zero, List.setIfInBounds_toArray, List.set_cons_zero, List.set_cons_succ]
        refine wpAnyH_take (i := 6) (v := ?v6_10) rfl (by kernel_rfl) (by kernel_rfl) (by kernel_rfl) (fun _ _ _ h => h) (Or.inl ⟨by rfl, ?y6_10⟩) (by assumption) ?r6_10
        case y6_10 => (intro w hSw; (try dsimp only at hSw); go_simp; first | done | with_reducible rfl)
        try simp only [Act.put, List.getElem_toArray, List.getElem_cons_succ, List.getElem_cons_zero, List.setIfInBounds_toArray, List.set_cons_zero, List.set_cons_succ]
        refine wpAnyH_ready (rs := [12]) (by kernel_rfl) (by simp) ?_
        refine AllReadyH.cons rfl (fun K hK => ?_) AllReadyH.nil
        go_simp
        with_reducible refine (D1.out _).mono ?_
        rintro ev v12 ⟨rfl, k12⟩
        have KF := Lib.hid (KF.out.trans' k12)
        have KC := Lib.hid (KF.out.mono (T := fun b => b = w.heap.size + 1) (fun _ f => f.elim))
        clear k12
        try dsimp only
        refine hK.out _ _ (KC.out) (fun hHeld => ?_)
        clear hK K
        try simp only [Act.put, List.getElem_toArray, List.getElem_cons_succ, List.getElem_cons_zero, List.setIfInBounds_toArray, List.set_cons_zero, List.set_cons_succ]
        refine wpAnyH_take (i := 13) (v := ?v13_11) rfl (by kernel_rfl) (by kernel_rfl) (by kernel_rfl) (fun _ _ _ h => h) (Or.inl ⟨by rfl, ?y13_11⟩) (by assumption) ?r13_11
        case y13_11 => (intro w hSw; (try dsimp only at hSw); go_simp; first | done | with_reducible rfl)
        try simp only [Act.put, List.getElem_toArray, List.getElem_cons_succ, List.getElem_cons_zero, List.setIfInBounds_toArray, List.set_cons_zero, List.set_cons_succ]
        refine wpAnyH_take (i := 14) (v := ?v14_12) rfl (by kernel_rfl) (by kernel_rfl) (by kernel_rfl) (fun _ _ _ h => h) (Or.inl ⟨by rfl, ?y14_12⟩) (by assumption) ?r14_12
        case y14_12 => (intro w hSw; (try dsimp only at hSw); go_simp; first | done | with_reducible rfl)
        try simp only [Act.put, List.getElem_toArray, List.getElem_cons_succ, List.getElem_cons_zero, List.setIfInBounds_toArray, List.set_cons_zero, List.set_cons_succ]
        refine wpAnyH_ready (rs := [15]) (by kernel_rfl) (by simp) ?_
        refine AllReadyH.cons rfl (fun K hK => ?_) AllReadyH.nil
        have c1 : v12.cell? ⟨w.heap.size + 1, 0, none⟩ = some (.int .u8 (a : Int)) := (HM.out.kept KF.out (fun f => f)).cell 0
        have c2 : v12.frozen? ⟨w.heap.size + 1, 0, none⟩ = false := (HM.out.kept KF.out (fun f => f)).frozen 0
        go_simp
        have KC := Lib.hid (KC.out.setCell (p := ⟨w.heap.size + 1, 0, none⟩) (.inl rfl) (.int .u8 (z : Int)))
        refine hK.out _ _ (KC.out) (fun hHeld => ?_)
        clear hK K
        try simp only [Act.put, List.getElem_toArray, List.getElem_cons_succ, List.getElem_cons_zero, List.setIfInBounds_toArray, List.set_cons_zero, List.set_cons_succ]
        refine wpAnyH_done (by kernel_rfl) ?_ _
        go_wp2_with fail
        go_roundw
        case rel => exact ⟨1, z, b, c, d, e, f, by omega, rfl, HG.out, (HR.out.kept KF.out (fun f => f)).far (by simp) _, (HM.out.kept KF.out (fun f => f)).put 0 _, (HK.out.trans' KF.out).setCell (.inr (by show w.heap.size ≤ w.heap.size + 1; omega)) _⟩
        case measure => simp [intOf]
      · have hi1 : 4 < s.size := hcs
        have hi0 : 3 < s.size := by omega
        have hI1 : (4 : Int) < (s.size : Int) := by omega
        have z0 : IntKind.i64.wrap 3 = 3 := by decide
        have z1 : IntKind.i64.wrap 4 = 4 := by decide
        have x0 : ∀ W, (Instr.index 9 (.string s) (.int .i64 3)).run Tryd.prog W = .ok (.int .u8 ((s[3]'hi0).toNat : Int)) W := run_idx9i s hi0
        have x1 : ∀ W, (Instr.index 9 (.string s) (.int .i64 4)).run Tryd.prog W = .ok (.int .u8 ((s[4]'hi1).toNat : Int)) W := run_idx9i s hi1
        have HG := Lib.hid (G.out.next (by omega) (tell_1 hi1) (by have := digv_le (s[3]'hi0).toNat; have := digv_le (s[4]'hi1).toNat; omega))
        have y0 := (s[3]'hi0).toNat_lt
        have y1 := (s[4]'hi1).toNat_lt
        generalize (s[3]'hi0).toNat = x at *
        generalize (s[4]'hi1).toNat = y at *
        have D0 := Lib.hid (fun W => (digit_ x W y0).mono (fun ev w' h => (⟨h.1, h.2 ▸ Kp.refl (fun _ => False) W⟩ : _ ∧ Kp (fun _ => False) W w')))
        have D1 := Lib.hid (fun W => (digit_ y W y1).mono (fun ev w' h => (⟨h.1, h.2 ▸ Kp.refl (fun _ => False) W⟩ : _ ∧ Kp (fun _ => False) W w')))
        have l0 := digv_le x
        have l1 := digv_le y
        generalize digv x = p at *
        generalize digv y = q at *
        obtain ⟨z, hz⟩ : ∃ z, z = p * 16 + q := ⟨_, rfl⟩
        rw [← hz] at HG
        have e1 : IntKind.u8.wrap ((p : Int) * 16) = (p : Int) * 16 := by
          show ((p : Int) * 16) % 256 = _
          omega
        have e2 : IntKind.u8.wrap (z : Int) = (z : Int) := by
          show (z : Int) % 256 = _
          omega
        have e3 : ((p : Int) * 16 + (q : Int)) = (z : Int) := by omega
        clear hc6 hcs hz
        go_wp2_with fail
        have KF := Lib.hid (Kp.refl (fun _ => False) wr).drew
        have KC := Lib.hid (Kp.refl (fun b => b = w.heap.size + 1) wr).drew
        refine wp_region_held_drew (S := (fun w' => Kp (fun b => b = w.heap.size + 1) wr w')) (by kernel_rfl) (KC.out) (fun hHeld => ?_)
        refine wpAnyH_take (i := 0) (v := ?v0_13) rfl (by kernel_rfl) (by kernel_rfl) (by kernel_rfl) (fun _ _ _ h => h) (Or.inl ⟨by rfl, ?y0_13⟩) (by assumption) ?r0_13
        case y0_13 => (intro w hSw; (try dsimp only at hSw); go_simp; first | done | with_reducible rfl)
        try simp only [Act.put, List.getElem_toArray, List.getElem_cons_succ, List.getElem_cons_zero, List.setIfInBounds_toArray, List.set_cons_zero, List.set_cons_succ]
        refine wpAnyH_take (i := 1) (v := ?v1_14) rfl (by kernel_rfl) (by kernel_rfl) (by kernel_rfl) (fun _ _ _ h => h) (Or.inl ⟨by rfl, ?y1_14⟩) (by assumption) ?r1_14
        case y1_14 => (intro w hSw; (try dsimp only at hSw); go_simp; first | done | with_reducible rfl)
        try simp only [Act.put, List.getElem_toArray, List.getElem_cons_succ, List.getElem_cons_zero, List.setIfInBounds_toArray, List.set_cons_zero, List.set_cons_succ]
        refine wpAnyH_take (i := 2) (v := ?v2_15) rfl (by kernel_rfl) (by kernel_rfl) (by kernel_rfl) (fun _ _ _ h => h) (Or.inl ⟨by rfl, ?y2_15⟩) (by assumption) ?r2_15
        case y2_15 => (intro w hSw; (try dsimp only at hSw); go_simp; first | done | with_reducible rfl)
        try simp only [Act.put, List.getElem_toArray, List.getElem_cons_succ, List.getElem_cons_zero, List.setIfInBounds_toArray, List.set_cons_zero, List.set_cons_succ]
        refine wpAnyH_take (i := 3) (v := ?v3_16) rfl (by kernel_rfl) (by kernel_rfl) (by kernel_rfl) (fun _ _ _ h => h) (Or.inl ⟨by rfl, ?y3_16⟩) (by assumption) ?r3_16
        case y3_16 => (intro w hSw; (try dsimp only at hSw); go_simp; first | done | with_reducible rfl)
        try simp only [Act.put, List.getElem_toArray, List.getElem_cons_succ, List.getElem_cons_zero, List.setIfInBounds_toArray, List.set_cons_zero, List.set_cons_succ]
        refine wpAnyH_take (i := 4) (v := ?v4_17) rfl (by kernel_rfl) (by kernel_rfl) (by kernel_rfl) (fun _ _ _ h => h) (Or.inl ⟨by rfl, ?y4_17⟩) (by assumption) ?r4_17
        case y4_17 => (intro w hSw; (try dsimp only at hSw); go_simp; first | done | with_reducible rfl)
        try simp only [Act.put, List.getElem_toArray, List.getElem_cons_succ, List.getElem_cons_zero, List.setIfInBounds_toArray, List.set_cons_zero, List.set_cons_succ]
        refine wpAnyH_take (i := 7) (v := ?v7_18) rfl (by kernel_rfl) (by kernel_rfl) (by kernel_rfl) (fun _ _ _ h => h) (Or.inl ⟨by rfl, ?y7_18⟩) (by assumption) ?r7_18
        case y7_18 => (intro w hSw; (try dsimp only at hSw); go_simp; first | done | with_reducible rfl)
        try simp only [Act.put, List.getElem_toArray, List.getElem_cons_succ, List.getElem_cons_zero, List.setIfInBounds_toArray, List.set_cons_zero, List.set_cons_succ]
        refine wpAnyH_take (i := 8) (v := ?v8_19) rfl (by kernel_rfl) (by kernel_rfl) (by kernel_rfl) (fun _ _ _ h => h) (Or.inl ⟨by rfl, ?y8_19⟩) (by assumption) ?r8_19
        case y8_19 => (intro w hSw; (try dsimp only at hSw); go_simp; first | done | with_reducible rfl)
        try simp only [Act.put, List.getElem_toArray, List.getElem_cons_succ, List.getElem_cons_zero, List.setIfInBounds_toArray, List.set_cons_zero, List.set_cons_succ]
        refine wpAnyH_take (i := 9) (v := ?v9_20) rfl (by kernel_rfl) (by kernel_rfl) (by kernel_rfl) (fun _ _ _ h => h) (Or.inl ⟨by rfl, ?y9_20⟩) (by assumption) ?r9_20
        case y9_20 => (intro w hSw; (try dsimp only at hSw); go_simp; first | done | with_reducible rfl)
        try simp only [Act.put, List.getElem_toArray, List.getElem_cons_succ, List.getElem_cons_zero, List.setIfInBounds_toArray, List.set_cons_zero, List.set_cons_succ]
        refine wpAnyH_take (i := 10) (v := ?v10_21) rfl (by kernel_rfl) (by kernel_rfl) (by kernel_rfl) (fun _ _ _ h => h) (Or.inl ⟨by rfl, ?y10_21⟩) (by assumption) ?r10_21
        case y10_21 => (intro w hSw; (try dsimp only at hSw); go_simp; first | done | with_reducible rfl)
        try simp only [Act.put, List.getElem_toArray, List.getElem_cons_succ, List.getElem_cons_zero, List.setIfInBounds_toArray, List.set_cons_zero, List.set_cons_succ]
        refine wpAnyH_take (i := 11) (v := ?v11_22) rfl (by kernel_rfl) (by kernel_rfl) (by kernel_rfl) (fun _ _ _ h => h) (Or.inl ⟨by rfl, ?y11_22⟩) (by assumption) ?r11_22
        case y11_22 => (intro w hSw; (try dsimp only at hSw); go_simp; first | done | with_reducible rfl)
        try simp only [Act.put, List.getElem_toArray, List.getElem_cons_succ, List.getElem_cons_zero, List.setIfInBounds_toArray, List.set_cons_zero, List.set_cons_succ]
        refine wpAnyH_ready (rs := [5]) (by kernel_rfl) (by simp) ?_
        refine AllReadyH.cons rfl (fun K hK => ?_) AllReadyH.nil
        go_simp
        with_reducible refine (D0.out _).mono ?_
        rintro ev v5 ⟨rfl, k5⟩
        have KF := Lib.hid (KF.out.trans' k5)
        have KC := Lib.hid (KF.out.mono (T := fun b => b = w.heap.size + 1) (fun _ f => f.elim))
        clear k5
        try dsimp only
        refine hK.out _ _ (KC.out) (fun hHeld => ?_)
        clear hK K
        try simp only [Act.put, List.getElem_toArray, List.getElem_cons_succ, List.getElem_cons_zero, List.setIfInBounds_toArray, List.set_cons_zero, List.set_cons_succ]
        refine wpAnyH_take (i := 6) (v := ?v6_23) rfl (by kernel_rfl) (by kernel_rfl) (by kernel_rfl) (fun _ _ _ h => h) (Or.inl ⟨by rfl, ?y6_23⟩) (by assumption) ?r6_23
        case y6_23 => (intro w hSw; (try dsimp only at hSw); go_simp; first | done | with_reducible rfl)
        try simp only [Act.put, List.getElem_toArray, List.getElem_cons_succ, List.getElem_cons_zero, List.setIfInBounds_toArray, List.set_cons_zero, List.set_cons_succ]
        refine wpAnyH_ready (rs := [12]) (by kernel_rfl) (by simp) ?_
        refine AllReadyH.cons rfl (fun K hK => ?_) AllReadyH.nil
        go_simp
        with_reducible refine (D1.out _).mono ?_
        rintro ev v12 ⟨rfl, k12⟩
        have KF := Lib.hid (KF.out.trans' k12)
        have KC := Lib.hid (KF.out.mono (T := fun b => b = w.heap.size + 1) (fun _ f => f.elim))
        clear k12
        try dsimp only
        refine hK.out _ _ (KC.out) (fun hHeld => ?_)
        clear hK K
        try simp only [Act.put, List.getElem_toArray, List.getElem_cons_succ, List.getElem_cons_zero, List.setIfInBounds_toArray, List.set_cons_zero, List.set_cons_succ]
        refine wpAnyH_take (i := 13) (v := ?v13_24) rfl (by kernel_rfl) (by kernel_rfl) (by kernel_rfl) (fun _ _ _ h => h) (Or.inl ⟨by rfl, ?y13_24⟩) (by assumption) ?r13_24
        case y13_24 => (intro w hSw; (try dsimp only at hSw); go_simp; first | done | with_reducible rfl)
        try simp only [Act.put, List.getElem_toArray, List.getElem_cons_succ, List.getElem_cons_zero, List.setIfInBounds_toArray, List.set_cons_zero, List.set_cons_succ]
        refine wpAnyH_take (i := 14) (v := ?v14_25) rfl (by kernel_rfl) (by kernel_rfl) (by kernel_rfl) (fun _ _ _ h => h) (Or.inl ⟨by rfl, ?y14_25⟩) (by assumption) ?r14_25
        case y14_25 => (intro w hSw; (try dsimp only at hSw); go_simp; first | done | with_reducible rfl)
        try simp only [Act.put, List.getElem_toArray, List.getElem_cons_succ, List.getElem_cons_zero, List.setIfInBounds_toArray, List.set_cons_zero, List.set_cons_succ]
        refine wpAnyH_ready (rs := [15]) (by kernel_rfl) (by simp) ?_
        refine AllReadyH.cons rfl (fun K hK => ?_) AllReadyH.nil
        have c1 : v12.cell? ⟨w.heap.size + 1, 1, none⟩ = some (.int .u8 (b : Int)) := (HM.out.kept KF.out (fun f => f)).cell 1
        have c2 : v12.frozen? ⟨w.heap.size + 1, 1, none⟩ = false := (HM.out.kept KF.out (fun f => f)).frozen 1
        go_simp
        have KC := Lib.hid (KC.out.setCell (p := ⟨w.heap.size + 1, 1, none⟩) (.inl rfl) (.int .u8 (z : Int)))
        refine hK.out _ _ (KC.out) (fun hHeld => ?_)
        clear hK K
        try simp only [Act.put, List.getElem_toArray, List.getElem_cons_succ, List.getElem_cons_zero, List.setIfInBounds_toArray, List.set_cons_zero, List.set_cons_succ]
        refine wpAnyH_done (by kernel_rfl) ?_ _
        go_wp2_with fail
        go_roundw
        case rel => exact ⟨2, a, z, c, d, e, f, by omega, rfl, HG.out, (HR.out.kept KF.out (fun f => f)).far (by simp) _, (HM.out.kept KF.out (fun f => f)).put 1 _, (HK.out.trans' KF.out).setCell (.inr (by show w.heap.size ≤ w.heap.size + 1; omega)) _⟩
        case measure => simp [intOf]
      · have hi1 : 7 < s.size := hcs
        have hi0 : 6 < s.size := by omega
        have hI1 : (7 : Int) < (s.size : Int) := by omega
        have z0 : IntKind.i64.wrap 6 = 6 := by decide
        have z1 : IntKind.i64.wrap 7 = 7 := by decide
        have x0 : ∀ W, (Instr.index 9 (.string s) (.int .i64 6)).run Tryd.prog W = .ok (.int .u8 ((s[6]'hi0).toNat : Int)) W := run_idx9i s hi0
        have x1 : ∀ W, (Instr.index 9 (.string s) (.int .i64 7)).run Tryd.prog W = .ok (.int .u8 ((s[7]'hi1).toNat : Int)) W := run_idx9i s hi1
        have HG := Lib.hid (G.out.next (by omega) (tell_2 hi1) (by have := digv_le (s[6]'hi0).toNat; have := digv_le (s[7]'hi1).toNat; omega))
        have y0 := (s[6]'hi0).toNat_lt
        have y1 := (s[7]'hi1).toNat_lt
        generalize (s[6]'hi0).toNat = x at *
        generalize (s[7]'hi1).toNat = y at *
        have D0 := Lib.hid (fun W => (digit_ x W y0).mono (fun ev w' h => (⟨h.1, h.2 ▸ Kp.refl (fun _ => False) W⟩ : _ ∧ Kp (fun _ => False) W w')))
        have D1 := Lib.hid (fun W => (digit_ y W y1).mono (fun ev w' h => (⟨h.1, h.2 ▸ Kp.refl (fun _ => False) W⟩ : _ ∧ Kp (fun _ => False) W w')))
        have l0 := digv_le x
        have l1 := digv_le y
        generalize digv x = p at *
        generalize digv y = q at *
        obtain ⟨z, hz⟩ : ∃ z, z = p * 16 + q := ⟨_, rfl⟩
        rw [← hz] at HG
        have e1 : IntKind.u8.wrap ((p : Int) * 16) = (p : Int) * 16 := by
          show ((p : Int) * 16) % 256 = _
          omega
        have e2 : IntKind.u8.wrap (z : Int) = (z : Int) := by
          show (z : Int) % 256 = _
          omega
        have e3 : ((p : Int) * 16 + (q : Int)) = (z : Int) := by omega
        clear hc6 hcs hz
        go_wp2_with fail
        have KF := Lib.hid (Kp.refl (fun _ => False) wr).drew
        have KC := Lib.hid (Kp.refl (fun b => b = w.heap.size + 1) wr).drew
        refine wp_region_held_drew (S := (fun w' => Kp (fun b => b = w.heap.size + 1) wr w')) (by kernel_rfl) (KC.out) (fun hHeld => ?_)
        refine wpAnyH_take (i := 0) (v := ?v0_26) rfl (by kernel_rfl) (by kernel_rfl) (by kernel_rfl) (fun _ _ _ h => h) (Or.inl ⟨by rfl, ?y0_26⟩) (by assumption) ?r0_26
        case y0_26 => (intro w hSw; (try dsimp only at hSw); go_simp; first | done | with_reducible rfl)
        try simp only [Act.put, List.getElem_toArray, List.getElem_cons_succ, List.getElem_cons_zero, List.setIfInBounds_toArray, List.set_cons_zero, List.set_cons_succ]
        refine wpAnyH_take (i := 1) (v := ?v1_27) rfl (by kernel_rfl) (by kernel_rfl) (by kernel_rfl) (fun _ _ _ h => h) (Or.inl ⟨by rfl, ?y1_27⟩) (by assumption) ?r1_27
        case y1_27 => (intro w hSw; (try dsimp only at hSw); go_simp; first | done | with_reducible rfl)
        try simp only [Act.put, List.getElem_toArray, List.getElem_cons_succ, List.getElem_cons_zero, List.setIfInBounds_toArray, List.set_cons_zero, List.set_cons_succ]
        refine wpAnyH_take (i := 2) (v := ?v2_28) rfl (by kernel_rfl) (by kernel_rfl) (by kernel_rfl) (fun _ _ _ h => h) (Or.inl ⟨by rfl, ?y2_28⟩) (by assumption) ?r2_28
        case y2_28 => (intro w hSw; (try dsimp only at hSw); go_simp; first | done | with_reducible rfl)
        try simp only [Act.put, List.getElem_toArray, List.getElem_cons_succ, List.getElem_cons_zero, List.setIfInBounds_toArray, List.set_cons_zero, List.set_cons_succ]
        refine wpAnyH_take (i := 3) (v := ?v3_29) rfl (by kernel_rfl) (by kernel_rfl) (by kernel_rfl) (fun _ _ _ h => h) (Or.inl ⟨by rfl, ?y3_29⟩) (by assumption) ?r3_29
        case y3_29 => (intro w hSw; (try dsimp only at hSw); go_simp; first | done | with_reducible rfl)
        try simp only [Act.put, List.getElem_toArray, List.getElem_cons_succ, List.getElem_cons_zero, List.setIfInBounds_toArray, List.set_cons_zero, List.set_cons_succ]
        refine wpAnyH_take (i := 4) (v := ?v4_30) rfl (by kernel_rfl) (by kernel_rfl) (by kernel_rfl) (fun _ _ _ h => h) (Or.inl ⟨by rfl, ?y4_30⟩) (by assumption) ?r4_30
        case y4_30 => (intro w hSw; (try dsimp only at hSw); go_simp; first | done | with_reducible rfl)
        try simp only [Act.put, List.getElem_toArray, List.getElem_cons_succ, List.getElem_cons_zero, List.setIfInBounds_toArray, List.set_cons_zero, List.set_cons_succ]
        refine wpAnyH_take (i := 7) (v := ?v7_31) rfl (by kernel_rfl) (by kernel_rfl) (by kernel_rfl) (fun _ _ _ h => h) (Or.inl ⟨by rfl, ?y7_31⟩) (by assumption) ?r7_31
        case y7_31 => (intro w hSw; (try dsimp only at hSw); go_simp; first | done | with_reducible rfl)
        try simp only [Act.put, List.getElem_toArray, List.getElem_cons_succ, List.getElem_cons_zero, List.setIfInBounds_toArray, List.set_cons_zero, List.set_cons_succ]
        refine wpAnyH_take (i := 8) (v := ?v8_32) rfl (by kernel_rfl) (by kernel_rfl) (by kernel_rfl) (fun _ _ _ h => h) (Or.inl ⟨by rfl, ?y8_32⟩) (by assumption) ?r8_32
        case y8_32 => (intro w hSw; (try dsimp only at hSw); go_simp; first | done | with_reducible rfl)
        try simp only [Act.put, List.getElem_toArray, List.getElem_cons_succ, List.getElem_cons_zero, List.setIfInBounds_toArray, List.set_cons_zero, List.set_cons_succ]
        refine wpAnyH_take (i := 9) (v := ?v9_33) rfl (by kernel_rfl) (by kernel_rfl) (by kernel_rfl) (fun _ _ _ h => h) (Or.inl ⟨by rfl, ?y9_33⟩) (by assumption) ?r9_33
        case y9_33 => (intro w hSw; (try dsimp only at hSw); go_simp; first | done | with_reducible rfl)
        try simp only [Act.put, List.getElem_toArray, List.getElem_cons_succ, List.getElem_cons_zero, List.setIfInBounds_toArray, List.set_cons_zero, List.set_cons_succ]
        refine wpAnyH_take (i := 10) (v := ?v10_34) rfl (by kernel_rfl) (by kernel_rfl) (by kernel_rfl) (fun _ _ _ h => h) (Or.inl ⟨by rfl, ?y10_34⟩) (by assumption) ?r10_34
        case y10_34 => (intro w hSw; (try dsimp only at hSw); go_simp; first | done | with_reducible rfl)
        try simp only [Act.put, List.getElem_toArray, List.getElem_cons_succ, List.getElem_cons_zero, List.setIfInBounds_toArray, List.set_cons_zero, List.set_cons_succ]
        refine wpAnyH_take (i := 11) (v := ?v11_35) rfl (by kernel_rfl) (by kernel_rfl) (by kernel_rfl) (fun _ _ _ h => h) (Or.inl ⟨by rfl, ?y11_35⟩) (by assumption) ?r11_35
        case y11_35 => (intro w hSw; (try dsimp only at hSw); go_simp; first | done | with_reducible rfl)
        try simp only [Act.put, List.getElem_toArray, List.getElem_cons_succ, List.getElem_cons_zero, List.setIfInBounds_toArray, List.set_cons_zero, List.set_cons_succ]
        refine wpAnyH_ready (rs := [5]) (by kernel_rfl) (by simp) ?_
        refine AllReadyH.cons rfl (fun K hK => ?_) AllReadyH.nil
        go_simp
        with_reducible refine (D0.out _).mono ?_
        rintro ev v5 ⟨rfl, k5⟩
        have KF := Lib.hid (KF.out.trans' k5)
        have KC := Lib.hid (KF.out.mono (T := fun b => b = w.heap.size + 1) (fun _ f => f.elim))
        clear k5
        try dsimp only
        refine hK.out _ _ (KC.out) (fun hHeld => ?_)
        clear hK K
        try simp only [Act.put, List.getElem_toArray, List.getElem_cons_succ, List.getElem_cons_zero, List.setIfInBounds_toArray, List.set_cons_zero, List.set_cons_succ]
        refine wpAnyH_take (i := 6) (v := ?v6_36) rfl (by kernel_rfl) (by kernel_rfl) (by kernel_rfl) (fun _ _ _ h => h) (Or.inl ⟨by rfl, ?y6_36⟩) (by assumption) ?r6_36
        case y6_36 => (intro w hSw; (try dsimp only at hSw); go_simp; first | done | with_reducible rfl)
        try simp only [Act.put, List.getElem_toArray, List.getElem_cons_succ, List.getElem_cons_zero, List.setIfInBounds_toArray, List.set_cons_zero, List.set_cons_succ]
        refine wpAnyH_ready (rs := [12]) (by kernel_rfl) (by simp) ?_
        refine AllReadyH.cons rfl (fun K hK => ?_) AllReadyH.nil
        go_simp
        with_reducible refine (D1.out _).mono ?_
        rintro ev v12 ⟨rfl, k12⟩
        have KF := Lib.hid (KF.out.trans' k12)
        have KC := Lib.hid (KF.out.mono (T := fun b => b = w.heap.size + 1) (fun _ f => f.elim))
        clear k12
        try dsimp only
        refine hK.out _ _ (KC.out) (fun hHeld => ?_)
        clear hK K
        try simp only [Act.put, List.getElem_toArray, List.getElem_cons_succ, List.getElem_cons_zero, List.setIfInBounds_toArray, List.set_cons_zero, List.set_cons_succ]
        refine wpAnyH_take (i := 13) (v := ?v13_37) rfl (by kernel_rfl) (by kernel_rfl) (by kernel_rfl) (fun _ _ _ h => h) (Or.inl ⟨by rfl, ?y13_37⟩) (by assumption) ?r13_37
        case y13_37 => (intro w hSw; (try dsimp only at hSw); go_simp; first | done | with_reducible rfl)
        try simp only [Act.put, List.getElem_toArray, List.getElem_cons_succ, List.getElem_cons_zero, List.setIfInBounds_toArray, List.set_cons_zero, List.set_cons_succ]
        refine wpAnyH_take (i := 14) (v := ?v14_38) rfl (by kernel_rfl) (by kernel_rfl) (by kernel_rfl) (fun _ _ _ h => h) (Or.inl ⟨by rfl, ?y14_38⟩) (by assumption) ?r14_38
        case y14_38 => (intro w hSw; (try dsimp only at hSw); go_simp; first | done | with_reducible rfl)
        try simp only [Act.put, List.getElem_toArray, List.getElem_cons_succ, List.getElem_cons_zero, List.setIfInBounds_toArray, List.set_cons_zero, List.set_cons_succ]
        refine wpAnyH_ready (rs := [15]) (by kernel_rfl) (by simp) ?_
        refine AllReadyH.cons rfl (fun K hK => ?_) AllReadyH.nil
        have c1 : v12.cell? ⟨w.heap.size + 1, 2, none⟩ = some (.int .u8 (c : Int)) := (HM.out.kept KF.out (fun f => f)).cell 2
        have c2 : v12.frozen? ⟨w.heap.size + 1, 2, none⟩ = false := (HM.out.kept KF.out (fun f => f)).frozen 2
        go_simp
        have KC := Lib.hid (KC.out.setCell (p := ⟨w.heap.size + 1, 2, none⟩) (.inl rfl) (.int .u8 (z : Int)))
        refine hK.out _ _ (KC.out) (fun hHeld => ?_)
        clear hK K
        try simp only [Act.put, List.getElem_toArray, List.getElem_cons_succ, List.getElem_cons_zero, List.setIfInBounds_toArray, List.set_cons_zero, List.set_cons_succ]
        refine wpAnyH_done (by kernel_rfl) ?_ _
        go_wp2_with fail
        go_roundw
        case rel => exact ⟨3, a, b, z, d, e, f, by omega, rfl, HG.out, (HR.out.kept KF.out (fun f => f)).far (by simp) _, (HM.out.kept KF.out (fun f => f)).put 2 _, (HK.out.trans' KF.out).setCell (.inr (by show w.heap.size ≤ w.heap.size + 1; omega)) _⟩
        case measure => simp [intOf]
      · have hi1 : 10 < s.size := hcs
        have hi0 : 9 < s.size := by omega
        have hI1 : (10 : Int) < (s.size : Int) := by omega
        have z0 : IntKind.i64.wrap 9 = 9 := by decide
        have z1 : IntKind.i64.wrap 10 = 10 := by decide
        have x0 : ∀ W, (Instr.index 9 (.string s) (.int .i64 9)).run Tryd.prog W = .ok (.int .u8 ((s[9]'hi0).toNat : Int)) W := run_idx9i s hi0
        have x1 : ∀ W, (Instr.index 9 (.string s) (.int .i64 10)).run Tryd.prog W = .ok (.int .u8 ((s[10]'hi1).toNat : Int)) W := run_idx9i s hi1
        have HG := Lib.hid (G.out.next (by omega) (tell_3 hi1) (by have := digv_le (s[9]'hi0).toNat; have := digv_le (s[10]'hi1).toNat; omega))
        have y0 := (s[9]'hi0).toNat_lt
        have y1 := (s[10]'hi1).toNat_lt
        generalize (s[9]'hi0).toNat = x at *
        generalize (s[10]'hi1).toNat = y at *
        have D0 := Lib.hid (fun W => (digit_ x W y0).mono (fun ev w' h => (⟨h.1, h.2 ▸ Kp.refl (fun _ => False) W⟩ : _ ∧ Kp (fun _ => False) W w')))
        have D1 := Lib.hid (fun W => (digit_ y W y1).mono (fun ev w' h => (⟨h.1, h.2 ▸ Kp.refl (fun _ => False) W⟩ : _ ∧ Kp (fun _ => False) W w')))
        have l0 := digv_le x
        have l1 := digv_le y
        generalize digv x = p at *
        generalize digv y = q at *
        obtain ⟨z, hz⟩ : ∃ z, z = p * 16 + q := ⟨_, rfl⟩
        rw [← hz] at HG
        have e1 : IntKind.u8.wrap ((p : Int) * 16) = (p : Int) * 16 := by
          show ((p : Int) * 16) % 256 = _
          omega
        have e2 : IntKind.u8.wrap (z : Int) = (z : Int) := by
          show (z : Int) % 256 = _
          omega
        have e3 : ((p : Int) * 16 + (q : Int)) = (z : Int) := by omega
        clear hc6 hcs hz
        go_wp2_with fail
        have KF := Lib.hid (Kp.refl (fun _ => False) wr).drew
        have KC := Lib.hid (Kp.refl (fun b => b = w.heap.size + 1) wr).drew
        refine wp_region_held_drew (S := (fun w' => Kp (fun b => b = w.heap.size + 1) wr w')) (by kernel_rfl) (KC.out) (fun hHeld => ?_)
        refine wpAnyH_take (i := 0) (v := ?v0_39) rfl (by kernel_rfl) (by kernel_rfl) (by kernel_rfl) (fun _ _ _ h => h) (Or.inl ⟨by rfl, ?y0_39⟩) (by assumption) ?r0_39
        case y0_39 => (intro w hSw; (try dsimp only at hSw); go_simp; first | done | with_reducible rfl)
        try simp only [Act.put, List.getElem_toArray, List.getElem_cons_succ, List.getElem_cons_zero, List.setIfInBounds_toArray, List.set_cons_zero, List.set_cons_succ]
        refine wpAnyH_take (i := 1) (v := ?v1_40) rfl (by kernel_rfl) (by kernel_rfl) (by kernel_rfl) (fun _ _ _ h => h) (Or.inl ⟨by rfl, ?y1_40⟩) (by assumption) ?r1_40
        case y1_40 => (intro w hSw; (try dsimp only at hSw); go_simp; first | done | with_reducible rfl)
        try simp only [Act.put, List.getElem_toArray, List.getElem_cons_succ, List.getElem_cons_zero, List.setIfInBounds_toArray, List.set_cons_zero, List.set_cons_succ]
        refine wpAnyH_take (i := 2) (v := ?v2_41) rfl (by kernel_rfl) (by kernel_rfl) (by kernel_rfl) (fun _ _ _ h => h) (Or.inl ⟨by rfl, ?y2_41⟩) (by assumption) ?r2_41
        case y2_41 => (intro w hSw; (try dsimp only at hSw); go_simp; first | done | with_reducible rfl)
        try simp only [Act.put, List.getElem_toArray, List.getElem_cons_succ, List.getElem_cons_zero, List.setIfInBounds_toArray, List.set_cons_zero, List.set_cons_succ]
        refine wpAnyH_take (i := 3) (v := ?v3_42) rfl (by kernel_rfl) (by kernel_rfl) (by kernel_rfl) (fun _ _ _ h => h) (Or.inl ⟨by rfl, ?y3_42⟩) (by assumption) ?r3_42
        case y3_42 => (intro w hSw; (try dsimp only at hSw); go_simp; first | done | with_reducible rfl)
        try simp only [Act.put, List.getElem_toArray, List.getElem_cons_succ, List.getElem_cons_zero, List.setIfInBounds_toArray, List.set_cons_zero, List.set_cons_succ]
        refine wpAnyH_take (i := 4) (v := ?v4_43) rfl (by kernel_rfl) (by kernel_rfl) (by kernel_rfl) (fun _ _ _ h => h) (Or.inl ⟨by rfl, ?y4_43⟩) (by assumption) ?r4_43
        case y4_43 => (intro w hSw; (try dsimp only at hSw); go_simp; first | done | with_reducible rfl)
        try simp only [Act.put, List.getElem_toArray, List.getElem_cons_succ, List.getElem_cons_zero, List.setIfInBounds_toArray, List.set_cons_zero, List.set_cons_succ]
        refine wpAnyH_take (i := 7) (v := ?v7_44) rfl (by kernel_rfl) (by kernel_rfl) (by kernel_rfl) (fun _ _ _ h => h) (Or.inl ⟨by rfl, ?y7_44⟩) (by assumption) ?r7_44
        case y7_44 => (intro w hSw; (try dsimp only at hSw); go_simp; first | done | with_reducible rfl)
        try simp only [Act.put, List.getElem_toArray, List.getElem_cons_succ, List.getElem_cons_zero, List.setIfInBounds_toArray, List.set_cons_zero, List.set_cons_succ]
        refine wpAnyH_take (i := 8) (v := ?v8_45) rfl (by kernel_rfl) (by kernel_rfl) (by kernel_rfl) (fun _ _ _ h => h) (Or.inl ⟨by rfl, ?y8_45⟩) (by assumption) ?r8_45
        case y8_45 => (intro w hSw; (try dsimp only at hSw); go_simp; first | done | with_reducible rfl)
        try simp only [Act.put, List.getElem_toArray, List.getElem_cons_succ, List.getElem_cons_zero, List.setIfInBounds_toArray, List.set_cons_zero, List.set_cons_succ]
        refine wpAnyH_take (i := 9) (v := ?v9_46) rfl (by kernel_rfl) (by kernel_rfl) (by kernel_rfl) (fun _ _ _ h => h) (Or.inl ⟨by rfl, ?y9_46⟩) (by assumption) ?r9_46
        case y9_46 => (intro w hSw; (try dsimp only at hSw); go_simp; first | done | with_reducible rfl)
        try simp only [Act.put, List.getElem_toArray, List.getElem_cons_succ, List.getElem_cons_zero, List.setIfInBounds_toArray, List.set_cons_zero, List.set_cons_succ]
        refine wpAnyH_take (i := 10) (v := ?v10_47) rfl (by kernel_rfl) (by kernel_rfl) (by kernel_rfl) (fun _ _ _ h => h) (Or.inl ⟨by rfl, ?y10_47⟩) (by assumption) ?r10_47
        case y10_47 => (intro w hSw; (try dsimp only at hSw); go_simp; first | done | with_reducible rfl)
        try simp only [Act.put, List.getElem_toArray, List.getElem_cons_succ, List.getElem_cons_zero, List.setIfInBounds_toArray, List.set_cons_zero, List.set_cons_succ]
        refine wpAnyH_take (i := 11) (v := ?v11_48) rfl (by kernel_rfl) (by kernel_rfl) (by kernel_rfl) (fun _ _ _ h => h) (Or.inl ⟨by rfl, ?y11_48⟩) (by assumption) ?r11_48
        case y11_48 => (intro w hSw; (try dsimp only at hSw); go_simp; first | done | with_reducible rfl)
        try simp only [Act.put, List.getElem_toArray, List.getElem_cons_succ, List.getElem_cons_zero, List.setIfInBounds_toArray, List.set_cons_zero, List.set_cons_succ]
        refine wpAnyH_ready (rs := [5]) (by kernel_rfl) (by simp) ?_
        refine AllReadyH.cons rfl (fun K hK => ?_) AllReadyH.nil
        go_simp
        with_reducible refine (D0.out _).mono ?_
        rintro ev v5 ⟨rfl, k5⟩
        have KF := Lib.hid (KF.out.trans' k5)
        have KC := Lib.hid (KF.out.mono (T := fun b => b = w.heap.size + 1) (fun _ f => f.elim))
        clear k5
        try dsimp only
        refine hK.out _ _ (KC.out) (fun hHeld => ?_)
        clear hK K
        try simp only [Act.put, List.getElem_toArray, List.getElem_cons_succ, List.getElem_cons_zero, List.setIfInBounds_toArray, List.set_cons_zero, List.set_cons_succ]
        refine wpAnyH_take (i := 6) (v := ?v6_49) rfl (by kernel_rfl) (by kernel_rfl) (by kernel_rfl) (fun _ _ _ h => h) (Or.inl ⟨by rfl, ?y6_49⟩) (by assumption) ?r6_49
        case y6_49 => (intro w hSw; (try dsimp only at hSw); go_simp; first | done | with_reducible rfl)
        try simp only [Act.put, List.getElem_toArray, List.getElem_cons_succ, List.getElem_cons_zero, List.setIfInBounds_toArray, List.set_cons_zero, List.set_cons_succ]
        refine wpAnyH_ready (rs := [12]) (by kernel_rfl) (by simp) ?_
        refine AllReadyH.cons rfl (fun K hK => ?_) AllReadyH.nil
        go_simp
        with_reducible refine (D1.out _).mono ?_
        rintro ev v12 ⟨rfl, k12⟩
        have KF := Lib.hid (KF.out.trans' k12)
        have KC := Lib.hid (KF.out.mono (T := fun b => b = w.heap.size + 1) (fun _ f => f.elim))
        clear k12
        try dsimp only
        refine hK.out _ _ (KC.out) (fun hHeld => ?_)
        clear hK K
        try simp only [Act.put, List.getElem_toArray, List.getElem_cons_succ, List.getElem_cons_zero, List.setIfInBounds_toArray, List.set_cons_zero, List.set_cons_succ]
        refine wpAnyH_take (i := 13) (v := ?v13_50) rfl (by kernel_rfl) (by kernel_rfl) (by kernel_rfl) (fun _ _ _ h => h) (Or.inl ⟨by rfl, ?y13_50⟩) (by assumption) ?r13_50
        case y13_50 => (intro w hSw; (try dsimp only at hSw); go_simp; first | done | with_reducible rfl)
        try simp only [Act.put, List.getElem_toArray, List.getElem_cons_succ, List.getElem_cons_zero, List.setIfInBounds_toArray, List.set_cons_zero, List.set_cons_succ]
        refine wpAnyH_take (i := 14) (v := ?v14_51) rfl (by kernel_rfl) (by kernel_rfl) (by kernel_rfl) (fun _ _ _ h => h) (Or.inl ⟨by rfl, ?y14_51⟩) (by assumption) ?r14_51
        case y14_51 => (intro w hSw; (try dsimp only at hSw); go_simp; first | done | with_reducible rfl)
        try simp only [Act.put, List.getElem_toArray, List.getElem_cons_succ, List.getElem_cons_zero, List.setIfInBounds_toArray, List.set_cons_zero, List.set_cons_succ]
        refine wpAnyH_ready (rs := [15]) (by kernel_rfl) (by simp) ?_
        refine AllReadyH.cons rfl (fun K hK => ?_) AllReadyH.nil
        have c1 : v12.cell? ⟨w.heap.size + 1, 3, none⟩ = some (.int .u8 (d : Int)) := (HM.out.kept KF.out (fun f => f)).cell 3
        have c2 : v12.frozen? ⟨w.heap.size + 1, 3, none⟩ = false := (HM.out.kept KF.out (fun f => f)).frozen 3
        go_simp
        have KC := Lib.hid (KC.out.setCell (p := ⟨w.heap.size + 1, 3, none⟩) (.inl rfl) (.int .u8 (z : Int)))
        refine hK.out _ _ (KC.out) (fun hHeld => ?_)
        clear hK K
        try simp only [Act.put, List.getElem_toArray, List.getElem_cons_succ, List.getElem_cons_zero, List.setIfInBounds_toArray, List.set_cons_zero, List.set_cons_succ]
        refine wpAnyH_done (by kernel_rfl) ?_ _
        go_wp2_with fail
        go_roundw
        case rel => exact ⟨4, a, b, c, z, e, f, by omega, rfl, HG.out, (HR.out.kept KF.out (fun f => f)).far (by simp) _, (HM.out.kept KF.out (fun f => f)).put 3 _, (HK.out.trans' KF.out).setCell (.inr (by show w.heap.size ≤ w.heap.size + 1; omega)) _⟩
        case measure => simp [intOf]
      · have hi1 : 13 < s.size := hcs
        have hi0 : 12 < s.size := by omega
        have hI1 : (13 : Int) < (s.size : Int) := by omega
        have z0 : IntKind.i64.wrap 12 = 12 := by decide
        have z1 : IntKind.i64.wrap 13 = 13 := by decide
        have x0 : ∀ W, (Instr.index 9 (.string s) (.int .i64 12)).run Tryd.prog W = .ok (.int .u8 ((s[12]'hi0).toNat : Int)) W := run_idx9i s hi0
        have x1 : ∀ W, (Instr.index 9 (.string s) (.int .i64 13)).run Tryd.prog W = .ok (.int .u8 ((s[13]'hi1).toNat : Int)) W := run_idx9i s hi1
        have HG := Lib.hid (G.out.next (by omega) (tell_4 hi1) (by have := digv_le (s[12]'hi0).toNat; have := digv_le (s[13]'hi1).toNat; omega))
        have y0 := (s[12]'hi0).toNat_lt
        have y1 := (s[13]'hi1).toNat_lt
        generalize (s[12]'hi0).toNat = x at *
        generalize (s[13]'hi1).toNat = y at *
        have D0 := Lib.hid (fun W => (digit_ x W y0).mono (fun ev w' h => (⟨h.1, h.2 ▸ Kp.refl (fun _ => False) W⟩ : _ ∧ Kp (fun _ => False) W w')))
        have D1 := Lib.hid (fun W => (digit_ y W y1).mono (fun ev w' h => (⟨h.1, h.2 ▸ Kp.refl (fun _ => False) W⟩ : _ ∧ Kp (fun _ => False) W w')))
        have l0 := digv_le x
        have l1 := digv_le y
        generalize digv x = p at *
        generalize digv y = q at *
        obtain ⟨z, hz⟩ : ∃ z, z = p * 16 + q := ⟨_, rfl⟩
        rw [← hz] at HG
        have e1 : IntKind.u8.wrap ((p : Int) * 16) = (p : Int) * 16 := by
          show ((p : Int) * 16) % 256 = _
          omega
        have e2 : IntKind.u8.wrap (z : Int) = (z : Int) := by
          show (z : Int) % 256 = _
          omega
        have e3 : ((p : Int) * 16 + (q : Int)) = (z : Int) := by omega
        clear hc6 hcs hz
        go_wp2_with fail
        have KF := Lib.hid (Kp.refl (fun _ => False) wr).drew
        have KC := Lib.hid (Kp.refl (fun b => b = w.heap.size + 1) wr).drew
        refine wp_region_held_drew (S := (fun w' => Kp (fun b => b = w.heap.size + 1) wr w')) (by kernel_rfl) (KC.out) (fun hHeld => ?_)
        refine wpAnyH_take (i := 0) (v := ?v0_52) rfl (by kernel_rfl) (by kernel_rfl) (by kernel_rfl) (fun _ _ _ h => h) (Or.inl ⟨by rfl, ?y0_52⟩) (by assumption) ?r0_52
        case y0_52 => (intro w hSw; (try dsimp only at hSw); go_simp; first | done | with_reducible rfl)
        try simp only [Act.put, List.getElem_toArray, List.getElem_cons_succ, List.getElem_cons_zero, List.setIfInBounds_toArray, List.set_cons_zero, List.set_cons_succ]
        refine wpAnyH_take (i := 1) (v := ?v1_53) rfl (by kernel_rfl) (by kernel_rfl) (by kernel_rfl) (fun _ _ _ h => h) (Or.inl ⟨by rfl, ?y1_53⟩) (by assumption) ?r1_53
        case y1_53 => (intro w hSw; (try dsimp only at hSw); go_simp; first | done | with_reducible rfl)
        try simp only [Act.put, List.getElem_toArray, List.getElem_cons_succ, List.getElem_cons_zero, List.setIfInBounds_toArray, List.set_cons_zero, List.set_cons_succ]
        refine wpAnyH_take (i := 2) (v := ?v2_54) rfl (by kernel_rfl) (by kernel_rfl) (by kernel_rfl) (fun _ _ _ h => h) (Or.inl ⟨by rfl, ?y2_54⟩) (by assumption) ?r2_54
        case y2_54 => (intro w hSw; (try dsimp only at hSw); go_simp; first | done | with_reducible rfl)
        try simp only [Act.put, List.getElem_toArray, List.getElem_cons_succ, List.getElem_cons_zero, List.setIfInBounds_toArray, List.set_cons_zero, List.set_cons_succ]
        refine wpAnyH_take (i := 3) (v := ?v3_55) rfl (by kernel_rfl) (by kernel_rfl) (by kernel_rfl) (fun _ _ _ h => h) (Or.inl ⟨by rfl, ?y3_55⟩) (by assumption) ?r3_55
        case y3_55 => (intro w hSw; (try dsimp only at hSw); go_simp; first | done | with_reducible rfl)
        try simp only [Act.put, List.getElem_toArray, List.getElem_cons_succ, List.getElem_cons_zero, List.setIfInBounds_toArray, List.set_cons_zero, List.set_cons_succ]
        refine wpAnyH_take (i := 4) (v := ?v4_56) rfl (by kernel_rfl) (by kernel_rfl) (by kernel_rfl) (fun _ _ _ h => h) (Or.inl ⟨by rfl, ?y4_56⟩) (by assumption) ?r4_56
        case y4_56 => (intro w hSw; (try dsimp only at hSw); go_simp; first | done | with_reducible rfl)
        try simp only [Act.put, List.getElem_toArray, List.getElem_cons_succ, List.getElem_cons_zero, List.setIfInBounds_toArray, List.set_cons_zero, List.set_cons_succ]
        refine wpAnyH_take (i := 7) (v := ?v7_57) rfl (by kernel_rfl) (by kernel_rfl) (by kernel_rfl) (fun _ _ _ h => h) (Or.inl ⟨by rfl, ?y7_57⟩) (by assumption) ?r7_57
        case y7_57 => (intro w hSw; (try dsimp only at hSw); go_simp; first | done | with_reducible rfl)
        try simp only [Act.put, List.getElem_toArray, List.getElem_cons_succ, List.getElem_cons_zero, List.setIfInBounds_toArray, List.set_cons_zero, List.set_cons_succ]
        refine wpAnyH_take (i := 8) (v := ?v8_58) rfl (by kernel_rfl) (by kernel_rfl) (by kernel_rfl) (fun _ _ _ h => h) (Or.inl ⟨by rfl, ?y8_58⟩) (by assumption) ?r8_58
        case y8_58 => (intro w hSw; (try dsimp only at hSw); go_simp; first | done | with_reducible rfl)
        try simp only [Act.put, List.getElem_toArray, List.getElem_cons_succ, List.getElem_cons_zero, List.setIfInBounds_toArray, List.set_cons_zero, List.set_cons_succ]
        refine wpAnyH_take (i := 9) (v := ?v9_59) rfl (by kernel_rfl) (by kernel_rfl) (by kernel_rfl) (fun _ _ _ h => h) (Or.inl ⟨by rfl, ?y9_59⟩) (by assumption) ?r9_59
        case y9_59 => (intro w hSw; (try dsimp only at hSw); go_simp; first | done | with_reducible rfl)
        try simp only [Act.put, List.getElem_toArray, List.getElem_cons_succ, List.getElem_cons_zero, List.setIfInBounds_toArray, List.set_cons_zero, List.set_cons_succ]
        refine wpAnyH_take (i := 10) (v := ?v10_60) rfl (by kernel_rfl) (by kernel_rfl) (by kernel_rfl) (fun _ _ _ h => h) (Or.inl ⟨by rfl, ?y10_60⟩) (by assumption) ?r10_60
        case y10_60 => (intro w hSw; (try dsimp only at hSw); go_simp; first | done | with_reducible rfl)
        try simp only [Act.put, List.getElem_toArray, List.getElem_cons_succ, List.getElem_cons_zero, List.setIfInBounds_toArray, List.set_cons_zero, List.set_cons_succ]
        refine wpAnyH_take (i := 11) (v := ?v11_61) rfl (by kernel_rfl) (by kernel_rfl) (by kernel_rfl) (fun _ _ _ h => h) (Or.inl ⟨by rfl, ?y11_61⟩) (by assumption) ?r11_61
        case y11_61 => (intro w hSw; (try dsimp only at hSw); go_simp; first | done | with_reducible rfl)
        try simp only [Act.put, List.getElem_toArray, List.getElem_cons_succ, List.getElem_cons_zero, List.setIfInBounds_toArray, List.set_cons_zero, List.set_cons_succ]
        refine wpAnyH_ready (rs := [5]) (by kernel_rfl) (by simp) ?_
        refine AllReadyH.cons rfl (fun K hK => ?_) AllReadyH.nil
        go_simp
        with_reducible refine (D0.out _).mono ?_
        rintro ev v5 ⟨rfl, k5⟩
        have KF := Lib.hid (KF.out.trans' k5)
        have KC := Lib.hid (KF.out.mono (T := fun b => b = w.heap.size + 1) (fun _ f => f.elim))
        clear k5
        try dsimp only
        refine hK.out _ _ (KC.out) (fun hHeld => ?_)
        clear hK K
        try simp only [Act.put, List.getElem_toArray, List.getElem_cons_succ, List.getElem_cons_zero, List.setIfInBounds_toArray, List.set_cons_zero, List.set_cons_succ]
        refine wpAnyH_take (i := 6) (v := ?v6_62) rfl (by kernel_rfl) (by kernel_rfl) (by kernel_rfl) (fun _ _ _ h => h) (Or.inl ⟨by rfl, ?y6_62⟩) (by assumption) ?r6_62
        case y6_62 => (intro w hSw; (try dsimp only at hSw); go_simp; first | done | with_reducible rfl)
        try simp only [Act.put, List.getElem_toArray, List.getElem_cons_succ, List.getElem_cons_zero, List.setIfInBounds_toArray, List.set_cons_zero, List.set_cons_succ]
        refine wpAnyH_ready (rs := [12]) (by kernel_rfl) (by simp) ?_
        refine AllReadyH.cons rfl (fun K hK => ?_) AllReadyH.nil
        go_simp
        with_reducible refine (D1.out _).mono ?_
        rintro ev v12 ⟨rfl, k12⟩
        have KF := Lib.hid (KF.out.trans' k12)
        have KC := Lib.hid (KF.out.mono (T := fun b => b = w.heap.size + 1) (fun _ f => f.elim))
        clear k12
        try dsimp only
        refine hK.out _ _ (KC.out) (fun hHeld => ?_)
        clear hK K
        try simp only [Act.put, List.getElem_toArray, List.getElem_cons_succ, List.getElem_cons_zero, List.setIfInBounds_toArray, List.set_cons_zero, List.set_cons_succ]
        refine wpAnyH_take (i := 13) (v := ?v13_63) rfl (by kernel_rfl) (by kernel_rfl) (by kernel_rfl) (fun _ _ _ h => h) (Or.inl ⟨by rfl, ?y13_63⟩) (by assumption) ?r13_63
        case y13_63 => (intro w hSw; (try dsimp only at hSw); go_simp; first | done | with_reducible rfl)
        try simp only [Act.put, List.getElem_toArray, List.getElem_cons_succ, List.getElem_cons_zero, List.setIfInBounds_toArray, List.set_cons_zero, List.set_cons_succ]
        refine wpAnyH_take (i := 14) (v := ?v14_64) rfl (by kernel_rfl) (by kernel_rfl) (by kernel_rfl) (fun _ _ _ h => h) (Or.inl ⟨by rfl, ?y14_64⟩) (by assumption) ?r14_64
        case y14_64 => (intro w hSw; (try dsimp only at hSw); go_simp; first | done | with_reducible rfl)
        try simp only [Act.put, List.getElem_toArray, List.getElem_cons_succ, List.getElem_cons_zero, List.setIfInBounds_toArray, List.set_cons_zero, List.set_cons_succ]
        refine wpAnyH_ready (rs := [15]) (by kernel_rfl) (by simp) ?_
        refine AllReadyH.cons rfl (fun K hK => ?_) AllReadyH.nil
        have c1 : v12.cell? ⟨w.heap.size + 1, 4, none⟩ = some (.int .u8 (e : Int)) := (HM.out.kept KF.out (fun f => f)).cell 4
        have c2 : v12.frozen? ⟨w.heap.size + 1, 4, none⟩ = false := (HM.out.kept KF.out (fun f => f)).frozen 4
        go_simp
        have KC := Lib.hid (KC.out.setCell (p := ⟨w.heap.size + 1, 4, none⟩) (.inl rfl) (.int .u8 (z : Int)))
        refine hK.out _ _ (KC.out) (fun hHeld => ?_)
        clear hK K
        try simp only [Act.put, List.getElem_toArray, List.getElem_cons_succ, List.getElem_cons_zero, List.setIfInBounds_toArray, List.set_cons_zero, List.set_cons_succ]
        refine wpAnyH_done (by kernel_rfl) ?_ _
        go_wp2_with fail
        go_roundw
        case rel => exact ⟨5, a, b, c, d, z, f, by omega, rfl, HG.out, (HR.out.kept KF.out (fun f => f)).far (by simp) _, (HM.out.kept KF.out (fun f => f)).put 4 _, (HK.out.trans' KF.out).setCell (.inr (by show w.heap.size ≤ w.heap.size + 1; omega)) _⟩
        case measure => simp [intOf]
      · have hi1 : 16 < s.size := hcs
        have hi0 : 15 < s.size := by omega
        have hI1 : (16 : Int) < (s.size : Int) := by omega
        have z0 : IntKind.i64.wrap 15 = 15 := by decide
        have z1 : IntKind.i64.wrap 16 = 16 := by decide
        have x0 : ∀ W, (Instr.index 9 (.string s) (.int .i64 15)).run Tryd.prog W = .ok (.int .u8 ((s[15]'hi0).toNat : Int)) W := run_idx9i s hi0
        have x1 : ∀ W, (Instr.index 9 (.string s) (.int .i64 16)).run Tryd.prog W = .ok (.int .u8 ((s[16]'hi1).toNat : Int)) W := run_idx9i s hi1
        have HG := Lib.hid (G.out.next (by omega) (tell_5 hi1) (by have := digv_le (s[15]'hi0).toNat; have := digv_le (s[16]'hi1).toNat; omega))
        have y0 := (s[15]'hi0).toNat_lt
        have y1 := (s[16]'hi1).toNat_lt
        generalize (s[15]'hi0).toNat = x at *
        generalize (s[16]'hi1).toNat = y at *
        have D0 := Lib.hid (fun W => (digit_ x W y0).mono (fun ev w' h => (⟨h.1, h.2 ▸ Kp.refl (fun _ => False) W⟩ : _ ∧ Kp (fun _ => False) W w')))
        have D1 := Lib.hid (fun W => (digit_ y W y1).mono (fun ev w' h => (⟨h.1, h.2 ▸ Kp.refl (fun _ => False) W⟩ : _ ∧ Kp (fun _ => False) W w')))
        have l0 := digv_le x
        have l1 := digv_le y
        generalize digv x = p at *
        generalize digv y = q at *
        obtain ⟨z, hz⟩ : ∃ z, z = p * 16 + q := ⟨_, rfl⟩
        rw [← hz] at HG
        have e1 : IntKind.u8.wrap ((p : Int) * 16) = (p : Int) * 16 := by
          show ((p : Int) * 16) % 256 = _
          omega
        have e2 : IntKind.u8.wrap (z : Int) = (z : Int) := by
          show (z : Int) % 256 = _
          omega
        have e3 : ((p : Int) * 16 + (q : Int)) = (z : Int) := by omega
        clear hc6 hcs hz
        go_wp2_with fail
        have KF := Lib.hid (Kp.refl (fun _ => False) wr).drew
        have KC := Lib.hid (Kp.refl (fun b => b = w.heap.size + 1) wr).drew
        refine wp_region_held_drew (S := (fun w' => Kp (fun b => b = w.heap.size + 1) wr w')) (by kernel_rfl) (KC.out) (fun hHeld => ?_)
        refine wpAnyH_take (i := 0) (v := ?v0_65) rfl (by kernel_rfl) (by kernel_rfl) (by kernel_rfl) (fun _ _ _ h => h) (Or.inl ⟨by rfl, ?y0_65⟩) (by assumption) ?r0_65
        case y0_65 => (intro w hSw; (try dsimp only at hSw); go_simp; first | done | with_reducible rfl)
        try simp only [Act.put, List.getElem_toArray, List.getElem_cons_succ, List.getElem_cons_zero, List.setIfInBounds_toArray, List.set_cons_zero, List.set_cons_succ]
        refine wpAnyH_take (i := 1) (v := ?v1_66) rfl (by kernel_rfl) (by kernel_rfl) (by kernel_rfl) (fun _ _ _ h => h) (Or.inl ⟨by rfl, ?y1_66⟩) (by assumption) ?r1_66
        case y1_66 => (intro w hSw; (try dsimp only at hSw); go_simp; first | done | with_reducible rfl)
        try simp only [Act.put, List.getElem_toArray, List.getElem_cons_succ, List.getElem_cons_zero, List.setIfInBounds_toArray, List.set_cons_zero, List.set_cons_succ]
        refine wpAnyH_take (i := 2) (v := ?v2_67) rfl (by kernel_rfl) (by kernel_rfl) (by kernel_rfl) (fun _ _ _ h => h) (Or.inl ⟨by rfl, ?y2_67⟩) (by assumption) ?r2_67
        case y2_67 => (intro w hSw; (try dsimp only at hSw); go_simp; first | done | with_reducible rfl)
        try simp only [Act.put, List.getElem_toArray, List.getElem_cons_succ, List.getElem_cons_zero, List.setIfInBounds_toArray, List.set_cons_zero, List.set_cons_succ]
        refine wpAnyH_take (i := 3) (v := ?v3_68) rfl (by kernel_rfl) (by kernel_rfl) (by kernel_rfl) (fun _ _ _ h => h) (Or.inl ⟨by rfl, ?y3_68⟩) (by assumption) ?r3_68
        case y3_68 => (intro w hSw; (try dsimp only at hSw); go_simp; first | done | with_reducible rfl)
        try simp only [Act.put, List.getElem_toArray, List.getElem_cons_succ, List.getElem_cons_zero, List.setIfInBounds_toArray, List.set_cons_zero, List.set_cons_succ]
        refine wpAnyH_take (i := 4) (v := ?v4_69) rfl (by kernel_rfl) (by kernel_rfl) (by kernel_rfl) (fun _ _ _ h => h) (Or.inl ⟨by rfl, ?y4_69⟩) (by assumption) ?r4_69
        case y4_69 => (intro w hSw; (try dsimp only at hSw); go_simp; first | done | with_reducible rfl)
        try simp only [Act.put, List.getElem_toArray, List.getElem_cons_succ, List.getElem_cons_zero, List.setIfInBounds_toArray, List.set_cons_zero, List.set_cons_succ]
        refine wpAnyH_take (i := 7) (v := ?v7_70) rfl (by kernel_rfl) (by kernel_rfl) (by kernel_rfl) (fun _ _ _ h => h) (Or.inl ⟨by rfl, ?y7_70⟩) (by assumption) ?r7_70
        case y7_70 => (intro w hSw; (try dsimp only at hSw); go_simp; first | done | with_reducible rfl)
        try simp only [Act.put, List.getElem_toArray, List.getElem_cons_succ, List.getElem_cons_zero, List.setIfInBounds_toArray, List.set_cons_zero, List.set_cons_succ]
        refine wpAnyH_take (i := 8) (v := ?v8_71) rfl (by kernel_rfl) (by kernel_rfl) (by kernel_rfl) (fun _ _ _ h => h) (Or.inl ⟨by rfl, ?y8_71⟩) (by assumption) ?r8_71
        case y8_71 => (intro w hSw; (try dsimp only at hSw); go_simp; first | done | with_reducible rfl)
        try simp only [Act.put, List.getElem_toArray, List.getElem_cons_succ, List.getElem_cons_zero, List.setIfInBounds_toArray, List.set_cons_zero, List.set_cons_succ]
        refine wpAnyH_take (i := 9) (v := ?v9_72) rfl (by kernel_rfl) (by kernel_rfl) (by kernel_rfl) (fun _ _ _ h => h) (Or.inl ⟨by rfl, ?y9_72⟩) (by assumption) ?r9_72
        case y9_72 => (intro w hSw; (try dsimp only at hSw); go_simp; first | done | with_reducible rfl)
        try simp only [Act.put, List.getElem_toArray, List.getElem_cons_succ, List.getElem_cons_zero, List.setIfInBounds_toArray, List.set_cons_zero, List.set_cons_succ]
        refine wpAnyH_take (i := 10) (v := ?v10_73) rfl (by kernel_rfl) (by kernel_rfl) (by kernel_rfl) (fun _ _ _ h => h) (Or.inl ⟨by rfl, ?y10_73⟩) (by assumption) ?r10_73
        case y10_73 => (intro w hSw; (try dsimp only at hSw); go_simp; first | done | with_reducible rfl)
        try simp only [Act.put, List.getElem_toArray, List.getElem_cons_succ, List.getElem_cons_zero, List.setIfInBounds_toArray, List.set_cons_zero, List.set_cons_succ]
        refine wpAnyH_take (i := 11) (v := ?v11_74) rfl (by kernel_rfl) (by kernel_rfl) (by kernel_rfl) (fun _ _ _ h => h) (Or.inl ⟨by rfl, ?y11_74⟩) (by assumption) ?r11_74
        case y11_74 => (intro w hSw; (try dsimp only at hSw); go_simp; first | done | with_reducible rfl)
        try simp only [Act.put, List.getElem_toArray, List.getElem_cons_succ, List.getElem_cons_zero, List.setIfInBounds_toArray, List.set_cons_zero, List.set_cons_succ]
        refine wpAnyH_ready (rs := [5]) (by kernel_rfl) (by simp) ?_
        refine AllReadyH.cons rfl (fun K hK => ?_) AllReadyH.nil
        go_simp
        with_reducible refine (D0.out _).mono ?_
        rintro ev v5 ⟨rfl, k5⟩
        have KF := Lib.hid (KF.out.trans' k5)
        have KC := Lib.hid (KF.out.mono (T := fun b => b = w.heap.size + 1) (fun _ f => f.elim))
        clear k5
        try dsimp only
        refine hK.out _ _ (KC.out) (fun hHeld => ?_)
        clear hK K
        try simp only [Act.put, List.getElem_toArray, List.getElem_cons_succ, List.getElem_cons_zero, List.setIfInBounds_toArray, List.set_cons_zero, List.set_cons_succ]
        refine wpAnyH_take (i := 6) (v := ?v6_75) rfl (by kernel_rfl) (by kernel_rfl) (by kernel_rfl) (fun _ _ _ h => h) (Or.inl ⟨by rfl, ?y6_75⟩) (by assumption) ?r6_75
        case y6_75 => (intro w hSw; (try dsimp only at hSw); go_simp; first | done | with_reducible rfl)
        try simp only [Act.put, List.getElem_toArray, List.getElem_cons_succ, List.getElem_cons_zero, List.setIfInBounds_toArray, List.set_cons_zero, List.set_cons_succ]
        refine wpAnyH_ready (rs := [12]) (by kernel_rfl) (by simp) ?_
        refine AllReadyH.cons rfl (fun K hK => ?_) AllReadyH.nil
        go_simp
        with_reducible refine (D1.out _).mono ?_
        rintro ev v12 ⟨rfl, k12⟩
        have KF := Lib.hid (KF.out.trans' k12)
        have KC := Lib.hid (KF.out.mono (T := fun b => b = w.heap.size + 1) (fun _ f => f.elim))
        clear k12
        try dsimp only
        refine hK.out _ _ (KC.out) (fun hHeld => ?_)
        clear hK K
        try simp only [Act.put, List.getElem_toArray, List.getElem_cons_succ, List.getElem_cons_zero, List.setIfInBounds_toArray, List.set_cons_zero, List.set_cons_succ]
        refine wpAnyH_take (i := 13) (v := ?v13_76) rfl (by kernel_rfl) (by kernel_rfl) (by kernel_rfl) (fun _ _ _ h => h) (Or.inl ⟨by rfl, ?y13_76⟩) (by assumption) ?r13_76
        case y13_76 => (intro w hSw; (try dsimp only at hSw); go_simp; first | done | with_reducible rfl)
        try simp only [Act.put, List.getElem_toArray, List.getElem_cons_succ, List.getElem_cons_zero, List.setIfInBounds_toArray, List.set_cons_zero, List.set_cons_succ]
        refine wpAnyH_take (i := 14) (v := ?v14_77) rfl (by kernel_rfl) (by kernel_rfl) (by kernel_rfl) (fun _ _ _ h => h) (Or.inl ⟨by rfl, ?y14_77⟩) (by assumption) ?r14_77
        case y14_77 => (intro w hSw; (try dsimp only at hSw); go_simp; first | done | with_reducible rfl)
        try simp only [Act.put, List.getElem_toArray, List.getElem_cons_succ, List.getElem_cons_zero, List.setIfInBounds_toArray, List.set_cons_zero, List.set_cons_succ]
        refine wpAnyH_ready (rs := [15]) (by kernel_rfl) (by simp) ?_
        refine AllReadyH.cons rfl (fun K hK => ?_) AllReadyH.nil
        have c1 : v12.cell? ⟨w.heap.size + 1, 5, none⟩ = some (.int .u8 (f : Int)) := (HM.out.kept KF.out (fun f => f)).cell 5
        have c2 : v12.frozen? ⟨w.heap.size + 1, 5, none⟩ = false := (HM.out.kept KF.out (fun f => f)).frozen 5
        go_simp
        have KC := Lib.hid (KC.out.setCell (p := ⟨w.heap.size + 1, 5, none⟩) (.inl rfl) (.int .u8 (z : Int)))
        refine hK.out _ _ (KC.out) (fun hHeld => ?_)
        clear hK K
        try simp only [Act.put, List.getElem_toArray, List.getElem_cons_succ, List.getElem_cons_zero, List.setIfInBounds_toArray, List.set_cons_zero, List.set_cons_succ]
        refine wpAnyH_done (by kernel_rfl) ?_ _
        go_wp2_with fail
        go_roundw
        case rel => exact ⟨6, a, b, c, d, e, z, by omega, rfl, HG.out, (HR.out.kept KF.out (fun f => f)).far (by simp) _, (HM.out.kept KF.out (fun f => f)).put 5 _, (HK.out.trans' KF.out).setCell (.inr (by show w.heap.size ≤ w.heap.size + 1; omega)) _⟩
        case measure => simp [intOf]
    · have FIN := Lib.hid (show macL [a, b, c, d, e, f] ≠ s.data.toList → NoMac s from fun hne => by
        by_cases h6 : k = 6
        · subst h6; exact G.out.full hne
        · exact mac_size (fun h17 => hc ⟨by omega, by omega⟩))
      have w1 : wrap64 (3 * (k : Int)) = 3 * (k : Int) := IntWalk.wrap64_in _ (by omega)
      have w2 : wrap64 (3 * (k : Int) + 1) = 3 * (k : Int) + 1 := IntWalk.wrap64_in _ (by omega)
      by_cases h6 : k < 6
      · have g1 : (k : Int) < 6 := by omega
        have g2 : ¬ (3 * (k : Int) + 1 < (s.size : Int)) := by omega
        clear hc h6
        have hlt := G.out.lt
        have HT := Lib.hid (fun W => rmactext_ a b c d e f W hlt.1 hlt.2.1 hlt.2.2.1 hlt.2.2.2.1 hlt.2.2.2.2.1 hlt.2.2.2.2.2)
        clear hlt
        obtain ⟨T, hT⟩ : ∃ T : ByteArray, T = ⟨(macL [a, b, c, d, e, f]).toArray⟩ := ⟨_, rfl⟩
        have HT : Hid (∀ W, Calls Tryd.prog 32 #[.agg (macC a b c d e f)] W fun ev w' => ev = .returned (.string T) ∧ Kp (fun _ => False) W w') := by rw [hT]; exact HT
        by_cases hTs : T = s
        · have HG := Lib.hid (PM.yes G.out (by rw [← hTs, hT]))
          rw [hTs] at HT
          clear hTs hT
          go_wp2_with
            ((with_reducible refine at_load (t := 36) (p := 4) rfl ?_)
             go_must (refine wpList_load_row (by rfl) 36 (.tmp 4) (by rfl) (w.heap.size + 1) (by rfl) 36 (macC a b c d e f) (0, 0) _ HM.out Tryd.underlying36 rfl info36 ?_))
          refine (HT.out _).mono ?_
          rintro ev w2 ⟨rfl, k2⟩
          have HR := Lib.hid (HR.out.kept k2 (fun f => f))
          have HM := Lib.hid (HM.out.kept k2 (fun f => f))
          have K2 := Lib.hid (HK.out.trans' k2)
          clear k2 HT
          go_wp2_with
            first
            | ((with_reducible refine at_load (t := 36) (p := 4) rfl ?_)
               go_must (refine wpList_load_row (by rfl) 36 (.tmp 4) (by rfl) (w.heap.size + 1) (by rfl) 36 (macC a b c d e f) (0, 0) _ HM.out Tryd.underlying36 rfl info36 ?_))
            | ((with_reducible refine at_store (t := 36) (p := 2) (v := .tmp 39) rfl ?_)
               go_must (refine wpList_store_row (by rfl) 36 (.tmp 2) (.tmp 39) (by rfl) (w.heap.size) (macC a b c d e f) (by rfl) (by rfl) 36 (macC 0 0 0 0 0 0) HR.out info36 rfl (mac_one _ _ _ _ _ _) ?_))
          refine bodyPost_ret (res_ct rfl _ _ w.heap.size 36 (macC a b c d e f) (0, 0) _ rfl (setRow_heap HR.out) Tryd.underlying36 rfl info36) rfl ?_
          exact ⟨⟨_, rfl, by exact HG.out⟩, kp_row K2.out (.inr (Nat.le_refl _)) _⟩
        · have hne : (T.toList == s.toList) = false := by
            rw [beq_eq_false_iff_ne, ByteArray.toList_eq, ByteArray.toList_eq]
            exact fun h => hTs (ByteArray.ext (by simpa using h))
          have HG := Lib.hid (PM.no (FIN.out (fun h => hTs (ByteArray.ext (by rw [hT]; show (macL _).toArray = _; rw [h])))))
          clear hT hTs
          go_wp2_with
            ((with_reducible refine at_load (t := 36) (p := 4) rfl ?_)
             go_must (refine wpList_load_row (by rfl) 36 (.tmp 4) (by rfl) (w.heap.size + 1) (by rfl) 36 (macC a b c d e f) (0, 0) _ HM.out Tryd.underlying36 rfl info36 ?_))
          refine (HT.out _).mono ?_
          rintro ev w2 ⟨rfl, k2⟩
          have HR := Lib.hid (HR.out.kept k2 (fun f => f))
          have K2 := Lib.hid (HK.out.trans' k2)
          clear k2 HT
          go_wp2_with
            ((with_reducible refine at_store (t := 36) (p := 2) (v := .tmp 38) rfl ?_)
             go_must (refine wpList_store_row (by rfl) 36 (.tmp 2) (.tmp 38) (by rfl) (w.heap.size) (macC 0 0 0 0 0 0) (by rfl) (by rfl) 36 (macC 0 0 0 0 0 0) HR.out info36 rfl (mac_one _ _ _ _ _ _) ?_))
          refine bodyPost_ret (res_ct rfl _ _ w.heap.size 36 (macC 0 0 0 0 0 0) (0, 0) _ rfl (setRow_heap HR.out) Tryd.underlying36 rfl info36) rfl ?_
          exact ⟨⟨_, rfl, by exact HG.out⟩, kp_row K2.out (.inr (Nat.le_refl _)) _⟩
      · have g1 : ¬ (k : Int) < 6 := by omega
        clear hc h6
        have hlt := G.out.lt
        have HT := Lib.hid (fun W => rmactext_ a b c d e f W hlt.1 hlt.2.1 hlt.2.2.1 hlt.2.2.2.1 hlt.2.2.2.2.1 hlt.2.2.2.2.2)
        clear hlt
        obtain ⟨T, hT⟩ : ∃ T : ByteArray, T = ⟨(macL [a, b, c, d, e, f]).toArray⟩ := ⟨_, rfl⟩
        have HT : Hid (∀ W, Calls Tryd.prog 32 #[.agg (macC a b c d e f)] W fun ev w' => ev = .returned (.string T) ∧ Kp (fun _ => False) W w') := by rw [hT]; exact HT
        by_cases hTs : T = s
        · have HG := Lib.hid (PM.yes G.out (by rw [← hTs, hT]))
          rw [hTs] at HT
          clear hTs hT
          go_wp2_with
            ((with_reducible refine at_load (t := 36) (p := 4) rfl ?_)
             go_must (refine wpList_load_row (by rfl) 36 (.tmp 4) (by rfl) (w.heap.size + 1) (by rfl) 36 (macC a b c d e f) (0, 0) _ HM.out Tryd.underlying36 rfl info36 ?_))
          refine (HT.out _).mono ?_
          rintro ev w2 ⟨rfl, k2⟩
          have HR := Lib.hid (HR.out.kept k2 (fun f => f))
          have HM := Lib.hid (HM.out.kept k2 (fun f => f))
          have K2 := Lib.hid (HK.out.trans' k2)
          clear k2 HT
          go_wp2_with
            first
            | ((with_reducible refine at_load (t := 36) (p := 4) rfl ?_)
               go_must (refine wpList_load_row (by rfl) 36 (.tmp 4) (by rfl) (w.heap.size + 1) (by rfl) 36 (macC a b c d e f) (0, 0) _ HM.out Tryd.underlying36 rfl info36 ?_))
            | ((with_reducible refine at_store (t := 36) (p := 2) (v := .tmp 39) rfl ?_)
               go_must (refine wpList_store_row (by rfl) 36 (.tmp 2) (.tmp 39) (by rfl) (w.heap.size) (macC a b c d e f) (by rfl) (by rfl) 36 (macC 0 0 0 0 0 0) HR.out info36 rfl (mac_one _ _ _ _ _ _) ?_))
          refine bodyPost_ret (res_ct rfl _ _ w.heap.size 36 (macC a b c d e f) (0, 0) _ rfl (setRow_heap HR.out) Tryd.underlying36 rfl info36) rfl ?_
          exact ⟨⟨_, rfl, by exact HG.out⟩, kp_row K2.out (.inr (Nat.le_refl _)) _⟩
        · have hne : (T.toList == s.toList) = false := by
            rw [beq_eq_false_iff_ne, ByteArray.toList_eq, ByteArray.toList_eq]
            exact fun h => hTs (ByteArray.ext (by simpa using h))
          have HG := Lib.hid (PM.no (FIN.out (fun h => hTs (ByteArray.ext (by rw [hT]; show (macL _).toArray = _; rw [h])))))
          clear hT hTs
          go_wp2_with
            ((with_reducible refine at_load (t := 36) (p := 4) rfl ?_)
             go_must (refine wpList_load_row (by rfl) 36 (.tmp 4) (by rfl) (w.heap.size + 1) (by rfl) 36 (macC a b c d e f) (0, 0) _ HM.out Tryd.underlying36 rfl info36 ?_))
          refine (HT.out _).mono ?_
          rintro ev w2 ⟨rfl, k2⟩
          have HR := Lib.hid (HR.out.kept k2 (fun f => f))
          have K2 := Lib.hid (HK.out.trans' k2)
          clear k2 HT
          go_wp2_with
            ((with_reducible refine at_store (t := 36) (p := 2) (v := .tmp 38) rfl ?_)
             go_must (refine wpList_store_row (by rfl) 36 (.tmp 2) (.tmp 38) (by rfl) (w.heap.size) (macC 0 0 0 0 0 0) (by rfl) (by rfl) 36 (macC 0 0 0 0 0 0) HR.out info36 rfl (mac_one _ _ _ _ _ _) ?_))
          refine bodyPost_ret (res_ct rfl _ _ w.heap.size 36 (macC 0 0 0 0 0 0) (0, 0) _ rfl (setRow_heap HR.out) Tryd.underlying36 rfl info36) rfl ?_
          exact ⟨⟨_, rfl, by exact HG.out⟩, kp_row K2.out (.inr (Nat.le_refl _)) _⟩
end Go.Proofs.YtkafdpidhelfdaaDoor
