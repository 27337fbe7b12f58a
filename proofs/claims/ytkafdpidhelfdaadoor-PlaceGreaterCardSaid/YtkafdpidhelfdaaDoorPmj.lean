/- Place: the walk of the reference's MacText. -/
import Derived.Test.YtkafdpidhelfdaaDoorPmi
import Derived.Laws.AppendOwn
import Derived.Laws.BytesString
set_option linter.unusedVariables false
set_option linter.unusedSimpArgs false
namespace Go.Proofs.YtkafdpidhelfdaaDoor
open Go.RowKit

theorem info5 : ∃ i, Tryd.prog.info? 5 = some i ∧ i.zero = some (.int .u8 0) ∧ i.size = 1 ∧ i.bytes = 1 := by
  have h : (Tryd.prog.info? 5).map (fun i => (i.zero, i.size, i.bytes)) = some (some (.int .u8 0), 1, 1) := by kernel_rfl
  rcases hi : Tryd.prog.info? 5 with _ | i
  · rw [hi] at h; cases h
  · rw [hi] at h
    simp only [Option.map_some, Option.some.injEq, Prod.mk.injEq] at h
    exact ⟨i, rfl, h.1, h.2.1, h.2.2⟩
/-- A text's bytes, as values. -/
def u8V (l : List UInt8) : List Value := l.map fun c => .int .u8 (c.toNat : Int)
theorem u8V_add (a b : List UInt8) : u8V (a ++ b) = u8V a ++ u8V b := List.map_append
theorem u8V_len (a : List UInt8) : (u8V a).length = a.length := List.length_map ..
theorem u8V_one (l : List UInt8) : ∀ u ∈ u8V l, u.oneCell' = true := fun u hu => by
  obtain ⟨c, _, rfl⟩ := List.mem_map.1 hu
  rfl
theorem fold_push (l : List UInt8) : ∀ b : ByteArray, (l.map fun c => (c.toNat : Int)).foldl (fun r n => r.push (UInt8.ofNat n.toNat)) b = ⟨(b.data.toList ++ l).toArray⟩ := by
  induction l with
  | nil => intro b; apply ByteArray.ext; simp
  | cons c r ih =>
    intro b
    rw [List.map_cons, List.foldl_cons, ih]
    apply ByteArray.ext
    simp [ByteArray.push]
/-- A slice's bytes as a string. -/
theorem str_of {w : World} {g n c : Nat} {l : List UInt8} (hn : n = l.length) (h : ∀ j v, (u8V l)[j]? = some v → w.cell? ⟨g, j, none⟩ = some v) : (convert 68 9 (.slice (some ⟨g, 0, none⟩) n c)).run Tryd.prog w = .ok (.string ⟨l.toArray⟩) w := by
  rw [run_convert_bytes_string w 68 9 5 (some ⟨g, 0, none⟩) n c Tryd.underlying68 Tryd.underlying5 Tryd.underlying9]
  rw [run_bytesToString w ⟨g, 0, none⟩ n c (l.map fun c => (c.toNat : Int)) ?_]
  · rw [fold_push]
    congr 2
  · have e : (l.map fun c => (c.toNat : Int)).map (Value.int .u8) = u8V l := by unfold u8V; rw [List.map_map]; rfl
    rw [e]
    have hl : n = (u8V l).length := by rw [u8V_len, hn]
    rw [hl]
    exact run_loadCells_list w ⟨g, 0, none⟩ (u8V l) (fun j v hj => by
      by_cases hj0 : j = 0
      · subst hj0; exact h 0 v hj
      · simpa [Addr.add, hj0] using h j v hj)
abbrev hex16 : ByteArray := ⟨#[48, 49, 50, 51, 52, 53, 54, 55, 56, 57, 97, 98, 99, 100, 101, 102]⟩
theorem hex16_at : ∀ p : Nat, (h : p < 16) → (hex16[p]'(show p < 16 from h)) = hexd p := by
  have e : ∀ p < 16, hex16.data.toList.getD p 0 = hexd p := by decide +kernel
  intro p h
  rw [← e p h]
  show hex16.data[p] = _
  simp [List.getD, h]
theorem run_idx9 (S : ByteArray) {p : Nat} (h : p < S.size) (W : World) : (Instr.index 9 (.string S) (.int .u8 (p : Int))).run Tryd.prog W = .ok (.int .u8 ((S[p]'h).toNat : Int)) W := by
  have h1 : (p : Int) < (S.size : Int) := by omega
  have h3 : ¬ (p : Int) < 0 := by omega
  simp [Instr.index, run_underlying Tryd.underlying9, asIntOf, go_sem, h1, h3, h]
theorem run_hex16 {p : Nat} (h : p < 16) (W : World) : (Instr.index 9 (.string hex16) (.int .u8 (p : Int))).run Tryd.prog W = .ok (.int .u8 ((hexd p).toNat : Int)) W := by
  rw [← hex16_at p h]
  exact run_idx9 hex16 h W
theorem own0 (w : World) (cs : Array Value) : ((w.alloc (.cells cs 36)).alloc (.cells #[] 5)).ownsRow (w.heap.size + 1) 5 1 (.slice (some ⟨w.heap.size + 1, 0, none⟩) 0 0) 0 [] := by
  exact ⟨rfl, .inr ⟨w.heap.size + 1, 0, #[], rfl, Nat.le_refl _, heap_alloc2_new w _ _, Nat.le_refl _, Nat.zero_le _, rfl, rfl⟩⟩
/-- A byte's two halves, as the walk meets them. -/
theorem nib {x : Nat} (h : x < 256) : ∃ p q : Nat, p < 16 ∧ q < 16 ∧ two x = [hexd p, hexd q] ∧ Int.tdiv (x : Int) 16 = (p : Int) ∧ (x : Int) / 16 = (p : Int) ∧ Int.tmod (x : Int) 16 = (q : Int) ∧ (x : Int) % 16 = (q : Int) ∧ IntKind.u8.wrap (p : Int) = (p : Int) ∧ IntKind.u8.wrap (q : Int) = (q : Int) := by
  refine ⟨x / 16, x % 16, by omega, by omega, rfl, by rw [Int.tdiv_eq_ediv_of_nonneg (by omega)]; rfl, rfl, by rw [Int.tmod_eq_emod_of_nonneg (by omega)]; rfl, rfl, ?_, ?_⟩
  · show ((x / 16 : Nat) : Int) % 256 = _
    omega
  · show ((x % 16 : Nat) : Int) % 256 = _
    omega
def mpre (ms : List Nat) (k : Nat) : List UInt8 := Lib.join ((ms.take k).map two) [58]
theorem two_one {w : World} {g : Nat} {v u : Value} (h : w.cell? ⟨g, 0, none⟩ = some v) (h' : w.cell? ⟨g, 1, none⟩ = some u) (j : Nat) (x : Value) (hj : [v, u][j]? = some x) : w.cell? ((⟨g, 0, none⟩ : Addr).add j) = some x := by
  rcases j with _ | _ | j
  · injection hj with hj; subst hj; exact h
  · injection hj with hj; subst hj; exact h'
  · cases hj
set_option maxRecDepth 1000000 in
set_option maxHeartbeats 8000000 in
theorem rmactext_ (a b c d e f : Nat) (w : World) (h0 : a < 256) (h1 : b < 256) (h2 : c < 256) (h3 : d < 256) (h4 : e < 256) (h5 : f < 256) : Calls Tryd.prog 32 #[macV a b c d e f] w fun ev w' => ev = .returned (strV (macL [a, b, c, d, e, f])) ∧ Kp (fun _ => False) w w' := by
  obtain ⟨i5, hi5, hy0, hy1, hy2⟩ := info5
  have K0 := Lib.hid (((Kp.refl (fun _ => False) w).alloc (.cells (macC a b c d e f) 36)).alloc (.cells #[] 5))
  have B0 := Lib.hid ((Bk.new w 36 (macC a b c d e f)).alloc (.cells #[] 5))
  have G0 := Lib.hid (show ((w.alloc (.cells (macC a b c d e f) 36)).alloc (.cells #[] 5)).heap[w.heap.size + 1]? = some (.cells #[] 5 (0, 0)) from heap_alloc2_new w _ _)
  go_enter Tryd.func32, Tryd.ntmps32
  go_wp2_with fail
  have hZ : (w.alloc (.cells #[.int .u8 (a : Int), .int .u8 (b : Int), .int .u8 (c : Int), .int .u8 (d : Int), .int .u8 (e : Int), .int .u8 (f : Int)] 36)).alloc (.cells #[] 5) = (w.alloc (.cells (macC a b c d e f) 36)).alloc (.cells #[] 5) := rfl
  rw [hZ]
  clear hZ
  have hOW := own0 w (macC a b c d e f)
  generalize (w.alloc (.cells (macC a b c d e f) 36)).alloc (.cells #[] 5) = wb at *
  go_loopw [4, 5] (fun v iv wr => ∃ (k : Nat), k ≤ 6 ∧ iv = .int .i64 (k : Int) ∧ wr.ownsRow (w.heap.size + 1) 5 1 v (3 * k - 1) (u8V (mpre [a, b, c, d, e, f] k)) ∧ Bk wr w.heap.size 36 (macC a b c d e f) ∧ Kp (fun _ => False) w wr) (fun _ iv _ => (32 - intOf iv).toNat)
  case atStart => exact ⟨0, by omega, rfl, hOW, B0.out, K0.out⟩
  case round =>
    obtain ⟨k, hk, rfl, hown, hbk, hkp⟩ := hrel
    clear K0 B0 G0 hOW
    have HO := Lib.hid hown
    have HB := Lib.hid hbk
    have HK := Lib.hid hkp
    have hge : w.heap.size + 1 ≤ wr.heap.size := hbk.lt
    clear hown hbk hkp
    rcases (show k = 0 ∨ k = 1 ∨ k = 2 ∨ k = 3 ∨ k = 4 ∨ k = 5 ∨ k = 6 by omega) with rfl | rfl | rfl | rfl | rfl | rfl | rfl
    · clear hk
      have HO : Hid (wr.ownsRow (w.heap.size + 1) 5 1 u4 0 (u8V (mpre [a, b, c, d, e, f] 0))) := HO
      obtain ⟨p, q, hp, hq, ht, e1, e2, e3, e4, e5, e6⟩ := nib h0
      have x1 := run_hex16 hp
      have x2 := run_hex16 hq
      have HT := Lib.hid (show mpre [a, b, c, d, e, f] 1 = mpre [a, b, c, d, e, f] 0 ++ [hexd p, hexd q] by rw [← ht]; rfl)
      clear ht
      generalize hexd p = P at *
      generalize hexd q = Q at *
      go_wp2_with fail
      have OC := HO
      have HBd := HB
      have Kd := HK
      have EC := Lib.hid (show ∀ w', Kp (fun b => u4.ownBlock = some b) wr w' → w'.cell? ⟨w.heap.size, 0, none⟩ = some (.int .u8 (a : Int)) from fun w' hw => (hw.cell (p := ⟨w.heap.size, 0, none⟩) HBd.out.lt (fun h => by have := own_ge OC.out h; have : w.heap.size + 1 ≤ w.heap.size := this; omega)).trans (HBd.out.cell 0))
      have KC := Lib.hid (Kp.refl (fun b => u4.ownBlock = some b) wr).drew
      clear HO HB HK
      refine wp_region_held_drew (S := (fun w' => Kp (fun b => u4.ownBlock = some b) wr w')) (by kernel_rfl) (KC.out) (fun hHeld => ?_)
      refine wpAnyH_take (i := 0) (v := ?v0_0) rfl (by kernel_rfl) (by kernel_rfl) (by kernel_rfl) (fun _ _ _ h => h) (Or.inl ⟨by rfl, ?y0_0⟩) (by assumption) ?r0_0
      case y0_0 => (intro w hSw; (try dsimp only at hSw); go_simp; first | done | with_reducible rfl)
      try simp only [Act.put, List.getElem_toArray, List.getElem_cons_succ, List.getElem_cons_zero, List.setIfInBounds_toArray, List.set_cons_zero, List.set_cons_succ]
      refine wpAnyH_take (i := 1) (v := ?v1_1) rfl (by kernel_rfl) (by kernel_rfl) (by kernel_rfl) (fun _ _ _ h => h) (Or.inl ⟨by rfl, ?y1_1⟩) (by assumption) ?r1_1
      case y1_1 => (intro w hSw; (try dsimp only at hSw); go_simp; first | done | with_reducible rfl)
      try simp only [Act.put, List.getElem_toArray, List.getElem_cons_succ, List.getElem_cons_zero, List.setIfInBounds_toArray, List.set_cons_zero, List.set_cons_succ]
      refine wpAnyH_take (i := 2) (v := ?v2_2) rfl (by kernel_rfl) (by kernel_rfl) (by kernel_rfl) (fun _ _ _ h => h) (Or.inl ⟨by rfl, ?y2_2⟩) (by assumption) ?r2_2
      case y2_2 => (intro w hSw; (try dsimp only at hSw); go_simp; first | done | with_reducible rfl)
      try simp only [Act.put, List.getElem_toArray, List.getElem_cons_succ, List.getElem_cons_zero, List.setIfInBounds_toArray, List.set_cons_zero, List.set_cons_succ]
      refine wpAnyH_take (i := 3) (v := ?v3_3) rfl (by kernel_rfl) (by kernel_rfl) (by kernel_rfl) (fun _ _ _ h => h) (Or.inl ⟨by rfl, ?y3_3⟩) (by assumption) ?r3_3
      case y3_3 => (intro w hSw; (try dsimp only at hSw); go_simp; first | done | with_reducible rfl)
      try simp only [Act.put, List.getElem_toArray, List.getElem_cons_succ, List.getElem_cons_zero, List.setIfInBounds_toArray, List.set_cons_zero, List.set_cons_succ]
      refine wpAnyH_take (i := 4) (v := ?v4_4) rfl (by kernel_rfl) (by kernel_rfl) (by kernel_rfl) (fun _ _ _ h => h) (Or.inl ⟨by rfl, ?y4_4⟩) (by assumption) ?r4_4
      case y4_4 => (intro w hSw; (try dsimp only at hSw); have dk := EC.out _ hSw; go_simp; first | done | with_reducible rfl)
      try simp only [Act.put, List.getElem_toArray, List.getElem_cons_succ, List.getElem_cons_zero, List.setIfInBounds_toArray, List.set_cons_zero, List.set_cons_succ]
      refine wpAnyH_take (i := 5) (v := ?v5_5) rfl (by kernel_rfl) (by kernel_rfl) (by kernel_rfl) (fun _ _ _ h => h) (Or.inl ⟨by rfl, ?y5_5⟩) (by assumption) ?r5_5
      case y5_5 => (intro w hSw; (try dsimp only at hSw); go_simp; first | done | with_reducible rfl)
      try simp only [Act.put, List.getElem_toArray, List.getElem_cons_succ, List.getElem_cons_zero, List.setIfInBounds_toArray, List.set_cons_zero, List.set_cons_succ]
      refine wpAnyH_take (i := 6) (v := ?v6_6) rfl (by kernel_rfl) (by kernel_rfl) (by kernel_rfl) (fun _ _ _ h => h) (Or.inl ⟨by rfl, ?y6_6⟩) (by assumption) ?r6_6
      case y6_6 => (intro w hSw; (try dsimp only at hSw); go_simp; first | done | with_reducible rfl)
      try simp only [Act.put, List.getElem_toArray, List.getElem_cons_succ, List.getElem_cons_zero, List.setIfInBounds_toArray, List.set_cons_zero, List.set_cons_succ]
      refine wpAnyH_take (i := 7) (v := ?v7_7) rfl (by kernel_rfl) (by kernel_rfl) (by kernel_rfl) (fun _ _ _ h => h) (Or.inl ⟨by rfl, ?y7_7⟩) (by assumption) ?r7_7
      case y7_7 => (intro w hSw; (try dsimp only at hSw); go_simp; first | done | with_reducible rfl)
      try simp only [Act.put, List.getElem_toArray, List.getElem_cons_succ, List.getElem_cons_zero, List.setIfInBounds_toArray, List.set_cons_zero, List.set_cons_succ]
      refine wpAnyH_take (i := 8) (v := ?v8_8) rfl (by kernel_rfl) (by kernel_rfl) (by kernel_rfl) (fun _ _ _ h => h) (Or.inl ⟨by rfl, ?y8_8⟩) (by assumption) ?r8_8
      case y8_8 => (intro w hSw; (try dsimp only at hSw); go_simp; first | done | with_reducible rfl)
      try simp only [Act.put, List.getElem_toArray, List.getElem_cons_succ, List.getElem_cons_zero, List.setIfInBounds_toArray, List.set_cons_zero, List.set_cons_succ]
      refine wpAnyH_take (i := 9) (v := ?v9_9) rfl (by kernel_rfl) (by kernel_rfl) (by kernel_rfl) (fun _ _ _ h => h) (Or.inl ⟨by rfl, ?y9_9⟩) (by assumption) ?r9_9
      case y9_9 => (intro w hSw; (try dsimp only at hSw); go_simp; first | done | with_reducible rfl)
      try simp only [Act.put, List.getElem_toArray, List.getElem_cons_succ, List.getElem_cons_zero, List.setIfInBounds_toArray, List.set_cons_zero, List.set_cons_succ]
      refine wpAnyH_take (i := 10) (v := ?v10_10) rfl (by kernel_rfl) (by kernel_rfl) (by kernel_rfl) (fun _ _ _ h => h) (Or.inl ⟨by rfl, ?y10_10⟩) (by assumption) ?r10_10
      case y10_10 => (intro w hSw; (try dsimp only at hSw); have dk := EC.out _ hSw; go_simp; first | done | with_reducible rfl)
      try simp only [Act.put, List.getElem_toArray, List.getElem_cons_succ, List.getElem_cons_zero, List.setIfInBounds_toArray, List.set_cons_zero, List.set_cons_succ]
      refine wpAnyH_take (i := 11) (v := ?v11_11) rfl (by kernel_rfl) (by kernel_rfl) (by kernel_rfl) (fun _ _ _ h => h) (Or.inl ⟨by rfl, ?y11_11⟩) (by assumption) ?r11_11
      case y11_11 => (intro w hSw; (try dsimp only at hSw); go_simp; first | done | with_reducible rfl)
      try simp only [Act.put, List.getElem_toArray, List.getElem_cons_succ, List.getElem_cons_zero, List.setIfInBounds_toArray, List.set_cons_zero, List.set_cons_succ]
      refine wpAnyH_take (i := 12) (v := ?v12_12) rfl (by kernel_rfl) (by kernel_rfl) (by kernel_rfl) (fun _ _ _ h => h) (Or.inl ⟨by rfl, ?y12_12⟩) (by assumption) ?r12_12
      case y12_12 => (intro w hSw; (try dsimp only at hSw); go_simp; first | done | with_reducible rfl)
      try simp only [Act.put, List.getElem_toArray, List.getElem_cons_succ, List.getElem_cons_zero, List.setIfInBounds_toArray, List.set_cons_zero, List.set_cons_succ]
      refine wpAnyH_ready (rs := [13]) (by kernel_rfl) (by simp) ?_
      refine AllReadyH.cons rfl (fun K hK => ?_) AllReadyH.nil
      go_simp
      have C0 := Lib.hid (show (wr.alloc (.cells #[.int .u8 (P.toNat : Int), .int .u8 (Q.toNat : Int)] 5)).drew.cell? ⟨wr.heap.size, 0, none⟩ = some (.int .u8 (P.toNat : Int)) from (Bk.new wr 5 #[.int .u8 (P.toNat : Int), .int .u8 (Q.toNat : Int)]).cell 0)
      have C1 := Lib.hid (show (wr.alloc (.cells #[.int .u8 (P.toNat : Int), .int .u8 (Q.toNat : Int)] 5)).drew.cell? ⟨wr.heap.size, 1, none⟩ = some (.int .u8 (Q.toNat : Int)) from (Bk.new wr 5 #[.int .u8 (P.toNat : Int), .int .u8 (Q.toNat : Int)]).cell 1)
      have OA := Lib.hid (own_kp OC.out (((Kp.refl (fun _ => False) wr).alloc (.cells #[.int .u8 (P.toNat : Int), .int .u8 (Q.toNat : Int)] 5)).drew) (fun _ _ f => f))
      have KC := Lib.hid (KC.out.alloc (.cells #[.int .u8 (P.toNat : Int), .int .u8 (Q.toNat : Int)] 5))
      have HB3 := Lib.hid (show w.heap.size + 1 ≤ (wr.alloc (.cells #[.int .u8 (P.toNat : Int), .int .u8 (Q.toNat : Int)] 5)).drew.heap.size from Nat.le_trans HBd.out.lt KC.out.size)
      have KC : Hid (Kp (fun b => u4.ownBlock = some b) wr (wr.alloc (.cells #[.int .u8 (P.toNat : Int), .int .u8 (Q.toNat : Int)] 5)).drew) := KC
      refine hK.out _ _ (KC.out) (fun hHeld => ?_)
      clear hK K
      try simp only [Act.put, List.getElem_toArray, List.getElem_cons_succ, List.getElem_cons_zero, List.setIfInBounds_toArray, List.set_cons_zero, List.set_cons_succ]
      generalize (wr.alloc (.cells #[.int .u8 (P.toNat : Int), .int .u8 (Q.toNat : Int)] 5)).drew = wA at *
      refine wpAnyH_ready (rs := [14]) (by kernel_rfl) (by simp) ?_
      refine AllReadyH.cons rfl (fun K hK => ?_) AllReadyH.nil
      rw [if_pos (by rfl)]
      refine wp_append_own _ (.tmp 16) (.tmp 29) 68 (by rfl) (w.heap.size + 1) 5 i5 _ 1 1 Tryd.underlying68 hi5 hy0 hy1 hy2 rfl (by omega) u4 0 (u8V (mpre [a, b, c, d, e, f] 0)) (by rfl) OA.out ⟨wr.heap.size, 0, none⟩ 2 2 (u8V [P, Q]) (by rfl) rfl (two_one C0.out C1.out) (u8V_one _) (by unfold maxLen; omega) (by omega) HB3.out ?_
      intro v8 w8 own8 grow8 nil8
      have KC := Lib.hid (KC.out.trans ((Kp.refl (fun b => u4.ownBlock = some b) _).grown grow8 (fun i hi => .inl hi)) (fun j hj hk => hk))
      have O8 := Lib.hid own8
      have N8 := Lib.hid (fun e => nil8.1 e)
      clear own8 grow8 nil8
      refine hK.out _ _ (KC.out) (fun hHeld => ?_)
      clear hK K
      try simp only [Act.put, List.getElem_toArray, List.getElem_cons_succ, List.getElem_cons_zero, List.setIfInBounds_toArray, List.set_cons_zero, List.set_cons_succ]
      refine wpAnyH_take (i := 15) (v := ?v15_13) rfl (by kernel_rfl) (by kernel_rfl) (by kernel_rfl) (fun _ _ _ h => h) (Or.inl ⟨by rfl, ?y15_13⟩) (by assumption) ?r15_13
      case y15_13 => (intro w hSw; (try dsimp only at hSw); go_simp; first | done | with_reducible rfl)
      try simp only [Act.put, List.getElem_toArray, List.getElem_cons_succ, List.getElem_cons_zero, List.setIfInBounds_toArray, List.set_cons_zero, List.set_cons_succ]
      refine wpAnyH_done (by kernel_rfl) ?_ _
      go_wp2_with fail
      go_roundw
      case rel => exact ⟨1, by omega, rfl, by rw [HT.out, u8V_add]; exact O8.out, HBd.out.kept KC.out (fun h => by have := own_ge OC.out h; omega), Kd.out.trans KC.out (fun b hb h => absurd hb (by have := own_ge OC.out h; omega))⟩
      case measure => simp [intOf]
    · clear hk
      have HO : Hid (wr.ownsRow (w.heap.size + 1) 5 1 u4 2 (u8V (mpre [a, b, c, d, e, f] 1))) := HO
      obtain ⟨p, q, hp, hq, ht, e1, e2, e3, e4, e5, e6⟩ := nib h1
      have x1 := run_hex16 hp
      have x2 := run_hex16 hq
      have HT := Lib.hid (show mpre [a, b, c, d, e, f] 2 = mpre [a, b, c, d, e, f] 1 ++ [58] ++ [hexd p, hexd q] by rw [← ht]; rfl)
      clear ht
      generalize hexd p = P at *
      generalize hexd q = Q at *
      have k2 := HK.out.alloc (.cells #[.int .u8 58] 5)
      have O2 := Lib.hid (own_kp HO.out ((Kp.refl (fun _ => False) wr).alloc (.cells #[.int .u8 58] 5)) (fun _ _ f => f))
      have hbk := Bk.new wr 5 #[.int .u8 58]
      have hc : (wr.alloc (.cells #[.int .u8 58] 5)).cell? ⟨wr.heap.size, 0, none⟩ = some (.int .u8 58) := hbk.cell 0
      have HB2 := Lib.hid (HB.out.alloc (.cells #[.int .u8 58] 5))
      generalize hA : wr.alloc (.cells #[.int .u8 58] 5) = wx at *
      have HX := Lib.hid hA
      have HC := Lib.hid hc
      have K2 := Lib.hid k2
      have hb3 : w.heap.size + 1 ≤ wx.heap.size := HB2.out.lt
      clear hA hc hbk k2
      go_wp2_with
        (at_builtin
         go_must (
           try rw [HX.out]
           refine wpList_append_own _ rfl (.tmp 13) (.tmp 14) 68 rfl (w.heap.size + 1) 5 i5 _ 1 1 Tryd.underlying68 hi5 hy0 hy1 hy2 rfl (by omega) u4 2 (u8V (mpre [a, b, c, d, e, f] 1)) rfl O2.out ⟨wr.heap.size, 0, none⟩ 1 1 (u8V [58]) rfl rfl (one_cell HC.out) (u8V_one _) (by unfold maxLen; omega) (by omega) hb3 ?_
           intro v4 wd own4 hgrow4 hnil4
           have Kx := Lib.hid ((Kp.refl (fun b => u4.ownBlock = some b) wx).grown hgrow4 (fun i hi => .inl hi))
           have Kd := Lib.hid (K2.out.trans Kx.out (fun b hb h => absurd hb (by have := own_ge O2.out h; omega)))
           have HBd := Lib.hid (HB2.out.kept Kx.out (fun h => by have := own_ge O2.out h; omega))
           have OC := Lib.hid own4
           clear own4 hgrow4 hnil4))
      have OC : Hid (wd.ownsRow (w.heap.size + 1) 5 1 v4 3 (u8V (mpre [a, b, c, d, e, f] 1 ++ [58]))) := Lib.hid (by rw [u8V_add]; exact OC.out)
      have EC := Lib.hid (show ∀ w', Kp (fun b => v4.ownBlock = some b) wd w' → w'.cell? ⟨w.heap.size, 1, none⟩ = some (.int .u8 (b : Int)) from fun w' hw => (hw.cell (p := ⟨w.heap.size, 1, none⟩) HBd.out.lt (fun h => by have := own_ge OC.out h; have : w.heap.size + 1 ≤ w.heap.size := this; omega)).trans (HBd.out.cell 1))
      have KC := Lib.hid (Kp.refl (fun b => v4.ownBlock = some b) wd).drew
      clear HO HB HK
      refine wp_region_held_drew (S := (fun w' => Kp (fun b => v4.ownBlock = some b) wd w')) (by kernel_rfl) (KC.out) (fun hHeld => ?_)
      refine wpAnyH_take (i := 0) (v := ?v0_14) rfl (by kernel_rfl) (by kernel_rfl) (by kernel_rfl) (fun _ _ _ h => h) (Or.inl ⟨by rfl, ?y0_14⟩) (by assumption) ?r0_14
      case y0_14 => (intro w hSw; (try dsimp only at hSw); go_simp; first | done | with_reducible rfl)
      try simp only [Act.put, List.getElem_toArray, List.getElem_cons_succ, List.getElem_cons_zero, List.setIfInBounds_toArray, List.set_cons_zero, List.set_cons_succ]
      refine wpAnyH_take (i := 1) (v := ?v1_15) rfl (by kernel_rfl) (by kernel_rfl) (by kernel_rfl) (fun _ _ _ h => h) (Or.inl ⟨by rfl, ?y1_15⟩) (by assumption) ?r1_15
      case y1_15 => (intro w hSw; (try dsimp only at hSw); go_simp; first | done | with_reducible rfl)
      try simp only [Act.put, List.getElem_toArray, List.getElem_cons_succ, List.getElem_cons_zero, List.setIfInBounds_toArray, List.set_cons_zero, List.set_cons_succ]
      refine wpAnyH_take (i := 2) (v := ?v2_16) rfl (by kernel_rfl) (by kernel_rfl) (by kernel_rfl) (fun _ _ _ h => h) (Or.inl ⟨by rfl, ?y2_16⟩) (by assumption) ?r2_16
      case y2_16 => (intro w hSw; (try dsimp only at hSw); go_simp; first | done | with_reducible rfl)
      try simp only [Act.put, List.getElem_toArray, List.getElem_cons_succ, List.getElem_cons_zero, List.setIfInBounds_toArray, List.set_cons_zero, List.set_cons_succ]
      refine wpAnyH_take (i := 3) (v := ?v3_17) rfl (by kernel_rfl) (by kernel_rfl) (by kernel_rfl) (fun _ _ _ h => h) (Or.inl ⟨by rfl, ?y3_17⟩) (by assumption) ?r3_17
      case y3_17 => (intro w hSw; (try dsimp only at hSw); go_simp; first | done | with_reducible rfl)
      try simp only [Act.put, List.getElem_toArray, List.getElem_cons_succ, List.getElem_cons_zero, List.setIfInBounds_toArray, List.set_cons_zero, List.set_cons_succ]
      refine wpAnyH_take (i := 4) (v := ?v4_18) rfl (by kernel_rfl) (by kernel_rfl) (by kernel_rfl) (fun _ _ _ h => h) (Or.inl ⟨by rfl, ?y4_18⟩) (by assumption) ?r4_18
      case y4_18 => (intro w hSw; (try dsimp only at hSw); have dk := EC.out _ hSw; go_simp; first | done | with_reducible rfl)
      try simp only [Act.put, List.getElem_toArray, List.getElem_cons_succ, List.getElem_cons_zero, List.setIfInBounds_toArray, List.set_cons_zero, List.set_cons_succ]
      refine wpAnyH_take (i := 5) (v := ?v5_19) rfl (by kernel_rfl) (by kernel_rfl) (by kernel_rfl) (fun _ _ _ h => h) (Or.inl ⟨by rfl, ?y5_19⟩) (by assumption) ?r5_19
      case y5_19 => (intro w hSw; (try dsimp only at hSw); go_simp; first | done | with_reducible rfl)
      try simp only [Act.put, List.getElem_toArray, List.getElem_cons_succ, List.getElem_cons_zero, List.setIfInBounds_toArray, List.set_cons_zero, List.set_cons_succ]
      refine wpAnyH_take (i := 6) (v := ?v6_20) rfl (by kernel_rfl) (by kernel_rfl) (by kernel_rfl) (fun _ _ _ h => h) (Or.inl ⟨by rfl, ?y6_20⟩) (by assumption) ?r6_20
      case y6_20 => (intro w hSw; (try dsimp only at hSw); go_simp; first | done | with_reducible rfl)
      try simp only [Act.put, List.getElem_toArray, List.getElem_cons_succ, List.getElem_cons_zero, List.setIfInBounds_toArray, List.set_cons_zero, List.set_cons_succ]
      refine wpAnyH_take (i := 7) (v := ?v7_21) rfl (by kernel_rfl) (by kernel_rfl) (by kernel_rfl) (fun _ _ _ h => h) (Or.inl ⟨by rfl, ?y7_21⟩) (by assumption) ?r7_21
      case y7_21 => (intro w hSw; (try dsimp only at hSw); go_simp; first | done | with_reducible rfl)
      try simp only [Act.put, List.getElem_toArray, List.getElem_cons_succ, List.getElem_cons_zero, List.setIfInBounds_toArray, List.set_cons_zero, List.set_cons_succ]
      refine wpAnyH_take (i := 8) (v := ?v8_22) rfl (by kernel_rfl) (by kernel_rfl) (by kernel_rfl) (fun _ _ _ h => h) (Or.inl ⟨by rfl, ?y8_22⟩) (by assumption) ?r8_22
      case y8_22 => (intro w hSw; (try dsimp only at hSw); go_simp; first | done | with_reducible rfl)
      try simp only [Act.put, List.getElem_toArray, List.getElem_cons_succ, List.getElem_cons_zero, List.setIfInBounds_toArray, List.set_cons_zero, List.set_cons_succ]
      refine wpAnyH_take (i := 9) (v := ?v9_23) rfl (by kernel_rfl) (by kernel_rfl) (by kernel_rfl) (fun _ _ _ h => h) (Or.inl ⟨by rfl, ?y9_23⟩) (by assumption) ?r9_23
      case y9_23 => (intro w hSw; (try dsimp only at hSw); go_simp; first | done | with_reducible rfl)
      try simp only [Act.put, List.getElem_toArray, List.getElem_cons_succ, List.getElem_cons_zero, List.setIfInBounds_toArray, List.set_cons_zero, List.set_cons_succ]
      refine wpAnyH_take (i := 10) (v := ?v10_24) rfl (by kernel_rfl) (by kernel_rfl) (by kernel_rfl) (fun _ _ _ h => h) (Or.inl ⟨by rfl, ?y10_24⟩) (by assumption) ?r10_24
      case y10_24 => (intro w hSw; (try dsimp only at hSw); have dk := EC.out _ hSw; go_simp; first | done | with_reducible rfl)
      try simp only [Act.put, List.getElem_toArray, List.getElem_cons_succ, List.getElem_cons_zero, List.setIfInBounds_toArray, List.set_cons_zero, List.set_cons_succ]
      refine wpAnyH_take (i := 11) (v := ?v11_25) rfl (by kernel_rfl) (by kernel_rfl) (by kernel_rfl) (fun _ _ _ h => h) (Or.inl ⟨by rfl, ?y11_25⟩) (by assumption) ?r11_25
      case y11_25 => (intro w hSw; (try dsimp only at hSw); go_simp; first | done | with_reducible rfl)
      try simp only [Act.put, List.getElem_toArray, List.getElem_cons_succ, List.getElem_cons_zero, List.setIfInBounds_toArray, List.set_cons_zero, List.set_cons_succ]
      refine wpAnyH_take (i := 12) (v := ?v12_26) rfl (by kernel_rfl) (by kernel_rfl) (by kernel_rfl) (fun _ _ _ h => h) (Or.inl ⟨by rfl, ?y12_26⟩) (by assumption) ?r12_26
      case y12_26 => (intro w hSw; (try dsimp only at hSw); go_simp; first | done | with_reducible rfl)
      try simp only [Act.put, List.getElem_toArray, List.getElem_cons_succ, List.getElem_cons_zero, List.setIfInBounds_toArray, List.set_cons_zero, List.set_cons_succ]
      refine wpAnyH_ready (rs := [13]) (by kernel_rfl) (by simp) ?_
      refine AllReadyH.cons rfl (fun K hK => ?_) AllReadyH.nil
      go_simp
      have C0 := Lib.hid (show (wd.alloc (.cells #[.int .u8 (P.toNat : Int), .int .u8 (Q.toNat : Int)] 5)).drew.cell? ⟨wd.heap.size, 0, none⟩ = some (.int .u8 (P.toNat : Int)) from (Bk.new wd 5 #[.int .u8 (P.toNat : Int), .int .u8 (Q.toNat : Int)]).cell 0)
      have C1 := Lib.hid (show (wd.alloc (.cells #[.int .u8 (P.toNat : Int), .int .u8 (Q.toNat : Int)] 5)).drew.cell? ⟨wd.heap.size, 1, none⟩ = some (.int .u8 (Q.toNat : Int)) from (Bk.new wd 5 #[.int .u8 (P.toNat : Int), .int .u8 (Q.toNat : Int)]).cell 1)
      have OA := Lib.hid (own_kp OC.out (((Kp.refl (fun _ => False) wd).alloc (.cells #[.int .u8 (P.toNat : Int), .int .u8 (Q.toNat : Int)] 5)).drew) (fun _ _ f => f))
      have KC := Lib.hid (KC.out.alloc (.cells #[.int .u8 (P.toNat : Int), .int .u8 (Q.toNat : Int)] 5))
      have HB3 := Lib.hid (show w.heap.size + 1 ≤ (wd.alloc (.cells #[.int .u8 (P.toNat : Int), .int .u8 (Q.toNat : Int)] 5)).drew.heap.size from Nat.le_trans HBd.out.lt KC.out.size)
      have KC : Hid (Kp (fun b => v4.ownBlock = some b) wd (wd.alloc (.cells #[.int .u8 (P.toNat : Int), .int .u8 (Q.toNat : Int)] 5)).drew) := KC
      refine hK.out _ _ (KC.out) (fun hHeld => ?_)
      clear hK K
      try simp only [Act.put, List.getElem_toArray, List.getElem_cons_succ, List.getElem_cons_zero, List.setIfInBounds_toArray, List.set_cons_zero, List.set_cons_succ]
      generalize (wd.alloc (.cells #[.int .u8 (P.toNat : Int), .int .u8 (Q.toNat : Int)] 5)).drew = wA at *
      refine wpAnyH_ready (rs := [14]) (by kernel_rfl) (by simp) ?_
      refine AllReadyH.cons rfl (fun K hK => ?_) AllReadyH.nil
      rw [if_pos (by rfl)]
      refine wp_append_own _ (.tmp 16) (.tmp 29) 68 (by rfl) (w.heap.size + 1) 5 i5 _ 1 1 Tryd.underlying68 hi5 hy0 hy1 hy2 rfl (by omega) v4 3 (u8V (mpre [a, b, c, d, e, f] 1 ++ [58])) (by rfl) OA.out ⟨wd.heap.size, 0, none⟩ 2 2 (u8V [P, Q]) (by rfl) rfl (two_one C0.out C1.out) (u8V_one _) (by unfold maxLen; omega) (by omega) HB3.out ?_
      intro v8 w8 own8 grow8 nil8
      have KC := Lib.hid (KC.out.trans ((Kp.refl (fun b => v4.ownBlock = some b) _).grown grow8 (fun i hi => .inl hi)) (fun j hj hk => hk))
      have O8 := Lib.hid own8
      have N8 := Lib.hid (fun e => nil8.1 e)
      clear own8 grow8 nil8
      refine hK.out _ _ (KC.out) (fun hHeld => ?_)
      clear hK K
      try simp only [Act.put, List.getElem_toArray, List.getElem_cons_succ, List.getElem_cons_zero, List.setIfInBounds_toArray, List.set_cons_zero, List.set_cons_succ]
      refine wpAnyH_take (i := 15) (v := ?v15_27) rfl (by kernel_rfl) (by kernel_rfl) (by kernel_rfl) (fun _ _ _ h => h) (Or.inl ⟨by rfl, ?y15_27⟩) (by assumption) ?r15_27
      case y15_27 => (intro w hSw; (try dsimp only at hSw); go_simp; first | done | with_reducible rfl)
      try simp only [Act.put, List.getElem_toArray, List.getElem_cons_succ, List.getElem_cons_zero, List.setIfInBounds_toArray, List.set_cons_zero, List.set_cons_succ]
      refine wpAnyH_done (by kernel_rfl) ?_ _
      go_wp2_with fail
      go_roundw
      case rel => exact ⟨2, by omega, rfl, by rw [HT.out, u8V_add]; exact O8.out, HBd.out.kept KC.out (fun h => by have := own_ge OC.out h; omega), Kd.out.trans KC.out (fun b hb h => absurd hb (by have := own_ge OC.out h; omega))⟩
      case measure => simp [intOf]
    · clear hk
      have HO : Hid (wr.ownsRow (w.heap.size + 1) 5 1 u4 5 (u8V (mpre [a, b, c, d, e, f] 2))) := HO
      obtain ⟨p, q, hp, hq, ht, e1, e2, e3, e4, e5, e6⟩ := nib h2
      have x1 := run_hex16 hp
      have x2 := run_hex16 hq
      have HT := Lib.hid (show mpre [a, b, c, d, e, f] 3 = mpre [a, b, c, d, e, f] 2 ++ [58] ++ [hexd p, hexd q] by rw [← ht]; rfl)
      clear ht
      generalize hexd p = P at *
      generalize hexd q = Q at *
      have k2 := HK.out.alloc (.cells #[.int .u8 58] 5)
      have O2 := Lib.hid (own_kp HO.out ((Kp.refl (fun _ => False) wr).alloc (.cells #[.int .u8 58] 5)) (fun _ _ f => f))
      have hbk := Bk.new wr 5 #[.int .u8 58]
      have hc : (wr.alloc (.cells #[.int .u8 58] 5)).cell? ⟨wr.heap.size, 0, none⟩ = some (.int .u8 58) := hbk.cell 0
      have HB2 := Lib.hid (HB.out.alloc (.cells #[.int .u8 58] 5))
      generalize hA : wr.alloc (.cells #[.int .u8 58] 5) = wx at *
      have HX := Lib.hid hA
      have HC := Lib.hid hc
      have K2 := Lib.hid k2
      have hb3 : w.heap.size + 1 ≤ wx.heap.size := HB2.out.lt
      clear hA hc hbk k2
      go_wp2_with
        (at_builtin
         go_must (
           try rw [HX.out]
           refine wpList_append_own _ rfl (.tmp 13) (.tmp 14) 68 rfl (w.heap.size + 1) 5 i5 _ 1 1 Tryd.underlying68 hi5 hy0 hy1 hy2 rfl (by omega) u4 5 (u8V (mpre [a, b, c, d, e, f] 2)) rfl O2.out ⟨wr.heap.size, 0, none⟩ 1 1 (u8V [58]) rfl rfl (one_cell HC.out) (u8V_one _) (by unfold maxLen; omega) (by omega) hb3 ?_
           intro v4 wd own4 hgrow4 hnil4
           have Kx := Lib.hid ((Kp.refl (fun b => u4.ownBlock = some b) wx).grown hgrow4 (fun i hi => .inl hi))
           have Kd := Lib.hid (K2.out.trans Kx.out (fun b hb h => absurd hb (by have := own_ge O2.out h; omega)))
           have HBd := Lib.hid (HB2.out.kept Kx.out (fun h => by have := own_ge O2.out h; omega))
           have OC := Lib.hid own4
           clear own4 hgrow4 hnil4))
      have OC : Hid (wd.ownsRow (w.heap.size + 1) 5 1 v4 6 (u8V (mpre [a, b, c, d, e, f] 2 ++ [58]))) := Lib.hid (by rw [u8V_add]; exact OC.out)
      have EC := Lib.hid (show ∀ w', Kp (fun b => v4.ownBlock = some b) wd w' → w'.cell? ⟨w.heap.size, 2, none⟩ = some (.int .u8 (c : Int)) from fun w' hw => (hw.cell (p := ⟨w.heap.size, 2, none⟩) HBd.out.lt (fun h => by have := own_ge OC.out h; have : w.heap.size + 1 ≤ w.heap.size := this; omega)).trans (HBd.out.cell 2))
      have KC := Lib.hid (Kp.refl (fun b => v4.ownBlock = some b) wd).drew
      clear HO HB HK
      refine wp_region_held_drew (S := (fun w' => Kp (fun b => v4.ownBlock = some b) wd w')) (by kernel_rfl) (KC.out) (fun hHeld => ?_)
      refine wpAnyH_take (i := 0) (v := ?v0_28) rfl (by kernel_rfl) (by kernel_rfl) (by kernel_rfl) (fun _ _ _ h => h) (Or.inl ⟨by rfl, ?y0_28⟩) (by assumption) ?r0_28
      case y0_28 => (intro w hSw; (try dsimp only at hSw); go_simp; first | done | with_reducible rfl)
      try simp only [Act.put, List.getElem_toArray, List.getElem_cons_succ, List.getElem_cons_zero, List.setIfInBounds_toArray, List.set_cons_zero, List.set_cons_succ]
      refine wpAnyH_take (i := 1) (v := ?v1_29) rfl (by kernel_rfl) (by kernel_rfl) (by kernel_rfl) (fun _ _ _ h => h) (Or.inl ⟨by rfl, ?y1_29⟩) (by assumption) ?r1_29
      case y1_29 => (intro w hSw; (try dsimp only at hSw); go_simp; first | done | with_reducible rfl)
      try simp only [Act.put, List.getElem_toArray, List.getElem_cons_succ, List.getElem_cons_zero, List.setIfInBounds_toArray, List.set_cons_zero, List.set_cons_succ]
      refine wpAnyH_take (i := 2) (v := ?v2_30) rfl (by kernel_rfl) (by kernel_rfl) (by kernel_rfl) (fun _ _ _ h => h) (Or.inl ⟨by rfl, ?y2_30⟩) (by assumption) ?r2_30
      case y2_30 => (intro w hSw; (try dsimp only at hSw); go_simp; first | done | with_reducible rfl)
      try simp only [Act.put, List.getElem_toArray, List.getElem_cons_succ, List.getElem_cons_zero, List.setIfInBounds_toArray, List.set_cons_zero, List.set_cons_succ]
      refine wpAnyH_take (i := 3) (v := ?v3_31) rfl (by kernel_rfl) (by kernel_rfl) (by kernel_rfl) (fun _ _ _ h => h) (Or.inl ⟨by rfl, ?y3_31⟩) (by assumption) ?r3_31
      case y3_31 => (intro w hSw; (try dsimp only at hSw); go_simp; first | done | with_reducible rfl)
      try simp only [Act.put, List.getElem_toArray, List.getElem_cons_succ, List.getElem_cons_zero, List.setIfInBounds_toArray, List.set_cons_zero, List.set_cons_succ]
      refine wpAnyH_take (i := 4) (v := ?v4_32) rfl (by kernel_rfl) (by kernel_rfl) (by kernel_rfl) (fun _ _ _ h => h) (Or.inl ⟨by rfl, ?y4_32⟩) (by assumption) ?r4_32
      case y4_32 => (intro w hSw; (try dsimp only at hSw); have dk := EC.out _ hSw; go_simp; first | done | with_reducible rfl)
      try simp only [Act.put, List.getElem_toArray, List.getElem_cons_succ, List.getElem_cons_zero, List.setIfInBounds_toArray, List.set_cons_zero, List.set_cons_succ]
      refine wpAnyH_take (i := 5) (v := ?v5_33) rfl (by kernel_rfl) (by kernel_rfl) (by kernel_rfl) (fun _ _ _ h => h) (Or.inl ⟨by rfl, ?y5_33⟩) (by assumption) ?r5_33
      case y5_33 => (intro w hSw; (try dsimp only at hSw); go_simp; first | done | with_reducible rfl)
      try simp only [Act.put, List.getElem_toArray, List.getElem_cons_succ, List.getElem_cons_zero, List.setIfInBounds_toArray, List.set_cons_zero, List.set_cons_succ]
      refine wpAnyH_take (i := 6) (v := ?v6_34) rfl (by kernel_rfl) (by kernel_rfl) (by kernel_rfl) (fun _ _ _ h => h) (Or.inl ⟨by rfl, ?y6_34⟩) (by assumption) ?r6_34
      case y6_34 => (intro w hSw; (try dsimp only at hSw); go_simp; first | done | with_reducible rfl)
      try simp only [Act.put, List.getElem_toArray, List.getElem_cons_succ, List.getElem_cons_zero, List.setIfInBounds_toArray, List.set_cons_zero, List.set_cons_succ]
      refine wpAnyH_take (i := 7) (v := ?v7_35) rfl (by kernel_rfl) (by kernel_rfl) (by kernel_rfl) (fun _ _ _ h => h) (Or.inl ⟨by rfl, ?y7_35⟩) (by assumption) ?r7_35
      case y7_35 => (intro w hSw; (try dsimp only at hSw); go_simp; first | done | with_reducible rfl)
      try simp only [Act.put, List.getElem_toArray, List.getElem_cons_succ, List.getElem_cons_zero, List.setIfInBounds_toArray, List.set_cons_zero, List.set_cons_succ]
      refine wpAnyH_take (i := 8) (v := ?v8_36) rfl (by kernel_rfl) (by kernel_rfl) (by kernel_rfl) (fun _ _ _ h => h) (Or.inl ⟨by rfl, ?y8_36⟩) (by assumption) ?r8_36
      case y8_36 => (intro w hSw; (try dsimp only at hSw); go_simp; first | done | with_reducible rfl)
      try simp only [Act.put, List.getElem_toArray, List.getElem_cons_succ, List.getElem_cons_zero, List.setIfInBounds_toArray, List.set_cons_zero, List.set_cons_succ]
      refine wpAnyH_take (i := 9) (v := ?v9_37) rfl (by kernel_rfl) (by kernel_rfl) (by kernel_rfl) (fun _ _ _ h => h) (Or.inl ⟨by rfl, ?y9_37⟩) (by assumption) ?r9_37
      case y9_37 => (intro w hSw; (try dsimp only at hSw); go_simp; first | done | with_reducible rfl)
      try simp only [Act.put, List.getElem_toArray, List.getElem_cons_succ, List.getElem_cons_zero, List.setIfInBounds_toArray, List.set_cons_zero, List.set_cons_succ]
      refine wpAnyH_take (i := 10) (v := ?v10_38) rfl (by kernel_rfl) (by kernel_rfl) (by kernel_rfl) (fun _ _ _ h => h) (Or.inl ⟨by rfl, ?y10_38⟩) (by assumption) ?r10_38
      case y10_38 => (intro w hSw; (try dsimp only at hSw); have dk := EC.out _ hSw; go_simp; first | done | with_reducible rfl)
      try simp only [Act.put, List.getElem_toArray, List.getElem_cons_succ, List.getElem_cons_zero, List.setIfInBounds_toArray, List.set_cons_zero, List.set_cons_succ]
      refine wpAnyH_take (i := 11) (v := ?v11_39) rfl (by kernel_rfl) (by kernel_rfl) (by kernel_rfl) (fun _ _ _ h => h) (Or.inl ⟨by rfl, ?y11_39⟩) (by assumption) ?r11_39
      case y11_39 => (intro w hSw; (try dsimp only at hSw); go_simp; first | done | with_reducible rfl)
      try simp only [Act.put, List.getElem_toArray, List.getElem_cons_succ, List.getElem_cons_zero, List.setIfInBounds_toArray, List.set_cons_zero, List.set_cons_succ]
      refine wpAnyH_take (i := 12) (v := ?v12_40) rfl (by kernel_rfl) (by kernel_rfl) (by kernel_rfl) (fun _ _ _ h => h) (Or.inl ⟨by rfl, ?y12_40⟩) (by assumption) ?r12_40
      case y12_40 => (intro w hSw; (try dsimp only at hSw); go_simp; first | done | with_reducible rfl)
      try simp only [Act.put, List.getElem_toArray, List.getElem_cons_succ, List.getElem_cons_zero, List.setIfInBounds_toArray, List.set_cons_zero, List.set_cons_succ]
      refine wpAnyH_ready (rs := [13]) (by kernel_rfl) (by simp) ?_
      refine AllReadyH.cons rfl (fun K hK => ?_) AllReadyH.nil
      go_simp
      have C0 := Lib.hid (show (wd.alloc (.cells #[.int .u8 (P.toNat : Int), .int .u8 (Q.toNat : Int)] 5)).drew.cell? ⟨wd.heap.size, 0, none⟩ = some (.int .u8 (P.toNat : Int)) from (Bk.new wd 5 #[.int .u8 (P.toNat : Int), .int .u8 (Q.toNat : Int)]).cell 0)
      have C1 := Lib.hid (show (wd.alloc (.cells #[.int .u8 (P.toNat : Int), .int .u8 (Q.toNat : Int)] 5)).drew.cell? ⟨wd.heap.size, 1, none⟩ = some (.int .u8 (Q.toNat : Int)) from (Bk.new wd 5 #[.int .u8 (P.toNat : Int), .int .u8 (Q.toNat : Int)]).cell 1)
      have OA := Lib.hid (own_kp OC.out (((Kp.refl (fun _ => False) wd).alloc (.cells #[.int .u8 (P.toNat : Int), .int .u8 (Q.toNat : Int)] 5)).drew) (fun _ _ f => f))
      have KC := Lib.hid (KC.out.alloc (.cells #[.int .u8 (P.toNat : Int), .int .u8 (Q.toNat : Int)] 5))
      have HB3 := Lib.hid (show w.heap.size + 1 ≤ (wd.alloc (.cells #[.int .u8 (P.toNat : Int), .int .u8 (Q.toNat : Int)] 5)).drew.heap.size from Nat.le_trans HBd.out.lt KC.out.size)
      have KC : Hid (Kp (fun b => v4.ownBlock = some b) wd (wd.alloc (.cells #[.int .u8 (P.toNat : Int), .int .u8 (Q.toNat : Int)] 5)).drew) := KC
      refine hK.out _ _ (KC.out) (fun hHeld => ?_)
      clear hK K
      try simp only [Act.put, List.getElem_toArray, List.getElem_cons_succ, List.getElem_cons_zero, List.setIfInBounds_toArray, List.set_cons_zero, List.set_cons_succ]
      generalize (wd.alloc (.cells #[.int .u8 (P.toNat : Int), .int .u8 (Q.toNat : Int)] 5)).drew = wA at *
      refine wpAnyH_ready (rs := [14]) (by kernel_rfl) (by simp) ?_
      refine AllReadyH.cons rfl (fun K hK => ?_) AllReadyH.nil
      rw [if_pos (by rfl)]
      refine wp_append_own _ (.tmp 16) (.tmp 29) 68 (by rfl) (w.heap.size + 1) 5 i5 _ 1 1 Tryd.underlying68 hi5 hy0 hy1 hy2 rfl (by omega) v4 6 (u8V (mpre [a, b, c, d, e, f] 2 ++ [58])) (by rfl) OA.out ⟨wd.heap.size, 0, none⟩ 2 2 (u8V [P, Q]) (by rfl) rfl (two_one C0.out C1.out) (u8V_one _) (by unfold maxLen; omega) (by omega) HB3.out ?_
      intro v8 w8 own8 grow8 nil8
      have KC := Lib.hid (KC.out.trans ((Kp.refl (fun b => v4.ownBlock = some b) _).grown grow8 (fun i hi => .inl hi)) (fun j hj hk => hk))
      have O8 := Lib.hid own8
      have N8 := Lib.hid (fun e => nil8.1 e)
      clear own8 grow8 nil8
      refine hK.out _ _ (KC.out) (fun hHeld => ?_)
      clear hK K
      try simp only [Act.put, List.getElem_toArray, List.getElem_cons_succ, List.getElem_cons_zero, List.setIfInBounds_toArray, List.set_cons_zero, List.set_cons_succ]
      refine wpAnyH_take (i := 15) (v := ?v15_41) rfl (by kernel_rfl) (by kernel_rfl) (by kernel_rfl) (fun _ _ _ h => h) (Or.inl ⟨by rfl, ?y15_41⟩) (by assumption) ?r15_41
      case y15_41 => (intro w hSw; (try dsimp only at hSw); go_simp; first | done | with_reducible rfl)
      try simp only [Act.put, List.getElem_toArray, List.getElem_cons_succ, List.getElem_cons_zero, List.setIfInBounds_toArray, List.set_cons_zero, List.set_cons_succ]
      refine wpAnyH_done (by kernel_rfl) ?_ _
      go_wp2_with fail
      go_roundw
      case rel => exact ⟨3, by omega, rfl, by rw [HT.out, u8V_add]; exact O8.out, HBd.out.kept KC.out (fun h => by have := own_ge OC.out h; omega), Kd.out.trans KC.out (fun b hb h => absurd hb (by have := own_ge OC.out h; omega))⟩
      case measure => simp [intOf]
    · clear hk
      have HO : Hid (wr.ownsRow (w.heap.size + 1) 5 1 u4 8 (u8V (mpre [a, b, c, d, e, f] 3))) := HO
      obtain ⟨p, q, hp, hq, ht, e1, e2, e3, e4, e5, e6⟩ := nib h3
      have x1 := run_hex16 hp
      have x2 := run_hex16 hq
      have HT := Lib.hid (show mpre [a, b, c, d, e, f] 4 = mpre [a, b, c, d, e, f] 3 ++ [58] ++ [hexd p, hexd q] by rw [← ht]; rfl)
      clear ht
      generalize hexd p = P at *
      generalize hexd q = Q at *
      have k2 := HK.out.alloc (.cells #[.int .u8 58] 5)
      have O2 := Lib.hid (own_kp HO.out ((Kp.refl (fun _ => False) wr).alloc (.cells #[.int .u8 58] 5)) (fun _ _ f => f))
      have hbk := Bk.new wr 5 #[.int .u8 58]
      have hc : (wr.alloc (.cells #[.int .u8 58] 5)).cell? ⟨wr.heap.size, 0, none⟩ = some (.int .u8 58) := hbk.cell 0
      have HB2 := Lib.hid (HB.out.alloc (.cells #[.int .u8 58] 5))
      generalize hA : wr.alloc (.cells #[.int .u8 58] 5) = wx at *
      have HX := Lib.hid hA
      have HC := Lib.hid hc
      have K2 := Lib.hid k2
      have hb3 : w.heap.size + 1 ≤ wx.heap.size := HB2.out.lt
      clear hA hc hbk k2
      go_wp2_with
        (at_builtin
         go_must (
           try rw [HX.out]
           refine wpList_append_own _ rfl (.tmp 13) (.tmp 14) 68 rfl (w.heap.size + 1) 5 i5 _ 1 1 Tryd.underlying68 hi5 hy0 hy1 hy2 rfl (by omega) u4 8 (u8V (mpre [a, b, c, d, e, f] 3)) rfl O2.out ⟨wr.heap.size, 0, none⟩ 1 1 (u8V [58]) rfl rfl (one_cell HC.out) (u8V_one _) (by unfold maxLen; omega) (by omega) hb3 ?_
           intro v4 wd own4 hgrow4 hnil4
           have Kx := Lib.hid ((Kp.refl (fun b => u4.ownBlock = some b) wx).grown hgrow4 (fun i hi => .inl hi))
           have Kd := Lib.hid (K2.out.trans Kx.out (fun b hb h => absurd hb (by have := own_ge O2.out h; omega)))
           have HBd := Lib.hid (HB2.out.kept Kx.out (fun h => by have := own_ge O2.out h; omega))
           have OC := Lib.hid own4
           clear own4 hgrow4 hnil4))
      have OC : Hid (wd.ownsRow (w.heap.size + 1) 5 1 v4 9 (u8V (mpre [a, b, c, d, e, f] 3 ++ [58]))) := Lib.hid (by rw [u8V_add]; exact OC.out)
      have EC := Lib.hid (show ∀ w', Kp (fun b => v4.ownBlock = some b) wd w' → w'.cell? ⟨w.heap.size, 3, none⟩ = some (.int .u8 (d : Int)) from fun w' hw => (hw.cell (p := ⟨w.heap.size, 3, none⟩) HBd.out.lt (fun h => by have := own_ge OC.out h; have : w.heap.size + 1 ≤ w.heap.size := this; omega)).trans (HBd.out.cell 3))
      have KC := Lib.hid (Kp.refl (fun b => v4.ownBlock = some b) wd).drew
      clear HO HB HK
      refine wp_region_held_drew (S := (fun w' => Kp (fun b => v4.ownBlock = some b) wd w')) (by kernel_rfl) (KC.out) (fun hHeld => ?_)
      refine wpAnyH_take (i := 0) (v := ?v0_42) rfl (by kernel_rfl) (by kernel_rfl) (by kernel_rfl) (fun _ _ _ h => h) (Or.inl ⟨by rfl, ?y0_42⟩) (by assumption) ?r0_42
      case y0_42 => (intro w hSw; (try dsimp only at hSw); go_simp; first | done | with_reducible rfl)
      try simp only [Act.put, List.getElem_toArray, List.getElem_cons_succ, List.getElem_cons_zero, List.setIfInBounds_toArray, List.set_cons_zero, List.set_cons_succ]
      refine wpAnyH_take (i := 1) (v := ?v1_43) rfl (by kernel_rfl) (by kernel_rfl) (by kernel_rfl) (fun _ _ _ h => h) (Or.inl ⟨by rfl, ?y1_43⟩) (by assumption) ?r1_43
      case y1_43 => (intro w hSw; (try dsimp only at hSw); go_simp; first | done | with_reducible rfl)
      try simp only [Act.put, List.getElem_toArray, List.getElem_cons_succ, List.getElem_cons_zero, List.setIfInBounds_toArray, List.set_cons_zero, List.set_cons_succ]
      refine wpAnyH_take (i := 2) (v := ?v2_44) rfl (by kernel_rfl) (by kernel_rfl) (by kernel_rfl) (fun _ _ _ h => h) (Or.inl ⟨by rfl, ?y2_44⟩) (by assumption) ?r2_44
      case y2_44 => (intro w hSw; (try dsimp only at hSw); go_simp; first | done | with_reducible rfl)
      try simp only [Act.put, List.getElem_toArray, List.getElem_cons_succ, List.getElem_cons_zero, List.setIfInBounds_toArray, List.set_cons_zero, List.set_cons_succ]
      refine wpAnyH_take (i := 3) (v := ?v3_45) rfl (by kernel_rfl) (by kernel_rfl) (by kernel_rfl) (fun _ _ _ h => h) (Or.inl ⟨by rfl, ?y3_45⟩) (by assumption) ?r3_45
      case y3_45 => (intro w hSw; (try dsimp only at hSw); go_simp; first | done | with_reducible rfl)
      try simp only [Act.put, List.getElem_toArray, List.getElem_cons_succ, List.getElem_cons_zero, List.setIfInBounds_toArray, List.set_cons_zero, List.set_cons_succ]
      refine wpAnyH_take (i := 4) (v := ?v4_46) rfl (by kernel_rfl) (by kernel_rfl) (by kernel_rfl) (fun _ _ _ h => h) (Or.inl ⟨by rfl, ?y4_46⟩) (by assumption) ?r4_46
      case y4_46 => (intro w hSw; (try dsimp only at hSw); have dk := EC.out _ hSw; go_simp; first | done | with_reducible rfl)
      try simp only [Act.put, List.getElem_toArray, List.getElem_cons_succ, List.getElem_cons_zero, List.setIfInBounds_toArray, List.set_cons_zero, List.set_cons_succ]
      refine wpAnyH_take (i := 5) (v := ?v5_47) rfl (by kernel_rfl) (by kernel_rfl) (by kernel_rfl) (fun _ _ _ h => h) (Or.inl ⟨by rfl, ?y5_47⟩) (by assumption) ?r5_47
      case y5_47 => (intro w hSw; (try dsimp only at hSw); go_simp; first | done | with_reducible rfl)
      try simp only [Act.put, List.getElem_toArray, List.getElem_cons_succ, List.getElem_cons_zero, List.setIfInBounds_toArray, List.set_cons_zero, List.set_cons_succ]
      refine wpAnyH_take (i := 6) (v := ?v6_48) rfl (by kernel_rfl) (by kernel_rfl) (by kernel_rfl) (fun _ _ _ h => h) (Or.inl ⟨by rfl, ?y6_48⟩) (by assumption) ?r6_48
      case y6_48 => (intro w hSw; (try dsimp only at hSw); go_simp; first | done | with_reducible rfl)
      try simp only [Act.put, List.getElem_toArray, List.getElem_cons_succ, List.getElem_cons_zero, List.setIfInBounds_toArray, List.set_cons_zero, List.set_cons_succ]
      refine wpAnyH_take (i := 7) (v := ?v7_49) rfl (by kernel_rfl) (by kernel_rfl) (by kernel_rfl) (fun _ _ _ h => h) (Or.inl ⟨by rfl, ?y7_49⟩) (by assumption) ?r7_49
      case y7_49 => (intro w hSw; (try dsimp only at hSw); go_simp; first | done | with_reducible rfl)
      try simp only [Act.put, List.getElem_toArray, List.getElem_cons_succ, List.getElem_cons_zero, List.setIfInBounds_toArray, List.set_cons_zero, List.set_cons_succ]
      refine wpAnyH_take (i := 8) (v := ?v8_50) rfl (by kernel_rfl) (by kernel_rfl) (by kernel_rfl) (fun _ _ _ h => h) (Or.inl ⟨by rfl, ?y8_50⟩) (by assumption) ?r8_50
      case y8_50 => (intro w hSw; (try dsimp only at hSw); go_simp; first | done | with_reducible rfl)
      try simp only [Act.put, List.getElem_toArray, List.getElem_cons_succ, List.getElem_cons_zero, List.setIfInBounds_toArray, List.set_cons_zero, List.set_cons_succ]
      refine wpAnyH_take (i := 9) (v := ?v9_51) rfl (by kernel_rfl) (by kernel_rfl) (by kernel_rfl) (fun _ _ _ h => h) (Or.inl ⟨by rfl, ?y9_51⟩) (by assumption) ?r9_51
      case y9_51 => (intro w hSw; (try dsimp only at hSw); go_simp; first | done | with_reducible rfl)
      try simp only [Act.put, List.getElem_toArray, List.getElem_cons_succ, List.getElem_cons_zero, List.setIfInBounds_toArray, List.set_cons_zero, List.set_cons_succ]
      refine wpAnyH_take (i := 10) (v := ?v10_52) rfl (by kernel_rfl) (by kernel_rfl) (by kernel_rfl) (fun _ _ _ h => h) (Or.inl ⟨by rfl, ?y10_52⟩) (by assumption) ?r10_52
      case y10_52 => (intro w hSw; (try dsimp only at hSw); have dk := EC.out _ hSw; go_simp; first | done | with_reducible rfl)
      try simp only [Act.put, List.getElem_toArray, List.getElem_cons_succ, List.getElem_cons_zero, List.setIfInBounds_toArray, List.set_cons_zero, List.set_cons_succ]
      refine wpAnyH_take (i := 11) (v := ?v11_53) rfl (by kernel_rfl) (by kernel_rfl) (by kernel_rfl) (fun _ _ _ h => h) (Or.inl ⟨by rfl, ?y11_53⟩) (by assumption) ?r11_53
      case y11_53 => (intro w hSw; (try dsimp only at hSw); go_simp; first | done | with_reducible rfl)
      try simp only [Act.put, List.getElem_toArray, List.getElem_cons_succ, List.getElem_cons_zero, List.setIfInBounds_toArray, List.set_cons_zero, List.set_cons_succ]
      refine wpAnyH_take (i := 12) (v := ?v12_54) rfl (by kernel_rfl) (by kernel_rfl) (by kernel_rfl) (fun _ _ _ h => h) (Or.inl ⟨by rfl, ?y12_54⟩) (by assumption) ?r12_54
      case y12_54 => (intro w hSw; (try dsimp only at hSw); go_simp; first | done | with_reducible rfl)
      try simp only [Act.put, List.getElem_toArray, List.getElem_cons_succ, List.getElem_cons_zero, List.setIfInBounds_toArray, List.set_cons_zero, List.set_cons_succ]
      refine wpAnyH_ready (rs := [13]) (by kernel_rfl) (by simp) ?_
      refine AllReadyH.cons rfl (fun K hK => ?_) AllReadyH.nil
      go_simp
      have C0 := Lib.hid (show (wd.alloc (.cells #[.int .u8 (P.toNat : Int), .int .u8 (Q.toNat : Int)] 5)).drew.cell? ⟨wd.heap.size, 0, none⟩ = some (.int .u8 (P.toNat : Int)) from (Bk.new wd 5 #[.int .u8 (P.toNat : Int), .int .u8 (Q.toNat : Int)]).cell 0)
      have C1 := Lib.hid (show (wd.alloc (.cells #[.int .u8 (P.toNat : Int), .int .u8 (Q.toNat : Int)] 5)).drew.cell? ⟨wd.heap.size, 1, none⟩ = some (.int .u8 (Q.toNat : Int)) from (Bk.new wd 5 #[.int .u8 (P.toNat : Int), .int .u8 (Q.toNat : Int)]).cell 1)
      have OA := Lib.hid (own_kp OC.out (((Kp.refl (fun _ => False) wd).alloc (.cells #[.int .u8 (P.toNat : Int), .int .u8 (Q.toNat : Int)] 5)).drew) (fun _ _ f => f))
      have KC := Lib.hid (KC.out.alloc (.cells #[.int .u8 (P.toNat : Int), .int .u8 (Q.toNat : Int)] 5))
      have HB3 := Lib.hid (show w.heap.size + 1 ≤ (wd.alloc (.cells #[.int .u8 (P.toNat : Int), .int .u8 (Q.toNat : Int)] 5)).drew.heap.size from Nat.le_trans HBd.out.lt KC.out.size)
      have KC : Hid (Kp (fun b => v4.ownBlock = some b) wd (wd.alloc (.cells #[.int .u8 (P.toNat : Int), .int .u8 (Q.toNat : Int)] 5)).drew) := KC
      refine hK.out _ _ (KC.out) (fun hHeld => ?_)
      clear hK K
      try simp only [Act.put, List.getElem_toArray, List.getElem_cons_succ, List.getElem_cons_zero, List.setIfInBounds_toArray, List.set_cons_zero, List.set_cons_succ]
      generalize (wd.alloc (.cells #[.int .u8 (P.toNat : Int), .int .u8 (Q.toNat : Int)] 5)).drew = wA at *
      refine wpAnyH_ready (rs := [14]) (by kernel_rfl) (by simp) ?_
      refine AllReadyH.cons rfl (fun K hK => ?_) AllReadyH.nil
      rw [if_pos (by rfl)]
      refine wp_append_own _ (.tmp 16) (.tmp 29) 68 (by rfl) (w.heap.size + 1) 5 i5 _ 1 1 Tryd.underlying68 hi5 hy0 hy1 hy2 rfl (by omega) v4 9 (u8V (mpre [a, b, c, d, e, f] 3 ++ [58])) (by rfl) OA.out ⟨wd.heap.size, 0, none⟩ 2 2 (u8V [P, Q]) (by rfl) rfl (two_one C0.out C1.out) (u8V_one _) (by unfold maxLen; omega) (by omega) HB3.out ?_
      intro v8 w8 own8 grow8 nil8
      have KC := Lib.hid (KC.out.trans ((Kp.refl (fun b => v4.ownBlock = some b) _).grown grow8 (fun i hi => .inl hi)) (fun j hj hk => hk))
      have O8 := Lib.hid own8
      have N8 := Lib.hid (fun e => nil8.1 e)
      clear own8 grow8 nil8
      refine hK.out _ _ (KC.out) (fun hHeld => ?_)
      clear hK K
      try simp only [Act.put, List.getElem_toArray, List.getElem_cons_succ, List.getElem_cons_zero, List.setIfInBounds_toArray, List.set_cons_zero, List.set_cons_succ]
      refine wpAnyH_take (i := 15) (v := ?v15_55) rfl (by kernel_rfl) (by kernel_rfl) (by kernel_rfl) (fun _ _ _ h => h) (Or.inl ⟨by rfl, ?y15_55⟩) (by assumption) ?r15_55
      case y15_55 => (intro w hSw; (try dsimp only at hSw); go_simp; first | done | with_reducible rfl)
      try simp only [Act.put, List.getElem_toArray, List.getElem_cons_succ, List.getElem_cons_zero, List.setIfInBounds_toArray, List.set_cons_zero, List.set_cons_succ]
      refine wpAnyH_done (by kernel_rfl) ?_ _
      go_wp2_with fail
      go_roundw
      case rel => exact ⟨4, by omega, rfl, by rw [HT.out, u8V_add]; exact O8.out, HBd.out.kept KC.out (fun h => by have := own_ge OC.out h; omega), Kd.out.trans KC.out (fun b hb h => absurd hb (by have := own_ge OC.out h; omega))⟩
      case measure => simp [intOf]
    · clear hk
      have HO : Hid (wr.ownsRow (w.heap.size + 1) 5 1 u4 11 (u8V (mpre [a, b, c, d, e, f] 4))) := HO
      obtain ⟨p, q, hp, hq, ht, e1, e2, e3, e4, e5, e6⟩ := nib h4
      have x1 := run_hex16 hp
      have x2 := run_hex16 hq
      have HT := Lib.hid (show mpre [a, b, c, d, e, f] 5 = mpre [a, b, c, d, e, f] 4 ++ [58] ++ [hexd p, hexd q] by rw [← ht]; rfl)
      clear ht
      generalize hexd p = P at *
      generalize hexd q = Q at *
      have k2 := HK.out.alloc (.cells #[.int .u8 58] 5)
      have O2 := Lib.hid (own_kp HO.out ((Kp.refl (fun _ => False) wr).alloc (.cells #[.int .u8 58] 5)) (fun _ _ f => f))
      have hbk := Bk.new wr 5 #[.int .u8 58]
      have hc : (wr.alloc (.cells #[.int .u8 58] 5)).cell? ⟨wr.heap.size, 0, none⟩ = some (.int .u8 58) := hbk.cell 0
      have HB2 := Lib.hid (HB.out.alloc (.cells #[.int .u8 58] 5))
      generalize hA : wr.alloc (.cells #[.int .u8 58] 5) = wx at *
      have HX := Lib.hid hA
      have HC := Lib.hid hc
      have K2 := Lib.hid k2
      have hb3 : w.heap.size + 1 ≤ wx.heap.size := HB2.out.lt
      clear hA hc hbk k2
      go_wp2_with
        (at_builtin
         go_must (
           try rw [HX.out]
           refine wpList_append_own _ rfl (.tmp 13) (.tmp 14) 68 rfl (w.heap.size + 1) 5 i5 _ 1 1 Tryd.underlying68 hi5 hy0 hy1 hy2 rfl (by omega) u4 11 (u8V (mpre [a, b, c, d, e, f] 4)) rfl O2.out ⟨wr.heap.size, 0, none⟩ 1 1 (u8V [58]) rfl rfl (one_cell HC.out) (u8V_one _) (by unfold maxLen; omega) (by omega) hb3 ?_
           intro v4 wd own4 hgrow4 hnil4
           have Kx := Lib.hid ((Kp.refl (fun b => u4.ownBlock = some b) wx).grown hgrow4 (fun i hi => .inl hi))
           have Kd := Lib.hid (K2.out.trans Kx.out (fun b hb h => absurd hb (by have := own_ge O2.out h; omega)))
           have HBd := Lib.hid (HB2.out.kept Kx.out (fun h => by have := own_ge O2.out h; omega))
           have OC := Lib.hid own4
           clear own4 hgrow4 hnil4))
      have OC : Hid (wd.ownsRow (w.heap.size + 1) 5 1 v4 12 (u8V (mpre [a, b, c, d, e, f] 4 ++ [58]))) := Lib.hid (by rw [u8V_add]; exact OC.out)
      have EC := Lib.hid (show ∀ w', Kp (fun b => v4.ownBlock = some b) wd w' → w'.cell? ⟨w.heap.size, 4, none⟩ = some (.int .u8 (e : Int)) from fun w' hw => (hw.cell (p := ⟨w.heap.size, 4, none⟩) HBd.out.lt (fun h => by have := own_ge OC.out h; have : w.heap.size + 1 ≤ w.heap.size := this; omega)).trans (HBd.out.cell 4))
      have KC := Lib.hid (Kp.refl (fun b => v4.ownBlock = some b) wd).drew
      clear HO HB HK
      refine wp_region_held_drew (S := (fun w' => Kp (fun b => v4.ownBlock = some b) wd w')) (by kernel_rfl) (KC.out) (fun hHeld => ?_)
      refine wpAnyH_take (i := 0) (v := ?v0_56) rfl (by kernel_rfl) (by kernel_rfl) (by kernel_rfl) (fun _ _ _ h => h) (Or.inl ⟨by rfl, ?y0_56⟩) (by assumption) ?r0_56
      case y0_56 => (intro w hSw; (try dsimp only at hSw); go_simp; first | done | with_reducible rfl)
      try simp only [Act.put, List.getElem_toArray, List.getElem_cons_succ, List.getElem_cons_zero, List.setIfInBounds_toArray, List.set_cons_zero, List.set_cons_succ]
      refine wpAnyH_take (i := 1) (v := ?v1_57) rfl (by kernel_rfl) (by kernel_rfl) (by kernel_rfl) (fun _ _ _ h => h) (Or.inl ⟨by rfl, ?y1_57⟩) (by assumption) ?r1_57
      case y1_57 => (intro w hSw; (try dsimp only at hSw); go_simp; first | done | with_reducible rfl)
      try simp only [Act.put, List.getElem_toArray, List.getElem_cons_succ, List.getElem_cons_zero, List.setIfInBounds_toArray, List.set_cons_zero, List.set_cons_succ]
      refine wpAnyH_take (i := 2) (v := ?v2_58) rfl (by kernel_rfl) (by kernel_rfl) (by kernel_rfl) (fun _ _ _ h => h) (Or.inl ⟨by rfl, ?y2_58⟩) (by assumption) ?r2_58
      case y2_58 => (intro w hSw; (try dsimp only at hSw); go_simp; first | done | with_reducible rfl)
      try simp only [Act.put, List.getElem_toArray, List.getElem_cons_succ, List.getElem_cons_zero, List.setIfInBounds_toArray, List.set_cons_zero, List.set_cons_succ]
      refine wpAnyH_take (i := 3) (v := ?v3_59) rfl (by kernel_rfl) (by kernel_rfl) (by kernel_rfl) (fun _ _ _ h => h) (Or.inl ⟨by rfl, ?y3_59⟩) (by assumption) ?r3_59
      case y3_59 => (intro w hSw; (try dsimp only at hSw); go_simp; first | done | with_reducible rfl)
      try simp only [Act.put, List.getElem_toArray, List.getElem_cons_succ, List.getElem_cons_zero, List.setIfInBounds_toArray, List.set_cons_zero, List.set_cons_succ]
      refine wpAnyH_take (i := 4) (v := ?v4_60) rfl (by kernel_rfl) (by kernel_rfl) (by kernel_rfl) (fun _ _ _ h => h) (Or.inl ⟨by rfl, ?y4_60⟩) (by assumption) ?r4_60
      case y4_60 => (intro w hSw; (try dsimp only at hSw); have dk := EC.out _ hSw; go_simp; first | done | with_reducible rfl)
      try simp only [Act.put, List.getElem_toArray, List.getElem_cons_succ, List.getElem_cons_zero, List.setIfInBounds_toArray, List.set_cons_zero, List.set_cons_succ]
      refine wpAnyH_take (i := 5) (v := ?v5_61) rfl (by kernel_rfl) (by kernel_rfl) (by kernel_rfl) (fun _ _ _ h => h) (Or.inl ⟨by rfl, ?y5_61⟩) (by assumption) ?r5_61
      case y5_61 => (intro w hSw; (try dsimp only at hSw); go_simp; first | done | with_reducible rfl)
      try simp only [Act.put, List.getElem_toArray, List.getElem_cons_succ, List.getElem_cons_zero, List.setIfInBounds_toArray, List.set_cons_zero, List.set_cons_succ]
      refine wpAnyH_take (i := 6) (v := ?v6_62) rfl (by kernel_rfl) (by kernel_rfl) (by kernel_rfl) (fun _ _ _ h => h) (Or.inl ⟨by rfl, ?y6_62⟩) (by assumption) ?r6_62
      case y6_62 => (intro w hSw; (try dsimp only at hSw); go_simp; first | done | with_reducible rfl)
      try simp only [Act.put, List.getElem_toArray, List.getElem_cons_succ, List.getElem_cons_zero, List.setIfInBounds_toArray, List.set_cons_zero, List.set_cons_succ]
      refine wpAnyH_take (i := 7) (v := ?v7_63) rfl (by kernel_rfl) (by kernel_rfl) (by kernel_rfl) (fun _ _ _ h => h) (Or.inl ⟨by rfl, ?y7_63⟩) (by assumption) ?r7_63
      case y7_63 => (intro w hSw; (try dsimp only at hSw); go_simp; first | done | with_reducible rfl)
      try simp only [Act.put, List.getElem_toArray, List.getElem_cons_succ, List.getElem_cons_zero, List.setIfInBounds_toArray, List.set_cons_zero, List.set_cons_succ]
      refine wpAnyH_take (i := 8) (v := ?v8_64) rfl (by kernel_rfl) (by kernel_rfl) (by kernel_rfl) (fun _ _ _ h => h) (Or.inl ⟨by rfl, ?y8_64⟩) (by assumption) ?r8_64
      case y8_64 => (intro w hSw; (try dsimp only at hSw); go_simp; first | done | with_reducible rfl)
      try simp only [Act.put, List.getElem_toArray, List.getElem_cons_succ, List.getElem_cons_zero, List.setIfInBounds_toArray, List.set_cons_zero, List.set_cons_succ]
      refine wpAnyH_take (i := 9) (v := ?v9_65) rfl (by kernel_rfl) (by kernel_rfl) (by kernel_rfl) (fun _ _ _ h => h) (Or.inl ⟨by rfl, ?y9_65⟩) (by assumption) ?r9_65
      case y9_65 => (intro w hSw; (try dsimp only at hSw); go_simp; first | done | with_reducible rfl)
      try simp only [Act.put, List.getElem_toArray, List.getElem_cons_succ, List.getElem_cons_zero, List.setIfInBounds_toArray, List.set_cons_zero, List.set_cons_succ]
      refine wpAnyH_take (i := 10) (v := ?v10_66) rfl (by kernel_rfl) (by kernel_rfl) (by kernel_rfl) (fun _ _ _ h => h) (Or.inl ⟨by rfl, ?y10_66⟩) (by assumption) ?r10_66
      case y10_66 => (intro w hSw; (try dsimp only at hSw); have dk := EC.out _ hSw; go_simp; first | done | with_reducible rfl)
      try simp only [Act.put, List.getElem_toArray, List.getElem_cons_succ, List.getElem_cons_zero, List.setIfInBounds_toArray, List.set_cons_zero, List.set_cons_succ]
      refine wpAnyH_take (i := 11) (v := ?v11_67) rfl (by kernel_rfl) (by kernel_rfl) (by kernel_rfl) (fun _ _ _ h => h) (Or.inl ⟨by rfl, ?y11_67⟩) (by assumption) ?r11_67
      case y11_67 => (intro w hSw; (try dsimp only at hSw); go_simp; first | done | with_reducible rfl)
      try simp only [Act.put, List.getElem_toArray, List.getElem_cons_succ, List.getElem_cons_zero, List.setIfInBounds_toArray, List.set_cons_zero, List.set_cons_succ]
      refine wpAnyH_take (i := 12) (v := ?v12_68) rfl (by kernel_rfl) (by kernel_rfl) (by kernel_rfl) (fun _ _ _ h => h) (Or.inl ⟨by rfl, ?y12_68⟩) (by assumption) ?r12_68
      case y12_68 => (intro w hSw; (try dsimp only at hSw); go_simp; first | done | with_reducible rfl)
      try simp only [Act.put, List.getElem_toArray, List.getElem_cons_succ, List.getElem_cons_zero, List.setIfInBounds_toArray, List.set_cons_zero, List.set_cons_succ]
      refine wpAnyH_ready (rs := [13]) (by kernel_rfl) (by simp) ?_
      refine AllReadyH.cons rfl (fun K hK => ?_) AllReadyH.nil
      go_simp
      have C0 := Lib.hid (show (wd.alloc (.cells #[.int .u8 (P.toNat : Int), .int .u8 (Q.toNat : Int)] 5)).drew.cell? ⟨wd.heap.size, 0, none⟩ = some (.int .u8 (P.toNat : Int)) from (Bk.new wd 5 #[.int .u8 (P.toNat : Int), .int .u8 (Q.toNat : Int)]).cell 0)
      have C1 := Lib.hid (show (wd.alloc (.cells #[.int .u8 (P.toNat : Int), .int .u8 (Q.toNat : Int)] 5)).drew.cell? ⟨wd.heap.size, 1, none⟩ = some (.int .u8 (Q.toNat : Int)) from (Bk.new wd 5 #[.int .u8 (P.toNat : Int), .int .u8 (Q.toNat : Int)]).cell 1)
      have OA := Lib.hid (own_kp OC.out (((Kp.refl (fun _ => False) wd).alloc (.cells #[.int .u8 (P.toNat : Int), .int .u8 (Q.toNat : Int)] 5)).drew) (fun _ _ f => f))
      have KC := Lib.hid (KC.out.alloc (.cells #[.int .u8 (P.toNat : Int), .int .u8 (Q.toNat : Int)] 5))
      have HB3 := Lib.hid (show w.heap.size + 1 ≤ (wd.alloc (.cells #[.int .u8 (P.toNat : Int), .int .u8 (Q.toNat : Int)] 5)).drew.heap.size from Nat.le_trans HBd.out.lt KC.out.size)
      have KC : Hid (Kp (fun b => v4.ownBlock = some b) wd (wd.alloc (.cells #[.int .u8 (P.toNat : Int), .int .u8 (Q.toNat : Int)] 5)).drew) := KC
      refine hK.out _ _ (KC.out) (fun hHeld => ?_)
      clear hK K
      try simp only [Act.put, List.getElem_toArray, List.getElem_cons_succ, List.getElem_cons_zero, List.setIfInBounds_toArray, List.set_cons_zero, List.set_cons_succ]
      generalize (wd.alloc (.cells #[.int .u8 (P.toNat : Int), .int .u8 (Q.toNat : Int)] 5)).drew = wA at *
      refine wpAnyH_ready (rs := [14]) (by kernel_rfl) (by simp) ?_
      refine AllReadyH.cons rfl (fun K hK => ?_) AllReadyH.nil
      rw [if_pos (by rfl)]
      refine wp_append_own _ (.tmp 16) (.tmp 29) 68 (by rfl) (w.heap.size + 1) 5 i5 _ 1 1 Tryd.underlying68 hi5 hy0 hy1 hy2 rfl (by omega) v4 12 (u8V (mpre [a, b, c, d, e, f] 4 ++ [58])) (by rfl) OA.out ⟨wd.heap.size, 0, none⟩ 2 2 (u8V [P, Q]) (by rfl) rfl (two_one C0.out C1.out) (u8V_one _) (by unfold maxLen; omega) (by omega) HB3.out ?_
      intro v8 w8 own8 grow8 nil8
      have KC := Lib.hid (KC.out.trans ((Kp.refl (fun b => v4.ownBlock = some b) _).grown grow8 (fun i hi => .inl hi)) (fun j hj hk => hk))
      have O8 := Lib.hid own8
      have N8 := Lib.hid (fun e => nil8.1 e)
      clear own8 grow8 nil8
      refine hK.out _ _ (KC.out) (fun hHeld => ?_)
      clear hK K
      try simp only [Act.put, List.getElem_toArray, List.getElem_cons_succ, List.getElem_cons_zero, List.setIfInBounds_toArray, List.set_cons_zero, List.set_cons_succ]
      refine wpAnyH_take (i := 15) (v := ?v15_69) rfl (by kernel_rfl) (by kernel_rfl) (by kernel_rfl) (fun _ _ _ h => h) (Or.inl ⟨by rfl, ?y15_69⟩) (by assumption) ?r15_69
      case y15_69 => (intro w hSw; (try dsimp only at hSw); go_simp; first | done | with_reducible rfl)
      try simp only [Act.put, List.getElem_toArray, List.getElem_cons_succ, List.getElem_cons_zero, List.setIfInBounds_toArray, List.set_cons_zero, List.set_cons_succ]
      refine wpAnyH_done (by kernel_rfl) ?_ _
      go_wp2_with fail
      go_roundw
      case rel => exact ⟨5, by omega, rfl, by rw [HT.out, u8V_add]; exact O8.out, HBd.out.kept KC.out (fun h => by have := own_ge OC.out h; omega), Kd.out.trans KC.out (fun b hb h => absurd hb (by have := own_ge OC.out h; omega))⟩
      case measure => simp [intOf]
    · clear hk
      have HO : Hid (wr.ownsRow (w.heap.size + 1) 5 1 u4 14 (u8V (mpre [a, b, c, d, e, f] 5))) := HO
      obtain ⟨p, q, hp, hq, ht, e1, e2, e3, e4, e5, e6⟩ := nib h5
      have x1 := run_hex16 hp
      have x2 := run_hex16 hq
      have HT := Lib.hid (show mpre [a, b, c, d, e, f] 6 = mpre [a, b, c, d, e, f] 5 ++ [58] ++ [hexd p, hexd q] by rw [← ht]; rfl)
      clear ht
      generalize hexd p = P at *
      generalize hexd q = Q at *
      have k2 := HK.out.alloc (.cells #[.int .u8 58] 5)
      have O2 := Lib.hid (own_kp HO.out ((Kp.refl (fun _ => False) wr).alloc (.cells #[.int .u8 58] 5)) (fun _ _ f => f))
      have hbk := Bk.new wr 5 #[.int .u8 58]
      have hc : (wr.alloc (.cells #[.int .u8 58] 5)).cell? ⟨wr.heap.size, 0, none⟩ = some (.int .u8 58) := hbk.cell 0
      have HB2 := Lib.hid (HB.out.alloc (.cells #[.int .u8 58] 5))
      generalize hA : wr.alloc (.cells #[.int .u8 58] 5) = wx at *
      have HX := Lib.hid hA
      have HC := Lib.hid hc
      have K2 := Lib.hid k2
      have hb3 : w.heap.size + 1 ≤ wx.heap.size := HB2.out.lt
      clear hA hc hbk k2
      go_wp2_with
        (at_builtin
         go_must (
           try rw [HX.out]
           refine wpList_append_own _ rfl (.tmp 13) (.tmp 14) 68 rfl (w.heap.size + 1) 5 i5 _ 1 1 Tryd.underlying68 hi5 hy0 hy1 hy2 rfl (by omega) u4 14 (u8V (mpre [a, b, c, d, e, f] 5)) rfl O2.out ⟨wr.heap.size, 0, none⟩ 1 1 (u8V [58]) rfl rfl (one_cell HC.out) (u8V_one _) (by unfold maxLen; omega) (by omega) hb3 ?_
           intro v4 wd own4 hgrow4 hnil4
           have Kx := Lib.hid ((Kp.refl (fun b => u4.ownBlock = some b) wx).grown hgrow4 (fun i hi => .inl hi))
           have Kd := Lib.hid (K2.out.trans Kx.out (fun b hb h => absurd hb (by have := own_ge O2.out h; omega)))
           have HBd := Lib.hid (HB2.out.kept Kx.out (fun h => by have := own_ge O2.out h; omega))
           have OC := Lib.hid own4
           clear own4 hgrow4 hnil4))
      have OC : Hid (wd.ownsRow (w.heap.size + 1) 5 1 v4 15 (u8V (mpre [a, b, c, d, e, f] 5 ++ [58]))) := Lib.hid (by rw [u8V_add]; exact OC.out)
      have EC := Lib.hid (show ∀ w', Kp (fun b => v4.ownBlock = some b) wd w' → w'.cell? ⟨w.heap.size, 5, none⟩ = some (.int .u8 (f : Int)) from fun w' hw => (hw.cell (p := ⟨w.heap.size, 5, none⟩) HBd.out.lt (fun h => by have := own_ge OC.out h; have : w.heap.size + 1 ≤ w.heap.size := this; omega)).trans (HBd.out.cell 5))
      have KC := Lib.hid (Kp.refl (fun b => v4.ownBlock = some b) wd).drew
      clear HO HB HK
      refine wp_region_held_drew (S := (fun w' => Kp (fun b => v4.ownBlock = some b) wd w')) (by kernel_rfl) (KC.out) (fun hHeld => ?_)
      refine wpAnyH_take (i := 0) (v := ?v0_70) rfl (by kernel_rfl) (by kernel_rfl) (by kernel_rfl) (fun _ _ _ h => h) (Or.inl ⟨by rfl, ?y0_70⟩) (by assumption) ?r0_70
      case y0_70 => (intro w hSw; (try dsimp only at hSw); go_simp; first | done | with_reducible rfl)
      try simp only [Act.put, List.getElem_toArray, List.getElem_cons_succ, List.getElem_cons_zero, List.setIfInBounds_toArray, List.set_cons_zero, List.set_cons_succ]
      refine wpAnyH_take (i := 1) (v := ?v1_71) rfl (by kernel_rfl) (by kernel_rfl) (by kernel_rfl) (fun _ _ _ h => h) (Or.inl ⟨by rfl, ?y1_71⟩) (by assumption) ?r1_71
      case y1_71 => (intro w hSw; (try dsimp only at hSw); go_simp; first | done | with_reducible rfl)
      try simp only [Act.put, List.getElem_toArray, List.getElem_cons_succ, List.getElem_cons_zero, List.setIfInBounds_toArray, List.set_cons_zero, List.set_cons_succ]
      refine wpAnyH_take (i := 2) (v := ?v2_72) rfl (by kernel_rfl) (by kernel_rfl) (by kernel_rfl) (fun _ _ _ h => h) (Or.inl ⟨by rfl, ?y2_72⟩) (by assumption) ?r2_72
      case y2_72 => (intro w hSw; (try dsimp only at hSw); go_simp; first | done | with_reducible rfl)
      try simp only [Act.put, List.getElem_toArray, List.getElem_cons_succ, List.getElem_cons_zero, List.setIfInBounds_toArray, List.set_cons_zero, List.set_cons_succ]
      refine wpAnyH_take (i := 3) (v := ?v3_73) rfl (by kernel_rfl) (by kernel_rfl) (by kernel_rfl) (fun _ _ _ h => h) (Or.inl ⟨by rfl, ?y3_73⟩) (by assumption) ?r3_73
      case y3_73 => (intro w hSw; (try dsimp only at hSw); go_simp; first | done | with_reducible rfl)
      try simp only [Act.put, List.getElem_toArray, List.getElem_cons_succ, List.getElem_cons_zero, List.setIfInBounds_toArray, List.set_cons_zero, List.set_cons_succ]
      refine wpAnyH_take (i := 4) (v := ?v4_74) rfl (by kernel_rfl) (by kernel_rfl) (by kernel_rfl) (fun _ _ _ h => h) (Or.inl ⟨by rfl, ?y4_74⟩) (by assumption) ?r4_74
      case y4_74 => (intro w hSw; (try dsimp only at hSw); have dk := EC.out _ hSw; go_simp; first | done | with_reducible rfl)
      try simp only [Act.put, List.getElem_toArray, List.getElem_cons_succ, List.getElem_cons_zero, List.setIfInBounds_toArray, List.set_cons_zero, List.set_cons_succ]
      refine wpAnyH_take (i := 5) (v := ?v5_75) rfl (by kernel_rfl) (by kernel_rfl) (by kernel_rfl) (fun _ _ _ h => h) (Or.inl ⟨by rfl, ?y5_75⟩) (by assumption) ?r5_75
      case y5_75 => (intro w hSw; (try dsimp only at hSw); go_simp; first | done | with_reducible rfl)
      try simp only [Act.put, List.getElem_toArray, List.getElem_cons_succ, List.getElem_cons_zero, List.setIfInBounds_toArray, List.set_cons_zero, List.set_cons_succ]
      refine wpAnyH_take (i := 6) (v := ?v6_76) rfl (by kernel_rfl) (by kernel_rfl) (by kernel_rfl) (fun _ _ _ h => h) (Or.inl ⟨by rfl, ?y6_76⟩) (by assumption) ?r6_76
      case y6_76 => (intro w hSw; (try dsimp only at hSw); go_simp; first | done | with_reducible rfl)
      try simp only [Act.put, List.getElem_toArray, List.getElem_cons_succ, List.getElem_cons_zero, List.setIfInBounds_toArray, List.set_cons_zero, List.set_cons_succ]
      refine wpAnyH_take (i := 7) (v := ?v7_77) rfl (by kernel_rfl) (by kernel_rfl) (by kernel_rfl) (fun _ _ _ h => h) (Or.inl ⟨by rfl, ?y7_77⟩) (by assumption) ?r7_77
      case y7_77 => (intro w hSw; (try dsimp only at hSw); go_simp; first | done | with_reducible rfl)
      try simp only [Act.put, List.getElem_toArray, List.getElem_cons_succ, List.getElem_cons_zero, List.setIfInBounds_toArray, List.set_cons_zero, List.set_cons_succ]
      refine wpAnyH_take (i := 8) (v := ?v8_78) rfl (by kernel_rfl) (by kernel_rfl) (by kernel_rfl) (fun _ _ _ h => h) (Or.inl ⟨by rfl, ?y8_78⟩) (by assumption) ?r8_78
      case y8_78 => (intro w hSw; (try dsimp only at hSw); go_simp; first | done | with_reducible rfl)
      try simp only [Act.put, List.getElem_toArray, List.getElem_cons_succ, List.getElem_cons_zero, List.setIfInBounds_toArray, List.set_cons_zero, List.set_cons_succ]
      refine wpAnyH_take (i := 9) (v := ?v9_79) rfl (by kernel_rfl) (by kernel_rfl) (by kernel_rfl) (fun _ _ _ h => h) (Or.inl ⟨by rfl, ?y9_79⟩) (by assumption) ?r9_79
      case y9_79 => (intro w hSw; (try dsimp only at hSw); go_simp; first | done | with_reducible rfl)
      try simp only [Act.put, List.getElem_toArray, List.getElem_cons_succ, List.getElem_cons_zero, List.setIfInBounds_toArray, List.set_cons_zero, List.set_cons_succ]
      refine wpAnyH_take (i := 10) (v := ?v10_80) rfl (by kernel_rfl) (by kernel_rfl) (by kernel_rfl) (fun _ _ _ h => h) (Or.inl ⟨by rfl, ?y10_80⟩) (by assumption) ?r10_80
      case y10_80 => (intro w hSw; (try dsimp only at hSw); have dk := EC.out _ hSw; go_simp; first | done | with_reducible rfl)
      try simp only [Act.put, List.getElem_toArray, List.getElem_cons_succ, List.getElem_cons_zero, List.setIfInBounds_toArray, List.set_cons_zero, List.set_cons_succ]
      refine wpAnyH_take (i := 11) (v := ?v11_81) rfl (by kernel_rfl) (by kernel_rfl) (by kernel_rfl) (fun _ _ _ h => h) (Or.inl ⟨by rfl, ?y11_81⟩) (by assumption) ?r11_81
      case y11_81 => (intro w hSw; (try dsimp only at hSw); go_simp; first | done | with_reducible rfl)
      try simp only [Act.put, List.getElem_toArray, List.getElem_cons_succ, List.getElem_cons_zero, List.setIfInBounds_toArray, List.set_cons_zero, List.set_cons_succ]
      refine wpAnyH_take (i := 12) (v := ?v12_82) rfl (by kernel_rfl) (by kernel_rfl) (by kernel_rfl) (fun _ _ _ h => h) (Or.inl ⟨by rfl, ?y12_82⟩) (by assumption) ?r12_82
      case y12_82 => (intro w hSw; (try dsimp only at hSw); go_simp; first | done | with_reducible rfl)
      try simp only [Act.put, List.getElem_toArray, List.getElem_cons_succ, List.getElem_cons_zero, List.setIfInBounds_toArray, List.set_cons_zero, List.set_cons_succ]
      refine wpAnyH_ready (rs := [13]) (by kernel_rfl) (by simp) ?_
      refine AllReadyH.cons rfl (fun K hK => ?_) AllReadyH.nil
      go_simp
      have C0 := Lib.hid (show (wd.alloc (.cells #[.int .u8 (P.toNat : Int), .int .u8 (Q.toNat : Int)] 5)).drew.cell? ⟨wd.heap.size, 0, none⟩ = some (.int .u8 (P.toNat : Int)) from (Bk.new wd 5 #[.int .u8 (P.toNat : Int), .int .u8 (Q.toNat : Int)]).cell 0)
      have C1 := Lib.hid (show (wd.alloc (.cells #[.int .u8 (P.toNat : Int), .int .u8 (Q.toNat : Int)] 5)).drew.cell? ⟨wd.heap.size, 1, none⟩ = some (.int .u8 (Q.toNat : Int)) from (Bk.new wd 5 #[.int .u8 (P.toNat : Int), .int .u8 (Q.toNat : Int)]).cell 1)
      have OA := Lib.hid (own_kp OC.out (((Kp.refl (fun _ => False) wd).alloc (.cells #[.int .u8 (P.toNat : Int), .int .u8 (Q.toNat : Int)] 5)).drew) (fun _ _ f => f))
      have KC := Lib.hid (KC.out.alloc (.cells #[.int .u8 (P.toNat : Int), .int .u8 (Q.toNat : Int)] 5))
      have HB3 := Lib.hid (show w.heap.size + 1 ≤ (wd.alloc (.cells #[.int .u8 (P.toNat : Int), .int .u8 (Q.toNat : Int)] 5)).drew.heap.size from Nat.le_trans HBd.out.lt KC.out.size)
      have KC : Hid (Kp (fun b => v4.ownBlock = some b) wd (wd.alloc (.cells #[.int .u8 (P.toNat : Int), .int .u8 (Q.toNat : Int)] 5)).drew) := KC
      refine hK.out _ _ (KC.out) (fun hHeld => ?_)
      clear hK K
      try simp only [Act.put, List.getElem_toArray, List.getElem_cons_succ, List.getElem_cons_zero, List.setIfInBounds_toArray, List.set_cons_zero, List.set_cons_succ]
      generalize (wd.alloc (.cells #[.int .u8 (P.toNat : Int), .int .u8 (Q.toNat : Int)] 5)).drew = wA at *
      refine wpAnyH_ready (rs := [14]) (by kernel_rfl) (by simp) ?_
      refine AllReadyH.cons rfl (fun K hK => ?_) AllReadyH.nil
      rw [if_pos (by rfl)]
      refine wp_append_own _ (.tmp 16) (.tmp 29) 68 (by rfl) (w.heap.size + 1) 5 i5 _ 1 1 Tryd.underlying68 hi5 hy0 hy1 hy2 rfl (by omega) v4 15 (u8V (mpre [a, b, c, d, e, f] 5 ++ [58])) (by rfl) OA.out ⟨wd.heap.size, 0, none⟩ 2 2 (u8V [P, Q]) (by rfl) rfl (two_one C0.out C1.out) (u8V_one _) (by unfold maxLen; omega) (by omega) HB3.out ?_
      intro v8 w8 own8 grow8 nil8
      have KC := Lib.hid (KC.out.trans ((Kp.refl (fun b => v4.ownBlock = some b) _).grown grow8 (fun i hi => .inl hi)) (fun j hj hk => hk))
      have O8 := Lib.hid own8
      have N8 := Lib.hid (fun e => nil8.1 e)
      clear own8 grow8 nil8
      refine hK.out _ _ (KC.out) (fun hHeld => ?_)
      clear hK K
      try simp only [Act.put, List.getElem_toArray, List.getElem_cons_succ, List.getElem_cons_zero, List.setIfInBounds_toArray, List.set_cons_zero, List.set_cons_succ]
      refine wpAnyH_take (i := 15) (v := ?v15_83) rfl (by kernel_rfl) (by kernel_rfl) (by kernel_rfl) (fun _ _ _ h => h) (Or.inl ⟨by rfl, ?y15_83⟩) (by assumption) ?r15_83
      case y15_83 => (intro w hSw; (try dsimp only at hSw); go_simp; first | done | with_reducible rfl)
      try simp only [Act.put, List.getElem_toArray, List.getElem_cons_succ, List.getElem_cons_zero, List.setIfInBounds_toArray, List.set_cons_zero, List.set_cons_succ]
      refine wpAnyH_done (by kernel_rfl) ?_ _
      go_wp2_with fail
      go_roundw
      case rel => exact ⟨6, by omega, rfl, by rw [HT.out, u8V_add]; exact O8.out, HBd.out.kept KC.out (fun h => by have := own_ge OC.out h; omega), Kd.out.trans KC.out (fun b hb h => absurd hb (by have := own_ge OC.out h; omega))⟩
      case measure => simp [intOf]
    · clear hk
      have HO : Hid (wr.ownsRow (w.heap.size + 1) 5 1 u4 17 (u8V (mpre [a, b, c, d, e, f] 6))) := HO
      have ho := HO.out
      rcases ho.2 with ⟨_, e⟩ | ⟨g, cap, cur, rfl, hge, hgt, hc1, hc2, hc3, hc4⟩
      · cases e
      have hst := str_of (w := wr) (g := g) (n := 17) (c := cap) (l := mpre [a, b, c, d, e, f] 6) rfl (fun j v hj => by
        have hh := ho.cells (g := g) rfl j v hj
        by_cases hj0 : j = 0
        · subst hj0; exact hh
        · simpa [Addr.add, hj0] using hh)
      obtain ⟨R, hR⟩ : ∃ R, R = mpre [a, b, c, d, e, f] 6 := ⟨_, rfl⟩
      rw [← hR] at hst
      have HR := Lib.hid hR
      clear hR ho hgt hc4 HO
      go_wp2_with fail
      exact bodyPost_ret (results_tmp rfl _ _ _) rfl ⟨by rw [show macL [a, b, c, d, e, f] = R from HR.out.symm]; rfl, HK.out⟩
end Go.Proofs.YtkafdpidhelfdaaDoor
