/- Place: PlaceTexts' walk. -/
import Derived.Test.YtkafdpidhelfdaaDoorPml
import Derived.Laws.StructEq
import Derived.Stop.BytesEq
set_option linter.unusedVariables false
set_option linter.unusedSimpArgs false
namespace Go.Proofs.YtkafdpidhelfdaaDoor
open Go.RowKit

def mac (m : Nat → Int) : Array Value := #[.int .u8 (m 0), .int .u8 (m 1), .int .u8 (m 2), .int .u8 (m 3), .int .u8 (m 4), .int .u8 (m 5)]
theorem run_equalIn_mac (w : World) (d : Nat) (m : Nat → Int) : (Op.equalIn (d + 2) 37 (.agg (mac m)) (.agg (mac m))).run Tryd.prog w = .ok true w := by
  have hsz : ∀ w, (sizeOf 5).run Tryd.prog w = .ok 1 w := fun w => by kernel_rfl
  have ht : Tryd.prog.underlying 37 = some (.array 6 5) := Tryd.underlying37
  have he : Tryd.prog.underlying 5 = some (.int .u8) := Tryd.underlying5
  rw [Op.equalIn]
  simp only [Sem.run_bind, run_underlying ht, Result.andThen_ok, hsz, Std.Legacy.Range.forIn_eq_forIn_range', Std.Legacy.Range.size, Nat.sub_zero, Nat.add_sub_cancel, Nat.div_one]
  have hl : ∀ i ∈ List.range' 0 6 1, i < 6 := fun i hi => by simpa using (List.mem_range'_1.1 hi).2
  generalize List.range' 0 6 1 = l at hl ⊢
  induction l with
  | nil => simp
  | cons i l ih =>
    have hi : i < 6 := hl i (by simp)
    have hcell : ∀ (m : Nat → Int), (part 5 (mac m) (i * 1)).run Tryd.prog w = .ok (.int .u8 (m i)) w := fun m => by
      have h6 : i = 0 ∨ i = 1 ∨ i = 2 ∨ i = 3 ∨ i = 4 ∨ i = 5 := by omega
      rcases h6 with rfl | rfl | rfl | rfl | rfl | rfl <;> simp [part, isAgg, run_underlying he, mac]
    have pe : (Op.equalIn (d + 1) 5 (.int .u8 (m i)) (.int .u8 (m i))).run Tryd.prog w = .ok true w := by
      rw [run_equalIn_int w d 5 .u8 .u8 _ _ he]
      simp
    simp only [List.forIn_cons, Sem.run_bind, hcell m, pe, Result.andThen_ok]
    simp only [Bool.not_true, Bool.false_eq_true, if_false, Sem.run_pure, Result.andThen_ok]
    exact ih fun j hj => hl j (by simp [hj])
theorem eq_mac (a b c d e f : Nat) (w : World) : (Op.equalIn 10000 37 (.agg (macC a b c d e f)) (.agg (macC a b c d e f))).run Tryd.prog w = .ok true w := run_equalIn_mac w 9998 (fun i => (([a, b, c, d, e, f].getD i 0 : Nat) : Int))
theorem alike_parse (s : ByteArray) : ∃ (a : Nat) (e : Int), a < 4294967296 ∧ parseV s = .tuple #[.int .u32 (a : Int), .int .i64 e] ∧ rparseV s = .tuple #[.int .u32 (a : Int), .int .i64 e] ∧ ((e = 0 ∧ textL a = s.data.toList) ∨ e = 10) := by
  by_cases h : ∃ ip, ip < 4294967296 ∧ s.data.toList = textL ip
  · obtain ⟨ip, h1, h2⟩ := h
    exact ⟨ip, 0, h1, parseV_yes h1 h2, rparseV_yes h1 h2, .inl ⟨rfl, h2.symm⟩⟩
  · have h' : ∀ ip, ip < 4294967296 → s.data.toList ≠ textL ip := fun ip h1 h2 => h ⟨ip, h1, h2⟩
    exact ⟨0, 10, by omega, parseV_no h', rparseV_no h', .inr rfl⟩
theorem alike_mac {s : ByteArray} {v : Value} (h : PM s v) : ∃ (a b c d e f : Nat) (g : Int), (a < 256 ∧ b < 256 ∧ c < 256 ∧ d < 256 ∧ e < 256 ∧ f < 256) ∧ v = .tuple #[macV a b c d e f, .int .i64 g] ∧ ((g = 0 ∧ macL [a, b, c, d, e, f] = s.data.toList) ∨ g = 10) := by
  rcases h with ⟨a, b, c, d, e, f, hb, hs, rfl⟩ | ⟨_, rfl⟩
  · exact ⟨a, b, c, d, e, f, 0, hb, rfl, .inl ⟨rfl, hs.symm⟩⟩
  · exact ⟨0, 0, 0, 0, 0, 0, 10, by decide, rfl, .inr rfl⟩
theorem odd_val (x : Nat) (h : x < 256) : ∃ q : Nat, ∃ bb : Bool, Int.tmod (x : Int) 2 = (q : Int) ∧ (x : Int) % 2 = (q : Int) ∧ IntKind.u8.wrap (q : Int) = (q : Int) ∧ ((q : Int) == 1) = bb ∧ decide (x % 2 = 1) = bb := by
  refine ⟨x % 2, decide (x % 2 = 1), by rw [Int.tmod_eq_emod_of_nonneg (by omega)]; rfl, rfl, ?_, ?_, rfl⟩
  · show ((x % 2 : Nat) : Int) % 256 = _
    omega
  · rcases Nat.mod_two_eq_zero_or_one x with h | h <;> rw [h] <;> rfl
set_option maxRecDepth 1000000 in
set_option maxHeartbeats 8000000 in
theorem texts_walk (ip m0 m1 m2 m3 m4 m5 : Nat) (s : ByteArray) (w : World) (hl : Laid2 w) (hi : ip < 4294967296) (hm0 : m0 < 256) (hm1 : m1 < 256) (hm2 : m2 < 256) (hm3 : m3 < 256) (hm4 : m4 < 256) (hm5 : m5 < 256) : Calls Tryd.prog 4 #[.int .u32 (ip : Int), macV m0 m1 m2 m3 m4 m5, .string s] w fun ev w' => ev = .returned (.bool true) ∧ Kp (fun _ => False) w w' := by
  have K0 := (Kp.refl (fun _ => False) w).alloc (.cells (macC m0 m1 m2 m3 m4 m5) 37)
  have HM := Lib.hid (Bk.new w 37 (macC m0 m1 m2 m3 m4 m5))
  have K := Lib.hid K0
  have HL := Lib.hid (hl.keep K0)
  have HL0 := Lib.hid hl
  clear K0 hl
  by_cases hs : s.size ≤ 1000
  · obtain ⟨a, e, ha, hp1, hp2, hpe⟩ := alike_parse s
    have HPE := Lib.hid hpe
    have CP := Lib.hid (fun W hW => parse_ s W hs hW)
    have CR := Lib.hid (fun W => rparse_ s W hs)
    rw [hp1] at CP
    rw [hp2] at CR
    clear hp1 hp2 hpe
    have hs' : ¬ (1000 : Int) < (s.size : Int) := by omega
    have CPM := Lib.hid (fun W hW => parsemac_ s W hs hW)
    have CRM := Lib.hid (fun W => rparsemac_ s W hs)
    obtain ⟨T, hT⟩ : ∃ T : ByteArray, T = ⟨(textL ip).toArray⟩ := ⟨_, rfl⟩
    have CT : Hid (∀ W, Laid W → Calls Tryd.prog 29 #[.int .u32 (ip : Int)] W fun ev w' => ev = .returned (.string T) ∧ Kp (fun _ => False) W w') := Lib.hid (fun W hW => by rw [hT]; exact text_ ip W hi hW)
    have CRT : Hid (∀ W, Calls Tryd.prog 30 #[.int .u32 (ip : Int)] W fun ev w' => ev = .returned (.string T) ∧ Kp (fun _ => False) W w') := Lib.hid (fun W => by rw [hT]; exact rtext_ ip W hi)
    have CPT : Hid (∀ W, Laid W → Calls Tryd.prog 25 #[.string T] W fun ev w' => ev = .returned (.tuple #[.int .u32 (ip : Int), .int .i64 0]) ∧ Kp (fun _ => False) W w') := Lib.hid (fun W hW => by
      have q := parse_ T W (by rw [hT]; have := text_len ip; show (textL ip).toArray.size ≤ 1000; rw [List.size_toArray]; omega) hW
      rw [parseV_yes hi (by rw [hT])] at q
      exact q)
    clear hT
    obtain ⟨U, hU⟩ : ∃ U : ByteArray, U = ⟨(macL [m0, m1, m2, m3, m4, m5]).toArray⟩ := ⟨_, rfl⟩
    have CU : Hid (∀ W, Laid2 W → Calls Tryd.prog 31 #[.agg (macC m0 m1 m2 m3 m4 m5)] W fun ev w' => ev = .returned (.string U) ∧ Kp (fun _ => False) W w') := Lib.hid (fun W hW => by rw [hU]; exact mactext_ m0 m1 m2 m3 m4 m5 W hm0 hm1 hm2 hm3 hm4 hm5 hW.tz)
    have CRU : Hid (∀ W, Calls Tryd.prog 32 #[.agg (macC m0 m1 m2 m3 m4 m5)] W fun ev w' => ev = .returned (.string U) ∧ Kp (fun _ => False) W w') := Lib.hid (fun W => by rw [hU]; exact rmactext_ m0 m1 m2 m3 m4 m5 W hm0 hm1 hm2 hm3 hm4 hm5)
    have CPU : Hid (∀ W, Laid2 W → Calls Tryd.prog 27 #[.string U] W fun ev w' => ev = .returned (.tuple #[.agg (macC m0 m1 m2 m3 m4 m5), .int .i64 0]) ∧ Kp (fun _ => False) W w') := Lib.hid (fun W hW => (parsemac_ U W (by rw [hU]; show 17 ≤ 1000; omega) hW).mono (fun ev w' h => by
      obtain ⟨⟨v, h1, h2⟩, h3⟩ := h
      exact ⟨by rw [h1, h2.of ⟨hm0, hm1, hm2, hm3, hm4, hm5⟩ (by rw [hU])], h3⟩))
    clear hU
    obtain ⟨q, bb, o1, o2, o3, o4, o5⟩ := odd_val m0 hm0
    have CG : Hid (∀ W, Calls Tryd.prog 33 #[.agg (macC m0 m1 m2 m3 m4 m5)] W fun ev w' => ev = .returned (.bool bb) ∧ Kp (fun _ => False) W w') := Lib.hid (fun W => by rw [← o5]; exact group_ m0 m1 m2 m3 m4 m5 W hm0)
    clear o5
    go_enter Tryd.func4, Tryd.ntmps4
    go_wp2_with fail
    refine (alive04 _ HL.out).mono ?_
    rintro ev w1 ⟨rfl, k⟩
    have K := Lib.hid (K.out.trans' k)
    have HM := Lib.hid (HM.out.kept k (fun f => f))
    clear k
    go_wp2_with fail
    refine (CP.out _ (HL0.out.keep K.out).laid).mono ?_
    rintro ev w2 ⟨rfl, k⟩
    have K := Lib.hid (K.out.trans' k)
    have HM := Lib.hid (HM.out.kept k (fun f => f))
    clear k
    go_wp2_with fail
    refine (CR.out _).mono ?_
    rintro ev w3 ⟨rfl, k⟩
    have K := Lib.hid (K.out.trans' k)
    have HM := Lib.hid (HM.out.kept k (fun f => f))
    clear k
    go_wp2_with fail
    refine (CPM.out _ (HL0.out.keep K.out)).mono ?_
    rintro ev w4 ⟨⟨v, rfl, hv⟩, k⟩
    have CRM := Lib.hid (fun W => (CRM.out W).mono (fun ev w' h => (show ev = .returned v ∧ Kp (fun _ => False) W w' from by
      obtain ⟨⟨v', h1, h2⟩, h3⟩ := h
      exact ⟨by rw [h1, h2.det hv], h3⟩)))
    obtain ⟨c0, c1, c2, c3, c4, c5, g, hc, rfl, hg⟩ := alike_mac hv
    have HG := Lib.hid hg
    have HCB := Lib.hid hc
    clear hv hg hc CPM
    have kA := k.alloc (.cells #[.int .u8 (c0 : Int), .int .u8 (c1 : Int), .int .u8 (c2 : Int), .int .u8 (c3 : Int), .int .u8 (c4 : Int), .int .u8 (c5 : Int)] 37)
    have K := Lib.hid (K.out.trans' kA)
    have HM := Lib.hid (HM.out.kept kA (fun f => f))
    have HC := Lib.hid (Bk.new w4 37 (macC c0 c1 c2 c3 c4 c5))
    clear k kA
    go_wp2_with fail
    refine (CRM.out _).mono ?_
    rintro ev w5 ⟨rfl, k⟩
    have kA := k.alloc (.cells #[.int .u8 (c0 : Int), .int .u8 (c1 : Int), .int .u8 (c2 : Int), .int .u8 (c3 : Int), .int .u8 (c4 : Int), .int .u8 (c5 : Int)] 36)
    have K := Lib.hid (K.out.trans' kA)
    have HM := Lib.hid (HM.out.kept kA (fun f => f))
    have HC := Lib.hid (HC.out.kept kA (fun f => f))
    have HD := Lib.hid (Bk.new w5 36 (macC c0 c1 c2 c3 c4 c5))
    clear k kA CRM
    go_wp2_with fail
    obtain ⟨wb, hwb⟩ : ∃ wb, w5.alloc (.cells #[.int .u8 (c0 : Int), .int .u8 (c1 : Int), .int .u8 (c2 : Int), .int .u8 (c3 : Int), .int .u8 (c4 : Int), .int .u8 (c5 : Int)] 36) = wb := ⟨_, rfl⟩
    have HD : Hid (Bk (w5.alloc (.cells #[.int .u8 (c0 : Int), .int .u8 (c1 : Int), .int .u8 (c2 : Int), .int .u8 (c3 : Int), .int .u8 (c4 : Int), .int .u8 (c5 : Int)] 36)) w5.heap.size 36 (macC c0 c1 c2 c3 c4 c5)) := HD
    rw [hwb] at K HM HC HD ⊢
    clear hwb
    have M0 := Lib.hid (show wb.cell? ⟨w.heap.size, 0, none⟩ = some (.int .u8 (m0 : Int)) from HM.out.cell 0)
    have M1 := Lib.hid (show wb.cell? ⟨w.heap.size, 1, none⟩ = some (.int .u8 (m1 : Int)) from HM.out.cell 1)
    have M2 := Lib.hid (show wb.cell? ⟨w.heap.size, 2, none⟩ = some (.int .u8 (m2 : Int)) from HM.out.cell 2)
    have M3 := Lib.hid (show wb.cell? ⟨w.heap.size, 3, none⟩ = some (.int .u8 (m3 : Int)) from HM.out.cell 3)
    have M4 := Lib.hid (show wb.cell? ⟨w.heap.size, 4, none⟩ = some (.int .u8 (m4 : Int)) from HM.out.cell 4)
    have M5 := Lib.hid (show wb.cell? ⟨w.heap.size, 5, none⟩ = some (.int .u8 (m5 : Int)) from HM.out.cell 5)
    have C0 := Lib.hid (show wb.cell? ⟨w4.heap.size, 0, none⟩ = some (.int .u8 (c0 : Int)) from HC.out.cell 0)
    have C1 := Lib.hid (show wb.cell? ⟨w4.heap.size, 1, none⟩ = some (.int .u8 (c1 : Int)) from HC.out.cell 1)
    have C2 := Lib.hid (show wb.cell? ⟨w4.heap.size, 2, none⟩ = some (.int .u8 (c2 : Int)) from HC.out.cell 2)
    have C3 := Lib.hid (show wb.cell? ⟨w4.heap.size, 3, none⟩ = some (.int .u8 (c3 : Int)) from HC.out.cell 3)
    have C4 := Lib.hid (show wb.cell? ⟨w4.heap.size, 4, none⟩ = some (.int .u8 (c4 : Int)) from HC.out.cell 4)
    have C5 := Lib.hid (show wb.cell? ⟨w4.heap.size, 5, none⟩ = some (.int .u8 (c5 : Int)) from HC.out.cell 5)
    have D0 := Lib.hid (show wb.cell? ⟨w5.heap.size, 0, none⟩ = some (.int .u8 (c0 : Int)) from HD.out.cell 0)
    have D1 := Lib.hid (show wb.cell? ⟨w5.heap.size, 1, none⟩ = some (.int .u8 (c1 : Int)) from HD.out.cell 1)
    have D2 := Lib.hid (show wb.cell? ⟨w5.heap.size, 2, none⟩ = some (.int .u8 (c2 : Int)) from HD.out.cell 2)
    have D3 := Lib.hid (show wb.cell? ⟨w5.heap.size, 3, none⟩ = some (.int .u8 (c3 : Int)) from HD.out.cell 3)
    have D4 := Lib.hid (show wb.cell? ⟨w5.heap.size, 4, none⟩ = some (.int .u8 (c4 : Int)) from HD.out.cell 4)
    have D5 := Lib.hid (show wb.cell? ⟨w5.heap.size, 5, none⟩ = some (.int .u8 (c5 : Int)) from HD.out.cell 5)
    have HLb := Lib.hid (HL0.out.keep K.out)
    have heq := eq_mac c0 c1 c2 c3 c4 c5
    have KC := Lib.hid (Kp.refl (fun _ => False) wb).drew
    refine wp_region_held_drew (S := (fun w' => Kp (fun _ => False) wb w')) (by kernel_rfl) (KC.out) (fun hHeld => ?_)
    refine wpAnyH_take (i := 0) (v := ?v0_0) rfl (by kernel_rfl) (by kernel_rfl) (by kernel_rfl) (fun _ _ _ h => h) (Or.inl ⟨by rfl, ?y0_0⟩) (by assumption) ?r0_0
    case y0_0 => (intro w hSw; (try dsimp only at hSw); go_simp; first | done | with_reducible rfl)
    try simp only [Act.put, List.getElem_toArray, List.getElem_cons_succ, List.getElem_cons_zero, List.setIfInBounds_toArray, List.set_cons_zero, List.set_cons_succ]
    refine wpAnyH_take (i := 2) (v := ?v2_1) rfl (by kernel_rfl) (by kernel_rfl) (by kernel_rfl) (fun _ _ _ h => h) (Or.inl ⟨by rfl, ?y2_1⟩) (by assumption) ?r2_1
    case y2_1 => (intro w hSw; (try dsimp only at hSw); go_simp; first | done | with_reducible rfl)
    try simp only [Act.put, List.getElem_toArray, List.getElem_cons_succ, List.getElem_cons_zero, List.setIfInBounds_toArray, List.set_cons_zero, List.set_cons_succ]
    refine wpAnyH_ready (rs := [1]) (by kernel_rfl) (by simp) ?_
    refine AllReadyH.cons rfl (fun K hK => ?_) AllReadyH.nil
    go_simp
    with_reducible refine (CT.out _ (HLb.out.keep KC.out).laid).mono ?_
    rintro ev v1 ⟨rfl, k1⟩
    have KC := Lib.hid (KC.out.trans' k1)
    clear k1
    try dsimp only
    refine hK.out _ _ (KC.out) (fun hHeld => ?_)
    clear hK K
    try simp only [Act.put, List.getElem_toArray, List.getElem_cons_succ, List.getElem_cons_zero, List.setIfInBounds_toArray, List.set_cons_zero, List.set_cons_succ]
    refine wpAnyH_ready (rs := [3]) (by kernel_rfl) (by simp) ?_
    refine AllReadyH.cons rfl (fun K hK => ?_) AllReadyH.nil
    go_simp
    with_reducible refine (CRT.out _).mono ?_
    rintro ev v3 ⟨rfl, k3⟩
    have KC := Lib.hid (KC.out.trans' k3)
    clear k3
    try dsimp only
    refine hK.out _ _ (KC.out) (fun hHeld => ?_)
    clear hK K
    try simp only [Act.put, List.getElem_toArray, List.getElem_cons_succ, List.getElem_cons_zero, List.setIfInBounds_toArray, List.set_cons_zero, List.set_cons_succ]
    refine wpAnyH_take (i := 4) (v := ?v4_2) rfl (by kernel_rfl) (by kernel_rfl) (by kernel_rfl) (fun _ _ _ h => h) (Or.inl ⟨by rfl, ?y4_2⟩) (by assumption) ?r4_2
    case y4_2 => (intro w hSw; (try dsimp only at hSw); go_simp; first | done | with_reducible rfl)
    try simp only [Act.put, List.getElem_toArray, List.getElem_cons_succ, List.getElem_cons_zero, List.setIfInBounds_toArray, List.set_cons_zero, List.set_cons_succ]
    refine wpAnyH_take (i := 5) (v := ?v5_3) rfl (by kernel_rfl) (by kernel_rfl) (by kernel_rfl) (fun _ _ _ h => h) (Or.inl ⟨by rfl, ?y5_3⟩) (by assumption) ?r5_3
    case y5_3 => (intro w hSw; (try dsimp only at hSw); go_simp; first | done | with_reducible rfl)
    try simp only [Act.put, List.getElem_toArray, List.getElem_cons_succ, List.getElem_cons_zero, List.setIfInBounds_toArray, List.set_cons_zero, List.set_cons_succ]
    refine wpAnyH_take (i := 6) (v := ?v6_4) rfl (by kernel_rfl) (by kernel_rfl) (by kernel_rfl) (fun _ _ _ h => h) (Or.inl ⟨by rfl, ?y6_4⟩) (by assumption) ?r6_4
    case y6_4 => (intro w hSw; (try dsimp only at hSw); have d0 := kp_kc0 M0.out hSw; have d1 := kp_kc0 M1.out hSw; have d2 := kp_kc0 M2.out hSw; have d3 := kp_kc0 M3.out hSw; have d4 := kp_kc0 M4.out hSw; have d5 := kp_kc0 M5.out hSw; go_simp; first | done | with_reducible rfl)
    try simp only [Act.put, List.getElem_toArray, List.getElem_cons_succ, List.getElem_cons_zero, List.setIfInBounds_toArray, List.set_cons_zero, List.set_cons_succ]
    refine wpAnyH_take (i := 8) (v := ?v8_5) rfl (by kernel_rfl) (by kernel_rfl) (by kernel_rfl) (fun _ _ _ h => h) (Or.inl ⟨by rfl, ?y8_5⟩) (by assumption) ?r8_5
    case y8_5 => (intro w hSw; (try dsimp only at hSw); have d0 := kp_kc0 M0.out hSw; have d1 := kp_kc0 M1.out hSw; have d2 := kp_kc0 M2.out hSw; have d3 := kp_kc0 M3.out hSw; have d4 := kp_kc0 M4.out hSw; have d5 := kp_kc0 M5.out hSw; go_simp; first | done | with_reducible rfl)
    try simp only [Act.put, List.getElem_toArray, List.getElem_cons_succ, List.getElem_cons_zero, List.setIfInBounds_toArray, List.set_cons_zero, List.set_cons_succ]
    refine wpAnyH_ready (rs := [7]) (by kernel_rfl) (by simp) ?_
    refine AllReadyH.cons rfl (fun K hK => ?_) AllReadyH.nil
    go_simp
    with_reducible refine (CU.out _ (HLb.out.keep KC.out)).mono ?_
    rintro ev v7 ⟨rfl, k7⟩
    have KC := Lib.hid (KC.out.trans' k7)
    clear k7
    try dsimp only
    refine hK.out _ _ (KC.out) (fun hHeld => ?_)
    clear hK K
    try simp only [Act.put, List.getElem_toArray, List.getElem_cons_succ, List.getElem_cons_zero, List.setIfInBounds_toArray, List.set_cons_zero, List.set_cons_succ]
    refine wpAnyH_ready (rs := [9]) (by kernel_rfl) (by simp) ?_
    refine AllReadyH.cons rfl (fun K hK => ?_) AllReadyH.nil
    go_simp
    with_reducible refine (CRU.out _).mono ?_
    rintro ev v9 ⟨rfl, k9⟩
    have KC := Lib.hid (KC.out.trans' k9)
    clear k9
    try dsimp only
    refine hK.out _ _ (KC.out) (fun hHeld => ?_)
    clear hK K
    try simp only [Act.put, List.getElem_toArray, List.getElem_cons_succ, List.getElem_cons_zero, List.setIfInBounds_toArray, List.set_cons_zero, List.set_cons_succ]
    refine wpAnyH_take (i := 10) (v := ?v10_6) rfl (by kernel_rfl) (by kernel_rfl) (by kernel_rfl) (fun _ _ _ h => h) (Or.inl ⟨by rfl, ?y10_6⟩) (by assumption) ?r10_6
    case y10_6 => (intro w hSw; (try dsimp only at hSw); go_simp; first | done | with_reducible rfl)
    try simp only [Act.put, List.getElem_toArray, List.getElem_cons_succ, List.getElem_cons_zero, List.setIfInBounds_toArray, List.set_cons_zero, List.set_cons_succ]
    refine wpAnyH_take (i := 11) (v := ?v11_7) rfl (by kernel_rfl) (by kernel_rfl) (by kernel_rfl) (fun _ _ _ h => h) (Or.inl ⟨by rfl, ?y11_7⟩) (by assumption) ?r11_7
    case y11_7 => (intro w hSw; (try dsimp only at hSw); go_simp; first | done | with_reducible rfl)
    try simp only [Act.put, List.getElem_toArray, List.getElem_cons_succ, List.getElem_cons_zero, List.setIfInBounds_toArray, List.set_cons_zero, List.set_cons_succ]
    refine wpAnyH_take (i := 12) (v := ?v12_8) rfl (by kernel_rfl) (by kernel_rfl) (by kernel_rfl) (fun _ _ _ h => h) (Or.inl ⟨by rfl, ?y12_8⟩) (by assumption) ?r12_8
    case y12_8 => (intro w hSw; (try dsimp only at hSw); go_simp; first | done | with_reducible rfl)
    try simp only [Act.put, List.getElem_toArray, List.getElem_cons_succ, List.getElem_cons_zero, List.setIfInBounds_toArray, List.set_cons_zero, List.set_cons_succ]
    refine wpAnyH_take (i := 13) (v := ?v13_9) rfl (by kernel_rfl) (by kernel_rfl) (by kernel_rfl) (fun _ _ _ h => h) (Or.inl ⟨by rfl, ?y13_9⟩) (by assumption) ?r13_9
    case y13_9 => (intro w hSw; (try dsimp only at hSw); go_simp; first | done | with_reducible rfl)
    try simp only [Act.put, List.getElem_toArray, List.getElem_cons_succ, List.getElem_cons_zero, List.setIfInBounds_toArray, List.set_cons_zero, List.set_cons_succ]
    refine wpAnyH_take (i := 14) (v := ?v14_10) rfl (by kernel_rfl) (by kernel_rfl) (by kernel_rfl) (fun _ _ _ h => h) (Or.inl ⟨by rfl, ?y14_10⟩) (by assumption) ?r14_10
    case y14_10 => (intro w hSw; (try dsimp only at hSw); go_simp; first | done | with_reducible rfl)
    try simp only [Act.put, List.getElem_toArray, List.getElem_cons_succ, List.getElem_cons_zero, List.setIfInBounds_toArray, List.set_cons_zero, List.set_cons_succ]
    refine wpAnyH_take (i := 15) (v := ?v15_11) rfl (by kernel_rfl) (by kernel_rfl) (by kernel_rfl) (fun _ _ _ h => h) (Or.inl ⟨by rfl, ?y15_11⟩) (by assumption) ?r15_11
    case y15_11 => (intro w hSw; (try dsimp only at hSw); go_simp; first | done | with_reducible rfl)
    try simp only [Act.put, List.getElem_toArray, List.getElem_cons_succ, List.getElem_cons_zero, List.setIfInBounds_toArray, List.set_cons_zero, List.set_cons_succ]
    refine wpAnyH_take (i := 16) (v := ?v16_12) rfl (by kernel_rfl) (by kernel_rfl) (by kernel_rfl) (fun _ _ _ h => h) (Or.inl ⟨by rfl, ?y16_12⟩) (by assumption) ?r16_12
    case y16_12 => (intro w hSw; (try dsimp only at hSw); go_simp; first | done | with_reducible rfl)
    try simp only [Act.put, List.getElem_toArray, List.getElem_cons_succ, List.getElem_cons_zero, List.setIfInBounds_toArray, List.set_cons_zero, List.set_cons_succ]
    refine wpAnyH_take (i := 17) (v := ?v17_13) rfl (by kernel_rfl) (by kernel_rfl) (by kernel_rfl) (fun _ _ _ h => h) (Or.inl ⟨by rfl, ?y17_13⟩) (by assumption) ?r17_13
    case y17_13 => (intro w hSw; (try dsimp only at hSw); go_simp; first | done | with_reducible rfl)
    try simp only [Act.put, List.getElem_toArray, List.getElem_cons_succ, List.getElem_cons_zero, List.setIfInBounds_toArray, List.set_cons_zero, List.set_cons_succ]
    refine wpAnyH_take (i := 18) (v := ?v18_14) rfl (by kernel_rfl) (by kernel_rfl) (by kernel_rfl) (fun _ _ _ h => h) (Or.inl ⟨by rfl, ?y18_14⟩) (by assumption) ?r18_14
    case y18_14 => (intro w hSw; (try dsimp only at hSw); go_simp; first | done | with_reducible rfl)
    try simp only [Act.put, List.getElem_toArray, List.getElem_cons_succ, List.getElem_cons_zero, List.setIfInBounds_toArray, List.set_cons_zero, List.set_cons_succ]
    refine wpAnyH_take (i := 19) (v := ?v19_15) rfl (by kernel_rfl) (by kernel_rfl) (by kernel_rfl) (fun _ _ _ h => h) (Or.inl ⟨by rfl, ?y19_15⟩) (by assumption) ?r19_15
    case y19_15 => (intro w hSw; (try dsimp only at hSw); go_simp; first | done | with_reducible rfl)
    try simp only [Act.put, List.getElem_toArray, List.getElem_cons_succ, List.getElem_cons_zero, List.setIfInBounds_toArray, List.set_cons_zero, List.set_cons_succ]
    refine wpAnyH_take (i := 20) (v := ?v20_16) rfl (by kernel_rfl) (by kernel_rfl) (by kernel_rfl) (fun _ _ _ h => h) (Or.inl ⟨by rfl, ?y20_16⟩) (by assumption) ?r20_16
    case y20_16 => (intro w hSw; (try dsimp only at hSw); go_simp; first | done | with_reducible rfl)
    try simp only [Act.put, List.getElem_toArray, List.getElem_cons_succ, List.getElem_cons_zero, List.setIfInBounds_toArray, List.set_cons_zero, List.set_cons_succ]
    refine wpAnyH_take (i := 21) (v := ?v21_17) rfl (by kernel_rfl) (by kernel_rfl) (by kernel_rfl) (fun _ _ _ h => h) (Or.inl ⟨by rfl, ?y21_17⟩) (by assumption) ?r21_17
    case y21_17 => (intro w hSw; (try dsimp only at hSw); go_simp; first | done | with_reducible rfl)
    try simp only [Act.put, List.getElem_toArray, List.getElem_cons_succ, List.getElem_cons_zero, List.setIfInBounds_toArray, List.set_cons_zero, List.set_cons_succ]
    refine wpAnyH_take (i := 22) (v := ?v22_18) rfl (by kernel_rfl) (by kernel_rfl) (by kernel_rfl) (fun _ _ _ h => h) (Or.inl ⟨by rfl, ?y22_18⟩) (by assumption) ?r22_18
    case y22_18 => (intro w hSw; (try dsimp only at hSw); go_simp; first | done | with_reducible rfl)
    try simp only [Act.put, List.getElem_toArray, List.getElem_cons_succ, List.getElem_cons_zero, List.setIfInBounds_toArray, List.set_cons_zero, List.set_cons_succ]
    refine wpAnyH_take (i := 23) (v := ?v23_19) rfl (by kernel_rfl) (by kernel_rfl) (by kernel_rfl) (fun _ _ _ h => h) (Or.inl ⟨by rfl, ?y23_19⟩) (by assumption) ?r23_19
    case y23_19 => (intro w hSw; (try dsimp only at hSw); have d0 := kp_kc0 C0.out hSw; have d1 := kp_kc0 C1.out hSw; have d2 := kp_kc0 C2.out hSw; have d3 := kp_kc0 C3.out hSw; have d4 := kp_kc0 C4.out hSw; have d5 := kp_kc0 C5.out hSw; go_simp; first | done | with_reducible rfl)
    try simp only [Act.put, List.getElem_toArray, List.getElem_cons_succ, List.getElem_cons_zero, List.setIfInBounds_toArray, List.set_cons_zero, List.set_cons_succ]
    refine wpAnyH_take (i := 24) (v := ?v24_20) rfl (by kernel_rfl) (by kernel_rfl) (by kernel_rfl) (fun _ _ _ h => h) (Or.inl ⟨by rfl, ?y24_20⟩) (by assumption) ?r24_20
    case y24_20 => (intro w hSw; (try dsimp only at hSw); have d0 := kp_kc0 D0.out hSw; have d1 := kp_kc0 D1.out hSw; have d2 := kp_kc0 D2.out hSw; have d3 := kp_kc0 D3.out hSw; have d4 := kp_kc0 D4.out hSw; have d5 := kp_kc0 D5.out hSw; go_simp; first | done | with_reducible rfl)
    try simp only [Act.put, List.getElem_toArray, List.getElem_cons_succ, List.getElem_cons_zero, List.setIfInBounds_toArray, List.set_cons_zero, List.set_cons_succ]
    refine wpAnyH_take (i := 25) (v := ?v25_21) rfl (by kernel_rfl) (by kernel_rfl) (by kernel_rfl) (fun _ _ _ h => h) (Or.inl ⟨by rfl, ?y25_21⟩) (by assumption) ?r25_21
    case y25_21 => (intro w hSw; (try dsimp only at hSw); go_simp; first | done | with_reducible rfl)
    try simp only [Act.put, List.getElem_toArray, List.getElem_cons_succ, List.getElem_cons_zero, List.setIfInBounds_toArray, List.set_cons_zero, List.set_cons_succ]
    refine wpAnyH_take (i := 26) (v := ?v26_22) rfl (by kernel_rfl) (by kernel_rfl) (by kernel_rfl) (fun _ _ _ h => h) (Or.inl ⟨by rfl, ?y26_22⟩) (by assumption) ?r26_22
    case y26_22 => (intro w hSw; (try dsimp only at hSw); go_simp; first | done | with_reducible rfl)
    try simp only [Act.put, List.getElem_toArray, List.getElem_cons_succ, List.getElem_cons_zero, List.setIfInBounds_toArray, List.set_cons_zero, List.set_cons_succ]
    refine wpAnyH_take (i := 27) (v := ?v27_23) rfl (by kernel_rfl) (by kernel_rfl) (by kernel_rfl) (fun _ _ _ h => h) (Or.inl ⟨by rfl, ?y27_23⟩) (by assumption) ?r27_23
    case y27_23 => (intro w hSw; (try dsimp only at hSw); go_simp; first | done | with_reducible rfl)
    try simp only [Act.put, List.getElem_toArray, List.getElem_cons_succ, List.getElem_cons_zero, List.setIfInBounds_toArray, List.set_cons_zero, List.set_cons_succ]
    refine wpAnyH_take (i := 28) (v := ?v28_24) rfl (by kernel_rfl) (by kernel_rfl) (by kernel_rfl) (fun _ _ _ h => h) (Or.inl ⟨by rfl, ?y28_24⟩) (by assumption) ?r28_24
    case y28_24 => (intro w hSw; (try dsimp only at hSw); go_simp; first | done | with_reducible rfl)
    try simp only [Act.put, List.getElem_toArray, List.getElem_cons_succ, List.getElem_cons_zero, List.setIfInBounds_toArray, List.set_cons_zero, List.set_cons_succ]
    refine wpAnyH_take (i := 29) (v := ?v29_25) rfl (by kernel_rfl) (by kernel_rfl) (by kernel_rfl) (fun _ _ _ h => h) (Or.inl ⟨by rfl, ?y29_25⟩) (by assumption) ?r29_25
    case y29_25 => (intro w hSw; (try dsimp only at hSw); go_simp; first | done | with_reducible rfl)
    try simp only [Act.put, List.getElem_toArray, List.getElem_cons_succ, List.getElem_cons_zero, List.setIfInBounds_toArray, List.set_cons_zero, List.set_cons_succ]
    refine wpAnyH_take (i := 30) (v := ?v30_26) rfl (by kernel_rfl) (by kernel_rfl) (by kernel_rfl) (fun _ _ _ h => h) (Or.inl ⟨by rfl, ?y30_26⟩) (by assumption) ?r30_26
    case y30_26 => (intro w hSw; (try dsimp only at hSw); go_simp; first | done | with_reducible rfl)
    try simp only [Act.put, List.getElem_toArray, List.getElem_cons_succ, List.getElem_cons_zero, List.setIfInBounds_toArray, List.set_cons_zero, List.set_cons_succ]
    refine wpAnyH_take (i := 31) (v := ?v31_27) rfl (by kernel_rfl) (by kernel_rfl) (by kernel_rfl) (fun _ _ _ h => h) (Or.inl ⟨by rfl, ?y31_27⟩) (by assumption) ?r31_27
    case y31_27 => (intro w hSw; (try dsimp only at hSw); go_simp; first | done | with_reducible rfl)
    try simp only [Act.put, List.getElem_toArray, List.getElem_cons_succ, List.getElem_cons_zero, List.setIfInBounds_toArray, List.set_cons_zero, List.set_cons_succ]
    refine wpAnyH_take (i := 32) (v := ?v32_28) rfl (by kernel_rfl) (by kernel_rfl) (by kernel_rfl) (fun _ _ _ h => h) (Or.inl ⟨by rfl, ?y32_28⟩) (by assumption) ?r32_28
    case y32_28 => (intro w hSw; (try dsimp only at hSw); go_simp; first | done | with_reducible rfl)
    try simp only [Act.put, List.getElem_toArray, List.getElem_cons_succ, List.getElem_cons_zero, List.setIfInBounds_toArray, List.set_cons_zero, List.set_cons_succ]
    refine wpAnyH_take (i := 33) (v := ?v33_29) rfl (by kernel_rfl) (by kernel_rfl) (by kernel_rfl) (fun _ _ _ h => h) (Or.inl ⟨by rfl, ?y33_29⟩) (by assumption) ?r33_29
    case y33_29 => (intro w hSw; (try dsimp only at hSw); have d0 := kp_kc0 M0.out hSw; have d1 := kp_kc0 M1.out hSw; have d2 := kp_kc0 M2.out hSw; have d3 := kp_kc0 M3.out hSw; have d4 := kp_kc0 M4.out hSw; have d5 := kp_kc0 M5.out hSw; go_simp; first | done | with_reducible rfl)
    try simp only [Act.put, List.getElem_toArray, List.getElem_cons_succ, List.getElem_cons_zero, List.setIfInBounds_toArray, List.set_cons_zero, List.set_cons_succ]
    refine wpAnyH_take (i := 35) (v := ?v35_30) rfl (by kernel_rfl) (by kernel_rfl) (by kernel_rfl) (fun _ _ _ h => h) (Or.inl ⟨by rfl, ?y35_30⟩) (by assumption) ?r35_30
    case y35_30 => (intro w hSw; (try dsimp only at hSw); go_simp; first | done | with_reducible rfl)
    try simp only [Act.put, List.getElem_toArray, List.getElem_cons_succ, List.getElem_cons_zero, List.setIfInBounds_toArray, List.set_cons_zero, List.set_cons_succ]
    refine wpAnyH_take (i := 36) (v := ?v36_31) rfl (by kernel_rfl) (by kernel_rfl) (by kernel_rfl) (fun _ _ _ h => h) (Or.inl ⟨by rfl, ?y36_31⟩) (by assumption) ?r36_31
    case y36_31 => (intro w hSw; (try dsimp only at hSw); have d0 := kp_kc0 M0.out hSw; go_simp; first | done | with_reducible rfl)
    try simp only [Act.put, List.getElem_toArray, List.getElem_cons_succ, List.getElem_cons_zero, List.setIfInBounds_toArray, List.set_cons_zero, List.set_cons_succ]
    refine wpAnyH_take (i := 37) (v := ?v37_32) rfl (by kernel_rfl) (by kernel_rfl) (by kernel_rfl) (fun _ _ _ h => h) (Or.inl ⟨by rfl, ?y37_32⟩) (by assumption) ?r37_32
    case y37_32 => (intro w hSw; (try dsimp only at hSw); go_simp; first | done | with_reducible rfl)
    try simp only [Act.put, List.getElem_toArray, List.getElem_cons_succ, List.getElem_cons_zero, List.setIfInBounds_toArray, List.set_cons_zero, List.set_cons_succ]
    refine wpAnyH_take (i := 38) (v := ?v38_33) rfl (by kernel_rfl) (by kernel_rfl) (by kernel_rfl) (fun _ _ _ h => h) (Or.inl ⟨by rfl, ?y38_33⟩) (by assumption) ?r38_33
    case y38_33 => (intro w hSw; (try dsimp only at hSw); go_simp; first | done | with_reducible rfl)
    try simp only [Act.put, List.getElem_toArray, List.getElem_cons_succ, List.getElem_cons_zero, List.setIfInBounds_toArray, List.set_cons_zero, List.set_cons_succ]
    refine wpAnyH_ready (rs := [34]) (by kernel_rfl) (by simp) ?_
    refine AllReadyH.cons rfl (fun K hK => ?_) AllReadyH.nil
    go_simp
    with_reducible refine (CG.out _).mono ?_
    rintro ev v34 ⟨rfl, k34⟩
    have KC := Lib.hid (KC.out.trans' k34)
    clear k34
    try dsimp only
    refine hK.out _ _ (KC.out) (fun hHeld => ?_)
    clear hK K
    try simp only [Act.put, List.getElem_toArray, List.getElem_cons_succ, List.getElem_cons_zero, List.setIfInBounds_toArray, List.set_cons_zero, List.set_cons_succ]
    refine wpAnyH_take (i := 39) (v := ?v39_34) rfl (by kernel_rfl) (by kernel_rfl) (by kernel_rfl) (fun _ _ _ h => h) (Or.inl ⟨by rfl, ?y39_34⟩) (by assumption) ?r39_34
    case y39_34 => (intro w hSw; (try dsimp only at hSw); go_simp; first | done | with_reducible rfl)
    try simp only [Act.put, List.getElem_toArray, List.getElem_cons_succ, List.getElem_cons_zero, List.setIfInBounds_toArray, List.set_cons_zero, List.set_cons_succ]
    refine wpAnyH_take (i := 40) (v := ?v40_35) rfl (by kernel_rfl) (by kernel_rfl) (by kernel_rfl) (fun _ _ _ h => h) (Or.inl ⟨by rfl, ?y40_35⟩) (by assumption) ?r40_35
    case y40_35 => (intro w hSw; (try dsimp only at hSw); go_simp; first | done | with_reducible rfl)
    try simp only [Act.put, List.getElem_toArray, List.getElem_cons_succ, List.getElem_cons_zero, List.setIfInBounds_toArray, List.set_cons_zero, List.set_cons_succ]
    refine wpAnyH_done (by kernel_rfl) ?_ _
    have K := Lib.hid (K.out.trans' KC.out)
    have HM := Lib.hid (HM.out.kept KC.out (fun f => f))
    have HC := Lib.hid (HC.out.kept KC.out (fun f => f))
    clear M0 M1 M2 M3 M4 M5 C0 C1 C2 C3 C4 C5 D0 D1 D2 D3 D4 D5 HD heq KC HLb
    go_wp2_with fail
    refine (CT.out _ (HL0.out.keep K.out).laid).mono ?_
    rintro ev w6 ⟨rfl, k⟩
    have K := Lib.hid (K.out.trans' k)
    have HM := Lib.hid (HM.out.kept k (fun f => f))
    have HC := Lib.hid (HC.out.kept k (fun f => f))
    clear k
    go_wp2_with fail
    refine (CPT.out _ (HL0.out.keep K.out).laid).mono ?_
    rintro ev w7 ⟨rfl, k⟩
    have K := Lib.hid (K.out.trans' k)
    have HM := Lib.hid (HM.out.kept k (fun f => f))
    have HC := Lib.hid (HC.out.kept k (fun f => f))
    clear k
    have q0 : w7.cell? ⟨w.heap.size, 0, none⟩ = some (.int .u8 (m0 : Int)) := HM.out.cell 0
    have q1 : w7.cell? ⟨w.heap.size, 1, none⟩ = some (.int .u8 (m1 : Int)) := HM.out.cell 1
    have q2 : w7.cell? ⟨w.heap.size, 2, none⟩ = some (.int .u8 (m2 : Int)) := HM.out.cell 2
    have q3 : w7.cell? ⟨w.heap.size, 3, none⟩ = some (.int .u8 (m3 : Int)) := HM.out.cell 3
    have q4 : w7.cell? ⟨w.heap.size, 4, none⟩ = some (.int .u8 (m4 : Int)) := HM.out.cell 4
    have q5 : w7.cell? ⟨w.heap.size, 5, none⟩ = some (.int .u8 (m5 : Int)) := HM.out.cell 5
    go_wp2_with fail
    refine (CU.out _ (HL0.out.keep K.out)).mono ?_
    rintro ev w8 ⟨rfl, k⟩
    clear q0 q1 q2 q3 q4 q5
    have K := Lib.hid (K.out.trans' k)
    have HM := Lib.hid (HM.out.kept k (fun f => f))
    have HC := Lib.hid (HC.out.kept k (fun f => f))
    clear k
    go_wp2_with fail
    refine (CPU.out _ (HL0.out.keep K.out)).mono ?_
    rintro ev w9 ⟨rfl, k⟩
    have kA := k.alloc (.cells #[.int .u8 (m0 : Int), .int .u8 (m1 : Int), .int .u8 (m2 : Int), .int .u8 (m3 : Int), .int .u8 (m4 : Int), .int .u8 (m5 : Int)] 37)
    have K := Lib.hid (K.out.trans' kA)
    have HM := Lib.hid (HM.out.kept kA (fun f => f))
    have HC := Lib.hid (HC.out.kept kA (fun f => f))
    have HY := Lib.hid (Bk.new w9 37 (macC m0 m1 m2 m3 m4 m5))
    clear k kA
    have HY : Hid (Bk (w9.alloc (.cells #[.int .u8 (m0 : Int), .int .u8 (m1 : Int), .int .u8 (m2 : Int), .int .u8 (m3 : Int), .int .u8 (m4 : Int), .int .u8 (m5 : Int)] 37)) w9.heap.size 37 (macC m0 m1 m2 m3 m4 m5)) := HY
    have q0 : (w9.alloc (.cells #[.int .u8 (m0 : Int), .int .u8 (m1 : Int), .int .u8 (m2 : Int), .int .u8 (m3 : Int), .int .u8 (m4 : Int), .int .u8 (m5 : Int)] 37)).cell? ⟨w.heap.size, 0, none⟩ = some (.int .u8 (m0 : Int)) := HM.out.cell 0
    have q1 : (w9.alloc (.cells #[.int .u8 (m0 : Int), .int .u8 (m1 : Int), .int .u8 (m2 : Int), .int .u8 (m3 : Int), .int .u8 (m4 : Int), .int .u8 (m5 : Int)] 37)).cell? ⟨w.heap.size, 1, none⟩ = some (.int .u8 (m1 : Int)) := HM.out.cell 1
    have q2 : (w9.alloc (.cells #[.int .u8 (m0 : Int), .int .u8 (m1 : Int), .int .u8 (m2 : Int), .int .u8 (m3 : Int), .int .u8 (m4 : Int), .int .u8 (m5 : Int)] 37)).cell? ⟨w.heap.size, 2, none⟩ = some (.int .u8 (m2 : Int)) := HM.out.cell 2
    have q3 : (w9.alloc (.cells #[.int .u8 (m0 : Int), .int .u8 (m1 : Int), .int .u8 (m2 : Int), .int .u8 (m3 : Int), .int .u8 (m4 : Int), .int .u8 (m5 : Int)] 37)).cell? ⟨w.heap.size, 3, none⟩ = some (.int .u8 (m3 : Int)) := HM.out.cell 3
    have q4 : (w9.alloc (.cells #[.int .u8 (m0 : Int), .int .u8 (m1 : Int), .int .u8 (m2 : Int), .int .u8 (m3 : Int), .int .u8 (m4 : Int), .int .u8 (m5 : Int)] 37)).cell? ⟨w.heap.size, 4, none⟩ = some (.int .u8 (m4 : Int)) := HM.out.cell 4
    have q5 : (w9.alloc (.cells #[.int .u8 (m0 : Int), .int .u8 (m1 : Int), .int .u8 (m2 : Int), .int .u8 (m3 : Int), .int .u8 (m4 : Int), .int .u8 (m5 : Int)] 37)).cell? ⟨w.heap.size, 5, none⟩ = some (.int .u8 (m5 : Int)) := HM.out.cell 5
    have r0 : (w9.alloc (.cells #[.int .u8 (m0 : Int), .int .u8 (m1 : Int), .int .u8 (m2 : Int), .int .u8 (m3 : Int), .int .u8 (m4 : Int), .int .u8 (m5 : Int)] 37)).cell? ⟨w4.heap.size, 0, none⟩ = some (.int .u8 (c0 : Int)) := HC.out.cell 0
    have r1 : (w9.alloc (.cells #[.int .u8 (m0 : Int), .int .u8 (m1 : Int), .int .u8 (m2 : Int), .int .u8 (m3 : Int), .int .u8 (m4 : Int), .int .u8 (m5 : Int)] 37)).cell? ⟨w4.heap.size, 1, none⟩ = some (.int .u8 (c1 : Int)) := HC.out.cell 1
    have r2 : (w9.alloc (.cells #[.int .u8 (m0 : Int), .int .u8 (m1 : Int), .int .u8 (m2 : Int), .int .u8 (m3 : Int), .int .u8 (m4 : Int), .int .u8 (m5 : Int)] 37)).cell? ⟨w4.heap.size, 2, none⟩ = some (.int .u8 (c2 : Int)) := HC.out.cell 2
    have r3 : (w9.alloc (.cells #[.int .u8 (m0 : Int), .int .u8 (m1 : Int), .int .u8 (m2 : Int), .int .u8 (m3 : Int), .int .u8 (m4 : Int), .int .u8 (m5 : Int)] 37)).cell? ⟨w4.heap.size, 3, none⟩ = some (.int .u8 (c3 : Int)) := HC.out.cell 3
    have r4 : (w9.alloc (.cells #[.int .u8 (m0 : Int), .int .u8 (m1 : Int), .int .u8 (m2 : Int), .int .u8 (m3 : Int), .int .u8 (m4 : Int), .int .u8 (m5 : Int)] 37)).cell? ⟨w4.heap.size, 4, none⟩ = some (.int .u8 (c4 : Int)) := HC.out.cell 4
    have r5 : (w9.alloc (.cells #[.int .u8 (m0 : Int), .int .u8 (m1 : Int), .int .u8 (m2 : Int), .int .u8 (m3 : Int), .int .u8 (m4 : Int), .int .u8 (m5 : Int)] 37)).cell? ⟨w4.heap.size, 5, none⟩ = some (.int .u8 (c5 : Int)) := HC.out.cell 5
    have y0 : (w9.alloc (.cells #[.int .u8 (m0 : Int), .int .u8 (m1 : Int), .int .u8 (m2 : Int), .int .u8 (m3 : Int), .int .u8 (m4 : Int), .int .u8 (m5 : Int)] 37)).cell? ⟨w9.heap.size, 0, none⟩ = some (.int .u8 (m0 : Int)) := HY.out.cell 0
    have y1 : (w9.alloc (.cells #[.int .u8 (m0 : Int), .int .u8 (m1 : Int), .int .u8 (m2 : Int), .int .u8 (m3 : Int), .int .u8 (m4 : Int), .int .u8 (m5 : Int)] 37)).cell? ⟨w9.heap.size, 1, none⟩ = some (.int .u8 (m1 : Int)) := HY.out.cell 1
    have y2 : (w9.alloc (.cells #[.int .u8 (m0 : Int), .int .u8 (m1 : Int), .int .u8 (m2 : Int), .int .u8 (m3 : Int), .int .u8 (m4 : Int), .int .u8 (m5 : Int)] 37)).cell? ⟨w9.heap.size, 2, none⟩ = some (.int .u8 (m2 : Int)) := HY.out.cell 2
    have y3 : (w9.alloc (.cells #[.int .u8 (m0 : Int), .int .u8 (m1 : Int), .int .u8 (m2 : Int), .int .u8 (m3 : Int), .int .u8 (m4 : Int), .int .u8 (m5 : Int)] 37)).cell? ⟨w9.heap.size, 3, none⟩ = some (.int .u8 (m3 : Int)) := HY.out.cell 3
    have y4 : (w9.alloc (.cells #[.int .u8 (m0 : Int), .int .u8 (m1 : Int), .int .u8 (m2 : Int), .int .u8 (m3 : Int), .int .u8 (m4 : Int), .int .u8 (m5 : Int)] 37)).cell? ⟨w9.heap.size, 4, none⟩ = some (.int .u8 (m4 : Int)) := HY.out.cell 4
    have y5 : (w9.alloc (.cells #[.int .u8 (m0 : Int), .int .u8 (m1 : Int), .int .u8 (m2 : Int), .int .u8 (m3 : Int), .int .u8 (m4 : Int), .int .u8 (m5 : Int)] 37)).cell? ⟨w9.heap.size, 5, none⟩ = some (.int .u8 (m5 : Int)) := HY.out.cell 5
    have heq := eq_mac m0 m1 m2 m3 m4 m5
    have hc := HCB.out
    have CT2 := Lib.hid (fun W (hW : Laid W) => text_ a W ha hW)
    have CU2 := Lib.hid (fun W (hW : Laid2 W) => mactext_ c0 c1 c2 c3 c4 c5 W hc.1 hc.2.1 hc.2.2.1 hc.2.2.2.1 hc.2.2.2.2.1 hc.2.2.2.2.2 hW.tz)
    clear hc
    rcases HPE.out with ⟨rfl, he⟩ | rfl
    · have CT2 : Hid (∀ W, Laid W → Calls Tryd.prog 29 #[.int .u32 (a : Int)] W fun ev w' => ev = .returned (.string s) ∧ Kp (fun _ => False) W w') := Lib.hid (fun W hW => by
        have q := CT2.out W hW
        rw [show strV (textL a) = .string s by rw [he]] at q
        exact q)
      rcases HG.out with ⟨rfl, hg⟩ | rfl
      · have CU2 : Hid (∀ W, Laid2 W → Calls Tryd.prog 31 #[.agg (macC c0 c1 c2 c3 c4 c5)] W fun ev w' => ev = .returned (.string s) ∧ Kp (fun _ => False) W w') := Lib.hid (fun W hW => by
          have q := CU2.out W hW
          rw [show strV (macL [c0, c1, c2, c3, c4, c5]) = .string s by rw [hg]] at q
          exact q)
        go_wp2_with fail
        refine (CT2.out _ (HL0.out.keep K.out).laid).mono ?_
        rintro ev w10 ⟨rfl, k⟩
        clear q0 q1 q2 q3 q4 q5 r0 r1 r2 r3 r4 r5 y0 y1 y2 y3 y4 y5
        have K := Lib.hid (K.out.trans' k)
        have HC := Lib.hid (HC.out.kept k (fun f => f))
        clear k
        have r0 : w10.cell? ⟨w4.heap.size, 0, none⟩ = some (.int .u8 (c0 : Int)) := HC.out.cell 0
        have r1 : w10.cell? ⟨w4.heap.size, 1, none⟩ = some (.int .u8 (c1 : Int)) := HC.out.cell 1
        have r2 : w10.cell? ⟨w4.heap.size, 2, none⟩ = some (.int .u8 (c2 : Int)) := HC.out.cell 2
        have r3 : w10.cell? ⟨w4.heap.size, 3, none⟩ = some (.int .u8 (c3 : Int)) := HC.out.cell 3
        have r4 : w10.cell? ⟨w4.heap.size, 4, none⟩ = some (.int .u8 (c4 : Int)) := HC.out.cell 4
        have r5 : w10.cell? ⟨w4.heap.size, 5, none⟩ = some (.int .u8 (c5 : Int)) := HC.out.cell 5
        go_wp2_with fail
        refine (CU2.out _ (HL0.out.keep K.out)).mono ?_
        rintro ev w11 ⟨rfl, k⟩
        have K := Lib.hid (K.out.trans' k)
        clear k
        go_wp2_with fail
        exact bodyPost_ret (results_tmp rfl _ _ _) rfl ⟨rfl, K.out⟩
      · go_wp2_with fail
        refine (CT2.out _ (HL0.out.keep K.out).laid).mono ?_
        rintro ev w10 ⟨rfl, k⟩
        clear q0 q1 q2 q3 q4 q5 r0 r1 r2 r3 r4 r5 y0 y1 y2 y3 y4 y5
        have K := Lib.hid (K.out.trans' k)
        have HC := Lib.hid (HC.out.kept k (fun f => f))
        clear k
        have r0 : w10.cell? ⟨w4.heap.size, 0, none⟩ = some (.int .u8 (c0 : Int)) := HC.out.cell 0
        have r1 : w10.cell? ⟨w4.heap.size, 1, none⟩ = some (.int .u8 (c1 : Int)) := HC.out.cell 1
        have r2 : w10.cell? ⟨w4.heap.size, 2, none⟩ = some (.int .u8 (c2 : Int)) := HC.out.cell 2
        have r3 : w10.cell? ⟨w4.heap.size, 3, none⟩ = some (.int .u8 (c3 : Int)) := HC.out.cell 3
        have r4 : w10.cell? ⟨w4.heap.size, 4, none⟩ = some (.int .u8 (c4 : Int)) := HC.out.cell 4
        have r5 : w10.cell? ⟨w4.heap.size, 5, none⟩ = some (.int .u8 (c5 : Int)) := HC.out.cell 5
        go_wp2_with fail
        exact bodyPost_ret (results_tmp rfl _ _ _) rfl ⟨rfl, K.out⟩
    · rcases HG.out with ⟨rfl, hg⟩ | rfl
      · have CU2 : Hid (∀ W, Laid2 W → Calls Tryd.prog 31 #[.agg (macC c0 c1 c2 c3 c4 c5)] W fun ev w' => ev = .returned (.string s) ∧ Kp (fun _ => False) W w') := Lib.hid (fun W hW => by
          have q := CU2.out W hW
          rw [show strV (macL [c0, c1, c2, c3, c4, c5]) = .string s by rw [hg]] at q
          exact q)
        go_wp2_with fail
        refine (CU2.out _ (HL0.out.keep K.out)).mono ?_
        rintro ev w11 ⟨rfl, k⟩
        have K := Lib.hid (K.out.trans' k)
        clear k
        go_wp2_with fail
        exact bodyPost_ret (results_tmp rfl _ _ _) rfl ⟨rfl, K.out⟩
      · go_wp2_with fail
        exact bodyPost_ret (results_tmp rfl _ _ _) rfl ⟨rfl, K.out⟩
  · have hs' : (1000 : Int) < (s.size : Int) := by omega
    go_enter Tryd.func4, Tryd.ntmps4
    go_wp2_with fail
    refine (alive04 _ HL.out).mono ?_
    rintro ev w1 ⟨rfl, k⟩
    have K := Lib.hid (K.out.trans' k)
    clear k
    go_wp2_with fail
    exact bodyPost_ret (results_tmp rfl _ _ _) rfl ⟨rfl, K.out⟩
end Go.Proofs.YtkafdpidhelfdaaDoor
