/- Arp: alive. -/
import Derived.Test.YtfhhmehlkjaibaaDoorZm
import Derived.Test.YtfhhmehlkjaibaaDoorGb
import Derived.Test.YtfhhmehlkjaibaaDoorWm
import Derived.BigFrame
set_option linter.unusedVariables false
set_option linter.unusedSimpArgs false
namespace Go.Proofs.YtfhhmehlkjaibaaDoor
open Go.RowKit

theorem made_u8 (n : Nat) : (madeCells (Value.int .u8 0).cells (n * 1)).toList = intsK .u8 (List.replicate n 0) := by
  apply List.ext_getElem
  · simp [madeCells, intsK]
  · intro i h1 h2
    simp [madeCells, intsK, Value.cells, Nat.mod_one]
theorem ask0 (w : World) : Calls Tryd.prog 25 #[.agg #[.int .u8 2, .int .u8 0, .int .u8 0, .int .u8 0, .int .u8 0, .int .u8 0], .int .u32 167772161, .int .u32 167772162] w fun ev w' => ev = .returned (.agg #[.int .i64 1, .int .u8 2, .int .u8 0, .int .u8 0, .int .u8 0, .int .u8 0, .int .u8 0, .int .u32 167772161, .int .u8 0, .int .u8 0, .int .u8 0, .int .u8 0, .int .u8 0, .int .u8 0, .int .u32 167772162]) ∧ Kp (fun _ => False) w w' :=
  ask_any (fun i => if i = 0 then 2 else 0) 167772161 167772162 w
theorem tell0 (w : World) : Calls Tryd.prog 27 #[.agg #[.int .i64 1, .int .u8 2, .int .u8 0, .int .u8 0, .int .u8 0, .int .u8 0, .int .u8 0, .int .u32 167772161, .int .u8 0, .int .u8 0, .int .u8 0, .int .u8 0, .int .u8 0, .int .u8 0, .int .u32 167772162], .agg #[.int .u8 4, .int .u8 0, .int .u8 0, .int .u8 0, .int .u8 0, .int .u8 0]] w fun ev w' => ev = .returned (.agg #[.int .i64 2, .int .u8 4, .int .u8 0, .int .u8 0, .int .u8 0, .int .u8 0, .int .u8 0, .int .u32 167772162, .int .u8 2, .int .u8 0, .int .u8 0, .int .u8 0, .int .u8 0, .int .u8 0, .int .u32 167772161]) ∧ Kp (fun _ => False) w w' :=
  tell_any 1 (fun i => if i = 0 then 2 else 0) (fun _ => 0) 167772161 167772162 (fun i => if i = 0 then 4 else 0) w
theorem bytes0 (w : World) : Calls Tryd.prog 23 #[.agg #[.int .i64 1, .int .u8 2, .int .u8 0, .int .u8 0, .int .u8 0, .int .u8 0, .int .u8 0, .int .u32 167772161, .int .u8 0, .int .u8 0, .int .u8 0, .int .u8 0, .int .u8 0, .int .u8 0, .int .u32 167772162]] w fun ev w' => ∃ s, ev = .returned s ∧ w'.ownsRow w.heap.size 5 1 s 28 (intsK .u8 [0, 1, 8, 0, 6, 4, 0, 1, 2, 0, 0, 0, 0, 0, 10, 0, 0, 1, 0, 0, 0, 0, 0, 0, 10, 0, 0, 2]) ∧ Kp (fun _ => False) w w' := by
  have h := pbytes_any 1 (fun i => if i = 0 then 2 else 0) (fun _ => 0) 167772161 167772162 w (by decide) (by decide)
  rw [show pbytes 1 (fun i => if i = 0 then 2 else 0) 167772161 (fun _ => 0) 167772162 = [0, 1, 8, 0, 6, 4, 0, 1, 2, 0, 0, 0, 0, 0, 10, 0, 0, 1, 0, 0, 0, 0, 0, 0, 10, 0, 0, 2] by decide +kernel] at h
  exact h
theorem parse0 (b c : Nat) (w : World) (hx : RdI w .u8 (some ⟨b, 0, none⟩) [0, 1, 8, 0, 6, 4, 0, 1, 2, 0, 0, 0, 0, 0, 10, 0, 0, 1, 0, 0, 0, 0, 0, 0, 10, 0, 0, 2]) (hc : 28 ≤ c) :
    Calls Tryd.prog 18 #[.slice (some ⟨b, 0, none⟩) 28 c] w fun ev w' => ev = .returned (.tuple #[.agg #[.int .i64 1, .int .u8 2, .int .u8 0, .int .u8 0, .int .u8 0, .int .u8 0, .int .u8 0, .int .u32 167772161, .int .u8 0, .int .u8 0, .int .u8 0, .int .u8 0, .int .u8 0, .int .u8 0, .int .u32 167772162], .nilIface]) ∧ Kp (fun _ => False) w w' := by
  refine (parse_any b 0 c 28 [0, 1, 8, 0, 6, 4, 0, 1, 2, 0, 0, 0, 0, 0, 10, 0, 0, 1, 0, 0, 0, 0, 0, 0, 10, 0, 0, 2] w hx (byt_of _ (by decide)) rfl (by decide) (by decide) hc).mono ?_
  rintro ev w' (⟨h, _⟩ | ⟨_, h, _⟩ | ⟨_, _, rfl, k⟩)
  · exact absurd h (by decide +kernel)
  · exact absurd h (by decide +kernel)
  · refine ⟨?_, k⟩
    rw [show pktOf (nat [0, 1, 8, 0, 6, 4, 0, 1, 2, 0, 0, 0, 0, 0, 10, 0, 0, 1, 0, 0, 0, 0, 0, 0, 10, 0, 0, 2]) = #[.int .i64 1, .int .u8 2, .int .u8 0, .int .u8 0, .int .u8 0, .int .u8 0, .int .u8 0, .int .u32 167772161, .int .u8 0, .int .u8 0, .int .u8 0, .int .u8 0, .int .u8 0, .int .u8 0, .int .u32 167772162] by rfl]
theorem parsez (b c : Nat) (w : World) (hx : RdI w .u8 (some ⟨b, 0, none⟩) (List.replicate 28 0)) (hc : 28 ≤ c) :
    Calls Tryd.prog 18 #[.slice (some ⟨b, 0, none⟩) 28 c] w fun ev w' => ∃ v, ev = .returned (.tuple #[.agg #[.int .i64 0, .int .u8 0, .int .u8 0, .int .u8 0, .int .u8 0, .int .u8 0, .int .u8 0, .int .u32 0, .int .u8 0, .int .u8 0, .int .u8 0, .int .u8 0, .int .u8 0, .int .u8 0, .int .u32 0], v]) ∧ Chain w' 14 [16] v ∧ Kp (fun _ => False) w w' := by
  refine (parse_any b 0 c 28 (List.replicate 28 0) w hx (byt_of _ (by decide)) rfl (by decide) (by decide) hc).mono ?_
  rintro ev w' (⟨_, ⟨v, rfl, c1⟩, k⟩ | ⟨h, _⟩ | ⟨h, _⟩)
  · exact ⟨v, rfl, c1, k⟩
  · exact absurd h (by decide +kernel)
  · exact absurd h (by decide +kernel)
theorem parse27 (A : Option Addr) (c : Nat) (w : World) :
    Calls Tryd.prog 18 #[.slice A 27 c] w fun ev w' => ∃ v, ev = .returned (.tuple #[.agg #[.int .i64 0, .int .u8 0, .int .u8 0, .int .u8 0, .int .u8 0, .int .u8 0, .int .u8 0, .int .u32 0, .int .u8 0, .int .u8 0, .int .u8 0, .int .u8 0, .int .u8 0, .int .u8 0, .int .u32 0], v]) ∧ Chain w' 12 [1] v ∧ Kp (fun _ => False) w w' := parse_short A c 27 w (by decide)
theorem chain_if {w : World} {e r : Int} {v : Value} (h : Chain w e [r] v) : ∃ x, v = .iface 73 x := by
  rcases h.form with ⟨x, rfl⟩ | ⟨x, rfl⟩
  · exact absurd h (by rintro ⟨g, v', h, _⟩; cases h)
  · exact ⟨x, rfl⟩
set_option maxRecDepth 1000000 in
set_option maxHeartbeats 20000000 in
theorem alive06 (w : World) (hE : Et w) : Calls Tryd.prog 16 #[] w fun ev w' => ev = .returned (.bool true) ∧ Kp (fun _ => False) w w' := by
  have K := Lib.hid (Kp.refl (fun _ => False) w)
  have E := Lib.hid hE
  clear hE
  obtain ⟨i0, hi0, hz0, hz1, hz2⟩ := info_parts u8Info
  go_enter Tryd.func16, Tryd.ntmps16
  go_wp2_with fail
  refine (ask0 _).mono ?_
  rintro ev w1 ⟨rfl, k1⟩
  have K := Lib.hid (K.out.trans' k1)
  have E := Lib.hid (E.out.kept k1 (fun f => f))
  clear k1
  go_wp2_with fail
  have kA := (Kp.refl (fun _ => False) w1).alloc (.cells #[.int .i64 1, .int .u8 2, .int .u8 0, .int .u8 0, .int .u8 0, .int .u8 0, .int .u8 0, .int .u32 167772161, .int .u8 0, .int .u8 0, .int .u8 0, .int .u8 0, .int .u8 0, .int .u8 0, .int .u32 167772162] 44)
  have K := Lib.hid (K.out.trans' kA)
  have E := Lib.hid (E.out.kept kA (fun f => f))
  have B1 := Lib.hid (Bk.new w1 44 #[.int .i64 1, .int .u8 2, .int .u8 0, .int .u8 0, .int .u8 0, .int .u8 0, .int .u8 0, .int .u32 167772161, .int .u8 0, .int .u8 0, .int .u8 0, .int .u8 0, .int .u8 0, .int .u8 0, .int .u32 167772162])
  clear kA
  refine (bytes0 _).mono ?_
  rintro ev w2 ⟨s2, rfl, own2, k2⟩
  obtain ⟨g2, c2, rfl, hc2, _, _⟩ := own_form own2 (by omega)
  have K := Lib.hid (K.out.trans' k2)
  have E := Lib.hid (E.out.kept k2 (fun f => f))
  have B1 := Lib.hid (B1.out.kept k2 (fun f => f))
  have R2 := Lib.hid (own_rd own2)
  clear own2 k2
  go_wp2_with fail
  refine (parse0 g2 c2 _ R2.out hc2).mono ?_
  rintro ev w3 ⟨rfl, k3⟩
  have K := Lib.hid (K.out.trans' k3)
  have E := Lib.hid (E.out.kept k3 (fun f => f))
  have B1 := Lib.hid (B1.out.kept k3 (fun f => f))
  clear k3 R2 hc2
  go_upto_region 3 with fail
  have kA := (Kp.refl (fun _ => False) w3).alloc (.cells #[.int .i64 1, .int .u8 2, .int .u8 0, .int .u8 0, .int .u8 0, .int .u8 0, .int .u8 0, .int .u32 167772161, .int .u8 0, .int .u8 0, .int .u8 0, .int .u8 0, .int .u8 0, .int .u8 0, .int .u32 167772162] 44)
  have K := Lib.hid (K.out.trans' kA)
  have E := Lib.hid (E.out.kept kA (fun f => f))
  have B1 := Lib.hid (B1.out.kept kA (fun f => f))
  have B2 := Lib.hid (Bk.new w3 44 #[.int .i64 1, .int .u8 2, .int .u8 0, .int .u8 0, .int .u8 0, .int .u8 0, .int .u8 0, .int .u32 167772161, .int .u8 0, .int .u8 0, .int .u8 0, .int .u8 0, .int .u8 0, .int .u8 0, .int .u32 167772162])
  clear kA
  generalize w3.alloc (.cells #[.int .i64 1, .int .u8 2, .int .u8 0, .int .u8 0, .int .u8 0, .int .u8 0, .int .u8 0, .int .u32 167772161, .int .u8 0, .int .u8 0, .int .u8 0, .int .u8 0, .int .u8 0, .int .u8 0, .int .u32 167772162] 44) = w4 at *
  go_cut [4, 5] (fun s4 s5 wx => Chain wx 12 [1] s5 ∧ Kp (fun _ => False) w4 wx)
  case first =>
    as_aux_lemma =>
      have KC := Lib.hid ((Kp.refl (fun _ => False) w4).drew)
      refine wp_region_held_drew (S := (fun w' => Kp (fun _ => False) w4 w')) (by kernel_rfl) (KC.out) (fun hHeld => ?_)
      refine wpAnyH_take (i := 0) (v := ?v0_0) rfl (by kernel_rfl) (by kernel_rfl) (by kernel_rfl) (fun _ _ _ h => h) (Or.inl ⟨by rfl, ?y0_0⟩) (by assumption) ?r0_0
      case y0_0 => (intro w hSw; (try dsimp only at hSw); have d0 := kp_kc (show w4.cell? ⟨w1.heap.size, 0, none⟩ = some (Value.int .i64 1) from B1.out.cell 0) hSw; have d1 := kp_kc (show w4.cell? ⟨w1.heap.size, 1, none⟩ = some (Value.int .u8 2) from B1.out.cell 1) hSw; have d2 := kp_kc (show w4.cell? ⟨w1.heap.size, 2, none⟩ = some (Value.int .u8 0) from B1.out.cell 2) hSw; have d3 := kp_kc (show w4.cell? ⟨w1.heap.size, 3, none⟩ = some (Value.int .u8 0) from B1.out.cell 3) hSw; have d4 := kp_kc (show w4.cell? ⟨w1.heap.size, 4, none⟩ = some (Value.int .u8 0) from B1.out.cell 4) hSw; have d5 := kp_kc (show w4.cell? ⟨w1.heap.size, 5, none⟩ = some (Value.int .u8 0) from B1.out.cell 5) hSw; have d6 := kp_kc (show w4.cell? ⟨w1.heap.size, 6, none⟩ = some (Value.int .u8 0) from B1.out.cell 6) hSw; have d7 := kp_kc (show w4.cell? ⟨w1.heap.size, 7, none⟩ = some (Value.int .u32 167772161) from B1.out.cell 7) hSw; have d8 := kp_kc (show w4.cell? ⟨w1.heap.size, 8, none⟩ = some (Value.int .u8 0) from B1.out.cell 8) hSw; have d9 := kp_kc (show w4.cell? ⟨w1.heap.size, 9, none⟩ = some (Value.int .u8 0) from B1.out.cell 9) hSw; have d10 := kp_kc (show w4.cell? ⟨w1.heap.size, 10, none⟩ = some (Value.int .u8 0) from B1.out.cell 10) hSw; have d11 := kp_kc (show w4.cell? ⟨w1.heap.size, 11, none⟩ = some (Value.int .u8 0) from B1.out.cell 11) hSw; have d12 := kp_kc (show w4.cell? ⟨w1.heap.size, 12, none⟩ = some (Value.int .u8 0) from B1.out.cell 12) hSw; have d13 := kp_kc (show w4.cell? ⟨w1.heap.size, 13, none⟩ = some (Value.int .u8 0) from B1.out.cell 13) hSw; have d14 := kp_kc (show w4.cell? ⟨w1.heap.size, 14, none⟩ = some (Value.int .u32 167772162) from B1.out.cell 14) hSw; go_simp; first | done | with_reducible rfl)
      try simp only [Act.put, List.getElem_toArray, List.getElem_cons_succ, List.getElem_cons_zero, List.setIfInBounds_toArray, List.set_cons_zero, List.set_cons_succ]
      refine wpAnyH_take (i := 2) (v := ?v2_1) rfl (by kernel_rfl) (by kernel_rfl) (by kernel_rfl) (fun _ _ _ h => h) (Or.inl ⟨by rfl, ?y2_1⟩) (by assumption) ?r2_1
      case y2_1 => (intro w hSw; (try dsimp only at hSw); have d0 := kp_kc (show w4.cell? ⟨w1.heap.size, 0, none⟩ = some (Value.int .i64 1) from B1.out.cell 0) hSw; have d1 := kp_kc (show w4.cell? ⟨w1.heap.size, 1, none⟩ = some (Value.int .u8 2) from B1.out.cell 1) hSw; have d2 := kp_kc (show w4.cell? ⟨w1.heap.size, 2, none⟩ = some (Value.int .u8 0) from B1.out.cell 2) hSw; have d3 := kp_kc (show w4.cell? ⟨w1.heap.size, 3, none⟩ = some (Value.int .u8 0) from B1.out.cell 3) hSw; have d4 := kp_kc (show w4.cell? ⟨w1.heap.size, 4, none⟩ = some (Value.int .u8 0) from B1.out.cell 4) hSw; have d5 := kp_kc (show w4.cell? ⟨w1.heap.size, 5, none⟩ = some (Value.int .u8 0) from B1.out.cell 5) hSw; have d6 := kp_kc (show w4.cell? ⟨w1.heap.size, 6, none⟩ = some (Value.int .u8 0) from B1.out.cell 6) hSw; have d7 := kp_kc (show w4.cell? ⟨w1.heap.size, 7, none⟩ = some (Value.int .u32 167772161) from B1.out.cell 7) hSw; have d8 := kp_kc (show w4.cell? ⟨w1.heap.size, 8, none⟩ = some (Value.int .u8 0) from B1.out.cell 8) hSw; have d9 := kp_kc (show w4.cell? ⟨w1.heap.size, 9, none⟩ = some (Value.int .u8 0) from B1.out.cell 9) hSw; have d10 := kp_kc (show w4.cell? ⟨w1.heap.size, 10, none⟩ = some (Value.int .u8 0) from B1.out.cell 10) hSw; have d11 := kp_kc (show w4.cell? ⟨w1.heap.size, 11, none⟩ = some (Value.int .u8 0) from B1.out.cell 11) hSw; have d12 := kp_kc (show w4.cell? ⟨w1.heap.size, 12, none⟩ = some (Value.int .u8 0) from B1.out.cell 12) hSw; have d13 := kp_kc (show w4.cell? ⟨w1.heap.size, 13, none⟩ = some (Value.int .u8 0) from B1.out.cell 13) hSw; have d14 := kp_kc (show w4.cell? ⟨w1.heap.size, 14, none⟩ = some (Value.int .u32 167772162) from B1.out.cell 14) hSw; go_simp; first | done | with_reducible rfl)
      try simp only [Act.put, List.getElem_toArray, List.getElem_cons_succ, List.getElem_cons_zero, List.setIfInBounds_toArray, List.set_cons_zero, List.set_cons_succ]
      refine wpAnyH_ready (rs := [1, 11]) (by kernel_rfl) (by simp) ?_
      refine AllReadyH.cons rfl (fun K hK => ?_) ?_
      · go_simp
        with_reducible refine (bytes0 _).mono ?_
        rintro ev x1 ⟨s1, rfl, own1, k9⟩
        obtain ⟨g1, c1, rfl, hc1, _, _⟩ := own_form own1 (by omega)
        have KC := Lib.hid (KC.out.trans' k9)
        clear own1 k9
        have hci1 : (28 : Int) ≤ (c1 : Int) := by omega
        have hcj1 : (27 : Int) ≤ (c1 : Int) := by omega
        have hck1 : 27 ≤ c1 := by omega
        try dsimp only
        refine hK.out _ _ (KC.out) (fun hHeld => ?_)
        clear hK K
        try simp only [Act.put, List.getElem_toArray, List.getElem_cons_succ, List.getElem_cons_zero, List.setIfInBounds_toArray, List.set_cons_zero, List.set_cons_succ]
        refine wpAnyH_ready (rs := [3, 11]) (by kernel_rfl) (by simp) ?_
        refine AllReadyH.cons rfl (fun K hK => ?_) ?_
        · go_simp
          with_reducible refine (bytes0 _).mono ?_
          rintro ev x3 ⟨s3, rfl, own3, k9⟩
          obtain ⟨g3, c3, rfl, hc3, _, _⟩ := own_form own3 (by omega)
          have KC := Lib.hid (KC.out.trans' k9)
          clear own3 k9
          have hci3 : (28 : Int) ≤ (c3 : Int) := by omega
          have hcj3 : (27 : Int) ≤ (c3 : Int) := by omega
          have hck3 : 27 ≤ c3 := by omega
          try dsimp only
          refine hK.out _ _ (KC.out) (fun hHeld => ?_)
          clear hK K
          try simp only [Act.put, List.getElem_toArray, List.getElem_cons_succ, List.getElem_cons_zero, List.setIfInBounds_toArray, List.set_cons_zero, List.set_cons_succ]
          refine wpAnyH_take (i := 4) (v := ?v4_2) rfl (by kernel_rfl) (by kernel_rfl) (by kernel_rfl) (fun _ _ _ h => h) (Or.inl ⟨by rfl, ?y4_2⟩) (by assumption) ?r4_2
          case y4_2 => (intro w hSw; (try dsimp only at hSw); go_simp; first | done | with_reducible rfl)
          try simp only [Act.put, List.getElem_toArray, List.getElem_cons_succ, List.getElem_cons_zero, List.setIfInBounds_toArray, List.set_cons_zero, List.set_cons_succ]
          refine wpAnyH_take (i := 5) (v := ?v5_3) rfl (by kernel_rfl) (by kernel_rfl) (by kernel_rfl) (fun _ _ _ h => h) (Or.inl ⟨by rfl, ?y5_3⟩) (by assumption) ?r5_3
          case y5_3 => (intro w hSw; (try dsimp only at hSw); go_simp; first | done | with_reducible rfl)
          try simp only [Act.put, List.getElem_toArray, List.getElem_cons_succ, List.getElem_cons_zero, List.setIfInBounds_toArray, List.set_cons_zero, List.set_cons_succ]
          refine wpAnyH_take (i := 6) (v := ?v6_4) rfl (by kernel_rfl) (by kernel_rfl) (by kernel_rfl) (fun _ _ _ h => h) (Or.inl ⟨by rfl, ?y6_4⟩) (by assumption) ?r6_4
          case y6_4 => (intro w hSw; (try dsimp only at hSw); go_simp; first | done | with_reducible rfl)
          try simp only [Act.put, List.getElem_toArray, List.getElem_cons_succ, List.getElem_cons_zero, List.setIfInBounds_toArray, List.set_cons_zero, List.set_cons_succ]
          refine wpAnyH_ready (rs := [7, 11]) (by kernel_rfl) (by simp) ?_
          refine AllReadyH.cons rfl (fun K hK => ?_) ?_
          · go_simp
            with_reducible refine (parse27 _ _ _).mono ?_
            rintro ev x7 ⟨v7, rfl, ch7, k9⟩
            have KC := Lib.hid (KC.out.trans' k9)
            have CH := Lib.hid ch7
            clear ch7 k9
            try dsimp only
            refine hK.out _ _ (KC.out) (fun hHeld => ?_)
            clear hK K
            try simp only [Act.put, List.getElem_toArray, List.getElem_cons_succ, List.getElem_cons_zero, List.setIfInBounds_toArray, List.set_cons_zero, List.set_cons_succ]
            refine wpAnyH_take (i := 8) (v := ?v8_5) rfl (by kernel_rfl) (by kernel_rfl) (by kernel_rfl) (fun _ _ _ h => h) (Or.inl ⟨by rfl, ?y8_5⟩) (by assumption) ?r8_5
            case y8_5 => (intro w hSw; (try dsimp only at hSw); go_simp; first | done | with_reducible rfl)
            try simp only [Act.put, List.getElem_toArray, List.getElem_cons_succ, List.getElem_cons_zero, List.setIfInBounds_toArray, List.set_cons_zero, List.set_cons_succ]
            refine wpAnyH_take (i := 9) (v := ?v9_6) rfl (by kernel_rfl) (by kernel_rfl) (by kernel_rfl) (fun _ _ _ h => h) (Or.inl ⟨by rfl, ?y9_6⟩) (by assumption) ?r9_6
            case y9_6 => (intro w hSw; (try dsimp only at hSw); go_simp; first | done | with_reducible rfl)
            try simp only [Act.put, List.getElem_toArray, List.getElem_cons_succ, List.getElem_cons_zero, List.setIfInBounds_toArray, List.set_cons_zero, List.set_cons_succ]
            refine wpAnyH_take (i := 10) (v := ?v10_7) rfl (by kernel_rfl) (by kernel_rfl) (by kernel_rfl) (fun _ _ _ h => h) (Or.inl ⟨by rfl, ?y10_7⟩) (by assumption) ?r10_7
            case y10_7 => (intro w hSw; (try dsimp only at hSw); go_simp; first | done | with_reducible rfl)
            try simp only [Act.put, List.getElem_toArray, List.getElem_cons_succ, List.getElem_cons_zero, List.setIfInBounds_toArray, List.set_cons_zero, List.set_cons_succ]
            refine wpAnyH_ready (rs := [11]) (by kernel_rfl) (by simp) ?_
            refine AllReadyH.cons rfl (fun K hK => ?_) AllReadyH.nil
            go_simp
            have HG := Lib.hid KC.out.size
            have kA := (Kp.refl (fun _ => False) x7).alloc (.cells #[.int .i64 0, .int .u8 0, .int .u8 0, .int .u8 0, .int .u8 0, .int .u8 0, .int .u8 0, .int .u32 0, .int .u8 0, .int .u8 0, .int .u8 0, .int .u8 0, .int .u8 0, .int .u8 0, .int .u32 0] 44)
            have KC := Lib.hid (KC.out.trans' kA)
            have CH := Lib.hid (CH.out.none_kept kA)
            have HA := Lib.hid (Bk.new x7 44 #[.int .i64 0, .int .u8 0, .int .u8 0, .int .u8 0, .int .u8 0, .int .u8 0, .int .u8 0, .int .u32 0, .int .u8 0, .int .u8 0, .int .u8 0, .int .u8 0, .int .u8 0, .int .u8 0, .int .u32 0])
            clear kA
            refine hK.out _ _ (KC.out) (fun hHeld => ?_)
            clear hK K
            try simp only [Act.put, List.getElem_toArray, List.getElem_cons_succ, List.getElem_cons_zero, List.setIfInBounds_toArray, List.set_cons_zero, List.set_cons_succ]
            refine wpAnyH_ready (rs := [12]) (by kernel_rfl) (by simp) ?_
            refine AllReadyH.cons rfl (fun K hK => ?_) AllReadyH.nil
            rw [if_pos (by rfl)]
            refine wp_store_row 44 (.tmp 4) (.tmp 26) (by rfl) (x7.heap.size) #[.int .i64 0, .int .u8 0, .int .u8 0, .int .u8 0, .int .u8 0, .int .u8 0, .int .u8 0, .int .u32 0, .int .u8 0, .int .u8 0, .int .u8 0, .int .u8 0, .int .u8 0, .int .u8 0, .int .u32 0] (by rfl) (by rfl) 44 #[.int .i64 0, .int .u8 0, .int .u8 0, .int .u8 0, .int .u8 0, .int .u8 0, .int .u8 0, .int .u32 0, .int .u8 0, .int .u8 0, .int .u8 0, .int .u8 0, .int .u8 0, .int .u8 0, .int .u32 0] HA.out hi44' rfl (by simp [Value.oneCell']) ?_
            have CH := Lib.hid (CH.out.kept (Kp.setRow (S := fun b => b = x7.heap.size) (Kp.refl _ _) (.inl rfl) #[.int .i64 0, .int .u8 0, .int .u8 0, .int .u8 0, .int .u8 0, .int .u8 0, .int .u8 0, .int .u32 0, .int .u8 0, .int .u8 0, .int .u8 0, .int .u8 0, .int .u8 0, .int .u8 0, .int .u32 0]) (fun k cs h2 h3 => by subst h3; exact Bk.ne_of h2 HA.out (by decide) rfl))
            have KC := Lib.hid (KC.out.setRow (.inr HG.out) #[.int .i64 0, .int .u8 0, .int .u8 0, .int .u8 0, .int .u8 0, .int .u8 0, .int .u8 0, .int .u32 0, .int .u8 0, .int .u8 0, .int .u8 0, .int .u8 0, .int .u8 0, .int .u8 0, .int .u32 0])
            refine hK.out _ _ (KC.out) (fun hHeld => ?_)
            clear hK K
            try simp only [Act.put, List.getElem_toArray, List.getElem_cons_succ, List.getElem_cons_zero, List.setIfInBounds_toArray, List.set_cons_zero, List.set_cons_succ]
            refine wpAnyH_take (i := 13) (v := ?v13_8) rfl (by kernel_rfl) (by kernel_rfl) (by kernel_rfl) (fun _ _ _ h => h) (Or.inl ⟨by rfl, ?y13_8⟩) (by assumption) ?r13_8
            case y13_8 => (intro w hSw; (try dsimp only at hSw); go_simp; first | done | with_reducible rfl)
            try simp only [Act.put, List.getElem_toArray, List.getElem_cons_succ, List.getElem_cons_zero, List.setIfInBounds_toArray, List.set_cons_zero, List.set_cons_succ]
            refine wpAnyH_done (by kernel_rfl) ?_ _
            go_wp2_with fail
            go_meet
            exact ⟨CH.out, KC.out⟩
          refine AllReadyH.cons rfl (fun K hK => ?_) AllReadyH.nil
          go_simp
          have HG := Lib.hid KC.out.size
          have kA := (Kp.refl (fun _ => False) x3).alloc (.cells #[.int .i64 0, .int .u8 0, .int .u8 0, .int .u8 0, .int .u8 0, .int .u8 0, .int .u8 0, .int .u32 0, .int .u8 0, .int .u8 0, .int .u8 0, .int .u8 0, .int .u8 0, .int .u8 0, .int .u32 0] 44)
          have KC := Lib.hid (KC.out.trans' kA)
          have HA := Lib.hid (Bk.new x3 44 #[.int .i64 0, .int .u8 0, .int .u8 0, .int .u8 0, .int .u8 0, .int .u8 0, .int .u8 0, .int .u32 0, .int .u8 0, .int .u8 0, .int .u8 0, .int .u8 0, .int .u8 0, .int .u8 0, .int .u32 0])
          clear kA
          refine hK.out _ _ (KC.out) (fun hHeld => ?_)
          clear hK K
          try simp only [Act.put, List.getElem_toArray, List.getElem_cons_succ, List.getElem_cons_zero, List.setIfInBounds_toArray, List.set_cons_zero, List.set_cons_succ]
          refine wpAnyH_ready (rs := [7]) (by kernel_rfl) (by simp) ?_
          refine AllReadyH.cons rfl (fun K hK => ?_) AllReadyH.nil
          go_simp
          with_reducible refine (parse27 _ _ _).mono ?_
          rintro ev x7 ⟨v7, rfl, ch7, k9⟩
          have KC := Lib.hid (KC.out.trans' k9)
          have HA := Lib.hid (HA.out.kept k9 (fun f => f))
          have CH := Lib.hid ch7
          clear ch7 k9
          try dsimp only
          refine hK.out _ _ (KC.out) (fun hHeld => ?_)
          clear hK K
          try simp only [Act.put, List.getElem_toArray, List.getElem_cons_succ, List.getElem_cons_zero, List.setIfInBounds_toArray, List.set_cons_zero, List.set_cons_succ]
          refine wpAnyH_take (i := 8) (v := ?v8_9) rfl (by kernel_rfl) (by kernel_rfl) (by kernel_rfl) (fun _ _ _ h => h) (Or.inl ⟨by rfl, ?y8_9⟩) (by assumption) ?r8_9
          case y8_9 => (intro w hSw; (try dsimp only at hSw); go_simp; first | done | with_reducible rfl)
          try simp only [Act.put, List.getElem_toArray, List.getElem_cons_succ, List.getElem_cons_zero, List.setIfInBounds_toArray, List.set_cons_zero, List.set_cons_succ]
          refine wpAnyH_take (i := 9) (v := ?v9_10) rfl (by kernel_rfl) (by kernel_rfl) (by kernel_rfl) (fun _ _ _ h => h) (Or.inl ⟨by rfl, ?y9_10⟩) (by assumption) ?r9_10
          case y9_10 => (intro w hSw; (try dsimp only at hSw); go_simp; first | done | with_reducible rfl)
          try simp only [Act.put, List.getElem_toArray, List.getElem_cons_succ, List.getElem_cons_zero, List.setIfInBounds_toArray, List.set_cons_zero, List.set_cons_succ]
          refine wpAnyH_take (i := 10) (v := ?v10_11) rfl (by kernel_rfl) (by kernel_rfl) (by kernel_rfl) (fun _ _ _ h => h) (Or.inl ⟨by rfl, ?y10_11⟩) (by assumption) ?r10_11
          case y10_11 => (intro w hSw; (try dsimp only at hSw); go_simp; first | done | with_reducible rfl)
          try simp only [Act.put, List.getElem_toArray, List.getElem_cons_succ, List.getElem_cons_zero, List.setIfInBounds_toArray, List.set_cons_zero, List.set_cons_succ]
          refine wpAnyH_ready (rs := [12]) (by kernel_rfl) (by simp) ?_
          refine AllReadyH.cons rfl (fun K hK => ?_) AllReadyH.nil
          rw [if_pos (by rfl)]
          refine wp_store_row 44 (.tmp 4) (.tmp 26) (by rfl) (x3.heap.size) #[.int .i64 0, .int .u8 0, .int .u8 0, .int .u8 0, .int .u8 0, .int .u8 0, .int .u8 0, .int .u32 0, .int .u8 0, .int .u8 0, .int .u8 0, .int .u8 0, .int .u8 0, .int .u8 0, .int .u32 0] (by rfl) (by rfl) 44 #[.int .i64 0, .int .u8 0, .int .u8 0, .int .u8 0, .int .u8 0, .int .u8 0, .int .u8 0, .int .u32 0, .int .u8 0, .int .u8 0, .int .u8 0, .int .u8 0, .int .u8 0, .int .u8 0, .int .u32 0] HA.out hi44' rfl (by simp [Value.oneCell']) ?_
          have CH := Lib.hid (CH.out.kept (Kp.setRow (S := fun b => b = x3.heap.size) (Kp.refl _ _) (.inl rfl) #[.int .i64 0, .int .u8 0, .int .u8 0, .int .u8 0, .int .u8 0, .int .u8 0, .int .u8 0, .int .u32 0, .int .u8 0, .int .u8 0, .int .u8 0, .int .u8 0, .int .u8 0, .int .u8 0, .int .u32 0]) (fun k cs h2 h3 => by subst h3; exact Bk.ne_of h2 HA.out (by decide) rfl))
          have KC := Lib.hid (KC.out.setRow (.inr HG.out) #[.int .i64 0, .int .u8 0, .int .u8 0, .int .u8 0, .int .u8 0, .int .u8 0, .int .u8 0, .int .u32 0, .int .u8 0, .int .u8 0, .int .u8 0, .int .u8 0, .int .u8 0, .int .u8 0, .int .u32 0])
          refine hK.out _ _ (KC.out) (fun hHeld => ?_)
          clear hK K
          try simp only [Act.put, List.getElem_toArray, List.getElem_cons_succ, List.getElem_cons_zero, List.setIfInBounds_toArray, List.set_cons_zero, List.set_cons_succ]
          refine wpAnyH_take (i := 13) (v := ?v13_12) rfl (by kernel_rfl) (by kernel_rfl) (by kernel_rfl) (fun _ _ _ h => h) (Or.inl ⟨by rfl, ?y13_12⟩) (by assumption) ?r13_12
          case y13_12 => (intro w hSw; (try dsimp only at hSw); go_simp; first | done | with_reducible rfl)
          try simp only [Act.put, List.getElem_toArray, List.getElem_cons_succ, List.getElem_cons_zero, List.setIfInBounds_toArray, List.set_cons_zero, List.set_cons_succ]
          refine wpAnyH_done (by kernel_rfl) ?_ _
          go_wp2_with fail
          go_meet
          exact ⟨CH.out, KC.out⟩
        refine AllReadyH.cons rfl (fun K hK => ?_) AllReadyH.nil
        go_simp
        have HG := Lib.hid KC.out.size
        have kA := (Kp.refl (fun _ => False) x1).alloc (.cells #[.int .i64 0, .int .u8 0, .int .u8 0, .int .u8 0, .int .u8 0, .int .u8 0, .int .u8 0, .int .u32 0, .int .u8 0, .int .u8 0, .int .u8 0, .int .u8 0, .int .u8 0, .int .u8 0, .int .u32 0] 44)
        have KC := Lib.hid (KC.out.trans' kA)
        have HA := Lib.hid (Bk.new x1 44 #[.int .i64 0, .int .u8 0, .int .u8 0, .int .u8 0, .int .u8 0, .int .u8 0, .int .u8 0, .int .u32 0, .int .u8 0, .int .u8 0, .int .u8 0, .int .u8 0, .int .u8 0, .int .u8 0, .int .u32 0])
        clear kA
        refine hK.out _ _ (KC.out) (fun hHeld => ?_)
        clear hK K
        try simp only [Act.put, List.getElem_toArray, List.getElem_cons_succ, List.getElem_cons_zero, List.setIfInBounds_toArray, List.set_cons_zero, List.set_cons_succ]
        refine wpAnyH_ready (rs := [3]) (by kernel_rfl) (by simp) ?_
        refine AllReadyH.cons rfl (fun K hK => ?_) AllReadyH.nil
        go_simp
        with_reducible refine (bytes0 _).mono ?_
        rintro ev x3 ⟨s3, rfl, own3, k9⟩
        obtain ⟨g3, c3, rfl, hc3, _, _⟩ := own_form own3 (by omega)
        have KC := Lib.hid (KC.out.trans' k9)
        have HA := Lib.hid (HA.out.kept k9 (fun f => f))
        clear own3 k9
        have hci3 : (28 : Int) ≤ (c3 : Int) := by omega
        have hcj3 : (27 : Int) ≤ (c3 : Int) := by omega
        have hck3 : 27 ≤ c3 := by omega
        try dsimp only
        refine hK.out _ _ (KC.out) (fun hHeld => ?_)
        clear hK K
        try simp only [Act.put, List.getElem_toArray, List.getElem_cons_succ, List.getElem_cons_zero, List.setIfInBounds_toArray, List.set_cons_zero, List.set_cons_succ]
        refine wpAnyH_take (i := 4) (v := ?v4_13) rfl (by kernel_rfl) (by kernel_rfl) (by kernel_rfl) (fun _ _ _ h => h) (Or.inl ⟨by rfl, ?y4_13⟩) (by assumption) ?r4_13
        case y4_13 => (intro w hSw; (try dsimp only at hSw); go_simp; first | done | with_reducible rfl)
        try simp only [Act.put, List.getElem_toArray, List.getElem_cons_succ, List.getElem_cons_zero, List.setIfInBounds_toArray, List.set_cons_zero, List.set_cons_succ]
        refine wpAnyH_take (i := 5) (v := ?v5_14) rfl (by kernel_rfl) (by kernel_rfl) (by kernel_rfl) (fun _ _ _ h => h) (Or.inl ⟨by rfl, ?y5_14⟩) (by assumption) ?r5_14
        case y5_14 => (intro w hSw; (try dsimp only at hSw); go_simp; first | done | with_reducible rfl)
        try simp only [Act.put, List.getElem_toArray, List.getElem_cons_succ, List.getElem_cons_zero, List.setIfInBounds_toArray, List.set_cons_zero, List.set_cons_succ]
        refine wpAnyH_take (i := 6) (v := ?v6_15) rfl (by kernel_rfl) (by kernel_rfl) (by kernel_rfl) (fun _ _ _ h => h) (Or.inl ⟨by rfl, ?y6_15⟩) (by assumption) ?r6_15
        case y6_15 => (intro w hSw; (try dsimp only at hSw); go_simp; first | done | with_reducible rfl)
        try simp only [Act.put, List.getElem_toArray, List.getElem_cons_succ, List.getElem_cons_zero, List.setIfInBounds_toArray, List.set_cons_zero, List.set_cons_succ]
        refine wpAnyH_ready (rs := [7]) (by kernel_rfl) (by simp) ?_
        refine AllReadyH.cons rfl (fun K hK => ?_) AllReadyH.nil
        go_simp
        with_reducible refine (parse27 _ _ _).mono ?_
        rintro ev x7 ⟨v7, rfl, ch7, k9⟩
        have KC := Lib.hid (KC.out.trans' k9)
        have HA := Lib.hid (HA.out.kept k9 (fun f => f))
        have CH := Lib.hid ch7
        clear ch7 k9
        try dsimp only
        refine hK.out _ _ (KC.out) (fun hHeld => ?_)
        clear hK K
        try simp only [Act.put, List.getElem_toArray, List.getElem_cons_succ, List.getElem_cons_zero, List.setIfInBounds_toArray, List.set_cons_zero, List.set_cons_succ]
        refine wpAnyH_take (i := 8) (v := ?v8_16) rfl (by kernel_rfl) (by kernel_rfl) (by kernel_rfl) (fun _ _ _ h => h) (Or.inl ⟨by rfl, ?y8_16⟩) (by assumption) ?r8_16
        case y8_16 => (intro w hSw; (try dsimp only at hSw); go_simp; first | done | with_reducible rfl)
        try simp only [Act.put, List.getElem_toArray, List.getElem_cons_succ, List.getElem_cons_zero, List.setIfInBounds_toArray, List.set_cons_zero, List.set_cons_succ]
        refine wpAnyH_take (i := 9) (v := ?v9_17) rfl (by kernel_rfl) (by kernel_rfl) (by kernel_rfl) (fun _ _ _ h => h) (Or.inl ⟨by rfl, ?y9_17⟩) (by assumption) ?r9_17
        case y9_17 => (intro w hSw; (try dsimp only at hSw); go_simp; first | done | with_reducible rfl)
        try simp only [Act.put, List.getElem_toArray, List.getElem_cons_succ, List.getElem_cons_zero, List.setIfInBounds_toArray, List.set_cons_zero, List.set_cons_succ]
        refine wpAnyH_take (i := 10) (v := ?v10_18) rfl (by kernel_rfl) (by kernel_rfl) (by kernel_rfl) (fun _ _ _ h => h) (Or.inl ⟨by rfl, ?y10_18⟩) (by assumption) ?r10_18
        case y10_18 => (intro w hSw; (try dsimp only at hSw); go_simp; first | done | with_reducible rfl)
        try simp only [Act.put, List.getElem_toArray, List.getElem_cons_succ, List.getElem_cons_zero, List.setIfInBounds_toArray, List.set_cons_zero, List.set_cons_succ]
        refine wpAnyH_ready (rs := [12]) (by kernel_rfl) (by simp) ?_
        refine AllReadyH.cons rfl (fun K hK => ?_) AllReadyH.nil
        rw [if_pos (by rfl)]
        refine wp_store_row 44 (.tmp 4) (.tmp 26) (by rfl) (x1.heap.size) #[.int .i64 0, .int .u8 0, .int .u8 0, .int .u8 0, .int .u8 0, .int .u8 0, .int .u8 0, .int .u32 0, .int .u8 0, .int .u8 0, .int .u8 0, .int .u8 0, .int .u8 0, .int .u8 0, .int .u32 0] (by rfl) (by rfl) 44 #[.int .i64 0, .int .u8 0, .int .u8 0, .int .u8 0, .int .u8 0, .int .u8 0, .int .u8 0, .int .u32 0, .int .u8 0, .int .u8 0, .int .u8 0, .int .u8 0, .int .u8 0, .int .u8 0, .int .u32 0] HA.out hi44' rfl (by simp [Value.oneCell']) ?_
        have CH := Lib.hid (CH.out.kept (Kp.setRow (S := fun b => b = x1.heap.size) (Kp.refl _ _) (.inl rfl) #[.int .i64 0, .int .u8 0, .int .u8 0, .int .u8 0, .int .u8 0, .int .u8 0, .int .u8 0, .int .u32 0, .int .u8 0, .int .u8 0, .int .u8 0, .int .u8 0, .int .u8 0, .int .u8 0, .int .u32 0]) (fun k cs h2 h3 => by subst h3; exact Bk.ne_of h2 HA.out (by decide) rfl))
        have KC := Lib.hid (KC.out.setRow (.inr HG.out) #[.int .i64 0, .int .u8 0, .int .u8 0, .int .u8 0, .int .u8 0, .int .u8 0, .int .u8 0, .int .u32 0, .int .u8 0, .int .u8 0, .int .u8 0, .int .u8 0, .int .u8 0, .int .u8 0, .int .u32 0])
        refine hK.out _ _ (KC.out) (fun hHeld => ?_)
        clear hK K
        try simp only [Act.put, List.getElem_toArray, List.getElem_cons_succ, List.getElem_cons_zero, List.setIfInBounds_toArray, List.set_cons_zero, List.set_cons_succ]
        refine wpAnyH_take (i := 13) (v := ?v13_19) rfl (by kernel_rfl) (by kernel_rfl) (by kernel_rfl) (fun _ _ _ h => h) (Or.inl ⟨by rfl, ?y13_19⟩) (by assumption) ?r13_19
        case y13_19 => (intro w hSw; (try dsimp only at hSw); go_simp; first | done | with_reducible rfl)
        try simp only [Act.put, List.getElem_toArray, List.getElem_cons_succ, List.getElem_cons_zero, List.setIfInBounds_toArray, List.set_cons_zero, List.set_cons_succ]
        refine wpAnyH_done (by kernel_rfl) ?_ _
        go_wp2_with fail
        go_meet
        exact ⟨CH.out, KC.out⟩
      refine AllReadyH.cons rfl (fun K hK => ?_) AllReadyH.nil
      go_simp
      have HG := Lib.hid KC.out.size
      have kA := ((Kp.refl (fun _ => False) w4).alloc (.cells #[.int .i64 0, .int .u8 0, .int .u8 0, .int .u8 0, .int .u8 0, .int .u8 0, .int .u8 0, .int .u32 0, .int .u8 0, .int .u8 0, .int .u8 0, .int .u8 0, .int .u8 0, .int .u8 0, .int .u32 0] 44)).drew
      have HA := Lib.hid (Bk.new w4 44 #[.int .i64 0, .int .u8 0, .int .u8 0, .int .u8 0, .int .u8 0, .int .u8 0, .int .u8 0, .int .u32 0, .int .u8 0, .int .u8 0, .int .u8 0, .int .u8 0, .int .u8 0, .int .u8 0, .int .u32 0]).drew
      have KC := Lib.hid kA
      clear kA
      refine hK.out _ _ (KC.out) (fun hHeld => ?_)
      clear hK K
      try simp only [Act.put, List.getElem_toArray, List.getElem_cons_succ, List.getElem_cons_zero, List.setIfInBounds_toArray, List.set_cons_zero, List.set_cons_succ]
      refine wpAnyH_ready (rs := [1]) (by kernel_rfl) (by simp) ?_
      refine AllReadyH.cons rfl (fun K hK => ?_) AllReadyH.nil
      go_simp
      with_reducible refine (bytes0 _).mono ?_
      rintro ev x1 ⟨s1, rfl, own1, k9⟩
      obtain ⟨g1, c1, rfl, hc1, _, _⟩ := own_form own1 (by omega)
      have KC := Lib.hid (KC.out.trans' k9)
      have HA := Lib.hid (HA.out.kept k9 (fun f => f))
      clear own1 k9
      have hci1 : (28 : Int) ≤ (c1 : Int) := by omega
      have hcj1 : (27 : Int) ≤ (c1 : Int) := by omega
      have hck1 : 27 ≤ c1 := by omega
      try dsimp only
      refine hK.out _ _ (KC.out) (fun hHeld => ?_)
      clear hK K
      try simp only [Act.put, List.getElem_toArray, List.getElem_cons_succ, List.getElem_cons_zero, List.setIfInBounds_toArray, List.set_cons_zero, List.set_cons_succ]
      refine wpAnyH_ready (rs := [3]) (by kernel_rfl) (by simp) ?_
      refine AllReadyH.cons rfl (fun K hK => ?_) AllReadyH.nil
      go_simp
      with_reducible refine (bytes0 _).mono ?_
      rintro ev x3 ⟨s3, rfl, own3, k9⟩
      obtain ⟨g3, c3, rfl, hc3, _, _⟩ := own_form own3 (by omega)
      have KC := Lib.hid (KC.out.trans' k9)
      have HA := Lib.hid (HA.out.kept k9 (fun f => f))
      clear own3 k9
      have hci3 : (28 : Int) ≤ (c3 : Int) := by omega
      have hcj3 : (27 : Int) ≤ (c3 : Int) := by omega
      have hck3 : 27 ≤ c3 := by omega
      try dsimp only
      refine hK.out _ _ (KC.out) (fun hHeld => ?_)
      clear hK K
      try simp only [Act.put, List.getElem_toArray, List.getElem_cons_succ, List.getElem_cons_zero, List.setIfInBounds_toArray, List.set_cons_zero, List.set_cons_succ]
      refine wpAnyH_take (i := 4) (v := ?v4_20) rfl (by kernel_rfl) (by kernel_rfl) (by kernel_rfl) (fun _ _ _ h => h) (Or.inl ⟨by rfl, ?y4_20⟩) (by assumption) ?r4_20
      case y4_20 => (intro w hSw; (try dsimp only at hSw); go_simp; first | done | with_reducible rfl)
      try simp only [Act.put, List.getElem_toArray, List.getElem_cons_succ, List.getElem_cons_zero, List.setIfInBounds_toArray, List.set_cons_zero, List.set_cons_succ]
      refine wpAnyH_take (i := 5) (v := ?v5_21) rfl (by kernel_rfl) (by kernel_rfl) (by kernel_rfl) (fun _ _ _ h => h) (Or.inl ⟨by rfl, ?y5_21⟩) (by assumption) ?r5_21
      case y5_21 => (intro w hSw; (try dsimp only at hSw); go_simp; first | done | with_reducible rfl)
      try simp only [Act.put, List.getElem_toArray, List.getElem_cons_succ, List.getElem_cons_zero, List.setIfInBounds_toArray, List.set_cons_zero, List.set_cons_succ]
      refine wpAnyH_take (i := 6) (v := ?v6_22) rfl (by kernel_rfl) (by kernel_rfl) (by kernel_rfl) (fun _ _ _ h => h) (Or.inl ⟨by rfl, ?y6_22⟩) (by assumption) ?r6_22
      case y6_22 => (intro w hSw; (try dsimp only at hSw); go_simp; first | done | with_reducible rfl)
      try simp only [Act.put, List.getElem_toArray, List.getElem_cons_succ, List.getElem_cons_zero, List.setIfInBounds_toArray, List.set_cons_zero, List.set_cons_succ]
      refine wpAnyH_ready (rs := [7]) (by kernel_rfl) (by simp) ?_
      refine AllReadyH.cons rfl (fun K hK => ?_) AllReadyH.nil
      go_simp
      with_reducible refine (parse27 _ _ _).mono ?_
      rintro ev x7 ⟨v7, rfl, ch7, k9⟩
      have KC := Lib.hid (KC.out.trans' k9)
      have HA := Lib.hid (HA.out.kept k9 (fun f => f))
      have CH := Lib.hid ch7
      clear ch7 k9
      try dsimp only
      refine hK.out _ _ (KC.out) (fun hHeld => ?_)
      clear hK K
      try simp only [Act.put, List.getElem_toArray, List.getElem_cons_succ, List.getElem_cons_zero, List.setIfInBounds_toArray, List.set_cons_zero, List.set_cons_succ]
      refine wpAnyH_take (i := 8) (v := ?v8_23) rfl (by kernel_rfl) (by kernel_rfl) (by kernel_rfl) (fun _ _ _ h => h) (Or.inl ⟨by rfl, ?y8_23⟩) (by assumption) ?r8_23
      case y8_23 => (intro w hSw; (try dsimp only at hSw); go_simp; first | done | with_reducible rfl)
      try simp only [Act.put, List.getElem_toArray, List.getElem_cons_succ, List.getElem_cons_zero, List.setIfInBounds_toArray, List.set_cons_zero, List.set_cons_succ]
      refine wpAnyH_take (i := 9) (v := ?v9_24) rfl (by kernel_rfl) (by kernel_rfl) (by kernel_rfl) (fun _ _ _ h => h) (Or.inl ⟨by rfl, ?y9_24⟩) (by assumption) ?r9_24
      case y9_24 => (intro w hSw; (try dsimp only at hSw); go_simp; first | done | with_reducible rfl)
      try simp only [Act.put, List.getElem_toArray, List.getElem_cons_succ, List.getElem_cons_zero, List.setIfInBounds_toArray, List.set_cons_zero, List.set_cons_succ]
      refine wpAnyH_take (i := 10) (v := ?v10_25) rfl (by kernel_rfl) (by kernel_rfl) (by kernel_rfl) (fun _ _ _ h => h) (Or.inl ⟨by rfl, ?y10_25⟩) (by assumption) ?r10_25
      case y10_25 => (intro w hSw; (try dsimp only at hSw); go_simp; first | done | with_reducible rfl)
      try simp only [Act.put, List.getElem_toArray, List.getElem_cons_succ, List.getElem_cons_zero, List.setIfInBounds_toArray, List.set_cons_zero, List.set_cons_succ]
      refine wpAnyH_ready (rs := [12]) (by kernel_rfl) (by simp) ?_
      refine AllReadyH.cons rfl (fun K hK => ?_) AllReadyH.nil
      rw [if_pos (by rfl)]
      refine wp_store_row 44 (.tmp 4) (.tmp 26) (by rfl) (w4.heap.size) #[.int .i64 0, .int .u8 0, .int .u8 0, .int .u8 0, .int .u8 0, .int .u8 0, .int .u8 0, .int .u32 0, .int .u8 0, .int .u8 0, .int .u8 0, .int .u8 0, .int .u8 0, .int .u8 0, .int .u32 0] (by rfl) (by rfl) 44 #[.int .i64 0, .int .u8 0, .int .u8 0, .int .u8 0, .int .u8 0, .int .u8 0, .int .u8 0, .int .u32 0, .int .u8 0, .int .u8 0, .int .u8 0, .int .u8 0, .int .u8 0, .int .u8 0, .int .u32 0] HA.out hi44' rfl (by simp [Value.oneCell']) ?_
      have CH := Lib.hid (CH.out.kept (Kp.setRow (S := fun b => b = w4.heap.size) (Kp.refl _ _) (.inl rfl) #[.int .i64 0, .int .u8 0, .int .u8 0, .int .u8 0, .int .u8 0, .int .u8 0, .int .u8 0, .int .u32 0, .int .u8 0, .int .u8 0, .int .u8 0, .int .u8 0, .int .u8 0, .int .u8 0, .int .u32 0]) (fun k cs h2 h3 => by subst h3; exact Bk.ne_of h2 HA.out (by decide) rfl))
      have KC := Lib.hid (KC.out.setRow (.inr HG.out) #[.int .i64 0, .int .u8 0, .int .u8 0, .int .u8 0, .int .u8 0, .int .u8 0, .int .u8 0, .int .u32 0, .int .u8 0, .int .u8 0, .int .u8 0, .int .u8 0, .int .u8 0, .int .u8 0, .int .u32 0])
      refine hK.out _ _ (KC.out) (fun hHeld => ?_)
      clear hK K
      try simp only [Act.put, List.getElem_toArray, List.getElem_cons_succ, List.getElem_cons_zero, List.setIfInBounds_toArray, List.set_cons_zero, List.set_cons_succ]
      refine wpAnyH_take (i := 13) (v := ?v13_26) rfl (by kernel_rfl) (by kernel_rfl) (by kernel_rfl) (fun _ _ _ h => h) (Or.inl ⟨by rfl, ?y13_26⟩) (by assumption) ?r13_26
      case y13_26 => (intro w hSw; (try dsimp only at hSw); go_simp; first | done | with_reducible rfl)
      try simp only [Act.put, List.getElem_toArray, List.getElem_cons_succ, List.getElem_cons_zero, List.setIfInBounds_toArray, List.set_cons_zero, List.set_cons_succ]
      refine wpAnyH_done (by kernel_rfl) ?_ _
      go_wp2_with fail
      go_meet
      exact ⟨CH.out, KC.out⟩
  case rest =>
  as_aux_lemma =>
  obtain ⟨c5, k5⟩ := hcut
  have K := Lib.hid (K.out.trans' k5)
  have E := Lib.hid (E.out.kept k5 (fun f => f))
  have B1 := Lib.hid (B1.out.kept k5 (fun f => f))
  have B2 := Lib.hid (B2.out.kept k5 (fun f => f))
  have C5 := Lib.hid c5
  clear k5
  obtain ⟨x5, rfl⟩ := chain_if c5
  clear c5
  go_wp2_with
    (at_make
     go_must (refine wpList_make_full _ rfl _ _ 38 rfl 0 5 i0 (.int .u8 0) 1 Tryd.underlying38 hi0 hz0 hz1 .i64 .i64 28 28 28 rfl rfl (by omega) (by omega) (by omega) (by unfold maxLen; omega) (by omega) ?_)
     intro w5 hown5 hgrow5
     have k6 := (Kp.refl (fun _ => False) wc).grown hgrow5 (fun j hj => by cases hj)
     rw [made_u8 28] at hown5
     have R5 := Lib.hid (own_rd hown5)
     have K := Lib.hid (K.out.trans' k6)
     have E := Lib.hid (E.out.kept k6 (fun f => f))
     have B1 := Lib.hid (B1.out.kept k6 (fun f => f))
     have B2 := Lib.hid (B2.out.kept k6 (fun f => f))
     have C5 := Lib.hid (C5.out.none_kept k6)
     clear hown5 hgrow5 k6)
  refine (parsez wc.heap.size 28 _ R5.out (by omega)).mono ?_
  rintro ev w6 ⟨v6, rfl, c6, k6⟩
  obtain ⟨x6, rfl⟩ := chain_if c6
  have kA := k6.alloc (.cells #[.int .i64 0, .int .u8 0, .int .u8 0, .int .u8 0, .int .u8 0, .int .u8 0, .int .u8 0, .int .u32 0, .int .u8 0, .int .u8 0, .int .u8 0, .int .u8 0, .int .u8 0, .int .u8 0, .int .u32 0] 44)
  have C6 := Lib.hid (c6.none_kept ((Kp.refl (fun _ => False) w6).alloc (.cells #[.int .i64 0, .int .u8 0, .int .u8 0, .int .u8 0, .int .u8 0, .int .u8 0, .int .u8 0, .int .u32 0, .int .u8 0, .int .u8 0, .int .u8 0, .int .u8 0, .int .u8 0, .int .u8 0, .int .u32 0] 44)))
  have K := Lib.hid (K.out.trans' kA)
  have E := Lib.hid (E.out.kept kA (fun f => f))
  have B1 := Lib.hid (B1.out.kept kA (fun f => f))
  have B2 := Lib.hid (B2.out.kept kA (fun f => f))
  have C5 := Lib.hid (C5.out.none_kept kA)
  clear k6 kA c6 R5
  have q0 : (w6.alloc (.cells #[.int .i64 0, .int .u8 0, .int .u8 0, .int .u8 0, .int .u8 0, .int .u8 0, .int .u8 0, .int .u32 0, .int .u8 0, .int .u8 0, .int .u8 0, .int .u8 0, .int .u8 0, .int .u8 0, .int .u32 0] 44)).cell? ⟨w1.heap.size, 0, none⟩ = some (Value.int .i64 1) := B1.out.cell 0
  have q1 : (w6.alloc (.cells #[.int .i64 0, .int .u8 0, .int .u8 0, .int .u8 0, .int .u8 0, .int .u8 0, .int .u8 0, .int .u32 0, .int .u8 0, .int .u8 0, .int .u8 0, .int .u8 0, .int .u8 0, .int .u8 0, .int .u32 0] 44)).cell? ⟨w1.heap.size, 1, none⟩ = some (Value.int .u8 2) := B1.out.cell 1
  have q2 : (w6.alloc (.cells #[.int .i64 0, .int .u8 0, .int .u8 0, .int .u8 0, .int .u8 0, .int .u8 0, .int .u8 0, .int .u32 0, .int .u8 0, .int .u8 0, .int .u8 0, .int .u8 0, .int .u8 0, .int .u8 0, .int .u32 0] 44)).cell? ⟨w1.heap.size, 2, none⟩ = some (Value.int .u8 0) := B1.out.cell 2
  have q3 : (w6.alloc (.cells #[.int .i64 0, .int .u8 0, .int .u8 0, .int .u8 0, .int .u8 0, .int .u8 0, .int .u8 0, .int .u32 0, .int .u8 0, .int .u8 0, .int .u8 0, .int .u8 0, .int .u8 0, .int .u8 0, .int .u32 0] 44)).cell? ⟨w1.heap.size, 3, none⟩ = some (Value.int .u8 0) := B1.out.cell 3
  have q4 : (w6.alloc (.cells #[.int .i64 0, .int .u8 0, .int .u8 0, .int .u8 0, .int .u8 0, .int .u8 0, .int .u8 0, .int .u32 0, .int .u8 0, .int .u8 0, .int .u8 0, .int .u8 0, .int .u8 0, .int .u8 0, .int .u32 0] 44)).cell? ⟨w1.heap.size, 4, none⟩ = some (Value.int .u8 0) := B1.out.cell 4
  have q5 : (w6.alloc (.cells #[.int .i64 0, .int .u8 0, .int .u8 0, .int .u8 0, .int .u8 0, .int .u8 0, .int .u8 0, .int .u32 0, .int .u8 0, .int .u8 0, .int .u8 0, .int .u8 0, .int .u8 0, .int .u8 0, .int .u32 0] 44)).cell? ⟨w1.heap.size, 5, none⟩ = some (Value.int .u8 0) := B1.out.cell 5
  have q6 : (w6.alloc (.cells #[.int .i64 0, .int .u8 0, .int .u8 0, .int .u8 0, .int .u8 0, .int .u8 0, .int .u8 0, .int .u32 0, .int .u8 0, .int .u8 0, .int .u8 0, .int .u8 0, .int .u8 0, .int .u8 0, .int .u32 0] 44)).cell? ⟨w1.heap.size, 6, none⟩ = some (Value.int .u8 0) := B1.out.cell 6
  have q7 : (w6.alloc (.cells #[.int .i64 0, .int .u8 0, .int .u8 0, .int .u8 0, .int .u8 0, .int .u8 0, .int .u8 0, .int .u32 0, .int .u8 0, .int .u8 0, .int .u8 0, .int .u8 0, .int .u8 0, .int .u8 0, .int .u32 0] 44)).cell? ⟨w1.heap.size, 7, none⟩ = some (Value.int .u32 167772161) := B1.out.cell 7
  have q8 : (w6.alloc (.cells #[.int .i64 0, .int .u8 0, .int .u8 0, .int .u8 0, .int .u8 0, .int .u8 0, .int .u8 0, .int .u32 0, .int .u8 0, .int .u8 0, .int .u8 0, .int .u8 0, .int .u8 0, .int .u8 0, .int .u32 0] 44)).cell? ⟨w1.heap.size, 8, none⟩ = some (Value.int .u8 0) := B1.out.cell 8
  have q9 : (w6.alloc (.cells #[.int .i64 0, .int .u8 0, .int .u8 0, .int .u8 0, .int .u8 0, .int .u8 0, .int .u8 0, .int .u32 0, .int .u8 0, .int .u8 0, .int .u8 0, .int .u8 0, .int .u8 0, .int .u8 0, .int .u32 0] 44)).cell? ⟨w1.heap.size, 9, none⟩ = some (Value.int .u8 0) := B1.out.cell 9
  have q10 : (w6.alloc (.cells #[.int .i64 0, .int .u8 0, .int .u8 0, .int .u8 0, .int .u8 0, .int .u8 0, .int .u8 0, .int .u32 0, .int .u8 0, .int .u8 0, .int .u8 0, .int .u8 0, .int .u8 0, .int .u8 0, .int .u32 0] 44)).cell? ⟨w1.heap.size, 10, none⟩ = some (Value.int .u8 0) := B1.out.cell 10
  have q11 : (w6.alloc (.cells #[.int .i64 0, .int .u8 0, .int .u8 0, .int .u8 0, .int .u8 0, .int .u8 0, .int .u8 0, .int .u32 0, .int .u8 0, .int .u8 0, .int .u8 0, .int .u8 0, .int .u8 0, .int .u8 0, .int .u32 0] 44)).cell? ⟨w1.heap.size, 11, none⟩ = some (Value.int .u8 0) := B1.out.cell 11
  have q12 : (w6.alloc (.cells #[.int .i64 0, .int .u8 0, .int .u8 0, .int .u8 0, .int .u8 0, .int .u8 0, .int .u8 0, .int .u32 0, .int .u8 0, .int .u8 0, .int .u8 0, .int .u8 0, .int .u8 0, .int .u8 0, .int .u32 0] 44)).cell? ⟨w1.heap.size, 12, none⟩ = some (Value.int .u8 0) := B1.out.cell 12
  have q13 : (w6.alloc (.cells #[.int .i64 0, .int .u8 0, .int .u8 0, .int .u8 0, .int .u8 0, .int .u8 0, .int .u8 0, .int .u32 0, .int .u8 0, .int .u8 0, .int .u8 0, .int .u8 0, .int .u8 0, .int .u8 0, .int .u32 0] 44)).cell? ⟨w1.heap.size, 13, none⟩ = some (Value.int .u8 0) := B1.out.cell 13
  have q14 : (w6.alloc (.cells #[.int .i64 0, .int .u8 0, .int .u8 0, .int .u8 0, .int .u8 0, .int .u8 0, .int .u8 0, .int .u32 0, .int .u8 0, .int .u8 0, .int .u8 0, .int .u8 0, .int .u8 0, .int .u8 0, .int .u32 0] 44)).cell? ⟨w1.heap.size, 14, none⟩ = some (Value.int .u32 167772162) := B1.out.cell 14
  go_wp2_with fail
  refine (tell0 _).mono ?_
  rintro ev w7 ⟨rfl, k7⟩
  have kA := k7.alloc (.cells #[.int .i64 2, .int .u8 4, .int .u8 0, .int .u8 0, .int .u8 0, .int .u8 0, .int .u8 0, .int .u32 167772162, .int .u8 2, .int .u8 0, .int .u8 0, .int .u8 0, .int .u8 0, .int .u8 0, .int .u32 167772161] 44)
  have K := Lib.hid (K.out.trans' kA)
  have E := Lib.hid (E.out.kept kA (fun f => f))
  have B1 := Lib.hid (B1.out.kept kA (fun f => f))
  have B2 := Lib.hid (B2.out.kept kA (fun f => f))
  have C5 := Lib.hid (C5.out.none_kept kA)
  have C6 := Lib.hid (C6.out.none_kept kA)
  have B8 := Lib.hid (Bk.new w7 44 #[.int .i64 2, .int .u8 4, .int .u8 0, .int .u8 0, .int .u8 0, .int .u8 0, .int .u8 0, .int .u32 167772162, .int .u8 2, .int .u8 0, .int .u8 0, .int .u8 0, .int .u8 0, .int .u8 0, .int .u32 167772161])
  clear q0 q1 q2 q3 q4 q5 q6 q7 q8 q9 q10 q11 q12 q13 q14
  clear k7 kA
  have q0 : (w7.alloc (.cells #[.int .i64 2, .int .u8 4, .int .u8 0, .int .u8 0, .int .u8 0, .int .u8 0, .int .u8 0, .int .u32 167772162, .int .u8 2, .int .u8 0, .int .u8 0, .int .u8 0, .int .u8 0, .int .u8 0, .int .u32 167772161] 44)).cell? ⟨w1.heap.size, 0, none⟩ = some (Value.int .i64 1) := B1.out.cell 0
  have q1 : (w7.alloc (.cells #[.int .i64 2, .int .u8 4, .int .u8 0, .int .u8 0, .int .u8 0, .int .u8 0, .int .u8 0, .int .u32 167772162, .int .u8 2, .int .u8 0, .int .u8 0, .int .u8 0, .int .u8 0, .int .u8 0, .int .u32 167772161] 44)).cell? ⟨w1.heap.size, 1, none⟩ = some (Value.int .u8 2) := B1.out.cell 1
  have q2 : (w7.alloc (.cells #[.int .i64 2, .int .u8 4, .int .u8 0, .int .u8 0, .int .u8 0, .int .u8 0, .int .u8 0, .int .u32 167772162, .int .u8 2, .int .u8 0, .int .u8 0, .int .u8 0, .int .u8 0, .int .u8 0, .int .u32 167772161] 44)).cell? ⟨w1.heap.size, 2, none⟩ = some (Value.int .u8 0) := B1.out.cell 2
  have q3 : (w7.alloc (.cells #[.int .i64 2, .int .u8 4, .int .u8 0, .int .u8 0, .int .u8 0, .int .u8 0, .int .u8 0, .int .u32 167772162, .int .u8 2, .int .u8 0, .int .u8 0, .int .u8 0, .int .u8 0, .int .u8 0, .int .u32 167772161] 44)).cell? ⟨w1.heap.size, 3, none⟩ = some (Value.int .u8 0) := B1.out.cell 3
  have q4 : (w7.alloc (.cells #[.int .i64 2, .int .u8 4, .int .u8 0, .int .u8 0, .int .u8 0, .int .u8 0, .int .u8 0, .int .u32 167772162, .int .u8 2, .int .u8 0, .int .u8 0, .int .u8 0, .int .u8 0, .int .u8 0, .int .u32 167772161] 44)).cell? ⟨w1.heap.size, 4, none⟩ = some (Value.int .u8 0) := B1.out.cell 4
  have q5 : (w7.alloc (.cells #[.int .i64 2, .int .u8 4, .int .u8 0, .int .u8 0, .int .u8 0, .int .u8 0, .int .u8 0, .int .u32 167772162, .int .u8 2, .int .u8 0, .int .u8 0, .int .u8 0, .int .u8 0, .int .u8 0, .int .u32 167772161] 44)).cell? ⟨w1.heap.size, 5, none⟩ = some (Value.int .u8 0) := B1.out.cell 5
  have q6 : (w7.alloc (.cells #[.int .i64 2, .int .u8 4, .int .u8 0, .int .u8 0, .int .u8 0, .int .u8 0, .int .u8 0, .int .u32 167772162, .int .u8 2, .int .u8 0, .int .u8 0, .int .u8 0, .int .u8 0, .int .u8 0, .int .u32 167772161] 44)).cell? ⟨w1.heap.size, 6, none⟩ = some (Value.int .u8 0) := B1.out.cell 6
  have q7 : (w7.alloc (.cells #[.int .i64 2, .int .u8 4, .int .u8 0, .int .u8 0, .int .u8 0, .int .u8 0, .int .u8 0, .int .u32 167772162, .int .u8 2, .int .u8 0, .int .u8 0, .int .u8 0, .int .u8 0, .int .u8 0, .int .u32 167772161] 44)).cell? ⟨w1.heap.size, 7, none⟩ = some (Value.int .u32 167772161) := B1.out.cell 7
  have q8 : (w7.alloc (.cells #[.int .i64 2, .int .u8 4, .int .u8 0, .int .u8 0, .int .u8 0, .int .u8 0, .int .u8 0, .int .u32 167772162, .int .u8 2, .int .u8 0, .int .u8 0, .int .u8 0, .int .u8 0, .int .u8 0, .int .u32 167772161] 44)).cell? ⟨w1.heap.size, 8, none⟩ = some (Value.int .u8 0) := B1.out.cell 8
  have q9 : (w7.alloc (.cells #[.int .i64 2, .int .u8 4, .int .u8 0, .int .u8 0, .int .u8 0, .int .u8 0, .int .u8 0, .int .u32 167772162, .int .u8 2, .int .u8 0, .int .u8 0, .int .u8 0, .int .u8 0, .int .u8 0, .int .u32 167772161] 44)).cell? ⟨w1.heap.size, 9, none⟩ = some (Value.int .u8 0) := B1.out.cell 9
  have q10 : (w7.alloc (.cells #[.int .i64 2, .int .u8 4, .int .u8 0, .int .u8 0, .int .u8 0, .int .u8 0, .int .u8 0, .int .u32 167772162, .int .u8 2, .int .u8 0, .int .u8 0, .int .u8 0, .int .u8 0, .int .u8 0, .int .u32 167772161] 44)).cell? ⟨w1.heap.size, 10, none⟩ = some (Value.int .u8 0) := B1.out.cell 10
  have q11 : (w7.alloc (.cells #[.int .i64 2, .int .u8 4, .int .u8 0, .int .u8 0, .int .u8 0, .int .u8 0, .int .u8 0, .int .u32 167772162, .int .u8 2, .int .u8 0, .int .u8 0, .int .u8 0, .int .u8 0, .int .u8 0, .int .u32 167772161] 44)).cell? ⟨w1.heap.size, 11, none⟩ = some (Value.int .u8 0) := B1.out.cell 11
  have q12 : (w7.alloc (.cells #[.int .i64 2, .int .u8 4, .int .u8 0, .int .u8 0, .int .u8 0, .int .u8 0, .int .u8 0, .int .u32 167772162, .int .u8 2, .int .u8 0, .int .u8 0, .int .u8 0, .int .u8 0, .int .u8 0, .int .u32 167772161] 44)).cell? ⟨w1.heap.size, 12, none⟩ = some (Value.int .u8 0) := B1.out.cell 12
  have q13 : (w7.alloc (.cells #[.int .i64 2, .int .u8 4, .int .u8 0, .int .u8 0, .int .u8 0, .int .u8 0, .int .u8 0, .int .u32 167772162, .int .u8 2, .int .u8 0, .int .u8 0, .int .u8 0, .int .u8 0, .int .u8 0, .int .u32 167772161] 44)).cell? ⟨w1.heap.size, 13, none⟩ = some (Value.int .u8 0) := B1.out.cell 13
  have q14 : (w7.alloc (.cells #[.int .i64 2, .int .u8 4, .int .u8 0, .int .u8 0, .int .u8 0, .int .u8 0, .int .u8 0, .int .u32 167772162, .int .u8 2, .int .u8 0, .int .u8 0, .int .u8 0, .int .u8 0, .int .u8 0, .int .u32 167772161] 44)).cell? ⟨w1.heap.size, 14, none⟩ = some (Value.int .u32 167772162) := B1.out.cell 14
  have r0 : (w7.alloc (.cells #[.int .i64 2, .int .u8 4, .int .u8 0, .int .u8 0, .int .u8 0, .int .u8 0, .int .u8 0, .int .u32 167772162, .int .u8 2, .int .u8 0, .int .u8 0, .int .u8 0, .int .u8 0, .int .u8 0, .int .u32 167772161] 44)).cell? ⟨w3.heap.size, 0, none⟩ = some (Value.int .i64 1) := B2.out.cell 0
  have r1 : (w7.alloc (.cells #[.int .i64 2, .int .u8 4, .int .u8 0, .int .u8 0, .int .u8 0, .int .u8 0, .int .u8 0, .int .u32 167772162, .int .u8 2, .int .u8 0, .int .u8 0, .int .u8 0, .int .u8 0, .int .u8 0, .int .u32 167772161] 44)).cell? ⟨w3.heap.size, 1, none⟩ = some (Value.int .u8 2) := B2.out.cell 1
  have r2 : (w7.alloc (.cells #[.int .i64 2, .int .u8 4, .int .u8 0, .int .u8 0, .int .u8 0, .int .u8 0, .int .u8 0, .int .u32 167772162, .int .u8 2, .int .u8 0, .int .u8 0, .int .u8 0, .int .u8 0, .int .u8 0, .int .u32 167772161] 44)).cell? ⟨w3.heap.size, 2, none⟩ = some (Value.int .u8 0) := B2.out.cell 2
  have r3 : (w7.alloc (.cells #[.int .i64 2, .int .u8 4, .int .u8 0, .int .u8 0, .int .u8 0, .int .u8 0, .int .u8 0, .int .u32 167772162, .int .u8 2, .int .u8 0, .int .u8 0, .int .u8 0, .int .u8 0, .int .u8 0, .int .u32 167772161] 44)).cell? ⟨w3.heap.size, 3, none⟩ = some (Value.int .u8 0) := B2.out.cell 3
  have r4 : (w7.alloc (.cells #[.int .i64 2, .int .u8 4, .int .u8 0, .int .u8 0, .int .u8 0, .int .u8 0, .int .u8 0, .int .u32 167772162, .int .u8 2, .int .u8 0, .int .u8 0, .int .u8 0, .int .u8 0, .int .u8 0, .int .u32 167772161] 44)).cell? ⟨w3.heap.size, 4, none⟩ = some (Value.int .u8 0) := B2.out.cell 4
  have r5 : (w7.alloc (.cells #[.int .i64 2, .int .u8 4, .int .u8 0, .int .u8 0, .int .u8 0, .int .u8 0, .int .u8 0, .int .u32 167772162, .int .u8 2, .int .u8 0, .int .u8 0, .int .u8 0, .int .u8 0, .int .u8 0, .int .u32 167772161] 44)).cell? ⟨w3.heap.size, 5, none⟩ = some (Value.int .u8 0) := B2.out.cell 5
  have r6 : (w7.alloc (.cells #[.int .i64 2, .int .u8 4, .int .u8 0, .int .u8 0, .int .u8 0, .int .u8 0, .int .u8 0, .int .u32 167772162, .int .u8 2, .int .u8 0, .int .u8 0, .int .u8 0, .int .u8 0, .int .u8 0, .int .u32 167772161] 44)).cell? ⟨w3.heap.size, 6, none⟩ = some (Value.int .u8 0) := B2.out.cell 6
  have r7 : (w7.alloc (.cells #[.int .i64 2, .int .u8 4, .int .u8 0, .int .u8 0, .int .u8 0, .int .u8 0, .int .u8 0, .int .u32 167772162, .int .u8 2, .int .u8 0, .int .u8 0, .int .u8 0, .int .u8 0, .int .u8 0, .int .u32 167772161] 44)).cell? ⟨w3.heap.size, 7, none⟩ = some (Value.int .u32 167772161) := B2.out.cell 7
  have r8 : (w7.alloc (.cells #[.int .i64 2, .int .u8 4, .int .u8 0, .int .u8 0, .int .u8 0, .int .u8 0, .int .u8 0, .int .u32 167772162, .int .u8 2, .int .u8 0, .int .u8 0, .int .u8 0, .int .u8 0, .int .u8 0, .int .u32 167772161] 44)).cell? ⟨w3.heap.size, 8, none⟩ = some (Value.int .u8 0) := B2.out.cell 8
  have r9 : (w7.alloc (.cells #[.int .i64 2, .int .u8 4, .int .u8 0, .int .u8 0, .int .u8 0, .int .u8 0, .int .u8 0, .int .u32 167772162, .int .u8 2, .int .u8 0, .int .u8 0, .int .u8 0, .int .u8 0, .int .u8 0, .int .u32 167772161] 44)).cell? ⟨w3.heap.size, 9, none⟩ = some (Value.int .u8 0) := B2.out.cell 9
  have r10 : (w7.alloc (.cells #[.int .i64 2, .int .u8 4, .int .u8 0, .int .u8 0, .int .u8 0, .int .u8 0, .int .u8 0, .int .u32 167772162, .int .u8 2, .int .u8 0, .int .u8 0, .int .u8 0, .int .u8 0, .int .u8 0, .int .u32 167772161] 44)).cell? ⟨w3.heap.size, 10, none⟩ = some (Value.int .u8 0) := B2.out.cell 10
  have r11 : (w7.alloc (.cells #[.int .i64 2, .int .u8 4, .int .u8 0, .int .u8 0, .int .u8 0, .int .u8 0, .int .u8 0, .int .u32 167772162, .int .u8 2, .int .u8 0, .int .u8 0, .int .u8 0, .int .u8 0, .int .u8 0, .int .u32 167772161] 44)).cell? ⟨w3.heap.size, 11, none⟩ = some (Value.int .u8 0) := B2.out.cell 11
  have r12 : (w7.alloc (.cells #[.int .i64 2, .int .u8 4, .int .u8 0, .int .u8 0, .int .u8 0, .int .u8 0, .int .u8 0, .int .u32 167772162, .int .u8 2, .int .u8 0, .int .u8 0, .int .u8 0, .int .u8 0, .int .u8 0, .int .u32 167772161] 44)).cell? ⟨w3.heap.size, 12, none⟩ = some (Value.int .u8 0) := B2.out.cell 12
  have r13 : (w7.alloc (.cells #[.int .i64 2, .int .u8 4, .int .u8 0, .int .u8 0, .int .u8 0, .int .u8 0, .int .u8 0, .int .u32 167772162, .int .u8 2, .int .u8 0, .int .u8 0, .int .u8 0, .int .u8 0, .int .u8 0, .int .u32 167772161] 44)).cell? ⟨w3.heap.size, 13, none⟩ = some (Value.int .u8 0) := B2.out.cell 13
  have r14 : (w7.alloc (.cells #[.int .i64 2, .int .u8 4, .int .u8 0, .int .u8 0, .int .u8 0, .int .u8 0, .int .u8 0, .int .u32 167772162, .int .u8 2, .int .u8 0, .int .u8 0, .int .u8 0, .int .u8 0, .int .u8 0, .int .u32 167772161] 44)).cell? ⟨w3.heap.size, 14, none⟩ = some (Value.int .u32 167772162) := B2.out.cell 14
  have heq : ∀ w, (binOp .eql 44 (.agg #[.int .i64 1, .int .u8 2, .int .u8 0, .int .u8 0, .int .u8 0, .int .u8 0, .int .u8 0, .int .u32 167772161, .int .u8 0, .int .u8 0, .int .u8 0, .int .u8 0, .int .u8 0, .int .u8 0, .int .u32 167772162]) (.agg #[.int .i64 1, .int .u8 2, .int .u8 0, .int .u8 0, .int .u8 0, .int .u8 0, .int .u8 0, .int .u32 167772161, .int .u8 0, .int .u8 0, .int .u8 0, .int .u8 0, .int .u8 0, .int .u8 0, .int .u32 167772162])).run Tryd.prog w = .ok (.bool true) w := fun w => by kernel_rfl
  go_wp2_with fail
  refine (whyIs_k [1] 12 12 _ _ C5.out).mono ?_
  rintro ev w8 ⟨rfl, k8⟩
  rw [show ((12 : Int) == 12) = true by decide]
  clear q0 q1 q2 q3 q4 q5 q6 q7 q8 q9 q10 q11 q12 q13 q14
  clear r0 r1 r2 r3 r4 r5 r6 r7 r8 r9 r10 r11 r12 r13 r14
  clear heq
  have K := Lib.hid (K.out.trans' k8)
  have E := Lib.hid (E.out.kept k8 (fun f => f))
  have B1 := Lib.hid (B1.out.kept k8 (fun f => f))
  have B2 := Lib.hid (B2.out.kept k8 (fun f => f))
  have C5 := Lib.hid (C5.out.none_kept k8)
  have C6 := Lib.hid (C6.out.none_kept k8)
  have B8 := Lib.hid (B8.out.kept k8 (fun f => f))
  clear k8
  go_wp2_with fail
  refine (whyIs_k [16] 14 14 _ _ C6.out).mono ?_
  rintro ev w9 ⟨rfl, k9⟩
  rw [show ((14 : Int) == 14) = true by decide]
  have K := Lib.hid (K.out.trans' k9)
  have E := Lib.hid (E.out.kept k9 (fun f => f))
  have B1 := Lib.hid (B1.out.kept k9 (fun f => f))
  have B2 := Lib.hid (B2.out.kept k9 (fun f => f))
  have C5 := Lib.hid (C5.out.none_kept k9)
  have C6 := Lib.hid (C6.out.none_kept k9)
  have B8 := Lib.hid (B8.out.kept k9 (fun f => f))
  clear k9
  go_wp2_with fail
  refine (wreason_any [16] 14 _ _ E.out C6.out).mono ?_
  rintro ev w10 ⟨rfl, k10⟩
  rw [show reasonOf [16] 14 = 16 by rfl]
  have K := Lib.hid (K.out.trans' k10)
  have E := Lib.hid (E.out.kept k10 (fun f => f))
  have B1 := Lib.hid (B1.out.kept k10 (fun f => f))
  have B2 := Lib.hid (B2.out.kept k10 (fun f => f))
  have C5 := Lib.hid (C5.out.none_kept k10)
  have C6 := Lib.hid (C6.out.none_kept k10)
  have B8 := Lib.hid (B8.out.kept k10 (fun f => f))
  clear k10
  have q0 : w10.cell? ⟨w7.heap.size, 0, none⟩ = some (Value.int .i64 2) := B8.out.cell 0
  have q1 : w10.cell? ⟨w7.heap.size, 1, none⟩ = some (Value.int .u8 4) := B8.out.cell 1
  have q2 : w10.cell? ⟨w7.heap.size, 2, none⟩ = some (Value.int .u8 0) := B8.out.cell 2
  have q3 : w10.cell? ⟨w7.heap.size, 3, none⟩ = some (Value.int .u8 0) := B8.out.cell 3
  have q4 : w10.cell? ⟨w7.heap.size, 4, none⟩ = some (Value.int .u8 0) := B8.out.cell 4
  have q5 : w10.cell? ⟨w7.heap.size, 5, none⟩ = some (Value.int .u8 0) := B8.out.cell 5
  have q6 : w10.cell? ⟨w7.heap.size, 6, none⟩ = some (Value.int .u8 0) := B8.out.cell 6
  have q7 : w10.cell? ⟨w7.heap.size, 7, none⟩ = some (Value.int .u32 167772162) := B8.out.cell 7
  have q8 : w10.cell? ⟨w7.heap.size, 8, none⟩ = some (Value.int .u8 2) := B8.out.cell 8
  have q9 : w10.cell? ⟨w7.heap.size, 9, none⟩ = some (Value.int .u8 0) := B8.out.cell 9
  have q10 : w10.cell? ⟨w7.heap.size, 10, none⟩ = some (Value.int .u8 0) := B8.out.cell 10
  have q11 : w10.cell? ⟨w7.heap.size, 11, none⟩ = some (Value.int .u8 0) := B8.out.cell 11
  have q12 : w10.cell? ⟨w7.heap.size, 12, none⟩ = some (Value.int .u8 0) := B8.out.cell 12
  have q13 : w10.cell? ⟨w7.heap.size, 13, none⟩ = some (Value.int .u8 0) := B8.out.cell 13
  have q14 : w10.cell? ⟨w7.heap.size, 14, none⟩ = some (Value.int .u32 167772161) := B8.out.cell 14
  have hm4 : ∀ w, (binOp .eql 41 (.agg #[.int .u8 4, .int .u8 0, .int .u8 0, .int .u8 0, .int .u8 0, .int .u8 0]) (.agg #[.int .u8 4, .int .u8 0, .int .u8 0, .int .u8 0, .int .u8 0, .int .u8 0])).run Tryd.prog w = .ok (.bool true) w := fun w => by kernel_rfl
  have hm2 : ∀ w, (binOp .eql 41 (.agg #[.int .u8 2, .int .u8 0, .int .u8 0, .int .u8 0, .int .u8 0, .int .u8 0]) (.agg #[.int .u8 2, .int .u8 0, .int .u8 0, .int .u8 0, .int .u8 0, .int .u8 0])).run Tryd.prog w = .ok (.bool true) w := fun w => by kernel_rfl
  go_wp2_with fail
  go_ret
  exact ⟨rfl, K.out⟩
end Go.Proofs.YtfhhmehlkjaibaaDoor
