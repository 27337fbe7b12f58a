/- Cache: Clone. Cache: the Ips of the entries in the order in which they were learned. Cache: All, an iterator. Cache: what each of its functions does, told of entries and rows. Cache: told, with where its tokens lie; append, with where the row lies. -/
import Derived.Test.YtgidjgkafbjkpaaGreatDoorCsw
import Derived.Test.YtgidjgkafbjkpaaGreatDoorWsm
import Derived.Test.YtgidjgkafbjkpaaGreatDoorCtk
import Derived.Maps.AppendAt
set_option linter.unusedVariables false
set_option linter.unusedSimpArgs false
namespace Go.Proofs.YtgidjgkafbjkpaaGreatDoor
open Go.RowKit Go.Shelf

theorem cmapsE (b c : Nat) (L : List Ent) (W : World) (h : UMap W b c L) :
    Calls Tryz.prog 39 #[.map (some b)] W fun ev w' => ∃ e, ev = .returned (.map (some e)) ∧ UMap w' e c L ∧ Kp (fun _ => False) W w' ∧ W.heap.size ≤ e := by
  have hc := AnyW.maps_Clone Tryz.cloneE b _ c W h.at_
  change Calls Tryz.prog 39 _ _ _ at hc
  refine hc.mono ?_
  rintro ev w' ⟨rfl, rfl⟩
  exact ⟨_, rfl, ⟨heap_alloc_new W _, h.keys, h.borns, h.below⟩, (Kp.refl _ W).alloc _, Nat.le_refl _⟩
theorem cmapsR (b c : Nat) (L : List Ent) (W : World) (h : UMap W b c L) :
    Calls Tryz.prog 40 #[.map (some b)] W fun ev w' => ∃ e, ev = .returned (.map (some e)) ∧ UMap w' e c L ∧ Kp (fun _ => False) W w' ∧ W.heap.size ≤ e := by
  have hc := AnyW.maps_Clone Tryz.cloneR b _ c W h.at_
  change Calls Tryz.prog 40 _ _ _ at hc
  refine hc.mono ?_
  rintro ev w' ⟨rfl, rfl⟩
  exact ⟨_, rfl, ⟨heap_alloc_new W _, h.keys, h.borns, h.below⟩, (Kp.refl _ W).alloc _, Nat.le_refl _⟩
def CS.dup (s : CS) (e r g1 g2 : Nat) (F1 F2 : Nat → Prop) : CS := { s with eb := e, rb := r, gl := g1, gw := g2, F1 := F1, F2 := F2 }
theorem cloned_cm {w w0 w1 w2 w3 w4 : World} {g g1 g2 e r : Nat} {s : CS} (h : CM w g s) (k0 : Kp (fun _ => False) w w0) (ue : UMap w1 e s.ec s.EL) (k1 : Kp (fun _ => False) w0 w1) (he : w0.heap.size ≤ e) (ur : UMap w2 r s.rc s.RL) (k2 : Kp (fun _ => False) w1 w2) (hr : w1.heap.size ≤ r)
    (h1 : Whl (fun b => w2.heap.size ≤ b) w3 g1 0 s.R1) (k3 : Kp (fun _ => False) w2 w3) (h2 : Whl (fun b => w3.heap.size ≤ b) w4 g2 0 s.R2) (k4 : Kp (fun _ => False) w3 w4) (cs : Array Value)
    (hcs : cs = CC (s.dup e r g1 g2 (fun b => w2.heap.size ≤ b ∧ b < w3.heap.size) (fun b => w3.heap.size ≤ b ∧ b < w4.heap.size))) :
    CM (w4.alloc (.cells cs 68)) w4.heap.size (s.dup e r g1 g2 (fun b => w2.heap.size ≤ b ∧ b < w3.heap.size) (fun b => w3.heap.size ≤ b ∧ b < w4.heap.size)) ∧ Kp (fun _ => False) w (w4.alloc (.cells cs 68)) ∧
      ∀ b, cfp w4.heap.size (s.dup e r g1 g2 (fun b => w2.heap.size ≤ b ∧ b < w3.heap.size) (fun b => w3.heap.size ≤ b ∧ b < w4.heap.size)) b → w.heap.size ≤ b := by
  have ka : Kp (fun _ => False) w4 (w4.alloc (.cells cs 68)) := (Kp.refl _ w4).alloc _
  have hk : Kp (fun _ => False) w (w4.alloc (.cells cs 68)) := ((((k0.trans' k1).trans' k2).trans' k3).trans' k4).trans' ka
  have s0 := k0.size
  have s1 := k1.size
  have s2 := k2.size
  have s3 := k3.size
  have s4 := k4.size
  have el := ue.lt
  have rl := ur.lt
  have bg := Bk.new w4 68 cs
  subst hcs
  have l1 : Whl (fun b => w2.heap.size ≤ b ∧ b < w3.heap.size) w3 g1 0 s.R1 := h1.mono (fun b hb hf => ⟨hf, hb⟩)
  have l2 : Whl (fun b => w3.heap.size ≤ b ∧ b < w4.heap.size) w4 g2 0 s.R2 := h2.mono (fun b hb hf => ⟨hf, hb⟩)
  refine ⟨⟨bg, ((((ue.kept k2 (fun f => f)).kept k3 (fun f => f)).kept k4 (fun f => f)).kept ka (fun f => f)), (((ur.kept k3 (fun f => f)).kept k4 (fun f => f)).kept ka (fun f => f)), h.eh, h.rh.mono (fun x _ v hv => hv.kp hk (fun _ _ _ f => f)), (l1.none_kept k4).none_kept ka, l2.none_kept ka, h.es, h.rs, h.er, h.rr, fun b hb => ?_, fun b hb => ?_, fun b hb hh => ?_, fun hh => ?_, fun hh => ?_, fun hh => ?_, fun hh => ?_, fun hh => ?_, fun hh => ?_, fun hh => ?_⟩, hk, ?_⟩
  · have := hb.2; simp only [World.size_alloc]; omega
  · have := hb.2; simp only [World.size_alloc]; omega
  · have := hb.2; have := hh.1; omega
  · have : w2.heap.size ≤ e := hh.1; omega
  · have : w3.heap.size ≤ e := hh.1; omega
  · have : w2.heap.size ≤ r := hh.1; omega
  · have : w3.heap.size ≤ r := hh.1; omega
  · have : e = r := hh; omega
  · have : w4.heap.size < w3.heap.size := hh.2; omega
  · have : w4.heap.size < w4.heap.size := hh.2; omega
  · rintro b (hb | hb | hb | hb | hb)
    · omega
    · have : b = e := hb; omega
    · have : b = r := hb; omega
    · have := hb.1; omega
    · have := hb.1; omega
set_option maxRecDepth 1000000 in
set_option maxHeartbeats 16000000 in
/-- Clone. -/
theorem cdup (g : Nat) (s : CS) (w : World) (h : CM w g s) :
    Calls Tryz.prog 19 #[.pointer (some ⟨g, 0, none⟩)] w fun ev w' => ∃ g' e r g1 g2 F1 F2, ev = .returned (.pointer (some ⟨g', 0, none⟩)) ∧ CM w' g' (s.dup e r g1 g2 F1 F2) ∧ Kp (fun _ => False) w w' ∧ ∀ b, cfp g' (s.dup e r g1 g2 F1 F2) b → w.heap.size ≤ b := by
  have H := Lib.hid h
  have C0 := Lib.hid (show w.cell? ⟨g, 0, none⟩ = some (.int .i64 (s.room : Int)) from (h.bk.cell 0).trans rfl)
  have C1 := Lib.hid (show w.cell? ⟨g, 1, none⟩ = some (.int .i64 (s.wait : Int)) from (h.bk.cell 1).trans rfl)
  have C2 := Lib.hid (show w.cell? ⟨g, 2, none⟩ = some (.int .u64 (s.life : Int)) from (h.bk.cell 2).trans rfl)
  have C3 := Lib.hid (show w.cell? ⟨g, 3, none⟩ = some (.int .u64 (s.pat : Int)) from (h.bk.cell 3).trans rfl)
  have C4 := Lib.hid (show w.cell? ⟨g, 4, none⟩ = some (.map (some s.eb)) from (h.bk.cell 4).trans rfl)
  have C5 := Lib.hid (show w.cell? ⟨g, 5, none⟩ = some (.map (some s.rb)) from (h.bk.cell 5).trans rfl)
  have C6 := Lib.hid (show w.cell? ⟨g, 6, none⟩ = some (.pointer (some ⟨s.gl, 0, none⟩)) from (h.bk.cell 6).trans rfl)
  have C7 := Lib.hid (show w.cell? ⟨g, 7, none⟩ = some (.pointer (some ⟨s.gw, 0, none⟩)) from (h.bk.cell 7).trans rfl)
  have C8 := Lib.hid (show w.cell? ⟨g, 8, none⟩ = some (.int .i64 (s.count : Int)) from (h.bk.cell 8).trans rfl)
  have KC := Lib.hid ((Kp.refl (fun _ => False) w).drew)
  have KS := Lib.hid ((Kp.refl (fun _ => False) w).drew)
  clear h
  go_enter Tryz.func19, Tryz.ntmps19
  go_wp2_with fail
  refine wp_region_held_drew (S := (fun w' => Kp (fun _ => False) w w')) (by kernel_rfl) (KC.out) (fun hHeld => ?_)
  refine wpAnyH_take (i := 0) (v := ?v0_0) rfl (by kernel_rfl) (by kernel_rfl) (by kernel_rfl) (fun _ _ _ h => h) (Or.inl ⟨by rfl, ?y0_0⟩) (by assumption) ?r0_0
  case y0_0 => (intro w hSw; (try dsimp only at hSw); go_simp; first | done | with_reducible rfl)
  try simp only [Act.put, List.getElem_toArray, List.getElem_cons_succ, List.getElem_cons_zero, List.setIfInBounds_toArray, List.set_cons_zero, List.set_cons_succ]
  refine wpAnyH_take (i := 1) (v := ?v1_1) rfl (by kernel_rfl) (by kernel_rfl) (by kernel_rfl) (fun _ _ _ h => h) (Or.inl ⟨by rfl, ?y1_1⟩) (by assumption) ?r1_1
  case y1_1 => (intro w hSw; (try dsimp only at hSw); go_simp; first | done | with_reducible rfl)
  try simp only [Act.put, List.getElem_toArray, List.getElem_cons_succ, List.getElem_cons_zero, List.setIfInBounds_toArray, List.set_cons_zero, List.set_cons_succ]
  refine wpAnyH_take (i := 2) (v := ?v2_2) rfl (by kernel_rfl) (by kernel_rfl) (by kernel_rfl) (fun _ _ _ h => h) (Or.inl ⟨by rfl, ?y2_2⟩) (by assumption) ?r2_2
  case y2_2 => (intro w hSw; (try dsimp only at hSw); go_simp; first | done | with_reducible rfl)
  try simp only [Act.put, List.getElem_toArray, List.getElem_cons_succ, List.getElem_cons_zero, List.setIfInBounds_toArray, List.set_cons_zero, List.set_cons_succ]
  refine wpAnyH_take (i := 3) (v := ?v3_3) rfl (by kernel_rfl) (by kernel_rfl) (by kernel_rfl) (fun _ _ _ h => h) (Or.inl ⟨by rfl, ?y3_3⟩) (by assumption) ?r3_3
  case y3_3 => (intro w hSw; (try dsimp only at hSw); have d0 := kp_kc0 C0.out hSw; have d1 := kp_kc0 C1.out hSw; have d2 := kp_kc0 C2.out hSw; have d3 := kp_kc0 C3.out hSw; go_simp; first | done | with_reducible rfl)
  try simp only [Act.put, List.getElem_toArray, List.getElem_cons_succ, List.getElem_cons_zero, List.setIfInBounds_toArray, List.set_cons_zero, List.set_cons_succ]
  refine wpAnyH_take (i := 4) (v := ?v4_4) rfl (by kernel_rfl) (by kernel_rfl) (by kernel_rfl) (fun _ _ _ h => h) (Or.inl ⟨by rfl, ?y4_4⟩) (by assumption) ?r4_4
  case y4_4 => (intro w hSw; (try dsimp only at hSw); go_simp; first | done | with_reducible rfl)
  try simp only [Act.put, List.getElem_toArray, List.getElem_cons_succ, List.getElem_cons_zero, List.setIfInBounds_toArray, List.set_cons_zero, List.set_cons_succ]
  refine wpAnyH_take (i := 5) (v := ?v5_5) rfl (by kernel_rfl) (by kernel_rfl) (by kernel_rfl) (fun _ _ _ h => h) (Or.inl ⟨by rfl, ?y5_5⟩) (by assumption) ?r5_5
  case y5_5 => (intro w hSw; (try dsimp only at hSw); go_simp; first | done | with_reducible rfl)
  try simp only [Act.put, List.getElem_toArray, List.getElem_cons_succ, List.getElem_cons_zero, List.setIfInBounds_toArray, List.set_cons_zero, List.set_cons_succ]
  refine wpAnyH_take (i := 6) (v := ?v6_6) rfl (by kernel_rfl) (by kernel_rfl) (by kernel_rfl) (fun _ _ _ h => h) (Or.inl ⟨by rfl, ?y6_6⟩) (by assumption) ?r6_6
  case y6_6 => (intro w hSw; (try dsimp only at hSw); go_simp; first | done | with_reducible rfl)
  try simp only [Act.put, List.getElem_toArray, List.getElem_cons_succ, List.getElem_cons_zero, List.setIfInBounds_toArray, List.set_cons_zero, List.set_cons_succ]
  refine wpAnyH_take (i := 7) (v := ?v7_7) rfl (by kernel_rfl) (by kernel_rfl) (by kernel_rfl) (fun _ _ _ h => h) (Or.inl ⟨by rfl, ?y7_7⟩) (by assumption) ?r7_7
  case y7_7 => (intro w hSw; (try dsimp only at hSw); have d4 := kp_kc0 C4.out hSw; go_simp; first | done | with_reducible rfl)
  try simp only [Act.put, List.getElem_toArray, List.getElem_cons_succ, List.getElem_cons_zero, List.setIfInBounds_toArray, List.set_cons_zero, List.set_cons_succ]
  refine wpAnyH_take (i := 9) (v := ?v9_8) rfl (by kernel_rfl) (by kernel_rfl) (by kernel_rfl) (fun _ _ _ h => h) (Or.inl ⟨by rfl, ?y9_8⟩) (by assumption) ?r9_8
  case y9_8 => (intro w hSw; (try dsimp only at hSw); go_simp; first | done | with_reducible rfl)
  try simp only [Act.put, List.getElem_toArray, List.getElem_cons_succ, List.getElem_cons_zero, List.setIfInBounds_toArray, List.set_cons_zero, List.set_cons_succ]
  refine wpAnyH_take (i := 10) (v := ?v10_9) rfl (by kernel_rfl) (by kernel_rfl) (by kernel_rfl) (fun _ _ _ h => h) (Or.inl ⟨by rfl, ?y10_9⟩) (by assumption) ?r10_9
  case y10_9 => (intro w hSw; (try dsimp only at hSw); go_simp; first | done | with_reducible rfl)
  try simp only [Act.put, List.getElem_toArray, List.getElem_cons_succ, List.getElem_cons_zero, List.setIfInBounds_toArray, List.set_cons_zero, List.set_cons_succ]
  refine wpAnyH_take (i := 11) (v := ?v11_10) rfl (by kernel_rfl) (by kernel_rfl) (by kernel_rfl) (fun _ _ _ h => h) (Or.inl ⟨by rfl, ?y11_10⟩) (by assumption) ?r11_10
  case y11_10 => (intro w hSw; (try dsimp only at hSw); go_simp; first | done | with_reducible rfl)
  try simp only [Act.put, List.getElem_toArray, List.getElem_cons_succ, List.getElem_cons_zero, List.setIfInBounds_toArray, List.set_cons_zero, List.set_cons_succ]
  refine wpAnyH_take (i := 12) (v := ?v12_11) rfl (by kernel_rfl) (by kernel_rfl) (by kernel_rfl) (fun _ _ _ h => h) (Or.inl ⟨by rfl, ?y12_11⟩) (by assumption) ?r12_11
  case y12_11 => (intro w hSw; (try dsimp only at hSw); have d5 := kp_kc0 C5.out hSw; go_simp; first | done | with_reducible rfl)
  try simp only [Act.put, List.getElem_toArray, List.getElem_cons_succ, List.getElem_cons_zero, List.setIfInBounds_toArray, List.set_cons_zero, List.set_cons_succ]
  refine wpAnyH_take (i := 14) (v := ?v14_12) rfl (by kernel_rfl) (by kernel_rfl) (by kernel_rfl) (fun _ _ _ h => h) (Or.inl ⟨by rfl, ?y14_12⟩) (by assumption) ?r14_12
  case y14_12 => (intro w hSw; (try dsimp only at hSw); go_simp; first | done | with_reducible rfl)
  try simp only [Act.put, List.getElem_toArray, List.getElem_cons_succ, List.getElem_cons_zero, List.setIfInBounds_toArray, List.set_cons_zero, List.set_cons_succ]
  refine wpAnyH_take (i := 15) (v := ?v15_13) rfl (by kernel_rfl) (by kernel_rfl) (by kernel_rfl) (fun _ _ _ h => h) (Or.inl ⟨by rfl, ?y15_13⟩) (by assumption) ?r15_13
  case y15_13 => (intro w hSw; (try dsimp only at hSw); go_simp; first | done | with_reducible rfl)
  try simp only [Act.put, List.getElem_toArray, List.getElem_cons_succ, List.getElem_cons_zero, List.setIfInBounds_toArray, List.set_cons_zero, List.set_cons_succ]
  refine wpAnyH_take (i := 16) (v := ?v16_14) rfl (by kernel_rfl) (by kernel_rfl) (by kernel_rfl) (fun _ _ _ h => h) (Or.inl ⟨by rfl, ?y16_14⟩) (by assumption) ?r16_14
  case y16_14 => (intro w hSw; (try dsimp only at hSw); go_simp; first | done | with_reducible rfl)
  try simp only [Act.put, List.getElem_toArray, List.getElem_cons_succ, List.getElem_cons_zero, List.setIfInBounds_toArray, List.set_cons_zero, List.set_cons_succ]
  refine wpAnyH_take (i := 17) (v := ?v17_15) rfl (by kernel_rfl) (by kernel_rfl) (by kernel_rfl) (fun _ _ _ h => h) (Or.inl ⟨by rfl, ?y17_15⟩) (by assumption) ?r17_15
  case y17_15 => (intro w hSw; (try dsimp only at hSw); have d6 := kp_kc0 C6.out hSw; go_simp; first | done | with_reducible rfl)
  try simp only [Act.put, List.getElem_toArray, List.getElem_cons_succ, List.getElem_cons_zero, List.setIfInBounds_toArray, List.set_cons_zero, List.set_cons_succ]
  refine wpAnyH_take (i := 19) (v := ?v19_16) rfl (by kernel_rfl) (by kernel_rfl) (by kernel_rfl) (fun _ _ _ h => h) (Or.inl ⟨by rfl, ?y19_16⟩) (by assumption) ?r19_16
  case y19_16 => (intro w hSw; (try dsimp only at hSw); go_simp; first | done | with_reducible rfl)
  try simp only [Act.put, List.getElem_toArray, List.getElem_cons_succ, List.getElem_cons_zero, List.setIfInBounds_toArray, List.set_cons_zero, List.set_cons_succ]
  refine wpAnyH_take (i := 20) (v := ?v20_17) rfl (by kernel_rfl) (by kernel_rfl) (by kernel_rfl) (fun _ _ _ h => h) (Or.inl ⟨by rfl, ?y20_17⟩) (by assumption) ?r20_17
  case y20_17 => (intro w hSw; (try dsimp only at hSw); go_simp; first | done | with_reducible rfl)
  try simp only [Act.put, List.getElem_toArray, List.getElem_cons_succ, List.getElem_cons_zero, List.setIfInBounds_toArray, List.set_cons_zero, List.set_cons_succ]
  refine wpAnyH_take (i := 21) (v := ?v21_18) rfl (by kernel_rfl) (by kernel_rfl) (by kernel_rfl) (fun _ _ _ h => h) (Or.inl ⟨by rfl, ?y21_18⟩) (by assumption) ?r21_18
  case y21_18 => (intro w hSw; (try dsimp only at hSw); go_simp; first | done | with_reducible rfl)
  try simp only [Act.put, List.getElem_toArray, List.getElem_cons_succ, List.getElem_cons_zero, List.setIfInBounds_toArray, List.set_cons_zero, List.set_cons_succ]
  refine wpAnyH_take (i := 22) (v := ?v22_19) rfl (by kernel_rfl) (by kernel_rfl) (by kernel_rfl) (fun _ _ _ h => h) (Or.inl ⟨by rfl, ?y22_19⟩) (by assumption) ?r22_19
  case y22_19 => (intro w hSw; (try dsimp only at hSw); have d7 := kp_kc0 C7.out hSw; go_simp; first | done | with_reducible rfl)
  try simp only [Act.put, List.getElem_toArray, List.getElem_cons_succ, List.getElem_cons_zero, List.setIfInBounds_toArray, List.set_cons_zero, List.set_cons_succ]
  refine wpAnyH_take (i := 24) (v := ?v24_20) rfl (by kernel_rfl) (by kernel_rfl) (by kernel_rfl) (fun _ _ _ h => h) (Or.inl ⟨by rfl, ?y24_20⟩) (by assumption) ?r24_20
  case y24_20 => (intro w hSw; (try dsimp only at hSw); go_simp; first | done | with_reducible rfl)
  try simp only [Act.put, List.getElem_toArray, List.getElem_cons_succ, List.getElem_cons_zero, List.setIfInBounds_toArray, List.set_cons_zero, List.set_cons_succ]
  refine wpAnyH_take (i := 25) (v := ?v25_21) rfl (by kernel_rfl) (by kernel_rfl) (by kernel_rfl) (fun _ _ _ h => h) (Or.inl ⟨by rfl, ?y25_21⟩) (by assumption) ?r25_21
  case y25_21 => (intro w hSw; (try dsimp only at hSw); go_simp; first | done | with_reducible rfl)
  try simp only [Act.put, List.getElem_toArray, List.getElem_cons_succ, List.getElem_cons_zero, List.setIfInBounds_toArray, List.set_cons_zero, List.set_cons_succ]
  refine wpAnyH_take (i := 26) (v := ?v26_22) rfl (by kernel_rfl) (by kernel_rfl) (by kernel_rfl) (fun _ _ _ h => h) (Or.inl ⟨by rfl, ?y26_22⟩) (by assumption) ?r26_22
  case y26_22 => (intro w hSw; (try dsimp only at hSw); go_simp; first | done | with_reducible rfl)
  try simp only [Act.put, List.getElem_toArray, List.getElem_cons_succ, List.getElem_cons_zero, List.setIfInBounds_toArray, List.set_cons_zero, List.set_cons_succ]
  refine wpAnyH_take (i := 27) (v := ?v27_23) rfl (by kernel_rfl) (by kernel_rfl) (by kernel_rfl) (fun _ _ _ h => h) (Or.inl ⟨by rfl, ?y27_23⟩) (by assumption) ?r27_23
  case y27_23 => (intro w hSw; (try dsimp only at hSw); have d8 := kp_kc0 C8.out hSw; go_simp; first | done | with_reducible rfl)
  try simp only [Act.put, List.getElem_toArray, List.getElem_cons_succ, List.getElem_cons_zero, List.setIfInBounds_toArray, List.set_cons_zero, List.set_cons_succ]
  refine wpAnyH_ready (rs := [8]) (by kernel_rfl) (by simp) ?_
  refine AllReadyH.cons rfl (fun K hK => ?_) AllReadyH.nil
  go_simp
  with_reducible refine (cmapsE s.eb s.ec s.EL _ (H.out.em.kept KC.out (fun f => f))).mono ?_
  rintro ev w1 ⟨e, rfl, u1, k1, q1⟩
  have KC := Lib.hid (KC.out.trans' k1)
  have U1 := Lib.hid u1
  have K1 := Lib.hid k1
  clear u1 k1
  try dsimp only
  refine hK.out _ _ (KC.out) (fun hHeld => ?_)
  clear hK K
  try simp only [Act.put, List.getElem_toArray, List.getElem_cons_succ, List.getElem_cons_zero, List.setIfInBounds_toArray, List.set_cons_zero, List.set_cons_succ]
  refine wpAnyH_ready (rs := [13]) (by kernel_rfl) (by simp) ?_
  refine AllReadyH.cons rfl (fun K hK => ?_) AllReadyH.nil
  go_simp
  with_reducible refine (cmapsR s.rb s.rc s.RL _ (H.out.rm.kept KC.out (fun f => f))).mono ?_
  rintro ev w2 ⟨r, rfl, u2, k2, q2⟩
  have KC := Lib.hid (KC.out.trans' k2)
  have U2 := Lib.hid u2
  have K2 := Lib.hid k2
  clear u2 k2
  try dsimp only
  refine hK.out _ _ (KC.out) (fun hHeld => ?_)
  clear hK K
  try simp only [Act.put, List.getElem_toArray, List.getElem_cons_succ, List.getElem_cons_zero, List.setIfInBounds_toArray, List.set_cons_zero, List.set_cons_succ]
  refine wpAnyH_ready (rs := [18]) (by kernel_rfl) (by simp) ?_
  refine AllReadyH.cons rfl (fun K hK => ?_) AllReadyH.nil
  go_simp
  with_reducible refine (wclone s.F1 s.gl 0 s.R1 _ (H.out.lw.none_kept KC.out)).mono ?_
  rintro ev w3 ⟨g1, rfl, l3, k3⟩
  have KC := Lib.hid (KC.out.trans' k3)
  have L3 := Lib.hid l3
  have K3 := Lib.hid k3
  clear l3 k3
  try dsimp only
  refine hK.out _ _ (KC.out) (fun hHeld => ?_)
  clear hK K
  try simp only [Act.put, List.getElem_toArray, List.getElem_cons_succ, List.getElem_cons_zero, List.setIfInBounds_toArray, List.set_cons_zero, List.set_cons_succ]
  refine wpAnyH_ready (rs := [23]) (by kernel_rfl) (by simp) ?_
  refine AllReadyH.cons rfl (fun K hK => ?_) AllReadyH.nil
  go_simp
  with_reducible refine (wclone s.F2 s.gw 0 s.R2 _ (H.out.ww.none_kept KC.out)).mono ?_
  rintro ev w4 ⟨g2, rfl, l4, k4⟩
  have KC := Lib.hid (KC.out.trans' k4)
  have L4 := Lib.hid l4
  have K4 := Lib.hid k4
  clear l4 k4
  try dsimp only
  refine hK.out _ _ (KC.out) (fun hHeld => ?_)
  clear hK K
  try simp only [Act.put, List.getElem_toArray, List.getElem_cons_succ, List.getElem_cons_zero, List.setIfInBounds_toArray, List.set_cons_zero, List.set_cons_succ]
  refine wpAnyH_take (i := 28) (v := ?v28_24) rfl (by kernel_rfl) (by kernel_rfl) (by kernel_rfl) (fun _ _ _ h => h) (Or.inl ⟨by rfl, ?y28_24⟩) (by assumption) ?r28_24
  case y28_24 => (intro w hSw; (try dsimp only at hSw); go_simp; first | done | with_reducible rfl)
  try simp only [Act.put, List.getElem_toArray, List.getElem_cons_succ, List.getElem_cons_zero, List.setIfInBounds_toArray, List.set_cons_zero, List.set_cons_succ]
  refine wpAnyH_ready (rs := [29]) (by kernel_rfl) (by simp) ?_
  refine AllReadyH.cons rfl (fun K hK => ?_) AllReadyH.nil
  go_simp
  have P := Lib.hid (cloned_cm H.out KS.out U1.out K1.out q1 U2.out K2.out q2 L3.out K3.out L4.out K4.out _ rfl)
  have KC := Lib.hid (KC.out.alloc (.cells (CC (s.dup e r g1 g2 (fun b => w2.heap.size ≤ b ∧ b < w3.heap.size) (fun b => w3.heap.size ≤ b ∧ b < w4.heap.size))) 68))
  refine hK.out _ _ (KC.out) (fun hHeld => ?_)
  clear hK K
  try simp only [Act.put, List.getElem_toArray, List.getElem_cons_succ, List.getElem_cons_zero, List.setIfInBounds_toArray, List.set_cons_zero, List.set_cons_succ]
  refine wpAnyH_take (i := 30) (v := ?v30_25) rfl (by kernel_rfl) (by kernel_rfl) (by kernel_rfl) (fun _ _ _ h => h) (Or.inl ⟨by rfl, ?y30_25⟩) (by assumption) ?r30_25
  case y30_25 => (intro w hSw; (try dsimp only at hSw); go_simp; first | done | with_reducible rfl)
  try simp only [Act.put, List.getElem_toArray, List.getElem_cons_succ, List.getElem_cons_zero, List.setIfInBounds_toArray, List.set_cons_zero, List.set_cons_succ]
  refine wpAnyH_done (by kernel_rfl) ?_ _
  go_wp2_with fail
  exact bodyPost_ret (results_tmp rfl _ _ _) rfl ⟨_, _, _, _, _, _, _, rfl, P.out⟩
end Go.Proofs.YtgidjgkafbjkpaaGreatDoor
namespace Go.Proofs.YtgidjgkafbjkpaaGreatDoor
open Go.RowKit Go.Shelf Go.Sort

theorem HM.perm {β : Type} {T : It β → Value → Prop} {L : List Ent} {l : List (It β)} {n : Nat} (h : HM T L l) (hs : IS n l) (hk : (L.map Ent.k).Nodup) : (l.map (fun x => (x.ip : Int))).Perm (L.map Ent.k) := by
  refine nodup_perm ?_ hk (fun i => ?_)
  · have := hs.nd
    have e : l.map (fun x => (x.ip : Int)) = (l.map It.ip).map (fun i : Nat => (i : Int)) := by rw [List.map_map]; rfl
    rw [e]
    exact List.Pairwise.map _ (fun a b hab e => hab (by have e : (a : Int) = (b : Int) := e; omega)) this
  · simp only [List.mem_map]
    constructor
    · rintro ⟨x, hx, rfl⟩
      obtain ⟨v, hv, _⟩ := h.some_ x hx
      obtain ⟨e, he, hk, _⟩ := mget_mem hv
      exact ⟨e, he, hk⟩
    · rintro ⟨e, he, rfl⟩
      have hg := mget_of_mem hk he
      by_cases hx : ∀ x ∈ l, (x.ip : Int) ≠ e.k
      · rw [h.none_ _ hx] at hg; cases hg
      · obtain ⟨x, hx⟩ := Classical.not_forall.1 hx
        obtain ⟨hm, hk⟩ := Classical.not_imp.1 hx
        exact ⟨x, hm, Classical.not_not.1 hk⟩
theorem holds_of_block_u {w : World} {g : Nat} {cur : Array Value} {e : TypeId} {ss : List Int} (hb : w.heap[g]? = some (.cells cur e (0, 0))) (ht : cur.toList.take ss.length = ss.map encU) : Holds encU w g 0 ss.toArray := by
  intro j hj
  have hj' : j < ss.length := by simpa using hj
  refine ⟨?_, by simp [World.frozen?, hb]⟩
  have h1 : (cur.toList.take ss.length)[j]? = (ss.map encU)[j]? := by rw [ht]
  rw [List.getElem?_take_of_lt hj'] at h1
  simp only [World.cell?, hb, Nat.zero_add]
  simp only [Option.isSome_none, Bool.false_eq_true, if_false]
  rw [← Array.getElem?_toList, h1]
  simp [hj']
theorem heap_sorted_u {w : World} {g n : Nat} {os : Array Obj} {cur : Array Value} {e : TypeId} {fr : Nat × Nat} (d : Array Int) (hb : w.heap[g]? = some (.cells cur e fr)) :
    (sortWorld encU w g 0 n d os).heap[g]? = some (.cells (putCells encU 0 d cur) e fr) := by
  have hg : g < w.heap.size := (Array.getElem?_eq_some_iff.1 hb).1
  unfold sortWorld
  rw [heap_grow_old _ _ (by simpa using hg)]
  simp [putRow, mapBlock, Sort.ahead, Array.getElem?_modify, hb, onCells]
theorem grownBy_sorted_u {w : World} {g n : Nat} {os : Array Obj} (d : Array Int) : w.grownBy (sortWorld encU w g 0 n d os) (some g) := by
  unfold sortWorld
  refine ⟨rfl, rfl, rfl, by simp, fun k hk hne => ?_⟩
  rw [heap_grow_old _ _ (by simpa using hk)]
  have : g ≠ k := fun e => hne (by rw [e])
  simp [putRow, mapBlock, Sort.ahead, Array.getElem?_modify, this]
theorem take_putCells_u (cur : Array Value) (ts : List Int) (h : ts.length ≤ cur.size) : (putCells encU 0 ts.toArray cur).toList.take ts.length = ts.map encU := by
  apply List.ext_getElem?
  intro j
  by_cases hj : j < ts.length
  · rw [List.getElem?_take_of_lt hj, Array.getElem?_toList]
    simp [putCells, hj, show j < cur.size by omega]
  · rw [List.getElem?_take_eq_none (by omega), List.getElem?_eq_none (by simp; omega)]
theorem ownsRow_sorted_u {w : World} {base g cap n : Nat} {e : TypeId} {os : Array Obj} {cur : Array Value} {ss ts : List Int} (hl : ts.length = ss.length) (hbase : base ≤ g) (hb : w.heap[g]? = some (.cells cur e (0, 0)))
    (h1 : ss.length ≤ cap) (h2 : cap ≤ maxLen) (h3 : cur.size = cap * 1) :
    (sortWorld encU w g 0 n ts.toArray os).ownsRow base e 1 (.slice (some ⟨g, 0, none⟩) ss.length cap) ss.length (ts.map encU) :=
  ⟨by simp [hl], .inr ⟨g, cap, _, rfl, hbase, heap_sorted_u _ hb, h1, h2, by simp [putCells, h3], by rw [Nat.mul_one, ← hl]; exact take_putCells_u cur ts (by omega)⟩⟩
theorem sortWorldU_kp (W : World) (gb m : Nat) (dk : Array Int) (os : Array Obj) : Kp (fun b => b = gb) W (sortWorld encU W gb 0 m dk os) := by
  have h := grownBy_sorted_u (w := W) (g := gb) (n := m) (os := os) dk
  exact (Kp.refl (fun b => b = gb) W).grown h (fun k e => .inl (Option.some.inj e).symm)
set_option maxRecDepth 1000000 in
set_option maxHeartbeats 8000000 in
/-- The closure: who was learned earlier. -/
theorem closeA (X b c : Nat) (L : List Ent) (l : List En) (x y : Int) (W : World) (hu : UMap W b c L) (he : HM TE L l) (hX : W.cell? ⟨X, 0, none⟩ = some (.map (some b))) :
    Calls Tryz.prog 45 #[.int .u32 x, .int .u32 y, .pointer (some ⟨X, 0, none⟩)] W fun ev w' => ev = .returned (.int .i64 (Lib.compareInt (ordI L x) (ordI L y))) ∧ ∃ q os', w' = grow (W.drewN q) os' := by
  obtain ⟨a1, a2, a3, a4, a5, a6, e1⟩ := he.ord_look x
  obtain ⟨b1, b2, b3, b4, b5, b6, e2⟩ := he.ord_look y
  have l1 := (hu.run_lookup (P := Tryz.prog) (T := 65) (E := 70) (K := 30) Tryz.underlying65 Tryz.underlying30 (z := .agg #[.int .u8 0, .int .u8 0, .int .u8 0, .int .u8 0, .int .u8 0, .int .u8 0, .int .i64 0]) (by kernel_rfl) x).1
  have l2 := (hu.run_lookup (P := Tryz.prog) (T := 65) (E := 70) (K := 30) Tryz.underlying65 Tryz.underlying30 (z := .agg #[.int .u8 0, .int .u8 0, .int .u8 0, .int .u8 0, .int .u8 0, .int .u8 0, .int .i64 0]) (by kernel_rfl) y).1
  rw [e1] at l1
  rw [e2] at l2
  generalize ordI L x = dx at *
  generalize ordI L y = dy at *
  have hfd1 : ∀ w : World, (Instr.field 70 (.agg #[.int .u8 a1, .int .u8 a2, .int .u8 a3, .int .u8 a4, .int .u8 a5, .int .u8 a6, .int .i64 dx]) 1).run Tryz.prog w = .ok (.int .i64 dx) w := fun _ => by kernel_rfl
  have hfd2 : ∀ w : World, (Instr.field 70 (.agg #[.int .u8 b1, .int .u8 b2, .int .u8 b3, .int .u8 b4, .int .u8 b5, .int .u8 b6, .int .i64 dy]) 1).run Tryz.prog w = .ok (.int .i64 dy) w := fun _ => by kernel_rfl
  have HC := Lib.hid (fun W' => cmp_i dx dy W')
  generalize Lib.compareInt dx dy = r at *
  clear hu he e1 e2
  go_enter Tryz.func45, Tryz.ntmps45
  go_wp2_with (go_at_call 33; refine (HC.out _).mono ?_; rintro e w' ⟨rfl, rfl⟩)
  refine bodyPost_ret (results_tmp rfl _ _ _) rfl ⟨rfl, 0, #[], (grow_empty _).symm⟩
def cfE (L : List Ent) (x y : Int) : Int := Lib.compareInt (ordI L x) (ordI L y)
theorem lt_cfE (L : List Ent) (x y : Int) : ltOf (cfE L) x y = decide (ordI L x < ordI L y) := by
  unfold ltOf cfE
  rcases cmp_cases (ordI L x) (ordI L y) with ⟨h1, e⟩ | ⟨h1, e⟩ | ⟨h1, e⟩ <;> simp only [e] <;> simp <;> omega
theorem swoE (L : List Ent) : SWO (ltOf (cfE L)) := by
  refine ⟨fun x => ?_, fun x y z h1 h2 => ?_, fun x y z h1 h2 => ?_⟩
  · rw [lt_cfE]; simp
  · rw [lt_cfE] at *; simp at *; omega
  · rw [lt_cfE] at *; simp at *; omega
set_option maxRecDepth 1000000 in
set_option maxHeartbeats 8000000 in
/-- The entries' Ips, sorted. -/
theorem sortedE (X Bm b c : Nat) (L : List Ent) (l : List En) (w : World) (hu : UMap w b c L) (he : HM TE L l) (hX : w.cell? ⟨X, 0, none⟩ = some (.map (some b))) (hB : w.cell? ⟨Bm, 0, none⟩ = some (.map (some b))) (hl : L.length ≤ 1000000) :
    Calls Tryz.prog 43 #[.func (.func 63) #[] #[.pointer (some ⟨Bm, 0, none⟩)], .func (.func 45) #[] #[.pointer (some ⟨X, 0, none⟩)]] w fun ev w' => ∃ (v : Value) (ts : List Int), ev = .returned v ∧ ts.Perm (L.map Ent.k) ∧ ts.Pairwise (fun a b => ordI L a ≤ ordI L b) ∧ w'.ownsRow w.heap.size 30 1 v ts.length (ts.map encU) ∧ Kp (fun _ => False) w w' := by
  have cC := collectU 5 (by omega) 63 #[.pointer (some ⟨Bm, 0, none⟩)] (enters_of Tryz.func63 (by kernel_rfl) rfl) _ _ L.length hl w (keysU_stops 3 (by omega) Bm b c L w hB hu)
  have hfC : Fence.wide.fn 48 := trivial
  have hfS : Fence.wide.fn 62 := trivial
  have eg : ∀ args w, (callFunc 45 args).run Tryz.prog w = .ok (.enter 45 args) w := enters_of Tryz.func45 (by kernel_rfl) rfl
  have HL := Lib.hid (show ∀ ss : List Int, ss.Perm (L.map Ent.k) → ss.length ≤ 1000000 from fun ss hs => by
    have := hs.length_eq
    rw [List.length_map] at this
    omega)
  have HU := Lib.hid hu
  have HE := Lib.hid he
  have HX := Lib.hid hX
  clear hB hl hu he hX
  refine (callsIn_wide (n := 6)).1 ?_
  refine callsIn_of_wp Tryz.func43 rfl trivial ?_ rfl
  simp only [Tryz.ntmps43, List.size_toArray, List.length_cons, List.length_nil, Nat.reduceAdd, Nat.reduceSub, Array.replicate_succ, Array.replicate_zero, List.push_toArray, List.append_toArray, List.nil_append, List.cons_append]
  gi_wp2_with (gi_at_call 48; refine cC.mono ?_; rintro e w1 ⟨v, ss, rfl, hS, hrow, hnil, hb⟩)
  have kb : Kp (fun _ => False) w w1 := Kp.of_below hb _
  have hlen := HL.out ss hS
  by_cases hss : ss = []
  · obtain rfl : v = .slice none 0 0 := hnil.2 hss
    subst hss
    have cS := AnyF.slices_SortFunc_none (P := Tryz.prog) (ρ := Tryz.sortU_ren) { Tryz.sortU with } none 0 (.func (.func 45) #[] #[.pointer (some ⟨X, 0, none⟩)]) w1
    change Calls Tryz.prog 62 _ _ _ at cS
    have KB := Lib.hid kb
    have HR := Lib.hid hrow
    have HS := Lib.hid hS
    clear kb hrow hS hnil hb cC
    refine (callsIn_wide.2 cS).mono ?_
    rintro e w2 ⟨rfl, rfl⟩
    gi_wp2
    go_ret
    exact ⟨_, [], rfl, HS.out, List.Pairwise.nil, HR.out, KB.out⟩
  · rcases hrow.2 with ⟨hv, h0⟩ | ⟨gb, cap, cur, rfl, hbase, hgb, r1, r2, r3, r4⟩
    · exact absurd (hnil.1 hv) hss
    have hH : Holds encU w1 gb 0 ss.toArray := holds_of_block_u hgb (by simpa using r4)
    have hgl : gb < w1.heap.size := (Array.getElem?_eq_some_iff.1 hgb).1
    have hXl : X < w.heap.size := World.block_lt_of_cell? w _ HX.out
    have hcmp : CmpLays1 Tryz.prog 45 #[.pointer (some ⟨X, 0, none⟩)] encU (cfE L) gb 0 ss.toArray.size w1 := fun m os dk hdk x y => by
      have hk := sortWorldU_kp w1 gb m dk os
      have hbl := HU.out.lt
      refine closeA X b c L l x y _ ((HU.out.kept kb (fun f => f)).kept hk (fun e => by have e : b = gb := e; omega)) HE.out (kp_kc' (kp_kc0 HX.out kb) hk (by show ¬ X = gb; omega))
    have cS := Any.slices_SortFunc Tryz.sortU encU (fun _ => rfl) (cfE L) (swoE L) 45 #[.pointer (some ⟨X, 0, none⟩)] gb 0 cap ss.toArray w1 eg hcmp hH hgl (by simp; omega)
    change Calls Tryz.prog 62 _ _ _ at cS
    rw [List.size_toArray] at cS
    have POST := Lib.hid (fun (d' : Array Int) (n : Nat) (os : Array Obj) (hp : PermIn 0 ss.length ss.toArray d') (hs : SortedIn (ltOf (cfE L)) 0 ss.length d') => show ∃ (v : Value) (ts : List Int), Ending.returned (.slice (some ⟨gb, 0, none⟩) ss.length cap) = .returned v ∧ ts.Perm (L.map Ent.k) ∧ ts.Pairwise (fun a b => ordI L a ≤ ordI L b) ∧ (sortWorld encU w1 gb 0 n d' os).ownsRow w.heap.size 30 1 v ts.length (ts.map encU) ∧ Kp (fun _ => False) w (sortWorld encU w1 gb 0 n d' os) from by
      obtain ⟨hp1, _, hp3⟩ := hp
      have hsz : d'.size = ss.length := by simpa using hp1
      have hpp : d'.toList.Perm ss := by
        have e1 : d'.extract 0 ss.length = d' := by rw [← hsz]; simp
        have e2 : ss.toArray.extract 0 ss.length = ss.toArray := by simp
        rw [e1, e2] at hp3
        simpa using hp3
      refine ⟨_, d'.toList, rfl, hpp.trans hS, ?_, ?_, ?_⟩
      · rw [List.pairwise_iff_getElem]
        intro i j hi hj hij
        have hi' : i < d'.size := by simpa using hi
        have hj' : j < d'.size := by simpa using hj
        have := hs i j (Nat.zero_le _) hij (by omega)
        rw [getElem!_pos d' i hi', getElem!_pos d' j hj', lt_cfE] at this
        simp at this
        simpa using this
      · have hll : d'.toList.length = ss.length := by simpa using hsz
        have := ownsRow_sorted_u (w := w1) (base := w.heap.size) (g := gb) (cap := cap) (n := n) (os := os) (ss := ss) (ts := d'.toList) hll hbase hgb r1 r2 r3
        rw [hll]
        simpa using this
      · exact kb.trans (sortWorldU_kp w1 gb n _ os) (by rintro b hb' rfl; omega))
    clear kb hrow hS hnil hb cC hH hgl hcmp hgb r1 r2 r3 r4
    refine (callsIn_wide.2 cS).mono ?_
    rintro e w2 ⟨rfl, d', n, os, hp, hs, rfl⟩
    have P2 := Lib.hid (POST.out d' n os hp hs)
    clear POST cS hp hs
    generalize sortWorld encU w1 gb 0 n d' os = w2 at *
    gi_wp2
    go_ret
    exact P2.out
theorem ips_sorted {n : Nat} {L : List Ent} {l : List En} {ts : List Int} (h : HM TE L l) (hs : IS n l) (hk : (L.map Ent.k).Nodup) (hp : ts.Perm (L.map Ent.k)) (h1 : ts.Pairwise (fun a b => ordI L a ≤ ordI L b)) : ts = l.map (fun x => (x.ip : Int)) := by
  have hp2 := hp.trans (h.perm hs hk).symm
  have h2 : (l.map (fun x => (x.ip : Int))).Pairwise (fun a b => ordI L a < ordI L b) := by
    refine List.Pairwise.map _ (R := fun x y : En => x.ord < y.ord ∧ x ∈ l ∧ y ∈ l) (fun x y hxy => ?_) ?_
    · rw [h.ord hxy.2.1, h.ord hxy.2.2]
      have := hxy.1
      omega
    · rw [List.pairwise_iff_getElem]
      intro i j hi hj hij
      exact ⟨(List.pairwise_iff_getElem.1 hs.ord) i j hi hj hij, List.getElem_mem hi, List.getElem_mem hj⟩
  have hn : ((l.map (fun x => (x.ip : Int))).map (ordI L)).Nodup := List.Pairwise.map _ (fun a b hab e => by have e : ordI L a = ordI L b := e; omega) h2
  have hn2 : (ts.map (ordI L)).Nodup := (hp2.map (ordI L)).nodup_iff.2 hn
  have h3 : ts.Pairwise (fun a b => ordI L a < ordI L b) := by
    have hne : ts.Pairwise (fun a b => ordI L a ≠ ordI L b) := List.Pairwise.of_map (ordI L) (fun a b h => h) hn2
    exact (h1.and hne).imp (fun {a b} hab => by obtain ⟨h1, h2⟩ := hab; omega)
  exact eq_of_strict (r := fun a b : Int => ordI L a < ordI L b) (fun a b h1 h2 => by omega) h3 h2 (fun x => hp2.mem_iff)
end Go.Proofs.YtgidjgkafbjkpaaGreatDoor
namespace Go.Proofs.YtgidjgkafbjkpaaGreatDoor
open Go.RowKit Go.Shelf
attribute [local go_sem] Oper.semAt_some

/-- What a round keeps: maps, walks, and the cells from B on. -/
structure KA (B : Nat) (W W' : World) : Prop where
  size : W.heap.size ≤ W'.heap.size
  walk : ∀ (k : Nat) (o : Obj), W.heap[k]? = some o → o.isWalk = true → W'.heap[k]? = some o
  cells : ∀ (k : Nat) (o : Obj), B ≤ k → W.heap[k]? = some o → o.isCells = true → W'.heap[k]? = some o
namespace KA
variable {B : Nat} {W W' W'' : World}
theorem refl (B : Nat) (W : World) : KA B W W := ⟨Nat.le_refl _, fun _ _ h _ => h, fun _ _ _ h _ => h⟩
theorem trans (h : KA B W W') (k : KA B W' W'') : KA B W W'' := ⟨Nat.le_trans h.size k.size, fun i o hi ho => k.walk i o (h.walk i o hi ho) ho, fun i o hB hi ho => k.cells i o hB (h.cells i o hB hi ho) ho⟩
theorem of_kp (h : Kp (fun _ => False) W W') : KA B W W' :=
  ⟨h.size, fun i o hi _ => (h.block i (Array.getElem?_eq_some_iff.1 hi).1 (fun f => f)).trans hi, fun i o _ hi _ => (h.block i (Array.getElem?_eq_some_iff.1 hi).1 (fun f => f)).trans hi⟩
theorem putObj {l : Nat} {o : Obj} (o' : Obj) (h : W.heap[l]? = some o) (hc : o.isCells = false) (hw : o.isWalk = false) : KA B W (W.putObj l o') :=
  ⟨by simp, fun k o'' hk ho => by
    by_cases e : k = l
    · subst e; rw [h] at hk; cases hk; rw [hw] at ho; cases ho
    · exact (World.putObj_heap_other e).trans hk, fun k o'' _ hk ho => by
    by_cases e : k = l
    · subst e; rw [h] at hk; cases hk; rw [hc] at ho; cases ho
    · exact (World.putObj_heap_other e).trans hk⟩
theorem bk {b t : Nat} {cs : Array Value} (h : KA B W W') (hB : B ≤ b) (hb : Bk W b t cs) : Bk W' b t cs := h.cells b _ hB hb rfl
theorem umap {b c : Nat} {L : List Ent} (h : KA B W W') (hu : UMap W b c L) : UMap W' b c L := ⟨h.walk b _ hu.at_ rfl, hu.keys, hu.borns, hu.below⟩
end KA
theorem ka_t (B : Nat) : ∀ {A C D : World}, KA B A C → KA B C D → KA B A D := fun h k => h.trans k
theorem ka_b (B B' : Nat) : ∀ (W : World) (l : Nat) (o o' : Obj), B' ≤ l → W.heap[l]? = some o → o.isCells = false → o.isWalk = false → KA B W (W.putObj l o') := fun W l o o' _ h hc hw => KA.putObj o' h hc hw
set_option maxHeartbeats 1000000 in
/-- All. -/
theorem call_all (g : Nat) (w : World) :
    Calls Tryz.prog 20 #[.pointer (some ⟨g, 0, none⟩)] w fun ev w' => ev = .returned (.func (.func 42) #[] #[.pointer (some ⟨w.heap.size, 0, none⟩)]) ∧ w' = w.alloc (.cells #[.pointer (some ⟨g, 0, none⟩)] 25) := by
  go_enter Tryz.func20, Tryz.ntmps20
  go_wp2_with fail
  exact bodyPost_ret (results_tmp rfl _ _ _) rfl ⟨rfl, rfl⟩
set_option maxRecDepth 1000000 in
set_option maxHeartbeats 8000000 in
/-- What All gives: the entries, in order. -/
theorem allE_stops (n : Nat) (hn : 1 ≤ n) (Bc g : Nat) (s : CS) (w : World) (hB : w.cell? ⟨Bc, 0, none⟩ = some (.pointer (some ⟨g, 0, none⟩))) (h : CM w g s) (hle : s.ents.length ≤ 1000) :
    SeqStopsK Fence.wide n Tryz.prog 42 #[.pointer (some ⟨Bc, 0, none⟩)] (fun x : {x : En // x ∈ s.ents} => #[.int .u32 (x.1.ip : Int), macV x.1.v]) (KA w.heap.size) (fun ss => ss = s.ents.attach) (fun _ => True) s.ents.length w := by
  intro l J Jx W hW hJ hJx hY h0
  have kW : Kp (fun _ => False) w W := Kp.of_below hW _
  have hM := h.none_kept kW
  have hB1 := kp_kc0 hB kW
  have z4 : W.cell? ⟨g, 4, none⟩ = some (.map (some s.eb)) := (hM.bk.cell 4).trans rfl
  have hel : s.EL.length ≤ 1000000 := by have := h.eh.len; omega
  have CE := Lib.hid (cmapsE s.eb s.ec s.EL W hM.em)
  have HM := Lib.hid hM
  have SZW := Lib.hid hW.size
  have HEL := Lib.hid hel
  have HES := Lib.hid h.es
  have HEH := Lib.hid h.eh
  have HLE := Lib.hid hle
  clear hM h kW hB hel hle
  refine callsIn_of_wp Tryz.func42 rfl trivial ?_ rfl
  simp only [Tryz.ntmps42, List.size_toArray, List.length_cons, List.length_nil, Nat.reduceAdd, Nat.reduceSub, Array.replicate_succ, Array.replicate_zero, List.push_toArray, List.append_toArray, List.nil_append, List.cons_append]
  have hf39 : Fence.wide.fn 39 := trivial
  have hf44 : Fence.wide.fn 44 := trivial
  have hf43 : Fence.wide.fn 43 := trivial
  have E0 := Lib.hid (show ∀ W2 : World, Kp (fun _ => False) W W2 → J [] W2 from fun W2 k => hJ [] W W2 none h0 (k.grownBy (fun _ f => f.elim)) (fun r e => by cases e))
  clear h0 hJ hJx hW
  gi_wp2_with fail
  refine (callsIn_wide.2 CE.out).mono ?_
  rintro ev w1 ⟨e, rfl, u1, k1, q1⟩
  have K1 := Lib.hid k1
  have U1 := Lib.hid u1
  clear u1 k1 CE z4 hB1
  gi_wp2_with fail
  have ka := (Kp.refl (fun _ => False) w1).alloc (.cells #[.map (some e)] 65)
  have BX := Lib.hid (Bk.new w1 65 #[.map (some e)])
  have K2 := Lib.hid (K1.out.trans' ka)
  have U2 := Lib.hid (U1.out.kept ka (fun f => f))
  have QX := Lib.hid (Nat.le_trans SZW.out K1.out.size)
  clear ka
  generalize w1.heap.size = X at *
  generalize w1.alloc (.cells #[.map (some e)] 65) = w2 at *
  refine (keysU (n - 1) (some e) w2).mono ?_
  rintro ev w3 ⟨rfl, rfl⟩
  have ka := (Kp.refl (fun _ => False) w2).alloc (.cells #[.map (some e)] 65)
  have BM := Bk.new w2 65 #[.map (some e)]
  have SE := Lib.hid (sortedE X w2.heap.size e s.ec s.EL s.ents _ (U2.out.kept ka (fun f => f)) HEH.out (((BX.out.kept ka (fun f => f)).cell 0).trans rfl) ((BM.cell 0).trans rfl) HEL.out)
  have K3 := Lib.hid (K2.out.trans' ka)
  have U3 := Lib.hid (U2.out.kept ka (fun f => f))
  have BX3 := Lib.hid (BX.out.kept ka (fun f => f))
  have SZ3 := Lib.hid ka.size
  clear ka BM
  generalize w2.heap.size = Y at *
  generalize w2.alloc (.cells #[.map (some e)] 65) = w3 at *
  gi_wp2_with fail
  refine (callsIn_wide.2 SE.out).mono ?_
  rintro ev w4 ⟨v4, ts, rfl, hp, hso, own4, k4⟩
  have ets := ips_sorted HEH.out HES.out U3.out.keys hp hso
  have K4 := Lib.hid (K3.out.trans' k4)
  have U4 := Lib.hid (U3.out.kept k4 (fun f => f))
  have BX4 := Lib.hid (BX3.out.kept k4 (fun f => f))
  have etl : ts.length = s.ents.length := by rw [ets, List.length_map]
  obtain ⟨B, c1, hv⟩ : ∃ B c1, v4 = .slice B s.ents.length c1 := by
    rcases own4.2 with ⟨e, h0⟩ | ⟨gb, cap, cur, e, _⟩
    · exact ⟨none, 0, by rw [e]; congr 1; omega⟩
    · exact ⟨_, cap, by rw [e, etl]⟩
  subst hv
  have HAT := Lib.hid (show ∀ (k : Nat) (hk : k < s.ents.length), ∃ gb, B = some ⟨gb, 0, none⟩ ∧ w.heap.size ≤ gb ∧ ∃ cur, Bk w4 gb 30 cur ∧ cur[k]? = some (.int .u32 ((s.ents[k].ip : Nat) : Int)) from fun k hk => by
    rcases own4.2 with ⟨e, h0⟩ | ⟨gb, cap, cur, e, hgq, hgb, r1, r2, r3, r4⟩
    · omega
    · injection e with e1 e2 e3
      have h3 := K3.out.size
      refine ⟨gb, e1, Nat.le_trans SZW.out (Nat.le_trans h3 hgq), cur, hgb, ?_⟩
      have h1 : (cur.toList.take (ts.length * 1))[k]? = (ts.map encU)[k]? := by rw [r4]
      rw [List.getElem?_take_of_lt (by omega), Array.getElem?_toList] at h1
      rw [h1, ets]
      simp [hk, encU])
  have l0 : (0 : Int) ≤ (s.ents.length : Int) := by omega
  have HJ4 := Lib.hid (E0.out w4 K4.out)
  have HLK := Lib.hid (fun (W' : World) (hu : UMap W' e s.ec s.EL) (i : Int) => (hu.run_lookup (P := Tryz.prog) (T := 65) (E := 70) (K := 30) Tryz.underlying65 Tryz.underlying30 (z := .agg #[.int .u8 0, .int .u8 0, .int .u8 0, .int .u8 0, .int .u8 0, .int .u8 0, .int .i64 0]) (by kernel_rfl) i).1)
  clear SE hp hso own4 k4 ets etl E0
  gi_wp2_with fail
  gi_loopw [18] (fun v18 wr => ∃ k : Nat, v18 = .int .i64 (k : Int) ∧ k ≤ s.ents.length ∧ J (s.ents.attach.take k) wr ∧ KA w.heap.size w4 wr) (fun v _ => s.ents.length - (intOf v).toNat)
  case atStart => exact ⟨0, rfl, Nat.zero_le _, HJ4.out, KA.refl _ _⟩
  case round =>
    obtain ⟨k, rfl, hk, hJk, hK⟩ := hrel
    have k0 : (0 : Int) ≤ (k : Int) := by omega
    by_cases hlt : k < s.ents.length
    · have k1 : (k : Int) < (s.ents.length : Int) := by omega
      obtain ⟨gb, hB, hgb, cur, hbk, hc⟩ := HAT.out k hlt
      subst hB
      have d0 : wr.cell? ⟨gb, k, none⟩ = some (.int .u32 ((s.ents[k].ip : Nat) : Int)) := by rw [(hK.bk hgb hbk).cell]; exact hc
      have dX : wr.cell? ⟨X, 0, none⟩ = some (.map (some e)) := ((hK.bk QX.out BX4.out).cell 0).trans rfl
      have hlk := HLK.out wr (hK.umap U4.out) ((s.ents[k].ip : Nat) : Int)
      obtain ⟨v, hv, hte⟩ := HEH.out.some_ _ (List.getElem_mem hlt)
      have hte : v = entV _ _ := hte
      rw [hv, hte] at hlk
      have HYK := hY (s.ents.attach.take k) ⟨s.ents[k], List.getElem_mem hlt⟩ wr hJk (by rw [List.length_take, List.length_attach]; omega)
      have eat : s.ents.attach.take k ++ [⟨s.ents[k], List.getElem_mem hlt⟩] = s.ents.attach.take (k + 1) := by
        rw [List.take_add_one, List.getElem?_eq_getElem (by rw [List.length_attach]; exact hlt), List.getElem_attach]
        rfl
      rw [eat] at HYK
      clear eat
      dsimp only at HYK
      have HK := Lib.hid hK
      generalize s.ents[k] = x at *
      obtain ⟨ip, ⟨m1, m2, m3, m4, m5, m6⟩, od, du⟩ := x
      have hlk' : (Instr.lookup 65 (.map (some e)) (.int .u32 (ip : Int)) false).run Tryz.prog wr = .ok (.agg #[.int .u8 (m1 : Int), .int .u8 (m2 : Int), .int .u8 (m3 : Int), .int .u8 (m4 : Int), .int .u8 (m5 : Int), .int .u8 (m6 : Int), .int .i64 (od : Int)]) wr := hlk
      have hfd : ∀ w : World, (Instr.field 70 (.agg #[.int .u8 (m1 : Int), .int .u8 (m2 : Int), .int .u8 (m3 : Int), .int .u8 (m4 : Int), .int .u8 (m5 : Int), .int .u8 (m6 : Int), .int .i64 (od : Int)]) 0).run Tryz.prog w = .ok (.agg #[.int .u8 (m1 : Int), .int .u8 (m2 : Int), .int .u8 (m3 : Int), .int .u8 (m4 : Int), .int .u8 (m5 : Int), .int .u8 (m6 : Int)]) w := fun _ => by kernel_rfl
      obtain ⟨fn, tmps, assign, body, hy, hR⟩ := HYK
      have hy' : (Instr.yield l #[.int .u32 (ip : Int), .agg #[.int .u8 (m1 : Int), .int .u8 (m2 : Int), .int .u8 (m3 : Int), .int .u8 (m4 : Int), .int .u8 (m5 : Int), .int .u8 (m6 : Int)]]).run Tryz.prog wr = .ok (.round l fn tmps assign body) wr := hy
      clear hlk hy hJk hK hbk hc hv hte
      simp only at d0
      gi_wp2_with fail
      refine hR.mono ?_
      rintro ev W3 (⟨rfl, hJ3, hk3⟩ | ⟨rfl, hJx3⟩)
      · have FIN := Lib.hid (And.intro hJ3 (HK.out.trans hk3))
        clear hJ3 hk3
        gi_wp2_with fail
        have hle := HLE.out
        have hw : wrap64 ((k : Int) + 1) = ((k + 1 : Nat) : Int) := by unfold wrap64; omega
        go_roundw
        case rel => exact ⟨k + 1, by rw [hw], by omega, FIN.out⟩
        case measure => rw [hw]; simp only [intOf, Int.toNat_natCast]; omega
      · gi_wp2_with fail
        refine bodyPost_ret (results_none rfl _ _ _) rfl ?_
        exact ⟨⟨_, rfl⟩, .inr ⟨_, trivial, hJx3⟩⟩
    · have k1 : ¬ ((k : Int) < (s.ents.length : Int)) := by omega
      obtain rfl : k = s.ents.length := by omega
      rw [← List.length_attach (l := s.ents), List.take_length] at hJk
      have HJK := Lib.hid hJk
      clear hJk hK
      gi_wp2_with fail
      go_end0
      exact ⟨⟨_, rfl⟩, .inl HJK.out⟩
end Go.Proofs.YtgidjgkafbjkpaaGreatDoor
namespace Go.Proofs.YtgidjgkafbjkpaaGreatDoor
open Go.RowKit

structure CV where
  (room wait life pat count : Nat)
  (ents : List En)
  (rows : List Rw)
def CS.tv (s : CS) : CV := ⟨s.room, s.wait, s.life, s.pat, s.count, s.ents, s.rows⟩
/-- Block g is a cache that holds this; its blocks are among F's. -/
def Cch (F : Nat → Prop) (w : World) (g : Nat) (v : CV) : Prop := ∃ s, CM w g s ∧ s.tv = v ∧ ∀ b, cfp g s b → F b
/-- Those of F that are of a cache's kinds. -/
def FC (F : Nat → Prop) (w : World) (b : Nat) : Prop := F b ∧ ∀ t cs, Bk w b t cs → t = 68 ∨ t = 113
theorem Cch.kept {F S : Nat → Prop} {w w' : World} {g : Nat} {v : CV} (h : Cch F w g v) (hk : Kp S w w') (hS : ∀ b, b < w.heap.size → F b → ¬ S b) (h3 : ∀ b cs, Bk w b 3 cs → ¬ S b) : Cch F w' g v := by
  obtain ⟨s, hm, e, hf⟩ := h
  exact ⟨s, hm.kept hk (fun b hb => hS b (hm.lt hb) (hf b hb)) h3, e, hf⟩
theorem Cch.none_kept {F : Nat → Prop} {w w' : World} {g : Nat} {v : CV} (h : Cch F w g v) (hk : Kp (fun _ => False) w w') : Cch F w' g v := h.kept hk (fun _ _ _ f => f) (fun _ _ _ f => f)
theorem Cch.mono {F G : Nat → Prop} {w : World} {g : Nat} {v : CV} (h : Cch F w g v) (hs : ∀ b, b < w.heap.size → F b → G b) : Cch G w g v := by
  obtain ⟨s, hm, e, hf⟩ := h
  exact ⟨s, hm, e, fun b hb => hs b (hm.lt hb) (hf b hb)⟩
theorem FC.of {F : Nat → Prop} {w w' : World} {g : Nat} {s : CS} (hf : ∀ b, cfp g s b → F b) (hk : Kp (CK g s w) w w') : Kp (FC F w) w w' := hk.mono (fun b hb => ⟨hf b hb.1, hb.2⟩)
theorem FC.no3 {F : Nat → Prop} {w : World} (b : Nat) (cs : Array Value) (hb : Bk w b 3 cs) : ¬ FC F w b := fun h => by
  rcases h.2 3 cs hb with e | e <;> exact absurd e (by decide)
theorem own_fc {F : Nat → Prop} {w w' : World} {base e n size : Nat} {v : Value} {xs : List Value} (ho : w.ownsRow base e size v n xs) (hk : Kp (FC F w) w w') (h1 : e ≠ 68) (h2 : e ≠ 113) : w'.ownsRow base e size v n xs :=
  own_kp ho hk (fun k hv hc => by
    rcases ho.2 with ⟨rfl, _⟩ | ⟨gb, cap, cur, rfl, _, hgb, _⟩
    · cases hv
    · obtain rfl : gb = k := Option.some.inj hv
      rcases hc.2 e cur hgb with h | h
      · exact h1 h
      · exact h2 h)
/-- What a cache holds is within its bounds. -/
structure VOK (v : CV) : Prop where
  room : 1 ≤ v.room ∧ v.room ≤ 256
  wait : 1 ≤ v.wait ∧ v.wait ≤ 64
  life : v.life ≤ 4294967296
  pat : v.pat ≤ 4294967296
  elen : v.ents.length ≤ v.room
  rlen : v.rows.length ≤ v.room
  vlen : ∀ r ∈ v.rows, r.v.length ≤ v.wait
  eip : ∀ x ∈ v.ents, x.ip < 4294967296
  rip : ∀ x ∈ v.rows, x.ip < 4294967296
  es : IS v.count v.ents
  rs : IS v.count v.rows
def CV.empty (room wait life pat : Nat) : CV := ⟨room, wait, life, pat, 0, [], []⟩
theorem VOK.empty {room wait life pat : Nat} (h : Rgt (room : Int) (wait : Int) life pat) : VOK (CV.empty room wait life pat) := by
  obtain ⟨h1, h2, h3, h4, h5, h6⟩ := h
  refine ⟨?_, ?_, ?_, ?_, Nat.zero_le _, Nat.zero_le _, fun r hr => (by cases hr), fun r hr => (by cases hr), fun r hr => (by cases hr), IS.nil _, IS.nil _⟩ <;> simp only [CV.empty] <;> omega
def CV.learn (v : CV) (i : Nat) (m : M6) (now : Nat) : CV := { v with count := v.count + 1, ents := base v.room i v.ents ++ [⟨i, m, v.count + 1, min now MT + v.life⟩], rows := idel i v.rows }
theorem VOK.learn {v : CV} (h : VOK v) {i : Nat} (hi : i < 4294967296) (m : M6) (now : Nat) : VOK (v.learn i m now) := by
  refine ⟨h.room, h.wait, h.life, h.pat, ?_, ?_, fun r hr => h.vlen r (mem_idel.1 hr).1, ?_, fun r hr => h.rip r (mem_idel.1 hr).1, ?_, (h.rs.del i).up (Nat.le_succ _)⟩
  · have := base_len h.es (i := i) h.room.1 h.elen
    simp only [CV.learn, List.length_append, List.length_singleton]
    exact this
  · exact Nat.le_trans ((idel_sub i v.rows).length_le) h.rlen
  · intro x hx
    rcases List.mem_append.1 hx with hx | hx
    · refine h.eip x ?_
      have hs : (base v.room i v.ents).Sublist v.ents := by
        unfold base
        split
        · exact idel_sub _ _
        · split
          · exact List.tail_sublist _
          · exact List.Sublist.refl _
      exact hs.subset hx
    · rw [List.mem_singleton] at hx; subst hx; exact hi
  · exact (h.es.base (room := v.room) (i := i)).add (base_none h.es) rfl
/-- Learn. -/
theorem tlearn (F : Nat → Prop) (g i now : Nat) (m : M6) (v : CV) (w : World) (h : Cch F w g v) (hv : VOK v) (hF : ∀ b, w.heap.size ≤ b → F b) (hi : i < 4294967296) (hc : v.count < 1000000) :
    Calls Tryz.prog 9 #[.pointer (some ⟨g, 0, none⟩), .int .u32 (i : Int), macV m, .int .u64 (now : Int)] w fun ev w' => ∃ A c, ev = .returned (.slice A (tokof v.rows i).length c) ∧ RdN w' A (tokof v.rows i) ∧ Cch F w' g (v.learn i m now) ∧ Kp (FC F w) w w' := by
  obtain ⟨s, hm, rfl, hf⟩ := h
  refine (clearn g i now m s w hm hi hc ⟨hv.room.1, by have := hv.room.2; simp only [CS.tv] at this; omega⟩ hv.elen hv.life hv.eip).mono ?_
  rintro ev w' ⟨A, c, s', rfl, hr, hm', hl, hk, hs⟩
  refine ⟨A, c, rfl, hr, ⟨s', hm', ?_, fun b hb => (hs b hb).elim (hf b) (hF b)⟩, FC.of hf hk⟩
  obtain ⟨a1, a2, a3, a4, a5, a6, a7, _⟩ := hl
  simp only [CS.tv, CV.learn, a1, a2, a3, a4, a5, a6, a7]
/-- Find. -/
theorem tfind (F : Nat → Prop) (g i now : Nat) (v : CV) (w : World) (h : Cch F w g v) (hi : i < 4294967296) :
    Calls Tryz.prog 15 #[.pointer (some ⟨g, 0, none⟩), .int .u32 (i : Int), .int .u64 (now : Int)] w fun ev w' => ev = .returned (.tuple #[macV ((fnd v.ents i now).getD M0), .bool (fnd v.ents i now).isSome]) ∧ Kp (fun _ => False) w w' := by
  obtain ⟨s, hm, rfl, hf⟩ := h
  exact cfind g i now s w hm hi
/-- What Wait does. -/
def CV.wait_ (v : CV) (i : Nat) (t : Int) (now : Nat) : CV × Bool × Nat :=
  match iget i v.rows with
  | some x => if v.wait ≤ x.v.length then (v, false, 18) else ({ v with rows := iset i (x.v ++ [t]) v.rows }, false, 0)
  | none => if v.room ≤ v.rows.length then (v, false, 18) else ({ v with count := v.count + 1, rows := v.rows ++ [⟨i, [t], v.count + 1, min now MT + v.pat⟩] }, true, 0)
theorem VOK.wait_ {v : CV} (h : VOK v) {i : Nat} (hi : i < 4294967296) (t : Int) (now : Nat) : VOK (v.wait_ i t now).1 := by
  unfold CV.wait_
  cases hg : iget i v.rows with
  | some x =>
    dsimp only
    by_cases hl : v.wait ≤ x.v.length
    · rw [if_pos hl]; exact h
    · rw [if_neg hl]
      refine ⟨h.room, h.wait, h.life, h.pat, h.elen, by show (iset i _ v.rows).length ≤ _; rw [iset_len]; exact h.rlen, fun r hr => ?_, h.eip, fun r hr => ?_, h.es, h.rs.set i _⟩
      · obtain ⟨y, hy, rfl⟩ := mem_iset.1 hr
        by_cases e : y.ip = i
        · rw [if_pos e]; simp; omega
        · rw [if_neg e]; exact h.vlen y hy
      · obtain ⟨y, hy, rfl⟩ := mem_iset.1 hr
        by_cases e : y.ip = i
        · rw [if_pos e]; exact h.rip y hy
        · rw [if_neg e]; exact h.rip y hy
  | none =>
    dsimp only
    by_cases hl : v.room ≤ v.rows.length
    · rw [if_pos hl]; exact h
    · rw [if_neg hl]
      refine ⟨h.room, h.wait, h.life, h.pat, h.elen, by simp; omega, fun r hr => ?_, h.eip, fun r hr => ?_, h.es.up (Nat.le_succ _), h.rs.add hg rfl⟩
      · rcases List.mem_append.1 hr with hr | hr
        · exact h.vlen r hr
        · rw [List.mem_singleton] at hr; subst hr; have := h.wait.1; simp; omega
      · rcases List.mem_append.1 hr with hr | hr
        · exact h.rip r hr
        · rw [List.mem_singleton] at hr; subst hr; exact hi
/-- Wait. -/
theorem twait (F : Nat → Prop) (g i now : Nat) (t : Int) (v : CV) (w : World) (h : Cch F w g v) (hv : VOK v) (hF : ∀ b, w.heap.size ≤ b → F b) (hi : i < 4294967296) (hc : v.count < 1000000) :
    Calls Tryz.prog 10 #[.pointer (some ⟨g, 0, none⟩), .int .u32 (i : Int), .int .i64 t, .int .u64 (now : Int)] w fun ev w' => ev = .returned (.tuple #[.bool (v.wait_ i t now).2.1, .int .i64 (((v.wait_ i t now).2.2 : Nat) : Int)]) ∧ Cch F w' g (v.wait_ i t now).1 ∧ Kp (FC F w) w w' := by
  obtain ⟨s, hm, rfl, hf⟩ := h
  have h1 := hv.room.2
  have h2 := hv.wait.2
  simp only [CS.tv] at h1 h2
  refine (cwait g i now t s w hm hi hc (by omega) (by omega) hv.pat).mono ?_
  unfold CV.wait_
  rintro ev w' (⟨hq, rfl, hk⟩ | ⟨x, hx, hl, rfl, u, c1, c2, hm', _, hk⟩ | ⟨hx, hl, rfl, s', hm', hb, hk, hs, _⟩)
  · rcases hq with ⟨x, hx, hl⟩ | ⟨hx, hl⟩
    · rw [show iget i s.tv.rows = some x from hx]
      dsimp only
      rw [if_pos (show s.tv.wait ≤ x.v.length from hl)]
      exact ⟨rfl, ⟨s, hm.none_kept hk, rfl, hf⟩, hk.mono (fun _ f => f.elim)⟩
    · rw [show iget i s.tv.rows = none from hx]
      dsimp only
      rw [if_pos (show s.tv.room ≤ s.tv.rows.length from hl)]
      exact ⟨rfl, ⟨s, hm.none_kept hk, rfl, hf⟩, hk.mono (fun _ f => f.elim)⟩
  · rw [show iget i s.tv.rows = some x from hx]
    dsimp only
    rw [if_neg (show ¬ s.tv.wait ≤ x.v.length from Nat.not_le.2 hl)]
    exact ⟨rfl, ⟨_, hm', rfl, fun b hb => hf b hb⟩, FC.of hf hk⟩
  · rw [show iget i s.tv.rows = none from hx]
    dsimp only
    rw [if_neg (show ¬ s.tv.room ≤ s.tv.rows.length from Nat.not_le.2 hl)]
    refine ⟨rfl, ⟨s', hm', ?_, fun b hb => (hs b hb).elim (hf b) (hF b)⟩, FC.of hf hk⟩
    obtain ⟨a1, a2, a3, a4, a5, a6, a7⟩ := hb
    simp only [CS.tv, a1, a2, a3, a4, a5, a6, a7]
/-- Those whose time is over, in order. -/
def Got {β : Type} (t : Nat) (l : List (It β)) (A : List Nat) : Prop := ∃ R, WR R l ∧ A.map (fun i : Nat => (i : Int)) = rgot t R
theorem WR.uniq {β : Type} {R S : Rows} {l : List (It β)} (h : WR R l) (k : WR S l) : R = S := h.rs.uniq k.rs (fun x => by
  rw [show x = (x.1, x.2) from rfl, h.mem, k.mem])
theorem map_cast_inj : ∀ {A B : List Nat}, A.map (fun i : Nat => (i : Int)) = B.map (fun i : Nat => (i : Int)) → A = B
  | [], [], _ => rfl
  | [], b :: B, h => by simp at h
  | a :: A, [], h => by simp at h
  | a :: A, b :: B, h => by
    simp only [List.map_cons, List.cons.injEq] at h
    rw [map_cast_inj h.2, show a = b by omega]
theorem Got.uniq {β : Type} {t : Nat} {l : List (It β)} {A B : List Nat} (h : Got t l A) (k : Got t l B) : A = B := by
  obtain ⟨R, h1, h2⟩ := h
  obtain ⟨S, k1, k2⟩ := k
  rw [h1.uniq k1, ← k2] at h2
  exact map_cast_inj h2
def CV.left (v : CV) (t : Nat) : CV := { v with ents := lft t v.ents, rows := lft t v.rows }
theorem VOK.left {v : CV} (h : VOK v) (t : Nat) : VOK (v.left t) :=
  ⟨h.room, h.wait, h.life, h.pat, Nat.le_trans (List.length_filter_le _ _) h.elen, Nat.le_trans (List.length_filter_le _ _) h.rlen, fun r hr => h.vlen r (mem_left.1 hr).1, fun r hr => h.eip r (mem_left.1 hr).1, fun r hr => h.rip r (mem_left.1 hr).1, h.es.left, h.rs.left⟩
/-- Sweep. -/
theorem tsweep (F : Nat → Prop) (g now : Nat) (v : CV) (w : World) (h : Cch F w g v) (hv : VOK v) (hT : Tab w) (h0 : ¬ F 0) :
    Calls Tryz.prog 11 #[.pointer (some ⟨g, 0, none⟩), .int .u64 (now : Int)] w fun ev w' => ∃ u A, ev = .returned u ∧ Got (min now MT) v.rows A ∧ w'.ownsRow w.heap.size 3 1 u (outs A v.rows).length (intsK .i64 (outs A v.rows)) ∧ Cch F w' g (v.left (min now MT)) ∧ Kp (FC F w) w w' := by
  obtain ⟨s, hm, rfl, hf⟩ := h
  have h1 := hv.room.2
  have h2 := hv.wait.2
  have h3 := hv.elen
  have h4 := hv.rlen
  have h5 := hv.vlen
  simp only [CS.tv] at h1 h2 h3 h4 h5
  refine (csweep g now s w hm hT (fun hh => h0 (hf 0 hh)) (by omega) (by omega) (fun r hr => by have := h5 r hr; omega) hv.eip hv.rip).mono ?_
  rintro ev w' ⟨u, A1, A2, rfl, hA1, hA2, ho, hm', hk⟩
  refine ⟨u, A2, rfl, ⟨_, hm.rr, hA2⟩, ho, ⟨_, hm', ?_, fun b hb => hf b hb⟩, FC.of hf hk⟩
  have e1 := hm.er.gone hm.es hA1
  have e2 := hm.rr.gone hm.rs hA2
  simp only [CS.tv, CS.rels, CS.drops, CV.left, e1, e2]
/-- Tokens. -/
theorem ttokens (F : Nat → Prop) (g : Nat) (v : CV) (w : World) (h : Cch F w g v) (hv : VOK v) :
    Calls Tryz.prog 12 #[.pointer (some ⟨g, 0, none⟩)] w fun ev w' => ∃ u, ev = .returned u ∧ w'.ownsRow w.heap.size 3 1 u (toks v.rows).length (intsK .i64 (toks v.rows)) ∧ Kp (fun _ => False) w w' := by
  obtain ⟨s, hm, rfl, hf⟩ := h
  have h1 := hv.room.2
  have h2 := hv.wait.2
  have h4 := hv.rlen
  have h5 := hv.vlen
  simp only [CS.tv] at h1 h2 h4 h5
  exact ctokens g s w hm (by omega) (fun r hr => by have := h5 r hr; omega)
theorem tlen (F : Nat → Prop) (g : Nat) (v : CV) (w : World) (h : Cch F w g v) :
    Calls Tryz.prog 13 #[.pointer (some ⟨g, 0, none⟩)] w fun ev w' => ev = .returned (.int .i64 (v.ents.length : Int)) ∧ w' = w := by
  obtain ⟨s, hm, rfl, hf⟩ := h
  exact clen g s w hm
theorem trows (F : Nat → Prop) (g : Nat) (v : CV) (w : World) (h : Cch F w g v) :
    Calls Tryz.prog 14 #[.pointer (some ⟨g, 0, none⟩)] w fun ev w' => ev = .returned (.int .i64 (v.rows.length : Int)) ∧ w' = w := by
  obtain ⟨s, hm, rfl, hf⟩ := h
  exact crows g s w hm
/-- Clone. -/
theorem tclone (F : Nat → Prop) (g : Nat) (v : CV) (w : World) (h : Cch F w g v) :
    Calls Tryz.prog 19 #[.pointer (some ⟨g, 0, none⟩)] w fun ev w' => ∃ g', ev = .returned (.pointer (some ⟨g', 0, none⟩)) ∧ Cch (fun b => w.heap.size ≤ b) w' g' v ∧ Kp (fun _ => False) w w' := by
  obtain ⟨s, hm, rfl, hf⟩ := h
  refine (cdup g s w hm).mono ?_
  rintro ev w' ⟨g', e, r, g1, g2, F1, F2, rfl, hm', hk, hb⟩
  exact ⟨g', rfl, ⟨_, hm', rfl, hb⟩, hk⟩
/-- New. -/
theorem tnew (room wait life pat : Nat) (w : World) (hr : Rgt (room : Int) (wait : Int) life pat) :
    Calls Tryz.prog 8 #[.int .i64 (room : Int), .int .i64 (wait : Int), .int .u64 (life : Int), .int .u64 (pat : Int)] w fun ev w' => ∃ g, ev = .returned (.tuple #[.pointer (some ⟨g, 0, none⟩), .int .i64 0]) ∧ Cch (fun b => w.heap.size ≤ b) w' g (CV.empty room wait life pat) ∧ Kp (fun _ => False) w w' := by
  refine (cnew room wait life pat w hr).mono ?_
  rintro ev w' ⟨g, s, rfl, hm, a1, a2, a3, a4, a5, a6, a7, hb, hk⟩
  exact ⟨g, rfl, ⟨s, hm, by simp only [CS.tv, CV.empty, a1, a2, a3, a4, a5, a6, a7], hb⟩, hk⟩
end Go.Proofs.YtgidjgkafbjkpaaGreatDoor
namespace Go.Proofs.YtgidjgkafbjkpaaGreatDoor
open Go.RowKit

/-- append to a row of the call's own: it lies where it lay, or in a new block. -/
theorem wpList_append_at {P : Program} (w : World) {ops : Array Oper} {rest : List Oper} {o : Oper} {a : Act} {Q : Exit → Act → World → Prop} (hgd : o.guard = none) (s x : Operand) (t : TypeId)
    (ho : o.op = .call { callee := .builtin .append, args := #[s, x], argTypes := #[t, t] })
    (base : Nat) (e : TypeId) (i : TypeInfo) (z : Value) (size bytes : Nat) (ht : P.underlying t = some (.slice e)) (hi : P.info? e = some i) (hz : i.zero = some z)
    (hsize : i.size = size) (hby : i.bytes = bytes) (hzs : z.cells.size = size) (hsz : 0 < size)
    (v : Value) (n : Nat) (xs : List Value) (hs : a.eval s = v) (hown : w.ownsRow base e size v n xs)
    (ad : Addr) (m c : Nat) (news : List Value) (hx : a.eval x = .slice (some ad) m c) (hl : news.length = m * size) (hnews : ∀ j u, news[j]? = some u → w.cell? (ad.add j) = some u) (h1 : ∀ u ∈ news, u.oneCell' = true)
    (h63 : n + m ≤ maxLen) (hbytes : (n + m) * bytes ≤ 140737488355328) (hbase : base ≤ w.heap.size)
    (h : ∀ v' w', w'.ownsRow base e size v' (n + m) (xs ++ news) → w.grownBy w' v.ownBlock → (v'.ownBlock = v.ownBlock ∨ v'.ownBlock = some w.heap.size) → wpList P ops Q rest (a.put o.dst v') w') : wpList P ops Q (o :: rest) a w := by
  refine wpList_plain hgd fun K hK => ?_
  obtain ⟨v', w', hr, h2, h3, _, h5⟩ := run_append_own_at (P := P) w base t o.type e i z size bytes ht hi hz hsize hby hzs hsz v n xs hown ad m c news hl hnews h1 h63 hbytes hbase
  unfold Oper.wp execOp
  simp only [ho, resolve, invoke, builtin, Sem.run_bind, Sem.run_pure, Result.andThen_ok, List.map_toArray, List.map_cons, List.map_nil, hs, hx, hr]
  exact hK _ _ (h v' w' h2 h3 h5)
theorem own_block_lt {w : World} {base : Nat} {e : TypeId} {size n : Nat} {v : Value} {xs : List Value} (h : w.ownsRow base e size v n xs) {k : Nat} (hk : v.ownBlock = some k) : base ≤ k ∧ k < w.heap.size := h.lt k hk
theorem own_block_bk {w : World} {base n : Nat} {e : TypeId} {v : Value} {xs : List Value} (h : w.ownsRow base e 1 v n xs) {k : Nat} (hk : v.ownBlock = some k) : ∃ cs, Bk w k e cs := by
  rcases h.2 with ⟨rfl, _⟩ | ⟨gb, cap, cur, rfl, _, hgb, _⟩
  · cases hk
  · obtain rfl : gb = k := Option.some.inj hk
    exact ⟨_, hgb⟩
def TB (G : Nat → Prop) (s : CS) : Prop := HM (fun (x : Rw) v => ∀ A c, v = rowV A x.v.length c x.ord → ∀ b o, A = some ⟨b, o, none⟩ → G b) s.RL s.rows
theorem rowV_inj {A A' : Option Addr} {n n' c c' o o' : Nat} (h : rowV A n c o = rowV A' n' c' o') : A = A' := by
  unfold rowV at h
  injection h with h
  simp at h
  exact h.1.1
theorem TB.mono2 {G1 G2 G3 : Nat → Prop} {s : CS} (h1 : TB G1 s) (h2 : TB G2 s) (hm : ∀ b, G1 b → G2 b → G3 b) : TB G3 s :=
  ⟨fun x hx => by
    obtain ⟨v, hv, a1⟩ := h1.some_ x hx
    obtain ⟨v', hv', a2⟩ := h2.some_ x hx
    obtain rfl : v = v' := by rw [hv] at hv'; exact Option.some.inj hv'
    exact ⟨v, hv, fun A c e b o hA => hm b (a1 A c e b o hA) (a2 A c e b o hA)⟩, h1.none_, h1.len⟩
theorem TB.eq {G : Nat → Prop} {s s' : CS} (h : TB G s) (h1 : s'.RL = s.RL) (h2 : s'.rows = s.rows) : TB G s' := by
  unfold TB
  rw [h1, h2]
  exact h
theorem mdel_keys {L : List Ent} (i : Int) (h : (L.map Ent.k).Nodup) : ((mdel i L).map Ent.k).Nodup := ((mdel_sub i L).map Ent.k).nodup h
theorem TB.rels {G : Nat → Prop} {n : Nat} : ∀ (L : List Nat) (s : CS), TB G s → IS n s.rows → (s.RL.map Ent.k).Nodup → TB G (s.rels L)
  | [], s, h, _, _ => h
  | i :: L, s, h, hs, hk => by
    have h1 : TB G (s.rel i) := HM.del h hs hk
    have h2 := TB.rels L (s.rel i) h1 (hs.del i) (mdel_keys _ hk)
    exact h2.eq rfl rfl
/-- Block g is a cache that holds this; its blocks are among F's, its tokens lie in G's. -/
def Tch (F G : Nat → Prop) (w : World) (g : Nat) (v : CV) : Prop := ∃ s, CM w g s ∧ s.tv = v ∧ (∀ b, cfp g s b → F b) ∧ TB G s
theorem Tch.cch {F G : Nat → Prop} {w : World} {g : Nat} {v : CV} (h : Tch F G w g v) : Cch F w g v := by
  obtain ⟨s, hm, e, hf, _⟩ := h
  exact ⟨s, hm, e, hf⟩
theorem Tch.kept {F G S : Nat → Prop} {w w' : World} {g : Nat} {v : CV} (h : Tch F G w g v) (hk : Kp S w w') (hS : ∀ b, b < w.heap.size → F b → ¬ S b) (h3 : ∀ b cs, Bk w b 3 cs → ¬ S b) : Tch F G w' g v := by
  obtain ⟨s, hm, e, hf, ht⟩ := h
  exact ⟨s, hm.kept hk (fun b hb => hS b (hm.lt hb) (hf b hb)) h3, e, hf, ht⟩
theorem Tch.none_kept {F G : Nat → Prop} {w w' : World} {g : Nat} {v : CV} (h : Tch F G w g v) (hk : Kp (fun _ => False) w w') : Tch F G w' g v := h.kept hk (fun _ _ _ f => f) (fun _ _ _ f => f)
theorem Tch.mono {F G F' G' : Nat → Prop} {w : World} {g : Nat} {v : CV} (h : Tch F G w g v) (hs : ∀ b, b < w.heap.size → F b → F' b) (hg : ∀ b, b < w.heap.size → G b → G' b) : Tch F' G' w g v := by
  obtain ⟨s, hm, e, hf, ht⟩ := h
  exact ⟨s, hm, e, fun b hb => hs b (hm.lt hb) (hf b hb), TB.mono2 (G1 := fun b => b < w.heap.size) hm.rb ht (fun b h1 h2 => hg b h1 h2)⟩
theorem Whl.kept3 {F S : Nat → Prop} {w w' : World} {g now : Nat} {R : Rows} (h : Whl F w g now R) (hk : Kp S w w') (hS : ∀ b, S b → ∃ cs, Bk w b 3 cs) : Whl F w' g now R := by
  obtain ⟨s, wm, inv, ag, hf, hk'⟩ := h
  exact ⟨s, wm.kept hk (fun b hb hs => by obtain ⟨cs, hc⟩ := hS b hs; exact fp_not wm hc (by decide) hb), inv, ag, hf, hk'⟩
/-- Rows of numbers that are none of its own are written: it is as it was. -/
theorem Tch.kept3 {F G S : Nat → Prop} {w w' : World} {g : Nat} {v : CV} (h : Tch F G w g v) (hk : Kp S w w') (hS : ∀ b, S b → ∃ cs, Bk w b 3 cs) (hG : ∀ b, G b → ¬ S b) : Tch F G w' g v := by
  obtain ⟨s, h, e, hf, ht⟩ := h
  refine ⟨s, ⟨h.bk.kept hk (fun hs => ?_), h.em.kept hk (fun hs => ?_), h.rm.kept hk (fun hs => ?_), h.eh,
    ⟨fun x hx => ?_, h.rh.none_, h.rh.len⟩, h.lw.kept3 hk hS, h.ww.kept3 hk hS, h.es, h.rs, h.er, h.rr,
    fun b hb => Nat.lt_of_lt_of_le (h.f1lt b hb) hk.size, fun b hb => Nat.lt_of_lt_of_le (h.f2lt b hb) hk.size, h.dj, h.e1, h.e2, h.r1, h.r2, h.ne, h.g1, h.g2⟩, e, hf, ht⟩
  · obtain ⟨cs, hc⟩ := hS _ hs
    exact h.bk.ne_of hc (by decide) rfl
  · obtain ⟨cs, hc⟩ := hS _ hs
    exact not_map_bk h.em hc
  · obtain ⟨cs, hc⟩ := hS _ hs
    exact not_map_bk h.rm hc
  · obtain ⟨v, hv, A, c, e, hr1, hn⟩ := h.rh.some_ x hx
    obtain ⟨v', hv', hb⟩ := ht.some_ x hx
    obtain rfl : v = v' := by rw [hv] at hv'; exact Option.some.inj hv'
    exact ⟨v, hv, A, c, e, hr1.kp hk (fun b o cs hA _ => hG b (hb A c e b o hA)), hn⟩
theorem ulearn (F G : Nat → Prop) (g i now : Nat) (m : M6) (v : CV) (w : World) (h : Tch F G w g v) (hv : VOK v) (hF : ∀ b, w.heap.size ≤ b → F b) (hi : i < 4294967296) (hc : v.count < 1000000) :
    Calls Tryz.prog 9 #[.pointer (some ⟨g, 0, none⟩), .int .u32 (i : Int), macV m, .int .u64 (now : Int)] w fun ev w' => ∃ A c, ev = .returned (.slice A (tokof v.rows i).length c) ∧ RdN w' A (tokof v.rows i) ∧ Tch F G w' g (v.learn i m now) ∧ Kp (FC F w) w w' := by
  obtain ⟨s, hm, rfl, hf, ht⟩ := h
  refine (clearn g i now m s w hm hi hc ⟨hv.room.1, by have := hv.room.2; simp only [CS.tv] at this; omega⟩ hv.elen hv.life hv.eip).mono ?_
  rintro ev w' ⟨A, c, s', rfl, hr, hm', hl, hk, hs⟩
  refine ⟨A, c, rfl, hr, ⟨s', hm', ?_, fun b hb => (hs b hb).elim (hf b) (hF b), ?_⟩, FC.of hf hk⟩
  · obtain ⟨a1, a2, a3, a4, a5, a6, a7, _⟩ := hl
    simp only [CS.tv, CV.learn, a1, a2, a3, a4, a5, a6, a7]
  · have h1 : TB G (s.rel i) := HM.del ht hm.rs hm.rm.keys
    exact h1.eq hl.RL hl.rows
theorem uwait (F G : Nat → Prop) (g i now : Nat) (t : Int) (v : CV) (w : World) (h : Tch F G w g v) (hv : VOK v) (hF : ∀ b, w.heap.size ≤ b → F b) (hG : ∀ b, w.heap.size ≤ b → G b) (hi : i < 4294967296) (hc : v.count < 1000000) :
    Calls Tryz.prog 10 #[.pointer (some ⟨g, 0, none⟩), .int .u32 (i : Int), .int .i64 t, .int .u64 (now : Int)] w fun ev w' => ev = .returned (.tuple #[.bool (v.wait_ i t now).2.1, .int .i64 (((v.wait_ i t now).2.2 : Nat) : Int)]) ∧ Tch F G w' g (v.wait_ i t now).1 ∧ Kp (FC F w) w w' := by
  obtain ⟨s, hm, rfl, hf, ht⟩ := h
  have h1 := hv.room.2
  have h2 := hv.wait.2
  simp only [CS.tv] at h1 h2
  refine (cwait g i now t s w hm hi hc (by omega) (by omega) hv.pat).mono ?_
  unfold CV.wait_
  rintro ev w' (⟨hq, rfl, hk⟩ | ⟨x, hx, hl, rfl, A, c, c1, hm', hA, hk⟩ | ⟨hx, hl, rfl, s', hm', hb, hk, hs, A, c, c0, hRL, hA⟩)
  · rcases hq with ⟨x, hx, hl⟩ | ⟨hx, hl⟩
    · rw [show iget i s.tv.rows = some x from hx]
      dsimp only
      rw [if_pos (show s.tv.wait ≤ x.v.length from hl)]
      exact ⟨rfl, ⟨s, hm.none_kept hk, rfl, hf, ht⟩, hk.mono (fun _ f => f.elim)⟩
    · rw [show iget i s.tv.rows = none from hx]
      dsimp only
      rw [if_pos (show s.tv.room ≤ s.tv.rows.length from hl)]
      exact ⟨rfl, ⟨s, hm.none_kept hk, rfl, hf, ht⟩, hk.mono (fun _ f => f.elim)⟩
  · rw [show iget i s.tv.rows = some x from hx]
    dsimp only
    rw [if_neg (show ¬ s.tv.wait ≤ x.v.length from Nat.not_le.2 hl)]
    exact ⟨rfl, ⟨_, hm', rfl, fun b hb => hf b hb, HM.set ht hm.rs hx (fun A' c' e b o hA' => by
      rw [← rowV_inj e] at hA'
      exact hG b (hA b o hA'))⟩, FC.of hf hk⟩
  · rw [show iget i s.tv.rows = none from hx]
    dsimp only
    rw [if_neg (show ¬ s.tv.room ≤ s.tv.rows.length from Nat.not_le.2 hl)]
    refine ⟨rfl, ⟨s', hm', ?_, fun b hb => (hs b hb).elim (hf b) (hF b), ?_⟩, FC.of hf hk⟩
    · obtain ⟨a1, a2, a3, a4, a5, a6, a7⟩ := hb
      simp only [CS.tv, a1, a2, a3, a4, a5, a6, a7]
    · unfold TB
      rw [hRL, hb.rows]
      exact HM.put (x := ⟨i, [t], s.count + 1, min now MT + s.pat⟩) ht hm.rs hx (fun A' c' e b o hA' => by
        rw [← rowV_inj e] at hA'
        exact hG b (hA b o hA'))
theorem usweep (F G : Nat → Prop) (g now : Nat) (v : CV) (w : World) (h : Tch F G w g v) (hv : VOK v) (hT : Tab w) (h0 : ¬ F 0) :
    Calls Tryz.prog 11 #[.pointer (some ⟨g, 0, none⟩), .int .u64 (now : Int)] w fun ev w' => ∃ u A, ev = .returned u ∧ Got (min now MT) v.rows A ∧ w'.ownsRow w.heap.size 3 1 u (outs A v.rows).length (intsK .i64 (outs A v.rows)) ∧ Tch F G w' g (v.left (min now MT)) ∧ Kp (FC F w) w w' := by
  obtain ⟨s, hm, rfl, hf, ht⟩ := h
  have h1 := hv.room.2
  have h2 := hv.wait.2
  have h3 := hv.elen
  have h4 := hv.rlen
  have h5 := hv.vlen
  simp only [CS.tv] at h1 h2 h3 h4 h5
  refine (csweep g now s w hm hT (fun hh => h0 (hf 0 hh)) (by omega) (by omega) (fun r hr => by have := h5 r hr; omega) hv.eip hv.rip).mono ?_
  rintro ev w' ⟨u, A1, A2, rfl, hA1, hA2, ho, hm', hk⟩
  refine ⟨u, A2, rfl, ⟨_, hm.rr, hA2⟩, ho, ⟨_, hm', ?_, fun b hb => hf b hb, TB.rels A2 (s.drops A1) (ht.eq rfl rfl) hm.rs hm.rm.keys⟩, FC.of hf hk⟩
  have e1 := hm.er.gone hm.es hA1
  have e2 := hm.rr.gone hm.rs hA2
  simp only [CS.tv, CS.rels, CS.drops, CV.left, e1, e2]
theorem uclone (F G : Nat → Prop) (g : Nat) (v : CV) (w : World) (h : Tch F G w g v) :
    Calls Tryz.prog 19 #[.pointer (some ⟨g, 0, none⟩)] w fun ev w' => ∃ g', ev = .returned (.pointer (some ⟨g', 0, none⟩)) ∧ Tch (fun b => w.heap.size ≤ b) G w' g' v ∧ Kp (fun _ => False) w w' := by
  obtain ⟨s, hm, rfl, hf, ht⟩ := h
  refine (cdup g s w hm).mono ?_
  rintro ev w' ⟨g', e, r, g1, g2, F1, F2, rfl, hm', hk, hb⟩
  exact ⟨g', rfl, ⟨_, hm', rfl, hb, ht.eq rfl rfl⟩, hk⟩
theorem unew (G : Nat → Prop) (room wait life pat : Nat) (w : World) (hr : Rgt (room : Int) (wait : Int) life pat) :
    Calls Tryz.prog 8 #[.int .i64 (room : Int), .int .i64 (wait : Int), .int .u64 (life : Int), .int .u64 (pat : Int)] w fun ev w' => ∃ g, ev = .returned (.tuple #[.pointer (some ⟨g, 0, none⟩), .int .i64 0]) ∧ Tch (fun b => w.heap.size ≤ b) G w' g (CV.empty room wait life pat) ∧ Kp (fun _ => False) w w' := by
  refine (cnew room wait life pat w hr).mono ?_
  rintro ev w' ⟨g, s, rfl, hm, a1, a2, a3, a4, a5, a6, a7, hb, hk⟩
  exact ⟨g, rfl, ⟨s, hm, by simp only [CS.tv, CV.empty, a1, a2, a3, a4, a5, a6, a7], hb, ⟨fun x hx => (by rw [a7] at hx; cases hx), hm.rh.none_, hm.rh.len⟩⟩, hk⟩
/-- How it stands in a law: what was there is as it was; the cache's blocks are among F's, its tokens in G's. -/
structure AT (w : World) (F G : Nat → Prop) (g : Nat) (v : CV) (W : World) : Prop where
  kp : Kp (fun _ => False) w W
  c : Tch F G W g v
  ok : VOK v
  old : ∀ b, b < w.heap.size → ¬ F b
  new : ∀ b, W.heap.size ≤ b → F b
theorem AT.step {w W W' : World} {F G : Nat → Prop} {g : Nat} {v v' : CV} (h : AT w F G g v W) (hc : Tch F G W' g v') (hv : VOK v') (k : Kp (FC F W) W W') : AT w F G g v' W' :=
  ⟨h.kp.trans k (fun b hb hf => h.old b hb hf.1), hc, hv, h.old, fun b hb => h.new b (Nat.le_trans k.size hb)⟩
theorem AT.none {w W W' : World} {F G : Nat → Prop} {g : Nat} {v : CV} (h : AT w F G g v W) (k : Kp (fun _ => False) W W') : AT w F G g v W' :=
  ⟨h.kp.trans' k, h.c.none_kept k, h.ok, h.old, fun b hb => h.new b (Nat.le_trans k.size hb)⟩
theorem AT.tab {w W : World} {F G : Nat → Prop} {g : Nat} {v : CV} (h : AT w F G g v W) (hT : Tab w) : Tab W := hT.kept h.kp (fun f => f)
theorem AT.mono {w W : World} {F G G' : Nat → Prop} {g : Nat} {v : CV} (h : AT w F G g v W) (hg : ∀ b, b < W.heap.size → G b → G' b) : AT w F G' g v W :=
  ⟨h.kp, h.c.mono (fun _ _ f => f) hg, h.ok, h.old, h.new⟩
theorem AT.made {w W W' : World} {G : Nat → Prop} {g : Nat} {v : CV} (hk : Kp (fun _ => False) w W) (hc : Tch (fun b => W.heap.size ≤ b) G W' g v) (hv : VOK v) (k : Kp (fun _ => False) W W') : AT w (fun b => W.heap.size ≤ b) G g v W' :=
  ⟨hk.trans' k, hc, hv, fun b hb hf => by have := hk.size; omega, fun b hb => Nat.le_trans k.size hb⟩
/-- A row of the law's own grows. -/
theorem AT.grows {w W0 W W' : World} {F G G' : Nat → Prop} {g n : Nat} {v : CV} {u u' : Value} {xs : List Value} (h : AT w F G g v W0) (k0 : Kp (fun _ => False) W0 W) (ho : W0.ownsRow w.heap.size 3 1 u n xs) (hg : W.grownBy W' u.ownBlock) (hG : ∀ b, G b → u.ownBlock ≠ some b)
    (hu : u'.ownBlock = u.ownBlock ∨ u'.ownBlock = some W.heap.size) (hG' : ∀ b, b < W.heap.size → G b → u'.ownBlock ≠ some b → G' b) : AT w F G' g v W' := by
  have h1 := h.none k0
  have ho1 := own_kp ho k0 (fun _ _ f => f)
  have hk : Kp (fun b => u.ownBlock = some b) W W' := (Kp.refl _ W).grown hg (fun q hq => .inl hq)
  refine ⟨h1.kp.trans hk (fun b hb hs => ?_), ?_, h.ok, h.old, fun b hb => h1.new b (Nat.le_trans hk.size hb)⟩
  · have := (ho1.lt b hs).1
    omega
  · have h2 := h1.c.mono (F' := F) (G' := fun b => G b ∧ G' b) (fun b _ hf => hf) (fun b hb hb2 => ⟨hb2, hG' b hb hb2 (fun e => by
      rcases hu with hu | hu
      · rw [hu] at e; exact hG b hb2 e
      · rw [hu] at e
        have : W.heap.size = b := Option.some.inj e
        omega)⟩)
    have h3 := h2.kept3 hk (fun b hb => own_block_bk ho1 hb) (fun b hb => hG b hb.1)
    exact h3.mono (fun b _ hf => hf) (fun b _ hb => hb.2)
end Go.Proofs.YtgidjgkafbjkpaaGreatDoor
