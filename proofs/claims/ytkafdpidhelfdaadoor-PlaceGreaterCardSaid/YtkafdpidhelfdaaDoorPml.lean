/- Place: alive. -/
import Derived.Test.YtkafdpidhelfdaaDoorPmk
set_option linter.unusedVariables false
set_option linter.unusedSimpArgs false
namespace Go.Proofs.YtkafdpidhelfdaaDoor
open Go.RowKit

theorem al_pa (w : World) (h : Laid2 w) : Calls Tryd.prog 25 #[.string ⟨#[49, 48, 46, 48, 46, 48, 46, 49]⟩] w fun ev w' => ev = .returned (.tuple #[.int .u32 167772161, .int .i64 0]) ∧ Kp (fun _ => False) w w' := by
  have q := parse_ ⟨#[49, 48, 46, 48, 46, 48, 46, 49]⟩ w (by decide) h.laid
  rw [parseV_yes (ip := 167772161) (by decide) (by decide +kernel)] at q
  exact q
theorem al_pb (w : World) (h : Laid2 w) : Calls Tryd.prog 25 #[.string ⟨#[49, 48, 46, 48, 46, 48, 46, 48, 49]⟩] w fun ev w' => ev = .returned (.tuple #[.int .u32 0, .int .i64 10]) ∧ Kp (fun _ => False) w w' := by
  have q := parse_ ⟨#[49, 48, 46, 48, 46, 48, 46, 48, 49]⟩ w (by decide) h.laid
  have hp : pfold (partsB ⟨#[49, 48, 46, 48, 46, 48, 46, 48, 49]⟩) = some 167772161 := by decide +kernel
  have e : parseV ⟨#[49, 48, 46, 48, 46, 48, 46, 48, 49]⟩ = .tuple #[.int .u32 0, .int .i64 10] := by
    unfold parseV
    rw [hp]
    exact if_neg (by decide +kernel)
  rw [e] at q
  exact q
theorem al_ma (w : World) (h : Laid2 w) : Calls Tryd.prog 27 #[.string ⟨#[48, 48, 58, 49, 97, 58, 102, 102, 58, 48, 48, 58, 48, 48, 58, 48, 57]⟩] w fun ev w' => ev = .returned (.tuple #[.agg #[.int .u8 0, .int .u8 26, .int .u8 255, .int .u8 0, .int .u8 0, .int .u8 9], .int .i64 0]) ∧ Kp (fun _ => False) w w' := by
  refine (parsemac_ ⟨#[48, 48, 58, 49, 97, 58, 102, 102, 58, 48, 48, 58, 48, 48, 58, 48, 57]⟩ w (by decide) h).mono ?_
  rintro ev w' ⟨⟨v, rfl, hv⟩, k⟩
  have e := hv.of (a := 0) (b := 26) (c := 255) (d := 0) (e := 0) (f := 9) (by decide) (by decide +kernel)
  subst e
  exact ⟨rfl, k⟩
theorem hexd_65 : ∀ p < 16, hexd p ≠ 65 := by decide +kernel
theorem al_mb (w : World) (h : Laid2 w) : Calls Tryd.prog 27 #[.string ⟨#[48, 48, 58, 49, 65, 58, 102, 102, 58, 48, 48, 58, 48, 48, 58, 48, 57]⟩] w fun ev w' => ev = .returned (.tuple #[.agg #[.int .u8 0, .int .u8 0, .int .u8 0, .int .u8 0, .int .u8 0, .int .u8 0], .int .i64 10]) ∧ Kp (fun _ => False) w w' := by
  refine (parsemac_ ⟨#[48, 48, 58, 49, 65, 58, 102, 102, 58, 48, 48, 58, 48, 48, 58, 48, 57]⟩ w (by decide) h).mono ?_
  rintro ev w' ⟨⟨v, rfl, hv⟩, k⟩
  rcases hv with ⟨a, b, c, d, e, f, hb, hs, rfl⟩ | ⟨_, rfl⟩
  · exfalso
    have q := congrArg (fun l => l[4]?) hs
    have q2 : some (65 : UInt8) = some (hexd (b % 16)) := q
    injection q2 with q2
    exact hexd_65 (b % 16) (Nat.mod_lt _ (by decide)) q2.symm
  · exact ⟨rfl, k⟩
theorem al_r (w : World) : Calls Tryd.prog 9 #[.agg #[.int .u32 167772161, .int .i64 24]] w fun ev w' => ev = .returned (.bool true) ∧ Kp (fun _ => False) w w' := by
  have q := right_ 167772161 24 w (by decide)
  rw [show nright 167772161 24 = true by decide +kernel] at q
  exact q
theorem al_b (w : World) : Calls Tryd.prog 11 #[.agg #[.int .u32 167772161, .int .i64 24]] w fun ev w' => ev = .returned (.int .u32 167772160) ∧ Kp (fun _ => False) w w' := by
  have q := base_ 167772161 24 w (by decide)
  rw [show nbase 167772161 24 = 167772160 by decide +kernel] at q
  exact q
theorem al_l (w : World) : Calls Tryd.prog 13 #[.agg #[.int .u32 167772161, .int .i64 24]] w fun ev w' => ev = .returned (.int .u32 167772415) ∧ Kp (fun _ => False) w w' := by
  have q := last_ 167772161 24 w (by decide)
  rw [show nlast 167772161 24 = 167772415 by decide +kernel] at q
  exact q
theorem al_h (w : World) : Calls Tryd.prog 15 #[.agg #[.int .u32 167772161, .int .i64 24], .int .u32 167772415] w fun ev w' => ev = .returned (.bool true) ∧ Kp (fun _ => False) w w' := by
  have q := has_ 167772161 167772415 24 w (by decide) (by decide)
  rw [show nhas 167772161 24 167772415 = true by decide +kernel] at q
  exact q
theorem al_o (w : World) : Calls Tryd.prog 17 #[.agg #[.int .u32 167772161, .int .i64 24], .int .u32 167772415] w fun ev w' => ev = .returned (.bool false) ∧ Kp (fun _ => False) w w' := by
  have q := host_ 167772161 167772415 24 w (by decide) (by decide)
  rw [show nhost 167772161 24 167772415 = false by decide +kernel] at q
  exact q
theorem al_p (w : World) : Calls Tryd.prog 17 #[.agg #[.int .u32 167772161, .int .i64 24], .int .u32 167772414] w fun ev w' => ev = .returned (.bool true) ∧ Kp (fun _ => False) w w' := by
  have q := host_ 167772161 167772414 24 w (by decide) (by decide)
  rw [show nhost 167772161 24 167772414 = true by decide +kernel] at q
  exact q
theorem al_m (w : World) : Calls Tryd.prog 19 #[.agg #[.int .u32 167772161, .int .i64 24]] w fun ev w' => ev = .returned (.int .u32 4294967040) ∧ Kp (fun _ => False) w w' := by
  have q := mask_ 167772161 24 w
  rw [show nmask 24 = 4294967040 by decide +kernel] at q
  exact q
theorem al_x (w : World) : Calls Tryd.prog 21 #[.agg #[.int .u32 167772161, .int .i64 24], .agg #[.int .u32 167772417, .int .i64 24]] w fun ev w' => ev = .returned (.bool true) ∧ Kp (fun _ => False) w w' := by
  have q := apart_ 167772161 167772417 24 24 w (by decide) (by decide)
  rw [show napart 167772161 24 167772417 24 = true by decide +kernel] at q
  exact q
theorem al_y (w : World) : Calls Tryd.prog 21 #[.agg #[.int .u32 167772161, .int .i64 24], .agg #[.int .u32 167772417, .int .i64 16]] w fun ev w' => ev = .returned (.bool false) ∧ Kp (fun _ => False) w w' := by
  have q := apart_ 167772161 167772417 24 16 w (by decide) (by decide)
  rw [show napart 167772161 24 167772417 16 = false by decide +kernel] at q
  exact q
theorem al_t (w : World) (h : Laid2 w) : Calls Tryd.prog 31 #[.agg #[.int .u8 0, .int .u8 26, .int .u8 255, .int .u8 0, .int .u8 0, .int .u8 9]] w fun ev w' => ev = .returned (.string ⟨#[48, 48, 58, 49, 97, 58, 102, 102, 58, 48, 48, 58, 48, 48, 58, 48, 57]⟩) ∧ Kp (fun _ => False) w w' := by
  have q := mactext_ 0 26 255 0 0 9 w (by decide) (by decide) (by decide) (by decide) (by decide) (by decide) h.tz
  rw [show macL [0, 26, 255, 0, 0, 9] = [48, 48, 58, 49, 97, 58, 102, 102, 58, 48, 48, 58, 48, 48, 58, 48, 57] by decide +kernel] at q
  exact q
theorem al_u (w : World) (h : Laid2 w) : Calls Tryd.prog 29 #[.int .u32 167772161] w fun ev w' => ev = .returned (.string ⟨#[49, 48, 46, 48, 46, 48, 46, 49]⟩) ∧ Kp (fun _ => False) w w' := by
  have q := text_ 167772161 w (by decide) h.laid
  rw [show textL 167772161 = [49, 48, 46, 48, 46, 48, 46, 49] by decide +kernel] at q
  exact q
theorem al_a (w : World) : Calls Tryd.prog 34 #[] w fun ev w' => ev = .returned (.agg #[.int .u8 255, .int .u8 255, .int .u8 255, .int .u8 255, .int .u8 255, .int .u8 255]) ∧ Kp (fun _ => False) w w' := all_ w
theorem al_g (w : World) : Calls Tryd.prog 33 #[.agg #[.int .u8 255, .int .u8 255, .int .u8 255, .int .u8 255, .int .u8 255, .int .u8 255]] w fun ev w' => ev = .returned (.bool true) ∧ Kp (fun _ => False) w w' := by
  have q := group_ 255 255 255 255 255 255 w (by decide)
  rw [show decide (255 % 2 = 1) = true by decide] at q
  exact q
theorem al_k (w : World) : Calls Tryd.prog 33 #[.agg #[.int .u8 0, .int .u8 26, .int .u8 255, .int .u8 0, .int .u8 0, .int .u8 9]] w fun ev w' => ev = .returned (.bool false) ∧ Kp (fun _ => False) w w' := by
  have q := group_ 0 26 255 0 0 9 w (by decide)
  rw [show decide (0 % 2 = 1) = false by decide] at q
  exact q
theorem al_s (w : World) : Calls Tryd.prog 23 #[.int .u32 167772161] w fun ev w' => ev = .returned (.bool true) ∧ Kp (fun _ => False) w w' := by
  have q := single_ 167772161 w (by decide)
  rw [show single 167772161 = true by decide +kernel] at q
  exact q
theorem al_z (w : World) : Calls Tryd.prog 23 #[.int .u32 2130706433] w fun ev w' => ev = .returned (.bool false) ∧ Kp (fun _ => False) w w' := by
  have q := single_ 2130706433 w (by decide)
  rw [show single 2130706433 = false by decide +kernel] at q
  exact q
set_option maxRecDepth 1000000 in
set_option maxHeartbeats 8000000 in
theorem alive04 (w : World) (hl : Laid2 w) : Calls Tryd.prog 7 #[] w fun ev w' => ev = .returned (.bool true) ∧ Kp (fun _ => False) w w' := by
  have HL := Lib.hid hl
  clear hl
  have K := Lib.hid ((Kp.refl (fun _ => False) w).alloc (.cells #[.int .u32 167772161, .int .i64 24] 24))
  have B1 := Lib.hid (Bk.new w 24 #[.int .u32 167772161, .int .i64 24])
  go_enter Tryd.func7, Tryd.ntmps7
  go_wp2_with fail
  refine (al_pa _ (HL.out.keep K.out)).mono ?_
  rintro ev w1 ⟨rfl, k1⟩
  have K := Lib.hid (K.out.trans' k1)
  have B1 := Lib.hid (B1.out.kept k1 (fun f => f))
  clear k1
  go_wp2_with fail
  refine (al_pb _ (HL.out.keep K.out)).mono ?_
  rintro ev w2 ⟨rfl, k2⟩
  have K := Lib.hid (K.out.trans' k2)
  have B1 := Lib.hid (B1.out.kept k2 (fun f => f))
  clear k2
  go_wp2_with fail
  refine (al_ma _ (HL.out.keep K.out)).mono ?_
  rintro ev w3 ⟨rfl, k3⟩
  have K := Lib.hid (K.out.trans' k3)
  have B1 := Lib.hid (B1.out.kept k3 (fun f => f))
  clear k3
  have kA := (Kp.refl (fun _ => False) w3).alloc (.cells #[.int .u8 0, .int .u8 26, .int .u8 255, .int .u8 0, .int .u8 0, .int .u8 9] 37)
  have K := Lib.hid (K.out.trans' kA)
  have B1 := Lib.hid (B1.out.kept kA (fun f => f))
  have B2 := Lib.hid (Bk.new w3 37 #[.int .u8 0, .int .u8 26, .int .u8 255, .int .u8 0, .int .u8 0, .int .u8 9])
  clear kA
  go_wp2_with fail
  refine (al_mb _ (HL.out.keep K.out)).mono ?_
  rintro ev w4 ⟨rfl, k4⟩
  have K := Lib.hid (K.out.trans' k4)
  have B1 := Lib.hid (B1.out.kept k4 (fun f => f))
  have B2 := Lib.hid (B2.out.kept k4 (fun f => f))
  clear k4
  have kA := (Kp.refl (fun _ => False) w4).alloc (.cells #[.int .u8 0, .int .u8 0, .int .u8 0, .int .u8 0, .int .u8 0, .int .u8 0] 37)
  have K := Lib.hid (K.out.trans' kA)
  have B1 := Lib.hid (B1.out.kept kA (fun f => f))
  have B2 := Lib.hid (B2.out.kept kA (fun f => f))
  clear kA
  generalize hW : w4.alloc (.cells #[.int .u8 0, .int .u8 0, .int .u8 0, .int .u8 0, .int .u8 0, .int .u8 0] 37) = w5 at K B1 B2
  have HW := Lib.hid hW
  have hs := congrArg (fun W => W.heap.size) hW
  have hWc : ∀ p, (w4.alloc (.cells #[.int .u8 0, .int .u8 0, .int .u8 0, .int .u8 0, .int .u8 0, .int .u8 0] 37)).cell? p = w5.cell? p := fun p => by rw [hW]
  clear hW hs hWc
  have q0 : (w4.alloc (.cells #[.int .u8 0, .int .u8 0, .int .u8 0, .int .u8 0, .int .u8 0, .int .u8 0] 37)).cell? ⟨w.heap.size, 0, none⟩ = some (.int .u32 167772161) := HW.out ▸ B1.out.cell 0
  have q1 : (w4.alloc (.cells #[.int .u8 0, .int .u8 0, .int .u8 0, .int .u8 0, .int .u8 0, .int .u8 0] 37)).cell? ⟨w.heap.size, 1, none⟩ = some (.int .i64 24) := HW.out ▸ B1.out.cell 1
  have r0 : (w4.alloc (.cells #[.int .u8 0, .int .u8 0, .int .u8 0, .int .u8 0, .int .u8 0, .int .u8 0] 37)).cell? ⟨w3.heap.size, 0, none⟩ = some (.int .u8 0) := HW.out ▸ B2.out.cell 0
  have r1 : (w4.alloc (.cells #[.int .u8 0, .int .u8 0, .int .u8 0, .int .u8 0, .int .u8 0, .int .u8 0] 37)).cell? ⟨w3.heap.size, 1, none⟩ = some (.int .u8 26) := HW.out ▸ B2.out.cell 1
  have r2 : (w4.alloc (.cells #[.int .u8 0, .int .u8 0, .int .u8 0, .int .u8 0, .int .u8 0, .int .u8 0] 37)).cell? ⟨w3.heap.size, 2, none⟩ = some (.int .u8 255) := HW.out ▸ B2.out.cell 2
  have r3 : (w4.alloc (.cells #[.int .u8 0, .int .u8 0, .int .u8 0, .int .u8 0, .int .u8 0, .int .u8 0] 37)).cell? ⟨w3.heap.size, 3, none⟩ = some (.int .u8 0) := HW.out ▸ B2.out.cell 3
  have r4 : (w4.alloc (.cells #[.int .u8 0, .int .u8 0, .int .u8 0, .int .u8 0, .int .u8 0, .int .u8 0] 37)).cell? ⟨w3.heap.size, 4, none⟩ = some (.int .u8 0) := HW.out ▸ B2.out.cell 4
  have r5 : (w4.alloc (.cells #[.int .u8 0, .int .u8 0, .int .u8 0, .int .u8 0, .int .u8 0, .int .u8 0] 37)).cell? ⟨w3.heap.size, 5, none⟩ = some (.int .u8 9) := HW.out ▸ B2.out.cell 5
  go_wp2_with fail
  rw [HW.out]
  refine (al_r _ ).mono ?_
  rintro ev x0 ⟨rfl, k⟩
  clear q0 q1 r0 r1 r2 r3 r4 r5
  have K := Lib.hid (K.out.trans' k)
  have B1 := Lib.hid (B1.out.kept k (fun f => f))
  have B2 := Lib.hid (B2.out.kept k (fun f => f))
  clear k
  have q0 : x0.cell? ⟨w.heap.size, 0, none⟩ = some (.int .u32 167772161) := B1.out.cell 0
  have q1 : x0.cell? ⟨w.heap.size, 1, none⟩ = some (.int .i64 24) := B1.out.cell 1
  have r0 : x0.cell? ⟨w3.heap.size, 0, none⟩ = some (.int .u8 0) := B2.out.cell 0
  have r1 : x0.cell? ⟨w3.heap.size, 1, none⟩ = some (.int .u8 26) := B2.out.cell 1
  have r2 : x0.cell? ⟨w3.heap.size, 2, none⟩ = some (.int .u8 255) := B2.out.cell 2
  have r3 : x0.cell? ⟨w3.heap.size, 3, none⟩ = some (.int .u8 0) := B2.out.cell 3
  have r4 : x0.cell? ⟨w3.heap.size, 4, none⟩ = some (.int .u8 0) := B2.out.cell 4
  have r5 : x0.cell? ⟨w3.heap.size, 5, none⟩ = some (.int .u8 9) := B2.out.cell 5
  go_wp2_with fail
  refine (al_b _ ).mono ?_
  rintro ev x1 ⟨rfl, k⟩
  clear q0 q1 r0 r1 r2 r3 r4 r5
  have K := Lib.hid (K.out.trans' k)
  have B1 := Lib.hid (B1.out.kept k (fun f => f))
  have B2 := Lib.hid (B2.out.kept k (fun f => f))
  clear k
  have q0 : x1.cell? ⟨w.heap.size, 0, none⟩ = some (.int .u32 167772161) := B1.out.cell 0
  have q1 : x1.cell? ⟨w.heap.size, 1, none⟩ = some (.int .i64 24) := B1.out.cell 1
  have r0 : x1.cell? ⟨w3.heap.size, 0, none⟩ = some (.int .u8 0) := B2.out.cell 0
  have r1 : x1.cell? ⟨w3.heap.size, 1, none⟩ = some (.int .u8 26) := B2.out.cell 1
  have r2 : x1.cell? ⟨w3.heap.size, 2, none⟩ = some (.int .u8 255) := B2.out.cell 2
  have r3 : x1.cell? ⟨w3.heap.size, 3, none⟩ = some (.int .u8 0) := B2.out.cell 3
  have r4 : x1.cell? ⟨w3.heap.size, 4, none⟩ = some (.int .u8 0) := B2.out.cell 4
  have r5 : x1.cell? ⟨w3.heap.size, 5, none⟩ = some (.int .u8 9) := B2.out.cell 5
  go_wp2_with fail
  refine (al_l _ ).mono ?_
  rintro ev x2 ⟨rfl, k⟩
  clear q0 q1 r0 r1 r2 r3 r4 r5
  have K := Lib.hid (K.out.trans' k)
  have B1 := Lib.hid (B1.out.kept k (fun f => f))
  have B2 := Lib.hid (B2.out.kept k (fun f => f))
  clear k
  have q0 : x2.cell? ⟨w.heap.size, 0, none⟩ = some (.int .u32 167772161) := B1.out.cell 0
  have q1 : x2.cell? ⟨w.heap.size, 1, none⟩ = some (.int .i64 24) := B1.out.cell 1
  have r0 : x2.cell? ⟨w3.heap.size, 0, none⟩ = some (.int .u8 0) := B2.out.cell 0
  have r1 : x2.cell? ⟨w3.heap.size, 1, none⟩ = some (.int .u8 26) := B2.out.cell 1
  have r2 : x2.cell? ⟨w3.heap.size, 2, none⟩ = some (.int .u8 255) := B2.out.cell 2
  have r3 : x2.cell? ⟨w3.heap.size, 3, none⟩ = some (.int .u8 0) := B2.out.cell 3
  have r4 : x2.cell? ⟨w3.heap.size, 4, none⟩ = some (.int .u8 0) := B2.out.cell 4
  have r5 : x2.cell? ⟨w3.heap.size, 5, none⟩ = some (.int .u8 9) := B2.out.cell 5
  go_wp2_with fail
  refine (al_h _ ).mono ?_
  rintro ev x3 ⟨rfl, k⟩
  clear q0 q1 r0 r1 r2 r3 r4 r5
  have K := Lib.hid (K.out.trans' k)
  have B1 := Lib.hid (B1.out.kept k (fun f => f))
  have B2 := Lib.hid (B2.out.kept k (fun f => f))
  clear k
  have q0 : x3.cell? ⟨w.heap.size, 0, none⟩ = some (.int .u32 167772161) := B1.out.cell 0
  have q1 : x3.cell? ⟨w.heap.size, 1, none⟩ = some (.int .i64 24) := B1.out.cell 1
  have r0 : x3.cell? ⟨w3.heap.size, 0, none⟩ = some (.int .u8 0) := B2.out.cell 0
  have r1 : x3.cell? ⟨w3.heap.size, 1, none⟩ = some (.int .u8 26) := B2.out.cell 1
  have r2 : x3.cell? ⟨w3.heap.size, 2, none⟩ = some (.int .u8 255) := B2.out.cell 2
  have r3 : x3.cell? ⟨w3.heap.size, 3, none⟩ = some (.int .u8 0) := B2.out.cell 3
  have r4 : x3.cell? ⟨w3.heap.size, 4, none⟩ = some (.int .u8 0) := B2.out.cell 4
  have r5 : x3.cell? ⟨w3.heap.size, 5, none⟩ = some (.int .u8 9) := B2.out.cell 5
  go_wp2_with fail
  refine (al_o _ ).mono ?_
  rintro ev x4 ⟨rfl, k⟩
  clear q0 q1 r0 r1 r2 r3 r4 r5
  have K := Lib.hid (K.out.trans' k)
  have B1 := Lib.hid (B1.out.kept k (fun f => f))
  have B2 := Lib.hid (B2.out.kept k (fun f => f))
  clear k
  have q0 : x4.cell? ⟨w.heap.size, 0, none⟩ = some (.int .u32 167772161) := B1.out.cell 0
  have q1 : x4.cell? ⟨w.heap.size, 1, none⟩ = some (.int .i64 24) := B1.out.cell 1
  have r0 : x4.cell? ⟨w3.heap.size, 0, none⟩ = some (.int .u8 0) := B2.out.cell 0
  have r1 : x4.cell? ⟨w3.heap.size, 1, none⟩ = some (.int .u8 26) := B2.out.cell 1
  have r2 : x4.cell? ⟨w3.heap.size, 2, none⟩ = some (.int .u8 255) := B2.out.cell 2
  have r3 : x4.cell? ⟨w3.heap.size, 3, none⟩ = some (.int .u8 0) := B2.out.cell 3
  have r4 : x4.cell? ⟨w3.heap.size, 4, none⟩ = some (.int .u8 0) := B2.out.cell 4
  have r5 : x4.cell? ⟨w3.heap.size, 5, none⟩ = some (.int .u8 9) := B2.out.cell 5
  go_wp2_with fail
  refine (al_p _ ).mono ?_
  rintro ev x5 ⟨rfl, k⟩
  clear q0 q1 r0 r1 r2 r3 r4 r5
  have K := Lib.hid (K.out.trans' k)
  have B1 := Lib.hid (B1.out.kept k (fun f => f))
  have B2 := Lib.hid (B2.out.kept k (fun f => f))
  clear k
  have q0 : x5.cell? ⟨w.heap.size, 0, none⟩ = some (.int .u32 167772161) := B1.out.cell 0
  have q1 : x5.cell? ⟨w.heap.size, 1, none⟩ = some (.int .i64 24) := B1.out.cell 1
  have r0 : x5.cell? ⟨w3.heap.size, 0, none⟩ = some (.int .u8 0) := B2.out.cell 0
  have r1 : x5.cell? ⟨w3.heap.size, 1, none⟩ = some (.int .u8 26) := B2.out.cell 1
  have r2 : x5.cell? ⟨w3.heap.size, 2, none⟩ = some (.int .u8 255) := B2.out.cell 2
  have r3 : x5.cell? ⟨w3.heap.size, 3, none⟩ = some (.int .u8 0) := B2.out.cell 3
  have r4 : x5.cell? ⟨w3.heap.size, 4, none⟩ = some (.int .u8 0) := B2.out.cell 4
  have r5 : x5.cell? ⟨w3.heap.size, 5, none⟩ = some (.int .u8 9) := B2.out.cell 5
  go_wp2_with fail
  refine (al_m _ ).mono ?_
  rintro ev x6 ⟨rfl, k⟩
  clear q0 q1 r0 r1 r2 r3 r4 r5
  have K := Lib.hid (K.out.trans' k)
  have B1 := Lib.hid (B1.out.kept k (fun f => f))
  have B2 := Lib.hid (B2.out.kept k (fun f => f))
  clear k
  have q0 : x6.cell? ⟨w.heap.size, 0, none⟩ = some (.int .u32 167772161) := B1.out.cell 0
  have q1 : x6.cell? ⟨w.heap.size, 1, none⟩ = some (.int .i64 24) := B1.out.cell 1
  have r0 : x6.cell? ⟨w3.heap.size, 0, none⟩ = some (.int .u8 0) := B2.out.cell 0
  have r1 : x6.cell? ⟨w3.heap.size, 1, none⟩ = some (.int .u8 26) := B2.out.cell 1
  have r2 : x6.cell? ⟨w3.heap.size, 2, none⟩ = some (.int .u8 255) := B2.out.cell 2
  have r3 : x6.cell? ⟨w3.heap.size, 3, none⟩ = some (.int .u8 0) := B2.out.cell 3
  have r4 : x6.cell? ⟨w3.heap.size, 4, none⟩ = some (.int .u8 0) := B2.out.cell 4
  have r5 : x6.cell? ⟨w3.heap.size, 5, none⟩ = some (.int .u8 9) := B2.out.cell 5
  go_wp2_with fail
  refine (al_x _ ).mono ?_
  rintro ev x7 ⟨rfl, k⟩
  clear q0 q1 r0 r1 r2 r3 r4 r5
  have K := Lib.hid (K.out.trans' k)
  have B1 := Lib.hid (B1.out.kept k (fun f => f))
  have B2 := Lib.hid (B2.out.kept k (fun f => f))
  clear k
  have q0 : x7.cell? ⟨w.heap.size, 0, none⟩ = some (.int .u32 167772161) := B1.out.cell 0
  have q1 : x7.cell? ⟨w.heap.size, 1, none⟩ = some (.int .i64 24) := B1.out.cell 1
  have r0 : x7.cell? ⟨w3.heap.size, 0, none⟩ = some (.int .u8 0) := B2.out.cell 0
  have r1 : x7.cell? ⟨w3.heap.size, 1, none⟩ = some (.int .u8 26) := B2.out.cell 1
  have r2 : x7.cell? ⟨w3.heap.size, 2, none⟩ = some (.int .u8 255) := B2.out.cell 2
  have r3 : x7.cell? ⟨w3.heap.size, 3, none⟩ = some (.int .u8 0) := B2.out.cell 3
  have r4 : x7.cell? ⟨w3.heap.size, 4, none⟩ = some (.int .u8 0) := B2.out.cell 4
  have r5 : x7.cell? ⟨w3.heap.size, 5, none⟩ = some (.int .u8 9) := B2.out.cell 5
  go_wp2_with fail
  refine (al_y _ ).mono ?_
  rintro ev x8 ⟨rfl, k⟩
  clear q0 q1 r0 r1 r2 r3 r4 r5
  have K := Lib.hid (K.out.trans' k)
  have B1 := Lib.hid (B1.out.kept k (fun f => f))
  have B2 := Lib.hid (B2.out.kept k (fun f => f))
  clear k
  have q0 : x8.cell? ⟨w.heap.size, 0, none⟩ = some (.int .u32 167772161) := B1.out.cell 0
  have q1 : x8.cell? ⟨w.heap.size, 1, none⟩ = some (.int .i64 24) := B1.out.cell 1
  have r0 : x8.cell? ⟨w3.heap.size, 0, none⟩ = some (.int .u8 0) := B2.out.cell 0
  have r1 : x8.cell? ⟨w3.heap.size, 1, none⟩ = some (.int .u8 26) := B2.out.cell 1
  have r2 : x8.cell? ⟨w3.heap.size, 2, none⟩ = some (.int .u8 255) := B2.out.cell 2
  have r3 : x8.cell? ⟨w3.heap.size, 3, none⟩ = some (.int .u8 0) := B2.out.cell 3
  have r4 : x8.cell? ⟨w3.heap.size, 4, none⟩ = some (.int .u8 0) := B2.out.cell 4
  have r5 : x8.cell? ⟨w3.heap.size, 5, none⟩ = some (.int .u8 9) := B2.out.cell 5
  go_wp2_with fail
  refine (al_t _ (HL.out.keep K.out)).mono ?_
  rintro ev x9 ⟨rfl, k⟩
  clear q0 q1 r0 r1 r2 r3 r4 r5
  have K := Lib.hid (K.out.trans' k)
  have B1 := Lib.hid (B1.out.kept k (fun f => f))
  have B2 := Lib.hid (B2.out.kept k (fun f => f))
  clear k
  have q0 : x9.cell? ⟨w.heap.size, 0, none⟩ = some (.int .u32 167772161) := B1.out.cell 0
  have q1 : x9.cell? ⟨w.heap.size, 1, none⟩ = some (.int .i64 24) := B1.out.cell 1
  have r0 : x9.cell? ⟨w3.heap.size, 0, none⟩ = some (.int .u8 0) := B2.out.cell 0
  have r1 : x9.cell? ⟨w3.heap.size, 1, none⟩ = some (.int .u8 26) := B2.out.cell 1
  have r2 : x9.cell? ⟨w3.heap.size, 2, none⟩ = some (.int .u8 255) := B2.out.cell 2
  have r3 : x9.cell? ⟨w3.heap.size, 3, none⟩ = some (.int .u8 0) := B2.out.cell 3
  have r4 : x9.cell? ⟨w3.heap.size, 4, none⟩ = some (.int .u8 0) := B2.out.cell 4
  have r5 : x9.cell? ⟨w3.heap.size, 5, none⟩ = some (.int .u8 9) := B2.out.cell 5
  go_wp2_with fail
  refine (al_u _ (HL.out.keep K.out)).mono ?_
  rintro ev x10 ⟨rfl, k⟩
  clear q0 q1 r0 r1 r2 r3 r4 r5
  have K := Lib.hid (K.out.trans' k)
  have B1 := Lib.hid (B1.out.kept k (fun f => f))
  have B2 := Lib.hid (B2.out.kept k (fun f => f))
  clear k
  have q0 : x10.cell? ⟨w.heap.size, 0, none⟩ = some (.int .u32 167772161) := B1.out.cell 0
  have q1 : x10.cell? ⟨w.heap.size, 1, none⟩ = some (.int .i64 24) := B1.out.cell 1
  have r0 : x10.cell? ⟨w3.heap.size, 0, none⟩ = some (.int .u8 0) := B2.out.cell 0
  have r1 : x10.cell? ⟨w3.heap.size, 1, none⟩ = some (.int .u8 26) := B2.out.cell 1
  have r2 : x10.cell? ⟨w3.heap.size, 2, none⟩ = some (.int .u8 255) := B2.out.cell 2
  have r3 : x10.cell? ⟨w3.heap.size, 3, none⟩ = some (.int .u8 0) := B2.out.cell 3
  have r4 : x10.cell? ⟨w3.heap.size, 4, none⟩ = some (.int .u8 0) := B2.out.cell 4
  have r5 : x10.cell? ⟨w3.heap.size, 5, none⟩ = some (.int .u8 9) := B2.out.cell 5
  go_wp2_with fail
  refine (al_a _ ).mono ?_
  rintro ev x11 ⟨rfl, k⟩
  clear q0 q1 r0 r1 r2 r3 r4 r5
  have K := Lib.hid (K.out.trans' k)
  have B1 := Lib.hid (B1.out.kept k (fun f => f))
  have B2 := Lib.hid (B2.out.kept k (fun f => f))
  clear k
  have q0 : x11.cell? ⟨w.heap.size, 0, none⟩ = some (.int .u32 167772161) := B1.out.cell 0
  have q1 : x11.cell? ⟨w.heap.size, 1, none⟩ = some (.int .i64 24) := B1.out.cell 1
  have r0 : x11.cell? ⟨w3.heap.size, 0, none⟩ = some (.int .u8 0) := B2.out.cell 0
  have r1 : x11.cell? ⟨w3.heap.size, 1, none⟩ = some (.int .u8 26) := B2.out.cell 1
  have r2 : x11.cell? ⟨w3.heap.size, 2, none⟩ = some (.int .u8 255) := B2.out.cell 2
  have r3 : x11.cell? ⟨w3.heap.size, 3, none⟩ = some (.int .u8 0) := B2.out.cell 3
  have r4 : x11.cell? ⟨w3.heap.size, 4, none⟩ = some (.int .u8 0) := B2.out.cell 4
  have r5 : x11.cell? ⟨w3.heap.size, 5, none⟩ = some (.int .u8 9) := B2.out.cell 5
  go_wp2_with fail
  refine (al_g _ ).mono ?_
  rintro ev x12 ⟨rfl, k⟩
  clear q0 q1 r0 r1 r2 r3 r4 r5
  have K := Lib.hid (K.out.trans' k)
  have B1 := Lib.hid (B1.out.kept k (fun f => f))
  have B2 := Lib.hid (B2.out.kept k (fun f => f))
  clear k
  have q0 : x12.cell? ⟨w.heap.size, 0, none⟩ = some (.int .u32 167772161) := B1.out.cell 0
  have q1 : x12.cell? ⟨w.heap.size, 1, none⟩ = some (.int .i64 24) := B1.out.cell 1
  have r0 : x12.cell? ⟨w3.heap.size, 0, none⟩ = some (.int .u8 0) := B2.out.cell 0
  have r1 : x12.cell? ⟨w3.heap.size, 1, none⟩ = some (.int .u8 26) := B2.out.cell 1
  have r2 : x12.cell? ⟨w3.heap.size, 2, none⟩ = some (.int .u8 255) := B2.out.cell 2
  have r3 : x12.cell? ⟨w3.heap.size, 3, none⟩ = some (.int .u8 0) := B2.out.cell 3
  have r4 : x12.cell? ⟨w3.heap.size, 4, none⟩ = some (.int .u8 0) := B2.out.cell 4
  have r5 : x12.cell? ⟨w3.heap.size, 5, none⟩ = some (.int .u8 9) := B2.out.cell 5
  go_wp2_with fail
  refine (al_k _ ).mono ?_
  rintro ev x13 ⟨rfl, k⟩
  clear q0 q1 r0 r1 r2 r3 r4 r5
  have K := Lib.hid (K.out.trans' k)
  have B1 := Lib.hid (B1.out.kept k (fun f => f))
  have B2 := Lib.hid (B2.out.kept k (fun f => f))
  clear k
  have q0 : x13.cell? ⟨w.heap.size, 0, none⟩ = some (.int .u32 167772161) := B1.out.cell 0
  have q1 : x13.cell? ⟨w.heap.size, 1, none⟩ = some (.int .i64 24) := B1.out.cell 1
  have r0 : x13.cell? ⟨w3.heap.size, 0, none⟩ = some (.int .u8 0) := B2.out.cell 0
  have r1 : x13.cell? ⟨w3.heap.size, 1, none⟩ = some (.int .u8 26) := B2.out.cell 1
  have r2 : x13.cell? ⟨w3.heap.size, 2, none⟩ = some (.int .u8 255) := B2.out.cell 2
  have r3 : x13.cell? ⟨w3.heap.size, 3, none⟩ = some (.int .u8 0) := B2.out.cell 3
  have r4 : x13.cell? ⟨w3.heap.size, 4, none⟩ = some (.int .u8 0) := B2.out.cell 4
  have r5 : x13.cell? ⟨w3.heap.size, 5, none⟩ = some (.int .u8 9) := B2.out.cell 5
  go_wp2_with fail
  refine (al_s _ ).mono ?_
  rintro ev x14 ⟨rfl, k⟩
  clear q0 q1 r0 r1 r2 r3 r4 r5
  have K := Lib.hid (K.out.trans' k)
  have B1 := Lib.hid (B1.out.kept k (fun f => f))
  have B2 := Lib.hid (B2.out.kept k (fun f => f))
  clear k
  have q0 : x14.cell? ⟨w.heap.size, 0, none⟩ = some (.int .u32 167772161) := B1.out.cell 0
  have q1 : x14.cell? ⟨w.heap.size, 1, none⟩ = some (.int .i64 24) := B1.out.cell 1
  have r0 : x14.cell? ⟨w3.heap.size, 0, none⟩ = some (.int .u8 0) := B2.out.cell 0
  have r1 : x14.cell? ⟨w3.heap.size, 1, none⟩ = some (.int .u8 26) := B2.out.cell 1
  have r2 : x14.cell? ⟨w3.heap.size, 2, none⟩ = some (.int .u8 255) := B2.out.cell 2
  have r3 : x14.cell? ⟨w3.heap.size, 3, none⟩ = some (.int .u8 0) := B2.out.cell 3
  have r4 : x14.cell? ⟨w3.heap.size, 4, none⟩ = some (.int .u8 0) := B2.out.cell 4
  have r5 : x14.cell? ⟨w3.heap.size, 5, none⟩ = some (.int .u8 9) := B2.out.cell 5
  go_wp2_with fail
  refine (al_z _ ).mono ?_
  rintro ev x15 ⟨rfl, k⟩
  clear q0 q1 r0 r1 r2 r3 r4 r5
  have K := Lib.hid (K.out.trans' k)
  have B1 := Lib.hid (B1.out.kept k (fun f => f))
  have B2 := Lib.hid (B2.out.kept k (fun f => f))
  clear k
  have q0 : x15.cell? ⟨w.heap.size, 0, none⟩ = some (.int .u32 167772161) := B1.out.cell 0
  have q1 : x15.cell? ⟨w.heap.size, 1, none⟩ = some (.int .i64 24) := B1.out.cell 1
  have r0 : x15.cell? ⟨w3.heap.size, 0, none⟩ = some (.int .u8 0) := B2.out.cell 0
  have r1 : x15.cell? ⟨w3.heap.size, 1, none⟩ = some (.int .u8 26) := B2.out.cell 1
  have r2 : x15.cell? ⟨w3.heap.size, 2, none⟩ = some (.int .u8 255) := B2.out.cell 2
  have r3 : x15.cell? ⟨w3.heap.size, 3, none⟩ = some (.int .u8 0) := B2.out.cell 3
  have r4 : x15.cell? ⟨w3.heap.size, 4, none⟩ = some (.int .u8 0) := B2.out.cell 4
  have r5 : x15.cell? ⟨w3.heap.size, 5, none⟩ = some (.int .u8 9) := B2.out.cell 5
  go_wp2_with fail
  exact bodyPost_ret (results_tmp rfl _ _ _) rfl ⟨rfl, K.out⟩
end Go.Proofs.YtkafdpidhelfdaaDoor
