/- Ether: alive. Ether: Parse of what Bytes made. -/
import Derived.Test.YtconpcnmccmbiaaDoorEe
import Derived.Test.YtconpcnmccmbiaaDoorFa
import Derived.Test.YtconpcnmccmbiaaDoorWm
import Derived.BigFrame
namespace Go.Proofs.YtconpcnmccmbiaaDoor
open Go.RowKit

/-- The fifteen bytes that alive parses. -/
def X15 : List Int := [255, 255, 255, 255, 255, 255, 2, 0, 0, 0, 0, 1, 8, 6, 9]
def m255 : Nat → Int := fun _ => 255
def m2 : Nat → Int := fun i => [2, 0, 0, 0, 0, 1].getD i 0
def m1 : Nat → Int := fun i => [1].getD i 0
def m0 : Nat → Int := fun _ => 0
def F15 (A : Option Addr) (c : Nat) : Array Value := frm m255 m2 2054 (.slice A 1 c)
theorem byt_of (xs : List Int) (h : (xs.all fun x => decide (0 ≤ x ∧ x < 256)) = true) : Byt xs := by
  intro j
  rcases Nat.lt_or_ge j xs.length with hj | hj
  · have := List.all_eq_true.1 h (xs[j]) (List.getElem_mem hj)
    simp [List.getD, hj]
    simpa using this
  · simp [List.getD, List.getElem?_eq_none hj]
theorem parse15 (b : Nat) (w : World) (hx : RdI w .u8 (some ⟨b, 0, none⟩) X15) :
    Calls Tryd.prog 47 #[.slice (some ⟨b, 0, none⟩) 15 15] w fun ev w' => ∃ A c, ev = .returned (.tuple #[.agg #[.int .u8 255, .int .u8 255, .int .u8 255, .int .u8 255, .int .u8 255, .int .u8 255, .int .u8 2, .int .u8 0, .int .u8 0, .int .u8 0, .int .u8 0, .int .u8 1, .int .u16 2054, .slice A 1 c], .nilIface]) ∧ w'.ownsRow w.heap.size 5 1 (.slice A 1 c) 1 (intsK .u8 [9]) ∧ Kp (fun _ => False) w w' := by
  refine (eparse_mid b 0 15 X15 w hx (byt_of _ (by decide)) (by decide) (by decide) (by decide)).mono ?_
  rintro ev w' (⟨h, _⟩ | ⟨_, ⟨A, c, rfl, own⟩, k⟩)
  · exact absurd h (by decide)
  · exact ⟨A, c, rfl, own, k⟩
theorem eparse_short0 (A : Option Addr) (c n : Nat) (w : World) (h : n < 14) :
    Calls Tryd.prog 47 #[.slice A n c] w fun ev w' => ∃ v, ev = .returned (.tuple #[.agg #[.int .u8 0, .int .u8 0, .int .u8 0, .int .u8 0, .int .u8 0, .int .u8 0, .int .u8 0, .int .u8 0, .int .u8 0, .int .u8 0, .int .u8 0, .int .u8 0, .int .u16 0, .slice none 0 0], v]) ∧ Chain w' 12 [1] v ∧ Kp (fun _ => False) w w' := eparse_short A c n w h
theorem eparse_long0 (A : Option Addr) (c n : Nat) (w : World) (h : 1514 < n) :
    Calls Tryd.prog 47 #[.slice A n c] w fun ev w' => ∃ v, ev = .returned (.tuple #[.agg #[.int .u8 0, .int .u8 0, .int .u8 0, .int .u8 0, .int .u8 0, .int .u8 0, .int .u8 0, .int .u8 0, .int .u8 0, .int .u8 0, .int .u8 0, .int .u8 0, .int .u16 0, .slice none 0 0], v]) ∧ Chain w' 11 [1] v ∧ Kp (fun _ => False) w w' := eparse_long A c n w h

set_option maxRecDepth 1000000 in
set_option maxHeartbeats 8000000 in
theorem alive05 (w : World) (hE : Et w) : Calls Tryd.prog 45 #[] w fun ev w' => ev = .returned (.bool true) ∧ Kp (fun _ => False) w w' := by
  have HE := Lib.hid hE
  have hx0 := RdI.new w .u8 5 X15 (by decide)
  have K0 := Lib.hid ((Kp.refl (fun _ => False) w).alloc (.cells (X15.map fun x => Value.int .u8 x).toArray 5))
  have HX0 := Lib.hid hx0
  clear hE hx0
  obtain ⟨i0, hi0, hz0, hz1, hz2⟩ := info_parts u8Info
  go_enter Tryd.func45, Tryd.ntmps45
  go_wp2_with fail
  refine (parse15 w.heap.size _ HX0.out).mono ?_
  rintro ev w1 ⟨A, c, rfl, own1, k1⟩
  have K1 := Lib.hid (K0.out.trans' k1)
  have HX1 := Lib.hid (HX0.out.kp k1 (fun _ _ _ f => f))
  have HO1 := Lib.hid own1
  clear own1 k1
  go_wp2_with fail
  have kA := (Kp.refl (fun _ => False) w1).alloc (.cells (F15 A c) 77)
  have HB1 := Lib.hid (Bk.new w1 77 (F15 A c))
  generalize Value.tuple #[Value.agg #[Value.int IntKind.u8 255, Value.int IntKind.u8 255, Value.int IntKind.u8 255, Value.int IntKind.u8 255, Value.int IntKind.u8 255, Value.int IntKind.u8 255, Value.int IntKind.u8 2, Value.int IntKind.u8 0, Value.int IntKind.u8 0, Value.int IntKind.u8 0, Value.int IntKind.u8 0, Value.int IntKind.u8 1, Value.int IntKind.u16 2054, Value.slice A 1 c], Value.nilIface] = T1
  generalize Value.agg #[Value.int IntKind.u8 255, Value.int IntKind.u8 255, Value.int IntKind.u8 255, Value.int IntKind.u8 255, Value.int IntKind.u8 255, Value.int IntKind.u8 255, Value.int IntKind.u8 2, Value.int IntKind.u8 0, Value.int IntKind.u8 0, Value.int IntKind.u8 0, Value.int IntKind.u8 0, Value.int IntKind.u8 1, Value.int IntKind.u16 2054, Value.slice A 1 c] = G1
  refine (eparse_short0 _ _ 13 _ (by decide)).mono ?_
  rintro ev w2 ⟨v2, rfl, c2, k2⟩
  have HB2 := Lib.hid (HB1.out.kept k2 (fun f => f))
  have K2 := Lib.hid (K1.out.trans' (kA.trans' k2))
  have HX2 := Lib.hid (HX1.out.kp (kA.trans' k2) (fun _ _ _ f => f))
  have HO2 := Lib.hid (own_kp HO1.out (kA.trans' k2) (fun _ _ f => f))
  have C2 := Lib.hid c2
  have hv2 := c2.form
  have kB := (Kp.refl (fun _ => False) w2).alloc (.cells #[.int .u8 0, .int .u8 0, .int .u8 0, .int .u8 0, .int .u8 0, .int .u8 0, .int .u8 0, .int .u8 0, .int .u8 0, .int .u8 0, .int .u8 0, .int .u8 0, .int .u16 0, .slice none 0 0] 77)
  clear kA k2 c2
  have K2b := Lib.hid (K2.out.trans' kB)
  go_wp2_with
    (at_make
     go_must (refine wpList_make_full _ rfl _ _ 71 rfl 0 5 i0 (.int .u8 0) 1 Tryd.underlying71 hi0 hz0 hz1 .i64 .i64 1515 1515 1515 rfl rfl (by omega) (by omega) (by omega) (by unfold maxLen; omega) (by omega) ?_)
     intro w3 _ hgrow3
     have kg := kB.grown hgrow3 (fun j hj => by cases hj)
     have HB3 := Lib.hid (HB2.out.kept kg (fun f => f))
     have K3 := Lib.hid (K2.out.trans' kg)
     have HX3 := Lib.hid (HX2.out.kp kg (fun _ _ _ f => f))
     have HO3 := Lib.hid (own_kp HO2.out kg (fun _ _ f => f))
     have C3 := Lib.hid (C2.out.none_kept kg)
     clear hgrow3 kg)
  generalize Value.tuple #[Value.agg #[Value.int IntKind.u8 0, Value.int IntKind.u8 0, Value.int IntKind.u8 0, Value.int IntKind.u8 0, Value.int IntKind.u8 0, Value.int IntKind.u8 0, Value.int IntKind.u8 0, Value.int IntKind.u8 0, Value.int IntKind.u8 0, Value.int IntKind.u8 0, Value.int IntKind.u8 0, Value.int IntKind.u8 0, Value.int IntKind.u16 0, Value.slice none 0 0], v2] = T2
  generalize Value.agg #[Value.int IntKind.u8 0, Value.int IntKind.u8 0, Value.int IntKind.u8 0, Value.int IntKind.u8 0, Value.int IntKind.u8 0, Value.int IntKind.u8 0, Value.int IntKind.u8 0, Value.int IntKind.u8 0, Value.int IntKind.u8 0, Value.int IntKind.u8 0, Value.int IntKind.u8 0, Value.int IntKind.u8 0, Value.int IntKind.u16 0, Value.slice none 0 0] = G2
  refine (eparse_long0 _ _ 1515 _ (by decide)).mono ?_
  rintro ev w4 ⟨v4, rfl, c4, k4⟩
  have k4b := k4.alloc (.cells #[.int .u8 0, .int .u8 0, .int .u8 0, .int .u8 0, .int .u8 0, .int .u8 0, .int .u8 0, .int .u8 0, .int .u8 0, .int .u8 0, .int .u8 0, .int .u8 0, .int .u16 0, .slice none 0 0] 77)
  have c4b := c4.none_kept ((Kp.refl (fun _ => False) w4).alloc (.cells #[.int .u8 0, .int .u8 0, .int .u8 0, .int .u8 0, .int .u8 0, .int .u8 0, .int .u8 0, .int .u8 0, .int .u8 0, .int .u8 0, .int .u8 0, .int .u8 0, .int .u16 0, .slice none 0 0] 77))
  have hb4 := HB3.out.kept k4b (fun f => f)
  have q0 : _ = some (Value.int IntKind.u8 255) := hb4.cell 0
  have q1 : _ = some (Value.int IntKind.u8 255) := hb4.cell 1
  have q2 : _ = some (Value.int IntKind.u8 255) := hb4.cell 2
  have q3 : _ = some (Value.int IntKind.u8 255) := hb4.cell 3
  have q4 : _ = some (Value.int IntKind.u8 255) := hb4.cell 4
  have q5 : _ = some (Value.int IntKind.u8 255) := hb4.cell 5
  have q6 : _ = some (Value.int IntKind.u8 2) := hb4.cell 6
  have q7 : _ = some (Value.int IntKind.u8 0) := hb4.cell 7
  have q8 : _ = some (Value.int IntKind.u8 0) := hb4.cell 8
  have q9 : _ = some (Value.int IntKind.u8 0) := hb4.cell 9
  have q10 : _ = some (Value.int IntKind.u8 0) := hb4.cell 10
  have q11 : _ = some (Value.int IntKind.u8 1) := hb4.cell 11
  have q12 : _ = some (Value.int IntKind.u16 2054) := hb4.cell 12
  have q13 : _ = some (Value.slice A 1 c) := hb4.cell 13
  have HB4 := Lib.hid hb4
  have K4 := Lib.hid (K3.out.trans' k4b)
  have HX4 := Lib.hid (HX3.out.kp k4b (fun _ _ _ f => f))
  have HO4 := Lib.hid (own_kp HO3.out k4b (fun _ _ f => f))
  have C4 := Lib.hid (C3.out.none_kept k4b)
  have D4 := Lib.hid c4b
  have hv4 := c4.form
  clear c4 k4 k4b c4b hb4 kB
  go_wp2_with fail
  obtain ⟨_, _, hA4, hl4, hrd4, hbs4⟩ := RdI.of_own (k := .u8) (xs := [9]) HO4.out
  cases hA4
  have h0A : A = none → c = 0 := by
    rintro rfl
    rcases hrd4.2 with h | ⟨_, _, h, _⟩ <;> cases h
  generalize Value.tuple #[Value.agg #[Value.int IntKind.u8 0, Value.int IntKind.u8 0, Value.int IntKind.u8 0, Value.int IntKind.u8 0, Value.int IntKind.u8 0, Value.int IntKind.u8 0, Value.int IntKind.u8 0, Value.int IntKind.u8 0, Value.int IntKind.u8 0, Value.int IntKind.u8 0, Value.int IntKind.u8 0, Value.int IntKind.u8 0, Value.int IntKind.u16 0, Value.slice none 0 0], v4] = T4
  generalize Value.agg #[Value.int IntKind.u8 0, Value.int IntKind.u8 0, Value.int IntKind.u8 0, Value.int IntKind.u8 0, Value.int IntKind.u8 0, Value.int IntKind.u8 0, Value.int IntKind.u8 0, Value.int IntKind.u8 0, Value.int IntKind.u8 0, Value.int IntKind.u8 0, Value.int IntKind.u8 0, Value.int IntKind.u8 0, Value.int IntKind.u16 0, Value.slice none 0 0] = G4
  refine (ebytes_mid m255 m2 2054 A 1 c [9] _ (by omega) (by omega) hrd4 rfl h0A).mono ?_
  rintro ev w5 ⟨s5, rfl, own5, k5⟩
  clear h0A hrd4 hbs4 hl4 q0 q1 q2 q3 q4 q5 q6 q7 q8 q9 q10 q11 q12 q13
  have own5 : w5.ownsRow _ 5 1 s5 15 _ := own5
  have e15 : macL m255 ++ macL m2 ++ [((2054 : Nat) : Int) / 256, ((2054 : Nat) : Int) % 256] ++ [9] = X15 := by decide
  rw [e15] at own5
  obtain ⟨A5, c5, rfl, hl5, rd5, _⟩ := RdI.of_own (k := .u8) (xs := X15) own5
  have HP5 := Lib.hid own5
  clear e15 own5 rd5 hl5
  have K5 := Lib.hid (K4.out.trans' k5)
  have HX5 := Lib.hid (HX4.out.kp k5 (fun _ _ _ f => f))
  have HO5 := Lib.hid (own_kp HO4.out k5 (fun _ _ f => f))
  have C5 := Lib.hid (C4.out.none_kept k5)
  have hbk := HB4.out.kept k5 (fun f => f)
  have D5 := Lib.hid (D4.out.none_kept k5)
  have HB5 := Lib.hid hbk
  clear hbk k5
  go_wp2_with
    (at_make
     go_must (refine wpList_make_full _ rfl _ _ 71 rfl 0 5 i0 (.int .u8 0) 1 Tryd.underlying71 hi0 hz0 hz1 .i64 .i64 1501 1501 1501 rfl rfl (by omega) (by omega) (by omega) (by unfold maxLen; omega) (by omega) ?_)
     intro w6 _ hgrow6
     have kg := (Kp.refl (fun _ => False) w5).grown hgrow6 (fun j hj => by cases hj)
     have K6 := Lib.hid (K5.out.trans' kg)
     have HX6 := Lib.hid (HX5.out.kp kg (fun _ _ _ f => f))
     have HO6 := Lib.hid (own_kp HO5.out kg (fun _ _ f => f))
     have C6 := Lib.hid (C5.out.none_kept kg)
     have hbk := HB5.out.kept kg (fun f => f)
     have HP6 := Lib.hid (own_kp HP5.out kg (fun _ _ f => f))
     have D6 := Lib.hid (D5.out.none_kept kg)
     have HB6 := Lib.hid hbk
     clear hbk kg hgrow6)
  refine (ebytes_long m0 m0 0 _ 1501 _ _ (by decide)).mono ?_
  rintro ev w7 ⟨v7, rfl, c7, k7⟩
  have K7 := Lib.hid (K6.out.trans' k7)
  have HX7 := Lib.hid (HX6.out.kp k7 (fun _ _ _ f => f))
  have HO7 := Lib.hid (own_kp HO6.out k7 (fun _ _ f => f))
  have C7 := Lib.hid (C6.out.none_kept k7)
  have hbk := HB6.out.kept k7 (fun f => f)
  have HP7 := Lib.hid (own_kp HP6.out k7 (fun _ _ f => f))
  have E7 := Lib.hid (HE.out.kept K7.out (fun f => f))
  have D7 := Lib.hid c7
  have hv7 := c7.form
  clear c7
  have HB7 := Lib.hid hbk
  clear hbk k7
  rcases hv2 with ⟨x2, rfl⟩ | ⟨x2, rfl⟩
  · exact absurd C7.out (by rintro ⟨g, v', h, _⟩; cases h)
  rcases hv4 with ⟨x4, rfl⟩ | ⟨x4, rfl⟩
  · exact absurd D4.out (by rintro ⟨g, v', h, _⟩; cases h)
  rcases hv7 with ⟨x7, rfl⟩ | ⟨x7, rfl⟩
  · exact absurd D7.out (by rintro ⟨g, v', h, _⟩; cases h)
  go_wp2_with fail
  refine (errno_any [1] 12 _ _ E7.out C7.out).mono ?_
  rintro ev w8 ⟨rfl, k8⟩
  have K8 := Lib.hid (K7.out.trans' k8)
  have HX8 := Lib.hid (HX7.out.kp k8 (fun _ _ _ f => f))
  have HO8 := Lib.hid (own_kp HO7.out k8 (fun _ _ f => f))
  have C8 := Lib.hid (C7.out.none_kept k8)
  have hbk := HB7.out.kept k8 (fun f => f)
  have HP8 := Lib.hid (own_kp HP7.out k8 (fun _ _ f => f))
  have D8 := Lib.hid (D7.out.none_kept k8)
  have HB8 := Lib.hid hbk
  clear hbk k8
  have E8 := Lib.hid (HE.out.kept K8.out (fun f => f))
  go_wp2_with fail
  refine (wreason_any [1] 12 _ _ E8.out C8.out).mono ?_
  rintro ev w9 ⟨rfl, k9⟩
  have hr9 : reasonOf [1] 12 = 1 := rfl
  rw [hr9]
  clear hr9
  have K9 := Lib.hid (K8.out.trans' k9)
  have HX9 := Lib.hid (HX8.out.kp k9 (fun _ _ _ f => f))
  have HO9 := Lib.hid (own_kp HO8.out k9 (fun _ _ f => f))
  have C9 := Lib.hid (C8.out.none_kept k9)
  have hbk := HB8.out.kept k9 (fun f => f)
  have HP9 := Lib.hid (own_kp HP8.out k9 (fun _ _ f => f))
  have D9 := Lib.hid (D8.out.none_kept k9)
  have HB9 := Lib.hid hbk
  clear hbk k9
  have E9 := Lib.hid (HE.out.kept K9.out (fun f => f))
  go_wp2_with fail
  refine (errno_any [1] 11 _ _ E9.out D9.out).mono ?_
  rintro ev w10 ⟨rfl, k10⟩
  have K10 := Lib.hid (K9.out.trans' k10)
  have HX10 := Lib.hid (HX9.out.kp k10 (fun _ _ _ f => f))
  have HO10 := Lib.hid (own_kp HO9.out k10 (fun _ _ f => f))
  have C10 := Lib.hid (C9.out.none_kept k10)
  have hbk := HB9.out.kept k10 (fun f => f)
  have HP10 := Lib.hid (own_kp HP9.out k10 (fun _ _ f => f))
  have D10 := Lib.hid (D9.out.none_kept k10)
  have q6 : _ = some (Value.int IntKind.u8 2) := hbk.cell 6
  have q7 : _ = some (Value.int IntKind.u8 0) := hbk.cell 7
  have q8 : _ = some (Value.int IntKind.u8 0) := hbk.cell 8
  have q9 : _ = some (Value.int IntKind.u8 0) := hbk.cell 9
  have q10 : _ = some (Value.int IntKind.u8 0) := hbk.cell 10
  have q11 : _ = some (Value.int IntKind.u8 1) := hbk.cell 11
  have q12 : _ = some (Value.int IntKind.u16 2054) := hbk.cell 12
  have q13 : _ = some (Value.slice A 1 c) := hbk.cell 13
  have HB10 := Lib.hid hbk
  clear hbk k10
  have hm2 : ∀ w, (binOp .eql 73 (.agg #[.int .u8 2, .int .u8 0, .int .u8 0, .int .u8 0, .int .u8 0, .int .u8 1]) (.agg #[.int .u8 2, .int .u8 0, .int .u8 0, .int .u8 0, .int .u8 0, .int .u8 1])).run Tryd.prog w = .ok (.bool true) w := fun w => run_eql_mac w m2 m2
  go_wp2_with fail
  clear q6 q7 q8 q9 q10 q11 q12 q13
  clear hm2
  have kN := (Kp.refl (fun _ => False) w10).alloc (.cells #[.int .u8 9] 5)
  obtain ⟨_, _, hA10, hl10, hrd10, hbs10⟩ := RdI.of_own (k := .u8) (xs := [9]) HO10.out
  cases hA10
  refine (sameBytes_any A (some ⟨w10.heap.size, 0, none⟩) c 1 [9] [9] _ (hrd10.kp kN (fun _ _ _ f => f)) (RdI.new w10 .u8 5 [9] (by decide))).mono ?_
  rintro ev w11 ⟨rfl, n11, hn11⟩
  have k11 : Kp (fun _ => False) w10 w11 := hn11 ▸ kN.drewN n11
  clear hrd10 hbs10 hl10 kN hn11
  have K11 := Lib.hid (K10.out.trans' k11)
  have HX11 := Lib.hid (HX10.out.kp k11 (fun _ _ _ f => f))
  have HO11 := Lib.hid (own_kp HO10.out k11 (fun _ _ f => f))
  have C11 := Lib.hid (C10.out.none_kept k11)
  have hbk := HB10.out.kept k11 (fun f => f)
  have HP11 := Lib.hid (own_kp HP10.out k11 (fun _ _ f => f))
  have D11 := Lib.hid (D10.out.none_kept k11)
  have HB11 := Lib.hid hbk
  clear hbk k11
  have E11 := Lib.hid (HE.out.kept K11.out (fun f => f))
  rw [show (([9] : List Int) == [9]) = true by decide]
  go_wp2_with fail
  obtain ⟨_, _, hA11, hl11, hrd11, hbs11⟩ := RdI.of_own (k := .u8) (xs := X15) HP11.out
  cases hA11
  refine (sameBytes_any A5 (some ⟨w.heap.size, 0, none⟩) c5 15 X15 X15 _ hrd11 HX11.out).mono ?_
  rintro ev w12 ⟨rfl, n12, hn12⟩
  have k12 : Kp (fun _ => False) w11 w12 := hn12 ▸ (Kp.refl _ _).drewN n12
  clear hrd11 hbs11 hl11 hn12
  rw [show (X15 == X15) = true by decide]
  have K12 := Lib.hid (K11.out.trans' k12)
  have HX12 := Lib.hid (HX11.out.kp k12 (fun _ _ _ f => f))
  have HO12 := Lib.hid (own_kp HO11.out k12 (fun _ _ f => f))
  have C12 := Lib.hid (C11.out.none_kept k12)
  have hbk := HB11.out.kept k12 (fun f => f)
  have HP12 := Lib.hid (own_kp HP11.out k12 (fun _ _ f => f))
  have D12 := Lib.hid (D11.out.none_kept k12)
  have q0 : _ = some (Value.int IntKind.u8 255) := hbk.cell 0
  have q1 : _ = some (Value.int IntKind.u8 255) := hbk.cell 1
  have q2 : _ = some (Value.int IntKind.u8 255) := hbk.cell 2
  have q3 : _ = some (Value.int IntKind.u8 255) := hbk.cell 3
  have q4 : _ = some (Value.int IntKind.u8 255) := hbk.cell 4
  have q5 : _ = some (Value.int IntKind.u8 255) := hbk.cell 5
  have q6 : _ = some (Value.int IntKind.u8 2) := hbk.cell 6
  have q7 : _ = some (Value.int IntKind.u8 0) := hbk.cell 7
  have q8 : _ = some (Value.int IntKind.u8 0) := hbk.cell 8
  have q9 : _ = some (Value.int IntKind.u8 0) := hbk.cell 9
  have q10 : _ = some (Value.int IntKind.u8 0) := hbk.cell 10
  have q11 : _ = some (Value.int IntKind.u8 1) := hbk.cell 11
  have q12 : _ = some (Value.int IntKind.u16 2054) := hbk.cell 12
  have q13 : _ = some (Value.slice A 1 c) := hbk.cell 13
  have HB12 := Lib.hid hbk
  clear hbk k12
  go_wp2_with fail
  refine (for_any m255 m2 m1 2054 (.slice A 1 c) _).mono ?_
  rintro ev w13 ⟨rfl, k13⟩
  rw [show (macEq m255 m1 || macEq m255 fun _ => 255) = true by decide]
  clear q0 q1 q2 q3 q4 q5 q6 q7 q8 q9 q10 q11 q12 q13
  have K13 := Lib.hid (K12.out.trans' k13)
  have HX13 := Lib.hid (HX12.out.kp k13 (fun _ _ _ f => f))
  have HO13 := Lib.hid (own_kp HO12.out k13 (fun _ _ f => f))
  have C13 := Lib.hid (C12.out.none_kept k13)
  have hbk := HB12.out.kept k13 (fun f => f)
  have HP13 := Lib.hid (own_kp HP12.out k13 (fun _ _ f => f))
  have D13 := Lib.hid (D12.out.none_kept k13)
  have HB13 := Lib.hid hbk
  clear hbk k13
  generalize Value.agg #[Value.int IntKind.u8 255, Value.int IntKind.u8 255, Value.int IntKind.u8 255, Value.int IntKind.u8 255, Value.int IntKind.u8 255, Value.int IntKind.u8 255, Value.int IntKind.u8 2, Value.int IntKind.u8 0, Value.int IntKind.u8 0, Value.int IntKind.u8 0, Value.int IntKind.u8 0, Value.int IntKind.u8 1, Value.int IntKind.u16 2054, Value.slice A 1 c] = G5
  go_wp2_with fail
  refine (for_any m0 m0 m1 0 (.slice none 0 0) _).mono ?_
  rintro ev w14 ⟨rfl, k14⟩
  rw [show (macEq m0 m1 || macEq m0 fun _ => 255) = false by decide]
  have K14 := Lib.hid (K13.out.trans' k14)
  have HX14 := Lib.hid (HX13.out.kp k14 (fun _ _ _ f => f))
  have HO14 := Lib.hid (own_kp HO13.out k14 (fun _ _ f => f))
  have C14 := Lib.hid (C13.out.none_kept k14)
  have hbk := HB13.out.kept k14 (fun f => f)
  have HP14 := Lib.hid (own_kp HP13.out k14 (fun _ _ f => f))
  have D14 := Lib.hid (D13.out.none_kept k14)
  have q0 : _ = some (Value.int IntKind.u8 255) := hbk.cell 0
  have q1 : _ = some (Value.int IntKind.u8 255) := hbk.cell 1
  have q2 : _ = some (Value.int IntKind.u8 255) := hbk.cell 2
  have q3 : _ = some (Value.int IntKind.u8 255) := hbk.cell 3
  have q4 : _ = some (Value.int IntKind.u8 255) := hbk.cell 4
  have q5 : _ = some (Value.int IntKind.u8 255) := hbk.cell 5
  have q6 : _ = some (Value.int IntKind.u8 2) := hbk.cell 6
  have q7 : _ = some (Value.int IntKind.u8 0) := hbk.cell 7
  have q8 : _ = some (Value.int IntKind.u8 0) := hbk.cell 8
  have q9 : _ = some (Value.int IntKind.u8 0) := hbk.cell 9
  have q10 : _ = some (Value.int IntKind.u8 0) := hbk.cell 10
  have q11 : _ = some (Value.int IntKind.u8 1) := hbk.cell 11
  have q12 : _ = some (Value.int IntKind.u16 2054) := hbk.cell 12
  have q13 : _ = some (Value.slice A 1 c) := hbk.cell 13
  have HB14 := Lib.hid hbk
  clear hbk k14
  generalize Value.agg #[Value.int IntKind.u8 0, Value.int IntKind.u8 0, Value.int IntKind.u8 0, Value.int IntKind.u8 0, Value.int IntKind.u8 0, Value.int IntKind.u8 0, Value.int IntKind.u8 0, Value.int IntKind.u8 0, Value.int IntKind.u8 0, Value.int IntKind.u8 0, Value.int IntKind.u8 0, Value.int IntKind.u8 0, Value.int IntKind.u16 0, Value.slice none 0 0] = G6
  go_wp2_with fail
  obtain ⟨_, _, hA14, hl14, hrd14, hbs14⟩ := RdI.of_own (k := .u8) (xs := [9]) HO14.out
  cases hA14
  refine (same_any m255 m2 m255 m2 2054 2054 A A 1 c 1 c [9] [9] _ hrd14 hrd14 rfl rfl (byt_of _ (by decide)) (byt_of _ (by decide))).mono ?_
  rintro ev w15 ⟨rfl, k15⟩
  rw [show (macEq m255 m255 && macEq m2 m2 && ((2054 : Int) == 2054) && (([9] : List Int) == [9])) = true by decide]
  clear hrd14 hbs14 hl14
  clear q0 q1 q2 q3 q4 q5 q6 q7 q8 q9 q10 q11 q12 q13
  have K15 := Lib.hid (K14.out.trans' k15)
  have HX15 := Lib.hid (HX14.out.kp k15 (fun _ _ _ f => f))
  have HO15 := Lib.hid (own_kp HO14.out k15 (fun _ _ f => f))
  have C15 := Lib.hid (C14.out.none_kept k15)
  have hbk := HB14.out.kept k15 (fun f => f)
  have HP15 := Lib.hid (own_kp HP14.out k15 (fun _ _ f => f))
  have D15 := Lib.hid (D14.out.none_kept k15)
  have q0 : _ = some (Value.int IntKind.u8 255) := hbk.cell 0
  have q1 : _ = some (Value.int IntKind.u8 255) := hbk.cell 1
  have q2 : _ = some (Value.int IntKind.u8 255) := hbk.cell 2
  have q3 : _ = some (Value.int IntKind.u8 255) := hbk.cell 3
  have q4 : _ = some (Value.int IntKind.u8 255) := hbk.cell 4
  have q5 : _ = some (Value.int IntKind.u8 255) := hbk.cell 5
  have q6 : _ = some (Value.int IntKind.u8 2) := hbk.cell 6
  have q7 : _ = some (Value.int IntKind.u8 0) := hbk.cell 7
  have q8 : _ = some (Value.int IntKind.u8 0) := hbk.cell 8
  have q9 : _ = some (Value.int IntKind.u8 0) := hbk.cell 9
  have q10 : _ = some (Value.int IntKind.u8 0) := hbk.cell 10
  have q11 : _ = some (Value.int IntKind.u8 1) := hbk.cell 11
  have q12 : _ = some (Value.int IntKind.u16 2054) := hbk.cell 12
  have q13 : _ = some (Value.slice A 1 c) := hbk.cell 13
  have HB15 := Lib.hid hbk
  clear hbk k15
  generalize Value.agg #[Value.int IntKind.u8 255, Value.int IntKind.u8 255, Value.int IntKind.u8 255, Value.int IntKind.u8 255, Value.int IntKind.u8 255, Value.int IntKind.u8 255, Value.int IntKind.u8 2, Value.int IntKind.u8 0, Value.int IntKind.u8 0, Value.int IntKind.u8 0, Value.int IntKind.u8 0, Value.int IntKind.u8 1, Value.int IntKind.u16 2054, Value.slice A 1 c] = G7
  go_wp2_with fail
  obtain ⟨_, _, hA15, hl15, hrd15, hbs15⟩ := RdI.of_own (k := .u8) (xs := [9]) HO15.out
  cases hA15
  refine (same_any m255 m2 m0 m0 2054 0 A none 1 c 0 0 [9] [] _ hrd15 ⟨by decide, .inl rfl⟩ rfl rfl (byt_of _ (by decide)) (byt_of _ (by decide))).mono ?_
  rintro ev w16 ⟨rfl, k16⟩
  rw [show (macEq m255 m0 && macEq m2 m0 && ((2054 : Int) == 0) && (([9] : List Int) == [])) = false by decide]
  clear hrd15 hbs15 hl15
  clear q0 q1 q2 q3 q4 q5 q6 q7 q8 q9 q10 q11 q12 q13
  go_wp2_with fail
  go_ret
  exact ⟨rfl, K15.out.trans' k16⟩
end Go.Proofs.YtconpcnmccmbiaaDoor
namespace Go.Proofs.YtconpcnmccmbiaaDoor
open Go.RowKit

theorem own_form {w : World} {base n : Nat} {v : Value} {xs : List Value} (h : w.ownsRow base 5 1 v n xs) (hn : 0 < n) : ∃ g c, v = .slice (some ⟨g, 0, none⟩) n c ∧ n ≤ c ∧ c ≤ maxLen ∧ base ≤ g := by
  rcases h.2 with ⟨_, h0⟩ | ⟨g, cap, cur, h1, h2, _, h3, h4, _⟩
  · omega
  · exact ⟨g, cap, h1, h3, h4, h2⟩
theorem RdI.take {w : World} {k : IntKind} {A : Option Addr} {xs : List Int} (h : RdI w k A xs) (m : Nat) : RdI w k A (xs.take m) := by
  refine ⟨by have := h.1; rw [List.length_take]; omega, ?_⟩
  rcases h.2 with h0 | ⟨b, o, hA, hc⟩
  · left; rw [List.length_take]; omega
  · right
    refine ⟨b, o, hA, fun j hj => ?_⟩
    rw [List.length_take] at hj
    rw [hc j (by omega)]
    simp [List.getD, List.getElem?_take_of_lt (show j < m by omega)]
theorem byt_append {xs ys : List Int} (hx : Byt xs) (hy : Byt ys) : Byt (xs ++ ys) := by
  intro j
  rcases Nat.lt_or_ge j xs.length with h | h
  · have := hx j
    simpa [List.getD, List.getElem?_append_left h] using this
  · have := hy (j - xs.length)
    simpa [List.getD, List.getElem?_append_right h] using this
theorem byt_take {xs : List Int} (hx : Byt xs) (m : Nat) : Byt (xs.take m) := by
  intro j
  rcases Nat.lt_or_ge j m with h | h
  · have := hx j
    simpa [List.getD, List.getElem?_take_of_lt h] using this
  · simp [List.getD, List.getElem?_eq_none (show (xs.take m).length ≤ j by rw [List.length_take]; omega)]
theorem byt_mac {m : Nat → Int} (h : Oct m) : Byt (macL m) := by
  intro j
  match j with
  | 0 => exact h 0
  | 1 => exact h 1
  | 2 => exact h 2
  | 3 => exact h 3
  | 4 => exact h 4
  | 5 => exact h 5
  | j + 6 => simp [macL]
/-- A frame's bytes. -/
def fbytes (t f : Nat → Int) (k : Nat) (ys : List Int) : List Int := macL t ++ macL f ++ [(k : Int) / 256, (k : Int) % 256] ++ ys
theorem fbytes_len (t f : Nat → Int) (k : Nat) (ys : List Int) : (fbytes t f k ys).length = 14 + ys.length := by simp [fbytes, macL]; omega
theorem byt_fbytes {t f : Nat → Int} {k : Nat} {ys : List Int} (ht : Oct t) (hf : Oct f) (hk : k < 65536) (hy : Byt ys) : Byt (fbytes t f k ys) := by
  refine byt_append (byt_append (byt_append (byt_mac ht) (byt_mac hf)) ?_) hy
  intro j
  match j with
  | 0 => show 0 ≤ (k : Int) / 256 ∧ (k : Int) / 256 < 256; omega
  | 1 => show 0 ≤ (k : Int) % 256 ∧ (k : Int) % 256 < 256; omega
  | j + 2 => simp
theorem frm_of (u v t f : Nat → Int) (k : Int) (b : Value) (h1 : ∀ i, i < 6 → u i = t i) (h2 : ∀ i, i < 6 → v i = f i) : frm u v k b = frm t f k b := by
  simp only [frm, mac, h1 0 (by omega), h1 1 (by omega), h1 2 (by omega), h1 3 (by omega), h1 4 (by omega), h1 5 (by omega), h2 0 (by omega), h2 1 (by omega), h2 2 (by omega), h2 3 (by omega), h2 4 (by omega), h2 5 (by omega)]
theorem fbytes_at {t f : Nat → Int} {k : Nat} {ys : List Int} (cut : Nat) (hc : 14 ≤ cut) :
    (∀ i, i < 6 → ((fbytes t f k ys).take cut).getD i 0 = t i) ∧ (∀ i, i < 6 → ((fbytes t f k ys).take cut).getD (6 + i) 0 = f i) ∧ ((fbytes t f k ys).take cut).getD 12 0 * 256 + ((fbytes t f k ys).take cut).getD 13 0 = k ∧
      ((fbytes t f k ys).take cut).drop 14 = ys.take (cut - 14) := by
  have hg : ∀ i, i < 14 → ((fbytes t f k ys).take cut).getD i 0 = (macL t ++ macL f ++ [(k : Int) / 256, (k : Int) % 256] ++ ys).getD i 0 := fun i hi => by
    simp only [List.getD, List.getElem?_take_of_lt (show i < cut by omega)]
    rfl
  refine ⟨fun i hi => ?_, fun i hi => ?_, ?_, ?_⟩
  · rw [hg i (by omega)]
    have h6 : i = 0 ∨ i = 1 ∨ i = 2 ∨ i = 3 ∨ i = 4 ∨ i = 5 := by omega
    rcases h6 with rfl | rfl | rfl | rfl | rfl | rfl <;> rfl
  · rw [hg _ (by omega)]
    have h6 : i = 0 ∨ i = 1 ∨ i = 2 ∨ i = 3 ∨ i = 4 ∨ i = 5 := by omega
    rcases h6 with rfl | rfl | rfl | rfl | rfl | rfl <;> rfl
  · rw [hg 12 (by omega), hg 13 (by omega)]
    show (k : Int) / 256 * 256 + (k : Int) % 256 = k
    omega
  · rw [List.drop_take]
    rfl
/-- A frame's fourteen cells, written out. -/
def lit14 (t f : Nat → Int) (k : Int) (b : Value) : Array Value := #[.int .u8 (t 0), .int .u8 (t 1), .int .u8 (t 2), .int .u8 (t 3), .int .u8 (t 4), .int .u8 (t 5), .int .u8 (f 0), .int .u8 (f 1), .int .u8 (f 2), .int .u8 (f 3), .int .u8 (f 4), .int .u8 (f 5), .int .u16 k, b]

theorem eparse_even (g cut c : Nat) (t f : Nat → Int) (k : Nat) (ys : List Int) (w : World) (hr : RdI w .u8 (some ⟨g, 0, none⟩) (fbytes t f k ys)) (ht : Oct t) (hf : Oct f) (hk : k < 65536) (hy : Byt ys) (h1 : 14 ≤ cut) (h2 : cut ≤ 14 + ys.length) (h3 : ys.length ≤ 1500) (h4 : cut ≤ c) (he : (f 0 % 2 != 0) = false) :
    Calls Tryd.prog 47 #[.slice (some ⟨g, 0, none⟩) cut c] w fun ev w' => ∃ A d, ev = .returned (.tuple #[.agg (lit14 t f k (.slice A (cut - 14) d)), .nilIface]) ∧ w'.ownsRow w.heap.size 5 1 (.slice A (cut - 14) d) (cut - 14) (intsK .u8 (ys.take (cut - 14))) ∧ Kp (fun _ => False) w w' := by
  obtain ⟨a1, a2, a3, a4⟩ := fbytes_at (t := t) (f := f) (k := k) (ys := ys) cut h1
  have hl : ((fbytes t f k ys).take cut).length = cut := by rw [List.length_take, fbytes_len]; omega
  have h := eparse_mid g 0 c ((fbytes t f k ys).take cut) w (hr.take cut) (byt_take (byt_fbytes ht hf hk hy) cut) (by omega) (by omega) (by omega)
  rw [hl] at h
  refine h.mono ?_
  have hdl : (((fbytes t f k ys).take cut).drop 14).length = cut - 14 := by rw [List.length_drop, hl]
  rintro ev w' (⟨h, _⟩ | ⟨_, ⟨A, d, rfl, own⟩, hk'⟩)
  · rw [show (6 : Nat) = 6 + 0 from rfl, a2 0 (by omega), he] at h
    cases h
  · refine ⟨A, d, ?_, ?_, hk'⟩
    · rw [frm_of _ _ t f _ _ a1 a2, a3, hdl]
      rfl
    · rw [hdl, a4] at own
      exact own
theorem eparse_odd (g cut c : Nat) (t f : Nat → Int) (k : Nat) (ys : List Int) (w : World) (hr : RdI w .u8 (some ⟨g, 0, none⟩) (fbytes t f k ys)) (ht : Oct t) (hf : Oct f) (hk : k < 65536) (hy : Byt ys) (h1 : 14 ≤ cut) (h2 : cut ≤ 14 + ys.length) (h3 : ys.length ≤ 1500) (h4 : cut ≤ c) (he : (f 0 % 2 != 0) = true) :
    Calls Tryd.prog 47 #[.slice (some ⟨g, 0, none⟩) cut c] w fun ev w' => ∃ v, ev = .returned (.tuple #[.agg (lit14 m0 m0 0 (.slice none 0 0)), v]) ∧ Chain w' 10 [1] v ∧ Kp (fun _ => False) w w' := by
  obtain ⟨a1, a2, a3, a4⟩ := fbytes_at (t := t) (f := f) (k := k) (ys := ys) cut h1
  have hl : ((fbytes t f k ys).take cut).length = cut := by rw [List.length_take, fbytes_len]; omega
  have h := eparse_mid g 0 c ((fbytes t f k ys).take cut) w (hr.take cut) (byt_take (byt_fbytes ht hf hk hy) cut) (by omega) (by omega) (by omega)
  rw [hl] at h
  refine h.mono ?_
  rintro ev w' (⟨_, ⟨v, rfl, hc⟩, hk'⟩ | ⟨h, _⟩)
  · exact ⟨v, rfl, hc, hk'⟩
  · rw [show (6 : Nat) = 6 + 0 from rfl, a2 0 (by omega), he] at h
    cases h
end Go.Proofs.YtconpcnmccmbiaaDoor
