/- Ether: Parse, the frame itself. -/
import Derived.Test.YtconpcnmccmbiaaDoorFa
import Derived.Deep.RegionHeld3
import Derived.Laws.Cover3
import Derived.Deep.DeepCutAuto
namespace Go.Proofs.YtconpcnmccmbiaaDoor
open Go.RowKit Go.Proofs.YtconpcnmccmbiaaDoorW.PrintWords


theorem hi77s : (Tryd.prog.info? 77).map (·.size) = some 14 := by kernel_rfl
/-- What Parse answers of bytes of a right length. -/
def ParsePost (xs : List Int) (w : World) (ev : Ending) (w' : World) : Prop :=
  ((xs.getD 6 0 % 2 != 0) = true ∧ (∃ v, ev = .returned (.tuple #[.agg frm0, v]) ∧ Chain w' 10 [1] v) ∧ Kp (fun _ => False) w w') ∨
  ((xs.getD 6 0 % 2 != 0) = false ∧ (∃ A c, ev = .returned (.tuple #[.agg (frm (fun i => xs.getD i 0) (fun i => xs.getD (6 + i) 0) (xs.getD 12 0 * 256 + xs.getD 13 0) (.slice A (xs.drop 14).length c)), .nilIface]) ∧ w'.ownsRow w.heap.size 5 1 (.slice A (xs.drop 14).length c) (xs.drop 14).length (intsK .u8 (xs.drop 14))) ∧ Kp (fun _ => False) w w')

set_option maxRecDepth 100000 in
set_option maxHeartbeats 40000000 in
theorem eparse_mid (b o c : Nat) (xs : List Int) (w : World) (hx : RdI w .u8 (some ⟨b, o, none⟩) xs) (hb : Byt xs) (h1 : 14 ≤ xs.length) (h2 : xs.length ≤ 1514) (hc : xs.length ≤ c) :
    Calls Tryd.prog 47 #[.slice (some ⟨b, o, none⟩) xs.length c] w fun ev w' => ParsePost xs w ev w' := by
  have hcc : ∀ j, j < xs.length → w.cell? ⟨b, o + j, none⟩ = some (.int .u8 (xs.getD j 0)) := by
    rcases hx.2 with h | ⟨b', o', hA, h⟩
    · omega
    · cases hA
      exact h
  obtain ⟨x, hX⟩ : ∃ x : Nat → Int, (fun i => xs.getD i 0) = x := ⟨_, rfl⟩
  have hxj : ∀ j, xs.getD j 0 = x j := fun j => congrFun hX j
  clear hX
  obtain ⟨n12, hn12⟩ : ∃ n : Nat, x 12 = n := ⟨(x 12).toNat, by have := hb 12; rw [hxj] at this; omega⟩
  obtain ⟨n13, hn13⟩ : ∃ n : Nat, x 13 = n := ⟨(x 13).toNat, by have := hb 13; rw [hxj] at this; omega⟩
  have hb12 : n12 < 256 := by have := hb 12; rw [hxj] at this; omega
  have hb13 : n13 < 256 := by have := hb 13; rw [hxj] at this; omega
  have kA := (Kp.refl (fun _ => False) w).alloc (.cells frm0 77)
  have HbA := Lib.hid (Bk.new w 77 frm0)
  have HkA := Lib.hid kA
  have Hx := Lib.hid hx
  have Hcc := Lib.hid hcc
  have Hb := Lib.hid hb
  have HX := Lib.hid hxj
  have g1 : ¬ ((xs.length : Int) < 14) := by omega
  have g2 : ¬ ((1514 : Int) < (xs.length : Int)) := by omega
  have hbl : b < w.heap.size := World.block_lt_of_cell? w _ (hcc 0 (by omega))
  clear kA hcc hx hb
  obtain ⟨POST, hPOST⟩ : ∃ Q, ParsePost xs w = Q := ⟨_, rfl⟩
  have HPOST := Lib.hid hPOST
  rw [hPOST]
  clear hPOST
  go_enter Tryd.func47, Tryd.ntmps47
  go_wp2_with fail
  refine (at2_any b o 12 xs.length c n12 n13 _ (by omega) (by omega) hc ?_ ?_ hb12 hb13).mono ?_
  · rw [← hn12, ← HX.out 12, ← Hcc.out 12 (by omega)]
    exact HkA.out.cell (p := ⟨b, o + 12, none⟩) hbl (fun f => f)
  · rw [← hn13, ← HX.out 13, ← Hcc.out 13 (by omega)]
    exact HkA.out.cell (p := ⟨b, o + 13, none⟩) hbl (fun f => f)
  rintro ev w1 ⟨rfl, k1⟩
  have cc : ∀ j, j < 14 → w1.cell? ⟨b, o + j, none⟩ = some (.int .u8 (x j)) := by
    intro j hj
    rw [← HX.out j, ← Hcc.out j (by omega)]
    exact ((HkA.out.trans' k1).cell (p := ⟨b, o + j, none⟩) hbl (fun f => f))
  have c0 : w1.cell? ⟨b, o, none⟩ = some (.int .u8 (x 0)) := cc 0 (by omega)
  have c1 := cc 1 (by omega)
  have c2 := cc 2 (by omega)
  have c3 := cc 3 (by omega)
  have c4 := cc 4 (by omega)
  have c5 := cc 5 (by omega)
  have c6 := cc 6 (by omega)
  have c7 := cc 7 (by omega)
  have c8 := cc 8 (by omega)
  have c9 := cc 9 (by omega)
  have c10 := cc 10 (by omega)
  have c11 := cc 11 (by omega)
  have K1 := Lib.hid (HkA.out.trans' k1)
  have HBr := Lib.hid (HbA.out.kept k1 (fun f => f))
  have hgt : w.heap.size < w1.heap.size := by have := (HbA.out.kept k1 (fun f => f)).lt; omega
  clear cc
  have hwr : IntKind.u16.wrap ((n12 : Int) * 256 + n13) = (n12 : Int) * 256 + n13 := by rw [IntKind.wrap_u16]; omega
  have HWR := Lib.hid hwr
  clear hwr
  have HN12 := Lib.hid hn12
  have HN13 := Lib.hid hn13
  clear hn12 hn13
  have g3 : ¬ (c = 6) := by omega
  have g4 : (6 : Int) ≤ (c : Int) := by omega
  have g5 : (14 : Int) ≤ (xs.length : Int) := by omega
  have g6 : 6 ≤ xs.length - 6 := by omega
  have hrt : RdI w1 .u8 (if c = 14 then some ⟨b, o, none⟩ else some ⟨b, o + 14, none⟩) (xs.drop 14) := by
    refine ⟨by have := Hx.out.1; simp; omega, ?_⟩
    by_cases h14 : c = 14
    · left; simp; omega
    · right
      refine ⟨b, o + 14, by rw [if_neg h14], fun j hj => ?_⟩
      have hj2 : j < xs.length - 14 := by simpa using hj
      have e1 : (xs.drop 14).getD j 0 = xs.getD (14 + j) 0 := by simp [List.getD, List.getElem?_drop]
      rw [e1, ← Hcc.out (14 + j) (by omega), show o + 14 + j = o + (14 + j) by omega]
      exact (HkA.out.trans' k1).cell (p := ⟨b, o + (14 + j), none⟩) hbl (fun f => f)
  obtain ⟨AD, hAD, hrt2⟩ : ∃ AD, (if c = 14 then some (⟨b, o, none⟩ : Addr) else some ⟨b, o + 14, none⟩) = AD ∧ RdI w1 .u8 AD (xs.drop 14) := ⟨_, rfl, hrt⟩
  have HRT := Lib.hid hrt2
  obtain ⟨m, hm⟩ : ∃ m, (xs.drop 14).length = m := ⟨_, rfl⟩
  have hdl : xs.length - 14 = m := by rw [← hm]; simp
  have hcl : ∀ w, RdI w .u8 AD (xs.drop 14) → Calls Tryd.prog 74 #[.slice AD m (c - 14)] w fun ev w' => ∃ A2 d2, ev = .returned (.slice A2 m d2) ∧ w'.ownsRow w.heap.size 5 1 (.slice A2 m d2) m (intsK .u8 (xs.drop 14)) ∧ Kp (fun _ => False) w w' := fun w hr => by
    have h := cloneB_any AD (c - 14) (xs.drop 14) w hr (by rw [hm]; omega)
    rw [hm] at h
    refine h.mono ?_
    rintro ev w' ⟨v, rfl, own, k⟩
    obtain ⟨A2, d2, rfl, _, _, _⟩ := RdI.of_own (k := .u8) (xs := xs.drop 14) own
    exact ⟨A2, d2, rfl, own, k⟩
  have HCL := Lib.hid hcl
  have HDL := Lib.hid hdl
  have HM := Lib.hid hm
  clear hcl hrt hrt2 hdl k1 hm
  go_upto_region 6 with fail
  go_cut [6] from 7 to 42 (fun s6 wx => ParseMid w.heap.size w1 x ((n12 : Int) * 256 + n13) m (xs.drop 14) s6 wx)
  case first =>
    have hat1 : ∀ w, (Instr.arrayAt 73 (.slice (some ⟨b, o, none⟩) xs.length c)).run Tryd.prog w = .ok (.pointer (some ⟨b, o, none⟩)) w := fun w => run_arrayAt w 73 5 6 _ _ _ Tryd.underlying73 (by omega)
    have hat2 : ∀ w, (Instr.arrayAt 73 (.slice (some ⟨b, o + 6, none⟩) (xs.length - 6) (c - 6))).run Tryd.prog w = .ok (.pointer (some ⟨b, o + 6, none⟩)) w := fun w => run_arrayAt w 73 5 6 _ _ _ Tryd.underlying73 (by omega)
    have g7 : (6 : Int) ≤ (xs.length : Int) := by omega
    have g8 : 6 ≤ xs.length := by omega
    have g9 : 14 ≤ xs.length := by omega
    have hbw1 : b < w1.heap.size := World.block_lt_of_cell? w1 _ c0
    have ne1 : b ≠ w1.heap.size := by omega
    have ne2 : w1.heap.size ≠ b := by omega
    go_region_held3 (fun w' => w'.cell? ⟨b, o, none⟩ = some (.int .u8 (x 0)) ∧ w'.cell? ⟨b, o + 1, none⟩ = some (.int .u8 (x 1)) ∧ w'.cell? ⟨b, o + 2, none⟩ = some (.int .u8 (x 2)) ∧ w'.cell? ⟨b, o + 3, none⟩ = some (.int .u8 (x 3)) ∧ w'.cell? ⟨b, o + 4, none⟩ = some (.int .u8 (x 4)) ∧ w'.cell? ⟨b, o + 5, none⟩ = some (.int .u8 (x 5)) ∧ w'.cell? ⟨b, o + 6, none⟩ = some (.int .u8 (x 6)) ∧ w'.cell? ⟨b, o + 7, none⟩ = some (.int .u8 (x 7)) ∧ w'.cell? ⟨b, o + 8, none⟩ = some (.int .u8 (x 8)) ∧ w'.cell? ⟨b, o + 9, none⟩ = some (.int .u8 (x 9)) ∧ w'.cell? ⟨b, o + 10, none⟩ = some (.int .u8 (x 10)) ∧ w'.cell? ⟨b, o + 11, none⟩ = some (.int .u8 (x 11)))
      (first | go_keep | fail)
      (first
        | (go_at_call 74
           (
             rw [HDL.out]
             refine (HCL.out _ (by exact HRT.out)).mono ?_
             rintro ev w2 ⟨A2, d2, rfl, own2, k2⟩
             have k2 : Kp (fun _ => False) w1 w2 := Kp.undrewN (n := 1) k2
             have q0 := (k2.cell (p := ⟨b, o, none⟩) (World.block_lt_of_cell? w1 _ c0) (fun f => f)).trans c0
             have q1 := (k2.cell (p := ⟨b, o + 1, none⟩) (World.block_lt_of_cell? w1 _ c1) (fun f => f)).trans c1
             have q2 := (k2.cell (p := ⟨b, o + 2, none⟩) (World.block_lt_of_cell? w1 _ c2) (fun f => f)).trans c2
             have q3 := (k2.cell (p := ⟨b, o + 3, none⟩) (World.block_lt_of_cell? w1 _ c3) (fun f => f)).trans c3
             have q4 := (k2.cell (p := ⟨b, o + 4, none⟩) (World.block_lt_of_cell? w1 _ c4) (fun f => f)).trans c4
             have q5 := (k2.cell (p := ⟨b, o + 5, none⟩) (World.block_lt_of_cell? w1 _ c5) (fun f => f)).trans c5
             have q6 := (k2.cell (p := ⟨b, o + 6, none⟩) (World.block_lt_of_cell? w1 _ c6) (fun f => f)).trans c6
             have q7 := (k2.cell (p := ⟨b, o + 7, none⟩) (World.block_lt_of_cell? w1 _ c7) (fun f => f)).trans c7
             have q8 := (k2.cell (p := ⟨b, o + 8, none⟩) (World.block_lt_of_cell? w1 _ c8) (fun f => f)).trans c8
             have q9 := (k2.cell (p := ⟨b, o + 9, none⟩) (World.block_lt_of_cell? w1 _ c9) (fun f => f)).trans c9
             have q10 := (k2.cell (p := ⟨b, o + 10, none⟩) (World.block_lt_of_cell? w1 _ c10) (fun f => f)).trans c10
             have q11 := (k2.cell (p := ⟨b, o + 11, none⟩) (World.block_lt_of_cell? w1 _ c11) (fun f => f)).trans c11
             have Hown2 := Lib.hid (own_base (base' := w.heap.size + 1) own2 (by show w.heap.size + 1 ≤ w1.heap.size; omega))
             have K2 := Lib.hid k2
             clear k2 own2))
        | (go_at_call 74
           go_must (
             rw [HDL.out]
             refine (HCL.out _ (by exact HRT.out.alloc (.cells #[.int .u8 0, .int .u8 0, .int .u8 0, .int .u8 0, .int .u8 0, .int .u8 0, .int .u8 0, .int .u8 0, .int .u8 0, .int .u8 0, .int .u8 0, .int .u8 0, .int .u16 0, .slice none 0 0] 77))).mono ?_
             rintro ev w2 ⟨A2, d2, rfl, own2, k2⟩
             have nb := (Bk.new w1 77 #[.int .u8 0, .int .u8 0, .int .u8 0, .int .u8 0, .int .u8 0, .int .u8 0, .int .u8 0, .int .u8 0, .int .u8 0, .int .u8 0, .int .u8 0, .int .u8 0, .int .u16 0, .slice none 0 0]).kept (Kp.undrewN (n := 1) k2) (fun f => f)
             have nc0 := nb.cell 0
             have nf0 := nb.frozen 0
             have nc1 := nb.cell 1
             have nf1 := nb.frozen 1
             have nc2 := nb.cell 2
             have nf2 := nb.frozen 2
             have nc3 := nb.cell 3
             have nf3 := nb.frozen 3
             have nc4 := nb.cell 4
             have nf4 := nb.frozen 4
             have nc5 := nb.cell 5
             have nf5 := nb.frozen 5
             have nc6 := nb.cell 6
             have nf6 := nb.frozen 6
             have nc7 := nb.cell 7
             have nf7 := nb.frozen 7
             have nc8 := nb.cell 8
             have nf8 := nb.frozen 8
             have nc9 := nb.cell 9
             have nf9 := nb.frozen 9
             have nc10 := nb.cell 10
             have nf10 := nb.frozen 10
             have nc11 := nb.cell 11
             have nf11 := nb.frozen 11
             have nc12 := nb.cell 12
             have nf12 := nb.frozen 12
             have nc13 := nb.cell 13
             have nf13 := nb.frozen 13
             have k2 : Kp (fun _ => False) w1 w2 := ((Kp.refl _ w1).alloc (.cells #[.int .u8 0, .int .u8 0, .int .u8 0, .int .u8 0, .int .u8 0, .int .u8 0, .int .u8 0, .int .u8 0, .int .u8 0, .int .u8 0, .int .u8 0, .int .u8 0, .int .u16 0, .slice none 0 0] 77)).trans' (Kp.undrewN (n := 1) k2)
             have q0 := (k2.cell (p := ⟨b, o, none⟩) (World.block_lt_of_cell? w1 _ c0) (fun f => f)).trans c0
             have q1 := (k2.cell (p := ⟨b, o + 1, none⟩) (World.block_lt_of_cell? w1 _ c1) (fun f => f)).trans c1
             have q2 := (k2.cell (p := ⟨b, o + 2, none⟩) (World.block_lt_of_cell? w1 _ c2) (fun f => f)).trans c2
             have q3 := (k2.cell (p := ⟨b, o + 3, none⟩) (World.block_lt_of_cell? w1 _ c3) (fun f => f)).trans c3
             have q4 := (k2.cell (p := ⟨b, o + 4, none⟩) (World.block_lt_of_cell? w1 _ c4) (fun f => f)).trans c4
             have q5 := (k2.cell (p := ⟨b, o + 5, none⟩) (World.block_lt_of_cell? w1 _ c5) (fun f => f)).trans c5
             have q6 := (k2.cell (p := ⟨b, o + 6, none⟩) (World.block_lt_of_cell? w1 _ c6) (fun f => f)).trans c6
             have q7 := (k2.cell (p := ⟨b, o + 7, none⟩) (World.block_lt_of_cell? w1 _ c7) (fun f => f)).trans c7
             have q8 := (k2.cell (p := ⟨b, o + 8, none⟩) (World.block_lt_of_cell? w1 _ c8) (fun f => f)).trans c8
             have q9 := (k2.cell (p := ⟨b, o + 9, none⟩) (World.block_lt_of_cell? w1 _ c9) (fun f => f)).trans c9
             have q10 := (k2.cell (p := ⟨b, o + 10, none⟩) (World.block_lt_of_cell? w1 _ c10) (fun f => f)).trans c10
             have q11 := (k2.cell (p := ⟨b, o + 11, none⟩) (World.block_lt_of_cell? w1 _ c11) (fun f => f)).trans c11
             have Hown2 := Lib.hid (own_base (base' := w1.heap.size + 1) own2 (by show w1.heap.size + 1 ≤ (w1.alloc _).heap.size; simp))
             have K2 := Lib.hid k2
             clear k2 own2))
        | fail)
    all_goals
      go_wp2_with fail
      go_meet
    all_goals
      first
        | with_reducible exact parseMid_a K2.out Hown2.out hgt HWR.out
        | with_reducible exact parseMid_b K2.out Hown2.out hgt HWR.out nb
  case rest =>
    obtain ⟨g, A2, d2, rfl, hg, hbg, hown, hkw⟩ := hcut
    have q6 : wc.cell? ⟨g, 6, none⟩ = some (.int .u8 (x 6)) := hbg.cell 6
    have q7 : wc.cell? ⟨g, 7, none⟩ = some (.int .u8 (x 7)) := hbg.cell 7
    have q8 : wc.cell? ⟨g, 8, none⟩ = some (.int .u8 (x 8)) := hbg.cell 8
    have q9 : wc.cell? ⟨g, 9, none⟩ = some (.int .u8 (x 9)) := hbg.cell 9
    have q10 : wc.cell? ⟨g, 10, none⟩ = some (.int .u8 (x 10)) := hbg.cell 10
    have q11 : wc.cell? ⟨g, 11, none⟩ = some (.int .u8 (x 11)) := hbg.cell 11
    have HB := Lib.hid hbg
    have HO := Lib.hid hown
    have HK := Lib.hid hkw
    clear hbg hown hkw
    have hb6 := Hb.out 6
    rw [HX.out] at hb6
    obtain ⟨p, hp⟩ : ∃ p, (xs.getD 6 0 % 2 != 0) = p := ⟨_, rfl⟩
    have hgr : ∀ w, Calls Tryd.prog 75 #[.agg (mac fun i => x (6 + i))] w fun ev w' => ev = .returned (.bool p) ∧ Kp (fun _ => False) w w' := fun w => by
      refine (group_any (fun i => x (6 + i)) w hb6).mono ?_
      rintro ev w' ⟨rfl, k⟩
      refine ⟨?_, k⟩
      rw [← hp, HX.out]
    have HGR := Lib.hid hgr
    have HP := Lib.hid hp
    clear hgr hp hb6
    go_wp2_with fail
    refine (HGR.out _).mono ?_
    rintro ev w3 ⟨rfl, k3⟩
    have hbr := HBr.out.kept (HK.out.trans' k3) (fun f => f)
    have hbg3 := HB.out.kept k3 (fun f => f)
    have K3 := Lib.hid (HK.out.trans' k3)
    have HO3 := Lib.hid (own_kp HO.out k3 (fun _ _ f => f))
    clear k3
    cases p
    · have r0 : w3.cell? ⟨g, 0, none⟩ = some (.int .u8 (x 0)) := hbg3.cell 0
      have r1 : w3.cell? ⟨g, 1, none⟩ = some (.int .u8 (x 1)) := hbg3.cell 1
      have r2 : w3.cell? ⟨g, 2, none⟩ = some (.int .u8 (x 2)) := hbg3.cell 2
      have r3 : w3.cell? ⟨g, 3, none⟩ = some (.int .u8 (x 3)) := hbg3.cell 3
      have r4 : w3.cell? ⟨g, 4, none⟩ = some (.int .u8 (x 4)) := hbg3.cell 4
      have r5 : w3.cell? ⟨g, 5, none⟩ = some (.int .u8 (x 5)) := hbg3.cell 5
      have r6 : w3.cell? ⟨g, 6, none⟩ = some (.int .u8 (x 6)) := hbg3.cell 6
      have r7 : w3.cell? ⟨g, 7, none⟩ = some (.int .u8 (x 7)) := hbg3.cell 7
      have r8 : w3.cell? ⟨g, 8, none⟩ = some (.int .u8 (x 8)) := hbg3.cell 8
      have r9 : w3.cell? ⟨g, 9, none⟩ = some (.int .u8 (x 9)) := hbg3.cell 9
      have r10 : w3.cell? ⟨g, 10, none⟩ = some (.int .u8 (x 10)) := hbg3.cell 10
      have r11 : w3.cell? ⟨g, 11, none⟩ = some (.int .u8 (x 11)) := hbg3.cell 11
      have r12 : w3.cell? ⟨g, 12, none⟩ = some (.int .u16 ((n12 : Int) * 256 + n13)) := hbg3.cell 12
      have r13 : w3.cell? ⟨g, 13, none⟩ = some (.slice A2 m d2) := hbg3.cell 13
      have hi77 : (Tryd.prog.info? 77).map (·.size) = some (frm x (fun i => x (6 + i)) ((n12 : Int) * 256 + n13) (.slice A2 m d2)).size := hi77s
      have HI := Lib.hid hi77
      have HG3 := Lib.hid hbg3
      clear hbg3 hi77
      go_wp2_with
        ((with_reducible refine gate_store (t := 77) (p := 2) (v := .tmp 42) rfl ?_)
         go_must (refine wpList_store_row (by rfl) 77 (.tmp 2) (.tmp 42) (by rfl) w.heap.size (frm x (fun i => x (6 + i)) ((n12 : Int) * 256 + n13) (.slice A2 m d2)) (by rfl) (by rfl) 77 frm0 hbr HI.out rfl (frm_one _ _ _ _ _ _) ?_))
      refine bodyPost_ret (results_ct rfl _ _ w.heap.size 77 (frm x (fun i => x (6 + i)) ((n12 : Int) * 256 + n13) (.slice A2 m d2)) (0, 0) _ rfl (hbr.setRow _) Tryd.underlying77 rfl HI.out) rfl ?_
      rw [← HPOST.out]
      have kS := Kp.setRow (S := fun b => b = w.heap.size) (Kp.refl _ w3) (.inl rfl) (frm x (fun i => x (6 + i)) ((n12 : Int) * 256 + n13) (.slice A2 m d2))
      refine .inr ⟨HP.out, ⟨A2, d2, ?_, ?_⟩, (K1.out.trans' K3.out).setRow (.inr (Nat.le_refl _)) _⟩
      · have e : Ending.returned (.tuple #[.agg (frm x (fun i => x (6 + i)) ((n12 : Int) * 256 + n13) (.slice A2 m d2)), .nilIface]) = .returned (.tuple #[.agg (frm (fun i => xs.getD i 0) (fun i => xs.getD (6 + i) 0) (xs.getD 12 0 * 256 + xs.getD 13 0) (.slice A2 (xs.drop 14).length d2)), .nilIface]) := by
          simp only [HX.out, HN12.out, HN13.out, HM.out]
        exact e
      · rw [HM.out]
        exact own_base (own_kp HO3.out kS (fun k hk h => by subst h; have := (HO3.out.lt _ hk).1; omega)) (by omega)
    · have HO4 := HO3
      go_wp2_with fail
      refine (fault_yes 1 10 _ (by decide) (by decide)).mono ?_
      rintro ev w4 ⟨v, rfl, c1, k4⟩
      have hb1 := hbr.kept k4 (fun f => f)
      go_wp2_with
        ((with_reducible refine gate_store (t := 77) (p := 2) (v := .tmp 40) rfl ?_)
         go_must (refine wpList_store_row (by rfl) 77 (.tmp 2) (.tmp 40) (by rfl) w.heap.size frm0 (by rfl) (by rfl) 77 frm0 hb1 (by kernel_rfl) rfl (frm_one _ _ _ _ _ _) ?_))
      refine bodyPost_ret (results_ct rfl _ _ w.heap.size 77 frm0 (0, 0) _ rfl (hb1.setRow frm0) Tryd.underlying77 rfl (by kernel_rfl)) rfl ?_
      rw [← HPOST.out]
      have kS := Kp.setRow (S := fun b => b = w.heap.size) (Kp.refl _ w4) (.inl rfl) frm0
      exact .inl ⟨HP.out, ⟨v, rfl, c1.kept kS (fun k cs h5 h3 => by subst h3; exact Bk.ne_of h5 hb1 (by decide) rfl)⟩, (K1.out.trans' (K3.out.trans' k4)).setRow (.inr (Nat.le_refl _)) frm0⟩
end Go.Proofs.YtconpcnmccmbiaaDoor
