/- Arp: the reference's Num and Parse. -/
import Derived.Test.YtfhhmehlkjaibaaDoorZk
import Derived.Test.YtfhhmehlkjaibaaDoorGb
import Derived.Deep.DeepCutAuto
set_option linter.unusedVariables false
set_option linter.unusedSimpArgs false
namespace Go.Proofs.YtfhhmehlkjaibaaDoor
open Go.RowKit Go.Proofs.YtfhhmehlkjaibaaDoorW.PrintWords

theorem hi28s : (Tryd.prog.info? 28).map (·.size) = some 2 := by kernel_rfl
/-- A fault's slice, read. -/
theorem newIs_yes {w : World} {base : Nat} {r e : Int} {u : Value} {l : List Int} {f : Int} (h : NewIs w base r e u l f) (he : e ≠ 0) (hk : knownR r = true) : l = [r] ∧ f = e := by
  rcases h.2 with ⟨h1 | h1, _⟩ | ⟨_, _, h2, h3⟩
  · exact absurd h1 he
  · rw [hk] at h1; cases h1
  · exact ⟨h2, h3⟩
set_option maxRecDepth 100000 in
set_option maxHeartbeats 20000000 in
theorem num_any (b o n c x y z u : Nat) (w : World) (h : 4 ≤ n) (h1 : w.cell? ⟨b, o, none⟩ = some (.int .u8 x)) (h2 : w.cell? ⟨b, o + 1, none⟩ = some (.int .u8 y)) (h3 : w.cell? ⟨b, o + 2, none⟩ = some (.int .u8 z)) (h4 : w.cell? ⟨b, o + 3, none⟩ = some (.int .u8 u)) (hx : x < 256) (hy : y < 256) (hz : z < 256) (hu : u < 256) :
    Calls Tryd.prog 43 #[.slice (some ⟨b, o, none⟩) n c] w fun ev w' => ev = .returned (.int .u32 (((((x * 256 + y) * 256 + z) * 256 + u : Nat)) : Int)) ∧ Kp (fun _ => False) w w' := by
  have i0 : (0 : Int) < (n : Int) := by omega
  have i1 : (1 : Int) < (n : Int) := by omega
  have i2 : (2 : Int) < (n : Int) := by omega
  have i3 : (3 : Int) < (n : Int) := by omega
  have e1 : IntKind.u32.wrap (x : Int) = x := by rw [IntKind.wrap_u32']; omega
  have e2 : IntKind.u32.wrap (y : Int) = y := by rw [IntKind.wrap_u32']; omega
  have e3 : IntKind.u32.wrap (z : Int) = z := by rw [IntKind.wrap_u32']; omega
  have e4 : IntKind.u32.wrap (u : Int) = u := by rw [IntKind.wrap_u32']; omega
  have f1 : IntKind.u32.wrap ((x : Int) * 16777216) = x * 16777216 := by rw [IntKind.wrap_u32']; omega
  have f2 : IntKind.u32.wrap ((y : Int) * 65536) = y * 65536 := by rw [IntKind.wrap_u32']; omega
  have f3 : IntKind.u32.wrap ((z : Int) * 256) = z * 256 := by rw [IntKind.wrap_u32']; omega
  have j1 : IntKind.u32.wrap ((x : Int) * 16777216 + y * 65536) = x * 16777216 + y * 65536 := by rw [IntKind.wrap_u32']; omega
  have j2 : IntKind.u32.wrap ((x : Int) * 16777216 + y * 65536 + z * 256) = x * 16777216 + y * 65536 + z * 256 := by rw [IntKind.wrap_u32']; omega
  have j3 : IntKind.u32.wrap ((x : Int) * 16777216 + y * 65536 + z * 256 + u) = x * 16777216 + y * 65536 + z * 256 + u := by rw [IntKind.wrap_u32']; omega
  have hend : ((x : Int) * 16777216 + y * 65536 + z * 256 + u) = (((((x * 256 + y) * 256 + z) * 256 + u : Nat)) : Int) := by omega
  have HEND := Lib.hid hend
  clear hend hx hy hz hu
  go_enter Tryd.func43, Tryd.ntmps43
  go_wp2_with fail
  go_quiet (fail)
  go_wp2_with fail
  go_ret
  exact ⟨congrArg (fun v => Ending.returned (.int .u32 v)) HEND.out, (Kp.refl _ _).drewN _⟩
set_option maxRecDepth 100000 in
set_option maxHeartbeats 20000000 in
theorem rparse_short (A : Option Addr) (c n : Nat) (w : World) (h : n < 28) :
    Calls Tryd.prog 19 #[.slice A n c] w fun ev w' => ∃ A2 c2, ev = .returned (.tuple #[.agg (pkt 0 (fun _ => 0) 0 (fun _ => 0) 0), .agg #[.slice A2 1 c2, .int .i64 12]]) ∧ RdI w' .i64 A2 [1] ∧ 1 ≤ c2 ∧ Kp (fun _ => False) w w' := by
  have h1 : (n : Int) < 28 := by omega
  have kA := ((Kp.refl (fun _ => False) w).alloc (.cells #[.int .i64 0, .int .u8 0, .int .u8 0, .int .u8 0, .int .u8 0, .int .u8 0, .int .u8 0, .int .u32 0, .int .u8 0, .int .u8 0, .int .u8 0, .int .u8 0, .int .u8 0, .int .u8 0, .int .u32 0] 48)).alloc (.cells #[.slice none 0 0, .int .i64 0] 28)
  have hb0 := (Bk.new w 48 #[.int .i64 0, .int .u8 0, .int .u8 0, .int .u8 0, .int .u8 0, .int .u8 0, .int .u8 0, .int .u32 0, .int .u8 0, .int .u8 0, .int .u8 0, .int .u8 0, .int .u8 0, .int .u8 0, .int .u32 0]).alloc (.cells #[.slice none 0 0, .int .i64 0] 28)
  have hb1 := Bk.new (w.alloc (.cells #[.int .i64 0, .int .u8 0, .int .u8 0, .int .u8 0, .int .u8 0, .int .u8 0, .int .u8 0, .int .u32 0, .int .u8 0, .int .u8 0, .int .u8 0, .int .u8 0, .int .u8 0, .int .u8 0, .int .u32 0] 48)) 28 #[.slice none 0 0, .int .i64 0]
  rw [show (w.alloc (.cells #[.int .i64 0, .int .u8 0, .int .u8 0, .int .u8 0, .int .u8 0, .int .u8 0, .int .u8 0, .int .u32 0, .int .u8 0, .int .u8 0, .int .u8 0, .int .u8 0, .int .u8 0, .int .u8 0, .int .u32 0] 48)).heap.size = w.heap.size + 1 by simp] at hb1
  have HB0 := Lib.hid hb0
  have HB1 := Lib.hid hb1
  have HK := Lib.hid kA
  clear kA hb0 hb1
  go_enter Tryd.func19, Tryd.ntmps19
  go_wp2_with fail
  refine (fnew_any 1 12 _).mono ?_
  rintro ev w1 ⟨u, l, e, rfl, hni, k1⟩
  obtain ⟨rfl, rfl⟩ := newIs_yes hni (by decide) (by decide)
  obtain ⟨A2, c2, rfl, hlc, _, rd⟩ := hni.1.read
  have hb0 := HB0.out.kept k1 (fun x => x)
  have hb1 := HB1.out.kept k1 (fun x => x)
  have K1 := Lib.hid (HK.out.trans' k1)
  have hown : ∀ b o, A2 = some ⟨b, o, none⟩ → b ≠ w.heap.size + 1 ∧ b ≠ w.heap.size := by
    rintro b o rfl
    exact ⟨fun h => by subst h; exact hni.1.ne hb1 (by decide) rfl, fun h => by subst h; exact hni.1.ne hb0 (by decide) rfl⟩
  have HR := Lib.hid rd
  have HOW := Lib.hid hown
  have kS := Kp.setRow (S := fun b => b = w.heap.size) (Kp.refl _ w1) (.inl rfl) #[.int .i64 0, .int .u8 0, .int .u8 0, .int .u8 0, .int .u8 0, .int .u8 0, .int .u8 0, .int .u32 0, .int .u8 0, .int .u8 0, .int .u8 0, .int .u8 0, .int .u8 0, .int .u8 0, .int .u32 0]
  have hb1' := hb1.kept kS (by show ¬ w.heap.size + 1 = w.heap.size; omega)
  have kS2 := Kp.setRow (S := fun b => b = w.heap.size + 1) (Kp.refl _ (w1.setRow w.heap.size #[.int .i64 0, .int .u8 0, .int .u8 0, .int .u8 0, .int .u8 0, .int .u8 0, .int .u8 0, .int .u32 0, .int .u8 0, .int .u8 0, .int .u8 0, .int .u8 0, .int .u8 0, .int .u8 0, .int .u32 0])) (.inl rfl) #[.slice A2 1 c2, .int .i64 12]
  have hb0' := (hb0.setRow #[.int .i64 0, .int .u8 0, .int .u8 0, .int .u8 0, .int .u8 0, .int .u8 0, .int .u8 0, .int .u32 0, .int .u8 0, .int .u8 0, .int .u8 0, .int .u8 0, .int .u8 0, .int .u8 0, .int .u32 0]).kept kS2 (by show ¬ w.heap.size = w.heap.size + 1; omega)
  have K2 := Lib.hid ((K1.out.setRow (.inr (Nat.le_refl _)) #[.int .i64 0, .int .u8 0, .int .u8 0, .int .u8 0, .int .u8 0, .int .u8 0, .int .u8 0, .int .u32 0, .int .u8 0, .int .u8 0, .int .u8 0, .int .u8 0, .int .u8 0, .int .u8 0, .int .u32 0]).setRow (g := w.heap.size + 1) (.inr (by omega)) #[.slice A2 1 c2, .int .i64 12])
  have HR2 := Lib.hid ((HR.out.kp kS (fun b o h h2 => (HOW.out b o h).2 h2)).kp kS2 (fun b o h h2 => (HOW.out b o h).1 h2))
  have HB0' := Lib.hid hb0'
  have HKS := Lib.hid kS
  clear k1 hni rd hown kS kS2 hb0'
  go_wp2_with
    (first
    | ((with_reducible refine gate_store (t := 48) (p := 2) (v := .tmp 10) rfl ?_)
       go_must (refine wpList_store_row (by rfl) 48 (.tmp 2) (.tmp 10) (by rfl) w.heap.size #[.int .i64 0, .int .u8 0, .int .u8 0, .int .u8 0, .int .u8 0, .int .u8 0, .int .u8 0, .int .u32 0, .int .u8 0, .int .u8 0, .int .u8 0, .int .u8 0, .int .u8 0, .int .u8 0, .int .u32 0] (by rfl) (by rfl) 48 #[.int .i64 0, .int .u8 0, .int .u8 0, .int .u8 0, .int .u8 0, .int .u8 0, .int .u8 0, .int .u32 0, .int .u8 0, .int .u8 0, .int .u8 0, .int .u8 0, .int .u8 0, .int .u8 0, .int .u32 0] hb0 hi48 rfl (by simp [Value.oneCell']) ?_))
    | ((with_reducible refine gate_store (t := 28) (p := 3) (v := .tmp 11) rfl ?_)
       go_must (refine wpList_store_row (by rfl) 28 (.tmp 3) (.tmp 11) (by rfl) (w.heap.size + 1) #[.slice A2 1 c2, .int .i64 12] (by rfl) (by rfl) 28 #[.slice none 0 0, .int .i64 0] hb1' hi28s rfl (by simp [Value.oneCell']) ?_)))
  refine bodyPost_ret (results_cc rfl _ _ w.heap.size (w.heap.size + 1) 48 28 #[.int .i64 0, .int .u8 0, .int .u8 0, .int .u8 0, .int .u8 0, .int .u8 0, .int .u8 0, .int .u32 0, .int .u8 0, .int .u8 0, .int .u8 0, .int .u8 0, .int .u8 0, .int .u8 0, .int .u32 0] #[.slice A2 1 c2, .int .i64 12] (0, 0) (0, 0) _ _ rfl HB0'.out Tryd.underlying48 rfl hi48 rfl (hb1'.setRow _) Tryd.underlying28 rfl hi28s) rfl ?_
  exact ⟨A2, c2, rfl, HR2.out, hlc, K2.out⟩
set_option maxRecDepth 100000 in
set_option maxHeartbeats 20000000 in
theorem rparse_bad1 (b o c n : Nat) (xs : List Int) (w : World) (hx : RdI w .u8 (some ⟨b, o, none⟩) xs) (hb : Byt xs) (hn : xs.length = n) (h1 : 28 ≤ n) (h2 : n ≤ 100000) (hc : n ≤ c) (hp : (xs.take 6 == [0, 1, 8, 0, 6, 4]) = false)  :
    Calls Tryd.prog 19 #[.slice (some ⟨b, o, none⟩) n c] w fun ev w' => ∃ A2 c2, ev = .returned (.tuple #[.agg (pkt 0 (fun _ => 0) 0 (fun _ => 0) 0), .agg #[.slice A2 1 c2, .int .i64 14]]) ∧ RdI w' .i64 A2 [16] ∧ 1 ≤ c2 ∧ Kp (fun _ => False) w w' := by
  obtain ⟨y, hy⟩ : ∃ y, nat xs = y := ⟨_, rfl⟩
  have hlt : ∀ j, y j < 256 := fun j => by rw [← hy]; exact nat_lt hb j
  have hcc : ∀ j, j < n → w.cell? ⟨b, o + j, none⟩ = some (.int .u8 (y j)) := by
    rcases hx.2 with h | ⟨b', o', hA, h⟩
    · omega
    · cases hA
      intro j hj
      rw [h j (by omega), nat_val hb j, hy]
  have hbl : b < w.heap.size := World.block_lt_of_cell? w _ (hcc 0 (by omega))
  have kA := ((Kp.refl (fun _ => False) w).alloc (.cells #[.int .i64 0, .int .u8 0, .int .u8 0, .int .u8 0, .int .u8 0, .int .u8 0, .int .u8 0, .int .u32 0, .int .u8 0, .int .u8 0, .int .u8 0, .int .u8 0, .int .u8 0, .int .u8 0, .int .u32 0] 48)).alloc (.cells #[.slice none 0 0, .int .i64 0] 28)
  have hb0 := (Bk.new w 48 #[.int .i64 0, .int .u8 0, .int .u8 0, .int .u8 0, .int .u8 0, .int .u8 0, .int .u8 0, .int .u32 0, .int .u8 0, .int .u8 0, .int .u8 0, .int .u8 0, .int .u8 0, .int .u8 0, .int .u32 0]).alloc (.cells #[.slice none 0 0, .int .i64 0] 28)
  have hb1 := Bk.new (w.alloc (.cells #[.int .i64 0, .int .u8 0, .int .u8 0, .int .u8 0, .int .u8 0, .int .u8 0, .int .u8 0, .int .u32 0, .int .u8 0, .int .u8 0, .int .u8 0, .int .u8 0, .int .u8 0, .int .u8 0, .int .u32 0] 48)) 28 #[.slice none 0 0, .int .i64 0]
  rw [show (w.alloc (.cells #[.int .i64 0, .int .u8 0, .int .u8 0, .int .u8 0, .int .u8 0, .int .u8 0, .int .u8 0, .int .u32 0, .int .u8 0, .int .u8 0, .int .u8 0, .int .u8 0, .int .u8 0, .int .u8 0, .int .u32 0] 48)).heap.size = w.heap.size + 1 by simp] at hb1
  have HB0 := Lib.hid hb0
  have HB1 := Lib.hid hb1
  have HK := Lib.hid kA
  have hcw : ∀ j, j < n → ((w.alloc (.cells #[.int .i64 0, .int .u8 0, .int .u8 0, .int .u8 0, .int .u8 0, .int .u8 0, .int .u8 0, .int .u32 0, .int .u8 0, .int .u8 0, .int .u8 0, .int .u8 0, .int .u8 0, .int .u8 0, .int .u32 0] 48)).alloc (.cells #[.slice none 0 0, .int .i64 0] 28)).cell? ⟨b, o + j, none⟩ = some (.int .u8 (y j)) := fun j hj => (kA.cell (p := ⟨b, o + j, none⟩) hbl (fun f => f)).trans (hcc j hj)
  have HX := Lib.hid (hx.kp kA (fun _ _ _ f => f))
  have HY := Lib.hid hy
  have HLT := Lib.hid hlt
  have HWS := Lib.hid (show ((w.alloc (.cells #[.int .i64 0, .int .u8 0, .int .u8 0, .int .u8 0, .int .u8 0, .int .u8 0, .int .u8 0, .int .u32 0, .int .u8 0, .int .u8 0, .int .u8 0, .int .u8 0, .int .u8 0, .int .u8 0, .int .u32 0] 48)).alloc (.cells #[.slice none 0 0, .int .i64 0] 28)).heap.size = w.heap.size + 2 by simp)
  have hsp : ((strOfNums (xs.take 6)).toList == (strOfNums [0, 1, 8, 0, 6, 4]).toList) = false := by rw [strOfNums_eq _ _ (byt_take hb 6) (byt_of _ (by decide))]; exact hp
  have hl6 : (xs.take 6).length = 6 := by rw [List.length_take]; omega
  have HL6 := Lib.hid hl6
  obtain ⟨SA, hSA⟩ : ∃ s, strOfNums (xs.take 6) = s := ⟨_, rfl⟩
  obtain ⟨SB, hSB⟩ : ∃ s, strOfNums [0, 1, 8, 0, 6, 4] = s := ⟨_, rfl⟩
  rw [hSA, hSB] at hsp
  have hsn : (SA.toList != SB.toList) = true := by rw [bne, hsp]; rfl
  have HSA := Lib.hid hSA
  have HSB := Lib.hid hSB
  have l6 := hlt 6
  have l7 := hlt 7
  have l8 := hlt 8
  have e1 : IntKind.i64.wrap (y 6 : Int) = y 6 := IntWalk.i64_in _ (by omega)
  have e2 : IntKind.i64.wrap (y 7 : Int) = y 7 := IntWalk.i64_in _ (by omega)
  have e3 : IntKind.i64.wrap ((y 6 : Int) * 256) = y 6 * 256 := IntWalk.i64_in _ (by omega)
  have e4 : IntKind.i64.wrap ((y 6 : Int) * 256 + y 7) = y 6 * 256 + y 7 := IntWalk.i64_in _ (by omega)
  have i6 : (6 : Int) < (n : Int) := by omega
  have i7 : (7 : Int) < (n : Int) := by omega
  have i8 : (8 : Int) < (n : Int) := by omega
  have i9 : (6 : Int) ≤ (c : Int) := by omega
  have i10 : 6 ≤ c := by omega
  have g1 : ¬ ((n : Int) < 28) := by omega
  have c6 := hcw 6 (by omega)
  have c7 := hcw 7 (by omega)
  have c8 := hcw 8 (by omega)
  have HCW := Lib.hid hcw
  clear kA hb0 hb1 hx hb hcc hcw hy hlt hp hSA hSB hl6 hbl
  go_enter Tryd.func19, Tryd.ntmps19
  go_upto_region 3 with fail
  generalize (w.alloc (.cells #[.int .i64 0, .int .u8 0, .int .u8 0, .int .u8 0, .int .u8 0, .int .u8 0, .int .u8 0, .int .u32 0, .int .u8 0, .int .u8 0, .int .u8 0, .int .u8 0, .int .u8 0, .int .u8 0, .int .u32 0] 48)).alloc (.cells #[.slice none 0 0, .int .i64 0] 28) = w0 at *
  go_quiet (fail)
  have HB0 := Lib.hid (HB0.out)
  clear c6 c7 e1 e2 e3 e4
  go_wp2_with fail
  refine wp_region_held_drew (S := (fun w' => Kp (fun _ => False) w0 w')) (by kernel_rfl) (((Kp.refl _ w0).drewN _).drew) (fun hHeld => ?_)
  have KC := Lib.hid (show Kp (fun _ => False) w0 _ from hHeld)
  refine wpAnyH_take (i := 0) (v := ?v0_0) rfl (by kernel_rfl) (by kernel_rfl) (by kernel_rfl) (fun _ _ _ h => h) (Or.inl ⟨by rfl, ?y0_0⟩) (by assumption) ?r0_0
  case y0_0 => (intro w hSw; (try dsimp only at hSw); go_simp; first | done | with_reducible rfl)
  try simp only [Act.put, List.getElem_toArray, List.getElem_cons_succ, List.getElem_cons_zero, List.setIfInBounds_toArray, List.set_cons_zero, List.set_cons_succ]
  refine wpAnyH_take (i := 1) (v := ?v1_1) rfl (by kernel_rfl) (by kernel_rfl) (by kernel_rfl) (fun _ _ _ h => h) (Or.inl ⟨by rfl, ?y1_1⟩) (by assumption) ?r1_1
  case y1_1 => (intro w hSw; (try dsimp only at hSw); go_simp; first | done | with_reducible rfl)
  try simp only [Act.put, List.getElem_toArray, List.getElem_cons_succ, List.getElem_cons_zero, List.setIfInBounds_toArray, List.set_cons_zero, List.set_cons_succ]
  refine wpAnyH_take (i := 2) (v := ?v2_2) rfl (by kernel_rfl) (by kernel_rfl) (by kernel_rfl) (fun _ _ _ h => h) (Or.inl ⟨by rfl, ?y2_2⟩) (by assumption) ?r2_2
  case y2_2 => (intro w hSw; (try dsimp only at hSw); have d2 := conv_rd ((HX.out.kp hSw (fun _ _ _ f => f)).take 6) 6 c HL6.out; rw [HSA.out] at d2; go_simp; first | done | with_reducible rfl)
  try simp only [Act.put, List.getElem_toArray, List.getElem_cons_succ, List.getElem_cons_zero, List.setIfInBounds_toArray, List.set_cons_zero, List.set_cons_succ]
  refine wpAnyH_ready (rs := [3]) (by kernel_rfl) (by simp) ?_
  refine AllReadyH.cons rfl (fun K hK => ?_) AllReadyH.nil
  go_simp
  with_reducible refine (head_any _).mono ?_
  rintro ev x3 ⟨s, rfl, own, k9⟩
  obtain ⟨a3, d3, rfl, r3⟩ := own_some own (by omega)
  have KC := Lib.hid (KC.out.trans' k9)
  have R3 := Lib.hid r3
  clear own k9 r3
  try dsimp only
  refine hK.out _ _ (KC.out) (fun hHeld => ?_)
  clear hK K
  try simp only [Act.put, List.getElem_toArray, List.getElem_cons_succ, List.getElem_cons_zero, List.setIfInBounds_toArray, List.set_cons_zero, List.set_cons_succ]
  refine wpAnyH_ready (rs := [4]) (by kernel_rfl) (by simp) ?_
  refine AllReadyH.cons rfl (fun K hK => ?_) AllReadyH.nil
  have hcv := conv_rd R3.out 6 d3 rfl
  rw [HSB.out] at hcv
  go_simp
  refine hK.out _ _ (KC.out) (fun hHeld => ?_)
  clear hK K
  try simp only [Act.put, List.getElem_toArray, List.getElem_cons_succ, List.getElem_cons_zero, List.setIfInBounds_toArray, List.set_cons_zero, List.set_cons_succ]
  clear hcv
  refine wpAnyH_take (i := 5) (v := ?v5_3) rfl (by kernel_rfl) (by kernel_rfl) (by kernel_rfl) (fun _ _ _ h => h) (Or.inl ⟨by rfl, ?y5_3⟩) (by assumption) ?r5_3
  case y5_3 => (intro w hSw; (try dsimp only at hSw); go_simp; first | done | with_reducible rfl)
  try simp only [Act.put, List.getElem_toArray, List.getElem_cons_succ, List.getElem_cons_zero, List.setIfInBounds_toArray, List.set_cons_zero, List.set_cons_succ]
  refine wpAnyH_take (i := 6) (v := ?v6_4) rfl (by kernel_rfl) (by kernel_rfl) (by kernel_rfl) (fun _ _ _ h => h) (Or.inl ⟨by rfl, ?y6_4⟩) (by assumption) ?r6_4
  case y6_4 => (intro w hSw; (try dsimp only at hSw); go_simp; first | done | with_reducible rfl)
  try simp only [Act.put, List.getElem_toArray, List.getElem_cons_succ, List.getElem_cons_zero, List.setIfInBounds_toArray, List.set_cons_zero, List.set_cons_succ]
  refine wpAnyH_take (i := 7) (v := undef) rfl (by kernel_rfl) (by kernel_rfl) (by kernel_rfl) (fun _ _ _ h => h) (Or.inr ⟨by rfl, rfl⟩) (by assumption) ?_
  try simp only [Act.put, List.getElem_toArray, List.getElem_cons_succ, List.getElem_cons_zero, List.setIfInBounds_toArray, List.set_cons_zero, List.set_cons_succ]
  refine wpAnyH_take (i := 8) (v := undef) rfl (by kernel_rfl) (by kernel_rfl) (by kernel_rfl) (fun _ _ _ h => h) (Or.inr ⟨by rfl, rfl⟩) (by assumption) ?_
  try simp only [Act.put, List.getElem_toArray, List.getElem_cons_succ, List.getElem_cons_zero, List.setIfInBounds_toArray, List.set_cons_zero, List.set_cons_succ]
  refine wpAnyH_take (i := 9) (v := ?v9_5) rfl (by kernel_rfl) (by kernel_rfl) (by kernel_rfl) (fun _ _ _ h => h) (Or.inl ⟨by rfl, ?y9_5⟩) (by assumption) ?r9_5
  case y9_5 => (intro w hSw; (try dsimp only at hSw); go_simp; first | done | with_reducible rfl)
  try simp only [Act.put, List.getElem_toArray, List.getElem_cons_succ, List.getElem_cons_zero, List.setIfInBounds_toArray, List.set_cons_zero, List.set_cons_succ]
  refine wpAnyH_take (i := 10) (v := ?v10_6) rfl (by kernel_rfl) (by kernel_rfl) (by kernel_rfl) (fun _ _ _ h => h) (Or.inl ⟨by rfl, ?y10_6⟩) (by assumption) ?r10_6
  case y10_6 => (intro w hSw; (try dsimp only at hSw); go_simp; first | done | with_reducible rfl)
  try simp only [Act.put, List.getElem_toArray, List.getElem_cons_succ, List.getElem_cons_zero, List.setIfInBounds_toArray, List.set_cons_zero, List.set_cons_succ]
  refine wpAnyH_take (i := 11) (v := undef) rfl (by kernel_rfl) (by kernel_rfl) (by kernel_rfl) (fun _ _ _ h => h) (Or.inr ⟨by rfl, rfl⟩) (by assumption) ?_
  try simp only [Act.put, List.getElem_toArray, List.getElem_cons_succ, List.getElem_cons_zero, List.setIfInBounds_toArray, List.set_cons_zero, List.set_cons_succ]
  refine wpAnyH_take (i := 12) (v := undef) rfl (by kernel_rfl) (by kernel_rfl) (by kernel_rfl) (fun _ _ _ h => h) (Or.inr ⟨by rfl, rfl⟩) (by assumption) ?_
  try simp only [Act.put, List.getElem_toArray, List.getElem_cons_succ, List.getElem_cons_zero, List.setIfInBounds_toArray, List.set_cons_zero, List.set_cons_succ]
  refine wpAnyH_take (i := 13) (v := ?v13_7) rfl (by kernel_rfl) (by kernel_rfl) (by kernel_rfl) (fun _ _ _ h => h) (Or.inl ⟨by rfl, ?y13_7⟩) (by assumption) ?r13_7
  case y13_7 => (intro w hSw; (try dsimp only at hSw); go_simp; first | done | with_reducible rfl)
  try simp only [Act.put, List.getElem_toArray, List.getElem_cons_succ, List.getElem_cons_zero, List.setIfInBounds_toArray, List.set_cons_zero, List.set_cons_succ]
  refine wpAnyH_done (by kernel_rfl) ?_ _
  have K4 := KC
  go_wp2_with fail
  have HB0 := Lib.hid (HB0.out.kept K4.out (fun f => f))
  have HB1 := Lib.hid (HB1.out.kept K4.out (fun f => f))
  have HK := Lib.hid (HK.out.trans' K4.out)
  refine (fnew_any 16 14 _).mono ?_
  rintro ev w1 ⟨u, l, e, rfl, hni, k1⟩
  obtain ⟨rfl, rfl⟩ := newIs_yes hni (by decide) (by decide)
  obtain ⟨A2, c2, rfl, hlc, _, rd⟩ := hni.1.read
  have hb0 := HB0.out.kept k1 (fun x => x)
  have hb1 := HB1.out.kept k1 (fun x => x)
  have K1 := Lib.hid (HK.out.trans' k1)
  have hown : ∀ b o, A2 = some ⟨b, o, none⟩ → b ≠ w.heap.size + 1 ∧ b ≠ w.heap.size := by
    rintro b o rfl
    exact ⟨fun h => by subst h; exact hni.1.ne hb1 (by decide) rfl, fun h => by subst h; exact hni.1.ne hb0 (by decide) rfl⟩
  have HR := Lib.hid rd
  have HOW := Lib.hid hown
  have kS := Kp.setRow (S := fun b => b = w.heap.size) (Kp.refl _ w1) (.inl rfl) #[.int .i64 0, .int .u8 0, .int .u8 0, .int .u8 0, .int .u8 0, .int .u8 0, .int .u8 0, .int .u32 0, .int .u8 0, .int .u8 0, .int .u8 0, .int .u8 0, .int .u8 0, .int .u8 0, .int .u32 0]
  have hb1' := hb1.kept kS (by show ¬ w.heap.size + 1 = w.heap.size; omega)
  have kS2 := Kp.setRow (S := fun b => b = w.heap.size + 1) (Kp.refl _ (w1.setRow w.heap.size #[.int .i64 0, .int .u8 0, .int .u8 0, .int .u8 0, .int .u8 0, .int .u8 0, .int .u8 0, .int .u32 0, .int .u8 0, .int .u8 0, .int .u8 0, .int .u8 0, .int .u8 0, .int .u8 0, .int .u32 0])) (.inl rfl) #[.slice A2 1 c2, .int .i64 14]
  have hb0' := (hb0.setRow #[.int .i64 0, .int .u8 0, .int .u8 0, .int .u8 0, .int .u8 0, .int .u8 0, .int .u8 0, .int .u32 0, .int .u8 0, .int .u8 0, .int .u8 0, .int .u8 0, .int .u8 0, .int .u8 0, .int .u32 0]).kept kS2 (by show ¬ w.heap.size = w.heap.size + 1; omega)
  have K2 := Lib.hid ((K1.out.setRow (.inr (Nat.le_refl _)) #[.int .i64 0, .int .u8 0, .int .u8 0, .int .u8 0, .int .u8 0, .int .u8 0, .int .u8 0, .int .u32 0, .int .u8 0, .int .u8 0, .int .u8 0, .int .u8 0, .int .u8 0, .int .u8 0, .int .u32 0]).setRow (g := w.heap.size + 1) (.inr (by omega)) #[.slice A2 1 c2, .int .i64 14])
  have HR2 := Lib.hid ((HR.out.kp kS (fun b o h h2 => (HOW.out b o h).2 h2)).kp kS2 (fun b o h h2 => (HOW.out b o h).1 h2))
  have HB0' := Lib.hid hb0'
  have HKS := Lib.hid kS
  clear k1 hni rd hown kS kS2 hb0'
  go_wp2_with
    (first
    | ((with_reducible refine gate_store (t := 48) (p := 2) (v := .tmp 36) rfl ?_)
       go_must (refine wpList_store_row (by rfl) 48 (.tmp 2) (.tmp 36) (by rfl) w.heap.size #[.int .i64 0, .int .u8 0, .int .u8 0, .int .u8 0, .int .u8 0, .int .u8 0, .int .u8 0, .int .u32 0, .int .u8 0, .int .u8 0, .int .u8 0, .int .u8 0, .int .u8 0, .int .u8 0, .int .u32 0] (by rfl) (by rfl) 48 #[.int .i64 0, .int .u8 0, .int .u8 0, .int .u8 0, .int .u8 0, .int .u8 0, .int .u8 0, .int .u32 0, .int .u8 0, .int .u8 0, .int .u8 0, .int .u8 0, .int .u8 0, .int .u8 0, .int .u32 0] hb0 hi48 rfl (by simp [Value.oneCell']) ?_))
    | ((with_reducible refine gate_store (t := 28) (p := 3) (v := .tmp 37) rfl ?_)
       go_must (refine wpList_store_row (by rfl) 28 (.tmp 3) (.tmp 37) (by rfl) (w.heap.size + 1) #[.slice A2 1 c2, .int .i64 14] (by rfl) (by rfl) 28 #[.slice none 0 0, .int .i64 0] hb1' hi28s rfl (by simp [Value.oneCell']) ?_)))
  refine bodyPost_ret (results_cc rfl _ _ w.heap.size (w.heap.size + 1) 48 28 #[.int .i64 0, .int .u8 0, .int .u8 0, .int .u8 0, .int .u8 0, .int .u8 0, .int .u8 0, .int .u32 0, .int .u8 0, .int .u8 0, .int .u8 0, .int .u8 0, .int .u8 0, .int .u8 0, .int .u32 0] #[.slice A2 1 c2, .int .i64 14] (0, 0) (0, 0) _ _ rfl HB0'.out Tryd.underlying48 rfl hi48 rfl (hb1'.setRow _) Tryd.underlying28 rfl hi28s) rfl ?_
  exact ⟨A2, c2, rfl, HR2.out, hlc, K2.out⟩
set_option maxRecDepth 100000 in
set_option maxHeartbeats 20000000 in
theorem rparse_bad2 (b o c n : Nat) (xs : List Int) (w : World) (hx : RdI w .u8 (some ⟨b, o, none⟩) xs) (hb : Byt xs) (hn : xs.length = n) (h1 : 28 ≤ n) (h2 : n ≤ 100000) (hc : n ≤ c) (hp : (xs.take 6 == [0, 1, 8, 0, 6, 4]) = true) (hq : n2 (nat xs) 6 < 1) :
    Calls Tryd.prog 19 #[.slice (some ⟨b, o, none⟩) n c] w fun ev w' => ∃ A2 c2, ev = .returned (.tuple #[.agg (pkt 0 (fun _ => 0) 0 (fun _ => 0) 0), .agg #[.slice A2 1 c2, .int .i64 14]]) ∧ RdI w' .i64 A2 [16] ∧ 1 ≤ c2 ∧ Kp (fun _ => False) w w' := by
  obtain ⟨y, hy⟩ : ∃ y, nat xs = y := ⟨_, rfl⟩
  have hlt : ∀ j, y j < 256 := fun j => by rw [← hy]; exact nat_lt hb j
  have hcc : ∀ j, j < n → w.cell? ⟨b, o + j, none⟩ = some (.int .u8 (y j)) := by
    rcases hx.2 with h | ⟨b', o', hA, h⟩
    · omega
    · cases hA
      intro j hj
      rw [h j (by omega), nat_val hb j, hy]
  have hbl : b < w.heap.size := World.block_lt_of_cell? w _ (hcc 0 (by omega))
  have kA := ((Kp.refl (fun _ => False) w).alloc (.cells #[.int .i64 0, .int .u8 0, .int .u8 0, .int .u8 0, .int .u8 0, .int .u8 0, .int .u8 0, .int .u32 0, .int .u8 0, .int .u8 0, .int .u8 0, .int .u8 0, .int .u8 0, .int .u8 0, .int .u32 0] 48)).alloc (.cells #[.slice none 0 0, .int .i64 0] 28)
  have hb0 := (Bk.new w 48 #[.int .i64 0, .int .u8 0, .int .u8 0, .int .u8 0, .int .u8 0, .int .u8 0, .int .u8 0, .int .u32 0, .int .u8 0, .int .u8 0, .int .u8 0, .int .u8 0, .int .u8 0, .int .u8 0, .int .u32 0]).alloc (.cells #[.slice none 0 0, .int .i64 0] 28)
  have hb1 := Bk.new (w.alloc (.cells #[.int .i64 0, .int .u8 0, .int .u8 0, .int .u8 0, .int .u8 0, .int .u8 0, .int .u8 0, .int .u32 0, .int .u8 0, .int .u8 0, .int .u8 0, .int .u8 0, .int .u8 0, .int .u8 0, .int .u32 0] 48)) 28 #[.slice none 0 0, .int .i64 0]
  rw [show (w.alloc (.cells #[.int .i64 0, .int .u8 0, .int .u8 0, .int .u8 0, .int .u8 0, .int .u8 0, .int .u8 0, .int .u32 0, .int .u8 0, .int .u8 0, .int .u8 0, .int .u8 0, .int .u8 0, .int .u8 0, .int .u32 0] 48)).heap.size = w.heap.size + 1 by simp] at hb1
  have HB0 := Lib.hid hb0
  have HB1 := Lib.hid hb1
  have HK := Lib.hid kA
  have hcw : ∀ j, j < n → ((w.alloc (.cells #[.int .i64 0, .int .u8 0, .int .u8 0, .int .u8 0, .int .u8 0, .int .u8 0, .int .u8 0, .int .u32 0, .int .u8 0, .int .u8 0, .int .u8 0, .int .u8 0, .int .u8 0, .int .u8 0, .int .u32 0] 48)).alloc (.cells #[.slice none 0 0, .int .i64 0] 28)).cell? ⟨b, o + j, none⟩ = some (.int .u8 (y j)) := fun j hj => (kA.cell (p := ⟨b, o + j, none⟩) hbl (fun f => f)).trans (hcc j hj)
  have HX := Lib.hid (hx.kp kA (fun _ _ _ f => f))
  have HY := Lib.hid hy
  have HLT := Lib.hid hlt
  have HWS := Lib.hid (show ((w.alloc (.cells #[.int .i64 0, .int .u8 0, .int .u8 0, .int .u8 0, .int .u8 0, .int .u8 0, .int .u8 0, .int .u32 0, .int .u8 0, .int .u8 0, .int .u8 0, .int .u8 0, .int .u8 0, .int .u8 0, .int .u32 0] 48)).alloc (.cells #[.slice none 0 0, .int .i64 0] 28)).heap.size = w.heap.size + 2 by simp)
  have hsp : ((strOfNums (xs.take 6)).toList == (strOfNums [0, 1, 8, 0, 6, 4]).toList) = true := by rw [strOfNums_eq _ _ (byt_take hb 6) (byt_of _ (by decide))]; exact hp
  have hl6 : (xs.take 6).length = 6 := by rw [List.length_take]; omega
  have HL6 := Lib.hid hl6
  obtain ⟨SA, hSA⟩ : ∃ s, strOfNums (xs.take 6) = s := ⟨_, rfl⟩
  obtain ⟨SB, hSB⟩ : ∃ s, strOfNums [0, 1, 8, 0, 6, 4] = s := ⟨_, rfl⟩
  rw [hSA, hSB] at hsp
  have hsn : (SA.toList != SB.toList) = false := by rw [bne, hsp]; rfl
  have HSA := Lib.hid hSA
  have HSB := Lib.hid hSB
  have l6 := hlt 6
  have l7 := hlt 7
  have l8 := hlt 8
  have e1 : IntKind.i64.wrap (y 6 : Int) = y 6 := IntWalk.i64_in _ (by omega)
  have e2 : IntKind.i64.wrap (y 7 : Int) = y 7 := IntWalk.i64_in _ (by omega)
  have e3 : IntKind.i64.wrap ((y 6 : Int) * 256) = y 6 * 256 := IntWalk.i64_in _ (by omega)
  have e4 : IntKind.i64.wrap ((y 6 : Int) * 256 + y 7) = y 6 * 256 + y 7 := IntWalk.i64_in _ (by omega)
  have i6 : (6 : Int) < (n : Int) := by omega
  have i7 : (7 : Int) < (n : Int) := by omega
  have i8 : (8 : Int) < (n : Int) := by omega
  have i9 : (6 : Int) ≤ (c : Int) := by omega
  have i10 : 6 ≤ c := by omega
  have g1 : ¬ ((n : Int) < 28) := by omega
  have c6 := hcw 6 (by omega)
  have c7 := hcw 7 (by omega)
  have c8 := hcw 8 (by omega)
  have HCW := Lib.hid hcw
  have t1 : (y 6 : Int) * 256 + y 7 < 1 := by rw [hy] at hq; exact hq
  clear hq
  clear kA hb0 hb1 hx hb hcc hcw hy hlt hp hSA hSB hl6 hbl
  go_enter Tryd.func19, Tryd.ntmps19
  go_upto_region 3 with fail
  generalize (w.alloc (.cells #[.int .i64 0, .int .u8 0, .int .u8 0, .int .u8 0, .int .u8 0, .int .u8 0, .int .u8 0, .int .u32 0, .int .u8 0, .int .u8 0, .int .u8 0, .int .u8 0, .int .u8 0, .int .u8 0, .int .u32 0] 48)).alloc (.cells #[.slice none 0 0, .int .i64 0] 28) = w0 at *
  go_quiet (fail)
  have HB0 := Lib.hid (HB0.out)
  clear c6 c7 e1 e2 e3 e4
  go_wp2_with fail
  refine wp_region_held_drew (S := (fun w' => Kp (fun _ => False) w0 w')) (by kernel_rfl) (((Kp.refl _ w0).drewN _).drew) (fun hHeld => ?_)
  have KC := Lib.hid (show Kp (fun _ => False) w0 _ from hHeld)
  refine wpAnyH_take (i := 0) (v := ?v0_8) rfl (by kernel_rfl) (by kernel_rfl) (by kernel_rfl) (fun _ _ _ h => h) (Or.inl ⟨by rfl, ?y0_8⟩) (by assumption) ?r0_8
  case y0_8 => (intro w hSw; (try dsimp only at hSw); go_simp; first | done | with_reducible rfl)
  try simp only [Act.put, List.getElem_toArray, List.getElem_cons_succ, List.getElem_cons_zero, List.setIfInBounds_toArray, List.set_cons_zero, List.set_cons_succ]
  refine wpAnyH_take (i := 1) (v := ?v1_9) rfl (by kernel_rfl) (by kernel_rfl) (by kernel_rfl) (fun _ _ _ h => h) (Or.inl ⟨by rfl, ?y1_9⟩) (by assumption) ?r1_9
  case y1_9 => (intro w hSw; (try dsimp only at hSw); go_simp; first | done | with_reducible rfl)
  try simp only [Act.put, List.getElem_toArray, List.getElem_cons_succ, List.getElem_cons_zero, List.setIfInBounds_toArray, List.set_cons_zero, List.set_cons_succ]
  refine wpAnyH_take (i := 2) (v := ?v2_10) rfl (by kernel_rfl) (by kernel_rfl) (by kernel_rfl) (fun _ _ _ h => h) (Or.inl ⟨by rfl, ?y2_10⟩) (by assumption) ?r2_10
  case y2_10 => (intro w hSw; (try dsimp only at hSw); have d2 := conv_rd ((HX.out.kp hSw (fun _ _ _ f => f)).take 6) 6 c HL6.out; rw [HSA.out] at d2; go_simp; first | done | with_reducible rfl)
  try simp only [Act.put, List.getElem_toArray, List.getElem_cons_succ, List.getElem_cons_zero, List.setIfInBounds_toArray, List.set_cons_zero, List.set_cons_succ]
  refine wpAnyH_ready (rs := [3]) (by kernel_rfl) (by simp) ?_
  refine AllReadyH.cons rfl (fun K hK => ?_) AllReadyH.nil
  go_simp
  with_reducible refine (head_any _).mono ?_
  rintro ev x3 ⟨s, rfl, own, k9⟩
  obtain ⟨a3, d3, rfl, r3⟩ := own_some own (by omega)
  have KC := Lib.hid (KC.out.trans' k9)
  have R3 := Lib.hid r3
  clear own k9 r3
  try dsimp only
  refine hK.out _ _ (KC.out) (fun hHeld => ?_)
  clear hK K
  try simp only [Act.put, List.getElem_toArray, List.getElem_cons_succ, List.getElem_cons_zero, List.setIfInBounds_toArray, List.set_cons_zero, List.set_cons_succ]
  refine wpAnyH_ready (rs := [4]) (by kernel_rfl) (by simp) ?_
  refine AllReadyH.cons rfl (fun K hK => ?_) AllReadyH.nil
  have hcv := conv_rd R3.out 6 d3 rfl
  rw [HSB.out] at hcv
  go_simp
  refine hK.out _ _ (KC.out) (fun hHeld => ?_)
  clear hK K
  try simp only [Act.put, List.getElem_toArray, List.getElem_cons_succ, List.getElem_cons_zero, List.setIfInBounds_toArray, List.set_cons_zero, List.set_cons_succ]
  clear hcv
  refine wpAnyH_take (i := 5) (v := ?v5_11) rfl (by kernel_rfl) (by kernel_rfl) (by kernel_rfl) (fun _ _ _ h => h) (Or.inl ⟨by rfl, ?y5_11⟩) (by assumption) ?r5_11
  case y5_11 => (intro w hSw; (try dsimp only at hSw); go_simp; first | done | with_reducible rfl)
  try simp only [Act.put, List.getElem_toArray, List.getElem_cons_succ, List.getElem_cons_zero, List.setIfInBounds_toArray, List.set_cons_zero, List.set_cons_succ]
  refine wpAnyH_take (i := 6) (v := ?v6_12) rfl (by kernel_rfl) (by kernel_rfl) (by kernel_rfl) (fun _ _ _ h => h) (Or.inl ⟨by rfl, ?y6_12⟩) (by assumption) ?r6_12
  case y6_12 => (intro w hSw; (try dsimp only at hSw); go_simp; first | done | with_reducible rfl)
  try simp only [Act.put, List.getElem_toArray, List.getElem_cons_succ, List.getElem_cons_zero, List.setIfInBounds_toArray, List.set_cons_zero, List.set_cons_succ]
  refine wpAnyH_take (i := 7) (v := ?v7_13) rfl (by kernel_rfl) (by kernel_rfl) (by kernel_rfl) (fun _ _ _ h => h) (Or.inl ⟨by rfl, ?y7_13⟩) (by assumption) ?r7_13
  case y7_13 => (intro w hSw; (try dsimp only at hSw); go_simp; first | done | with_reducible rfl)
  try simp only [Act.put, List.getElem_toArray, List.getElem_cons_succ, List.getElem_cons_zero, List.setIfInBounds_toArray, List.set_cons_zero, List.set_cons_succ]
  refine wpAnyH_take (i := 8) (v := ?v8_14) rfl (by kernel_rfl) (by kernel_rfl) (by kernel_rfl) (fun _ _ _ h => h) (Or.inl ⟨by rfl, ?y8_14⟩) (by assumption) ?r8_14
  case y8_14 => (intro w hSw; (try dsimp only at hSw); go_simp; first | done | with_reducible rfl)
  try simp only [Act.put, List.getElem_toArray, List.getElem_cons_succ, List.getElem_cons_zero, List.setIfInBounds_toArray, List.set_cons_zero, List.set_cons_succ]
  refine wpAnyH_take (i := 9) (v := ?v9_15) rfl (by kernel_rfl) (by kernel_rfl) (by kernel_rfl) (fun _ _ _ h => h) (Or.inl ⟨by rfl, ?y9_15⟩) (by assumption) ?r9_15
  case y9_15 => (intro w hSw; (try dsimp only at hSw); go_simp; first | done | with_reducible rfl)
  try simp only [Act.put, List.getElem_toArray, List.getElem_cons_succ, List.getElem_cons_zero, List.setIfInBounds_toArray, List.set_cons_zero, List.set_cons_succ]
  refine wpAnyH_take (i := 10) (v := ?v10_16) rfl (by kernel_rfl) (by kernel_rfl) (by kernel_rfl) (fun _ _ _ h => h) (Or.inl ⟨by rfl, ?y10_16⟩) (by assumption) ?r10_16
  case y10_16 => (intro w hSw; (try dsimp only at hSw); go_simp; first | done | with_reducible rfl)
  try simp only [Act.put, List.getElem_toArray, List.getElem_cons_succ, List.getElem_cons_zero, List.setIfInBounds_toArray, List.set_cons_zero, List.set_cons_succ]
  refine wpAnyH_take (i := 11) (v := undef) rfl (by kernel_rfl) (by kernel_rfl) (by kernel_rfl) (fun _ _ _ h => h) (Or.inr ⟨by rfl, rfl⟩) (by assumption) ?_
  try simp only [Act.put, List.getElem_toArray, List.getElem_cons_succ, List.getElem_cons_zero, List.setIfInBounds_toArray, List.set_cons_zero, List.set_cons_succ]
  refine wpAnyH_take (i := 12) (v := undef) rfl (by kernel_rfl) (by kernel_rfl) (by kernel_rfl) (fun _ _ _ h => h) (Or.inr ⟨by rfl, rfl⟩) (by assumption) ?_
  try simp only [Act.put, List.getElem_toArray, List.getElem_cons_succ, List.getElem_cons_zero, List.setIfInBounds_toArray, List.set_cons_zero, List.set_cons_succ]
  refine wpAnyH_take (i := 13) (v := ?v13_17) rfl (by kernel_rfl) (by kernel_rfl) (by kernel_rfl) (fun _ _ _ h => h) (Or.inl ⟨by rfl, ?y13_17⟩) (by assumption) ?r13_17
  case y13_17 => (intro w hSw; (try dsimp only at hSw); go_simp; first | done | with_reducible rfl)
  try simp only [Act.put, List.getElem_toArray, List.getElem_cons_succ, List.getElem_cons_zero, List.setIfInBounds_toArray, List.set_cons_zero, List.set_cons_succ]
  refine wpAnyH_done (by kernel_rfl) ?_ _
  have K4 := KC
  go_wp2_with fail
  have HB0 := Lib.hid (HB0.out.kept K4.out (fun f => f))
  have HB1 := Lib.hid (HB1.out.kept K4.out (fun f => f))
  have HK := Lib.hid (HK.out.trans' K4.out)
  refine (fnew_any 16 14 _).mono ?_
  rintro ev w1 ⟨u, l, e, rfl, hni, k1⟩
  obtain ⟨rfl, rfl⟩ := newIs_yes hni (by decide) (by decide)
  obtain ⟨A2, c2, rfl, hlc, _, rd⟩ := hni.1.read
  have hb0 := HB0.out.kept k1 (fun x => x)
  have hb1 := HB1.out.kept k1 (fun x => x)
  have K1 := Lib.hid (HK.out.trans' k1)
  have hown : ∀ b o, A2 = some ⟨b, o, none⟩ → b ≠ w.heap.size + 1 ∧ b ≠ w.heap.size := by
    rintro b o rfl
    exact ⟨fun h => by subst h; exact hni.1.ne hb1 (by decide) rfl, fun h => by subst h; exact hni.1.ne hb0 (by decide) rfl⟩
  have HR := Lib.hid rd
  have HOW := Lib.hid hown
  have kS := Kp.setRow (S := fun b => b = w.heap.size) (Kp.refl _ w1) (.inl rfl) #[.int .i64 0, .int .u8 0, .int .u8 0, .int .u8 0, .int .u8 0, .int .u8 0, .int .u8 0, .int .u32 0, .int .u8 0, .int .u8 0, .int .u8 0, .int .u8 0, .int .u8 0, .int .u8 0, .int .u32 0]
  have hb1' := hb1.kept kS (by show ¬ w.heap.size + 1 = w.heap.size; omega)
  have kS2 := Kp.setRow (S := fun b => b = w.heap.size + 1) (Kp.refl _ (w1.setRow w.heap.size #[.int .i64 0, .int .u8 0, .int .u8 0, .int .u8 0, .int .u8 0, .int .u8 0, .int .u8 0, .int .u32 0, .int .u8 0, .int .u8 0, .int .u8 0, .int .u8 0, .int .u8 0, .int .u8 0, .int .u32 0])) (.inl rfl) #[.slice A2 1 c2, .int .i64 14]
  have hb0' := (hb0.setRow #[.int .i64 0, .int .u8 0, .int .u8 0, .int .u8 0, .int .u8 0, .int .u8 0, .int .u8 0, .int .u32 0, .int .u8 0, .int .u8 0, .int .u8 0, .int .u8 0, .int .u8 0, .int .u8 0, .int .u32 0]).kept kS2 (by show ¬ w.heap.size = w.heap.size + 1; omega)
  have K2 := Lib.hid ((K1.out.setRow (.inr (Nat.le_refl _)) #[.int .i64 0, .int .u8 0, .int .u8 0, .int .u8 0, .int .u8 0, .int .u8 0, .int .u8 0, .int .u32 0, .int .u8 0, .int .u8 0, .int .u8 0, .int .u8 0, .int .u8 0, .int .u8 0, .int .u32 0]).setRow (g := w.heap.size + 1) (.inr (by omega)) #[.slice A2 1 c2, .int .i64 14])
  have HR2 := Lib.hid ((HR.out.kp kS (fun b o h h2 => (HOW.out b o h).2 h2)).kp kS2 (fun b o h h2 => (HOW.out b o h).1 h2))
  have HB0' := Lib.hid hb0'
  have HKS := Lib.hid kS
  clear k1 hni rd hown kS kS2 hb0'
  go_wp2_with
    (first
    | ((with_reducible refine gate_store (t := 48) (p := 2) (v := .tmp 36) rfl ?_)
       go_must (refine wpList_store_row (by rfl) 48 (.tmp 2) (.tmp 36) (by rfl) w.heap.size #[.int .i64 0, .int .u8 0, .int .u8 0, .int .u8 0, .int .u8 0, .int .u8 0, .int .u8 0, .int .u32 0, .int .u8 0, .int .u8 0, .int .u8 0, .int .u8 0, .int .u8 0, .int .u8 0, .int .u32 0] (by rfl) (by rfl) 48 #[.int .i64 0, .int .u8 0, .int .u8 0, .int .u8 0, .int .u8 0, .int .u8 0, .int .u8 0, .int .u32 0, .int .u8 0, .int .u8 0, .int .u8 0, .int .u8 0, .int .u8 0, .int .u8 0, .int .u32 0] hb0 hi48 rfl (by simp [Value.oneCell']) ?_))
    | ((with_reducible refine gate_store (t := 28) (p := 3) (v := .tmp 37) rfl ?_)
       go_must (refine wpList_store_row (by rfl) 28 (.tmp 3) (.tmp 37) (by rfl) (w.heap.size + 1) #[.slice A2 1 c2, .int .i64 14] (by rfl) (by rfl) 28 #[.slice none 0 0, .int .i64 0] hb1' hi28s rfl (by simp [Value.oneCell']) ?_)))
  refine bodyPost_ret (results_cc rfl _ _ w.heap.size (w.heap.size + 1) 48 28 #[.int .i64 0, .int .u8 0, .int .u8 0, .int .u8 0, .int .u8 0, .int .u8 0, .int .u8 0, .int .u32 0, .int .u8 0, .int .u8 0, .int .u8 0, .int .u8 0, .int .u8 0, .int .u8 0, .int .u32 0] #[.slice A2 1 c2, .int .i64 14] (0, 0) (0, 0) _ _ rfl HB0'.out Tryd.underlying48 rfl hi48 rfl (hb1'.setRow _) Tryd.underlying28 rfl hi28s) rfl ?_
  exact ⟨A2, c2, rfl, HR2.out, hlc, K2.out⟩
set_option maxRecDepth 100000 in
set_option maxHeartbeats 20000000 in
theorem rparse_bad3 (b o c n : Nat) (xs : List Int) (w : World) (hx : RdI w .u8 (some ⟨b, o, none⟩) xs) (hb : Byt xs) (hn : xs.length = n) (h1 : 28 ≤ n) (h2 : n ≤ 100000) (hc : n ≤ c) (hp : (xs.take 6 == [0, 1, 8, 0, 6, 4]) = true) (hq : ¬ n2 (nat xs) 6 < 1) (hq2 : 2 < n2 (nat xs) 6) :
    Calls Tryd.prog 19 #[.slice (some ⟨b, o, none⟩) n c] w fun ev w' => ∃ A2 c2, ev = .returned (.tuple #[.agg (pkt 0 (fun _ => 0) 0 (fun _ => 0) 0), .agg #[.slice A2 1 c2, .int .i64 14]]) ∧ RdI w' .i64 A2 [16] ∧ 1 ≤ c2 ∧ Kp (fun _ => False) w w' := by
  obtain ⟨y, hy⟩ : ∃ y, nat xs = y := ⟨_, rfl⟩
  have hlt : ∀ j, y j < 256 := fun j => by rw [← hy]; exact nat_lt hb j
  have hcc : ∀ j, j < n → w.cell? ⟨b, o + j, none⟩ = some (.int .u8 (y j)) := by
    rcases hx.2 with h | ⟨b', o', hA, h⟩
    · omega
    · cases hA
      intro j hj
      rw [h j (by omega), nat_val hb j, hy]
  have hbl : b < w.heap.size := World.block_lt_of_cell? w _ (hcc 0 (by omega))
  have kA := ((Kp.refl (fun _ => False) w).alloc (.cells #[.int .i64 0, .int .u8 0, .int .u8 0, .int .u8 0, .int .u8 0, .int .u8 0, .int .u8 0, .int .u32 0, .int .u8 0, .int .u8 0, .int .u8 0, .int .u8 0, .int .u8 0, .int .u8 0, .int .u32 0] 48)).alloc (.cells #[.slice none 0 0, .int .i64 0] 28)
  have hb0 := (Bk.new w 48 #[.int .i64 0, .int .u8 0, .int .u8 0, .int .u8 0, .int .u8 0, .int .u8 0, .int .u8 0, .int .u32 0, .int .u8 0, .int .u8 0, .int .u8 0, .int .u8 0, .int .u8 0, .int .u8 0, .int .u32 0]).alloc (.cells #[.slice none 0 0, .int .i64 0] 28)
  have hb1 := Bk.new (w.alloc (.cells #[.int .i64 0, .int .u8 0, .int .u8 0, .int .u8 0, .int .u8 0, .int .u8 0, .int .u8 0, .int .u32 0, .int .u8 0, .int .u8 0, .int .u8 0, .int .u8 0, .int .u8 0, .int .u8 0, .int .u32 0] 48)) 28 #[.slice none 0 0, .int .i64 0]
  rw [show (w.alloc (.cells #[.int .i64 0, .int .u8 0, .int .u8 0, .int .u8 0, .int .u8 0, .int .u8 0, .int .u8 0, .int .u32 0, .int .u8 0, .int .u8 0, .int .u8 0, .int .u8 0, .int .u8 0, .int .u8 0, .int .u32 0] 48)).heap.size = w.heap.size + 1 by simp] at hb1
  have HB0 := Lib.hid hb0
  have HB1 := Lib.hid hb1
  have HK := Lib.hid kA
  have hcw : ∀ j, j < n → ((w.alloc (.cells #[.int .i64 0, .int .u8 0, .int .u8 0, .int .u8 0, .int .u8 0, .int .u8 0, .int .u8 0, .int .u32 0, .int .u8 0, .int .u8 0, .int .u8 0, .int .u8 0, .int .u8 0, .int .u8 0, .int .u32 0] 48)).alloc (.cells #[.slice none 0 0, .int .i64 0] 28)).cell? ⟨b, o + j, none⟩ = some (.int .u8 (y j)) := fun j hj => (kA.cell (p := ⟨b, o + j, none⟩) hbl (fun f => f)).trans (hcc j hj)
  have HX := Lib.hid (hx.kp kA (fun _ _ _ f => f))
  have HY := Lib.hid hy
  have HLT := Lib.hid hlt
  have HWS := Lib.hid (show ((w.alloc (.cells #[.int .i64 0, .int .u8 0, .int .u8 0, .int .u8 0, .int .u8 0, .int .u8 0, .int .u8 0, .int .u32 0, .int .u8 0, .int .u8 0, .int .u8 0, .int .u8 0, .int .u8 0, .int .u8 0, .int .u32 0] 48)).alloc (.cells #[.slice none 0 0, .int .i64 0] 28)).heap.size = w.heap.size + 2 by simp)
  have hsp : ((strOfNums (xs.take 6)).toList == (strOfNums [0, 1, 8, 0, 6, 4]).toList) = true := by rw [strOfNums_eq _ _ (byt_take hb 6) (byt_of _ (by decide))]; exact hp
  have hl6 : (xs.take 6).length = 6 := by rw [List.length_take]; omega
  have HL6 := Lib.hid hl6
  obtain ⟨SA, hSA⟩ : ∃ s, strOfNums (xs.take 6) = s := ⟨_, rfl⟩
  obtain ⟨SB, hSB⟩ : ∃ s, strOfNums [0, 1, 8, 0, 6, 4] = s := ⟨_, rfl⟩
  rw [hSA, hSB] at hsp
  have hsn : (SA.toList != SB.toList) = false := by rw [bne, hsp]; rfl
  have HSA := Lib.hid hSA
  have HSB := Lib.hid hSB
  have l6 := hlt 6
  have l7 := hlt 7
  have l8 := hlt 8
  have e1 : IntKind.i64.wrap (y 6 : Int) = y 6 := IntWalk.i64_in _ (by omega)
  have e2 : IntKind.i64.wrap (y 7 : Int) = y 7 := IntWalk.i64_in _ (by omega)
  have e3 : IntKind.i64.wrap ((y 6 : Int) * 256) = y 6 * 256 := IntWalk.i64_in _ (by omega)
  have e4 : IntKind.i64.wrap ((y 6 : Int) * 256 + y 7) = y 6 * 256 + y 7 := IntWalk.i64_in _ (by omega)
  have i6 : (6 : Int) < (n : Int) := by omega
  have i7 : (7 : Int) < (n : Int) := by omega
  have i8 : (8 : Int) < (n : Int) := by omega
  have i9 : (6 : Int) ≤ (c : Int) := by omega
  have i10 : 6 ≤ c := by omega
  have g1 : ¬ ((n : Int) < 28) := by omega
  have c6 := hcw 6 (by omega)
  have c7 := hcw 7 (by omega)
  have c8 := hcw 8 (by omega)
  have HCW := Lib.hid hcw
  have t1 : decide ((y 6 : Int) * 256 + y 7 < 1) = false := by rw [hy] at hq; exact decide_eq_false hq
  have t2 : 2 < (y 6 : Int) * 256 + y 7 := by rw [hy] at hq2; exact hq2
  clear hq hq2
  clear kA hb0 hb1 hx hb hcc hcw hy hlt hp hSA hSB hl6 hbl
  go_enter Tryd.func19, Tryd.ntmps19
  go_upto_region 3 with fail
  generalize (w.alloc (.cells #[.int .i64 0, .int .u8 0, .int .u8 0, .int .u8 0, .int .u8 0, .int .u8 0, .int .u8 0, .int .u32 0, .int .u8 0, .int .u8 0, .int .u8 0, .int .u8 0, .int .u8 0, .int .u8 0, .int .u32 0] 48)).alloc (.cells #[.slice none 0 0, .int .i64 0] 28) = w0 at *
  go_quiet (fail)
  have HB0 := Lib.hid (HB0.out)
  clear c6 c7 e1 e2 e3 e4
  go_wp2_with fail
  refine wp_region_held_drew (S := (fun w' => Kp (fun _ => False) w0 w')) (by kernel_rfl) (((Kp.refl _ w0).drewN _).drew) (fun hHeld => ?_)
  have KC := Lib.hid (show Kp (fun _ => False) w0 _ from hHeld)
  refine wpAnyH_take (i := 0) (v := ?v0_18) rfl (by kernel_rfl) (by kernel_rfl) (by kernel_rfl) (fun _ _ _ h => h) (Or.inl ⟨by rfl, ?y0_18⟩) (by assumption) ?r0_18
  case y0_18 => (intro w hSw; (try dsimp only at hSw); go_simp; first | done | with_reducible rfl)
  try simp only [Act.put, List.getElem_toArray, List.getElem_cons_succ, List.getElem_cons_zero, List.setIfInBounds_toArray, List.set_cons_zero, List.set_cons_succ]
  refine wpAnyH_take (i := 1) (v := ?v1_19) rfl (by kernel_rfl) (by kernel_rfl) (by kernel_rfl) (fun _ _ _ h => h) (Or.inl ⟨by rfl, ?y1_19⟩) (by assumption) ?r1_19
  case y1_19 => (intro w hSw; (try dsimp only at hSw); go_simp; first | done | with_reducible rfl)
  try simp only [Act.put, List.getElem_toArray, List.getElem_cons_succ, List.getElem_cons_zero, List.setIfInBounds_toArray, List.set_cons_zero, List.set_cons_succ]
  refine wpAnyH_take (i := 2) (v := ?v2_20) rfl (by kernel_rfl) (by kernel_rfl) (by kernel_rfl) (fun _ _ _ h => h) (Or.inl ⟨by rfl, ?y2_20⟩) (by assumption) ?r2_20
  case y2_20 => (intro w hSw; (try dsimp only at hSw); have d2 := conv_rd ((HX.out.kp hSw (fun _ _ _ f => f)).take 6) 6 c HL6.out; rw [HSA.out] at d2; go_simp; first | done | with_reducible rfl)
  try simp only [Act.put, List.getElem_toArray, List.getElem_cons_succ, List.getElem_cons_zero, List.setIfInBounds_toArray, List.set_cons_zero, List.set_cons_succ]
  refine wpAnyH_ready (rs := [3]) (by kernel_rfl) (by simp) ?_
  refine AllReadyH.cons rfl (fun K hK => ?_) AllReadyH.nil
  go_simp
  with_reducible refine (head_any _).mono ?_
  rintro ev x3 ⟨s, rfl, own, k9⟩
  obtain ⟨a3, d3, rfl, r3⟩ := own_some own (by omega)
  have KC := Lib.hid (KC.out.trans' k9)
  have R3 := Lib.hid r3
  clear own k9 r3
  try dsimp only
  refine hK.out _ _ (KC.out) (fun hHeld => ?_)
  clear hK K
  try simp only [Act.put, List.getElem_toArray, List.getElem_cons_succ, List.getElem_cons_zero, List.setIfInBounds_toArray, List.set_cons_zero, List.set_cons_succ]
  refine wpAnyH_ready (rs := [4]) (by kernel_rfl) (by simp) ?_
  refine AllReadyH.cons rfl (fun K hK => ?_) AllReadyH.nil
  have hcv := conv_rd R3.out 6 d3 rfl
  rw [HSB.out] at hcv
  go_simp
  refine hK.out _ _ (KC.out) (fun hHeld => ?_)
  clear hK K
  try simp only [Act.put, List.getElem_toArray, List.getElem_cons_succ, List.getElem_cons_zero, List.setIfInBounds_toArray, List.set_cons_zero, List.set_cons_succ]
  clear hcv
  refine wpAnyH_take (i := 5) (v := ?v5_21) rfl (by kernel_rfl) (by kernel_rfl) (by kernel_rfl) (fun _ _ _ h => h) (Or.inl ⟨by rfl, ?y5_21⟩) (by assumption) ?r5_21
  case y5_21 => (intro w hSw; (try dsimp only at hSw); go_simp; first | done | with_reducible rfl)
  try simp only [Act.put, List.getElem_toArray, List.getElem_cons_succ, List.getElem_cons_zero, List.setIfInBounds_toArray, List.set_cons_zero, List.set_cons_succ]
  refine wpAnyH_take (i := 6) (v := ?v6_22) rfl (by kernel_rfl) (by kernel_rfl) (by kernel_rfl) (fun _ _ _ h => h) (Or.inl ⟨by rfl, ?y6_22⟩) (by assumption) ?r6_22
  case y6_22 => (intro w hSw; (try dsimp only at hSw); go_simp; first | done | with_reducible rfl)
  try simp only [Act.put, List.getElem_toArray, List.getElem_cons_succ, List.getElem_cons_zero, List.setIfInBounds_toArray, List.set_cons_zero, List.set_cons_succ]
  refine wpAnyH_take (i := 7) (v := ?v7_23) rfl (by kernel_rfl) (by kernel_rfl) (by kernel_rfl) (fun _ _ _ h => h) (Or.inl ⟨by rfl, ?y7_23⟩) (by assumption) ?r7_23
  case y7_23 => (intro w hSw; (try dsimp only at hSw); go_simp; first | done | with_reducible rfl)
  try simp only [Act.put, List.getElem_toArray, List.getElem_cons_succ, List.getElem_cons_zero, List.setIfInBounds_toArray, List.set_cons_zero, List.set_cons_succ]
  refine wpAnyH_take (i := 8) (v := ?v8_24) rfl (by kernel_rfl) (by kernel_rfl) (by kernel_rfl) (fun _ _ _ h => h) (Or.inl ⟨by rfl, ?y8_24⟩) (by assumption) ?r8_24
  case y8_24 => (intro w hSw; (try dsimp only at hSw); go_simp; first | done | with_reducible rfl)
  try simp only [Act.put, List.getElem_toArray, List.getElem_cons_succ, List.getElem_cons_zero, List.setIfInBounds_toArray, List.set_cons_zero, List.set_cons_succ]
  refine wpAnyH_take (i := 9) (v := ?v9_25) rfl (by kernel_rfl) (by kernel_rfl) (by kernel_rfl) (fun _ _ _ h => h) (Or.inl ⟨by rfl, ?y9_25⟩) (by assumption) ?r9_25
  case y9_25 => (intro w hSw; (try dsimp only at hSw); go_simp; first | done | with_reducible rfl)
  try simp only [Act.put, List.getElem_toArray, List.getElem_cons_succ, List.getElem_cons_zero, List.setIfInBounds_toArray, List.set_cons_zero, List.set_cons_succ]
  refine wpAnyH_take (i := 10) (v := ?v10_26) rfl (by kernel_rfl) (by kernel_rfl) (by kernel_rfl) (fun _ _ _ h => h) (Or.inl ⟨by rfl, ?y10_26⟩) (by assumption) ?r10_26
  case y10_26 => (intro w hSw; (try dsimp only at hSw); go_simp; first | done | with_reducible rfl)
  try simp only [Act.put, List.getElem_toArray, List.getElem_cons_succ, List.getElem_cons_zero, List.setIfInBounds_toArray, List.set_cons_zero, List.set_cons_succ]
  refine wpAnyH_take (i := 11) (v := ?v11_27) rfl (by kernel_rfl) (by kernel_rfl) (by kernel_rfl) (fun _ _ _ h => h) (Or.inl ⟨by rfl, ?y11_27⟩) (by assumption) ?r11_27
  case y11_27 => (intro w hSw; (try dsimp only at hSw); go_simp; first | done | with_reducible rfl)
  try simp only [Act.put, List.getElem_toArray, List.getElem_cons_succ, List.getElem_cons_zero, List.setIfInBounds_toArray, List.set_cons_zero, List.set_cons_succ]
  refine wpAnyH_take (i := 12) (v := ?v12_28) rfl (by kernel_rfl) (by kernel_rfl) (by kernel_rfl) (fun _ _ _ h => h) (Or.inl ⟨by rfl, ?y12_28⟩) (by assumption) ?r12_28
  case y12_28 => (intro w hSw; (try dsimp only at hSw); go_simp; first | done | with_reducible rfl)
  try simp only [Act.put, List.getElem_toArray, List.getElem_cons_succ, List.getElem_cons_zero, List.setIfInBounds_toArray, List.set_cons_zero, List.set_cons_succ]
  refine wpAnyH_take (i := 13) (v := ?v13_29) rfl (by kernel_rfl) (by kernel_rfl) (by kernel_rfl) (fun _ _ _ h => h) (Or.inl ⟨by rfl, ?y13_29⟩) (by assumption) ?r13_29
  case y13_29 => (intro w hSw; (try dsimp only at hSw); go_simp; first | done | with_reducible rfl)
  try simp only [Act.put, List.getElem_toArray, List.getElem_cons_succ, List.getElem_cons_zero, List.setIfInBounds_toArray, List.set_cons_zero, List.set_cons_succ]
  refine wpAnyH_done (by kernel_rfl) ?_ _
  have K4 := KC
  go_wp2_with fail
  have HB0 := Lib.hid (HB0.out.kept K4.out (fun f => f))
  have HB1 := Lib.hid (HB1.out.kept K4.out (fun f => f))
  have HK := Lib.hid (HK.out.trans' K4.out)
  refine (fnew_any 16 14 _).mono ?_
  rintro ev w1 ⟨u, l, e, rfl, hni, k1⟩
  obtain ⟨rfl, rfl⟩ := newIs_yes hni (by decide) (by decide)
  obtain ⟨A2, c2, rfl, hlc, _, rd⟩ := hni.1.read
  have hb0 := HB0.out.kept k1 (fun x => x)
  have hb1 := HB1.out.kept k1 (fun x => x)
  have K1 := Lib.hid (HK.out.trans' k1)
  have hown : ∀ b o, A2 = some ⟨b, o, none⟩ → b ≠ w.heap.size + 1 ∧ b ≠ w.heap.size := by
    rintro b o rfl
    exact ⟨fun h => by subst h; exact hni.1.ne hb1 (by decide) rfl, fun h => by subst h; exact hni.1.ne hb0 (by decide) rfl⟩
  have HR := Lib.hid rd
  have HOW := Lib.hid hown
  have kS := Kp.setRow (S := fun b => b = w.heap.size) (Kp.refl _ w1) (.inl rfl) #[.int .i64 0, .int .u8 0, .int .u8 0, .int .u8 0, .int .u8 0, .int .u8 0, .int .u8 0, .int .u32 0, .int .u8 0, .int .u8 0, .int .u8 0, .int .u8 0, .int .u8 0, .int .u8 0, .int .u32 0]
  have hb1' := hb1.kept kS (by show ¬ w.heap.size + 1 = w.heap.size; omega)
  have kS2 := Kp.setRow (S := fun b => b = w.heap.size + 1) (Kp.refl _ (w1.setRow w.heap.size #[.int .i64 0, .int .u8 0, .int .u8 0, .int .u8 0, .int .u8 0, .int .u8 0, .int .u8 0, .int .u32 0, .int .u8 0, .int .u8 0, .int .u8 0, .int .u8 0, .int .u8 0, .int .u8 0, .int .u32 0])) (.inl rfl) #[.slice A2 1 c2, .int .i64 14]
  have hb0' := (hb0.setRow #[.int .i64 0, .int .u8 0, .int .u8 0, .int .u8 0, .int .u8 0, .int .u8 0, .int .u8 0, .int .u32 0, .int .u8 0, .int .u8 0, .int .u8 0, .int .u8 0, .int .u8 0, .int .u8 0, .int .u32 0]).kept kS2 (by show ¬ w.heap.size = w.heap.size + 1; omega)
  have K2 := Lib.hid ((K1.out.setRow (.inr (Nat.le_refl _)) #[.int .i64 0, .int .u8 0, .int .u8 0, .int .u8 0, .int .u8 0, .int .u8 0, .int .u8 0, .int .u32 0, .int .u8 0, .int .u8 0, .int .u8 0, .int .u8 0, .int .u8 0, .int .u8 0, .int .u32 0]).setRow (g := w.heap.size + 1) (.inr (by omega)) #[.slice A2 1 c2, .int .i64 14])
  have HR2 := Lib.hid ((HR.out.kp kS (fun b o h h2 => (HOW.out b o h).2 h2)).kp kS2 (fun b o h h2 => (HOW.out b o h).1 h2))
  have HB0' := Lib.hid hb0'
  have HKS := Lib.hid kS
  clear k1 hni rd hown kS kS2 hb0'
  go_wp2_with
    (first
    | ((with_reducible refine gate_store (t := 48) (p := 2) (v := .tmp 36) rfl ?_)
       go_must (refine wpList_store_row (by rfl) 48 (.tmp 2) (.tmp 36) (by rfl) w.heap.size #[.int .i64 0, .int .u8 0, .int .u8 0, .int .u8 0, .int .u8 0, .int .u8 0, .int .u8 0, .int .u32 0, .int .u8 0, .int .u8 0, .int .u8 0, .int .u8 0, .int .u8 0, .int .u8 0, .int .u32 0] (by rfl) (by rfl) 48 #[.int .i64 0, .int .u8 0, .int .u8 0, .int .u8 0, .int .u8 0, .int .u8 0, .int .u8 0, .int .u32 0, .int .u8 0, .int .u8 0, .int .u8 0, .int .u8 0, .int .u8 0, .int .u8 0, .int .u32 0] hb0 hi48 rfl (by simp [Value.oneCell']) ?_))
    | ((with_reducible refine gate_store (t := 28) (p := 3) (v := .tmp 37) rfl ?_)
       go_must (refine wpList_store_row (by rfl) 28 (.tmp 3) (.tmp 37) (by rfl) (w.heap.size + 1) #[.slice A2 1 c2, .int .i64 14] (by rfl) (by rfl) 28 #[.slice none 0 0, .int .i64 0] hb1' hi28s rfl (by simp [Value.oneCell']) ?_)))
  refine bodyPost_ret (results_cc rfl _ _ w.heap.size (w.heap.size + 1) 48 28 #[.int .i64 0, .int .u8 0, .int .u8 0, .int .u8 0, .int .u8 0, .int .u8 0, .int .u8 0, .int .u32 0, .int .u8 0, .int .u8 0, .int .u8 0, .int .u8 0, .int .u8 0, .int .u8 0, .int .u32 0] #[.slice A2 1 c2, .int .i64 14] (0, 0) (0, 0) _ _ rfl HB0'.out Tryd.underlying48 rfl hi48 rfl (hb1'.setRow _) Tryd.underlying28 rfl hi28s) rfl ?_
  exact ⟨A2, c2, rfl, HR2.out, hlc, K2.out⟩
set_option maxRecDepth 100000 in
set_option maxHeartbeats 20000000 in
theorem rparse_odd (b o c n : Nat) (xs : List Int) (w : World) (hx : RdI w .u8 (some ⟨b, o, none⟩) xs) (hb : Byt xs) (hn : xs.length = n) (h1 : 28 ≤ n) (h2 : n ≤ 100000) (hc : n ≤ c) (hp : (xs.take 6 == [0, 1, 8, 0, 6, 4]) = true) (hq : ¬ n2 (nat xs) 6 < 1) (hq2 : ¬ 2 < n2 (nat xs) 6) (ho : (xs.getD 8 0 % 2 != 0) = true) :
    Calls Tryd.prog 19 #[.slice (some ⟨b, o, none⟩) n c] w fun ev w' => ∃ A2 c2, ev = .returned (.tuple #[.agg (pkt 0 (fun _ => 0) 0 (fun _ => 0) 0), .agg #[.slice A2 1 c2, .int .i64 10]]) ∧ RdI w' .i64 A2 [1] ∧ 1 ≤ c2 ∧ Kp (fun _ => False) w w' := by
  obtain ⟨y, hy⟩ : ∃ y, nat xs = y := ⟨_, rfl⟩
  have hlt : ∀ j, y j < 256 := fun j => by rw [← hy]; exact nat_lt hb j
  have hcc : ∀ j, j < n → w.cell? ⟨b, o + j, none⟩ = some (.int .u8 (y j)) := by
    rcases hx.2 with h | ⟨b', o', hA, h⟩
    · omega
    · cases hA
      intro j hj
      rw [h j (by omega), nat_val hb j, hy]
  have hbl : b < w.heap.size := World.block_lt_of_cell? w _ (hcc 0 (by omega))
  have kA := ((Kp.refl (fun _ => False) w).alloc (.cells #[.int .i64 0, .int .u8 0, .int .u8 0, .int .u8 0, .int .u8 0, .int .u8 0, .int .u8 0, .int .u32 0, .int .u8 0, .int .u8 0, .int .u8 0, .int .u8 0, .int .u8 0, .int .u8 0, .int .u32 0] 48)).alloc (.cells #[.slice none 0 0, .int .i64 0] 28)
  have hb0 := (Bk.new w 48 #[.int .i64 0, .int .u8 0, .int .u8 0, .int .u8 0, .int .u8 0, .int .u8 0, .int .u8 0, .int .u32 0, .int .u8 0, .int .u8 0, .int .u8 0, .int .u8 0, .int .u8 0, .int .u8 0, .int .u32 0]).alloc (.cells #[.slice none 0 0, .int .i64 0] 28)
  have hb1 := Bk.new (w.alloc (.cells #[.int .i64 0, .int .u8 0, .int .u8 0, .int .u8 0, .int .u8 0, .int .u8 0, .int .u8 0, .int .u32 0, .int .u8 0, .int .u8 0, .int .u8 0, .int .u8 0, .int .u8 0, .int .u8 0, .int .u32 0] 48)) 28 #[.slice none 0 0, .int .i64 0]
  rw [show (w.alloc (.cells #[.int .i64 0, .int .u8 0, .int .u8 0, .int .u8 0, .int .u8 0, .int .u8 0, .int .u8 0, .int .u32 0, .int .u8 0, .int .u8 0, .int .u8 0, .int .u8 0, .int .u8 0, .int .u8 0, .int .u32 0] 48)).heap.size = w.heap.size + 1 by simp] at hb1
  have HB0 := Lib.hid hb0
  have HB1 := Lib.hid hb1
  have HK := Lib.hid kA
  have hcw : ∀ j, j < n → ((w.alloc (.cells #[.int .i64 0, .int .u8 0, .int .u8 0, .int .u8 0, .int .u8 0, .int .u8 0, .int .u8 0, .int .u32 0, .int .u8 0, .int .u8 0, .int .u8 0, .int .u8 0, .int .u8 0, .int .u8 0, .int .u32 0] 48)).alloc (.cells #[.slice none 0 0, .int .i64 0] 28)).cell? ⟨b, o + j, none⟩ = some (.int .u8 (y j)) := fun j hj => (kA.cell (p := ⟨b, o + j, none⟩) hbl (fun f => f)).trans (hcc j hj)
  have HX := Lib.hid (hx.kp kA (fun _ _ _ f => f))
  have HY := Lib.hid hy
  have HLT := Lib.hid hlt
  have HWS := Lib.hid (show ((w.alloc (.cells #[.int .i64 0, .int .u8 0, .int .u8 0, .int .u8 0, .int .u8 0, .int .u8 0, .int .u8 0, .int .u32 0, .int .u8 0, .int .u8 0, .int .u8 0, .int .u8 0, .int .u8 0, .int .u8 0, .int .u32 0] 48)).alloc (.cells #[.slice none 0 0, .int .i64 0] 28)).heap.size = w.heap.size + 2 by simp)
  have hsp : ((strOfNums (xs.take 6)).toList == (strOfNums [0, 1, 8, 0, 6, 4]).toList) = true := by rw [strOfNums_eq _ _ (byt_take hb 6) (byt_of _ (by decide))]; exact hp
  have hl6 : (xs.take 6).length = 6 := by rw [List.length_take]; omega
  have HL6 := Lib.hid hl6
  obtain ⟨SA, hSA⟩ : ∃ s, strOfNums (xs.take 6) = s := ⟨_, rfl⟩
  obtain ⟨SB, hSB⟩ : ∃ s, strOfNums [0, 1, 8, 0, 6, 4] = s := ⟨_, rfl⟩
  rw [hSA, hSB] at hsp
  have hsn : (SA.toList != SB.toList) = false := by rw [bne, hsp]; rfl
  have HSA := Lib.hid hSA
  have HSB := Lib.hid hSB
  have l6 := hlt 6
  have l7 := hlt 7
  have l8 := hlt 8
  have e1 : IntKind.i64.wrap (y 6 : Int) = y 6 := IntWalk.i64_in _ (by omega)
  have e2 : IntKind.i64.wrap (y 7 : Int) = y 7 := IntWalk.i64_in _ (by omega)
  have e3 : IntKind.i64.wrap ((y 6 : Int) * 256) = y 6 * 256 := IntWalk.i64_in _ (by omega)
  have e4 : IntKind.i64.wrap ((y 6 : Int) * 256 + y 7) = y 6 * 256 + y 7 := IntWalk.i64_in _ (by omega)
  have i6 : (6 : Int) < (n : Int) := by omega
  have i7 : (7 : Int) < (n : Int) := by omega
  have i8 : (8 : Int) < (n : Int) := by omega
  have i9 : (6 : Int) ≤ (c : Int) := by omega
  have i10 : 6 ≤ c := by omega
  have g1 : ¬ ((n : Int) < 28) := by omega
  have c6 := hcw 6 (by omega)
  have c7 := hcw 7 (by omega)
  have c8 := hcw 8 (by omega)
  have HCW := Lib.hid hcw
  have t1 : decide ((y 6 : Int) * 256 + y 7 < 1) = false := by rw [hy] at hq; exact decide_eq_false hq
  have t2 : decide (2 < (y 6 : Int) * 256 + y 7) = false := by rw [hy] at hq2; exact decide_eq_false hq2
  clear hq hq2
  have hod : ((y 8 : Int) % 2 == 1) = true := by rw [nat_val hb 8, hy] at ho; simp at ho ⊢; omega
  clear ho
  clear kA hb0 hb1 hx hb hcc hcw hy hlt hp hSA hSB hl6 hbl
  go_enter Tryd.func19, Tryd.ntmps19
  go_upto_region 3 with fail
  generalize (w.alloc (.cells #[.int .i64 0, .int .u8 0, .int .u8 0, .int .u8 0, .int .u8 0, .int .u8 0, .int .u8 0, .int .u32 0, .int .u8 0, .int .u8 0, .int .u8 0, .int .u8 0, .int .u8 0, .int .u8 0, .int .u32 0] 48)).alloc (.cells #[.slice none 0 0, .int .i64 0] 28) = w0 at *
  go_quiet (fail)
  clear c6 c7 e1 e2 e3 e4
  go_wp2_with fail
  refine wp_region_held_drew (S := (fun w' => Kp (fun _ => False) w0 w')) (by kernel_rfl) (((Kp.refl _ w0).drewN _).drew) (fun hHeld => ?_)
  have KC := Lib.hid (show Kp (fun _ => False) w0 _ from hHeld)
  refine wpAnyH_take (i := 0) (v := ?v0_30) rfl (by kernel_rfl) (by kernel_rfl) (by kernel_rfl) (fun _ _ _ h => h) (Or.inl ⟨by rfl, ?y0_30⟩) (by assumption) ?r0_30
  case y0_30 => (intro w hSw; (try dsimp only at hSw); go_simp; first | done | with_reducible rfl)
  try simp only [Act.put, List.getElem_toArray, List.getElem_cons_succ, List.getElem_cons_zero, List.setIfInBounds_toArray, List.set_cons_zero, List.set_cons_succ]
  refine wpAnyH_take (i := 1) (v := ?v1_31) rfl (by kernel_rfl) (by kernel_rfl) (by kernel_rfl) (fun _ _ _ h => h) (Or.inl ⟨by rfl, ?y1_31⟩) (by assumption) ?r1_31
  case y1_31 => (intro w hSw; (try dsimp only at hSw); go_simp; first | done | with_reducible rfl)
  try simp only [Act.put, List.getElem_toArray, List.getElem_cons_succ, List.getElem_cons_zero, List.setIfInBounds_toArray, List.set_cons_zero, List.set_cons_succ]
  refine wpAnyH_take (i := 2) (v := ?v2_32) rfl (by kernel_rfl) (by kernel_rfl) (by kernel_rfl) (fun _ _ _ h => h) (Or.inl ⟨by rfl, ?y2_32⟩) (by assumption) ?r2_32
  case y2_32 => (intro w hSw; (try dsimp only at hSw); have d2 := conv_rd ((HX.out.kp hSw (fun _ _ _ f => f)).take 6) 6 c HL6.out; rw [HSA.out] at d2; go_simp; first | done | with_reducible rfl)
  try simp only [Act.put, List.getElem_toArray, List.getElem_cons_succ, List.getElem_cons_zero, List.setIfInBounds_toArray, List.set_cons_zero, List.set_cons_succ]
  refine wpAnyH_ready (rs := [3]) (by kernel_rfl) (by simp) ?_
  refine AllReadyH.cons rfl (fun K hK => ?_) AllReadyH.nil
  go_simp
  with_reducible refine (head_any _).mono ?_
  rintro ev x3 ⟨s, rfl, own, k9⟩
  obtain ⟨a3, d3, rfl, r3⟩ := own_some own (by omega)
  have KC := Lib.hid (KC.out.trans' k9)
  have R3 := Lib.hid r3
  clear own k9 r3
  try dsimp only
  refine hK.out _ _ (KC.out) (fun hHeld => ?_)
  clear hK K
  try simp only [Act.put, List.getElem_toArray, List.getElem_cons_succ, List.getElem_cons_zero, List.setIfInBounds_toArray, List.set_cons_zero, List.set_cons_succ]
  refine wpAnyH_ready (rs := [4]) (by kernel_rfl) (by simp) ?_
  refine AllReadyH.cons rfl (fun K hK => ?_) AllReadyH.nil
  have hcv := conv_rd R3.out 6 d3 rfl
  rw [HSB.out] at hcv
  go_simp
  refine hK.out _ _ (KC.out) (fun hHeld => ?_)
  clear hK K
  try simp only [Act.put, List.getElem_toArray, List.getElem_cons_succ, List.getElem_cons_zero, List.setIfInBounds_toArray, List.set_cons_zero, List.set_cons_succ]
  clear hcv
  refine wpAnyH_take (i := 5) (v := ?v5_33) rfl (by kernel_rfl) (by kernel_rfl) (by kernel_rfl) (fun _ _ _ h => h) (Or.inl ⟨by rfl, ?y5_33⟩) (by assumption) ?r5_33
  case y5_33 => (intro w hSw; (try dsimp only at hSw); go_simp; first | done | with_reducible rfl)
  try simp only [Act.put, List.getElem_toArray, List.getElem_cons_succ, List.getElem_cons_zero, List.setIfInBounds_toArray, List.set_cons_zero, List.set_cons_succ]
  refine wpAnyH_take (i := 6) (v := ?v6_34) rfl (by kernel_rfl) (by kernel_rfl) (by kernel_rfl) (fun _ _ _ h => h) (Or.inl ⟨by rfl, ?y6_34⟩) (by assumption) ?r6_34
  case y6_34 => (intro w hSw; (try dsimp only at hSw); go_simp; first | done | with_reducible rfl)
  try simp only [Act.put, List.getElem_toArray, List.getElem_cons_succ, List.getElem_cons_zero, List.setIfInBounds_toArray, List.set_cons_zero, List.set_cons_succ]
  refine wpAnyH_take (i := 7) (v := ?v7_35) rfl (by kernel_rfl) (by kernel_rfl) (by kernel_rfl) (fun _ _ _ h => h) (Or.inl ⟨by rfl, ?y7_35⟩) (by assumption) ?r7_35
  case y7_35 => (intro w hSw; (try dsimp only at hSw); go_simp; first | done | with_reducible rfl)
  try simp only [Act.put, List.getElem_toArray, List.getElem_cons_succ, List.getElem_cons_zero, List.setIfInBounds_toArray, List.set_cons_zero, List.set_cons_succ]
  refine wpAnyH_take (i := 8) (v := ?v8_36) rfl (by kernel_rfl) (by kernel_rfl) (by kernel_rfl) (fun _ _ _ h => h) (Or.inl ⟨by rfl, ?y8_36⟩) (by assumption) ?r8_36
  case y8_36 => (intro w hSw; (try dsimp only at hSw); go_simp; first | done | with_reducible rfl)
  try simp only [Act.put, List.getElem_toArray, List.getElem_cons_succ, List.getElem_cons_zero, List.setIfInBounds_toArray, List.set_cons_zero, List.set_cons_succ]
  refine wpAnyH_take (i := 9) (v := ?v9_37) rfl (by kernel_rfl) (by kernel_rfl) (by kernel_rfl) (fun _ _ _ h => h) (Or.inl ⟨by rfl, ?y9_37⟩) (by assumption) ?r9_37
  case y9_37 => (intro w hSw; (try dsimp only at hSw); go_simp; first | done | with_reducible rfl)
  try simp only [Act.put, List.getElem_toArray, List.getElem_cons_succ, List.getElem_cons_zero, List.setIfInBounds_toArray, List.set_cons_zero, List.set_cons_succ]
  refine wpAnyH_take (i := 10) (v := ?v10_38) rfl (by kernel_rfl) (by kernel_rfl) (by kernel_rfl) (fun _ _ _ h => h) (Or.inl ⟨by rfl, ?y10_38⟩) (by assumption) ?r10_38
  case y10_38 => (intro w hSw; (try dsimp only at hSw); go_simp; first | done | with_reducible rfl)
  try simp only [Act.put, List.getElem_toArray, List.getElem_cons_succ, List.getElem_cons_zero, List.setIfInBounds_toArray, List.set_cons_zero, List.set_cons_succ]
  refine wpAnyH_take (i := 11) (v := ?v11_39) rfl (by kernel_rfl) (by kernel_rfl) (by kernel_rfl) (fun _ _ _ h => h) (Or.inl ⟨by rfl, ?y11_39⟩) (by assumption) ?r11_39
  case y11_39 => (intro w hSw; (try dsimp only at hSw); go_simp; first | done | with_reducible rfl)
  try simp only [Act.put, List.getElem_toArray, List.getElem_cons_succ, List.getElem_cons_zero, List.setIfInBounds_toArray, List.set_cons_zero, List.set_cons_succ]
  refine wpAnyH_take (i := 12) (v := ?v12_40) rfl (by kernel_rfl) (by kernel_rfl) (by kernel_rfl) (fun _ _ _ h => h) (Or.inl ⟨by rfl, ?y12_40⟩) (by assumption) ?r12_40
  case y12_40 => (intro w hSw; (try dsimp only at hSw); go_simp; first | done | with_reducible rfl)
  try simp only [Act.put, List.getElem_toArray, List.getElem_cons_succ, List.getElem_cons_zero, List.setIfInBounds_toArray, List.set_cons_zero, List.set_cons_succ]
  refine wpAnyH_take (i := 13) (v := ?v13_41) rfl (by kernel_rfl) (by kernel_rfl) (by kernel_rfl) (fun _ _ _ h => h) (Or.inl ⟨by rfl, ?y13_41⟩) (by assumption) ?r13_41
  case y13_41 => (intro w hSw; (try dsimp only at hSw); go_simp; first | done | with_reducible rfl)
  try simp only [Act.put, List.getElem_toArray, List.getElem_cons_succ, List.getElem_cons_zero, List.setIfInBounds_toArray, List.set_cons_zero, List.set_cons_succ]
  refine wpAnyH_done (by kernel_rfl) ?_ _
  have K4 := KC
  have s8 := kp_kc c8 KC.out
  go_wp2_with fail
  have HB0 := Lib.hid (HB0.out.kept K4.out (fun f => f))
  have HB1 := Lib.hid (HB1.out.kept K4.out (fun f => f))
  have HK := Lib.hid (HK.out.trans' K4.out)
  refine (fnew_any 1 10 _).mono ?_
  rintro ev w1 ⟨u, l, e, rfl, hni, k1⟩
  obtain ⟨rfl, rfl⟩ := newIs_yes hni (by decide) (by decide)
  obtain ⟨A2, c2, rfl, hlc, _, rd⟩ := hni.1.read
  have hb0 := HB0.out.kept k1 (fun x => x)
  have hb1 := HB1.out.kept k1 (fun x => x)
  have K1 := Lib.hid (HK.out.trans' k1)
  have hown : ∀ b o, A2 = some ⟨b, o, none⟩ → b ≠ w.heap.size + 1 ∧ b ≠ w.heap.size := by
    rintro b o rfl
    exact ⟨fun h => by subst h; exact hni.1.ne hb1 (by decide) rfl, fun h => by subst h; exact hni.1.ne hb0 (by decide) rfl⟩
  have HR := Lib.hid rd
  have HOW := Lib.hid hown
  have kS := Kp.setRow (S := fun b => b = w.heap.size) (Kp.refl _ w1) (.inl rfl) #[.int .i64 0, .int .u8 0, .int .u8 0, .int .u8 0, .int .u8 0, .int .u8 0, .int .u8 0, .int .u32 0, .int .u8 0, .int .u8 0, .int .u8 0, .int .u8 0, .int .u8 0, .int .u8 0, .int .u32 0]
  have hb1' := hb1.kept kS (by show ¬ w.heap.size + 1 = w.heap.size; omega)
  have kS2 := Kp.setRow (S := fun b => b = w.heap.size + 1) (Kp.refl _ (w1.setRow w.heap.size #[.int .i64 0, .int .u8 0, .int .u8 0, .int .u8 0, .int .u8 0, .int .u8 0, .int .u8 0, .int .u32 0, .int .u8 0, .int .u8 0, .int .u8 0, .int .u8 0, .int .u8 0, .int .u8 0, .int .u32 0])) (.inl rfl) #[.slice A2 1 c2, .int .i64 10]
  have hb0' := (hb0.setRow #[.int .i64 0, .int .u8 0, .int .u8 0, .int .u8 0, .int .u8 0, .int .u8 0, .int .u8 0, .int .u32 0, .int .u8 0, .int .u8 0, .int .u8 0, .int .u8 0, .int .u8 0, .int .u8 0, .int .u32 0]).kept kS2 (by show ¬ w.heap.size = w.heap.size + 1; omega)
  have K2 := Lib.hid ((K1.out.setRow (.inr (Nat.le_refl _)) #[.int .i64 0, .int .u8 0, .int .u8 0, .int .u8 0, .int .u8 0, .int .u8 0, .int .u8 0, .int .u32 0, .int .u8 0, .int .u8 0, .int .u8 0, .int .u8 0, .int .u8 0, .int .u8 0, .int .u32 0]).setRow (g := w.heap.size + 1) (.inr (by omega)) #[.slice A2 1 c2, .int .i64 10])
  have HR2 := Lib.hid ((HR.out.kp kS (fun b o h h2 => (HOW.out b o h).2 h2)).kp kS2 (fun b o h h2 => (HOW.out b o h).1 h2))
  have HB0' := Lib.hid hb0'
  have HKS := Lib.hid kS
  clear k1 hni rd hown kS kS2 hb0'
  go_wp2_with
    (first
    | ((with_reducible refine gate_store (t := 48) (p := 2) (v := .tmp 43) rfl ?_)
       go_must (refine wpList_store_row (by rfl) 48 (.tmp 2) (.tmp 43) (by rfl) w.heap.size #[.int .i64 0, .int .u8 0, .int .u8 0, .int .u8 0, .int .u8 0, .int .u8 0, .int .u8 0, .int .u32 0, .int .u8 0, .int .u8 0, .int .u8 0, .int .u8 0, .int .u8 0, .int .u8 0, .int .u32 0] (by rfl) (by rfl) 48 #[.int .i64 0, .int .u8 0, .int .u8 0, .int .u8 0, .int .u8 0, .int .u8 0, .int .u8 0, .int .u32 0, .int .u8 0, .int .u8 0, .int .u8 0, .int .u8 0, .int .u8 0, .int .u8 0, .int .u32 0] hb0 hi48 rfl (by simp [Value.oneCell']) ?_))
    | ((with_reducible refine gate_store (t := 28) (p := 3) (v := .tmp 44) rfl ?_)
       go_must (refine wpList_store_row (by rfl) 28 (.tmp 3) (.tmp 44) (by rfl) (w.heap.size + 1) #[.slice A2 1 c2, .int .i64 10] (by rfl) (by rfl) 28 #[.slice none 0 0, .int .i64 0] hb1' hi28s rfl (by simp [Value.oneCell']) ?_)))
  refine bodyPost_ret (results_cc rfl _ _ w.heap.size (w.heap.size + 1) 48 28 #[.int .i64 0, .int .u8 0, .int .u8 0, .int .u8 0, .int .u8 0, .int .u8 0, .int .u8 0, .int .u32 0, .int .u8 0, .int .u8 0, .int .u8 0, .int .u8 0, .int .u8 0, .int .u8 0, .int .u32 0] #[.slice A2 1 c2, .int .i64 10] (0, 0) (0, 0) _ _ rfl HB0'.out Tryd.underlying48 rfl hi48 rfl (hb1'.setRow _) Tryd.underlying28 rfl hi28s) rfl ?_
  exact ⟨A2, c2, rfl, HR2.out, hlc, K2.out⟩
/-- What lies behind the region that makes the reference's packet. -/
def RMid (w1 : World) (cs : Array Value) (s5 : Value) (wx : World) : Prop := ∃ g, s5 = .pointer (some ⟨g, 0, none⟩) ∧ w1.heap.size ≤ g ∧ Bk wx g 48 cs ∧ Kp (fun _ => False) w1 wx
set_option maxRecDepth 100000 in
set_option maxHeartbeats 40000000 in
theorem rparse_ok (b o c n : Nat) (xs : List Int) (w : World) (hx : RdI w .u8 (some ⟨b, o, none⟩) xs) (hb : Byt xs) (hn : xs.length = n) (h1 : 28 ≤ n) (h2 : n ≤ 100000) (hc : n ≤ c) (hp : (xs.take 6 == [0, 1, 8, 0, 6, 4]) = true) (hq : ¬ n2 (nat xs) 6 < 1) (hq2 : ¬ 2 < n2 (nat xs) 6) (ho : (xs.getD 8 0 % 2 != 0) = false) :
    Calls Tryd.prog 19 #[.slice (some ⟨b, o, none⟩) n c] w fun ev w' => ev = .returned (.tuple #[.agg (pktOf (nat xs)), .agg #[.slice none 0 0, .int .i64 0]]) ∧ Kp (fun _ => False) w w' := by
  obtain ⟨y, hy⟩ : ∃ y, nat xs = y := ⟨_, rfl⟩
  have hlt : ∀ j, y j < 256 := fun j => by rw [← hy]; exact nat_lt hb j
  have hcc : ∀ j, j < n → w.cell? ⟨b, o + j, none⟩ = some (.int .u8 (y j)) := by
    rcases hx.2 with h | ⟨b', o', hA, h⟩
    · omega
    · cases hA
      intro j hj
      rw [h j (by omega), nat_val hb j, hy]
  have hbl : b < w.heap.size := World.block_lt_of_cell? w _ (hcc 0 (by omega))
  have kA := ((Kp.refl (fun _ => False) w).alloc (.cells #[.int .i64 0, .int .u8 0, .int .u8 0, .int .u8 0, .int .u8 0, .int .u8 0, .int .u8 0, .int .u32 0, .int .u8 0, .int .u8 0, .int .u8 0, .int .u8 0, .int .u8 0, .int .u8 0, .int .u32 0] 48)).alloc (.cells #[.slice none 0 0, .int .i64 0] 28)
  have hb0 := (Bk.new w 48 #[.int .i64 0, .int .u8 0, .int .u8 0, .int .u8 0, .int .u8 0, .int .u8 0, .int .u8 0, .int .u32 0, .int .u8 0, .int .u8 0, .int .u8 0, .int .u8 0, .int .u8 0, .int .u8 0, .int .u32 0]).alloc (.cells #[.slice none 0 0, .int .i64 0] 28)
  have hb1 := Bk.new (w.alloc (.cells #[.int .i64 0, .int .u8 0, .int .u8 0, .int .u8 0, .int .u8 0, .int .u8 0, .int .u8 0, .int .u32 0, .int .u8 0, .int .u8 0, .int .u8 0, .int .u8 0, .int .u8 0, .int .u8 0, .int .u32 0] 48)) 28 #[.slice none 0 0, .int .i64 0]
  rw [show (w.alloc (.cells #[.int .i64 0, .int .u8 0, .int .u8 0, .int .u8 0, .int .u8 0, .int .u8 0, .int .u8 0, .int .u32 0, .int .u8 0, .int .u8 0, .int .u8 0, .int .u8 0, .int .u8 0, .int .u8 0, .int .u32 0] 48)).heap.size = w.heap.size + 1 by simp] at hb1
  have HB0 := Lib.hid hb0
  have HB1 := Lib.hid hb1
  have HK := Lib.hid kA
  have hcw : ∀ j, j < n → ((w.alloc (.cells #[.int .i64 0, .int .u8 0, .int .u8 0, .int .u8 0, .int .u8 0, .int .u8 0, .int .u8 0, .int .u32 0, .int .u8 0, .int .u8 0, .int .u8 0, .int .u8 0, .int .u8 0, .int .u8 0, .int .u32 0] 48)).alloc (.cells #[.slice none 0 0, .int .i64 0] 28)).cell? ⟨b, o + j, none⟩ = some (.int .u8 (y j)) := fun j hj => (kA.cell (p := ⟨b, o + j, none⟩) hbl (fun f => f)).trans (hcc j hj)
  have HX := Lib.hid (hx.kp kA (fun _ _ _ f => f))
  have HY := Lib.hid hy
  have HLT := Lib.hid hlt
  have HWS := Lib.hid (show ((w.alloc (.cells #[.int .i64 0, .int .u8 0, .int .u8 0, .int .u8 0, .int .u8 0, .int .u8 0, .int .u8 0, .int .u32 0, .int .u8 0, .int .u8 0, .int .u8 0, .int .u8 0, .int .u8 0, .int .u8 0, .int .u32 0] 48)).alloc (.cells #[.slice none 0 0, .int .i64 0] 28)).heap.size = w.heap.size + 2 by simp)
  have hsp : ((strOfNums (xs.take 6)).toList == (strOfNums [0, 1, 8, 0, 6, 4]).toList) = true := by rw [strOfNums_eq _ _ (byt_take hb 6) (byt_of _ (by decide))]; exact hp
  have hl6 : (xs.take 6).length = 6 := by rw [List.length_take]; omega
  have HL6 := Lib.hid hl6
  obtain ⟨SA, hSA⟩ : ∃ s, strOfNums (xs.take 6) = s := ⟨_, rfl⟩
  obtain ⟨SB, hSB⟩ : ∃ s, strOfNums [0, 1, 8, 0, 6, 4] = s := ⟨_, rfl⟩
  rw [hSA, hSB] at hsp
  have hsn : (SA.toList != SB.toList) = false := by rw [bne, hsp]; rfl
  have HSA := Lib.hid hSA
  have HSB := Lib.hid hSB
  have l6 := hlt 6
  have l7 := hlt 7
  have l8 := hlt 8
  have e1 : IntKind.i64.wrap (y 6 : Int) = y 6 := IntWalk.i64_in _ (by omega)
  have e2 : IntKind.i64.wrap (y 7 : Int) = y 7 := IntWalk.i64_in _ (by omega)
  have e3 : IntKind.i64.wrap ((y 6 : Int) * 256) = y 6 * 256 := IntWalk.i64_in _ (by omega)
  have e4 : IntKind.i64.wrap ((y 6 : Int) * 256 + y 7) = y 6 * 256 + y 7 := IntWalk.i64_in _ (by omega)
  have i6 : (6 : Int) < (n : Int) := by omega
  have i7 : (7 : Int) < (n : Int) := by omega
  have i8 : (8 : Int) < (n : Int) := by omega
  have i9 : (6 : Int) ≤ (c : Int) := by omega
  have i10 : 6 ≤ c := by omega
  have g1 : ¬ ((n : Int) < 28) := by omega
  have c6 := hcw 6 (by omega)
  have c7 := hcw 7 (by omega)
  have c8 := hcw 8 (by omega)
  have HCW := Lib.hid hcw
  have t1 : decide ((y 6 : Int) * 256 + y 7 < 1) = false := by rw [hy] at hq; exact decide_eq_false hq
  have t2 : decide (2 < (y 6 : Int) * 256 + y 7) = false := by rw [hy] at hq2; exact decide_eq_false hq2
  clear hq hq2
  have hod : ((y 8 : Int) % 2 == 1) = false := by rw [nat_val hb 8, hy] at ho; simp at ho ⊢; omega
  clear ho
  clear kA hb0 hb1 hx hb hcc hcw hy hlt hp hSA hSB hl6 hbl
  go_enter Tryd.func19, Tryd.ntmps19
  go_upto_region 3 with fail
  generalize (w.alloc (.cells #[.int .i64 0, .int .u8 0, .int .u8 0, .int .u8 0, .int .u8 0, .int .u8 0, .int .u8 0, .int .u32 0, .int .u8 0, .int .u8 0, .int .u8 0, .int .u8 0, .int .u8 0, .int .u8 0, .int .u32 0] 48)).alloc (.cells #[.slice none 0 0, .int .i64 0] 28) = w0 at *
  go_quiet (fail)
  clear c6 c7 e1 e2 e3 e4
  go_wp2_with fail
  refine wp_region_held_drew (S := (fun w' => Kp (fun _ => False) w0 w')) (by kernel_rfl) (((Kp.refl _ w0).drewN _).drew) (fun hHeld => ?_)
  have KC := Lib.hid (show Kp (fun _ => False) w0 _ from hHeld)
  refine wpAnyH_take (i := 0) (v := ?v0_50) rfl (by kernel_rfl) (by kernel_rfl) (by kernel_rfl) (fun _ _ _ h => h) (Or.inl ⟨by rfl, ?y0_50⟩) (by assumption) ?r0_50
  case y0_50 => (intro w hSw; (try dsimp only at hSw); go_simp; first | done | with_reducible rfl)
  try simp only [Act.put, List.getElem_toArray, List.getElem_cons_succ, List.getElem_cons_zero, List.setIfInBounds_toArray, List.set_cons_zero, List.set_cons_succ]
  refine wpAnyH_take (i := 1) (v := ?v1_51) rfl (by kernel_rfl) (by kernel_rfl) (by kernel_rfl) (fun _ _ _ h => h) (Or.inl ⟨by rfl, ?y1_51⟩) (by assumption) ?r1_51
  case y1_51 => (intro w hSw; (try dsimp only at hSw); go_simp; first | done | with_reducible rfl)
  try simp only [Act.put, List.getElem_toArray, List.getElem_cons_succ, List.getElem_cons_zero, List.setIfInBounds_toArray, List.set_cons_zero, List.set_cons_succ]
  refine wpAnyH_take (i := 2) (v := ?v2_52) rfl (by kernel_rfl) (by kernel_rfl) (by kernel_rfl) (fun _ _ _ h => h) (Or.inl ⟨by rfl, ?y2_52⟩) (by assumption) ?r2_52
  case y2_52 => (intro w hSw; (try dsimp only at hSw); have d2 := conv_rd ((HX.out.kp hSw (fun _ _ _ f => f)).take 6) 6 c HL6.out; rw [HSA.out] at d2; go_simp; first | done | with_reducible rfl)
  try simp only [Act.put, List.getElem_toArray, List.getElem_cons_succ, List.getElem_cons_zero, List.setIfInBounds_toArray, List.set_cons_zero, List.set_cons_succ]
  refine wpAnyH_ready (rs := [3]) (by kernel_rfl) (by simp) ?_
  refine AllReadyH.cons rfl (fun K hK => ?_) AllReadyH.nil
  go_simp
  with_reducible refine (head_any _).mono ?_
  rintro ev x3 ⟨s, rfl, own, k9⟩
  obtain ⟨a3, d3, rfl, r3⟩ := own_some own (by omega)
  have KC := Lib.hid (KC.out.trans' k9)
  have R3 := Lib.hid r3
  clear own k9 r3
  try dsimp only
  refine hK.out _ _ (KC.out) (fun hHeld => ?_)
  clear hK K
  try simp only [Act.put, List.getElem_toArray, List.getElem_cons_succ, List.getElem_cons_zero, List.setIfInBounds_toArray, List.set_cons_zero, List.set_cons_succ]
  refine wpAnyH_ready (rs := [4]) (by kernel_rfl) (by simp) ?_
  refine AllReadyH.cons rfl (fun K hK => ?_) AllReadyH.nil
  have hcv := conv_rd R3.out 6 d3 rfl
  rw [HSB.out] at hcv
  go_simp
  refine hK.out _ _ (KC.out) (fun hHeld => ?_)
  clear hK K
  try simp only [Act.put, List.getElem_toArray, List.getElem_cons_succ, List.getElem_cons_zero, List.setIfInBounds_toArray, List.set_cons_zero, List.set_cons_succ]
  clear hcv
  refine wpAnyH_take (i := 5) (v := ?v5_53) rfl (by kernel_rfl) (by kernel_rfl) (by kernel_rfl) (fun _ _ _ h => h) (Or.inl ⟨by rfl, ?y5_53⟩) (by assumption) ?r5_53
  case y5_53 => (intro w hSw; (try dsimp only at hSw); go_simp; first | done | with_reducible rfl)
  try simp only [Act.put, List.getElem_toArray, List.getElem_cons_succ, List.getElem_cons_zero, List.setIfInBounds_toArray, List.set_cons_zero, List.set_cons_succ]
  refine wpAnyH_take (i := 6) (v := ?v6_54) rfl (by kernel_rfl) (by kernel_rfl) (by kernel_rfl) (fun _ _ _ h => h) (Or.inl ⟨by rfl, ?y6_54⟩) (by assumption) ?r6_54
  case y6_54 => (intro w hSw; (try dsimp only at hSw); go_simp; first | done | with_reducible rfl)
  try simp only [Act.put, List.getElem_toArray, List.getElem_cons_succ, List.getElem_cons_zero, List.setIfInBounds_toArray, List.set_cons_zero, List.set_cons_succ]
  refine wpAnyH_take (i := 7) (v := ?v7_55) rfl (by kernel_rfl) (by kernel_rfl) (by kernel_rfl) (fun _ _ _ h => h) (Or.inl ⟨by rfl, ?y7_55⟩) (by assumption) ?r7_55
  case y7_55 => (intro w hSw; (try dsimp only at hSw); go_simp; first | done | with_reducible rfl)
  try simp only [Act.put, List.getElem_toArray, List.getElem_cons_succ, List.getElem_cons_zero, List.setIfInBounds_toArray, List.set_cons_zero, List.set_cons_succ]
  refine wpAnyH_take (i := 8) (v := ?v8_56) rfl (by kernel_rfl) (by kernel_rfl) (by kernel_rfl) (fun _ _ _ h => h) (Or.inl ⟨by rfl, ?y8_56⟩) (by assumption) ?r8_56
  case y8_56 => (intro w hSw; (try dsimp only at hSw); go_simp; first | done | with_reducible rfl)
  try simp only [Act.put, List.getElem_toArray, List.getElem_cons_succ, List.getElem_cons_zero, List.setIfInBounds_toArray, List.set_cons_zero, List.set_cons_succ]
  refine wpAnyH_take (i := 9) (v := ?v9_57) rfl (by kernel_rfl) (by kernel_rfl) (by kernel_rfl) (fun _ _ _ h => h) (Or.inl ⟨by rfl, ?y9_57⟩) (by assumption) ?r9_57
  case y9_57 => (intro w hSw; (try dsimp only at hSw); go_simp; first | done | with_reducible rfl)
  try simp only [Act.put, List.getElem_toArray, List.getElem_cons_succ, List.getElem_cons_zero, List.setIfInBounds_toArray, List.set_cons_zero, List.set_cons_succ]
  refine wpAnyH_take (i := 10) (v := ?v10_58) rfl (by kernel_rfl) (by kernel_rfl) (by kernel_rfl) (fun _ _ _ h => h) (Or.inl ⟨by rfl, ?y10_58⟩) (by assumption) ?r10_58
  case y10_58 => (intro w hSw; (try dsimp only at hSw); go_simp; first | done | with_reducible rfl)
  try simp only [Act.put, List.getElem_toArray, List.getElem_cons_succ, List.getElem_cons_zero, List.setIfInBounds_toArray, List.set_cons_zero, List.set_cons_succ]
  refine wpAnyH_take (i := 11) (v := ?v11_59) rfl (by kernel_rfl) (by kernel_rfl) (by kernel_rfl) (fun _ _ _ h => h) (Or.inl ⟨by rfl, ?y11_59⟩) (by assumption) ?r11_59
  case y11_59 => (intro w hSw; (try dsimp only at hSw); go_simp; first | done | with_reducible rfl)
  try simp only [Act.put, List.getElem_toArray, List.getElem_cons_succ, List.getElem_cons_zero, List.setIfInBounds_toArray, List.set_cons_zero, List.set_cons_succ]
  refine wpAnyH_take (i := 12) (v := ?v12_60) rfl (by kernel_rfl) (by kernel_rfl) (by kernel_rfl) (fun _ _ _ h => h) (Or.inl ⟨by rfl, ?y12_60⟩) (by assumption) ?r12_60
  case y12_60 => (intro w hSw; (try dsimp only at hSw); go_simp; first | done | with_reducible rfl)
  try simp only [Act.put, List.getElem_toArray, List.getElem_cons_succ, List.getElem_cons_zero, List.setIfInBounds_toArray, List.set_cons_zero, List.set_cons_succ]
  refine wpAnyH_take (i := 13) (v := ?v13_61) rfl (by kernel_rfl) (by kernel_rfl) (by kernel_rfl) (fun _ _ _ h => h) (Or.inl ⟨by rfl, ?y13_61⟩) (by assumption) ?r13_61
  case y13_61 => (intro w hSw; (try dsimp only at hSw); go_simp; first | done | with_reducible rfl)
  try simp only [Act.put, List.getElem_toArray, List.getElem_cons_succ, List.getElem_cons_zero, List.setIfInBounds_toArray, List.set_cons_zero, List.set_cons_succ]
  refine wpAnyH_done (by kernel_rfl) ?_ _
  have K4 := KC
  have s8 := kp_kc c8 KC.out
  go_wp2_with fail
  clear hod s8 c8
  obtain ⟨w1, hw1⟩ : ∃ x, x = x3 := ⟨_, rfl⟩
  rw [← hw1] at K4 ⊢
  clear hw1 KC R3 hHeld
  obtain ⟨ip, hip⟩ : ∃ ip, n4 y 14 = ip := ⟨_, rfl⟩
  obtain ⟨tip, htip⟩ : ∃ tip, n4 y 24 = tip := ⟨_, rfl⟩
  have q1 : ¬ (c = 14) := by omega
  have q2 : ¬ (c = 24) := by omega
  have q3 : (14 : Int) ≤ (n : Int) := by omega
  have q4 : (24 : Int) ≤ (n : Int) := by omega
  have q5 : (14 : Int) ≤ (c : Int) := by omega
  have q6 : (24 : Int) ≤ (c : Int) := by omega
  have q7 : 14 ≤ n := by omega
  have q8 : 24 ≤ n := by omega
  have hn3 : ∀ w', Kp (fun _ => False) w1 w' → Calls Tryd.prog 43 #[.slice (some ⟨b, o + 14, none⟩) (n - 14) (c - 14)] w' fun ev w'' => ev = .returned (.int .u32 ip) ∧ Kp (fun _ => False) w' w'' := fun w' hk => by
    rw [← hip]
    exact num_any b (o + 14) (n - 14) (c - 14) (y 14) (y 15) (y 16) (y 17) w' (by omega) (kp_kc (kp_kc (HCW.out 14 (by omega)) K4.out) hk) (kp_kc (kp_kc (HCW.out 15 (by omega)) K4.out) hk) (kp_kc (kp_kc (HCW.out 16 (by omega)) K4.out) hk) (kp_kc (kp_kc (HCW.out 17 (by omega)) K4.out) hk) (HLT.out 14) (HLT.out 15) (HLT.out 16) (HLT.out 17)
  have hn6 : ∀ w', Kp (fun _ => False) w1 w' → Calls Tryd.prog 43 #[.slice (some ⟨b, o + 24, none⟩) (n - 24) (c - 24)] w' fun ev w'' => ev = .returned (.int .u32 tip) ∧ Kp (fun _ => False) w' w'' := fun w' hk => by
    rw [← htip]
    exact num_any b (o + 24) (n - 24) (c - 24) (y 24) (y 25) (y 26) (y 27) w' (by omega) (kp_kc (kp_kc (HCW.out 24 (by omega)) K4.out) hk) (kp_kc (kp_kc (HCW.out 25 (by omega)) K4.out) hk) (kp_kc (kp_kc (HCW.out 26 (by omega)) K4.out) hk) (kp_kc (kp_kc (HCW.out 27 (by omega)) K4.out) hk) (HLT.out 24) (HLT.out 25) (HLT.out 26) (HLT.out 27)
  have HN3 := Lib.hid hn3
  have HN6 := Lib.hid hn6
  have HIP := Lib.hid hip
  have HTIP := Lib.hid htip
  clear hn3 hn6 hip htip
  go_cut [5] (fun s5 wx => RMid w1 #[.int .i64 (y 6 * 256 + y 7), .int .u8 0, .int .u8 0, .int .u8 0, .int .u8 0, .int .u8 0, .int .u8 0, .int .u32 ip, .int .u8 0, .int .u8 0, .int .u8 0, .int .u8 0, .int .u8 0, .int .u8 0, .int .u32 tip] s5 wx)
  case first =>
    have KC := Lib.hid ((Kp.refl (fun _ => False) w1).drew)
    refine wp_region_held_drew (S := (fun w' => Kp (fun _ => False) w1 w')) (by kernel_rfl) (KC.out) (fun hHeld => ?_)
    refine wpAnyH_take (i := 0) (v := ?v0_42) rfl (by kernel_rfl) (by kernel_rfl) (by kernel_rfl) (fun _ _ _ h => h) (Or.inl ⟨by rfl, ?y0_42⟩) (by assumption) ?r0_42
    case y0_42 => (intro w hSw; (try dsimp only at hSw); go_simp; first | done | with_reducible rfl)
    try simp only [Act.put, List.getElem_toArray, List.getElem_cons_succ, List.getElem_cons_zero, List.setIfInBounds_toArray, List.set_cons_zero, List.set_cons_succ]
    refine wpAnyH_take (i := 1) (v := ?v1_43) rfl (by kernel_rfl) (by kernel_rfl) (by kernel_rfl) (fun _ _ _ h => h) (Or.inl ⟨by rfl, ?y1_43⟩) (by assumption) ?r1_43
    case y1_43 => (intro w hSw; (try dsimp only at hSw); go_simp; first | done | with_reducible rfl)
    try simp only [Act.put, List.getElem_toArray, List.getElem_cons_succ, List.getElem_cons_zero, List.setIfInBounds_toArray, List.set_cons_zero, List.set_cons_succ]
    refine wpAnyH_take (i := 2) (v := ?v2_44) rfl (by kernel_rfl) (by kernel_rfl) (by kernel_rfl) (fun _ _ _ h => h) (Or.inl ⟨by rfl, ?y2_44⟩) (by assumption) ?r2_44
    case y2_44 => (intro w hSw; (try dsimp only at hSw); go_simp; first | done | with_reducible rfl)
    try simp only [Act.put, List.getElem_toArray, List.getElem_cons_succ, List.getElem_cons_zero, List.setIfInBounds_toArray, List.set_cons_zero, List.set_cons_succ]
    refine wpAnyH_take (i := 4) (v := ?v4_45) rfl (by kernel_rfl) (by kernel_rfl) (by kernel_rfl) (fun _ _ _ h => h) (Or.inl ⟨by rfl, ?y4_45⟩) (by assumption) ?r4_45
    case y4_45 => (intro w hSw; (try dsimp only at hSw); go_simp; first | done | with_reducible rfl)
    try simp only [Act.put, List.getElem_toArray, List.getElem_cons_succ, List.getElem_cons_zero, List.setIfInBounds_toArray, List.set_cons_zero, List.set_cons_succ]
    refine wpAnyH_take (i := 5) (v := ?v5_46) rfl (by kernel_rfl) (by kernel_rfl) (by kernel_rfl) (fun _ _ _ h => h) (Or.inl ⟨by rfl, ?y5_46⟩) (by assumption) ?r5_46
    case y5_46 => (intro w hSw; (try dsimp only at hSw); go_simp; first | done | with_reducible rfl)
    try simp only [Act.put, List.getElem_toArray, List.getElem_cons_succ, List.getElem_cons_zero, List.setIfInBounds_toArray, List.set_cons_zero, List.set_cons_succ]
    refine wpAnyH_ready (rs := [3, 8]) (by kernel_rfl) (by simp) ?_
    refine AllReadyH.cons rfl (fun K hK => ?_) ?_
    · go_simp
      with_reducible refine (HN3.out _ (by exact KC.out)).mono ?_
      rintro ev x3 ⟨rfl, k9⟩
      have KC := Lib.hid (KC.out.trans' k9)
      clear k9
      try dsimp only
      refine hK.out _ _ (KC.out) (fun hHeld => ?_)
      clear hK K
      try simp only [Act.put, List.getElem_toArray, List.getElem_cons_succ, List.getElem_cons_zero, List.setIfInBounds_toArray, List.set_cons_zero, List.set_cons_succ]
      refine wpAnyH_ready (rs := [6, 8]) (by kernel_rfl) (by simp) ?_
      refine AllReadyH.cons rfl (fun K hK => ?_) ?_
      · go_simp
        with_reducible refine (HN6.out _ (by exact KC.out)).mono ?_
        rintro ev x6 ⟨rfl, k9⟩
        have KC := Lib.hid (KC.out.trans' k9)
        clear k9
        try dsimp only
        refine hK.out _ _ (KC.out) (fun hHeld => ?_)
        clear hK K
        try simp only [Act.put, List.getElem_toArray, List.getElem_cons_succ, List.getElem_cons_zero, List.setIfInBounds_toArray, List.set_cons_zero, List.set_cons_succ]
        refine wpAnyH_take (i := 7) (v := ?v7_47) rfl (by kernel_rfl) (by kernel_rfl) (by kernel_rfl) (fun _ _ _ h => h) (Or.inl ⟨by rfl, ?y7_47⟩) (by assumption) ?r7_47
        case y7_47 => (intro w hSw; (try dsimp only at hSw); go_simp; first | done | with_reducible rfl)
        try simp only [Act.put, List.getElem_toArray, List.getElem_cons_succ, List.getElem_cons_zero, List.setIfInBounds_toArray, List.set_cons_zero, List.set_cons_succ]
        refine wpAnyH_ready (rs := [8]) (by kernel_rfl) (by simp) ?_
        refine AllReadyH.cons rfl (fun K hK => ?_) AllReadyH.nil
        go_simp
        have HG := Lib.hid KC.out.size
        have HA := Lib.hid (Bk.new x6 48 #[.int .i64 0, .int .u8 0, .int .u8 0, .int .u8 0, .int .u8 0, .int .u8 0, .int .u8 0, .int .u32 0, .int .u8 0, .int .u8 0, .int .u8 0, .int .u8 0, .int .u8 0, .int .u8 0, .int .u32 0])
        have KC := Lib.hid (KC.out.alloc (.cells #[.int .i64 0, .int .u8 0, .int .u8 0, .int .u8 0, .int .u8 0, .int .u8 0, .int .u8 0, .int .u32 0, .int .u8 0, .int .u8 0, .int .u8 0, .int .u8 0, .int .u8 0, .int .u8 0, .int .u32 0] 48))
        refine hK.out _ _ (KC.out) (fun hHeld => ?_)
        clear hK K
        try simp only [Act.put, List.getElem_toArray, List.getElem_cons_succ, List.getElem_cons_zero, List.setIfInBounds_toArray, List.set_cons_zero, List.set_cons_succ]
        refine wpAnyH_ready (rs := [9]) (by kernel_rfl) (by simp) ?_
        refine AllReadyH.cons rfl (fun K hK => ?_) AllReadyH.nil
        rw [if_pos (by rfl)]
        refine wp_store_row 48 (.tmp 5) (.tmp 52) (by rfl) (x6.heap.size) #[.int .i64 (y 6 * 256 + y 7), .int .u8 0, .int .u8 0, .int .u8 0, .int .u8 0, .int .u8 0, .int .u8 0, .int .u32 ip, .int .u8 0, .int .u8 0, .int .u8 0, .int .u8 0, .int .u8 0, .int .u8 0, .int .u32 tip] (by rfl) (by rfl) 48 #[.int .i64 0, .int .u8 0, .int .u8 0, .int .u8 0, .int .u8 0, .int .u8 0, .int .u8 0, .int .u32 0, .int .u8 0, .int .u8 0, .int .u8 0, .int .u8 0, .int .u8 0, .int .u8 0, .int .u32 0] HA.out hi48 rfl (by simp [Value.oneCell']) ?_
        have KC := Lib.hid (KC.out.setRow (.inr HG.out) #[.int .i64 (y 6 * 256 + y 7), .int .u8 0, .int .u8 0, .int .u8 0, .int .u8 0, .int .u8 0, .int .u8 0, .int .u32 ip, .int .u8 0, .int .u8 0, .int .u8 0, .int .u8 0, .int .u8 0, .int .u8 0, .int .u32 tip])
        refine hK.out _ _ (KC.out) (fun hHeld => ?_)
        clear hK K
        try simp only [Act.put, List.getElem_toArray, List.getElem_cons_succ, List.getElem_cons_zero, List.setIfInBounds_toArray, List.set_cons_zero, List.set_cons_succ]
        refine wpAnyH_done (by kernel_rfl) ?_ _
        go_wp2_with fail
        go_meet
        exact ⟨x6.heap.size, rfl, HG.out, HA.out.setRow _, KC.out⟩
      refine AllReadyH.cons rfl (fun K hK => ?_) AllReadyH.nil
      go_simp
      have HG := Lib.hid KC.out.size
      have HA := Lib.hid (Bk.new x3 48 #[.int .i64 0, .int .u8 0, .int .u8 0, .int .u8 0, .int .u8 0, .int .u8 0, .int .u8 0, .int .u32 0, .int .u8 0, .int .u8 0, .int .u8 0, .int .u8 0, .int .u8 0, .int .u8 0, .int .u32 0])
      have KC := Lib.hid (KC.out.alloc (.cells #[.int .i64 0, .int .u8 0, .int .u8 0, .int .u8 0, .int .u8 0, .int .u8 0, .int .u8 0, .int .u32 0, .int .u8 0, .int .u8 0, .int .u8 0, .int .u8 0, .int .u8 0, .int .u8 0, .int .u32 0] 48))
      refine hK.out _ _ (KC.out) (fun hHeld => ?_)
      clear hK K
      try simp only [Act.put, List.getElem_toArray, List.getElem_cons_succ, List.getElem_cons_zero, List.setIfInBounds_toArray, List.set_cons_zero, List.set_cons_succ]
      refine wpAnyH_ready (rs := [6]) (by kernel_rfl) (by simp) ?_
      refine AllReadyH.cons rfl (fun K hK => ?_) AllReadyH.nil
      go_simp
      with_reducible refine (HN6.out _ (by exact KC.out)).mono ?_
      rintro ev x6 ⟨rfl, k9⟩
      have KC := Lib.hid (KC.out.trans' k9)
      have HA := Lib.hid (HA.out.kept k9 (fun f => f))
      clear k9
      try dsimp only
      refine hK.out _ _ (KC.out) (fun hHeld => ?_)
      clear hK K
      try simp only [Act.put, List.getElem_toArray, List.getElem_cons_succ, List.getElem_cons_zero, List.setIfInBounds_toArray, List.set_cons_zero, List.set_cons_succ]
      refine wpAnyH_take (i := 7) (v := ?v7_48) rfl (by kernel_rfl) (by kernel_rfl) (by kernel_rfl) (fun _ _ _ h => h) (Or.inl ⟨by rfl, ?y7_48⟩) (by assumption) ?r7_48
      case y7_48 => (intro w hSw; (try dsimp only at hSw); go_simp; first | done | with_reducible rfl)
      try simp only [Act.put, List.getElem_toArray, List.getElem_cons_succ, List.getElem_cons_zero, List.setIfInBounds_toArray, List.set_cons_zero, List.set_cons_succ]
      refine wpAnyH_ready (rs := [9]) (by kernel_rfl) (by simp) ?_
      refine AllReadyH.cons rfl (fun K hK => ?_) AllReadyH.nil
      rw [if_pos (by rfl)]
      refine wp_store_row 48 (.tmp 5) (.tmp 52) (by rfl) (x3.heap.size) #[.int .i64 (y 6 * 256 + y 7), .int .u8 0, .int .u8 0, .int .u8 0, .int .u8 0, .int .u8 0, .int .u8 0, .int .u32 ip, .int .u8 0, .int .u8 0, .int .u8 0, .int .u8 0, .int .u8 0, .int .u8 0, .int .u32 tip] (by rfl) (by rfl) 48 #[.int .i64 0, .int .u8 0, .int .u8 0, .int .u8 0, .int .u8 0, .int .u8 0, .int .u8 0, .int .u32 0, .int .u8 0, .int .u8 0, .int .u8 0, .int .u8 0, .int .u8 0, .int .u8 0, .int .u32 0] HA.out hi48 rfl (by simp [Value.oneCell']) ?_
      have KC := Lib.hid (KC.out.setRow (.inr HG.out) #[.int .i64 (y 6 * 256 + y 7), .int .u8 0, .int .u8 0, .int .u8 0, .int .u8 0, .int .u8 0, .int .u8 0, .int .u32 ip, .int .u8 0, .int .u8 0, .int .u8 0, .int .u8 0, .int .u8 0, .int .u8 0, .int .u32 tip])
      refine hK.out _ _ (KC.out) (fun hHeld => ?_)
      clear hK K
      try simp only [Act.put, List.getElem_toArray, List.getElem_cons_succ, List.getElem_cons_zero, List.setIfInBounds_toArray, List.set_cons_zero, List.set_cons_succ]
      refine wpAnyH_done (by kernel_rfl) ?_ _
      go_wp2_with fail
      go_meet
      exact ⟨x3.heap.size, rfl, HG.out, HA.out.setRow _, KC.out⟩
    refine AllReadyH.cons rfl (fun K hK => ?_) AllReadyH.nil
    go_simp
    have HG := Lib.hid KC.out.size
    have HA := Lib.hid (Bk.new w1 48 #[.int .i64 0, .int .u8 0, .int .u8 0, .int .u8 0, .int .u8 0, .int .u8 0, .int .u8 0, .int .u32 0, .int .u8 0, .int .u8 0, .int .u8 0, .int .u8 0, .int .u8 0, .int .u8 0, .int .u32 0]).drew
    have KC := Lib.hid (((Kp.refl (fun _ => False) w1).alloc (.cells #[.int .i64 0, .int .u8 0, .int .u8 0, .int .u8 0, .int .u8 0, .int .u8 0, .int .u8 0, .int .u32 0, .int .u8 0, .int .u8 0, .int .u8 0, .int .u8 0, .int .u8 0, .int .u8 0, .int .u32 0] 48)).drew)
    refine hK.out _ _ (KC.out) (fun hHeld => ?_)
    clear hK K
    try simp only [Act.put, List.getElem_toArray, List.getElem_cons_succ, List.getElem_cons_zero, List.setIfInBounds_toArray, List.set_cons_zero, List.set_cons_succ]
    refine wpAnyH_ready (rs := [3]) (by kernel_rfl) (by simp) ?_
    refine AllReadyH.cons rfl (fun K hK => ?_) AllReadyH.nil
    go_simp
    with_reducible refine (HN3.out _ (by exact KC.out)).mono ?_
    rintro ev x3 ⟨rfl, k9⟩
    have KC := Lib.hid (KC.out.trans' k9)
    have HA := Lib.hid (HA.out.kept k9 (fun f => f))
    clear k9
    try dsimp only
    refine hK.out _ _ (KC.out) (fun hHeld => ?_)
    clear hK K
    try simp only [Act.put, List.getElem_toArray, List.getElem_cons_succ, List.getElem_cons_zero, List.setIfInBounds_toArray, List.set_cons_zero, List.set_cons_succ]
    refine wpAnyH_ready (rs := [6]) (by kernel_rfl) (by simp) ?_
    refine AllReadyH.cons rfl (fun K hK => ?_) AllReadyH.nil
    go_simp
    with_reducible refine (HN6.out _ (by exact KC.out)).mono ?_
    rintro ev x6 ⟨rfl, k9⟩
    have KC := Lib.hid (KC.out.trans' k9)
    have HA := Lib.hid (HA.out.kept k9 (fun f => f))
    clear k9
    try dsimp only
    refine hK.out _ _ (KC.out) (fun hHeld => ?_)
    clear hK K
    try simp only [Act.put, List.getElem_toArray, List.getElem_cons_succ, List.getElem_cons_zero, List.setIfInBounds_toArray, List.set_cons_zero, List.set_cons_succ]
    refine wpAnyH_take (i := 7) (v := ?v7_49) rfl (by kernel_rfl) (by kernel_rfl) (by kernel_rfl) (fun _ _ _ h => h) (Or.inl ⟨by rfl, ?y7_49⟩) (by assumption) ?r7_49
    case y7_49 => (intro w hSw; (try dsimp only at hSw); go_simp; first | done | with_reducible rfl)
    try simp only [Act.put, List.getElem_toArray, List.getElem_cons_succ, List.getElem_cons_zero, List.setIfInBounds_toArray, List.set_cons_zero, List.set_cons_succ]
    refine wpAnyH_ready (rs := [9]) (by kernel_rfl) (by simp) ?_
    refine AllReadyH.cons rfl (fun K hK => ?_) AllReadyH.nil
    rw [if_pos (by rfl)]
    refine wp_store_row 48 (.tmp 5) (.tmp 52) (by rfl) (w1.heap.size) #[.int .i64 (y 6 * 256 + y 7), .int .u8 0, .int .u8 0, .int .u8 0, .int .u8 0, .int .u8 0, .int .u8 0, .int .u32 ip, .int .u8 0, .int .u8 0, .int .u8 0, .int .u8 0, .int .u8 0, .int .u8 0, .int .u32 tip] (by rfl) (by rfl) 48 #[.int .i64 0, .int .u8 0, .int .u8 0, .int .u8 0, .int .u8 0, .int .u8 0, .int .u8 0, .int .u32 0, .int .u8 0, .int .u8 0, .int .u8 0, .int .u8 0, .int .u8 0, .int .u8 0, .int .u32 0] HA.out hi48 rfl (by simp [Value.oneCell']) ?_
    have KC := Lib.hid (KC.out.setRow (.inr HG.out) #[.int .i64 (y 6 * 256 + y 7), .int .u8 0, .int .u8 0, .int .u8 0, .int .u8 0, .int .u8 0, .int .u8 0, .int .u32 ip, .int .u8 0, .int .u8 0, .int .u8 0, .int .u8 0, .int .u8 0, .int .u8 0, .int .u32 tip])
    refine hK.out _ _ (KC.out) (fun hHeld => ?_)
    clear hK K
    try simp only [Act.put, List.getElem_toArray, List.getElem_cons_succ, List.getElem_cons_zero, List.setIfInBounds_toArray, List.set_cons_zero, List.set_cons_succ]
    refine wpAnyH_done (by kernel_rfl) ?_ _
    go_wp2_with fail
    go_meet
    exact ⟨w1.heap.size, rfl, HG.out, HA.out.setRow _, KC.out⟩
  case rest =>
    obtain ⟨g, rfl, hg, hbg, hkw⟩ := hcut
    have hsz : w.heap.size + 2 ≤ w1.heap.size := by have := K4.out.size; have := HWS.out; omega
    have hbl : b < w0.heap.size := World.block_lt_of_cell? w0 _ (HCW.out 0 (by omega))
    have hs0 := K4.out.size
    have ne1 : b ≠ g := by omega
    have ne2 : g ≠ b := by omega
    have hcb : ∀ W, Kp (fun v => v = g) wc W → ∀ j, j < 24 → W.cell? ⟨b, o + j, none⟩ = some (.int .u8 (y j)) := fun W hk j hj => by
      rw [← HCW.out j (by omega)]
      exact (hk.cell (p := ⟨b, o + j, none⟩) (by have := hkw.size; show b < _; omega) (fun h => ne1 h)).trans ((K4.out.trans' hkw).cell (p := ⟨b, o + j, none⟩) hbl (fun f => f))
    have HCB := Lib.hid hcb
    have HG0 : Hid (Bk wc g 48 #[.int .i64 (y 6 * 256 + y 7), .int .u8 0, .int .u8 0, .int .u8 0, .int .u8 0, .int .u8 0, .int .u8 0, .int .u32 ip, .int .u8 0, .int .u8 0, .int .u8 0, .int .u8 0, .int .u8 0, .int .u8 0, .int .u32 tip]) := Lib.hid hbg
    have KW0 := Lib.hid (Kp.refl (fun v => v = g) wc)
    have HKW := Lib.hid (K4.out.trans' hkw)
    clear hbg hkw hcb q1 q2 q3 q4 q5 q6 q7 q8
    have j8 : (8 : Int) < (n : Int) := by omega
    have j9 : (9 : Int) < (n : Int) := by omega
    have j10 : (10 : Int) < (n : Int) := by omega
    have j11 : (11 : Int) < (n : Int) := by omega
    have j12 : (12 : Int) < (n : Int) := by omega
    have j13 : (13 : Int) < (n : Int) := by omega
    have j14 : (14 : Int) < (n : Int) := by omega
    have j15 : (15 : Int) < (n : Int) := by omega
    have j16 : (16 : Int) < (n : Int) := by omega
    have j17 : (17 : Int) < (n : Int) := by omega
    have j18 : (18 : Int) < (n : Int) := by omega
    have j19 : (19 : Int) < (n : Int) := by omega
    have j20 : (20 : Int) < (n : Int) := by omega
    have j21 : (21 : Int) < (n : Int) := by omega
    have j22 : (22 : Int) < (n : Int) := by omega
    have j23 : (23 : Int) < (n : Int) := by omega
    go_wp2_with fail
    refine wp_loop_rounds 7 ?_
    rw [rounds_succ]
    have ca : wc.cell? ⟨b, o + 8, none⟩ = some (Value.int IntKind.u8 (y 8)) := HCB.out _ KW0.out 8 (by omega)
    have cb : wc.cell? ⟨b, o + 18, none⟩ = some (Value.int IntKind.u8 (y 18)) := HCB.out _ KW0.out 18 (by omega)
    have qa : wc.cell? ⟨g, 1, none⟩ = some (Value.int IntKind.u8 0) := HG0.out.cell 1
    have qb : wc.cell? ⟨g, 8, none⟩ = some (Value.int IntKind.u8 0) := HG0.out.cell 8
    have fa : wc.frozen? ⟨g, 1, none⟩ = false := HG0.out.frozen 1
    have fb : wc.frozen? ⟨g, 8, none⟩ = false := HG0.out.frozen 8
    go_wp2_with fail
    have hgn := (HG0.out.put 1 (.int .u8 (y 8))).put 8 (.int .u8 (y 18))
    simp only [List.setIfInBounds_toArray, List.set_cons_zero, List.set_cons_succ] at hgn
    have kwn := (KW0.out.setCell (p := ⟨g, 1, none⟩) (Or.inl rfl) (.int .u8 (y 8))).setCell (p := ⟨g, 8, none⟩) (Or.inl rfl) (.int .u8 (y 18))
    clear ca cb qa qb fa fb
    generalize (wc.setCell ⟨g, 1, none⟩ (.int .u8 (y 8))).setCell ⟨g, 8, none⟩ (.int .u8 (y 18)) = W1 at *
    have HG1 := Lib.hid hgn
    have KW1 := Lib.hid kwn
    clear hgn kwn HG0 KW0
    rw [rounds_succ]
    have ca : W1.cell? ⟨b, o + 9, none⟩ = some (Value.int IntKind.u8 (y 9)) := HCB.out _ KW1.out 9 (by omega)
    have cb : W1.cell? ⟨b, o + 19, none⟩ = some (Value.int IntKind.u8 (y 19)) := HCB.out _ KW1.out 19 (by omega)
    have qa : W1.cell? ⟨g, 2, none⟩ = some (Value.int IntKind.u8 0) := HG1.out.cell 2
    have qb : W1.cell? ⟨g, 9, none⟩ = some (Value.int IntKind.u8 0) := HG1.out.cell 9
    have fa : W1.frozen? ⟨g, 2, none⟩ = false := HG1.out.frozen 2
    have fb : W1.frozen? ⟨g, 9, none⟩ = false := HG1.out.frozen 9
    go_wp2_with fail
    have hgn := (HG1.out.put 2 (.int .u8 (y 9))).put 9 (.int .u8 (y 19))
    simp only [List.setIfInBounds_toArray, List.set_cons_zero, List.set_cons_succ] at hgn
    have kwn := (KW1.out.setCell (p := ⟨g, 2, none⟩) (Or.inl rfl) (.int .u8 (y 9))).setCell (p := ⟨g, 9, none⟩) (Or.inl rfl) (.int .u8 (y 19))
    clear ca cb qa qb fa fb
    generalize (W1.setCell ⟨g, 2, none⟩ (.int .u8 (y 9))).setCell ⟨g, 9, none⟩ (.int .u8 (y 19)) = W2 at *
    have HG2 := Lib.hid hgn
    have KW2 := Lib.hid kwn
    clear hgn kwn HG1 KW1
    rw [rounds_succ]
    have ca : W2.cell? ⟨b, o + 10, none⟩ = some (Value.int IntKind.u8 (y 10)) := HCB.out _ KW2.out 10 (by omega)
    have cb : W2.cell? ⟨b, o + 20, none⟩ = some (Value.int IntKind.u8 (y 20)) := HCB.out _ KW2.out 20 (by omega)
    have qa : W2.cell? ⟨g, 3, none⟩ = some (Value.int IntKind.u8 0) := HG2.out.cell 3
    have qb : W2.cell? ⟨g, 10, none⟩ = some (Value.int IntKind.u8 0) := HG2.out.cell 10
    have fa : W2.frozen? ⟨g, 3, none⟩ = false := HG2.out.frozen 3
    have fb : W2.frozen? ⟨g, 10, none⟩ = false := HG2.out.frozen 10
    go_wp2_with fail
    have hgn := (HG2.out.put 3 (.int .u8 (y 10))).put 10 (.int .u8 (y 20))
    simp only [List.setIfInBounds_toArray, List.set_cons_zero, List.set_cons_succ] at hgn
    have kwn := (KW2.out.setCell (p := ⟨g, 3, none⟩) (Or.inl rfl) (.int .u8 (y 10))).setCell (p := ⟨g, 10, none⟩) (Or.inl rfl) (.int .u8 (y 20))
    clear ca cb qa qb fa fb
    generalize (W2.setCell ⟨g, 3, none⟩ (.int .u8 (y 10))).setCell ⟨g, 10, none⟩ (.int .u8 (y 20)) = W3 at *
    have HG3 := Lib.hid hgn
    have KW3 := Lib.hid kwn
    clear hgn kwn HG2 KW2
    rw [rounds_succ]
    have ca : W3.cell? ⟨b, o + 11, none⟩ = some (Value.int IntKind.u8 (y 11)) := HCB.out _ KW3.out 11 (by omega)
    have cb : W3.cell? ⟨b, o + 21, none⟩ = some (Value.int IntKind.u8 (y 21)) := HCB.out _ KW3.out 21 (by omega)
    have qa : W3.cell? ⟨g, 4, none⟩ = some (Value.int IntKind.u8 0) := HG3.out.cell 4
    have qb : W3.cell? ⟨g, 11, none⟩ = some (Value.int IntKind.u8 0) := HG3.out.cell 11
    have fa : W3.frozen? ⟨g, 4, none⟩ = false := HG3.out.frozen 4
    have fb : W3.frozen? ⟨g, 11, none⟩ = false := HG3.out.frozen 11
    go_wp2_with fail
    have hgn := (HG3.out.put 4 (.int .u8 (y 11))).put 11 (.int .u8 (y 21))
    simp only [List.setIfInBounds_toArray, List.set_cons_zero, List.set_cons_succ] at hgn
    have kwn := (KW3.out.setCell (p := ⟨g, 4, none⟩) (Or.inl rfl) (.int .u8 (y 11))).setCell (p := ⟨g, 11, none⟩) (Or.inl rfl) (.int .u8 (y 21))
    clear ca cb qa qb fa fb
    generalize (W3.setCell ⟨g, 4, none⟩ (.int .u8 (y 11))).setCell ⟨g, 11, none⟩ (.int .u8 (y 21)) = W4 at *
    have HG4 := Lib.hid hgn
    have KW4 := Lib.hid kwn
    clear hgn kwn HG3 KW3
    rw [rounds_succ]
    have ca : W4.cell? ⟨b, o + 12, none⟩ = some (Value.int IntKind.u8 (y 12)) := HCB.out _ KW4.out 12 (by omega)
    have cb : W4.cell? ⟨b, o + 22, none⟩ = some (Value.int IntKind.u8 (y 22)) := HCB.out _ KW4.out 22 (by omega)
    have qa : W4.cell? ⟨g, 5, none⟩ = some (Value.int IntKind.u8 0) := HG4.out.cell 5
    have qb : W4.cell? ⟨g, 12, none⟩ = some (Value.int IntKind.u8 0) := HG4.out.cell 12
    have fa : W4.frozen? ⟨g, 5, none⟩ = false := HG4.out.frozen 5
    have fb : W4.frozen? ⟨g, 12, none⟩ = false := HG4.out.frozen 12
    go_wp2_with fail
    have hgn := (HG4.out.put 5 (.int .u8 (y 12))).put 12 (.int .u8 (y 22))
    simp only [List.setIfInBounds_toArray, List.set_cons_zero, List.set_cons_succ] at hgn
    have kwn := (KW4.out.setCell (p := ⟨g, 5, none⟩) (Or.inl rfl) (.int .u8 (y 12))).setCell (p := ⟨g, 12, none⟩) (Or.inl rfl) (.int .u8 (y 22))
    clear ca cb qa qb fa fb
    generalize (W4.setCell ⟨g, 5, none⟩ (.int .u8 (y 12))).setCell ⟨g, 12, none⟩ (.int .u8 (y 22)) = W5 at *
    have HG5 := Lib.hid hgn
    have KW5 := Lib.hid kwn
    clear hgn kwn HG4 KW4
    rw [rounds_succ]
    have ca : W5.cell? ⟨b, o + 13, none⟩ = some (Value.int IntKind.u8 (y 13)) := HCB.out _ KW5.out 13 (by omega)
    have cb : W5.cell? ⟨b, o + 23, none⟩ = some (Value.int IntKind.u8 (y 23)) := HCB.out _ KW5.out 23 (by omega)
    have qa : W5.cell? ⟨g, 6, none⟩ = some (Value.int IntKind.u8 0) := HG5.out.cell 6
    have qb : W5.cell? ⟨g, 13, none⟩ = some (Value.int IntKind.u8 0) := HG5.out.cell 13
    have fa : W5.frozen? ⟨g, 6, none⟩ = false := HG5.out.frozen 6
    have fb : W5.frozen? ⟨g, 13, none⟩ = false := HG5.out.frozen 13
    go_wp2_with fail
    have hgn := (HG5.out.put 6 (.int .u8 (y 13))).put 13 (.int .u8 (y 23))
    simp only [List.setIfInBounds_toArray, List.set_cons_zero, List.set_cons_succ] at hgn
    have kwn := (KW5.out.setCell (p := ⟨g, 6, none⟩) (Or.inl rfl) (.int .u8 (y 13))).setCell (p := ⟨g, 13, none⟩) (Or.inl rfl) (.int .u8 (y 23))
    clear ca cb qa qb fa fb
    generalize (W5.setCell ⟨g, 6, none⟩ (.int .u8 (y 13))).setCell ⟨g, 13, none⟩ (.int .u8 (y 23)) = W6 at *
    have HG6 := Lib.hid hgn
    have KW6 := Lib.hid kwn
    clear hgn kwn HG5 KW5
    rw [rounds_succ]
    have r0 : W6.cell? ⟨g, 0, none⟩ = some (Value.int .i64 (y 6 * 256 + y 7)) := HG6.out.cell 0
    have r1 : W6.cell? ⟨g, 1, none⟩ = some (Value.int .u8 (y 8)) := HG6.out.cell 1
    have r2 : W6.cell? ⟨g, 2, none⟩ = some (Value.int .u8 (y 9)) := HG6.out.cell 2
    have r3 : W6.cell? ⟨g, 3, none⟩ = some (Value.int .u8 (y 10)) := HG6.out.cell 3
    have r4 : W6.cell? ⟨g, 4, none⟩ = some (Value.int .u8 (y 11)) := HG6.out.cell 4
    have r5 : W6.cell? ⟨g, 5, none⟩ = some (Value.int .u8 (y 12)) := HG6.out.cell 5
    have r6 : W6.cell? ⟨g, 6, none⟩ = some (Value.int .u8 (y 13)) := HG6.out.cell 6
    have r7 : W6.cell? ⟨g, 7, none⟩ = some (Value.int .u32 ip) := HG6.out.cell 7
    have r8 : W6.cell? ⟨g, 8, none⟩ = some (Value.int .u8 (y 18)) := HG6.out.cell 8
    have r9 : W6.cell? ⟨g, 9, none⟩ = some (Value.int .u8 (y 19)) := HG6.out.cell 9
    have r10 : W6.cell? ⟨g, 10, none⟩ = some (Value.int .u8 (y 20)) := HG6.out.cell 10
    have r11 : W6.cell? ⟨g, 11, none⟩ = some (Value.int .u8 (y 21)) := HG6.out.cell 11
    have r12 : W6.cell? ⟨g, 12, none⟩ = some (Value.int .u8 (y 22)) := HG6.out.cell 12
    have r13 : W6.cell? ⟨g, 13, none⟩ = some (Value.int .u8 (y 23)) := HG6.out.cell 13
    have r14 : W6.cell? ⟨g, 14, none⟩ = some (Value.int .u32 tip) := HG6.out.cell 14
    have kgw : Kp (fun _ => False) w0 W6 := HKW.out.trans KW6.out (fun v hv h => by subst h; omega)
    have hbr := HB0.out.kept kgw (fun f => f)
    have hbr1 := HB1.out.kept kgw (fun f => f)
    have kS := Kp.setRow (S := fun v => v = w.heap.size) (Kp.refl _ W6) (.inl rfl) #[.int .i64 (y 6 * 256 + y 7), .int .u8 (y 8), .int .u8 (y 9), .int .u8 (y 10), .int .u8 (y 11), .int .u8 (y 12), .int .u8 (y 13), .int .u32 ip, .int .u8 (y 18), .int .u8 (y 19), .int .u8 (y 20), .int .u8 (y 21), .int .u8 (y 22), .int .u8 (y 23), .int .u32 tip]
    have hbr1' := hbr1.kept kS (by show ¬ w.heap.size + 1 = w.heap.size; omega)
    have kS2 := Kp.setRow (S := fun v => v = w.heap.size + 1) (Kp.refl _ (W6.setRow w.heap.size #[.int .i64 (y 6 * 256 + y 7), .int .u8 (y 8), .int .u8 (y 9), .int .u8 (y 10), .int .u8 (y 11), .int .u8 (y 12), .int .u8 (y 13), .int .u32 ip, .int .u8 (y 18), .int .u8 (y 19), .int .u8 (y 20), .int .u8 (y 21), .int .u8 (y 22), .int .u8 (y 23), .int .u32 tip])) (.inl rfl) #[.slice none 0 0, .int .i64 0]
    have hbr' := (hbr.setRow #[.int .i64 (y 6 * 256 + y 7), .int .u8 (y 8), .int .u8 (y 9), .int .u8 (y 10), .int .u8 (y 11), .int .u8 (y 12), .int .u8 (y 13), .int .u32 ip, .int .u8 (y 18), .int .u8 (y 19), .int .u8 (y 20), .int .u8 (y 21), .int .u8 (y 22), .int .u8 (y 23), .int .u32 tip]).kept kS2 (by show ¬ w.heap.size = w.heap.size + 1; omega)
    have K7 := Lib.hid (((HK.out.trans' kgw).setRow (g := w.heap.size) (.inr (Nat.le_refl _)) #[.int .i64 (y 6 * 256 + y 7), .int .u8 (y 8), .int .u8 (y 9), .int .u8 (y 10), .int .u8 (y 11), .int .u8 (y 12), .int .u8 (y 13), .int .u32 ip, .int .u8 (y 18), .int .u8 (y 19), .int .u8 (y 20), .int .u8 (y 21), .int .u8 (y 22), .int .u8 (y 23), .int .u32 tip]).setRow (g := w.heap.size + 1) (.inr (by omega)) #[.slice none 0 0, .int .i64 0])
    have HBR := Lib.hid hbr'
    clear kgw kS kS2 hbr'
    go_wp2_with
      (first
      | ((with_reducible refine gate_store (t := 48) (p := 2) (v := .tmp 73) rfl ?_)
         go_must (refine wpList_store_row (by rfl) 48 (.tmp 2) (.tmp 73) (by rfl) w.heap.size #[.int .i64 (y 6 * 256 + y 7), .int .u8 (y 8), .int .u8 (y 9), .int .u8 (y 10), .int .u8 (y 11), .int .u8 (y 12), .int .u8 (y 13), .int .u32 ip, .int .u8 (y 18), .int .u8 (y 19), .int .u8 (y 20), .int .u8 (y 21), .int .u8 (y 22), .int .u8 (y 23), .int .u32 tip] (by rfl) (by rfl) 48 #[.int .i64 0, .int .u8 0, .int .u8 0, .int .u8 0, .int .u8 0, .int .u8 0, .int .u8 0, .int .u32 0, .int .u8 0, .int .u8 0, .int .u8 0, .int .u8 0, .int .u8 0, .int .u8 0, .int .u32 0] hbr hi48 rfl (by simp [Value.oneCell']) ?_))
      | ((with_reducible refine gate_store (t := 28) (p := 3) (v := .tmp 74) rfl ?_)
         go_must (refine wpList_store_row (by rfl) 28 (.tmp 3) (.tmp 74) (by rfl) (w.heap.size + 1) #[.slice none 0 0, .int .i64 0] (by rfl) (by rfl) 28 #[.slice none 0 0, .int .i64 0] hbr1' hi28s rfl (by simp [Value.oneCell']) ?_)))
    refine bodyPost_ret (results_cc rfl _ _ w.heap.size (w.heap.size + 1) 48 28 #[.int .i64 (y 6 * 256 + y 7), .int .u8 (y 8), .int .u8 (y 9), .int .u8 (y 10), .int .u8 (y 11), .int .u8 (y 12), .int .u8 (y 13), .int .u32 ip, .int .u8 (y 18), .int .u8 (y 19), .int .u8 (y 20), .int .u8 (y 21), .int .u8 (y 22), .int .u8 (y 23), .int .u32 tip] #[.slice none 0 0, .int .i64 0] (0, 0) (0, 0) _ _ rfl HBR.out Tryd.underlying48 rfl hi48 rfl (hbr1'.setRow _) Tryd.underlying28 rfl hi28s) rfl ?_
    refine ⟨?_, K7.out⟩
    unfold pktOf
    rw [HY.out, HIP.out, HTIP.out]
    rfl
end Go.Proofs.YtfhhmehlkjaibaaDoor
