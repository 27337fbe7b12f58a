/- Ether: use.Own of bytes; the reference's Same. Ether: the law's Of. Ether: the law's Is. Ether: the reference's Bytes. Ether: the reference's Parse. -/
import Derived.Test.YtconpcnmccmbiaaDoorFa
import Derived.Deep.RegionHeld3
import Derived.Test.YtconpcnmccmbiaaDoorWm
import Derived.Test.YtconpcnmccmbiaaDoorWj
import Derived.Deep.DeepCutAuto
set_option linter.unusedVariables false
set_option linter.unusedSimpArgs false
namespace Go.Proofs.YtconpcnmccmbiaaDoor
open Go.RowKit

set_option maxRecDepth 100000 in
set_option maxHeartbeats 2000000 in
theorem ownB_any (A : Option Addr) (n c : Nat) (xs : List Int) (w : World) (hx : RdI w .u8 A xs) (hl : n = xs.length) (hn : n ≤ 90000) (h0 : A = none → c = 0) :
    Calls Tryd.prog 46 #[.slice A n c] w fun ev w' => ∃ s, ev = .returned s ∧ w'.ownsRow w.heap.size 5 1 s n (intsK .u8 xs) ∧ Kp (fun _ => False) w w' := by
  have hown0 : (w.alloc (.cells #[] 5)).ownsRow w.heap.size 5 1 (.slice (some ⟨w.heap.size, 0, none⟩) 0 0) 0 (intsK .u8 []) := World.ownsRow_made w (base := w.heap.size) (e := 5) (size := 1) #[] 0 (Nat.le_refl _) (by unfold maxLen; omega) rfl
  have Hown0 := Lib.hid hown0
  have HK := Lib.hid ((Kp.refl (fun _ => False) w).alloc (.cells #[] 5))
  have HX := Lib.hid (hx.alloc (.cells #[] 5))
  have HL := Lib.hid hl
  have H0 := Lib.hid h0
  have hsz : w.heap.size ≤ (w.alloc (.cells #[] 5)).heap.size := by simp
  clear hx hl h0 hown0
  go_enter Tryd.func46, Tryd.ntmps46
  go_wp2_with
    (at_builtin
     go_must (refine wpList_append_rd rfl (.tmp 3) (.tmp 4) rfl w.heap.size hsz (.slice (some ⟨w.heap.size, 0, none⟩) 0 0) 0 [] rfl Hown0.out A n c xs rfl HL.out HX.out H0.out (by omega) ?_)
     intro v1 w1 hown1 hk1
     have Hown1 := Lib.hid hown1
     have HK1 := Lib.hid (HK.out.trans hk1 (fun j hj hk => absurd (Hown0.out.lt j hk).1 (by omega)))
     clear hown1 hk1)
  go_ret
  refine ⟨_, rfl, ?_, HK1.out⟩
  have := Hown1.out
  simpa using this

theorem run_equalIn_mac72 (w : World) (d : Nat) (m n : Nat → Int) : (Op.equalIn (d + 2) 72 (.agg (mac m)) (.agg (mac n))).run Tryd.prog w = .ok (macEq m n) w := by
  have hsz : ∀ w, (sizeOf 5).run Tryd.prog w = .ok 1 w := fun w => by kernel_rfl
  have ht : Tryd.prog.underlying 72 = some (.array 6 5) := Tryd.underlying72
  have he : Tryd.prog.underlying 5 = some (.int .u8) := Tryd.underlying5
  unfold macEq
  rw [List.range_eq_range', Op.equalIn]
  simp only [Sem.run_bind, run_underlying ht, Result.andThen_ok, hsz, Std.Legacy.Range.forIn_eq_forIn_range', Std.Legacy.Range.size, Nat.sub_zero, Nat.add_sub_cancel, Nat.div_one]
  have hl : ∀ i ∈ List.range' 0 6 1, i < 6 := fun i hi => by simpa using (List.mem_range'_1.1 hi).2
  generalize List.range' 0 6 1 = l at hl ⊢
  induction l with
  | nil => simp
  | cons i l ih =>
    have hi : i < 6 := hl i (by simp)
    have hcell : ∀ (m : Nat → Int), (part 5 (mac m) (i * 1)).run Tryd.prog w = .ok (.int .u8 (m i)) w := fun m => by
      have h6 : i = 0 ∨ i = 1 ∨ i = 2 ∨ i = 3 ∨ i = 4 ∨ i = 5 := by omega
      rcases h6 with rfl | rfl | rfl | rfl | rfl | rfl <;> simp [part, isAgg, run_underlying he, mac]
    have pe : (Op.equalIn (d + 1) 5 (.int .u8 (m i)) (.int .u8 (n i))).run Tryd.prog w = .ok (m i == n i) w := by
      rw [run_equalIn_int w d 5 .u8 .u8 _ _ he]
    simp only [List.forIn_cons, Sem.run_bind, hcell m, hcell n, pe, Result.andThen_ok, List.all_cons]
    cases hb : (m i == n i)
    · simp
    · simp only [Bool.not_true, Bool.false_eq_true, if_false, Sem.run_pure, Result.andThen_ok, Bool.true_and]
      exact ih fun j hj => hl j (by simp [hj])
theorem run_eql_mac72 (w : World) (m n : Nat → Int) : (binOp .eql 72 (.agg (mac m)) (.agg (mac n))).run Tryd.prog w = .ok (.bool (macEq m n)) w := by
  rw [run_eql_struct, run_equalIn_mac72 w 9998 m n]
  rfl

set_option maxRecDepth 100000 in
set_option maxHeartbeats 4000000 in
theorem refSame_any (t1 f1 t2 f2 : Nat → Int) (k1 k2 : Int) (A B : Option Addr) (n c m d : Nat) (xs ys : List Int) (w : World) (hx : RdI w .u8 A xs) (hy : RdI w .u8 B ys) (hn : xs.length = n) (hm : ys.length = m) (bx : Byt xs) (by' : Byt ys) :
    Calls Tryd.prog 50 #[.agg (frm t1 f1 k1 (.slice A n c)), .agg (frm t2 f2 k2 (.slice B m d))] w fun ev w' => ev = .returned (.bool (macEq t1 t2 && macEq f1 f2 && (k1 == k2) && (xs == ys))) ∧ Kp (fun _ => False) w w' := by
  have h1 := run_eql_mac72 (m := t1) (n := t2)
  have h2 := run_eql_mac72 (m := f1) (n := f2)
  obtain ⟨p1, hp1⟩ : ∃ p, macEq t1 t2 = p := ⟨_, rfl⟩
  obtain ⟨p2, hp2⟩ : ∃ p, macEq f1 f2 = p := ⟨_, rfl⟩
  obtain ⟨p3, hp3⟩ : ∃ p, (k1 == k2) = p := ⟨_, rfl⟩
  obtain ⟨p4, hp4⟩ : ∃ p, (xs == ys) = p := ⟨_, rfl⟩
  rw [hp1] at h1 ⊢
  rw [hp2] at h2 ⊢
  rw [hp3, hp4]
  simp only [mac] at h1 h2
  have kA := ((Kp.refl (fun _ => False) w).alloc (.cells (frm t1 f1 k1 (.slice A n c)) 81)).alloc (.cells (frm t2 f2 k2 (.slice B m d)) 81)
  have ha := (Bk.new w 81 (frm t1 f1 k1 (.slice A n c))).alloc (.cells (frm t2 f2 k2 (.slice B m d)) 81)
  have hb := Bk.new (w.alloc (.cells (frm t1 f1 k1 (.slice A n c)) 81)) 81 (frm t2 f2 k2 (.slice B m d))
  rw [show (w.alloc (.cells (frm t1 f1 k1 (.slice A n c)) 81)).heap.size = w.heap.size + 1 by simp] at hb
  have a0 : _ = some (Value.int IntKind.u8 (t1 0)) := ha.cell 0
  have a1 : _ = some (Value.int IntKind.u8 (t1 1)) := ha.cell 1
  have a2 : _ = some (Value.int IntKind.u8 (t1 2)) := ha.cell 2
  have a3 : _ = some (Value.int IntKind.u8 (t1 3)) := ha.cell 3
  have a4 : _ = some (Value.int IntKind.u8 (t1 4)) := ha.cell 4
  have a5 : _ = some (Value.int IntKind.u8 (t1 5)) := ha.cell 5
  have a6 : _ = some (Value.int IntKind.u8 (f1 0)) := ha.cell 6
  have a7 : _ = some (Value.int IntKind.u8 (f1 1)) := ha.cell 7
  have a8 : _ = some (Value.int IntKind.u8 (f1 2)) := ha.cell 8
  have a9 : _ = some (Value.int IntKind.u8 (f1 3)) := ha.cell 9
  have a10 : _ = some (Value.int IntKind.u8 (f1 4)) := ha.cell 10
  have a11 : _ = some (Value.int IntKind.u8 (f1 5)) := ha.cell 11
  have a12 : _ = some (Value.int IntKind.u16 k1) := ha.cell 12
  have a13 : _ = some (Value.slice A n c) := ha.cell 13
  have b0 : _ = some (Value.int IntKind.u8 (t2 0)) := hb.cell 0
  have b1 : _ = some (Value.int IntKind.u8 (t2 1)) := hb.cell 1
  have b2 : _ = some (Value.int IntKind.u8 (t2 2)) := hb.cell 2
  have b3 : _ = some (Value.int IntKind.u8 (t2 3)) := hb.cell 3
  have b4 : _ = some (Value.int IntKind.u8 (t2 4)) := hb.cell 4
  have b5 : _ = some (Value.int IntKind.u8 (t2 5)) := hb.cell 5
  have b6 : _ = some (Value.int IntKind.u8 (f2 0)) := hb.cell 6
  have b7 : _ = some (Value.int IntKind.u8 (f2 1)) := hb.cell 7
  have b8 : _ = some (Value.int IntKind.u8 (f2 2)) := hb.cell 8
  have b9 : _ = some (Value.int IntKind.u8 (f2 3)) := hb.cell 9
  have b10 : _ = some (Value.int IntKind.u8 (f2 4)) := hb.cell 10
  have b11 : _ = some (Value.int IntKind.u8 (f2 5)) := hb.cell 11
  have b12 : _ = some (Value.int IntKind.u16 k2) := hb.cell 12
  have b13 : _ = some (Value.slice B m d) := hb.cell 13
  have hc1 : ∀ w1, Kp (fun _ => False) w w1 → (convert 71 9 (.slice A n c)).run Tryd.prog w1 = .ok (.string (strOfNums xs)) w1 := fun w1 hk => conv_rd (hx.kp hk (fun _ _ _ f => f)) n c hn
  have hc2 : ∀ w1, Kp (fun _ => False) w w1 → (convert 71 9 (.slice B m d)).run Tryd.prog w1 = .ok (.string (strOfNums ys)) w1 := fun w1 hk => conv_rd (hy.kp hk (fun _ _ _ f => f)) m d hm
  have hs := strOfNums_eq xs ys bx by'
  rw [hp4] at hs
  have kc1 := hc1 _ kA
  have kc2 := hc2 _ kA
  clear hc1 hc2
  have HK := Lib.hid kA
  clear kA ha hb hp1 hp2 hp4 hx hy hn hm bx by'
  generalize hF : frm t1 f1 k1 (.slice A n c) = F at *
  generalize hM : frm t2 f2 k2 (.slice B m d) = M at *
  clear hF hM
  cases p1
  · go_enter Tryd.func50, Tryd.ntmps50
    go_wp2_with fail
    go_ret
    exact ⟨rfl, HK.out⟩
  cases p2
  · go_enter Tryd.func50, Tryd.ntmps50
    go_wp2_with fail
    go_ret
    exact ⟨rfl, HK.out⟩
  cases p3
  · go_enter Tryd.func50, Tryd.ntmps50
    go_wp2_with fail
    go_ret
    exact ⟨rfl, HK.out⟩
  go_enter Tryd.func50, Tryd.ntmps50
  go_wp2_with fail
  go_ret
  exact ⟨by simp, HK.out⟩
end Go.Proofs.YtconpcnmccmbiaaDoor
namespace Go.Proofs.YtconpcnmccmbiaaDoor
open Go.RowKit

theorem hi81s : (Tryd.prog.info? 81).map (·.size) = some 14 := by kernel_rfl
theorem own_low2 {w : World} {base base' : Nat} {e : TypeId} {size n : Nat} {v : Value} {xs : List Value} (h : w.ownsRow base e size v n xs) (hb : base' ≤ base) : w.ownsRow base' e size v n xs := by
  refine ⟨h.1, ?_⟩
  rcases h.2 with h | ⟨g, cap, cur, h1, h2, h3⟩
  · exact .inl h
  · exact .inr ⟨g, cap, cur, h1, by omega, h3⟩

set_option maxRecDepth 100000 in
set_option maxHeartbeats 8000000 in
theorem of_frm (t f : Nat → Int) (k : Nat) (A : Option Addr) (n c : Nat) (ys : List Int) (w : World) (hy : RdI w .u8 A ys) (hl : n = ys.length) (hn : n ≤ 3000) (h0 : A = none → c = 0) :
    Calls Tryd.prog 51 #[.agg (frm t f k (.slice A n c))] w fun ev w' => ∃ A2 c2, ev = .returned (.agg (frm t f k (.slice A2 n c2))) ∧ w'.ownsRow w.heap.size 5 1 (.slice A2 n c2) n (intsK .u8 ys) ∧ Kp (fun _ => False) w w' := by
  have kA := ((Kp.refl (fun _ => False) w).alloc (.cells (frm t f k (.slice A n c)) 77)).alloc (.cells #[.int .u8 0, .int .u8 0, .int .u8 0, .int .u8 0, .int .u8 0, .int .u8 0, .int .u8 0, .int .u8 0, .int .u8 0, .int .u8 0, .int .u8 0, .int .u8 0, .int .u16 0, .slice none 0 0] 81)
  have hb0 := (Bk.new w 77 (frm t f k (.slice A n c))).alloc (.cells #[.int .u8 0, .int .u8 0, .int .u8 0, .int .u8 0, .int .u8 0, .int .u8 0, .int .u8 0, .int .u8 0, .int .u8 0, .int .u8 0, .int .u8 0, .int .u8 0, .int .u16 0, .slice none 0 0] 81)
  have hb1 := Bk.new (w.alloc (.cells (frm t f k (.slice A n c)) 77)) 81 #[.int .u8 0, .int .u8 0, .int .u8 0, .int .u8 0, .int .u8 0, .int .u8 0, .int .u8 0, .int .u8 0, .int .u8 0, .int .u8 0, .int .u8 0, .int .u8 0, .int .u16 0, .slice none 0 0]
  rw [show (w.alloc (.cells (frm t f k (.slice A n c)) 77)).heap.size = w.heap.size + 1 by simp] at hb1
  have hwn : w.heap.size + 2 = ((w.alloc (.cells (frm t f k (.slice A n c)) 77)).alloc (.cells #[.int .u8 0, .int .u8 0, .int .u8 0, .int .u8 0, .int .u8 0, .int .u8 0, .int .u8 0, .int .u8 0, .int .u8 0, .int .u8 0, .int .u8 0, .int .u8 0, .int .u16 0, .slice none 0 0] 81)).heap.size := by simp
  have HWN := Lib.hid hwn
  have HB0 := Lib.hid hb0
  have HB1 := Lib.hid hb1
  have HK := Lib.hid kA
  have HY := Lib.hid (hy.kp kA (fun _ _ _ x => x))
  have HL := Lib.hid hl
  have H0 := Lib.hid h0
  clear kA hb0 hb1 hwn hy hl h0
  go_enter Tryd.func51, Tryd.ntmps51
  go_upto_region 1 with fail
  generalize (w.alloc (.cells (frm t f k (.slice A n c)) 77)).alloc (.cells #[.int .u8 0, .int .u8 0, .int .u8 0, .int .u8 0, .int .u8 0, .int .u8 0, .int .u8 0, .int .u8 0, .int .u8 0, .int .u8 0, .int .u8 0, .int .u8 0, .int .u16 0, .slice none 0 0] 81) = w0 at *
  have keep : ∀ b, Kp (fun b => b = w.heap.size + 1) w0 b → (fun w' => Kp (fun b => b = w.heap.size + 1) w0 w' ∧ w'.cell? ⟨w.heap.size, 0, none⟩ = some (Value.int IntKind.u8 (t 0)) ∧ w'.cell? ⟨w.heap.size, 1, none⟩ = some (Value.int IntKind.u8 (t 1)) ∧ w'.cell? ⟨w.heap.size, 2, none⟩ = some (Value.int IntKind.u8 (t 2)) ∧ w'.cell? ⟨w.heap.size, 3, none⟩ = some (Value.int IntKind.u8 (t 3)) ∧ w'.cell? ⟨w.heap.size, 4, none⟩ = some (Value.int IntKind.u8 (t 4)) ∧ w'.cell? ⟨w.heap.size, 5, none⟩ = some (Value.int IntKind.u8 (t 5)) ∧ w'.cell? ⟨w.heap.size, 6, none⟩ = some (Value.int IntKind.u8 (f 0)) ∧ w'.cell? ⟨w.heap.size, 7, none⟩ = some (Value.int IntKind.u8 (f 1)) ∧ w'.cell? ⟨w.heap.size, 8, none⟩ = some (Value.int IntKind.u8 (f 2)) ∧ w'.cell? ⟨w.heap.size, 9, none⟩ = some (Value.int IntKind.u8 (f 3)) ∧ w'.cell? ⟨w.heap.size, 10, none⟩ = some (Value.int IntKind.u8 (f 4)) ∧ w'.cell? ⟨w.heap.size, 11, none⟩ = some (Value.int IntKind.u8 (f 5)) ∧ w'.cell? ⟨w.heap.size, 12, none⟩ = some (Value.int IntKind.u16 k) ∧ w'.cell? ⟨w.heap.size, 13, none⟩ = some (Value.slice A n c)) b := fun b hk => ⟨hk, (hk.cell (p := ⟨w.heap.size, 0, none⟩) HB0.out.lt (by show ¬ w.heap.size = w.heap.size + 1; omega)).trans (HB0.out.cell 0), (hk.cell (p := ⟨w.heap.size, 1, none⟩) HB0.out.lt (by show ¬ w.heap.size = w.heap.size + 1; omega)).trans (HB0.out.cell 1), (hk.cell (p := ⟨w.heap.size, 2, none⟩) HB0.out.lt (by show ¬ w.heap.size = w.heap.size + 1; omega)).trans (HB0.out.cell 2), (hk.cell (p := ⟨w.heap.size, 3, none⟩) HB0.out.lt (by show ¬ w.heap.size = w.heap.size + 1; omega)).trans (HB0.out.cell 3), (hk.cell (p := ⟨w.heap.size, 4, none⟩) HB0.out.lt (by show ¬ w.heap.size = w.heap.size + 1; omega)).trans (HB0.out.cell 4), (hk.cell (p := ⟨w.heap.size, 5, none⟩) HB0.out.lt (by show ¬ w.heap.size = w.heap.size + 1; omega)).trans (HB0.out.cell 5), (hk.cell (p := ⟨w.heap.size, 6, none⟩) HB0.out.lt (by show ¬ w.heap.size = w.heap.size + 1; omega)).trans (HB0.out.cell 6), (hk.cell (p := ⟨w.heap.size, 7, none⟩) HB0.out.lt (by show ¬ w.heap.size = w.heap.size + 1; omega)).trans (HB0.out.cell 7), (hk.cell (p := ⟨w.heap.size, 8, none⟩) HB0.out.lt (by show ¬ w.heap.size = w.heap.size + 1; omega)).trans (HB0.out.cell 8), (hk.cell (p := ⟨w.heap.size, 9, none⟩) HB0.out.lt (by show ¬ w.heap.size = w.heap.size + 1; omega)).trans (HB0.out.cell 9), (hk.cell (p := ⟨w.heap.size, 10, none⟩) HB0.out.lt (by show ¬ w.heap.size = w.heap.size + 1; omega)).trans (HB0.out.cell 10), (hk.cell (p := ⟨w.heap.size, 11, none⟩) HB0.out.lt (by show ¬ w.heap.size = w.heap.size + 1; omega)).trans (HB0.out.cell 11), (hk.cell (p := ⟨w.heap.size, 12, none⟩) HB0.out.lt (by show ¬ w.heap.size = w.heap.size + 1; omega)).trans (HB0.out.cell 12), (hk.cell (p := ⟨w.heap.size, 13, none⟩) HB0.out.lt (by show ¬ w.heap.size = w.heap.size + 1; omega)).trans (HB0.out.cell 13)⟩
  have KEEP := Lib.hid keep
  have KC := Lib.hid ((Kp.refl (fun _ => False) w0).drew)
  clear keep
  generalize hG : Value.agg (frm t f k (.slice A n c)) = G1
  clear hG
  refine wp_region_held_drew (S := (fun w' => Kp (fun b => b = w.heap.size + 1) w0 w' ∧ w'.cell? ⟨w.heap.size, 0, none⟩ = some (Value.int IntKind.u8 (t 0)) ∧ w'.cell? ⟨w.heap.size, 1, none⟩ = some (Value.int IntKind.u8 (t 1)) ∧ w'.cell? ⟨w.heap.size, 2, none⟩ = some (Value.int IntKind.u8 (t 2)) ∧ w'.cell? ⟨w.heap.size, 3, none⟩ = some (Value.int IntKind.u8 (t 3)) ∧ w'.cell? ⟨w.heap.size, 4, none⟩ = some (Value.int IntKind.u8 (t 4)) ∧ w'.cell? ⟨w.heap.size, 5, none⟩ = some (Value.int IntKind.u8 (t 5)) ∧ w'.cell? ⟨w.heap.size, 6, none⟩ = some (Value.int IntKind.u8 (f 0)) ∧ w'.cell? ⟨w.heap.size, 7, none⟩ = some (Value.int IntKind.u8 (f 1)) ∧ w'.cell? ⟨w.heap.size, 8, none⟩ = some (Value.int IntKind.u8 (f 2)) ∧ w'.cell? ⟨w.heap.size, 9, none⟩ = some (Value.int IntKind.u8 (f 3)) ∧ w'.cell? ⟨w.heap.size, 10, none⟩ = some (Value.int IntKind.u8 (f 4)) ∧ w'.cell? ⟨w.heap.size, 11, none⟩ = some (Value.int IntKind.u8 (f 5)) ∧ w'.cell? ⟨w.heap.size, 12, none⟩ = some (Value.int IntKind.u16 k) ∧ w'.cell? ⟨w.heap.size, 13, none⟩ = some (Value.slice A n c))) (by kernel_rfl) (KEEP.out _ (KC.out.mono (fun _ h => h.elim))) (fun hHeld => ?_)
  refine wpAnyH_take (i := 0) (v := ?v0) rfl (by kernel_rfl) (by kernel_rfl) (by kernel_rfl) (fun _ _ _ h => h) (Or.inl ⟨by rfl, ?y0⟩) (by assumption) ?r0
  case y0 => (intro w hSw; (try dsimp only at hSw); go_simp; first | done | with_reducible rfl)
  try simp only [Act.put, List.setIfInBounds_toArray, List.set_cons_zero, List.set_cons_succ]
  refine wpAnyH_take (i := 1) (v := ?v1) rfl (by kernel_rfl) (by kernel_rfl) (by kernel_rfl) (fun _ _ _ h => h) (Or.inl ⟨by rfl, ?y1⟩) (by assumption) ?r1
  case y1 => (intro w hSw; (try dsimp only at hSw); go_simp; first | done | with_reducible rfl)
  try simp only [Act.put, List.setIfInBounds_toArray, List.set_cons_zero, List.set_cons_succ]
  refine wpAnyH_take (i := 2) (v := ?v2) rfl (by kernel_rfl) (by kernel_rfl) (by kernel_rfl) (fun _ _ _ h => h) (Or.inl ⟨by rfl, ?y2⟩) (by assumption) ?r2
  case y2 => (intro w hSw; (try dsimp only at hSw); go_simp; first | done | with_reducible rfl)
  try simp only [Act.put, List.setIfInBounds_toArray, List.set_cons_zero, List.set_cons_succ]
  refine wpAnyH_take (i := 3) (v := ?v3) rfl (by kernel_rfl) (by kernel_rfl) (by kernel_rfl) (fun _ _ _ h => h) (Or.inl ⟨by rfl, ?y3⟩) (by assumption) ?r3
  case y3 => (intro w hSw; (try dsimp only at hSw); go_simp; first | done | with_reducible rfl)
  try simp only [Act.put, List.setIfInBounds_toArray, List.set_cons_zero, List.set_cons_succ]
  refine wpAnyH_take (i := 4) (v := ?v4) rfl (by kernel_rfl) (by kernel_rfl) (by kernel_rfl) (fun _ _ _ h => h) (Or.inl ⟨by rfl, ?y4⟩) (by assumption) ?r4
  case y4 => (intro w hSw; (try dsimp only at hSw); go_simp; first | done | with_reducible rfl)
  try simp only [Act.put, List.setIfInBounds_toArray, List.set_cons_zero, List.set_cons_succ]
  refine wpAnyH_take (i := 5) (v := ?v5) rfl (by kernel_rfl) (by kernel_rfl) (by kernel_rfl) (fun _ _ _ h => h) (Or.inl ⟨by rfl, ?y5⟩) (by assumption) ?r5
  case y5 => (intro w hSw; (try dsimp only at hSw); go_simp; first | done | with_reducible rfl)
  try simp only [Act.put, List.setIfInBounds_toArray, List.set_cons_zero, List.set_cons_succ]
  refine wpAnyH_take (i := 6) (v := ?v6) rfl (by kernel_rfl) (by kernel_rfl) (by kernel_rfl) (fun _ _ _ h => h) (Or.inl ⟨by rfl, ?y6⟩) (by assumption) ?r6
  case y6 => (intro w hSw; (try dsimp only at hSw); go_simp; first | done | with_reducible rfl)
  try simp only [Act.put, List.setIfInBounds_toArray, List.set_cons_zero, List.set_cons_succ]
  refine wpAnyH_take (i := 7) (v := ?v7) rfl (by kernel_rfl) (by kernel_rfl) (by kernel_rfl) (fun _ _ _ h => h) (Or.inl ⟨by rfl, ?y7⟩) (by assumption) ?r7
  case y7 => (intro w hSw; (try dsimp only at hSw); go_simp; first | done | with_reducible rfl)
  try simp only [Act.put, List.setIfInBounds_toArray, List.set_cons_zero, List.set_cons_succ]
  refine wpAnyH_ready (rs := [8]) (by kernel_rfl) (by simp) ?_
  refine AllReadyH.cons rfl (fun K hK => ?_) AllReadyH.nil
  go_simp
  with_reducible refine (ownB_any A n c ys _ (HY.out.kp KC.out (fun _ _ _ x => x)) HL.out (by omega) H0.out).mono ?_
  rintro ev w2 ⟨s2, rfl, own2, k2⟩
  have HO2 := Lib.hid own2
  have K2 := Lib.hid (KC.out.trans' k2)
  obtain ⟨A2, c2, rfl, hnl, hrr, hbb⟩ := RdI.of_own (k := .u8) (xs := ys) own2
  clear own2 k2 hnl hrr hbb
  try dsimp only
  refine hK.out _ _ (KEEP.out _ (K2.out.mono (fun _ h => h.elim))) (fun hHeld => ?_)
  clear hK K
  try simp only [Act.put, List.setIfInBounds_toArray, List.set_cons_zero, List.set_cons_succ]
  refine wpAnyH_take (i := 9) (v := ?v9) rfl (by kernel_rfl) (by kernel_rfl) (by kernel_rfl) (fun _ _ _ h => h) (Or.inl ⟨by rfl, ?y9⟩) (by assumption) ?r9
  case y9 => (intro w hSw; (try dsimp only at hSw); go_simp; first | done | with_reducible rfl)
  try simp only [Act.put, List.setIfInBounds_toArray, List.set_cons_zero, List.set_cons_succ]
  have hbr := HB1.out.kept K2.out (fun x => x)
  have kS := Kp.setRow (S := fun b => b = w.heap.size + 1) (Kp.refl _ w2) (.inl rfl) #[.int .u8 (t 0), .int .u8 (t 1), .int .u8 (t 2), .int .u8 (t 3), .int .u8 (t 4), .int .u8 (t 5), .int .u8 (f 0), .int .u8 (f 1), .int .u8 (f 2), .int .u8 (f 3), .int .u8 (f 4), .int .u8 (f 5), .int .u16 k, .slice A2 n c2]
  refine wpAnyH_ready (rs := [10]) (by kernel_rfl) (by simp) ?_
  refine AllReadyH.cons rfl (fun K hK => ?_) AllReadyH.nil
  rw [if_pos (by rfl)]
  refine wp_store_row 81 (.tmp 2) (.tmp 12) (by rfl) (w.heap.size + 1) #[.int .u8 (t 0), .int .u8 (t 1), .int .u8 (t 2), .int .u8 (t 3), .int .u8 (t 4), .int .u8 (t 5), .int .u8 (f 0), .int .u8 (f 1), .int .u8 (f 2), .int .u8 (f 3), .int .u8 (f 4), .int .u8 (f 5), .int .u16 k, .slice A2 n c2] (by rfl) (by rfl) 81 #[.int .u8 0, .int .u8 0, .int .u8 0, .int .u8 0, .int .u8 0, .int .u8 0, .int .u8 0, .int .u8 0, .int .u8 0, .int .u8 0, .int .u8 0, .int .u8 0, .int .u16 0, .slice none 0 0] hbr hi81s rfl (by simp [Value.oneCell']) ?_
  refine hK.out _ _ (KEEP.out _ ((K2.out.mono (fun _ h => h.elim)).trans' kS)) (fun hHeld => ?_)
  clear hK K
  try simp only [Act.put, List.setIfInBounds_toArray, List.set_cons_zero, List.set_cons_succ]
  refine wpAnyH_done (by kernel_rfl) ?_ _
  go_wp2_with fail
  have hbs : w0.drew.heap.size = w.heap.size + 2 := HWN.out.symm
  refine bodyPost_ret (results_cell_row rfl _ _ (w.heap.size + 1) 81 #[.int .u8 (t 0), .int .u8 (t 1), .int .u8 (t 2), .int .u8 (t 3), .int .u8 (t 4), .int .u8 (t 5), .int .u8 (f 0), .int .u8 (f 1), .int .u8 (f 2), .int .u8 (f 3), .int .u8 (f 4), .int .u8 (f 5), .int .u16 k, .slice A2 n c2] (0, 0) _ rfl (hbr.setRow _) Tryd.underlying81 rfl hi81s) rfl ?_
  refine ⟨A2, c2, rfl, own_low2 (own_kp HO2.out kS (fun j hj h => by subst h; have := (HO2.out.lt _ hj).1; omega)) (by omega), (HK.out.trans' K2.out).setRow (.inr (by omega)) _⟩
end Go.Proofs.YtconpcnmccmbiaaDoor
namespace Go.Proofs.YtconpcnmccmbiaaDoor
open Go.RowKit

set_option maxRecDepth 100000 in
set_option maxHeartbeats 4000000 in
/-- No error, no fault. -/
theorem is_nil (u : Value) (w : World) : Calls Tryd.prog 49 #[.nilIface, .agg #[u, .int .i64 0]] w fun ev w' => ev = .returned (.bool true) ∧ Kp (fun _ => False) w w' := by
  have HK := Lib.hid ((Kp.refl (fun _ => False) w).alloc (.cells #[u, .int .i64 0] 52))
  have c1 : _ = some (Value.int .i64 0) := (Bk.new w 52 #[u, .int .i64 0]).cell 1
  go_enter Tryd.func49, Tryd.ntmps49
  go_wp2_with fail
  go_ret
  exact ⟨rfl, HK.out⟩

set_option maxRecDepth 100000 in
set_option maxHeartbeats 4000000 in
/-- An error and its fault. -/
theorem is_chain (r e : Int) (v : Value) (A : Option Addr) (c : Nat) (w : World) (hE : Et w) (hc : Chain w e [r] v) (he : e ≠ 0) (hr : RdI w .i64 A [r]) (hcu : 1 ≤ c) :
    Calls Tryd.prog 49 #[v, .agg #[.slice A 1 c, .int .i64 e]] w fun ev w' => ev = .returned (.bool true) ∧ Kp (fun _ => False) w w' := by
  have hb := Bk.new w 52 #[.slice A 1 c, .int .i64 e]
  have kA := (Kp.refl (fun _ => False) w).alloc (.cells #[.slice A 1 c, .int .i64 e] 52)
  have hv := hc.form
  rcases hv with ⟨x, rfl⟩ | ⟨x, rfl⟩
  · exact absurd hc (by rintro ⟨g, v', h, _⟩; cases h)
  have HE := Lib.hid (hE.kept kA (fun x => x))
  have HC := Lib.hid (hc.none_kept kA)
  have HR := Lib.hid (hr.kp kA (fun _ _ _ x => x))
  have HB := Lib.hid hb
  have HK := Lib.hid kA
  have c0 : _ = some (Value.slice A 1 c) := hb.cell 0
  have c1 : _ = some (Value.int .i64 e) := hb.cell 1
  have heb : (e == 0) = false := by simp [he]
  have hen : (e != 0) = true := by simp [he]
  clear hE hc hr hb kA he
  go_enter Tryd.func49, Tryd.ntmps49
  go_wp2_with fail
  generalize w.alloc (.cells #[.slice A 1 c, .int .i64 e] 52) = w0 at *
  have KC := Lib.hid ((Kp.refl (fun _ => False) w0).drew)
  have hfr : ∀ w', Kp (fun _ => False) w0 w' → Calls Tryd.prog 36 #[.agg #[.slice A 1 c, .int .i64 e]] w' fun ev w'' => ev = .returned (.int .i64 (reasonOf [r] e)) ∧ Kp (fun _ => False) w' w'' := fun w' hk => freason_any A c [r] e w' (HR.out.kp hk (fun _ _ _ x => x)).toC hcu
  have HFR := Lib.hid hfr
  clear hfr
  go_region_held3 (fun w' => Kp (fun _ => False) w0 w' ∧ w'.cell? ⟨w.heap.size, 0, none⟩ = some (.slice A 1 c) ∧ w'.cell? ⟨w.heap.size, 1, none⟩ = some (.int .i64 e))
    (first | exact ⟨KC.out, (KC.out.cell (p := ⟨w.heap.size, 0, none⟩) HB.out.lt (fun x => x)).trans (HB.out.cell 0), (KC.out.cell (p := ⟨w.heap.size, 1, none⟩) HB.out.lt (fun x => x)).trans (HB.out.cell 1)⟩ | fail)
    (first
      | (go_at_call 31; with_reducible refine (errno_any [r] e _ _ (HE.out.kept KC.out (fun x => x)) (HC.out.none_kept KC.out)).mono ?_; rintro ev w9 ⟨rfl, k9⟩; have KC := Lib.hid (KC.out.trans' k9); clear k9)
      | (go_at_call 35; with_reducible refine (wreason_any [r] e _ _ (HE.out.kept KC.out (fun x => x)) (HC.out.none_kept KC.out)).mono ?_; rintro ev w9 ⟨rfl, k9⟩; have KC := Lib.hid (KC.out.trans' k9); clear k9)
      | (go_at_call 36; with_reducible refine (HFR.out _ KC.out).mono ?_; rintro ev w9 ⟨rfl, k9⟩; have KC := Lib.hid (KC.out.trans' k9); clear k9)
      | fail)
  all_goals
    go_wp2_with fail
    go_ret
    exact ⟨by simp [reasonOf], HK.out.trans' KC.out⟩
end Go.Proofs.YtconpcnmccmbiaaDoor
namespace Go.Proofs.YtconpcnmccmbiaaDoor
open Go.RowKit Go.Proofs.YtconpcnmccmbiaaDoorW.PrintWords

/-- append of bytes onto a row of one's own, as one step. -/
theorem wp_append_rd {w : World} {o : Oper} {a : Act} {K : Act → World → Prop} {Q : Exit → Act → World → Prop} (s x : Operand)
    (ho : o.op = .call { callee := .builtin .append, args := #[s, x], argTypes := #[71, 71] }) (base : Nat) (hbase : base ≤ w.heap.size)
    (v : Value) (n : Nat) (xs : List Int) (hs : a.eval s = v) (hown : w.ownsRow base 5 1 v n (intsK .u8 xs))
    (A : Option Addr) (m c : Nat) (ys : List Int) (hx : a.eval x = .slice A m c) (hm : m = ys.length) (hr : RdI w .u8 A ys) (hc0 : A = none → c = 0) (hb : n + m ≤ 100000)
    (h : ∀ v' w', w'.ownsRow base 5 1 v' (n + m) (intsK .u8 (xs ++ ys)) → Kp (fun k => v.ownBlock = some k) w w' → K (a.put o.dst v') w') : o.wp Tryd.prog a w K Q := by
  obtain ⟨i0, hi0, hz0, hz1, hz2⟩ := info_parts u8Zero
  cases A with
  | none =>
    have h0 : ys = [] := by
      rcases hr.2 with h | ⟨_, _, h, _⟩
      · exact List.eq_nil_of_length_eq_zero h
      · cases h
    subst h0
    obtain rfl := hc0 rfl
    obtain rfl : m = 0 := hm
    have hrun := run_append_owned_none (P := Tryd.prog) (w := w) base 71 o.type 5 i0 1 Tryd.underlying71 hi0 v n (intsK .u8 xs) hown
    unfold Oper.wp
    simp [execOp, ho, resolve, invoke, builtin, hs, hx, hrun, Result.andThen]
    exact h v w (by simpa using hown) (Kp.refl _ _)
  | some ad =>
    refine wp_append_own w s x 71 ho base 5 i0 (.int .u8 0) 1 1 Tryd.underlying71 hi0 hz0 hz1 hz2 rfl (by omega) v n (intsK .u8 xs) hs hown ad m c (intsK .u8 ys) hx (by rw [intsK_len, hm]; omega) hr.cells (intsK_one _ _) (by unfold maxLen; omega) (by omega) hbase ?_
    intro v' w' h1 h2 _
    exact h v' w' (by simpa [intsK] using h1) ((Kp.refl _ w).grown h2 (fun k hk => .inl hk))

/-- A fault's slice, read. -/
theorem newIs_yes {w : World} {base : Nat} {r e : Int} {u : Value} {l : List Int} {f : Int} (h : NewIs w base r e u l f) (he : e ≠ 0) (hk : knownR r = true) : l = [r] ∧ f = e := by
  rcases h.2 with ⟨h1 | h1, _⟩ | ⟨_, _, h2, h3⟩
  · exact absurd h1 he
  · rw [hk] at h1; cases h1
  · exact ⟨h2, h3⟩

theorem hi52s : (Tryd.prog.info? 52).map (·.size) = some 2 := by kernel_rfl

set_option maxRecDepth 100000 in
set_option maxHeartbeats 8000000 in
theorem rbytes_long (t f : Nat → Int) (k : Nat) (A : Option Addr) (n c : Nat) (w : World) (h : 1500 < n) :
    Calls Tryd.prog 55 #[.agg (frm t f k (.slice A n c))] w fun ev w' => ∃ A2 c2, ev = .returned (.tuple #[.slice none 0 0, .agg #[.slice A2 1 c2, .int .i64 11]]) ∧ RdI w' .i64 A2 [1] ∧ 1 ≤ c2 ∧ Kp (fun _ => False) w w' := by
  have h1 : (1500 : Int) < (n : Int) := by omega
  have kA := ((Kp.refl (fun _ => False) w).alloc (.cells (frm t f k (.slice A n c)) 81)).alloc (.cells #[.slice none 0 0, .int .i64 0] 52)
  have hb0 := (Bk.new w 81 (frm t f k (.slice A n c))).alloc (.cells #[.slice none 0 0, .int .i64 0] 52)
  have hb1 := Bk.new (w.alloc (.cells (frm t f k (.slice A n c)) 81)) 52 #[.slice none 0 0, .int .i64 0]
  rw [show (w.alloc (.cells (frm t f k (.slice A n c)) 81)).heap.size = w.heap.size + 1 by simp] at hb1
  have c13 : _ = some (Value.slice A n c) := hb0.cell 13
  have HB1 := Lib.hid hb1
  have HK := Lib.hid kA
  clear kA hb0 hb1
  generalize hG : frm t f k (.slice A n c) = G1 at *
  clear hG
  go_enter Tryd.func55, Tryd.ntmps55
  go_wp2_with fail
  refine (fnew_any 1 11 _).mono ?_
  rintro ev w1 ⟨u, l, e, rfl, hni, k1⟩
  obtain ⟨rfl, rfl⟩ := newIs_yes hni (by decide) (by decide)
  obtain ⟨A2, c2, rfl, hlc, _, rd⟩ := hni.1.read
  have hbr := HB1.out.kept k1 (fun x => x)
  have K1 := Lib.hid (HK.out.trans' k1)
  have hown : ∀ b o, A2 = some ⟨b, o, none⟩ → b ≠ w.heap.size + 1 := by
    rintro b o rfl rfl
    exact hni.1.ne hbr (by decide) rfl
  have HR := Lib.hid rd
  have HOW := Lib.hid hown
  clear k1 hni rd hown
  go_wp2_with
    ((with_reducible refine gate_store (t := 52) (p := 3) (v := .tmp 9) rfl ?_)
     go_must (refine wpList_store_row (by rfl) 52 (.tmp 3) (.tmp 9) (by rfl) (w.heap.size + 1) #[.slice A2 1 c2, .int .i64 11] (by rfl) (by rfl) 52 #[.slice none 0 0, .int .i64 0] hbr hi52s rfl (by simp [Value.oneCell']) ?_))
  have kS := Kp.setRow (S := fun b => b = w.heap.size + 1) (Kp.refl _ w1) (.inl rfl) #[.slice A2 1 c2, .int .i64 11]
  refine bodyPost_ret (results_tc rfl _ _ (w.heap.size + 1) 52 #[.slice A2 1 c2, .int .i64 11] (0, 0) _ rfl (hbr.setRow _) Tryd.underlying52 rfl hi52s) rfl ?_
  exact ⟨A2, c2, rfl, HR.out.kp kS (fun b o h h2 => HOW.out b o h h2), hlc, K1.out.setRow (.inr (by omega)) _⟩

/-- A frame's bytes. -/
def fbytes0 (t f : Nat → Int) (k : Nat) (ys : List Int) : List Int := macL t ++ macL f ++ [(k : Int) / 256, (k : Int) % 256] ++ ys
set_option maxRecDepth 100000 in
set_option maxHeartbeats 20000000 in
theorem rbytes_mid (t f : Nat → Int) (k : Nat) (A : Option Addr) (n c : Nat) (ys : List Int) (w : World) (hn : n ≤ 1500) (hk : k < 65536) (hy : RdI w .u8 A ys) (hl : n = ys.length) (h0 : A = none → c = 0) :
    Calls Tryd.prog 55 #[.agg (frm t f k (.slice A n c))] w fun ev w' => ∃ s, ev = .returned (.tuple #[s, .agg #[.slice none 0 0, .int .i64 0]]) ∧ w'.ownsRow w.heap.size 5 1 s (14 + n) (intsK .u8 (fbytes0 t f k ys)) ∧ Kp (fun _ => False) w w' := by
  have h1 : ¬ ((1500 : Int) < (n : Int)) := by omega
  have kA := ((Kp.refl (fun _ => False) w).alloc (.cells (frm t f k (.slice A n c)) 81)).alloc (.cells #[.slice none 0 0, .int .i64 0] 52)
  have hb0 := (Bk.new w 81 (frm t f k (.slice A n c))).alloc (.cells #[.slice none 0 0, .int .i64 0] 52)
  have hb1 := Bk.new (w.alloc (.cells (frm t f k (.slice A n c)) 81)) 52 #[.slice none 0 0, .int .i64 0]
  rw [show (w.alloc (.cells (frm t f k (.slice A n c)) 81)).heap.size = w.heap.size + 1 by simp] at hb1
  have hwn : w.heap.size + 2 = ((w.alloc (.cells (frm t f k (.slice A n c)) 81)).alloc (.cells #[.slice none 0 0, .int .i64 0] 52)).heap.size := by simp
  have c13 : _ = some (Value.slice A n c) := hb0.cell 13
  have c12 : _ = some (Value.int .u16 k) := hb0.cell 12
  have HWN := Lib.hid hwn
  have HB0 := Lib.hid hb0
  have HB1 := Lib.hid hb1
  have HK := Lib.hid kA
  have HY := Lib.hid (hy.kp kA (fun _ _ _ x => x))
  have HL := Lib.hid hl
  have H0 := Lib.hid h0
  have FT := Lib.hid (frm_to t f k (.slice A n c))
  have FF := Lib.hid (frm_from t f k (.slice A n c))
  clear kA hb0 hb1 hwn hy hl h0
  generalize hG : frm t f k (.slice A n c) = G1 at *
  clear hG
  go_enter Tryd.func55, Tryd.ntmps55
  go_upto_region 3 with fail
  generalize (w.alloc (.cells G1 81)).alloc (.cells #[.slice none 0 0, .int .i64 0] 52) = w0 at *
  have C12 := Lib.hid c12
  have C13 := Lib.hid c13
  clear c12 c13
  have keep : ∀ b, Kp (fun _ => False) w0 b → (fun w' => Kp (fun _ => False) w0 w' ∧ w'.cell? ⟨w.heap.size, 12, none⟩ = some (Value.int IntKind.u16 k) ∧ w'.cell? ⟨w.heap.size, 13, none⟩ = some (Value.slice A n c)) b := fun b hk => ⟨hk, (hk.cell (p := ⟨w.heap.size, 12, none⟩) HB0.out.lt (fun x => x)).trans C12.out, (hk.cell (p := ⟨w.heap.size, 13, none⟩) HB0.out.lt (fun x => x)).trans C13.out⟩
  have KEEP := Lib.hid keep
  have KC := Lib.hid ((Kp.refl (fun _ => False) w0).drew)
  clear keep
  have HRT := Lib.hid (HB0.out.rd t 0 FT.out)
  have HRF := Lib.hid (HB0.out.rd f 6 FF.out)
  refine wp_region_held_drew (S := (fun w' => Kp (fun _ => False) w0 w' ∧ w'.cell? ⟨w.heap.size, 12, none⟩ = some (Value.int IntKind.u16 k) ∧ w'.cell? ⟨w.heap.size, 13, none⟩ = some (Value.slice A n c))) (by kernel_rfl) (KEEP.out _ KC.out) (fun hHeld => ?_)
  refine wpAnyH_take (i := 1) (v := ?v1_0) rfl (by kernel_rfl) (by kernel_rfl) (by kernel_rfl) (fun _ _ _ h => h) (Or.inl ⟨by rfl, ?y1_0⟩) (by assumption) ?r1_0
  case y1_0 => (intro w hSw; (try dsimp only at hSw); go_simp; first | done | with_reducible rfl)
  try simp only [Act.put, List.getElem_toArray, List.getElem_cons_succ, List.getElem_cons_zero, List.setIfInBounds_toArray, List.set_cons_zero, List.set_cons_succ]
  refine wpAnyH_take (i := 2) (v := ?v2_1) rfl (by kernel_rfl) (by kernel_rfl) (by kernel_rfl) (fun _ _ _ h => h) (Or.inl ⟨by rfl, ?y2_1⟩) (by assumption) ?r2_1
  case y2_1 => (intro w hSw; (try dsimp only at hSw); go_simp; first | done | with_reducible rfl)
  try simp only [Act.put, List.getElem_toArray, List.getElem_cons_succ, List.getElem_cons_zero, List.setIfInBounds_toArray, List.set_cons_zero, List.set_cons_succ]
  refine wpAnyH_take (i := 4) (v := ?v4_2) rfl (by kernel_rfl) (by kernel_rfl) (by kernel_rfl) (fun _ _ _ h => h) (Or.inl ⟨by rfl, ?y4_2⟩) (by assumption) ?r4_2
  case y4_2 => (intro w hSw; (try dsimp only at hSw); go_simp; first | done | with_reducible rfl)
  try simp only [Act.put, List.getElem_toArray, List.getElem_cons_succ, List.getElem_cons_zero, List.setIfInBounds_toArray, List.set_cons_zero, List.set_cons_succ]
  refine wpAnyH_take (i := 5) (v := ?v5_3) rfl (by kernel_rfl) (by kernel_rfl) (by kernel_rfl) (fun _ _ _ h => h) (Or.inl ⟨by rfl, ?y5_3⟩) (by assumption) ?r5_3
  case y5_3 => (intro w hSw; (try dsimp only at hSw); go_simp; first | done | with_reducible rfl)
  try simp only [Act.put, List.getElem_toArray, List.getElem_cons_succ, List.getElem_cons_zero, List.setIfInBounds_toArray, List.set_cons_zero, List.set_cons_succ]
  have HW0 := Lib.hid (World.ownsRow_made w0.drew (base := w0.heap.size) (e := 5) (size := 1) #[] 0 (Nat.le_refl _) (by unfold maxLen; omega) rfl)
  refine wpAnyH_ready (rs := [0]) (by kernel_rfl) (by simp) ?_
  refine AllReadyH.cons rfl (fun K hK => ?_) AllReadyH.nil
  go_simp
  have KC := Lib.hid (KC.out.alloc (.cells #[] 5))
  refine hK.out _ _ (KEEP.out _ KC.out) (fun hHeld => ?_)
  clear hK K
  try simp only [Act.put, List.getElem_toArray, List.getElem_cons_succ, List.getElem_cons_zero, List.setIfInBounds_toArray, List.set_cons_zero, List.set_cons_succ]
  refine wpAnyH_ready (rs := [3]) (by kernel_rfl) (by simp) ?_
  refine AllReadyH.cons rfl (fun K hK => ?_) AllReadyH.nil
  rw [if_pos (by rfl)]
  refine wp_append_rd (.tmp 10) (.tmp 12) (by rfl) w0.heap.size KC.out.size (.slice (some ⟨w0.heap.size, 0, none⟩) 0 0) 0 [] (by rfl) HW0.out (some ⟨w.heap.size, 0, none⟩) 6 6 (macL t) (by rfl) rfl (HRT.out.kp KC.out (fun _ _ _ x => x)) (fun h => by cases h) (by omega) ?_
  intro v1 w1 own1 k1
  have KC := Lib.hid (KC.out.trans k1 (fun j hj hk => absurd (HW0.out.lt j hk).1 (by omega)))
  have HO1 := Lib.hid own1
  clear own1 k1
  refine hK.out _ _ (KEEP.out _ KC.out) (fun hHeld => ?_)
  clear hK K
  try simp only [Act.put, List.getElem_toArray, List.getElem_cons_succ, List.getElem_cons_zero, List.setIfInBounds_toArray, List.set_cons_zero, List.set_cons_succ]
  refine wpAnyH_ready (rs := [6]) (by kernel_rfl) (by simp) ?_
  refine AllReadyH.cons rfl (fun K hK => ?_) AllReadyH.nil
  rw [if_pos (by rfl)]
  refine wp_append_rd (.tmp 13) (.tmp 15) (by rfl) w0.heap.size KC.out.size v1 (0 + 6) ([] ++ macL t) (by rfl) HO1.out (some ⟨w.heap.size, 6, none⟩) 6 6 (macL f) (by rfl) rfl (HRF.out.kp KC.out (fun _ _ _ x => x)) (fun h => by cases h) (by omega) ?_
  intro v2 w2 own2 k2
  have KC := Lib.hid (KC.out.trans k2 (fun j hj hk => absurd (HO1.out.lt j hk).1 (by omega)))
  have HO2 := Lib.hid own2
  clear own2 k2
  refine hK.out _ _ (KEEP.out _ KC.out) (fun hHeld => ?_)
  clear hK K
  try simp only [Act.put, List.getElem_toArray, List.getElem_cons_succ, List.getElem_cons_zero, List.setIfInBounds_toArray, List.set_cons_zero, List.set_cons_succ]
  refine wpAnyH_take (i := 7) (v := ?v7_4) rfl (by kernel_rfl) (by kernel_rfl) (by kernel_rfl) (fun _ _ _ h => h) (Or.inl ⟨by rfl, ?y7_4⟩) (by assumption) ?r7_4
  case y7_4 => (intro w hSw; (try dsimp only at hSw); go_simp; first | done | with_reducible rfl)
  try simp only [Act.put, List.getElem_toArray, List.getElem_cons_succ, List.getElem_cons_zero, List.setIfInBounds_toArray, List.set_cons_zero, List.set_cons_succ]
  refine wpAnyH_done (by kernel_rfl) ?_ _
  go_upto_region 4 with fail
  have keep2 : ∀ b, Kp (fun b => b = w.heap.size + 1) w0 b → (fun w' => Kp (fun b => b = w.heap.size + 1) w0 w' ∧ w'.cell? ⟨w.heap.size, 12, none⟩ = some (Value.int IntKind.u16 k) ∧ w'.cell? ⟨w.heap.size, 13, none⟩ = some (Value.slice A n c)) b := fun b hk => ⟨hk, (hk.cell (p := ⟨w.heap.size, 12, none⟩) HB0.out.lt (by show ¬ w.heap.size = w.heap.size + 1; omega)).trans C12.out, (hk.cell (p := ⟨w.heap.size, 13, none⟩) HB0.out.lt (by show ¬ w.heap.size = w.heap.size + 1; omega)).trans C13.out⟩
  have KEEP2 := Lib.hid keep2
  clear keep2
  have KC := Lib.hid (KC.out.drew)
  have hq1 : IntKind.u16.wrap ((k : Int) / 256) = (k : Int) / 256 := by rw [IntKind.wrap_u16]; omega
  have hq2 : IntKind.u8.wrap ((k : Int) / 256) = (k : Int) / 256 := by rw [IntKind.wrap_u8']; omega
  have hq3 : (k : Int).tmod 256 = (k : Int) % 256 := by rw [Int.tmod_eq_emod_of_nonneg (by omega)]
  have hq4 : IntKind.u8.wrap ((k : Int) % 256) = (k : Int) % 256 := by rw [IntKind.wrap_u8']; omega
  refine wp_region_held_drew (S := (fun w' => Kp (fun b => b = w.heap.size + 1) w0 w' ∧ w'.cell? ⟨w.heap.size, 12, none⟩ = some (Value.int IntKind.u16 k) ∧ w'.cell? ⟨w.heap.size, 13, none⟩ = some (Value.slice A n c))) (by kernel_rfl) (KEEP2.out _ (KC.out.mono (fun _ h => h.elim))) (fun hHeld => ?_)
  refine wpAnyH_take (i := 0) (v := ?v0_5) rfl (by kernel_rfl) (by kernel_rfl) (by kernel_rfl) (fun _ _ _ h => h) (Or.inl ⟨by rfl, ?y0_5⟩) (by assumption) ?r0_5
  case y0_5 => (intro w hSw; (try dsimp only at hSw); go_simp; first | done | with_reducible rfl)
  try simp only [Act.put, List.getElem_toArray, List.getElem_cons_succ, List.getElem_cons_zero, List.setIfInBounds_toArray, List.set_cons_zero, List.set_cons_succ]
  refine wpAnyH_take (i := 1) (v := ?v1_6) rfl (by kernel_rfl) (by kernel_rfl) (by kernel_rfl) (fun _ _ _ h => h) (Or.inl ⟨by rfl, ?y1_6⟩) (by assumption) ?r1_6
  case y1_6 => (intro w hSw; (try dsimp only at hSw); go_simp; first | done | with_reducible rfl)
  try simp only [Act.put, List.getElem_toArray, List.getElem_cons_succ, List.getElem_cons_zero, List.setIfInBounds_toArray, List.set_cons_zero, List.set_cons_succ]
  refine wpAnyH_take (i := 2) (v := ?v2_7) rfl (by kernel_rfl) (by kernel_rfl) (by kernel_rfl) (fun _ _ _ h => h) (Or.inl ⟨by rfl, ?y2_7⟩) (by assumption) ?r2_7
  case y2_7 => (intro w hSw; (try dsimp only at hSw); go_simp; first | done | with_reducible rfl)
  try simp only [Act.put, List.getElem_toArray, List.getElem_cons_succ, List.getElem_cons_zero, List.setIfInBounds_toArray, List.set_cons_zero, List.set_cons_succ]
  refine wpAnyH_take (i := 3) (v := ?v3_8) rfl (by kernel_rfl) (by kernel_rfl) (by kernel_rfl) (fun _ _ _ h => h) (Or.inl ⟨by rfl, ?y3_8⟩) (by assumption) ?r3_8
  case y3_8 => (intro w hSw; (try dsimp only at hSw); go_simp; first | done | with_reducible rfl)
  try simp only [Act.put, List.getElem_toArray, List.getElem_cons_succ, List.getElem_cons_zero, List.setIfInBounds_toArray, List.set_cons_zero, List.set_cons_succ]
  refine wpAnyH_take (i := 4) (v := ?v4_9) rfl (by kernel_rfl) (by kernel_rfl) (by kernel_rfl) (fun _ _ _ h => h) (Or.inl ⟨by rfl, ?y4_9⟩) (by assumption) ?r4_9
  case y4_9 => (intro w hSw; (try dsimp only at hSw); go_simp; first | done | with_reducible rfl)
  try simp only [Act.put, List.getElem_toArray, List.getElem_cons_succ, List.getElem_cons_zero, List.setIfInBounds_toArray, List.set_cons_zero, List.set_cons_succ]
  refine wpAnyH_take (i := 5) (v := ?v5_10) rfl (by kernel_rfl) (by kernel_rfl) (by kernel_rfl) (fun _ _ _ h => h) (Or.inl ⟨by rfl, ?y5_10⟩) (by assumption) ?r5_10
  case y5_10 => (intro w hSw; (try dsimp only at hSw); go_simp; first | done | with_reducible rfl)
  try simp only [Act.put, List.getElem_toArray, List.getElem_cons_succ, List.getElem_cons_zero, List.setIfInBounds_toArray, List.set_cons_zero, List.set_cons_succ]
  refine wpAnyH_take (i := 6) (v := ?v6_11) rfl (by kernel_rfl) (by kernel_rfl) (by kernel_rfl) (fun _ _ _ h => h) (Or.inl ⟨by rfl, ?y6_11⟩) (by assumption) ?r6_11
  case y6_11 => (intro w hSw; (try dsimp only at hSw); go_simp; first | done | with_reducible rfl)
  try simp only [Act.put, List.getElem_toArray, List.getElem_cons_succ, List.getElem_cons_zero, List.setIfInBounds_toArray, List.set_cons_zero, List.set_cons_succ]
  refine wpAnyH_take (i := 7) (v := ?v7_12) rfl (by kernel_rfl) (by kernel_rfl) (by kernel_rfl) (fun _ _ _ h => h) (Or.inl ⟨by rfl, ?y7_12⟩) (by assumption) ?r7_12
  case y7_12 => (intro w hSw; (try dsimp only at hSw); go_simp; first | done | with_reducible rfl)
  try simp only [Act.put, List.getElem_toArray, List.getElem_cons_succ, List.getElem_cons_zero, List.setIfInBounds_toArray, List.set_cons_zero, List.set_cons_succ]
  refine wpAnyH_take (i := 8) (v := ?v8_13) rfl (by kernel_rfl) (by kernel_rfl) (by kernel_rfl) (fun _ _ _ h => h) (Or.inl ⟨by rfl, ?y8_13⟩) (by assumption) ?r8_13
  case y8_13 => (intro w hSw; (try dsimp only at hSw); go_simp; first | done | with_reducible rfl)
  try simp only [Act.put, List.getElem_toArray, List.getElem_cons_succ, List.getElem_cons_zero, List.setIfInBounds_toArray, List.set_cons_zero, List.set_cons_succ]
  refine wpAnyH_take (i := 11) (v := ?v11_14) rfl (by kernel_rfl) (by kernel_rfl) (by kernel_rfl) (fun _ _ _ h => h) (Or.inl ⟨by rfl, ?y11_14⟩) (by assumption) ?r11_14
  case y11_14 => (intro w hSw; (try dsimp only at hSw); go_simp; first | done | with_reducible rfl)
  try simp only [Act.put, List.getElem_toArray, List.getElem_cons_succ, List.getElem_cons_zero, List.setIfInBounds_toArray, List.set_cons_zero, List.set_cons_succ]
  refine wpAnyH_take (i := 12) (v := ?v12_15) rfl (by kernel_rfl) (by kernel_rfl) (by kernel_rfl) (fun _ _ _ h => h) (Or.inl ⟨by rfl, ?y12_15⟩) (by assumption) ?r12_15
  case y12_15 => (intro w hSw; (try dsimp only at hSw); go_simp; first | done | with_reducible rfl)
  try simp only [Act.put, List.getElem_toArray, List.getElem_cons_succ, List.getElem_cons_zero, List.setIfInBounds_toArray, List.set_cons_zero, List.set_cons_succ]
  refine wpAnyH_take (i := 14) (v := ?v14_16) rfl (by kernel_rfl) (by kernel_rfl) (by kernel_rfl) (fun _ _ _ h => h) (Or.inl ⟨by rfl, ?y14_16⟩) (by assumption) ?r14_16
  case y14_16 => (intro w hSw; (try dsimp only at hSw); go_simp; first | done | with_reducible rfl)
  try simp only [Act.put, List.getElem_toArray, List.getElem_cons_succ, List.getElem_cons_zero, List.setIfInBounds_toArray, List.set_cons_zero, List.set_cons_succ]
  have hnw := Bk.new w2.drew 5 #[.int .u8 ((k : Int) / 256), .int .u8 ((k : Int) % 256)]
  have HNW := Lib.hid (RdI.new w2.drew .u8 5 [(k : Int) / 256, (k : Int) % 256] (by simp))
  refine wpAnyH_ready (rs := [9]) (by kernel_rfl) (by simp) ?_
  refine AllReadyH.cons rfl (fun K hK => ?_) AllReadyH.nil
  go_simp
  have KC := Lib.hid (KC.out.alloc (.cells #[.int .u8 ((k : Int) / 256), .int .u8 ((k : Int) % 256)] 5))
  refine hK.out _ _ (KEEP2.out _ (KC.out.mono (fun _ h => h.elim))) (fun hHeld => ?_)
  clear hK K
  try simp only [Act.put, List.getElem_toArray, List.getElem_cons_succ, List.getElem_cons_zero, List.setIfInBounds_toArray, List.set_cons_zero, List.set_cons_succ]
  refine wpAnyH_ready (rs := [10]) (by kernel_rfl) (by simp) ?_
  refine AllReadyH.cons rfl (fun K hK => ?_) AllReadyH.nil
  rw [if_pos (by rfl)]
  refine wp_append_rd (.tmp 17) (.tmp 26) (by rfl) w0.heap.size KC.out.size v2 (0 + 6 + 6) ([] ++ macL t ++ macL f) (by rfl) (own_kp HO2.out (((Kp.refl (fun _ => False) w2).alloc _).drew) (fun _ _ x => x)) (some ⟨w2.heap.size, 0, none⟩) 2 2 [(k : Int) / 256, (k : Int) % 256] (by rfl) rfl HNW.out (fun h => by cases h) (by omega) ?_
  intro v3 w3 own3 k3
  have KC := Lib.hid (KC.out.trans k3 (fun j hj hk => absurd (HO2.out.lt j hk).1 (by omega)))
  have HO3 := Lib.hid own3
  clear own3 k3
  refine hK.out _ _ (KEEP2.out _ (KC.out.mono (fun _ h => h.elim))) (fun hHeld => ?_)
  clear hK K
  try simp only [Act.put, List.getElem_toArray, List.getElem_cons_succ, List.getElem_cons_zero, List.setIfInBounds_toArray, List.set_cons_zero, List.set_cons_succ]
  refine wpAnyH_ready (rs := [13]) (by kernel_rfl) (by simp) ?_
  refine AllReadyH.cons rfl (fun K hK => ?_) AllReadyH.nil
  rw [if_pos (by rfl)]
  refine wp_append_rd (.tmp 27) (.tmp 29) (by rfl) w0.heap.size KC.out.size v3 (0 + 6 + 6 + 2) ([] ++ macL t ++ macL f ++ [(k : Int) / 256, (k : Int) % 256]) (by rfl) HO3.out A n c ys (by rfl) HL.out (HY.out.kp KC.out (fun _ _ _ x => x)) H0.out (by omega) ?_
  intro v4 w4 own4 k4
  have KC := Lib.hid (KC.out.trans k4 (fun j hj hk => absurd (HO3.out.lt j hk).1 (by omega)))
  have HO4 := Lib.hid own4
  clear own4 k4
  refine hK.out _ _ (KEEP2.out _ (KC.out.mono (fun _ h => h.elim))) (fun hHeld => ?_)
  clear hK K
  try simp only [Act.put, List.getElem_toArray, List.getElem_cons_succ, List.getElem_cons_zero, List.setIfInBounds_toArray, List.set_cons_zero, List.set_cons_succ]
  refine wpAnyH_take (i := 15) (v := ?v15_17) rfl (by kernel_rfl) (by kernel_rfl) (by kernel_rfl) (fun _ _ _ h => h) (Or.inl ⟨by rfl, ?y15_17⟩) (by assumption) ?r15_17
  case y15_17 => (intro w hSw; (try dsimp only at hSw); go_simp; first | done | with_reducible rfl)
  try simp only [Act.put, List.getElem_toArray, List.getElem_cons_succ, List.getElem_cons_zero, List.setIfInBounds_toArray, List.set_cons_zero, List.set_cons_succ]
  have hbr := HB1.out.kept KC.out (fun x => x)
  have kS := Kp.setRow (S := fun b => b = w.heap.size + 1) (Kp.refl _ w4) (.inl rfl) #[.slice none 0 0, .int .i64 0]
  have kT := Kp.setRow (KC.out.mono (T := fun b => b = w.heap.size + 1) (fun _ h => h.elim)) (.inl rfl) #[.slice none 0 0, .int .i64 0]
  refine wpAnyH_ready (rs := [16]) (by kernel_rfl) (by simp) ?_
  refine AllReadyH.cons rfl (fun K hK => ?_) AllReadyH.nil
  rw [if_pos (by rfl)]
  refine wp_store_row 52 (.tmp 3) (.tmp 31) (by rfl) (w.heap.size + 1) #[.slice none 0 0, .int .i64 0] (by rfl) (by rfl) 52 #[.slice none 0 0, .int .i64 0] hbr hi52s rfl (by simp [Value.oneCell']) ?_
  refine hK.out _ _ (KEEP2.out _ kT) (fun hHeld => ?_)
  clear hK K
  try simp only [Act.put, List.getElem_toArray, List.getElem_cons_succ, List.getElem_cons_zero, List.setIfInBounds_toArray, List.set_cons_zero, List.set_cons_succ]
  refine wpAnyH_done (by kernel_rfl) ?_ _
  obtain ⟨A4, c4, rfl, hl4, hr4, hb4⟩ := RdI.of_own (k := .u8) (xs := [] ++ macL t ++ macL f ++ [(k : Int) / 256, (k : Int) % 256] ++ ys) HO4.out
  clear hl4 hr4 hb4
  go_wp2_with fail
  refine bodyPost_ret (results_tc rfl _ _ (w.heap.size + 1) 52 #[.slice none 0 0, .int .i64 0] (0, 0) _ rfl (hbr.setRow _) Tryd.underlying52 rfl hi52s) rfl ?_
  have hbs := HWN.out
  have hf := own_low2 (base' := w.heap.size) (own_kp HO4.out kS (fun j hj h => by subst h; have := (HO4.out.lt _ hj).1; omega)) (by omega)
  refine ⟨_, rfl, ?_, (HK.out.trans' KC.out).setRow (.inr (by omega)) _⟩
  have e14 : 0 + 6 + 6 + 2 + n = 14 + n := by omega
  rw [e14] at hf ⊢
  exact hf
end Go.Proofs.YtconpcnmccmbiaaDoor
namespace Go.Proofs.YtconpcnmccmbiaaDoor
open Go.RowKit Go.Proofs.YtconpcnmccmbiaaDoorW.PrintWords

set_option maxRecDepth 100000 in
set_option maxHeartbeats 8000000 in
theorem rparse_short (A : Option Addr) (c n : Nat) (w : World) (h : n < 14) :
    Calls Tryd.prog 48 #[.slice A n c] w fun ev w' => ∃ A2 c2, ev = .returned (.tuple #[.agg frm0, .agg #[.slice A2 1 c2, .int .i64 12]]) ∧ RdI w' .i64 A2 [1] ∧ 1 ≤ c2 ∧ Kp (fun _ => False) w w' := by
  have h1 : (n : Int) < 14 := by omega
  have kA := ((Kp.refl (fun _ => False) w).alloc (.cells #[.int .u8 0, .int .u8 0, .int .u8 0, .int .u8 0, .int .u8 0, .int .u8 0, .int .u8 0, .int .u8 0, .int .u8 0, .int .u8 0, .int .u8 0, .int .u8 0, .int .u16 0, .slice none 0 0] 81)).alloc (.cells #[.slice none 0 0, .int .i64 0] 52)
  have hb0 := (Bk.new w 81 #[.int .u8 0, .int .u8 0, .int .u8 0, .int .u8 0, .int .u8 0, .int .u8 0, .int .u8 0, .int .u8 0, .int .u8 0, .int .u8 0, .int .u8 0, .int .u8 0, .int .u16 0, .slice none 0 0]).alloc (.cells #[.slice none 0 0, .int .i64 0] 52)
  have hb1 := Bk.new (w.alloc (.cells #[.int .u8 0, .int .u8 0, .int .u8 0, .int .u8 0, .int .u8 0, .int .u8 0, .int .u8 0, .int .u8 0, .int .u8 0, .int .u8 0, .int .u8 0, .int .u8 0, .int .u16 0, .slice none 0 0] 81)) 52 #[.slice none 0 0, .int .i64 0]
  rw [show (w.alloc (.cells #[.int .u8 0, .int .u8 0, .int .u8 0, .int .u8 0, .int .u8 0, .int .u8 0, .int .u8 0, .int .u8 0, .int .u8 0, .int .u8 0, .int .u8 0, .int .u8 0, .int .u16 0, .slice none 0 0] 81)).heap.size = w.heap.size + 1 by simp] at hb1
  have HB0 := Lib.hid hb0
  have HB1 := Lib.hid hb1
  have HK := Lib.hid kA
  clear kA hb0 hb1
  go_enter Tryd.func48, Tryd.ntmps48
  go_wp2_with fail
  refine (fnew_any 1 12 _).mono ?_
  rintro ev w1 ⟨u, l, e, rfl, hni, k1⟩
  obtain ⟨rfl, rfl⟩ := newIs_yes hni (by decide) (by decide)
  obtain ⟨A2, c2, rfl, hlc, _, rd⟩ := hni.1.read
  have hb0 := HB0.out.kept k1 (fun x => x)
  have hb1 := HB1.out.kept k1 (fun x => x)
  have K1 := Lib.hid (HK.out.trans' k1)
  have hown : ∀ b o, A2 = some ⟨b, o, none⟩ → b ≠ w.heap.size + 1 ∧ b ≠ w.heap.size := by
    rintro b o rfl
    exact ⟨fun h => by subst h; exact hni.1.ne hb1 (by decide) rfl, fun h => by subst h; exact hni.1.ne hb0 (by decide) rfl⟩
  have HR := Lib.hid rd
  have HOW := Lib.hid hown
  have kS := Kp.setRow (S := fun b => b = w.heap.size) (Kp.refl _ w1) (.inl rfl) #[.int .u8 0, .int .u8 0, .int .u8 0, .int .u8 0, .int .u8 0, .int .u8 0, .int .u8 0, .int .u8 0, .int .u8 0, .int .u8 0, .int .u8 0, .int .u8 0, .int .u16 0, .slice none 0 0]
  have hb1' := hb1.kept kS (by show ¬ w.heap.size + 1 = w.heap.size; omega)
  have kS2 := Kp.setRow (S := fun b => b = w.heap.size + 1) (Kp.refl _ (w1.setRow w.heap.size #[.int .u8 0, .int .u8 0, .int .u8 0, .int .u8 0, .int .u8 0, .int .u8 0, .int .u8 0, .int .u8 0, .int .u8 0, .int .u8 0, .int .u8 0, .int .u8 0, .int .u16 0, .slice none 0 0])) (.inl rfl) #[.slice A2 1 c2, .int .i64 12]
  have hb0' := (hb0.setRow #[.int .u8 0, .int .u8 0, .int .u8 0, .int .u8 0, .int .u8 0, .int .u8 0, .int .u8 0, .int .u8 0, .int .u8 0, .int .u8 0, .int .u8 0, .int .u8 0, .int .u16 0, .slice none 0 0]).kept kS2 (by show ¬ w.heap.size = w.heap.size + 1; omega)
  have K2 := Lib.hid ((K1.out.setRow (.inr (Nat.le_refl _)) #[.int .u8 0, .int .u8 0, .int .u8 0, .int .u8 0, .int .u8 0, .int .u8 0, .int .u8 0, .int .u8 0, .int .u8 0, .int .u8 0, .int .u8 0, .int .u8 0, .int .u16 0, .slice none 0 0]).setRow (g := w.heap.size + 1) (.inr (by omega)) #[.slice A2 1 c2, .int .i64 12])
  have HR2 := Lib.hid ((HR.out.kp kS (fun b o h h2 => (HOW.out b o h).2 h2)).kp kS2 (fun b o h h2 => (HOW.out b o h).1 h2))
  have HB0' := Lib.hid hb0'
  have HKS := Lib.hid kS
  clear k1 hni rd hown kS kS2 hb0'
  go_wp2_with
    (first
    | ((with_reducible refine gate_store (t := 81) (p := 2) (v := .tmp 9) rfl ?_)
       go_must (refine wpList_store_row (by rfl) 81 (.tmp 2) (.tmp 9) (by rfl) w.heap.size #[.int .u8 0, .int .u8 0, .int .u8 0, .int .u8 0, .int .u8 0, .int .u8 0, .int .u8 0, .int .u8 0, .int .u8 0, .int .u8 0, .int .u8 0, .int .u8 0, .int .u16 0, .slice none 0 0] (by rfl) (by rfl) 81 #[.int .u8 0, .int .u8 0, .int .u8 0, .int .u8 0, .int .u8 0, .int .u8 0, .int .u8 0, .int .u8 0, .int .u8 0, .int .u8 0, .int .u8 0, .int .u8 0, .int .u16 0, .slice none 0 0] hb0 hi81s rfl (by simp [Value.oneCell']) ?_))
    | ((with_reducible refine gate_store (t := 52) (p := 3) (v := .tmp 10) rfl ?_)
       go_must (refine wpList_store_row (by rfl) 52 (.tmp 3) (.tmp 10) (by rfl) (w.heap.size + 1) #[.slice A2 1 c2, .int .i64 12] (by rfl) (by rfl) 52 #[.slice none 0 0, .int .i64 0] hb1' hi52s rfl (by simp [Value.oneCell']) ?_)))
  refine bodyPost_ret (results_cc rfl _ _ w.heap.size (w.heap.size + 1) 81 52 #[.int .u8 0, .int .u8 0, .int .u8 0, .int .u8 0, .int .u8 0, .int .u8 0, .int .u8 0, .int .u8 0, .int .u8 0, .int .u8 0, .int .u8 0, .int .u8 0, .int .u16 0, .slice none 0 0] #[.slice A2 1 c2, .int .i64 12] (0, 0) (0, 0) _ _ rfl HB0'.out Tryd.underlying81 rfl hi81s rfl (hb1'.setRow _) Tryd.underlying52 rfl hi52s) rfl ?_
  exact ⟨A2, c2, rfl, HR2.out, hlc, K2.out⟩
set_option maxRecDepth 100000 in
set_option maxHeartbeats 8000000 in
theorem rparse_long (A : Option Addr) (c n : Nat) (w : World) (h : 1514 < n) :
    Calls Tryd.prog 48 #[.slice A n c] w fun ev w' => ∃ A2 c2, ev = .returned (.tuple #[.agg frm0, .agg #[.slice A2 1 c2, .int .i64 11]]) ∧ RdI w' .i64 A2 [1] ∧ 1 ≤ c2 ∧ Kp (fun _ => False) w w' := by
  have h1 : ¬ ((n : Int) < 14) := by omega
  have h2 : (1514 : Int) < (n : Int) := by omega
  have kA := ((Kp.refl (fun _ => False) w).alloc (.cells #[.int .u8 0, .int .u8 0, .int .u8 0, .int .u8 0, .int .u8 0, .int .u8 0, .int .u8 0, .int .u8 0, .int .u8 0, .int .u8 0, .int .u8 0, .int .u8 0, .int .u16 0, .slice none 0 0] 81)).alloc (.cells #[.slice none 0 0, .int .i64 0] 52)
  have hb0 := (Bk.new w 81 #[.int .u8 0, .int .u8 0, .int .u8 0, .int .u8 0, .int .u8 0, .int .u8 0, .int .u8 0, .int .u8 0, .int .u8 0, .int .u8 0, .int .u8 0, .int .u8 0, .int .u16 0, .slice none 0 0]).alloc (.cells #[.slice none 0 0, .int .i64 0] 52)
  have hb1 := Bk.new (w.alloc (.cells #[.int .u8 0, .int .u8 0, .int .u8 0, .int .u8 0, .int .u8 0, .int .u8 0, .int .u8 0, .int .u8 0, .int .u8 0, .int .u8 0, .int .u8 0, .int .u8 0, .int .u16 0, .slice none 0 0] 81)) 52 #[.slice none 0 0, .int .i64 0]
  rw [show (w.alloc (.cells #[.int .u8 0, .int .u8 0, .int .u8 0, .int .u8 0, .int .u8 0, .int .u8 0, .int .u8 0, .int .u8 0, .int .u8 0, .int .u8 0, .int .u8 0, .int .u8 0, .int .u16 0, .slice none 0 0] 81)).heap.size = w.heap.size + 1 by simp] at hb1
  have HB0 := Lib.hid hb0
  have HB1 := Lib.hid hb1
  have HK := Lib.hid kA
  clear kA hb0 hb1
  go_enter Tryd.func48, Tryd.ntmps48
  go_wp2_with fail
  refine (fnew_any 1 11 _).mono ?_
  rintro ev w1 ⟨u, l, e, rfl, hni, k1⟩
  obtain ⟨rfl, rfl⟩ := newIs_yes hni (by decide) (by decide)
  obtain ⟨A2, c2, rfl, hlc, _, rd⟩ := hni.1.read
  have hb0 := HB0.out.kept k1 (fun x => x)
  have hb1 := HB1.out.kept k1 (fun x => x)
  have K1 := Lib.hid (HK.out.trans' k1)
  have hown : ∀ b o, A2 = some ⟨b, o, none⟩ → b ≠ w.heap.size + 1 ∧ b ≠ w.heap.size := by
    rintro b o rfl
    exact ⟨fun h => by subst h; exact hni.1.ne hb1 (by decide) rfl, fun h => by subst h; exact hni.1.ne hb0 (by decide) rfl⟩
  have HR := Lib.hid rd
  have HOW := Lib.hid hown
  have kS := Kp.setRow (S := fun b => b = w.heap.size) (Kp.refl _ w1) (.inl rfl) #[.int .u8 0, .int .u8 0, .int .u8 0, .int .u8 0, .int .u8 0, .int .u8 0, .int .u8 0, .int .u8 0, .int .u8 0, .int .u8 0, .int .u8 0, .int .u8 0, .int .u16 0, .slice none 0 0]
  have hb1' := hb1.kept kS (by show ¬ w.heap.size + 1 = w.heap.size; omega)
  have kS2 := Kp.setRow (S := fun b => b = w.heap.size + 1) (Kp.refl _ (w1.setRow w.heap.size #[.int .u8 0, .int .u8 0, .int .u8 0, .int .u8 0, .int .u8 0, .int .u8 0, .int .u8 0, .int .u8 0, .int .u8 0, .int .u8 0, .int .u8 0, .int .u8 0, .int .u16 0, .slice none 0 0])) (.inl rfl) #[.slice A2 1 c2, .int .i64 11]
  have hb0' := (hb0.setRow #[.int .u8 0, .int .u8 0, .int .u8 0, .int .u8 0, .int .u8 0, .int .u8 0, .int .u8 0, .int .u8 0, .int .u8 0, .int .u8 0, .int .u8 0, .int .u8 0, .int .u16 0, .slice none 0 0]).kept kS2 (by show ¬ w.heap.size = w.heap.size + 1; omega)
  have K2 := Lib.hid ((K1.out.setRow (.inr (Nat.le_refl _)) #[.int .u8 0, .int .u8 0, .int .u8 0, .int .u8 0, .int .u8 0, .int .u8 0, .int .u8 0, .int .u8 0, .int .u8 0, .int .u8 0, .int .u8 0, .int .u8 0, .int .u16 0, .slice none 0 0]).setRow (g := w.heap.size + 1) (.inr (by omega)) #[.slice A2 1 c2, .int .i64 11])
  have HR2 := Lib.hid ((HR.out.kp kS (fun b o h h2 => (HOW.out b o h).2 h2)).kp kS2 (fun b o h h2 => (HOW.out b o h).1 h2))
  have HB0' := Lib.hid hb0'
  have HKS := Lib.hid kS
  clear k1 hni rd hown kS kS2 hb0'
  go_wp2_with
    (first
    | ((with_reducible refine gate_store (t := 81) (p := 2) (v := .tmp 14) rfl ?_)
       go_must (refine wpList_store_row (by rfl) 81 (.tmp 2) (.tmp 14) (by rfl) w.heap.size #[.int .u8 0, .int .u8 0, .int .u8 0, .int .u8 0, .int .u8 0, .int .u8 0, .int .u8 0, .int .u8 0, .int .u8 0, .int .u8 0, .int .u8 0, .int .u8 0, .int .u16 0, .slice none 0 0] (by rfl) (by rfl) 81 #[.int .u8 0, .int .u8 0, .int .u8 0, .int .u8 0, .int .u8 0, .int .u8 0, .int .u8 0, .int .u8 0, .int .u8 0, .int .u8 0, .int .u8 0, .int .u8 0, .int .u16 0, .slice none 0 0] hb0 hi81s rfl (by simp [Value.oneCell']) ?_))
    | ((with_reducible refine gate_store (t := 52) (p := 3) (v := .tmp 15) rfl ?_)
       go_must (refine wpList_store_row (by rfl) 52 (.tmp 3) (.tmp 15) (by rfl) (w.heap.size + 1) #[.slice A2 1 c2, .int .i64 11] (by rfl) (by rfl) 52 #[.slice none 0 0, .int .i64 0] hb1' hi52s rfl (by simp [Value.oneCell']) ?_)))
  refine bodyPost_ret (results_cc rfl _ _ w.heap.size (w.heap.size + 1) 81 52 #[.int .u8 0, .int .u8 0, .int .u8 0, .int .u8 0, .int .u8 0, .int .u8 0, .int .u8 0, .int .u8 0, .int .u8 0, .int .u8 0, .int .u8 0, .int .u8 0, .int .u16 0, .slice none 0 0] #[.slice A2 1 c2, .int .i64 11] (0, 0) (0, 0) _ _ rfl HB0'.out Tryd.underlying81 rfl hi81s rfl (hb1'.setRow _) Tryd.underlying52 rfl hi52s) rfl ?_
  exact ⟨A2, c2, rfl, HR2.out, hlc, K2.out⟩
set_option maxRecDepth 100000 in
set_option maxHeartbeats 8000000 in
theorem rparse_odd (b o c n : Nat) (xs : List Int) (w : World) (hx : RdI w .u8 (some ⟨b, o, none⟩) xs) (hb : Byt xs) (hn : xs.length = n) (h1 : 14 ≤ n) (h2 : n ≤ 1514) (hod : xs.getD 6 0 % 2 = 1) :
    Calls Tryd.prog 48 #[.slice (some ⟨b, o, none⟩) n c] w fun ev w' => ∃ A2 c2, ev = .returned (.tuple #[.agg frm0, .agg #[.slice A2 1 c2, .int .i64 10]]) ∧ RdI w' .i64 A2 [1] ∧ 1 ≤ c2 ∧ Kp (fun _ => False) w w' := by
  have g1 : ¬ ((n : Int) < 14) := by omega
  have g2 : ¬ ((1514 : Int) < (n : Int)) := by omega
  have g3 : (6 : Int) < (n : Int) := by omega
  have hc6 : w.cell? ⟨b, o + 6, none⟩ = some (.int .u8 (xs.getD 6 0)) := by
    rcases hx.2 with h | ⟨b', o', hA, h⟩
    · omega
    · cases hA
      exact h 6 (by omega)
  obtain ⟨x6, hx6⟩ : ∃ x, xs.getD 6 0 = x := ⟨_, rfl⟩
  have hb6 := hb 6
  rw [hx6] at hc6 hod hb6
  have hodb : (x6 % 2 == 1) = true := by simp [hod]
  have hbl : b < w.heap.size := World.block_lt_of_cell? w _ hc6
  have kA := ((Kp.refl (fun _ => False) w).alloc (.cells #[.int .u8 0, .int .u8 0, .int .u8 0, .int .u8 0, .int .u8 0, .int .u8 0, .int .u8 0, .int .u8 0, .int .u8 0, .int .u8 0, .int .u8 0, .int .u8 0, .int .u16 0, .slice none 0 0] 81)).alloc (.cells #[.slice none 0 0, .int .i64 0] 52)
  have hb0 := (Bk.new w 81 #[.int .u8 0, .int .u8 0, .int .u8 0, .int .u8 0, .int .u8 0, .int .u8 0, .int .u8 0, .int .u8 0, .int .u8 0, .int .u8 0, .int .u8 0, .int .u8 0, .int .u16 0, .slice none 0 0]).alloc (.cells #[.slice none 0 0, .int .i64 0] 52)
  have hb1 := Bk.new (w.alloc (.cells #[.int .u8 0, .int .u8 0, .int .u8 0, .int .u8 0, .int .u8 0, .int .u8 0, .int .u8 0, .int .u8 0, .int .u8 0, .int .u8 0, .int .u8 0, .int .u8 0, .int .u16 0, .slice none 0 0] 81)) 52 #[.slice none 0 0, .int .i64 0]
  rw [show (w.alloc (.cells #[.int .u8 0, .int .u8 0, .int .u8 0, .int .u8 0, .int .u8 0, .int .u8 0, .int .u8 0, .int .u8 0, .int .u8 0, .int .u8 0, .int .u8 0, .int .u8 0, .int .u16 0, .slice none 0 0] 81)).heap.size = w.heap.size + 1 by simp] at hb1
  have HB0 := Lib.hid hb0
  have HB1 := Lib.hid hb1
  have HK := Lib.hid kA
  have c6 := (kA.cell (p := ⟨b, o + 6, none⟩) hbl (fun f => f)).trans hc6
  clear hc6 hx hb hn hx6
  clear kA hb0 hb1
  go_enter Tryd.func48, Tryd.ntmps48
  go_wp2_with fail
  refine (fnew_any 1 10 _).mono ?_
  rintro ev w1 ⟨u, l, e, rfl, hni, k1⟩
  obtain ⟨rfl, rfl⟩ := newIs_yes hni (by decide) (by decide)
  obtain ⟨A2, c2, rfl, hlc, _, rd⟩ := hni.1.read
  have hb0 := HB0.out.kept k1 (fun x => x)
  have hb1 := HB1.out.kept k1 (fun x => x)
  have K1 := Lib.hid (HK.out.trans' k1)
  have hown : ∀ b o, A2 = some ⟨b, o, none⟩ → b ≠ w.heap.size + 1 ∧ b ≠ w.heap.size := by
    rintro b o rfl
    exact ⟨fun h => by subst h; exact hni.1.ne hb1 (by decide) rfl, fun h => by subst h; exact hni.1.ne hb0 (by decide) rfl⟩
  have HR := Lib.hid rd
  have HOW := Lib.hid hown
  have kS := Kp.setRow (S := fun b => b = w.heap.size) (Kp.refl _ w1) (.inl rfl) #[.int .u8 0, .int .u8 0, .int .u8 0, .int .u8 0, .int .u8 0, .int .u8 0, .int .u8 0, .int .u8 0, .int .u8 0, .int .u8 0, .int .u8 0, .int .u8 0, .int .u16 0, .slice none 0 0]
  have hb1' := hb1.kept kS (by show ¬ w.heap.size + 1 = w.heap.size; omega)
  have kS2 := Kp.setRow (S := fun b => b = w.heap.size + 1) (Kp.refl _ (w1.setRow w.heap.size #[.int .u8 0, .int .u8 0, .int .u8 0, .int .u8 0, .int .u8 0, .int .u8 0, .int .u8 0, .int .u8 0, .int .u8 0, .int .u8 0, .int .u8 0, .int .u8 0, .int .u16 0, .slice none 0 0])) (.inl rfl) #[.slice A2 1 c2, .int .i64 10]
  have hb0' := (hb0.setRow #[.int .u8 0, .int .u8 0, .int .u8 0, .int .u8 0, .int .u8 0, .int .u8 0, .int .u8 0, .int .u8 0, .int .u8 0, .int .u8 0, .int .u8 0, .int .u8 0, .int .u16 0, .slice none 0 0]).kept kS2 (by show ¬ w.heap.size = w.heap.size + 1; omega)
  have K2 := Lib.hid ((K1.out.setRow (.inr (Nat.le_refl _)) #[.int .u8 0, .int .u8 0, .int .u8 0, .int .u8 0, .int .u8 0, .int .u8 0, .int .u8 0, .int .u8 0, .int .u8 0, .int .u8 0, .int .u8 0, .int .u8 0, .int .u16 0, .slice none 0 0]).setRow (g := w.heap.size + 1) (.inr (by omega)) #[.slice A2 1 c2, .int .i64 10])
  have HR2 := Lib.hid ((HR.out.kp kS (fun b o h h2 => (HOW.out b o h).2 h2)).kp kS2 (fun b o h h2 => (HOW.out b o h).1 h2))
  have HB0' := Lib.hid hb0'
  have HKS := Lib.hid kS
  clear k1 hni rd hown kS kS2 hb0'
  go_wp2_with
    (first
    | ((with_reducible refine gate_store (t := 81) (p := 2) (v := .tmp 21) rfl ?_)
       go_must (refine wpList_store_row (by rfl) 81 (.tmp 2) (.tmp 21) (by rfl) w.heap.size #[.int .u8 0, .int .u8 0, .int .u8 0, .int .u8 0, .int .u8 0, .int .u8 0, .int .u8 0, .int .u8 0, .int .u8 0, .int .u8 0, .int .u8 0, .int .u8 0, .int .u16 0, .slice none 0 0] (by rfl) (by rfl) 81 #[.int .u8 0, .int .u8 0, .int .u8 0, .int .u8 0, .int .u8 0, .int .u8 0, .int .u8 0, .int .u8 0, .int .u8 0, .int .u8 0, .int .u8 0, .int .u8 0, .int .u16 0, .slice none 0 0] hb0 hi81s rfl (by simp [Value.oneCell']) ?_))
    | ((with_reducible refine gate_store (t := 52) (p := 3) (v := .tmp 22) rfl ?_)
       go_must (refine wpList_store_row (by rfl) 52 (.tmp 3) (.tmp 22) (by rfl) (w.heap.size + 1) #[.slice A2 1 c2, .int .i64 10] (by rfl) (by rfl) 52 #[.slice none 0 0, .int .i64 0] hb1' hi52s rfl (by simp [Value.oneCell']) ?_)))
  refine bodyPost_ret (results_cc rfl _ _ w.heap.size (w.heap.size + 1) 81 52 #[.int .u8 0, .int .u8 0, .int .u8 0, .int .u8 0, .int .u8 0, .int .u8 0, .int .u8 0, .int .u8 0, .int .u8 0, .int .u8 0, .int .u8 0, .int .u8 0, .int .u16 0, .slice none 0 0] #[.slice A2 1 c2, .int .i64 10] (0, 0) (0, 0) _ _ rfl HB0'.out Tryd.underlying81 rfl hi81s rfl (hb1'.setRow _) Tryd.underlying52 rfl hi52s) rfl ?_
  exact ⟨A2, c2, rfl, HR2.out, hlc, K2.out⟩
theorem own_type5 {w : World} {base n : Nat} {v : Value} {xs : List Value} (hown : w.ownsRow base 5 1 v n xs) {k : Nat} {t : TypeId} {cs : Array Value} (hb : Bk w k t cs) (ht : 5 ≠ t) : ¬ (v.ownBlock = some k) := by
  intro hk
  rcases hown.2 with ⟨rfl, _⟩ | ⟨gg, cap, cur, rfl, _, hh, _⟩
  · cases hk
  · have : gg = k := by simpa [Value.ownBlock] using hk
    subst this
    have h2 := hh.symm.trans hb
    simp at h2
    exact ht h2.2
/-- What lies behind the region that makes the reference's frame. -/
def RefMid (H : Nat) (w0 : World) (k : Int) (m : Nat) (ys : List Int) (s4 : Value) (wx : World) : Prop :=
  ∃ g A2 d2, s4 = .pointer (some ⟨g, 0, none⟩) ∧ H ≤ g ∧ Bk wx g 81 (frm (fun _ => 0) (fun _ => 0) k (.slice A2 m d2)) ∧ wx.ownsRow H 5 1 (.slice A2 m d2) m (intsK .u8 ys) ∧ Kp (fun _ => False) w0 wx
set_option maxRecDepth 100000 in
set_option maxHeartbeats 40000000 in
theorem rparse_mid (b o c n m : Nat) (xs : List Int) (w : World) (hx : RdI w .u8 (some ⟨b, o, none⟩) xs) (hb : Byt xs) (hn : xs.length = n) (hm : (xs.drop 14).length = m) (h1 : 14 ≤ n) (h2 : n ≤ 1514) (hc : n ≤ c) (hod : xs.getD 6 0 % 2 = 0) :
    Calls Tryd.prog 48 #[.slice (some ⟨b, o, none⟩) n c] w fun ev w' => ∃ A2 c2, ev = .returned (.tuple #[.agg (frm (fun i => xs.getD i 0) (fun i => xs.getD (6 + i) 0) (xs.getD 12 0 * 256 + xs.getD 13 0) (.slice A2 m c2)), .agg #[.slice none 0 0, .int .i64 0]]) ∧ w'.ownsRow w.heap.size 5 1 (.slice A2 m c2) m (intsK .u8 (xs.drop 14)) ∧ Kp (fun _ => False) w w' := by
  have hcc : ∀ j, j < n → w.cell? ⟨b, o + j, none⟩ = some (.int .u8 (xs.getD j 0)) := by
    rcases hx.2 with h | ⟨b', o', hA, h⟩
    · omega
    · cases hA
      exact fun j hj => h j (by omega)
  obtain ⟨x, hX⟩ : ∃ x : Nat → Int, (fun i => xs.getD i 0) = x := ⟨_, rfl⟩
  have hxj : ∀ j, xs.getD j 0 = x j := fun j => congrFun hX j
  clear hX
  have hxb : ∀ j, 0 ≤ x j ∧ x j < 256 := fun j => by have := hb j; rwa [hxj] at this
  rw [hxj] at hod
  have hodb : (x 6 % 2 == 1) = false := by simp [hod]
  have g1 : ¬ ((n : Int) < 14) := by omega
  have g2 : ¬ ((1514 : Int) < (n : Int)) := by omega
  have hbl : b < w.heap.size := World.block_lt_of_cell? w _ (hcc 0 (by omega))
  have kA := ((Kp.refl (fun _ => False) w).alloc (.cells #[.int .u8 0, .int .u8 0, .int .u8 0, .int .u8 0, .int .u8 0, .int .u8 0, .int .u8 0, .int .u8 0, .int .u8 0, .int .u8 0, .int .u8 0, .int .u8 0, .int .u16 0, .slice none 0 0] 81)).alloc (.cells #[.slice none 0 0, .int .i64 0] 52)
  have hb0 := (Bk.new w 81 #[.int .u8 0, .int .u8 0, .int .u8 0, .int .u8 0, .int .u8 0, .int .u8 0, .int .u8 0, .int .u8 0, .int .u8 0, .int .u8 0, .int .u8 0, .int .u8 0, .int .u16 0, .slice none 0 0]).alloc (.cells #[.slice none 0 0, .int .i64 0] 52)
  have hb1 := Bk.new (w.alloc (.cells #[.int .u8 0, .int .u8 0, .int .u8 0, .int .u8 0, .int .u8 0, .int .u8 0, .int .u8 0, .int .u8 0, .int .u8 0, .int .u8 0, .int .u8 0, .int .u8 0, .int .u16 0, .slice none 0 0] 81)) 52 #[.slice none 0 0, .int .i64 0]
  rw [show (w.alloc (.cells #[.int .u8 0, .int .u8 0, .int .u8 0, .int .u8 0, .int .u8 0, .int .u8 0, .int .u8 0, .int .u8 0, .int .u8 0, .int .u8 0, .int .u8 0, .int .u8 0, .int .u16 0, .slice none 0 0] 81)).heap.size = w.heap.size + 1 by simp] at hb1
  have hws : ((w.alloc (.cells #[.int .u8 0, .int .u8 0, .int .u8 0, .int .u8 0, .int .u8 0, .int .u8 0, .int .u8 0, .int .u8 0, .int .u8 0, .int .u8 0, .int .u8 0, .int .u8 0, .int .u16 0, .slice none 0 0] 81)).alloc (.cells #[.slice none 0 0, .int .i64 0] 52)).heap.size = w.heap.size + 2 := by simp
  have hcA : ∀ j, j < 14 → ((w.alloc (.cells #[.int .u8 0, .int .u8 0, .int .u8 0, .int .u8 0, .int .u8 0, .int .u8 0, .int .u8 0, .int .u8 0, .int .u8 0, .int .u8 0, .int .u8 0, .int .u8 0, .int .u16 0, .slice none 0 0] 81)).alloc (.cells #[.slice none 0 0, .int .i64 0] 52)).cell? ⟨b, o + j, none⟩ = some (.int .u8 (x j)) := fun j hj => by
    rw [← hxj j, ← hcc j (by omega)]
    exact kA.cell (p := ⟨b, o + j, none⟩) hbl (fun f => f)
  have HB0 := Lib.hid hb0
  have HB1 := Lib.hid hb1
  have HK := Lib.hid kA
  have HXA := Lib.hid (hx.kp kA (fun _ _ _ f => f))
  have HXJ := Lib.hid hxj
  have HXB := Lib.hid hxb
  have HCA := Lib.hid hcA
  have HWS := Lib.hid hws
  have HN := Lib.hid hn
  have HM := Lib.hid hm
  have c6 := hcA 6 (by omega)
  have hb6 := hxb 6
  clear kA hb0 hb1 hx hb hxj hxb hcA hws hcc hn hm hod
  have i0 : (0 : Int) < (n : Int) := by omega
  have i1 : (1 : Int) < (n : Int) := by omega
  have i2 : (2 : Int) < (n : Int) := by omega
  have i3 : (3 : Int) < (n : Int) := by omega
  have i4 : (4 : Int) < (n : Int) := by omega
  have i5 : (5 : Int) < (n : Int) := by omega
  have i6 : (6 : Int) < (n : Int) := by omega
  have i7 : (7 : Int) < (n : Int) := by omega
  have i8 : (8 : Int) < (n : Int) := by omega
  have i9 : (9 : Int) < (n : Int) := by omega
  have i10 : (10 : Int) < (n : Int) := by omega
  have i11 : (11 : Int) < (n : Int) := by omega
  have i12 : (12 : Int) < (n : Int) := by omega
  have i13 : (13 : Int) < (n : Int) := by omega
  have g5 : (14 : Int) ≤ (n : Int) := by omega
  go_enter Tryd.func48, Tryd.ntmps48
  go_upto_region 7 with fail
  generalize (w.alloc (.cells #[.int .u8 0, .int .u8 0, .int .u8 0, .int .u8 0, .int .u8 0, .int .u8 0, .int .u8 0, .int .u8 0, .int .u8 0, .int .u8 0, .int .u8 0, .int .u8 0, .int .u16 0, .slice none 0 0] 81)).alloc (.cells #[.slice none 0 0, .int .i64 0] 52) = w0 at *
  have hb12 := HXB.out 12
  have hb13 := HXB.out 13
  have e0 : IntKind.i64.wrap (x 12) = x 12 := IntWalk.i64_in _ (by omega)
  have e0' : IntKind.i64.wrap (x 13) = x 13 := IntWalk.i64_in _ (by omega)
  have e1 : IntKind.i64.wrap (x 12 * 256) = x 12 * 256 := IntWalk.i64_in _ (by omega)
  have e2 : IntKind.i64.wrap (x 12 * 256 + x 13) = x 12 * 256 + x 13 := IntWalk.i64_in _ (by omega)
  have e3 : IntKind.u16.wrap (x 12 * 256 + x 13) = x 12 * 256 + x 13 := by rw [IntKind.wrap_u16]; omega
  have hrt : RdI w0 .u8 (if c = 14 then some ⟨b, o, none⟩ else some ⟨b, o + 14, none⟩) (xs.drop 14) := by
    refine ⟨by rw [HM.out]; have := HM.out; simp at this; have := HN.out; omega, ?_⟩
    by_cases h14 : c = 14
    · left; simp; have := HN.out; omega
    · right
      refine ⟨b, o + 14, by rw [if_neg h14], fun j hj => ?_⟩
      have hj2 : j < xs.length - 14 := by simpa using hj
      have e1 : (xs.drop 14).getD j 0 = xs.getD (14 + j) 0 := by simp [List.getD, List.getElem?_drop]
      rcases HXA.out.2 with h | ⟨b', o', hA, h⟩
      · omega
      · cases hA
        rw [e1, show o + 14 + j = o + (14 + j) by omega]
        exact h _ (by omega)
  obtain ⟨AD, hAD, hrt2⟩ : ∃ AD, (if c = 14 then some (⟨b, o, none⟩ : Addr) else some ⟨b, o + 14, none⟩) = AD ∧ RdI w0 .u8 AD (xs.drop 14) := ⟨_, rfl, hrt⟩
  have hADn : AD = none → c - 14 = 0 := by
    rintro rfl
    by_cases h : c = 14
    · omega
    · rw [if_neg h] at hAD; cases hAD
  have hdl : n - 14 = m := by have h := HM.out; simp at h; have := HN.out; omega
  have HRT := Lib.hid hrt2
  have HADN := Lib.hid hADn
  have HDL := Lib.hid hdl
  clear hrt hrt2 hADn
  have keep : ∀ v, Kp (fun _ => False) w0 v → (fun w' => Kp (fun _ => False) w0 w' ∧ w'.cell? ⟨b, o + 12, none⟩ = some (.int .u8 (x 12)) ∧ w'.cell? ⟨b, o + 13, none⟩ = some (.int .u8 (x 13))) v := fun v hk => ⟨hk, (hk.cell (p := ⟨b, o + 12, none⟩) (World.block_lt_of_cell? w0 _ (HCA.out 12 (by omega))) (fun f => f)).trans (HCA.out 12 (by omega)), (hk.cell (p := ⟨b, o + 13, none⟩) (World.block_lt_of_cell? w0 _ (HCA.out 13 (by omega))) (fun f => f)).trans (HCA.out 13 (by omega))⟩
  have KEEP := Lib.hid keep
  have KC := Lib.hid ((Kp.refl (fun _ => False) w0).drew)
  clear keep
  go_cut [4] from 5 to 60 (fun s4 wx => RefMid w0.heap.size w0 (x 12 * 256 + x 13) m (xs.drop 14) s4 wx)
  case first =>
    refine wp_region_held_drew (S := (fun w' => Kp (fun _ => False) w0 w' ∧ w'.cell? ⟨b, o + 12, none⟩ = some (.int .u8 (x 12)) ∧ w'.cell? ⟨b, o + 13, none⟩ = some (.int .u8 (x 13)))) (by kernel_rfl) (KEEP.out _ KC.out) (fun hHeld => ?_)
    refine wpAnyH_take (i := 0) (v := ?v0_0) rfl (by kernel_rfl) (by kernel_rfl) (by kernel_rfl) (fun _ _ _ h => h) (Or.inl ⟨by rfl, ?y0_0⟩) (by assumption) ?r0_0
    case y0_0 => (intro w hSw; (try dsimp only at hSw); go_simp; first | done | with_reducible rfl)
    try simp only [Act.put, List.getElem_toArray, List.getElem_cons_succ, List.getElem_cons_zero, List.setIfInBounds_toArray, List.set_cons_zero, List.set_cons_succ]
    refine wpAnyH_take (i := 1) (v := ?v1_1) rfl (by kernel_rfl) (by kernel_rfl) (by kernel_rfl) (fun _ _ _ h => h) (Or.inl ⟨by rfl, ?y1_1⟩) (by assumption) ?r1_1
    case y1_1 => (intro w hSw; (try dsimp only at hSw); go_simp; first | done | with_reducible rfl)
    try simp only [Act.put, List.getElem_toArray, List.getElem_cons_succ, List.getElem_cons_zero, List.setIfInBounds_toArray, List.set_cons_zero, List.set_cons_succ]
    refine wpAnyH_take (i := 2) (v := ?v2_2) rfl (by kernel_rfl) (by kernel_rfl) (by kernel_rfl) (fun _ _ _ h => h) (Or.inl ⟨by rfl, ?y2_2⟩) (by assumption) ?r2_2
    case y2_2 => (intro w hSw; (try dsimp only at hSw); go_simp; first | done | with_reducible rfl)
    try simp only [Act.put, List.getElem_toArray, List.getElem_cons_succ, List.getElem_cons_zero, List.setIfInBounds_toArray, List.set_cons_zero, List.set_cons_succ]
    refine wpAnyH_take (i := 3) (v := ?v3_3) rfl (by kernel_rfl) (by kernel_rfl) (by kernel_rfl) (fun _ _ _ h => h) (Or.inl ⟨by rfl, ?y3_3⟩) (by assumption) ?r3_3
    case y3_3 => (intro w hSw; (try dsimp only at hSw); go_simp; first | done | with_reducible rfl)
    try simp only [Act.put, List.getElem_toArray, List.getElem_cons_succ, List.getElem_cons_zero, List.setIfInBounds_toArray, List.set_cons_zero, List.set_cons_succ]
    refine wpAnyH_take (i := 4) (v := ?v4_4) rfl (by kernel_rfl) (by kernel_rfl) (by kernel_rfl) (fun _ _ _ h => h) (Or.inl ⟨by rfl, ?y4_4⟩) (by assumption) ?r4_4
    case y4_4 => (intro w hSw; (try dsimp only at hSw); go_simp; first | done | with_reducible rfl)
    try simp only [Act.put, List.getElem_toArray, List.getElem_cons_succ, List.getElem_cons_zero, List.setIfInBounds_toArray, List.set_cons_zero, List.set_cons_succ]
    refine wpAnyH_take (i := 5) (v := ?v5_5) rfl (by kernel_rfl) (by kernel_rfl) (by kernel_rfl) (fun _ _ _ h => h) (Or.inl ⟨by rfl, ?y5_5⟩) (by assumption) ?r5_5
    case y5_5 => (intro w hSw; (try dsimp only at hSw); go_simp; first | done | with_reducible rfl)
    try simp only [Act.put, List.getElem_toArray, List.getElem_cons_succ, List.getElem_cons_zero, List.setIfInBounds_toArray, List.set_cons_zero, List.set_cons_succ]
    refine wpAnyH_take (i := 6) (v := ?v6_6) rfl (by kernel_rfl) (by kernel_rfl) (by kernel_rfl) (fun _ _ _ h => h) (Or.inl ⟨by rfl, ?y6_6⟩) (by assumption) ?r6_6
    case y6_6 => (intro w hSw; (try dsimp only at hSw); go_simp; first | done | with_reducible rfl)
    try simp only [Act.put, List.getElem_toArray, List.getElem_cons_succ, List.getElem_cons_zero, List.setIfInBounds_toArray, List.set_cons_zero, List.set_cons_succ]
    refine wpAnyH_take (i := 7) (v := ?v7_7) rfl (by kernel_rfl) (by kernel_rfl) (by kernel_rfl) (fun _ _ _ h => h) (Or.inl ⟨by rfl, ?y7_7⟩) (by assumption) ?r7_7
    case y7_7 => (intro w hSw; (try dsimp only at hSw); go_simp; first | done | with_reducible rfl)
    try simp only [Act.put, List.getElem_toArray, List.getElem_cons_succ, List.getElem_cons_zero, List.setIfInBounds_toArray, List.set_cons_zero, List.set_cons_succ]
    refine wpAnyH_take (i := 8) (v := ?v8_8) rfl (by kernel_rfl) (by kernel_rfl) (by kernel_rfl) (fun _ _ _ h => h) (Or.inl ⟨by rfl, ?y8_8⟩) (by assumption) ?r8_8
    case y8_8 => (intro w hSw; (try dsimp only at hSw); go_simp; first | done | with_reducible rfl)
    try simp only [Act.put, List.getElem_toArray, List.getElem_cons_succ, List.getElem_cons_zero, List.setIfInBounds_toArray, List.set_cons_zero, List.set_cons_succ]
    refine wpAnyH_take (i := 9) (v := ?v9_9) rfl (by kernel_rfl) (by kernel_rfl) (by kernel_rfl) (fun _ _ _ h => h) (Or.inl ⟨by rfl, ?y9_9⟩) (by assumption) ?r9_9
    case y9_9 => (intro w hSw; (try dsimp only at hSw); go_simp; first | done | with_reducible rfl)
    try simp only [Act.put, List.getElem_toArray, List.getElem_cons_succ, List.getElem_cons_zero, List.setIfInBounds_toArray, List.set_cons_zero, List.set_cons_succ]
    refine wpAnyH_take (i := 10) (v := ?v10_10) rfl (by kernel_rfl) (by kernel_rfl) (by kernel_rfl) (fun _ _ _ h => h) (Or.inl ⟨by rfl, ?y10_10⟩) (by assumption) ?r10_10
    case y10_10 => (intro w hSw; (try dsimp only at hSw); go_simp; first | done | with_reducible rfl)
    try simp only [Act.put, List.getElem_toArray, List.getElem_cons_succ, List.getElem_cons_zero, List.setIfInBounds_toArray, List.set_cons_zero, List.set_cons_succ]
    refine wpAnyH_take (i := 12) (v := ?v12_11) rfl (by kernel_rfl) (by kernel_rfl) (by kernel_rfl) (fun _ _ _ h => h) (Or.inl ⟨by rfl, ?y12_11⟩) (by assumption) ?r12_11
    case y12_11 => (intro w hSw; (try dsimp only at hSw); go_simp; first | done | with_reducible rfl)
    try simp only [Act.put, List.getElem_toArray, List.getElem_cons_succ, List.getElem_cons_zero, List.setIfInBounds_toArray, List.set_cons_zero, List.set_cons_succ]
    refine wpAnyH_take (i := 13) (v := ?v13_12) rfl (by kernel_rfl) (by kernel_rfl) (by kernel_rfl) (fun _ _ _ h => h) (Or.inl ⟨by rfl, ?y13_12⟩) (by assumption) ?r13_12
    case y13_12 => (intro w hSw; (try dsimp only at hSw); go_simp; first | done | with_reducible rfl)
    try simp only [Act.put, List.getElem_toArray, List.getElem_cons_succ, List.getElem_cons_zero, List.setIfInBounds_toArray, List.set_cons_zero, List.set_cons_succ]
    refine wpAnyH_ready (rs := [11, 16]) (by kernel_rfl) (by simp) ?_
    refine AllReadyH.cons rfl (fun K hK => ?_) (AllReadyH.cons rfl (fun K hK => ?_) AllReadyH.nil)
    · go_simp
      have KC := Lib.hid (KC.out.alloc (.cells #[] 5))
      have hmk := World.ownsRow_made w0 (base := w0.heap.size) (e := 5) (size := 1) #[] 0 (by simp) (by unfold maxLen; omega) rfl
      have HW : Hid ((w0.alloc (.cells #[] 5)).ownsRow w0.heap.size 5 1 (.slice (some ⟨w0.heap.size, 0, none⟩) 0 0) 0 (intsK .u8 [])) := Lib.hid (by simpa [intsK] using hmk)
      clear hmk
      refine hK.out _ _ (KEEP.out _ KC.out) (fun hHeld => ?_)
      clear hK K
      try simp only [Act.put, List.getElem_toArray, List.getElem_cons_succ, List.getElem_cons_zero, List.setIfInBounds_toArray, List.set_cons_zero, List.set_cons_succ]
      refine wpAnyH_ready (rs := [14, 16]) (by kernel_rfl) (by simp) ?_
      refine AllReadyH.cons rfl (fun K hK => ?_) (AllReadyH.cons rfl (fun K hK => ?_) AllReadyH.nil)
      · rw [if_pos (by rfl)]
        refine wp_append_rd (.tmp 34) (.tmp 36) (by rfl) w0.heap.size KC.out.size (.slice (some ⟨w0.heap.size, 0, none⟩) 0 0) 0 [] (by rfl) HW.out AD m (c - 14) (xs.drop 14) (by rfl) HM.out.symm (HRT.out.kp KC.out (fun _ _ _ f => f)) HADN.out (by have := HDL.out; omega) ?_
        intro v1 w1 own1 k1
        have own1 : w1.ownsRow w0.heap.size 5 1 v1 m (intsK .u8 (xs.drop 14)) := by simpa using own1
        obtain ⟨A2, d2, rfl, hl2, hr2, hb2⟩ := RdI.of_own (k := .u8) (xs := xs.drop 14) own1
        have KC := Lib.hid (KC.out.trans k1 (fun j (hj : j < w0.heap.size) hk => absurd (HW.out.lt j hk).1 (Nat.not_le_of_lt hj)))
        have HO := Lib.hid own1
        clear own1 k1 hl2 hr2 hb2
        refine hK.out _ _ (KEEP.out _ KC.out) (fun hHeld => ?_)
        clear hK K
        try simp only [Act.put, List.getElem_toArray, List.getElem_cons_succ, List.getElem_cons_zero, List.setIfInBounds_toArray, List.set_cons_zero, List.set_cons_succ]
        refine wpAnyH_take (i := 15) (v := ?v15_13) rfl (by kernel_rfl) (by kernel_rfl) (by kernel_rfl) (fun _ _ _ h => h) (Or.inl ⟨by rfl, ?y15_13⟩) (by assumption) ?r15_13
        case y15_13 => (intro w hSw; (try dsimp only at hSw); go_simp; first | done | with_reducible rfl)
        try simp only [Act.put, List.getElem_toArray, List.getElem_cons_succ, List.getElem_cons_zero, List.setIfInBounds_toArray, List.set_cons_zero, List.set_cons_succ]
        refine wpAnyH_ready (rs := [16]) (by kernel_rfl) (by simp) ?_
        refine AllReadyH.cons rfl (fun K hK => ?_) AllReadyH.nil
        go_simp
        have hgl : w0.heap.size ≤ w1.heap.size := by first | exact Nat.le_refl _ | omega | exact KC.out.size
        have KC := Lib.hid (KC.out.alloc (.cells #[.int .u8 0, .int .u8 0, .int .u8 0, .int .u8 0, .int .u8 0, .int .u8 0, .int .u8 0, .int .u8 0, .int .u8 0, .int .u8 0, .int .u8 0, .int .u8 0, .int .u16 0, .slice none 0 0] 81))
        have hbg := Bk.new w1 81 #[.int .u8 0, .int .u8 0, .int .u8 0, .int .u8 0, .int .u8 0, .int .u8 0, .int .u8 0, .int .u8 0, .int .u8 0, .int .u8 0, .int .u8 0, .int .u8 0, .int .u16 0, .slice none 0 0]
        have HG : Hid (Bk (w1.alloc (.cells #[.int .u8 0, .int .u8 0, .int .u8 0, .int .u8 0, .int .u8 0, .int .u8 0, .int .u8 0, .int .u8 0, .int .u8 0, .int .u8 0, .int .u8 0, .int .u8 0, .int .u16 0, .slice none 0 0] 81)).drew (w1.heap.size) 81 #[.int .u8 0, .int .u8 0, .int .u8 0, .int .u8 0, .int .u8 0, .int .u8 0, .int .u8 0, .int .u8 0, .int .u8 0, .int .u8 0, .int .u8 0, .int .u8 0, .int .u16 0, .slice none 0 0]) := Lib.hid (by have := hbg.drew; simpa using this)
        clear hbg
        refine hK.out _ _ (KEEP.out _ KC.out) (fun hHeld => ?_)
        clear hK K
        try simp only [Act.put, List.getElem_toArray, List.getElem_cons_succ, List.getElem_cons_zero, List.setIfInBounds_toArray, List.set_cons_zero, List.set_cons_succ]
        have HO := Lib.hid (own_kp HO.out ((Kp.refl (fun _ => False) w1).alloc (.cells #[.int .u8 0, .int .u8 0, .int .u8 0, .int .u8 0, .int .u8 0, .int .u8 0, .int .u8 0, .int .u8 0, .int .u8 0, .int .u8 0, .int .u8 0, .int .u8 0, .int .u16 0, .slice none 0 0] 81)) (fun _ _ f => f))
        refine wpAnyH_ready (rs := [17]) (by kernel_rfl) (by simp) ?_
        refine AllReadyH.cons rfl (fun K hK => ?_) AllReadyH.nil
        rw [if_pos (by rfl)]
        refine wp_store_row 81 (.tmp 4) (.tmp 38) (by rfl) (w1.heap.size) #[.int .u8 0, .int .u8 0, .int .u8 0, .int .u8 0, .int .u8 0, .int .u8 0, .int .u8 0, .int .u8 0, .int .u8 0, .int .u8 0, .int .u8 0, .int .u8 0, .int .u16 (x 12 * 256 + x 13), .slice A2 m d2] (by rfl) (by rfl) 81 #[.int .u8 0, .int .u8 0, .int .u8 0, .int .u8 0, .int .u8 0, .int .u8 0, .int .u8 0, .int .u8 0, .int .u8 0, .int .u8 0, .int .u8 0, .int .u8 0, .int .u16 0, .slice none 0 0] HG.out hi81s rfl (by simp [Value.oneCell']) ?_
        have hot := own_type5 HO.out HG.out (by decide)
        have HO := Lib.hid (own_kp HO.out (Kp.setRow (S := fun b => b = w1.heap.size) (Kp.refl _ _) (.inl rfl) #[.int .u8 0, .int .u8 0, .int .u8 0, .int .u8 0, .int .u8 0, .int .u8 0, .int .u8 0, .int .u8 0, .int .u8 0, .int .u8 0, .int .u8 0, .int .u8 0, .int .u16 (x 12 * 256 + x 13), .slice A2 m d2]) (fun j hj h => hot (by rw [← h]; exact hj)))
        have HG := Lib.hid (HG.out.setRow #[.int .u8 0, .int .u8 0, .int .u8 0, .int .u8 0, .int .u8 0, .int .u8 0, .int .u8 0, .int .u8 0, .int .u8 0, .int .u8 0, .int .u8 0, .int .u8 0, .int .u16 (x 12 * 256 + x 13), .slice A2 m d2])
        have KC := Lib.hid (KC.out.setRow (.inr hgl) #[.int .u8 0, .int .u8 0, .int .u8 0, .int .u8 0, .int .u8 0, .int .u8 0, .int .u8 0, .int .u8 0, .int .u8 0, .int .u8 0, .int .u8 0, .int .u8 0, .int .u16 (x 12 * 256 + x 13), .slice A2 m d2])
        refine hK.out _ _ (KEEP.out _ KC.out) (fun hHeld => ?_)
        clear hK K
        try simp only [Act.put, List.getElem_toArray, List.getElem_cons_succ, List.getElem_cons_zero, List.setIfInBounds_toArray, List.set_cons_zero, List.set_cons_succ]
        refine wpAnyH_done (by kernel_rfl) ?_ _
        go_wp2_with fail
        go_meet
        exact ⟨_, A2, d2, rfl, hgl, HG.out, HO.out, KC.out⟩
      · go_simp
        have hgl : w0.heap.size ≤ w0.heap.size + 1 := by first | exact Nat.le_refl _ | omega | exact KC.out.size
        have KC := Lib.hid (KC.out.alloc (.cells #[.int .u8 0, .int .u8 0, .int .u8 0, .int .u8 0, .int .u8 0, .int .u8 0, .int .u8 0, .int .u8 0, .int .u8 0, .int .u8 0, .int .u8 0, .int .u8 0, .int .u16 0, .slice none 0 0] 81))
        have hbg := Bk.new (w0.alloc (.cells #[] 5)) 81 #[.int .u8 0, .int .u8 0, .int .u8 0, .int .u8 0, .int .u8 0, .int .u8 0, .int .u8 0, .int .u8 0, .int .u8 0, .int .u8 0, .int .u8 0, .int .u8 0, .int .u16 0, .slice none 0 0]
        have HG : Hid (Bk ((w0.alloc (.cells #[] 5)).alloc (.cells #[.int .u8 0, .int .u8 0, .int .u8 0, .int .u8 0, .int .u8 0, .int .u8 0, .int .u8 0, .int .u8 0, .int .u8 0, .int .u8 0, .int .u8 0, .int .u8 0, .int .u16 0, .slice none 0 0] 81)).drew (w0.heap.size + 1) 81 #[.int .u8 0, .int .u8 0, .int .u8 0, .int .u8 0, .int .u8 0, .int .u8 0, .int .u8 0, .int .u8 0, .int .u8 0, .int .u8 0, .int .u8 0, .int .u8 0, .int .u16 0, .slice none 0 0]) := Lib.hid (by have := hbg.drew; simpa using this)
        clear hbg
        have HW := Lib.hid (own_kp HW.out ((Kp.refl (fun _ => False) (w0.alloc (.cells #[] 5))).alloc (.cells #[.int .u8 0, .int .u8 0, .int .u8 0, .int .u8 0, .int .u8 0, .int .u8 0, .int .u8 0, .int .u8 0, .int .u8 0, .int .u8 0, .int .u8 0, .int .u8 0, .int .u16 0, .slice none 0 0] 81)) (fun _ _ f => f))
        refine hK.out _ _ (KEEP.out _ KC.out) (fun hHeld => ?_)
        clear hK K
        try simp only [Act.put, List.getElem_toArray, List.getElem_cons_succ, List.getElem_cons_zero, List.setIfInBounds_toArray, List.set_cons_zero, List.set_cons_succ]
        refine wpAnyH_ready (rs := [14]) (by kernel_rfl) (by simp) ?_
        refine AllReadyH.cons rfl (fun K hK => ?_) AllReadyH.nil
        rw [if_pos (by rfl)]
        refine wp_append_rd (.tmp 34) (.tmp 36) (by rfl) w0.heap.size KC.out.size (.slice (some ⟨w0.heap.size, 0, none⟩) 0 0) 0 [] (by rfl) HW.out AD m (c - 14) (xs.drop 14) (by rfl) HM.out.symm (HRT.out.kp KC.out (fun _ _ _ f => f)) HADN.out (by have := HDL.out; omega) ?_
        intro v1 w1 own1 k1
        have own1 : w1.ownsRow w0.heap.size 5 1 v1 m (intsK .u8 (xs.drop 14)) := by simpa using own1
        obtain ⟨A2, d2, rfl, hl2, hr2, hb2⟩ := RdI.of_own (k := .u8) (xs := xs.drop 14) own1
        have HG := Lib.hid (HG.out.kept k1 (by simp [Value.ownBlock]))
        have KC := Lib.hid (KC.out.trans k1 (fun j (hj : j < w0.heap.size) hk => absurd (HW.out.lt j hk).1 (Nat.not_le_of_lt hj)))
        have HO := Lib.hid own1
        clear own1 k1 hl2 hr2 hb2
        refine hK.out _ _ (KEEP.out _ KC.out) (fun hHeld => ?_)
        clear hK K
        try simp only [Act.put, List.getElem_toArray, List.getElem_cons_succ, List.getElem_cons_zero, List.setIfInBounds_toArray, List.set_cons_zero, List.set_cons_succ]
        refine wpAnyH_take (i := 15) (v := ?v15_14) rfl (by kernel_rfl) (by kernel_rfl) (by kernel_rfl) (fun _ _ _ h => h) (Or.inl ⟨by rfl, ?y15_14⟩) (by assumption) ?r15_14
        case y15_14 => (intro w hSw; (try dsimp only at hSw); go_simp; first | done | with_reducible rfl)
        try simp only [Act.put, List.getElem_toArray, List.getElem_cons_succ, List.getElem_cons_zero, List.setIfInBounds_toArray, List.set_cons_zero, List.set_cons_succ]
        refine wpAnyH_ready (rs := [17]) (by kernel_rfl) (by simp) ?_
        refine AllReadyH.cons rfl (fun K hK => ?_) AllReadyH.nil
        rw [if_pos (by rfl)]
        refine wp_store_row 81 (.tmp 4) (.tmp 38) (by rfl) (w0.heap.size + 1) #[.int .u8 0, .int .u8 0, .int .u8 0, .int .u8 0, .int .u8 0, .int .u8 0, .int .u8 0, .int .u8 0, .int .u8 0, .int .u8 0, .int .u8 0, .int .u8 0, .int .u16 (x 12 * 256 + x 13), .slice A2 m d2] (by rfl) (by rfl) 81 #[.int .u8 0, .int .u8 0, .int .u8 0, .int .u8 0, .int .u8 0, .int .u8 0, .int .u8 0, .int .u8 0, .int .u8 0, .int .u8 0, .int .u8 0, .int .u8 0, .int .u16 0, .slice none 0 0] HG.out hi81s rfl (by simp [Value.oneCell']) ?_
        have hot := own_type5 HO.out HG.out (by decide)
        have HO := Lib.hid (own_kp HO.out (Kp.setRow (S := fun b => b = w0.heap.size + 1) (Kp.refl _ _) (.inl rfl) #[.int .u8 0, .int .u8 0, .int .u8 0, .int .u8 0, .int .u8 0, .int .u8 0, .int .u8 0, .int .u8 0, .int .u8 0, .int .u8 0, .int .u8 0, .int .u8 0, .int .u16 (x 12 * 256 + x 13), .slice A2 m d2]) (fun j hj h => hot (by rw [← h]; exact hj)))
        have HG := Lib.hid (HG.out.setRow #[.int .u8 0, .int .u8 0, .int .u8 0, .int .u8 0, .int .u8 0, .int .u8 0, .int .u8 0, .int .u8 0, .int .u8 0, .int .u8 0, .int .u8 0, .int .u8 0, .int .u16 (x 12 * 256 + x 13), .slice A2 m d2])
        have KC := Lib.hid (KC.out.setRow (.inr hgl) #[.int .u8 0, .int .u8 0, .int .u8 0, .int .u8 0, .int .u8 0, .int .u8 0, .int .u8 0, .int .u8 0, .int .u8 0, .int .u8 0, .int .u8 0, .int .u8 0, .int .u16 (x 12 * 256 + x 13), .slice A2 m d2])
        refine hK.out _ _ (KEEP.out _ KC.out) (fun hHeld => ?_)
        clear hK K
        try simp only [Act.put, List.getElem_toArray, List.getElem_cons_succ, List.getElem_cons_zero, List.setIfInBounds_toArray, List.set_cons_zero, List.set_cons_succ]
        refine wpAnyH_done (by kernel_rfl) ?_ _
        go_wp2_with fail
        go_meet
        exact ⟨_, A2, d2, rfl, hgl, HG.out, HO.out, KC.out⟩
    · go_simp
      have hgl : w0.heap.size ≤ w0.heap.size := by first | exact Nat.le_refl _ | omega | exact KC.out.size
      have KC := Lib.hid (KC.out.alloc (.cells #[.int .u8 0, .int .u8 0, .int .u8 0, .int .u8 0, .int .u8 0, .int .u8 0, .int .u8 0, .int .u8 0, .int .u8 0, .int .u8 0, .int .u8 0, .int .u8 0, .int .u16 0, .slice none 0 0] 81))
      have hbg := Bk.new w0 81 #[.int .u8 0, .int .u8 0, .int .u8 0, .int .u8 0, .int .u8 0, .int .u8 0, .int .u8 0, .int .u8 0, .int .u8 0, .int .u8 0, .int .u8 0, .int .u8 0, .int .u16 0, .slice none 0 0]
      have HG : Hid (Bk (w0.alloc (.cells #[.int .u8 0, .int .u8 0, .int .u8 0, .int .u8 0, .int .u8 0, .int .u8 0, .int .u8 0, .int .u8 0, .int .u8 0, .int .u8 0, .int .u8 0, .int .u8 0, .int .u16 0, .slice none 0 0] 81)).drew (w0.heap.size) 81 #[.int .u8 0, .int .u8 0, .int .u8 0, .int .u8 0, .int .u8 0, .int .u8 0, .int .u8 0, .int .u8 0, .int .u8 0, .int .u8 0, .int .u8 0, .int .u8 0, .int .u16 0, .slice none 0 0]) := Lib.hid (by have := hbg.drew; simpa using this)
      clear hbg
      refine hK.out _ _ (KEEP.out _ KC.out) (fun hHeld => ?_)
      clear hK K
      try simp only [Act.put, List.getElem_toArray, List.getElem_cons_succ, List.getElem_cons_zero, List.setIfInBounds_toArray, List.set_cons_zero, List.set_cons_succ]
      refine wpAnyH_ready (rs := [11]) (by kernel_rfl) (by simp) ?_
      refine AllReadyH.cons rfl (fun K hK => ?_) AllReadyH.nil
      go_simp
      have KC := Lib.hid (KC.out.alloc (.cells #[] 5))
      have hmk := World.ownsRow_made (w0.alloc (.cells #[.int .u8 0, .int .u8 0, .int .u8 0, .int .u8 0, .int .u8 0, .int .u8 0, .int .u8 0, .int .u8 0, .int .u8 0, .int .u8 0, .int .u8 0, .int .u8 0, .int .u16 0, .slice none 0 0] 81)) (base := w0.heap.size) (e := 5) (size := 1) #[] 0 (by simp) (by unfold maxLen; omega) rfl
      have HW : Hid (((w0.alloc (.cells #[.int .u8 0, .int .u8 0, .int .u8 0, .int .u8 0, .int .u8 0, .int .u8 0, .int .u8 0, .int .u8 0, .int .u8 0, .int .u8 0, .int .u8 0, .int .u8 0, .int .u16 0, .slice none 0 0] 81)).alloc (.cells #[] 5)).ownsRow w0.heap.size 5 1 (.slice (some ⟨w0.heap.size + 1, 0, none⟩) 0 0) 0 (intsK .u8 [])) := Lib.hid (by simpa [intsK] using hmk)
      clear hmk
      refine hK.out _ _ (KEEP.out _ KC.out) (fun hHeld => ?_)
      clear hK K
      try simp only [Act.put, List.getElem_toArray, List.getElem_cons_succ, List.getElem_cons_zero, List.setIfInBounds_toArray, List.set_cons_zero, List.set_cons_succ]
      have HG := Lib.hid (((show Bk (w0.alloc (.cells #[.int .u8 0, .int .u8 0, .int .u8 0, .int .u8 0, .int .u8 0, .int .u8 0, .int .u8 0, .int .u8 0, .int .u8 0, .int .u8 0, .int .u8 0, .int .u8 0, .int .u16 0, .slice none 0 0] 81)) w0.heap.size 81 #[.int .u8 0, .int .u8 0, .int .u8 0, .int .u8 0, .int .u8 0, .int .u8 0, .int .u8 0, .int .u8 0, .int .u8 0, .int .u8 0, .int .u8 0, .int .u8 0, .int .u16 0, .slice none 0 0] from HG.out).alloc (.cells #[] 5)).drew)
      refine wpAnyH_ready (rs := [14]) (by kernel_rfl) (by simp) ?_
      refine AllReadyH.cons rfl (fun K hK => ?_) AllReadyH.nil
      rw [if_pos (by rfl)]
      refine wp_append_rd (.tmp 34) (.tmp 36) (by rfl) w0.heap.size KC.out.size (.slice (some ⟨w0.heap.size + 1, 0, none⟩) 0 0) 0 [] (by rfl) HW.out AD m (c - 14) (xs.drop 14) (by rfl) HM.out.symm (HRT.out.kp KC.out (fun _ _ _ f => f)) HADN.out (by have := HDL.out; omega) ?_
      intro v1 w1 own1 k1
      have own1 : w1.ownsRow w0.heap.size 5 1 v1 m (intsK .u8 (xs.drop 14)) := by simpa using own1
      obtain ⟨A2, d2, rfl, hl2, hr2, hb2⟩ := RdI.of_own (k := .u8) (xs := xs.drop 14) own1
      have HG := Lib.hid (HG.out.kept k1 (by simp [Value.ownBlock]))
      have KC := Lib.hid (KC.out.trans k1 (fun j (hj : j < w0.heap.size) hk => absurd (HW.out.lt j hk).1 (Nat.not_le_of_lt hj)))
      have HO := Lib.hid own1
      clear own1 k1 hl2 hr2 hb2
      refine hK.out _ _ (KEEP.out _ KC.out) (fun hHeld => ?_)
      clear hK K
      try simp only [Act.put, List.getElem_toArray, List.getElem_cons_succ, List.getElem_cons_zero, List.setIfInBounds_toArray, List.set_cons_zero, List.set_cons_succ]
      refine wpAnyH_take (i := 15) (v := ?v15_15) rfl (by kernel_rfl) (by kernel_rfl) (by kernel_rfl) (fun _ _ _ h => h) (Or.inl ⟨by rfl, ?y15_15⟩) (by assumption) ?r15_15
      case y15_15 => (intro w hSw; (try dsimp only at hSw); go_simp; first | done | with_reducible rfl)
      try simp only [Act.put, List.getElem_toArray, List.getElem_cons_succ, List.getElem_cons_zero, List.setIfInBounds_toArray, List.set_cons_zero, List.set_cons_succ]
      refine wpAnyH_ready (rs := [17]) (by kernel_rfl) (by simp) ?_
      refine AllReadyH.cons rfl (fun K hK => ?_) AllReadyH.nil
      rw [if_pos (by rfl)]
      refine wp_store_row 81 (.tmp 4) (.tmp 38) (by rfl) (w0.heap.size) #[.int .u8 0, .int .u8 0, .int .u8 0, .int .u8 0, .int .u8 0, .int .u8 0, .int .u8 0, .int .u8 0, .int .u8 0, .int .u8 0, .int .u8 0, .int .u8 0, .int .u16 (x 12 * 256 + x 13), .slice A2 m d2] (by rfl) (by rfl) 81 #[.int .u8 0, .int .u8 0, .int .u8 0, .int .u8 0, .int .u8 0, .int .u8 0, .int .u8 0, .int .u8 0, .int .u8 0, .int .u8 0, .int .u8 0, .int .u8 0, .int .u16 0, .slice none 0 0] HG.out hi81s rfl (by simp [Value.oneCell']) ?_
      have hot := own_type5 HO.out HG.out (by decide)
      have HO := Lib.hid (own_kp HO.out (Kp.setRow (S := fun b => b = w0.heap.size) (Kp.refl _ _) (.inl rfl) #[.int .u8 0, .int .u8 0, .int .u8 0, .int .u8 0, .int .u8 0, .int .u8 0, .int .u8 0, .int .u8 0, .int .u8 0, .int .u8 0, .int .u8 0, .int .u8 0, .int .u16 (x 12 * 256 + x 13), .slice A2 m d2]) (fun j hj h => hot (by rw [← h]; exact hj)))
      have HG := Lib.hid (HG.out.setRow #[.int .u8 0, .int .u8 0, .int .u8 0, .int .u8 0, .int .u8 0, .int .u8 0, .int .u8 0, .int .u8 0, .int .u8 0, .int .u8 0, .int .u8 0, .int .u8 0, .int .u16 (x 12 * 256 + x 13), .slice A2 m d2])
      have KC := Lib.hid (KC.out.setRow (.inr hgl) #[.int .u8 0, .int .u8 0, .int .u8 0, .int .u8 0, .int .u8 0, .int .u8 0, .int .u8 0, .int .u8 0, .int .u8 0, .int .u8 0, .int .u8 0, .int .u8 0, .int .u16 (x 12 * 256 + x 13), .slice A2 m d2])
      refine hK.out _ _ (KEEP.out _ KC.out) (fun hHeld => ?_)
      clear hK K
      try simp only [Act.put, List.getElem_toArray, List.getElem_cons_succ, List.getElem_cons_zero, List.setIfInBounds_toArray, List.set_cons_zero, List.set_cons_succ]
      refine wpAnyH_done (by kernel_rfl) ?_ _
      go_wp2_with fail
      go_meet
      exact ⟨_, A2, d2, rfl, hgl, HG.out, HO.out, KC.out⟩
  case rest =>
    obtain ⟨g, A2, d2, rfl, hg, hbg, hown, hkw⟩ := hcut
    have hws := HWS.out
    have ne1 : b ≠ g := by omega
    have ne2 : g ≠ b := by omega
    have hcb : ∀ W, Kp (fun v => v = g) wc W → ∀ j, j < 14 → W.cell? ⟨b, o + j, none⟩ = some (.int .u8 (x j)) := fun W hk j hj => by
      rw [← HCA.out j hj]
      exact (hk.cell (p := ⟨b, o + j, none⟩) (by have := hkw.size; show b < _; omega) (fun h => ne1 h)).trans (hkw.cell (p := ⟨b, o + j, none⟩) (by show b < _; omega) (fun f => f))
    have HCB := Lib.hid hcb
    have hot := own_type5 hown hbg (by decide)
    have HOT := Lib.hid hot
    clear hot
    have HG0 : Hid (Bk wc g 81 #[.int .u8 0, .int .u8 0, .int .u8 0, .int .u8 0, .int .u8 0, .int .u8 0, .int .u8 0, .int .u8 0, .int .u8 0, .int .u8 0, .int .u8 0, .int .u8 0, .int .u16 (x 12 * 256 + x 13), .slice A2 m d2]) := Lib.hid hbg
    have KW0 := Lib.hid (Kp.refl (fun v => v = g) wc)
    have HO := Lib.hid hown
    have HKW := Lib.hid hkw
    clear hbg hown hkw hws g1 g2 e0 e0' e1 e2 e3 hb12 hb13 hdl hodb c6 hb6 hcb
    go_wp2_with fail
    refine wp_loop_rounds 7 ?_
    rw [rounds_succ]
    have ca : wc.cell? ⟨b, o, none⟩ = some (Value.int IntKind.u8 (x 0)) := HCB.out _ KW0.out 0 (by omega)
    have cb : wc.cell? ⟨b, o + 6, none⟩ = some (Value.int IntKind.u8 (x 6)) := HCB.out _ KW0.out 6 (by omega)
    have qa : wc.cell? ⟨g, 0, none⟩ = some (Value.int IntKind.u8 0) := HG0.out.cell 0
    have qb : wc.cell? ⟨g, 6, none⟩ = some (Value.int IntKind.u8 0) := HG0.out.cell 6
    have fa : wc.frozen? ⟨g, 0, none⟩ = false := HG0.out.frozen 0
    have fb : wc.frozen? ⟨g, 6, none⟩ = false := HG0.out.frozen 6
    go_wp2_with fail
    have hgn := (HG0.out.put 0 (.int .u8 (x 0))).put 6 (.int .u8 (x 6))
    simp only [List.setIfInBounds_toArray, List.set_cons_zero, List.set_cons_succ] at hgn
    have kwn := (KW0.out.setCell (p := ⟨g, 0, none⟩) (Or.inl rfl) (.int .u8 (x 0))).setCell (p := ⟨g, 6, none⟩) (Or.inl rfl) (.int .u8 (x 6))
    clear ca cb qa qb fa fb
    generalize (wc.setCell ⟨g, 0, none⟩ (.int .u8 (x 0))).setCell ⟨g, 6, none⟩ (.int .u8 (x 6)) = W1 at *
    have HG1 := Lib.hid hgn
    have KW1 := Lib.hid kwn
    clear hgn kwn HG0 KW0
    rw [rounds_succ]
    have ca : W1.cell? ⟨b, o + 1, none⟩ = some (Value.int IntKind.u8 (x 1)) := HCB.out _ KW1.out 1 (by omega)
    have cb : W1.cell? ⟨b, o + 7, none⟩ = some (Value.int IntKind.u8 (x 7)) := HCB.out _ KW1.out 7 (by omega)
    have qa : W1.cell? ⟨g, 1, none⟩ = some (Value.int IntKind.u8 0) := HG1.out.cell 1
    have qb : W1.cell? ⟨g, 7, none⟩ = some (Value.int IntKind.u8 0) := HG1.out.cell 7
    have fa : W1.frozen? ⟨g, 1, none⟩ = false := HG1.out.frozen 1
    have fb : W1.frozen? ⟨g, 7, none⟩ = false := HG1.out.frozen 7
    go_wp2_with fail
    have hgn := (HG1.out.put 1 (.int .u8 (x 1))).put 7 (.int .u8 (x 7))
    simp only [List.setIfInBounds_toArray, List.set_cons_zero, List.set_cons_succ] at hgn
    have kwn := (KW1.out.setCell (p := ⟨g, 1, none⟩) (Or.inl rfl) (.int .u8 (x 1))).setCell (p := ⟨g, 7, none⟩) (Or.inl rfl) (.int .u8 (x 7))
    clear ca cb qa qb fa fb
    generalize (W1.setCell ⟨g, 1, none⟩ (.int .u8 (x 1))).setCell ⟨g, 7, none⟩ (.int .u8 (x 7)) = W2 at *
    have HG2 := Lib.hid hgn
    have KW2 := Lib.hid kwn
    clear hgn kwn HG1 KW1
    rw [rounds_succ]
    have ca : W2.cell? ⟨b, o + 2, none⟩ = some (Value.int IntKind.u8 (x 2)) := HCB.out _ KW2.out 2 (by omega)
    have cb : W2.cell? ⟨b, o + 8, none⟩ = some (Value.int IntKind.u8 (x 8)) := HCB.out _ KW2.out 8 (by omega)
    have qa : W2.cell? ⟨g, 2, none⟩ = some (Value.int IntKind.u8 0) := HG2.out.cell 2
    have qb : W2.cell? ⟨g, 8, none⟩ = some (Value.int IntKind.u8 0) := HG2.out.cell 8
    have fa : W2.frozen? ⟨g, 2, none⟩ = false := HG2.out.frozen 2
    have fb : W2.frozen? ⟨g, 8, none⟩ = false := HG2.out.frozen 8
    go_wp2_with fail
    have hgn := (HG2.out.put 2 (.int .u8 (x 2))).put 8 (.int .u8 (x 8))
    simp only [List.setIfInBounds_toArray, List.set_cons_zero, List.set_cons_succ] at hgn
    have kwn := (KW2.out.setCell (p := ⟨g, 2, none⟩) (Or.inl rfl) (.int .u8 (x 2))).setCell (p := ⟨g, 8, none⟩) (Or.inl rfl) (.int .u8 (x 8))
    clear ca cb qa qb fa fb
    generalize (W2.setCell ⟨g, 2, none⟩ (.int .u8 (x 2))).setCell ⟨g, 8, none⟩ (.int .u8 (x 8)) = W3 at *
    have HG3 := Lib.hid hgn
    have KW3 := Lib.hid kwn
    clear hgn kwn HG2 KW2
    rw [rounds_succ]
    have ca : W3.cell? ⟨b, o + 3, none⟩ = some (Value.int IntKind.u8 (x 3)) := HCB.out _ KW3.out 3 (by omega)
    have cb : W3.cell? ⟨b, o + 9, none⟩ = some (Value.int IntKind.u8 (x 9)) := HCB.out _ KW3.out 9 (by omega)
    have qa : W3.cell? ⟨g, 3, none⟩ = some (Value.int IntKind.u8 0) := HG3.out.cell 3
    have qb : W3.cell? ⟨g, 9, none⟩ = some (Value.int IntKind.u8 0) := HG3.out.cell 9
    have fa : W3.frozen? ⟨g, 3, none⟩ = false := HG3.out.frozen 3
    have fb : W3.frozen? ⟨g, 9, none⟩ = false := HG3.out.frozen 9
    go_wp2_with fail
    have hgn := (HG3.out.put 3 (.int .u8 (x 3))).put 9 (.int .u8 (x 9))
    simp only [List.setIfInBounds_toArray, List.set_cons_zero, List.set_cons_succ] at hgn
    have kwn := (KW3.out.setCell (p := ⟨g, 3, none⟩) (Or.inl rfl) (.int .u8 (x 3))).setCell (p := ⟨g, 9, none⟩) (Or.inl rfl) (.int .u8 (x 9))
    clear ca cb qa qb fa fb
    generalize (W3.setCell ⟨g, 3, none⟩ (.int .u8 (x 3))).setCell ⟨g, 9, none⟩ (.int .u8 (x 9)) = W4 at *
    have HG4 := Lib.hid hgn
    have KW4 := Lib.hid kwn
    clear hgn kwn HG3 KW3
    rw [rounds_succ]
    have ca : W4.cell? ⟨b, o + 4, none⟩ = some (Value.int IntKind.u8 (x 4)) := HCB.out _ KW4.out 4 (by omega)
    have cb : W4.cell? ⟨b, o + 10, none⟩ = some (Value.int IntKind.u8 (x 10)) := HCB.out _ KW4.out 10 (by omega)
    have qa : W4.cell? ⟨g, 4, none⟩ = some (Value.int IntKind.u8 0) := HG4.out.cell 4
    have qb : W4.cell? ⟨g, 10, none⟩ = some (Value.int IntKind.u8 0) := HG4.out.cell 10
    have fa : W4.frozen? ⟨g, 4, none⟩ = false := HG4.out.frozen 4
    have fb : W4.frozen? ⟨g, 10, none⟩ = false := HG4.out.frozen 10
    go_wp2_with fail
    have hgn := (HG4.out.put 4 (.int .u8 (x 4))).put 10 (.int .u8 (x 10))
    simp only [List.setIfInBounds_toArray, List.set_cons_zero, List.set_cons_succ] at hgn
    have kwn := (KW4.out.setCell (p := ⟨g, 4, none⟩) (Or.inl rfl) (.int .u8 (x 4))).setCell (p := ⟨g, 10, none⟩) (Or.inl rfl) (.int .u8 (x 10))
    clear ca cb qa qb fa fb
    generalize (W4.setCell ⟨g, 4, none⟩ (.int .u8 (x 4))).setCell ⟨g, 10, none⟩ (.int .u8 (x 10)) = W5 at *
    have HG5 := Lib.hid hgn
    have KW5 := Lib.hid kwn
    clear hgn kwn HG4 KW4
    rw [rounds_succ]
    have ca : W5.cell? ⟨b, o + 5, none⟩ = some (Value.int IntKind.u8 (x 5)) := HCB.out _ KW5.out 5 (by omega)
    have cb : W5.cell? ⟨b, o + 11, none⟩ = some (Value.int IntKind.u8 (x 11)) := HCB.out _ KW5.out 11 (by omega)
    have qa : W5.cell? ⟨g, 5, none⟩ = some (Value.int IntKind.u8 0) := HG5.out.cell 5
    have qb : W5.cell? ⟨g, 11, none⟩ = some (Value.int IntKind.u8 0) := HG5.out.cell 11
    have fa : W5.frozen? ⟨g, 5, none⟩ = false := HG5.out.frozen 5
    have fb : W5.frozen? ⟨g, 11, none⟩ = false := HG5.out.frozen 11
    go_wp2_with fail
    have hgn := (HG5.out.put 5 (.int .u8 (x 5))).put 11 (.int .u8 (x 11))
    simp only [List.setIfInBounds_toArray, List.set_cons_zero, List.set_cons_succ] at hgn
    have kwn := (KW5.out.setCell (p := ⟨g, 5, none⟩) (Or.inl rfl) (.int .u8 (x 5))).setCell (p := ⟨g, 11, none⟩) (Or.inl rfl) (.int .u8 (x 11))
    clear ca cb qa qb fa fb
    generalize (W5.setCell ⟨g, 5, none⟩ (.int .u8 (x 5))).setCell ⟨g, 11, none⟩ (.int .u8 (x 11)) = W6 at *
    have HG6 := Lib.hid hgn
    have KW6 := Lib.hid kwn
    clear hgn kwn HG5 KW5
    rw [rounds_succ]
    have q0 : W6.cell? ⟨g, 0, none⟩ = some (Value.int IntKind.u8 (x 0)) := HG6.out.cell 0
    have q1 : W6.cell? ⟨g, 1, none⟩ = some (Value.int IntKind.u8 (x 1)) := HG6.out.cell 1
    have q2 : W6.cell? ⟨g, 2, none⟩ = some (Value.int IntKind.u8 (x 2)) := HG6.out.cell 2
    have q3 : W6.cell? ⟨g, 3, none⟩ = some (Value.int IntKind.u8 (x 3)) := HG6.out.cell 3
    have q4 : W6.cell? ⟨g, 4, none⟩ = some (Value.int IntKind.u8 (x 4)) := HG6.out.cell 4
    have q5 : W6.cell? ⟨g, 5, none⟩ = some (Value.int IntKind.u8 (x 5)) := HG6.out.cell 5
    have q6 : W6.cell? ⟨g, 6, none⟩ = some (Value.int IntKind.u8 (x 6)) := HG6.out.cell 6
    have q7 : W6.cell? ⟨g, 7, none⟩ = some (Value.int IntKind.u8 (x 7)) := HG6.out.cell 7
    have q8 : W6.cell? ⟨g, 8, none⟩ = some (Value.int IntKind.u8 (x 8)) := HG6.out.cell 8
    have q9 : W6.cell? ⟨g, 9, none⟩ = some (Value.int IntKind.u8 (x 9)) := HG6.out.cell 9
    have q10 : W6.cell? ⟨g, 10, none⟩ = some (Value.int IntKind.u8 (x 10)) := HG6.out.cell 10
    have q11 : W6.cell? ⟨g, 11, none⟩ = some (Value.int IntKind.u8 (x 11)) := HG6.out.cell 11
    have q12 : W6.cell? ⟨g, 12, none⟩ = some (Value.int IntKind.u16 (x 12 * 256 + x 13)) := HG6.out.cell 12
    have q13 : W6.cell? ⟨g, 13, none⟩ = some (Value.slice A2 m d2) := HG6.out.cell 13
    have kgw : Kp (fun _ => False) w0 W6 := HKW.out.trans KW6.out (fun v hv h => by subst h; omega)
    have hbr := HB0.out.kept kgw (fun f => f)
    have hbr1 := HB1.out.kept kgw (fun f => f)
    have hws := HWS.out
    have kS := Kp.setRow (S := fun v => v = w.heap.size) (Kp.refl _ W6) (.inl rfl) #[.int .u8 (x 0), .int .u8 (x 1), .int .u8 (x 2), .int .u8 (x 3), .int .u8 (x 4), .int .u8 (x 5), .int .u8 (x 6), .int .u8 (x 7), .int .u8 (x 8), .int .u8 (x 9), .int .u8 (x 10), .int .u8 (x 11), .int .u16 (x 12 * 256 + x 13), .slice A2 m d2]
    have hbr1' := hbr1.kept kS (by show ¬ w.heap.size + 1 = w.heap.size; omega)
    have kS2 := Kp.setRow (S := fun v => v = w.heap.size + 1) (Kp.refl _ (W6.setRow w.heap.size #[.int .u8 (x 0), .int .u8 (x 1), .int .u8 (x 2), .int .u8 (x 3), .int .u8 (x 4), .int .u8 (x 5), .int .u8 (x 6), .int .u8 (x 7), .int .u8 (x 8), .int .u8 (x 9), .int .u8 (x 10), .int .u8 (x 11), .int .u16 (x 12 * 256 + x 13), .slice A2 m d2])) (.inl rfl) #[.slice none 0 0, .int .i64 0]
    have hbr' := (hbr.setRow #[.int .u8 (x 0), .int .u8 (x 1), .int .u8 (x 2), .int .u8 (x 3), .int .u8 (x 4), .int .u8 (x 5), .int .u8 (x 6), .int .u8 (x 7), .int .u8 (x 8), .int .u8 (x 9), .int .u8 (x 10), .int .u8 (x 11), .int .u16 (x 12 * 256 + x 13), .slice A2 m d2]).kept kS2 (by show ¬ w.heap.size = w.heap.size + 1; omega)
    have ho6 := own_kp HO.out KW6.out (fun j hj h => HOT.out (by rw [← h]; exact hj))
    have ho7 := own_kp (own_kp ho6 kS (fun j hj h => by have := (ho6.lt j hj).1; omega)) kS2 (fun j hj h => by have := (ho6.lt j hj).1; omega)
    have K7 := Lib.hid (((HK.out.trans' kgw).setRow (g := w.heap.size) (.inr (Nat.le_refl _)) #[.int .u8 (x 0), .int .u8 (x 1), .int .u8 (x 2), .int .u8 (x 3), .int .u8 (x 4), .int .u8 (x 5), .int .u8 (x 6), .int .u8 (x 7), .int .u8 (x 8), .int .u8 (x 9), .int .u8 (x 10), .int .u8 (x 11), .int .u16 (x 12 * 256 + x 13), .slice A2 m d2]).setRow (g := w.heap.size + 1) (.inr (by omega)) #[.slice none 0 0, .int .i64 0])
    have HO7 := Lib.hid (own_low2 (base' := w.heap.size) ho7 (by omega))
    have HBR := Lib.hid hbr'
    clear kgw kS kS2 ho6 ho7 hbr' hws
    go_wp2_with
      (first
      | ((with_reducible refine gate_store (t := 81) (p := 2) (v := .tmp 58) rfl ?_)
         go_must (refine wpList_store_row (by rfl) 81 (.tmp 2) (.tmp 58) (by rfl) w.heap.size #[.int .u8 (x 0), .int .u8 (x 1), .int .u8 (x 2), .int .u8 (x 3), .int .u8 (x 4), .int .u8 (x 5), .int .u8 (x 6), .int .u8 (x 7), .int .u8 (x 8), .int .u8 (x 9), .int .u8 (x 10), .int .u8 (x 11), .int .u16 (x 12 * 256 + x 13), .slice A2 m d2] (by rfl) (by rfl) 81 #[.int .u8 0, .int .u8 0, .int .u8 0, .int .u8 0, .int .u8 0, .int .u8 0, .int .u8 0, .int .u8 0, .int .u8 0, .int .u8 0, .int .u8 0, .int .u8 0, .int .u16 0, .slice none 0 0] hbr hi81s rfl (by simp [Value.oneCell']) ?_))
      | ((with_reducible refine gate_store (t := 52) (p := 3) (v := .tmp 59) rfl ?_)
         go_must (refine wpList_store_row (by rfl) 52 (.tmp 3) (.tmp 59) (by rfl) (w.heap.size + 1) #[.slice none 0 0, .int .i64 0] (by rfl) (by rfl) 52 #[.slice none 0 0, .int .i64 0] hbr1' hi52s rfl (by simp [Value.oneCell']) ?_)))
    refine bodyPost_ret (results_cc rfl _ _ w.heap.size (w.heap.size + 1) 81 52 #[.int .u8 (x 0), .int .u8 (x 1), .int .u8 (x 2), .int .u8 (x 3), .int .u8 (x 4), .int .u8 (x 5), .int .u8 (x 6), .int .u8 (x 7), .int .u8 (x 8), .int .u8 (x 9), .int .u8 (x 10), .int .u8 (x 11), .int .u16 (x 12 * 256 + x 13), .slice A2 m d2] #[.slice none 0 0, .int .i64 0] (0, 0) (0, 0) _ _ rfl HBR.out Tryd.underlying81 rfl hi81s rfl (hbr1'.setRow _) Tryd.underlying52 rfl hi52s) rfl ?_
    refine ⟨A2, d2, ?_, HO7.out, K7.out⟩
    have e : Ending.returned (.tuple #[.agg #[.int .u8 (x 0), .int .u8 (x 1), .int .u8 (x 2), .int .u8 (x 3), .int .u8 (x 4), .int .u8 (x 5), .int .u8 (x 6), .int .u8 (x 7), .int .u8 (x 8), .int .u8 (x 9), .int .u8 (x 10), .int .u8 (x 11), .int .u16 (x 12 * 256 + x 13), .slice A2 m d2], .agg #[.slice none 0 0, .int .i64 0]]) = .returned (.tuple #[.agg (frm (fun i => xs.getD i 0) (fun i => xs.getD (6 + i) 0) (xs.getD 12 0 * 256 + xs.getD 13 0) (.slice A2 m d2)), .agg #[.slice none 0 0, .int .i64 0]]) := by
      simp only [HXJ.out]
      rfl
    exact e
end Go.Proofs.YtconpcnmccmbiaaDoor
