/- Ether: Macs as arrays; place.All, place.Group. Ether: slices.Clone of bytes. Ether: SameBytes; Same. Ether: the two bytes of a kind (word.number, word.Row). Ether: slices.Grow of nil, slices.Concat of four rows. Ether: Same. Ether: a number of two bytes, by word.At's printed summary. Ether: Parse. Ether: what lies behind Parse's region. Ether: Frame.Bytes. Ether: Macs, frames and bytes that came in, opened. -/
import Derived.Test.YtconpcnmccmbiaaDoorSi
import Derived.Laws.StructEq
import Derived.Stop.BytesEq
import Derived.LoopTactic
import Derived.Laws.Rows
import Derived.Deep.RegionHeld3
import Derived.Deep.DeepMust
import Derived.Laws.OwnMore
import Derived.Maps.AppendAt
import Derived.Lib.BufferMore
import Derived.Laws.BytesArg
import Derived.IntWalk
import Derived.Lib.AppendZeros
import Derived.Laws.AppendOwnNone
import Derived.Deep.AppendLies
import Derived.Test.YtconpcnmccmbiaaDoorWWords
import Derived.Laws.BitsAllLaws
import Derived.Test.YtconpcnmccmbiaaDoorWm
import Derived.Laws.Tables
import Derived.StillTailTactics
import Derived.Test.YtconpcnmccmbiaaDoorLawKit
namespace Go.Proofs.YtconpcnmccmbiaaDoor
open Go.RowKit

/-- A Mac's cells. -/
def mac (m : Nat → Int) : Array Value := #[.int .u8 (m 0), .int .u8 (m 1), .int .u8 (m 2), .int .u8 (m 3), .int .u8 (m 4), .int .u8 (m 5)]
/-- Are two Macs the same? -/
def macEq (m n : Nat → Int) : Bool := (List.range 6).all fun i => m i == n i
theorem run_equalIn_mac (w : World) (d : Nat) (m n : Nat → Int) : (Op.equalIn (d + 2) 73 (.agg (mac m)) (.agg (mac n))).run Tryd.prog w = .ok (macEq m n) w := by
  have hsz : ∀ w, (sizeOf 5).run Tryd.prog w = .ok 1 w := fun w => by kernel_rfl
  have ht : Tryd.prog.underlying 73 = some (.array 6 5) := Tryd.underlying73
  have he : Tryd.prog.underlying 5 = some (.int .u8) := Tryd.underlying5
  unfold macEq
  rw [List.range_eq_range', Op.equalIn]
  simp only [Sem.run_bind, run_underlying ht, Result.andThen_ok, hsz, Std.Legacy.Range.forIn_eq_forIn_range', Std.Legacy.Range.size, Nat.sub_zero, Nat.add_sub_cancel, Nat.div_one]
  have hl : ∀ i ∈ List.range' 0 6 1, i < 6 := fun i hi => by simpa using (List.mem_range'_1.1 hi).2
  generalize List.range' 0 6 1 = l at hl ⊢
  induction l with
  | nil => simp
  | cons i l ih =>
    have hi : i < 6 := hl i (by simp)
    have hcell : ∀ (m : Nat → Int), (part 5 (mac m) (i * 1)).run Tryd.prog w = .ok (.int .u8 (m i)) w := fun m => by
      have h6 : i = 0 ∨ i = 1 ∨ i = 2 ∨ i = 3 ∨ i = 4 ∨ i = 5 := by omega
      rcases h6 with rfl | rfl | rfl | rfl | rfl | rfl <;> simp [part, isAgg, run_underlying he, mac]
    have pe : (Op.equalIn (d + 1) 5 (.int .u8 (m i)) (.int .u8 (n i))).run Tryd.prog w = .ok (m i == n i) w := by
      rw [run_equalIn_int w d 5 .u8 .u8 _ _ he]
    simp only [List.forIn_cons, Sem.run_bind, hcell m, hcell n, pe, Result.andThen_ok, List.all_cons]
    cases hb : (m i == n i)
    · simp
    · simp only [Bool.not_true, Bool.false_eq_true, if_false, Sem.run_pure, Result.andThen_ok, Bool.true_and]
      exact ih fun j hj => hl j (by simp [hj])
theorem run_eql_mac (w : World) (m n : Nat → Int) : (binOp .eql 73 (.agg (mac m)) (.agg (mac n))).run Tryd.prog w = .ok (.bool (macEq m n)) w := by
  rw [run_eql_struct, run_equalIn_mac w 9998 m n]
  rfl
theorem macEq_iff (m n : Nat → Int) : macEq m n = true ↔ ∀ i, i < 6 → m i = n i := by
  unfold macEq
  simp [List.all_eq_true]

theorem odd_val (x : Int) (h : 0 ≤ x ∧ x < 256) : (bits BinOp.and IntKind.u8 x 1 != 0) = (x % 2 != 0) := by
  have h1 : ∀ n : Fin 256, (bits BinOp.and IntKind.u8 (n.val : Int) 1 != 0) = ((n.val : Int) % 2 != 0) := by decide +kernel
  have h2 := h1 ⟨x.toNat, by omega⟩
  rwa [show (((⟨x.toNat, by omega⟩ : Fin 256).val : Nat) : Int) = x from by show ((x.toNat : Nat) : Int) = x; omega] at h2

set_option maxRecDepth 100000 in
set_option maxHeartbeats 1000000 in
theorem group_any (m : Nat → Int) (w : World) (hm : 0 ≤ m 0 ∧ m 0 < 256) :
    Calls Tryd.prog 75 #[.agg (mac m)] w fun ev w' => ev = .returned (.bool (m 0 % 2 != 0)) ∧ Kp (fun _ => False) w w' := by
  have hb := (Bk.new w 73 (mac m)).cell 0
  have c0 : (w.alloc (.cells (mac m) 73)).cell? ⟨w.heap.size, 0, none⟩ = some (.int .u8 (m 0)) := hb
  clear hb
  have ho := odd_val _ hm
  have HO := Lib.hid ho
  clear ho hm
  generalize hM : mac m = M at c0
  go_enter Tryd.func75, Tryd.ntmps75
  go_wp2_with fail
  go_ret
  exact ⟨ret_bool' HO.out, (Kp.refl _ _).alloc _⟩

set_option maxRecDepth 100000 in
set_option maxHeartbeats 4000000 in
theorem allMac_any (w : World) : Calls Tryd.prog 57 #[] w fun ev w' => ev = .returned (.agg (mac fun _ => 255)) ∧ Kp (fun _ => False) w w' := by
  go_enter Tryd.func57, Tryd.ntmps57
  go_wp2_with fail
  refine wp_loop_rounds 7 ?_
  rw [rounds_succ]
  go_wp2_with fail
  rw [rounds_succ]
  go_wp2_with fail
  rw [rounds_succ]
  go_wp2_with fail
  rw [rounds_succ]
  go_wp2_with fail
  rw [rounds_succ]
  go_wp2_with fail
  rw [rounds_succ]
  go_wp2_with fail
  rw [rounds_succ]
  go_wp2_with fail
  refine bodyPost_ret (results_cell_row rfl _ _ w.heap.size 73 (mac fun _ => 255) (0, 0) _ rfl ((Bk.new w 73 (mac fun _ => 255)).alloc (.cells (mac fun _ => 255) 73)) Tryd.underlying73 rfl (by kernel_rfl)) rfl ?_
  exact ⟨rfl, ((Kp.refl _ _).alloc _).alloc _⟩

/-- A frame's cells. -/
def frm (t f : Nat → Int) (k : Int) (b : Value) : Array Value := mac t ++ mac f ++ #[.int .u16 k, b]

set_option maxRecDepth 100000 in
set_option maxHeartbeats 4000000 in
theorem for_any (t f m : Nat → Int) (k : Int) (b : Value) (w : World) :
    Calls Tryd.prog 52 #[.agg (frm t f k b), .agg (mac m)] w fun ev w' => ev = .returned (.bool (macEq t m || macEq t (fun _ => 255))) ∧ Kp (fun _ => False) w w' := by
  have h1 := run_eql_mac (m := t) (n := m)
  have h2 := run_eql_mac (m := t) (n := fun _ => 255)
  obtain ⟨p, hp⟩ : ∃ p, macEq t m = p := ⟨_, rfl⟩
  obtain ⟨q, hq⟩ : ∃ q, macEq t (fun _ => 255) = q := ⟨_, rfl⟩
  rw [hp] at h1 ⊢
  rw [hq] at h2 ⊢
  simp only [mac] at h1 h2
  clear hp hq
  have kA := ((Kp.refl (fun _ => False) w).alloc (.cells (frm t f k b) 77)).alloc (.cells (mac m) 73)
  have hb0 := (Bk.new w 77 (frm t f k b)).alloc (.cells (mac m) 73)
  have hb1 := Bk.new (w.alloc (.cells (frm t f k b) 77)) 73 (mac m)
  rw [show (w.alloc (.cells (frm t f k b) 77)).heap.size = w.heap.size + 1 by simp] at hb1
  have c0 : _ = some (Value.int IntKind.u8 (t 0)) := hb0.cell 0
  have c1 : _ = some (Value.int IntKind.u8 (t 1)) := hb0.cell 1
  have c2 : _ = some (Value.int IntKind.u8 (t 2)) := hb0.cell 2
  have c3 : _ = some (Value.int IntKind.u8 (t 3)) := hb0.cell 3
  have c4 : _ = some (Value.int IntKind.u8 (t 4)) := hb0.cell 4
  have c5 : _ = some (Value.int IntKind.u8 (t 5)) := hb0.cell 5
  have d0 : _ = some (Value.int IntKind.u8 (m 0)) := hb1.cell 0
  have d1 : _ = some (Value.int IntKind.u8 (m 1)) := hb1.cell 1
  have d2 : _ = some (Value.int IntKind.u8 (m 2)) := hb1.cell 2
  have d3 : _ = some (Value.int IntKind.u8 (m 3)) := hb1.cell 3
  have d4 : _ = some (Value.int IntKind.u8 (m 4)) := hb1.cell 4
  have d5 : _ = some (Value.int IntKind.u8 (m 5)) := hb1.cell 5
  have HK := Lib.hid kA
  have Hb0 := Lib.hid hb0
  have Hb1 := Lib.hid hb1
  clear kA hb0 hb1
  generalize hF : frm t f k b = F at *
  generalize hM : mac m = M at *
  clear hF hM
  cases p
  · go_enter Tryd.func52, Tryd.ntmps52
    go_wp2_with fail
    go_region_held3 (fun w' => w'.cell? ⟨w.heap.size, 0, none⟩ = some (.int .u8 (t 0)) ∧ w'.cell? ⟨w.heap.size, 1, none⟩ = some (.int .u8 (t 1)) ∧ w'.cell? ⟨w.heap.size, 2, none⟩ = some (.int .u8 (t 2)) ∧ w'.cell? ⟨w.heap.size, 3, none⟩ = some (.int .u8 (t 3)) ∧ w'.cell? ⟨w.heap.size, 4, none⟩ = some (.int .u8 (t 4)) ∧ w'.cell? ⟨w.heap.size, 5, none⟩ = some (.int .u8 (t 5)) ∧ w'.cell? ⟨w.heap.size + 1, 0, none⟩ = some (.int .u8 (m 0)) ∧ w'.cell? ⟨w.heap.size + 1, 1, none⟩ = some (.int .u8 (m 1)) ∧ w'.cell? ⟨w.heap.size + 1, 2, none⟩ = some (.int .u8 (m 2)) ∧ w'.cell? ⟨w.heap.size + 1, 3, none⟩ = some (.int .u8 (m 3)) ∧ w'.cell? ⟨w.heap.size + 1, 4, none⟩ = some (.int .u8 (m 4)) ∧ w'.cell? ⟨w.heap.size + 1, 5, none⟩ = some (.int .u8 (m 5)))
      (first | go_keep | fail)
      (first
        | (go_at_call 57
           refine (allMac_any _).mono ?_
           simp only [mac]
           rintro ev w3 ⟨rfl, k3⟩
           have k3 := Kp.undrewN (n := 1) k3
           have B0 := Hb0.out.kept k3 (fun f => f)
           have B1 := Hb1.out.kept k3 (fun f => f)
           have e0 : w3.cell? ⟨w.heap.size, 0, none⟩ = some (Value.int IntKind.u8 (t 0)) := (B0.cell 0).trans ((Hb0.out.cell 0).symm.trans c0)
           have e1 : w3.cell? ⟨w.heap.size, 1, none⟩ = some (Value.int IntKind.u8 (t 1)) := (B0.cell 1).trans ((Hb0.out.cell 1).symm.trans c1)
           have e2 : w3.cell? ⟨w.heap.size, 2, none⟩ = some (Value.int IntKind.u8 (t 2)) := (B0.cell 2).trans ((Hb0.out.cell 2).symm.trans c2)
           have e3 : w3.cell? ⟨w.heap.size, 3, none⟩ = some (Value.int IntKind.u8 (t 3)) := (B0.cell 3).trans ((Hb0.out.cell 3).symm.trans c3)
           have e4 : w3.cell? ⟨w.heap.size, 4, none⟩ = some (Value.int IntKind.u8 (t 4)) := (B0.cell 4).trans ((Hb0.out.cell 4).symm.trans c4)
           have e5 : w3.cell? ⟨w.heap.size, 5, none⟩ = some (Value.int IntKind.u8 (t 5)) := (B0.cell 5).trans ((Hb0.out.cell 5).symm.trans c5)
           have f0 : w3.cell? ⟨w.heap.size + 1, 0, none⟩ = some (Value.int IntKind.u8 (m 0)) := (B1.cell 0).trans ((Hb1.out.cell 0).symm.trans d0)
           have f1 : w3.cell? ⟨w.heap.size + 1, 1, none⟩ = some (Value.int IntKind.u8 (m 1)) := (B1.cell 1).trans ((Hb1.out.cell 1).symm.trans d1)
           have f2 : w3.cell? ⟨w.heap.size + 1, 2, none⟩ = some (Value.int IntKind.u8 (m 2)) := (B1.cell 2).trans ((Hb1.out.cell 2).symm.trans d2)
           have f3 : w3.cell? ⟨w.heap.size + 1, 3, none⟩ = some (Value.int IntKind.u8 (m 3)) := (B1.cell 3).trans ((Hb1.out.cell 3).symm.trans d3)
           have f4 : w3.cell? ⟨w.heap.size + 1, 4, none⟩ = some (Value.int IntKind.u8 (m 4)) := (B1.cell 4).trans ((Hb1.out.cell 4).symm.trans d4)
           have f5 : w3.cell? ⟨w.heap.size + 1, 5, none⟩ = some (Value.int IntKind.u8 (m 5)) := (B1.cell 5).trans ((Hb1.out.cell 5).symm.trans d5)
           have K3 := Lib.hid (HK.out.trans' k3)
           clear k3)
        | fail)
    all_goals
      go_wp2_with fail
      go_ret
      exact ⟨rfl, K3.out⟩
  · go_enter Tryd.func52, Tryd.ntmps52
    go_wp2_with fail
    go_quiet (fail)
    go_wp2_with fail
    go_ret
    exact ⟨rfl, HK.out.drewN _⟩
end Go.Proofs.YtconpcnmccmbiaaDoor
namespace Go.Proofs.YtconpcnmccmbiaaDoor
open Go.RowKit

theorem u8Info : (Tryd.prog.info? 5).map (fun i => (i.zero, i.size, i.bytes)) = some (some (.int .u8 0), 1, 1) := by kernel_rfl
theorem intsK_one (k : IntKind) (xs : List Int) : ∀ u ∈ intsK k xs, u.oneCell' = true := by
  intro u hu
  unfold intsK at hu
  obtain ⟨x, _, rfl⟩ := List.mem_map.1 hu
  rfl
theorem intsK_len (k : IntKind) (xs : List Int) : (intsK k xs).length = xs.length := by simp [intsK]
theorem RdI.cells {w : World} {k : IntKind} {a : Addr} {xs : List Int} (h : RdI w k (some a) xs) : ∀ i u, (intsK k xs)[i]? = some u → w.cell? (a.add i) = some u := by
  intro i u hu
  have hi : i < xs.length := by have := (List.getElem?_eq_some_iff.1 hu).1; rwa [intsK_len] at this
  rcases h.2 with h0 | ⟨b, o, hA, hc⟩
  · omega
  · cases hA
    have e1 : (⟨b, o, none⟩ : Addr).add i = ⟨b, o + i, none⟩ := by unfold Addr.add; split <;> simp_all
    rw [e1, hc i hi, ← hu]
    simp [intsK, hi]

set_option maxRecDepth 100000 in
set_option maxHeartbeats 2000000 in
theorem cloneB_any (A : Option Addr) (c : Nat) (xs : List Int) (w : World) (hx : RdI w .u8 A xs) (hl : xs.length ≤ 100000) :
    Calls Tryd.prog 74 #[.slice A xs.length c] w fun ev w' => ∃ v, ev = .returned v ∧ w'.ownsRow w.heap.size 5 1 v xs.length (intsK .u8 xs) ∧ Kp (fun _ => False) w w' := by
  obtain ⟨i0, hi0, hz0, hz1, hz2⟩ := info_parts u8Info
  cases A with
  | none =>
    have h0 : xs.length = 0 := by
      rcases hx.2 with h | ⟨b, o, h, _⟩
      · exact h
      · cases h
    have hxe : xs = [] := List.eq_nil_of_length_eq_zero h0
    subst hxe
    have hnn := fun (w : World) => Lib.run_eql_slice_nil_nil (P := Tryd.prog) w 0 c Tryd.underlying71
    go_enter Tryd.func74, Tryd.ntmps74
    go_wp2_with fail
    go_ret
    exact ⟨_, rfl, World.ownsRow_nil _ _ _ _, Kp.refl _ _⟩
  | some a =>
    have hown0 := World.ownsRow_made w (base := w.heap.size) (e := 5) (size := 1) #[] 0 (Nat.le_refl _) (by unfold maxLen; omega) rfl
    have hcl := (hx.alloc (.cells #[] 5)).cells
    have Hown0 := Lib.hid hown0
    have Hcl := Lib.hid hcl
    have HK := Lib.hid ((Kp.refl (fun _ => False) w).alloc (.cells #[] 5))
    have HL := Lib.hid (intsK_len .u8 xs)
    have m1 : 0 + xs.length ≤ maxLen := by unfold maxLen; omega
    have hsn := fun (w : World) => Lib.run_eql_slice_some_nil (P := Tryd.prog) w a xs.length c Tryd.underlying71
    clear hx hown0 hcl
    go_enter Tryd.func74, Tryd.ntmps74
    go_wp2_with
      (at_builtin
       go_must (refine wpList_append_own _ rfl (.tmp 5) (.tmp 6) _ rfl w.heap.size 5 i0 _ 1 1 Tryd.underlying71 hi0 hz0 hz1 hz2 rfl (by omega) (.slice (some ⟨w.heap.size, 0, none⟩) 0 0) 0 [] rfl Hown0.out a xs.length c (intsK .u8 xs) rfl (HL.out.trans (Nat.mul_one _).symm) Hcl.out (intsK_one _ _) m1 (by omega) (by simp) ?_)
       intro v1 w1 hown1 hgrow1 _
       have Hown1 := Lib.hid hown1
       have HK1 := Lib.hid (HK.out.grown hgrow1 (fun j hj => .inr (Hown0.out.lt j hj).1))
       clear hown1 hgrow1)
    go_ret
    refine ⟨_, rfl, ?_, HK1.out⟩
    have := Hown1.out
    simpa using this
end Go.Proofs.YtconpcnmccmbiaaDoor
namespace Go.Proofs.YtconpcnmccmbiaaDoor
open Go.RowKit

set_option maxRecDepth 100000 in
set_option maxHeartbeats 1000000 in
theorem sameBytes_any (A B : Option Addr) (c d : Nat) (xs ys : List Int) (w : World) (hx : RdI w .u8 A xs) (hy : RdI w .u8 B ys) :
    Calls Tryd.prog 53 #[.slice A xs.length c, .slice B ys.length d] w fun e w' => e = .returned (.bool (xs == ys)) ∧ ∃ n, w' = w.drewN n := by
  obtain ⟨h1, h2⟩ := hx
  obtain ⟨h3, h4⟩ := hy
  by_cases hl : xs.length = ys.length
  · have hb : (((xs.length : Nat) : Int) != ((ys.length : Nat) : Int)) = false := by simp [hl]
    have Hl := Lib.hid hl
    have H2 := Lib.hid h2
    have H4 := Lib.hid h4
    clear hl h2 h4
    go_enter Tryd.func53, Tryd.ntmps53
    go_wp2_with fail
    go_loopw [5] (fun v wr => ∃ k : Nat, v = .int .i64 k ∧ k ≤ xs.length ∧ xs.take k = ys.take k ∧ ∃ n, wr = w.drewN n) (fun v _ => xs.length - (intOf v).toNat)
    case atStart => exact ⟨0, rfl, by omega, rfl, 0, rfl⟩
    case round =>
      obtain ⟨k, rfl, hk, ht, nw, rfl⟩ := hrel
      have Ht := Lib.hid ht
      clear ht
      by_cases hlt : k < xs.length
      · obtain ⟨b, o, rfl, hc⟩ : ∃ b o, A = some ⟨b, o, none⟩ ∧ ∀ j, j < xs.length → w.cell? ⟨b, o + j, none⟩ = some (.int .u8 (xs.getD j 0)) := by
          rcases H2.out with h | h
          · omega
          · exact h
        obtain ⟨b2, o2, rfl, hc2⟩ : ∃ b o, B = some ⟨b, o, none⟩ ∧ ∀ j, j < ys.length → w.cell? ⟨b, o + j, none⟩ = some (.int .u8 (ys.getD j 0)) := by
          rcases H4.out with h | h
          · have := Hl.out; omega
          · exact h
        have d1 := hc k hlt
        have d2 := hc2 k (by have := Hl.out; omega)
        have k0 : (0 : Int) ≤ (k : Int) := by omega
        have k1 : (k : Int) < (xs.length : Int) := by omega
        have k2 : (k : Int) < (ys.length : Int) := by have := Hl.out; omega
        clear hc hc2
        generalize hxk : xs.getD k 0 = x at d1
        generalize hyk : ys.getD k 0 = y at d2
        have Hxk := Lib.hid hxk
        have Hyk := Lib.hid hyk
        clear hxk hyk
        go_wp2_with fail
        go_quiet (fail)
        by_cases he : x = y
        · have hb2 : (x != y) = false := by simp [he]
          have He := Lib.hid he
          clear he
          go_wp2_with fail
          go_roundw
          case rel => exact ⟨k + 1, by go_num, by omega, getD_eq_or _ _ _ hlt Hl.out Ht.out (by rw [Hxk.out, Hyk.out]; exact He.out), _, rfl⟩
          case measure => simp [intOf]; omega
        · have hb2 : (x != y) = true := by simp [he]
          go_wp2_with fail
          go_ret
          exact ⟨ret_bool' (Eq.symm (by have := getD_ne xs ys k (by rw [Hxk.out, Hyk.out]; exact he); simp [this])), _, World.drewN_drewN ..⟩
      · go_wp2_with fail
        go_ret
        exact ⟨ret_bool' (Eq.symm (by
          have h := Ht.out
          rw [List.take_of_length_le (by omega), List.take_of_length_le (by have := Hl.out; omega)] at h
          simp [h])), _, rfl⟩
  · have hb : (((xs.length : Nat) : Int) != ((ys.length : Nat) : Int)) = true := by simp; omega
    have hne : xs ≠ ys := fun h => hl (by rw [h])
    have Hne := Lib.hid hne
    clear hl hne h2 h4
    go_enter Tryd.func53, Tryd.ntmps53
    go_wp2_with fail
    go_ret
    exact ⟨ret_bool' (Eq.symm (by simp [Hne.out])), 0, rfl⟩

/-- Bytes that a slice's cells hold. -/
def Byt (xs : List Int) : Prop := ∀ j, 0 ≤ xs.getD j 0 ∧ xs.getD j 0 < 256
theorem Byt.tail {x : Int} {xs : List Int} (h : Byt (x :: xs)) : (0 ≤ x ∧ x < 256) ∧ Byt xs := ⟨by simpa using h 0, fun j => by simpa using h (j + 1)⟩
theorem Byt.drop {xs : List Int} (h : Byt xs) (n : Nat) : Byt (xs.drop n) := fun j => by
  have := h (n + j)
  simpa [List.getD, List.getElem?_drop] using this
theorem byt_map : ∀ (xs ys : List Int), Byt xs → Byt ys → (xs.map fun n => UInt8.ofNat n.toNat) = (ys.map fun n => UInt8.ofNat n.toNat) → xs = ys
  | [], [], _, _, _ => rfl
  | [], y :: ys, _, _, h => by simp at h
  | x :: xs, [], _, _, h => by simp at h
  | x :: xs, y :: ys, hx, hy, h => by
    obtain ⟨h1, h2⟩ := hx.tail
    obtain ⟨h3, h4⟩ := hy.tail
    simp only [List.map_cons, List.cons.injEq] at h
    rw [byt_map xs ys h2 h4 h.2]
    have he := congrArg UInt8.toNat h.1
    simp at he
    have : x = y := by omega
    rw [this]
theorem strOfNums_eq (xs ys : List Int) (hx : Byt xs) (hy : Byt ys) : ((strOfNums xs).toList == (strOfNums ys).toList) = (xs == ys) := by
  rw [ByteArray.toList_eq, ByteArray.toList_eq, strOfNums_data, strOfNums_data, Bool.eq_iff_iff]
  simp only [beq_iff_eq]
  constructor
  · exact byt_map xs ys hx hy
  · rintro rfl; rfl
theorem conv_rd {w : World} {A : Option Addr} {xs : List Int} (h : RdI w .u8 A xs) (n c : Nat) (hn : xs.length = n) : (convert 71 9 (.slice A n c)).run Tryd.prog w = .ok (.string (strOfNums xs)) w := by
  rcases h.2 with h0 | ⟨b, o, rfl, hc⟩
  · have : xs = [] := List.eq_nil_of_length_eq_zero h0
    subst this
    obtain rfl : n = 0 := by simpa using hn.symm
    cases A with
    | none => exact run_convert_bytes_nil w 71 5 Tryd.underlying71 Tryd.underlying5 0 c 9 Tryd.underlying9
    | some a =>
      rw [run_convert_bytes_string w 71 9 5 _ 0 c Tryd.underlying71 Tryd.underlying5 Tryd.underlying9, run_bytesToString w a 0 c [] (by simp [loadCells, loadCellsFrom]), foldl_push_bytes]
      rfl
  · exact run_convert_bytes_arg w 71 5 Tryd.underlying71 Tryd.underlying5 b o n c xs hn (fun i hi => hc i (by omega)) 9 Tryd.underlying9

set_option maxRecDepth 100000 in
set_option maxHeartbeats 1000000 in
theorem equal_any (A B : Option Addr) (c d n m : Nat) (xs ys : List Int) (w : World) (hx : RdI w .u8 A xs) (hy : RdI w .u8 B ys) (hn : xs.length = n) (hm : ys.length = m) (bx : Byt xs) (by' : Byt ys) :
    Calls Tryd.prog 78 #[.slice A n c, .slice B m d] w fun ev w' => ev = .returned (.bool (xs == ys)) ∧ Kp (fun _ => False) w w' := by
  have h1 := conv_rd hx n c hn
  have h2 := conv_rd hy m d hm
  have h3 := strOfNums_eq xs ys bx by'
  have H3 := Lib.hid h3
  clear h3 hx hy hn hm bx by'
  go_enter Tryd.func78, Tryd.ntmps78
  go_wp2_with fail
  go_ret
  refine ⟨?_, Kp.refl _ _⟩
  exact ret_bool' H3.out
end Go.Proofs.YtconpcnmccmbiaaDoor
namespace Go.Proofs.YtconpcnmccmbiaaDoor
open Go.RowKit

theorem sized2' (w : World) : Calls Tryd.prog 87 #[.int .i64 2] w fun ev w' => ev = .returned (.bool true) ∧ Kp (fun _ => False) w w' := by
  go_enter Tryd.func87, Tryd.ntmps87
  go_wp2_with fail
  go_ret
  exact ⟨rfl, Kp.refl _ _⟩

set_option maxRecDepth 100000 in
set_option maxHeartbeats 2000000 in
theorem number2 (v : Nat) (w : World) (hv : v < 65536) :
    Calls Tryd.prog 89 #[.int .u64 v, .int .i64 2] w fun ev w' => ∃ s, ev = .returned (.tuple #[s, .int .i64 0]) ∧ w'.ownsRow w.heap.size 5 1 s 2 (intsK .u8 [(v : Int) / 256, (v : Int) % 256]) ∧ Kp (fun _ => False) w w' := by
  obtain ⟨i0, hi0, hz0, hz1, hz2⟩ := info_parts u8Info
  go_enter Tryd.func89, Tryd.ntmps89
  go_wp2_with fail
  refine (sized2' _).mono ?_
  rintro ev w1 ⟨rfl, k1⟩
  have K1 := Lib.hid k1
  clear k1
  go_wp2_with fail
  have hw1 : w.heap.size ≤ w1.heap.size := K1.out.size
  refine wp_loop_rounds 3 ?_
  rw [rounds_succ]
  have hown0 := World.ownsRow_nil (w := w1.alloc (.cells #[.int .u8 ((v : Int) / 256)] 5)) w.heap.size 5 1
  go_wp2_with
    (at_builtin
     go_must (refine wpList_append_own _ rfl (.tmp 29) (.tmp 34) _ rfl w.heap.size 5 i0 _ 1 1 Tryd.underlying71 hi0 hz0 hz1 hz2 rfl (by omega) (.slice none 0 0) 0 [] rfl hown0 ⟨w1.heap.size, 0, none⟩ 1 1 (intsK .u8 [(v : Int) / 256]) rfl rfl (cell_one_new _ _ _) (intsK_one _ _) (by unfold maxLen; omega) (by omega) (by simp; omega) ?_)
     intro v2 w2 hown2 hgrow2 _
     have K2 := Lib.hid ((K1.out.alloc (.cells #[.int .u8 ((v : Int) / 256)] 5)).grown hgrow2 (fun j hj => by cases hj))
     have Hown2 := Lib.hid hown2
     clear hown2 hgrow2)
  rw [rounds_succ]
  have hw2 : w.heap.size ≤ w2.heap.size := K2.out.size
  go_wp2_with
    (at_builtin
     go_must (refine wpList_append_own _ rfl (.tmp 29) (.tmp 34) _ rfl w.heap.size 5 i0 _ 1 1 Tryd.underlying71 hi0 hz0 hz1 hz2 rfl (by omega) v2 (0 + 1) ([] ++ intsK .u8 [(v : Int) / 256]) rfl (Hown2.out.alloc _) ⟨w2.heap.size, 0, none⟩ 1 1 (intsK .u8 [(v : Int) % 256]) rfl rfl (cell_one_new _ _ _) (intsK_one _ _) (by unfold maxLen; omega) (by omega) (by simp; omega) ?_)
     intro v3 w3 hown3 hgrow3 _
     have K3 := Lib.hid ((K2.out.alloc (.cells #[.int .u8 ((v : Int) % 256)] 5)).grown hgrow3 (fun j hj => .inr (Hown2.out.lt j hj).1))
     have Hown3 := Lib.hid hown3
     clear hown3 hgrow3)
  rw [rounds_succ]
  go_wp2_with fail
  go_ret2
  exact ⟨v3, rfl, Hown3.out, K3.out⟩

set_option maxRecDepth 100000 in
set_option maxHeartbeats 2000000 in
/-- word.Row of one number of two bytes. -/
theorem row2 (g v : Nat) (w : World) (hv : v < 65536) (hc : w.cell? ⟨g, 0, none⟩ = some (.int .u64 v)) :
    Calls Tryd.prog 76 #[.int .i64 2, .slice (some ⟨g, 0, none⟩) 1 1] w fun ev w' => ∃ s, ev = .returned (.tuple #[s, .int .i64 0]) ∧ w'.ownsRow w.heap.size 5 1 s 2 (intsK .u8 [(v : Int) / 256, (v : Int) % 256]) ∧ Kp (fun _ => False) w w' := by
  obtain ⟨i0, hi0, hz0, hz1, hz2⟩ := info_parts u8Info
  have HC := Lib.hid hc
  clear hc
  go_enter Tryd.func76, Tryd.ntmps76
  go_wp2_with fail
  refine (sized2' _).mono ?_
  rintro ev w1 ⟨rfl, k1⟩
  have c1 := (k1.cell (p := ⟨g, 0, none⟩) (World.block_lt_of_cell? w _ HC.out) (fun f => f)).trans HC.out
  have K1 := Lib.hid k1
  clear k1
  go_wp2_with fail
  refine wp_loop_rounds 2 ?_
  rw [rounds_succ]
  go_wp2_with fail
  refine (number2 v _ hv).mono ?_
  rintro ev w2 ⟨s, rfl, own2, k2⟩
  have hw1 : w.heap.size ≤ w1.heap.size := K1.out.size
  have hw2 : w1.heap.size ≤ w2.heap.size := k2.size
  obtain ⟨A2, d2, rfl, h2l, rd2, hb2⟩ := RdI.of_own (k := .u8) (xs := [(v : Int) / 256, (v : Int) % 256]) own2
  obtain ⟨a2, rfl⟩ : ∃ a, A2 = some a := by
    rcases rd2.2 with h | ⟨b, o, h, _⟩
    · cases h
    · exact ⟨_, h⟩
  have K2 := Lib.hid (K1.out.trans' k2)
  have HC2 := Lib.hid rd2.cells
  have hown0 := World.ownsRow_nil (w := w2) w.heap.size 5 1
  clear own2 k2 rd2 h2l hb2 c1
  go_wp2_with
    (at_builtin
     go_must (refine wpList_append_own _ rfl (.tmp 29) (.tmp 30) _ rfl w.heap.size 5 i0 _ 1 1 Tryd.underlying71 hi0 hz0 hz1 hz2 rfl (by omega) (.slice none 0 0) 0 [] rfl hown0 a2 2 d2 (intsK .u8 [(v : Int) / 256, (v : Int) % 256]) rfl rfl HC2.out (intsK_one _ _) (by unfold maxLen; omega) (by omega) (by omega) ?_)
     intro v3 w3 hown3 hgrow3 _
     have K3 := Lib.hid (K2.out.grown hgrow3 (fun j hj => by cases hj))
     have Hown3 := Lib.hid hown3
     clear hown3 hgrow3)
  rw [rounds_succ]
  go_wp2_with fail
  go_ret2
  exact ⟨v3, rfl, by simpa using Hown3.out, K3.out⟩
end Go.Proofs.YtconpcnmccmbiaaDoor
namespace Go.Proofs.YtconpcnmccmbiaaDoor
open Go.RowKit

theorem u8Zero : (Tryd.prog.info? 5).map (fun i => (i.zero, i.size, i.bytes)) = some (some (.int .u8 0), 1, 1) := by kernel_rfl

set_option maxRecDepth 100000 in
set_option maxHeartbeats 2000000 in
theorem grow_nil (n : Nat) (w : World) (hn : n ≤ 100000) (h0 : 0 < n) :
    Calls Tryd.prog 90 #[.slice none 0 0, .int .i64 n] w fun ev w' => ∃ s, ev = .returned s ∧ w'.ownsRow w.heap.size 5 1 s 0 [] ∧ Kp (fun _ => False) w w' := by
  obtain ⟨i0, hi0, hz0, hz1, hz2⟩ := info_parts u8Zero
  have h1 : ¬ ((n : Int) < 0) := by omega
  have h3 : IntKind.i64.wrap (n : Int) = n := IntWalk.i64_in _ (by omega)
  have h4 : (0 : Int) < (n : Int) := by omega
  have hr := fun (w : World) (ty : TypeId) => Lib.run_append_nil_zeros (P := Tryd.prog) w 71 3 ty 5 i0 (.int .u8 0) .i64 .i64 Tryd.underlying71 Tryd.underlying3 hi0 hz0 n h0 (by rw [hz1]; omega) (by omega) (by rw [hz2]; omega)
  have HR := Lib.hid hr
  clear hr
  go_enter Tryd.func90, Tryd.ntmps90
  go_wp2_with
    (at_builtin
     go_must (refine Lib.wpList_append_run _ rfl (.tmp 20) (.tmp 21) 71 3 rfl (.slice none 0 0) (.int .i64 n) rfl rfl _ _ (HR.out _ _) ?_))
  go_ret
  refine ⟨_, rfl, ?_, ((Kp.refl _ _).alloc _).drew⟩
  exact World.ownsRow_made w _ _ (Nat.le_refl _) (grownCap_le_maxLen w n 0 5 (by unfold maxLen; omega)) (by simp [size_zeroCells]; have := grownCap_ge w n 0 5; omega)

/-- append of bytes, nil or not, onto a row of one's own. -/
theorem wpList_append_rd {w : World} {ops : Array Oper} {rest : List Oper} {o : Oper} {a : Act} {Q : Exit → Act → World → Prop} (hgd : o.guard = none) (s x : Operand)
    (ho : o.op = .call { callee := .builtin .append, args := #[s, x], argTypes := #[71, 71] }) (base : Nat) (hbase : base ≤ w.heap.size)
    (v : Value) (n : Nat) (xs : List Int) (hs : a.eval s = v) (hown : w.ownsRow base 5 1 v n (intsK .u8 xs))
    (A : Option Addr) (m c : Nat) (ys : List Int) (hx : a.eval x = .slice A m c) (hm : m = ys.length) (hr : RdI w .u8 A ys) (hc0 : A = none → c = 0) (hb : n + m ≤ 100000)
    (h : ∀ v' w', w'.ownsRow base 5 1 v' (n + m) (intsK .u8 (xs ++ ys)) → Kp (fun k => v.ownBlock = some k) w w' → wpList Tryd.prog ops Q rest (a.put o.dst v') w') : wpList Tryd.prog ops Q (o :: rest) a w := by
  obtain ⟨i0, hi0, hz0, hz1, hz2⟩ := info_parts u8Zero
  cases A with
  | none =>
    have h0 : ys = [] := by
      rcases hr.2 with h | ⟨_, _, h, _⟩
      · exact List.eq_nil_of_length_eq_zero h
      · cases h
    subst h0
    obtain rfl := hc0 rfl
    obtain rfl : m = 0 := hm
    refine wpList_append_own_none hgd s x 71 ho base 5 i0 1 Tryd.underlying71 hi0 v n (intsK .u8 xs) hs hown hx ?_
    exact h v w (by simpa using hown) (Kp.refl _ _)
  | some ad =>
    refine wpList_append_own w hgd s x 71 ho base 5 i0 (.int .u8 0) 1 1 Tryd.underlying71 hi0 hz0 hz1 hz2 rfl (by omega) v n (intsK .u8 xs) hs hown ad m c (intsK .u8 ys) hx (by rw [intsK_len, hm]; omega) hr.cells (intsK_one _ _) (by unfold maxLen; omega) (by omega) hbase ?_
    intro v' w' h1 h2 _
    refine h v' w' (by simpa [intsK] using h1) ((Kp.refl _ w).grown h2 (fun k hk => .inl hk))

set_option maxRecDepth 100000 in
set_option maxHeartbeats 4000000 in
theorem concat4 (g b n3 d2 d3 : Nat) (a2 : Addr) (A3 : Option Addr) (x0 x1 x2 x3 : List Int) (w : World)
    (c0 : w.cell? ⟨g, 0, none⟩ = some (.slice (some ⟨b, 0, none⟩) 6 6)) (c1 : w.cell? ⟨g, 1, none⟩ = some (.slice (some ⟨b, 6, none⟩) 6 6))
    (c2 : w.cell? ⟨g, 2, none⟩ = some (.slice (some a2) 2 d2)) (c3 : w.cell? ⟨g, 3, none⟩ = some (.slice A3 n3 d3))
    (r0 : RdI w .u8 (some ⟨b, 0, none⟩) x0) (r1 : RdI w .u8 (some ⟨b, 6, none⟩) x1) (r2 : RdI w .u8 (some a2) x2) (r3 : RdI w .u8 A3 x3)
    (l0 : 6 = x0.length) (l1 : 6 = x1.length) (l2 : 2 = x2.length) (l3 : n3 = x3.length) (hn : n3 ≤ 3000) (h0 : A3 = none → d3 = 0) :
    Calls Tryd.prog 77 #[.slice (some ⟨g, 0, none⟩) 4 4] w fun ev w' => ∃ s, ev = .returned s ∧ w'.ownsRow w.heap.size 5 1 s (14 + n3) (intsK .u8 (x0 ++ x1 ++ x2 ++ x3)) ∧ Kp (fun _ => False) w w' := by
  have hg : g < w.heap.size := World.block_lt_of_cell? w _ c0
  have e0 : (14 + (n3 : Int)) = ((14 + n3 : Nat) : Int) := by omega
  have E0 := Lib.hid e0
  clear e0
  have e1 : IntKind.i64.wrap (14 + (n3 : Int)) = ((14 + n3 : Nat) : Int) := by rw [IntWalk.i64_in _ (by omega)]; omega
  have e2 : ¬ (((14 + n3 : Nat) : Int) < 0) := by omega
  have R0 := Lib.hid r0
  have R1 := Lib.hid r1
  have R2 := Lib.hid r2
  have R3 := Lib.hid r3
  have L0 := Lib.hid l0
  have L1 := Lib.hid l1
  have L2 := Lib.hid l2
  have L3 := Lib.hid l3
  have H0 := Lib.hid h0
  clear r0 r1 r2 r3 l0 l1 l2 l3 h0
  go_enter Tryd.func77, Tryd.ntmps77
  go_wp2_with fail
  refine wp_loop_rounds 5 ?_
  rw [rounds_succ]
  go_wp2_with fail
  rw [rounds_succ]
  go_wp2_with fail
  rw [rounds_succ]
  go_wp2_with fail
  rw [rounds_succ]
  go_wp2_with fail
  rw [rounds_succ]
  go_wp2_with fail
  rw [E0.out]
  refine (grow_nil (14 + n3) _ (by omega) (by omega)).mono ?_
  rintro ev w1 ⟨v1, rfl, own1, k1⟩
  have q0 := (k1.cell (p := ⟨g, 0, none⟩) hg (fun f => f)).trans c0
  have q1 := (k1.cell (p := ⟨g, 1, none⟩) hg (fun f => f)).trans c1
  have q2 := (k1.cell (p := ⟨g, 2, none⟩) hg (fun f => f)).trans c2
  have q3 := (k1.cell (p := ⟨g, 3, none⟩) hg (fun f => f)).trans c3
  have K1 := Lib.hid k1
  have own1' : w1.ownsRow w.heap.size 5 1 v1 0 (intsK .u8 []) := own1
  have Hown1 := Lib.hid own1'
  clear k1 own1 own1' e1 e2
  go_wp2_with fail
  refine wp_loop_rounds 5 ?_
  rw [rounds_succ]
  go_wp2_with
    (at_builtin
     go_must (refine wpList_append_rd rfl (.tmp 31) (.tmp 32) rfl w.heap.size (K1.out.size) v1 (0) ([]) rfl Hown1.out (some ⟨b, 0, none⟩) 6 (6) x0 rfl L0.out (R0.out.kp K1.out (fun _ _ _ f => f)) (fun h => by cases h) (by omega) ?_)
     intro v2 w2 hown hkp
     have K2 := Lib.hid (K1.out.trans hkp (fun j hj hk => absurd (Hown1.out.lt j hk).1 (by omega)))
     have Hown2 := Lib.hid hown
     have q0 := (K2.out.cell (p := ⟨g, 0, none⟩) hg (fun f => f)).trans c0
     have q1 := (K2.out.cell (p := ⟨g, 1, none⟩) hg (fun f => f)).trans c1
     have q2 := (K2.out.cell (p := ⟨g, 2, none⟩) hg (fun f => f)).trans c2
     have q3 := (K2.out.cell (p := ⟨g, 3, none⟩) hg (fun f => f)).trans c3
     clear hown hkp)
  rw [rounds_succ]
  go_wp2_with
    (at_builtin
     go_must (refine wpList_append_rd rfl (.tmp 31) (.tmp 32) rfl w.heap.size (K2.out.size) v2 (0 + 6) ([] ++ x0) rfl Hown2.out (some ⟨b, 6, none⟩) 6 (6) x1 rfl L1.out (R1.out.kp K2.out (fun _ _ _ f => f)) (fun h => by cases h) (by omega) ?_)
     intro v3 w3 hown hkp
     have K3 := Lib.hid (K2.out.trans hkp (fun j hj hk => absurd (Hown2.out.lt j hk).1 (by omega)))
     have Hown3 := Lib.hid hown
     have q0 := (K3.out.cell (p := ⟨g, 0, none⟩) hg (fun f => f)).trans c0
     have q1 := (K3.out.cell (p := ⟨g, 1, none⟩) hg (fun f => f)).trans c1
     have q2 := (K3.out.cell (p := ⟨g, 2, none⟩) hg (fun f => f)).trans c2
     have q3 := (K3.out.cell (p := ⟨g, 3, none⟩) hg (fun f => f)).trans c3
     clear hown hkp)
  rw [rounds_succ]
  go_wp2_with
    (at_builtin
     go_must (refine wpList_append_rd rfl (.tmp 31) (.tmp 32) rfl w.heap.size (K3.out.size) v3 (0 + 6 + 6) ([] ++ x0 ++ x1) rfl Hown3.out (some a2) 2 (d2) x2 rfl L2.out (R2.out.kp K3.out (fun _ _ _ f => f)) (fun h => by cases h) (by omega) ?_)
     intro v4 w4 hown hkp
     have K4 := Lib.hid (K3.out.trans hkp (fun j hj hk => absurd (Hown3.out.lt j hk).1 (by omega)))
     have Hown4 := Lib.hid hown
     have q0 := (K4.out.cell (p := ⟨g, 0, none⟩) hg (fun f => f)).trans c0
     have q1 := (K4.out.cell (p := ⟨g, 1, none⟩) hg (fun f => f)).trans c1
     have q2 := (K4.out.cell (p := ⟨g, 2, none⟩) hg (fun f => f)).trans c2
     have q3 := (K4.out.cell (p := ⟨g, 3, none⟩) hg (fun f => f)).trans c3
     clear hown hkp)
  rw [rounds_succ]
  go_wp2_with
    (at_builtin
     go_must (refine wpList_append_rd rfl (.tmp 31) (.tmp 32) rfl w.heap.size (K4.out.size) v4 (0 + 6 + 6 + 2) ([] ++ x0 ++ x1 ++ x2) rfl Hown4.out (A3) n3 (d3) x3 rfl L3.out (R3.out.kp K4.out (fun _ _ _ f => f)) H0.out (by omega) ?_)
     intro v5 w5 hown hkp
     have K5 := Lib.hid (K4.out.trans hkp (fun j hj hk => absurd (Hown4.out.lt j hk).1 (by omega)))
     have Hown5 := Lib.hid hown
     have q0 := (K5.out.cell (p := ⟨g, 0, none⟩) hg (fun f => f)).trans c0
     have q1 := (K5.out.cell (p := ⟨g, 1, none⟩) hg (fun f => f)).trans c1
     have q2 := (K5.out.cell (p := ⟨g, 2, none⟩) hg (fun f => f)).trans c2
     have q3 := (K5.out.cell (p := ⟨g, 3, none⟩) hg (fun f => f)).trans c3
     clear hown hkp)
  rw [rounds_succ]
  go_wp2_with fail
  go_ret
  exact ⟨v5, rfl, by simpa using Hown5.out, K5.out⟩
end Go.Proofs.YtconpcnmccmbiaaDoor
namespace Go.Proofs.YtconpcnmccmbiaaDoor
open Go.RowKit

set_option maxRecDepth 100000 in
set_option maxHeartbeats 4000000 in
theorem same_any (t1 f1 t2 f2 : Nat → Int) (k1 k2 : Int) (A B : Option Addr) (n c m d : Nat) (xs ys : List Int) (w : World) (hx : RdI w .u8 A xs) (hy : RdI w .u8 B ys) (hn : xs.length = n) (hm : ys.length = m) (bx : Byt xs) (by' : Byt ys) :
    Calls Tryd.prog 56 #[.agg (frm t1 f1 k1 (.slice A n c)), .agg (frm t2 f2 k2 (.slice B m d))] w fun ev w' => ev = .returned (.bool (macEq t1 t2 && macEq f1 f2 && (k1 == k2) && (xs == ys))) ∧ Kp (fun _ => False) w w' := by
  have h1 := run_eql_mac (m := t1) (n := t2)
  have h2 := run_eql_mac (m := f1) (n := f2)
  obtain ⟨p1, hp1⟩ : ∃ p, macEq t1 t2 = p := ⟨_, rfl⟩
  obtain ⟨p2, hp2⟩ : ∃ p, macEq f1 f2 = p := ⟨_, rfl⟩
  obtain ⟨p3, hp3⟩ : ∃ p, (k1 == k2) = p := ⟨_, rfl⟩
  obtain ⟨p4, hp4⟩ : ∃ p, (xs == ys) = p := ⟨_, rfl⟩
  rw [hp1] at h1 ⊢
  rw [hp2] at h2 ⊢
  rw [hp3, hp4]
  simp only [mac] at h1 h2
  have kA := ((Kp.refl (fun _ => False) w).alloc (.cells (frm t1 f1 k1 (.slice A n c)) 77)).alloc (.cells (frm t2 f2 k2 (.slice B m d)) 77)
  have ha := (Bk.new w 77 (frm t1 f1 k1 (.slice A n c))).alloc (.cells (frm t2 f2 k2 (.slice B m d)) 77)
  have hb := Bk.new (w.alloc (.cells (frm t1 f1 k1 (.slice A n c)) 77)) 77 (frm t2 f2 k2 (.slice B m d))
  rw [show (w.alloc (.cells (frm t1 f1 k1 (.slice A n c)) 77)).heap.size = w.heap.size + 1 by simp] at hb
  have a0 : _ = some (Value.int IntKind.u8 (t1 0)) := ha.cell 0
  have a1 : _ = some (Value.int IntKind.u8 (t1 1)) := ha.cell 1
  have a2 : _ = some (Value.int IntKind.u8 (t1 2)) := ha.cell 2
  have a3 : _ = some (Value.int IntKind.u8 (t1 3)) := ha.cell 3
  have a4 : _ = some (Value.int IntKind.u8 (t1 4)) := ha.cell 4
  have a5 : _ = some (Value.int IntKind.u8 (t1 5)) := ha.cell 5
  have a6 : _ = some (Value.int IntKind.u8 (f1 0)) := ha.cell 6
  have a7 : _ = some (Value.int IntKind.u8 (f1 1)) := ha.cell 7
  have a8 : _ = some (Value.int IntKind.u8 (f1 2)) := ha.cell 8
  have a9 : _ = some (Value.int IntKind.u8 (f1 3)) := ha.cell 9
  have a10 : _ = some (Value.int IntKind.u8 (f1 4)) := ha.cell 10
  have a11 : _ = some (Value.int IntKind.u8 (f1 5)) := ha.cell 11
  have a12 : _ = some (Value.int IntKind.u16 k1) := ha.cell 12
  have a13 : _ = some (Value.slice A n c) := ha.cell 13
  have b0 : _ = some (Value.int IntKind.u8 (t2 0)) := hb.cell 0
  have b1 : _ = some (Value.int IntKind.u8 (t2 1)) := hb.cell 1
  have b2 : _ = some (Value.int IntKind.u8 (t2 2)) := hb.cell 2
  have b3 : _ = some (Value.int IntKind.u8 (t2 3)) := hb.cell 3
  have b4 : _ = some (Value.int IntKind.u8 (t2 4)) := hb.cell 4
  have b5 : _ = some (Value.int IntKind.u8 (t2 5)) := hb.cell 5
  have b6 : _ = some (Value.int IntKind.u8 (f2 0)) := hb.cell 6
  have b7 : _ = some (Value.int IntKind.u8 (f2 1)) := hb.cell 7
  have b8 : _ = some (Value.int IntKind.u8 (f2 2)) := hb.cell 8
  have b9 : _ = some (Value.int IntKind.u8 (f2 3)) := hb.cell 9
  have b10 : _ = some (Value.int IntKind.u8 (f2 4)) := hb.cell 10
  have b11 : _ = some (Value.int IntKind.u8 (f2 5)) := hb.cell 11
  have b12 : _ = some (Value.int IntKind.u16 k2) := hb.cell 12
  have b13 : _ = some (Value.slice B m d) := hb.cell 13
  have heq : ∀ w1, Kp (fun _ => False) w w1 → Calls Tryd.prog 78 #[.slice A n c, .slice B m d] w1 fun ev w' => ev = .returned (.bool p4) ∧ Kp (fun _ => False) w1 w' := fun w1 hk => by
    rw [← hp4]
    exact equal_any A B c d n m xs ys w1 (hx.kp hk (fun _ _ _ f => f)) (hy.kp hk (fun _ _ _ f => f)) hn hm bx by'
  have HEQ := Lib.hid heq
  clear heq
  have HK := Lib.hid kA
  clear kA ha hb hp1 hp2 hp4 hx hy hn hm bx by'
  generalize hF : frm t1 f1 k1 (.slice A n c) = F at *
  generalize hM : frm t2 f2 k2 (.slice B m d) = M at *
  clear hF hM
  cases p1
  · go_enter Tryd.func56, Tryd.ntmps56
    go_wp2_with fail
    go_ret
    exact ⟨rfl, HK.out⟩
  cases p2
  · go_enter Tryd.func56, Tryd.ntmps56
    go_wp2_with fail
    go_ret
    exact ⟨rfl, HK.out⟩
  cases p3
  · go_enter Tryd.func56, Tryd.ntmps56
    go_wp2_with fail
    go_ret
    exact ⟨rfl, HK.out⟩
  go_enter Tryd.func56, Tryd.ntmps56
  go_wp2_with fail
  refine (HEQ.out _ HK.out).mono ?_
  rintro ev w3 ⟨rfl, k3⟩
  go_wp2_with fail
  go_ret
  exact ⟨by simp, HK.out.trans' k3⟩
end Go.Proofs.YtconpcnmccmbiaaDoor
namespace Go.Proofs.YtconpcnmccmbiaaDoor
open Go.RowKit Go.Proofs.YtconpcnmccmbiaaDoorW.PrintWords

theorem RdI.toC {w : World} {k : IntKind} {A : Option Addr} {xs : List Int} (h : RdI w k A xs) : Kd.C (Kd.int k) w A xs.length xs := by
  refine ⟨rfl, h.1, fun hn => ?_⟩
  rcases h.2 with h0 | ⟨b, o, rfl, hc⟩
  · omega
  · refine ⟨⟨b, o, none⟩, rfl, fun j p hp => ⟨[.int k p], rfl, rfl, fun i u hu => ?_⟩⟩
    have hj : j < xs.length := (List.getElem?_eq_some_iff.1 hp).1
    have hp2 : xs.getD j 0 = p := by simp [List.getD, hp]
    cases i with
    | zero =>
      have hu2 : u = .int k p := by simpa using hu.symm
      have e1 : (⟨b, o, none⟩ : Addr).add (j * 1 + 0) = ⟨b, o + j, none⟩ := by unfold Addr.add; split <;> simp_all
      have e2 : (Kd.int k).sz = 1 := rfl
      rw [e2, e1, hc j hj, hp2, hu2]
    | succ i => simp at hu

theorem or_two (a b : Nat) (ha : a < 256) (hb : b < 256) : bits .or .u64 (IntKind.u64.wrap ((a : Int) * 256)) (IntKind.u64.wrap (b : Int)) = (a : Int) * 256 + b := by
  have h1 : IntKind.u64.wrap ((a : Int) * 256) = ((a * 256 : Nat) : Int) := by rw [IntKind.wrap_u64]; omega
  have h2 : IntKind.u64.wrap (b : Int) = ((b : Nat) : Int) := by rw [IntKind.wrap_u64]; omega
  rw [h1, h2, u64_or_nat _ _ (by omega) (by omega)]
  have h3 := Nat.shiftLeft_add_eq_or_of_lt (show b < 2 ^ 8 from hb) a
  rw [Nat.shiftLeft_eq] at h3
  have h4 : a * 256 ||| b = a * 256 + b := h3.symm
  rw [h4]
  omega
theorem or_end (a b : Nat) (ha : a < 256) (hb : b < 256) : bits .or .u64 (IntKind.u64.wrap (bits .or .u64 0 (a : Int) * 256)) (b : Int) = (a : Int) * 256 + b := by
  have h0 : bits .or .u64 0 (a : Int) = (a : Int) := by
    have := u64_or_nat 0 a (by omega) (by omega)
    simpa using this
  have h2 : IntKind.u64.wrap (b : Int) = (b : Int) := by rw [IntKind.wrap_u64]; omega
  have := or_two a b ha hb
  rw [h2] at this
  rw [h0, this]
theorem sized2 (w : World) : Calls Tryd.prog 87 #[.int .i64 2] w fun ev w' => ev = .returned (.bool true) ∧ Kp (fun _ => False) w w' := by
  go_enter Tryd.func87, Tryd.ntmps87
  go_wp2_with fail
  go_ret
  exact ⟨rfl, Kp.refl _ _⟩
theorem span2 (n p : Nat) (w : World) (h : p + 2 ≤ n) (hn : n ≤ 100000) : Calls Tryd.prog 88 #[.int .i64 n, .int .i64 p, .int .i64 2] w fun ev w' => ev = .returned (.int .i64 0) ∧ Kp (fun _ => False) w w' := by
  have h1 : ¬ ((p : Int) < 0) := by omega
  have h2 : ¬ ((n : Int) < (p : Int)) := by omega
  have h3 : IntKind.i64.wrap ((n : Int) - (p : Int)) = (n : Int) - p := IntWalk.i64_in _ (by omega)
  have h4 : ¬ ((n : Int) - (p : Int) < 2) := by omega
  go_enter Tryd.func88, Tryd.ntmps88
  go_wp2_with fail
  go_ret
  exact ⟨rfl, Kp.refl _ _⟩

set_option maxRecDepth 100000 in
set_option maxHeartbeats 2000000 in
theorem at2_any (b o p n c x y : Nat) (w : World) (h : p + 2 ≤ n) (hn : n ≤ 100000) (hc : n ≤ c)
    (h1 : w.cell? ⟨b, o + p, none⟩ = some (.int .u8 x)) (h2 : w.cell? ⟨b, o + p + 1, none⟩ = some (.int .u8 y)) (hx : x < 256) (hy : y < 256) :
    Calls Tryd.prog 73 #[.slice (some ⟨b, o, none⟩) n c, .int .i64 p, .int .i64 2] w fun ev w' => ev = .returned (.tuple #[.int .u64 ((x : Int) * 256 + y), .int .i64 0]) ∧ Kp (fun _ => False) w w' := by
  have H1 := Lib.hid h1
  have H2 := Lib.hid h2
  clear h1 h2
  have hoe := or_end x y hx hy
  have HOE := Lib.hid hoe
  clear hoe
  go_enter Tryd.func73, Tryd.ntmps73
  go_wp2_with fail
  refine (sized2 _).mono ?_
  rintro ev w1 ⟨rfl, k1⟩
  have K1 := Lib.hid k1
  clear k1
  go_wp2_with fail
  refine (span2 n p _ h hn).mono ?_
  rintro ev w2 ⟨rfl, k2⟩
  have c1 := ((K1.out.trans' k2).cell (p := ⟨b, o + p, none⟩) (World.block_lt_of_cell? w _ H1.out) (fun f => f)).trans H1.out
  have c2 := ((K1.out.trans' k2).cell (p := ⟨b, o + p + 1, none⟩) (World.block_lt_of_cell? w _ H2.out) (fun f => f)).trans H2.out
  have K2 := Lib.hid (K1.out.trans' k2)
  clear k2
  have e1 : IntKind.i64.wrap ((p : Int) + 2) = (p : Int) + 2 := IntWalk.i64_in _ (by omega)
  have e2 : (0 : Int) ≤ (p : Int) + 2 := by omega
  have e3 : ((p : Int) + 2).toNat = p + 2 := by omega
  have e4 : ¬ (c = p) := by omega
  have e5 : (p : Int) + 2 ≤ (c : Int) := by omega
  have e6 : p ≤ p + 2 := by omega
  have e7 : p + 2 ≤ c := by omega
  have e8 : p + 2 - p = 2 := by omega
  go_wp2_with fail
  clear e1 e2 e3 e4 e5 e6 e7 e8
  refine wp_loop_rounds 3 ?_
  rw [rounds_succ]
  go_wp2_with fail
  rw [rounds_succ]
  go_wp2_with fail
  rw [rounds_succ]
  go_wp2_with fail
  go_ret2
  exact ⟨by rw [HOE.out]; rfl, K2.out⟩
end Go.Proofs.YtconpcnmccmbiaaDoor
namespace Go.Proofs.YtconpcnmccmbiaaDoor
open Go.RowKit Go.Proofs.YtconpcnmccmbiaaDoorW.PrintWords

/-- The empty frame's cells. -/
def frm0 : Array Value := frm (fun _ => 0) (fun _ => 0) 0 (.slice none 0 0)
theorem frm_one (t f : Nat → Int) (k : Int) (A : Option Addr) (n c : Nat) : (frm t f k (.slice A n c)).all (·.oneCell') = true := by
  simp [frm, mac, Value.oneCell']
theorem Kp.setRow {S : Nat → Prop} {a w : World} (h : Kp S a w) {g : Nat} (hg : S g ∨ a.heap.size ≤ g) (cs : Array Value) : Kp S a (w.setRow g cs) :=
  ⟨h.os, h.tape, h.output, by simpa [World.setRow] using h.size, fun k hk hS => (setRow_other w g k cs (by rintro rfl; rcases hg with hg | hg; exact hS hg; omega)).trans (h.block k hk hS)⟩
theorem Bk.setRow {w : World} {g : Nat} {t : TypeId} {cs : Array Value} (h : Bk w g t cs) (cs' : Array Value) : Bk (w.setRow g cs') g t cs' := setRow_heap w g cs cs' t (0, 0) h

set_option maxRecDepth 100000 in
set_option maxHeartbeats 2000000 in
theorem eparse_short (A : Option Addr) (c n : Nat) (w : World) (h : n < 14) :
    Calls Tryd.prog 47 #[.slice A n c] w fun ev w' => ∃ v, ev = .returned (.tuple #[.agg frm0, v]) ∧ Chain w' 12 [1] v ∧ Kp (fun _ => False) w w' := by
  have h1 : (n : Int) < 14 := by omega
  have hb := Bk.new w 77 frm0
  have kA := (Kp.refl (fun _ => False) w).alloc (.cells frm0 77)
  have Hb := Lib.hid hb
  have HK := Lib.hid kA
  clear hb kA
  go_enter Tryd.func47, Tryd.ntmps47
  go_wp2_with fail
  refine (fault_yes 1 12 _ (by decide) (by decide)).mono ?_
  rintro ev w1 ⟨v, rfl, c1, k1⟩
  have hb1 := Hb.out.kept k1 (fun f => f)
  go_wp2_with
    ((with_reducible refine gate_store (t := 77) (p := 2) (v := .tmp 11) rfl ?_)
     go_must (refine wpList_store_row (by rfl) 77 (.tmp 2) (.tmp 11) (by rfl) w.heap.size frm0 (by rfl) (by rfl) 77 frm0 hb1 (by kernel_rfl) rfl (frm_one _ _ _ _ _ _) ?_))
  refine bodyPost_ret (results_ct rfl _ _ w.heap.size 77 frm0 (0, 0) _ rfl (hb1.setRow frm0) Tryd.underlying77 rfl (by kernel_rfl)) rfl ?_
  have kS := Kp.setRow (S := fun b => b = w.heap.size) (Kp.refl _ w1) (.inl rfl) frm0
  exact ⟨v, rfl, c1.kept kS (fun k cs h2 h3 => by subst h3; exact Bk.ne_of h2 hb1 (by decide) rfl), (HK.out.trans' k1).setRow (.inr (Nat.le_refl _)) frm0⟩
set_option maxRecDepth 100000 in
set_option maxHeartbeats 2000000 in
theorem eparse_long (A : Option Addr) (c n : Nat) (w : World) (h : 1514 < n) :
    Calls Tryd.prog 47 #[.slice A n c] w fun ev w' => ∃ v, ev = .returned (.tuple #[.agg frm0, v]) ∧ Chain w' 11 [1] v ∧ Kp (fun _ => False) w w' := by
  have h1 : ¬ ((n : Int) < 14) := by omega
  have h2 : (1514 : Int) < (n : Int) := by omega
  have hb := Bk.new w 77 frm0
  have kA := (Kp.refl (fun _ => False) w).alloc (.cells frm0 77)
  have Hb := Lib.hid hb
  have HK := Lib.hid kA
  clear hb kA
  go_enter Tryd.func47, Tryd.ntmps47
  go_wp2_with fail
  refine (fault_yes 1 11 _ (by decide) (by decide)).mono ?_
  rintro ev w1 ⟨v, rfl, c1, k1⟩
  have hb1 := Hb.out.kept k1 (fun f => f)
  go_wp2_with
    ((with_reducible refine gate_store (t := 77) (p := 2) (v := .tmp 17) rfl ?_)
     go_must (refine wpList_store_row (by rfl) 77 (.tmp 2) (.tmp 17) (by rfl) w.heap.size frm0 (by rfl) (by rfl) 77 frm0 hb1 (by kernel_rfl) rfl (frm_one _ _ _ _ _ _) ?_))
  refine bodyPost_ret (results_ct rfl _ _ w.heap.size 77 frm0 (0, 0) _ rfl (hb1.setRow frm0) Tryd.underlying77 rfl (by kernel_rfl)) rfl ?_
  have kS := Kp.setRow (S := fun b => b = w.heap.size) (Kp.refl _ w1) (.inl rfl) frm0
  exact ⟨v, rfl, c1.kept kS (fun k cs h5 h3 => by subst h3; exact Bk.ne_of h5 hb1 (by decide) rfl), (HK.out.trans' k1).setRow (.inr (Nat.le_refl _)) frm0⟩
end Go.Proofs.YtconpcnmccmbiaaDoor
namespace Go.Proofs.YtconpcnmccmbiaaDoor
open Go.RowKit
theorem own_base {w : World} {base base' : Nat} {e : TypeId} {size n : Nat} {v : Value} {xs : List Value} (h : w.ownsRow base e size v n xs) (hb : base' ≤ base) : w.ownsRow base' e size v n xs := by
  refine ⟨h.1, ?_⟩
  rcases h.2 with h | ⟨g, cap, cur, h1, h2, h3⟩
  · exact .inl h
  · exact .inr ⟨g, cap, cur, h1, by omega, h3⟩
/-- What lies behind the region that makes the frame. -/
def ParseMid (H : Nat) (w1 : World) (x : Nat → Int) (k : Int) (m : Nat) (ys : List Int) (s6 : Value) (wx : World) : Prop :=
  ∃ g A2 d2, s6 = .pointer (some ⟨g, 0, none⟩) ∧ H < g ∧ Bk wx g 77 (frm x (fun i => x (6 + i)) k (.slice A2 m d2)) ∧ wx.ownsRow (H + 1) 5 1 (.slice A2 m d2) m (intsK .u8 ys) ∧ Kp (fun _ => False) w1 wx
theorem parseMid_a {H : Nat} {w1 w2 : World} {x : Nat → Int} {k kw : Int} {m d2 : Nat} {A2 : Option Addr} {ys : List Int} (hk : Kp (fun _ => False) w1 w2) (own : w2.ownsRow (H + 1) 5 1 (.slice A2 m d2) m (intsK .u8 ys)) (hH : H < w1.heap.size) (he : kw = k) :
    ParseMid H w1 x k m ys (.pointer (some ⟨w2.heap.size, 0, none⟩)) (w2.alloc (.cells #[.int .u8 (x 0), .int .u8 (x 1), .int .u8 (x 2), .int .u8 (x 3), .int .u8 (x 4), .int .u8 (x 5), .int .u8 (x 6), .int .u8 (x 7), .int .u8 (x 8), .int .u8 (x 9), .int .u8 (x 10), .int .u8 (x 11), .int .u16 kw, .slice A2 m d2] 77)) := by
  subst he
  have := hk.size
  exact ⟨w2.heap.size, A2, d2, rfl, by omega, Bk.new w2 77 _, own_kp own ((Kp.refl (fun _ => False) w2).alloc _) (fun _ _ f => f), hk.alloc _⟩
theorem parseMid_b {H : Nat} {w1 w2 : World} {x : Nat → Int} {k kw : Int} {m d2 : Nat} {A2 : Option Addr} {ys : List Int} (hk : Kp (fun _ => False) w1 w2) (own : w2.ownsRow (w1.heap.size + 1) 5 1 (.slice A2 m d2) m (intsK .u8 ys)) (hH : H < w1.heap.size) (he : kw = k)
    (nb : Bk w2 w1.heap.size 77 #[.int .u8 0, .int .u8 0, .int .u8 0, .int .u8 0, .int .u8 0, .int .u8 0, .int .u8 0, .int .u8 0, .int .u8 0, .int .u8 0, .int .u8 0, .int .u8 0, .int .u16 0, .slice none 0 0]) :
    ParseMid H w1 x k m ys (.pointer (some ⟨w1.heap.size, 0, none⟩)) ((((((((((((((w2.setCell ⟨w1.heap.size, 0, none⟩ (.int .u8 (x 0))).setCell ⟨w1.heap.size, 1, none⟩ (.int .u8 (x 1))).setCell ⟨w1.heap.size, 2, none⟩ (.int .u8 (x 2))).setCell ⟨w1.heap.size, 3, none⟩ (.int .u8 (x 3))).setCell ⟨w1.heap.size, 4, none⟩ (.int .u8 (x 4))).setCell ⟨w1.heap.size, 5, none⟩ (.int .u8 (x 5))).setCell ⟨w1.heap.size, 6, none⟩ (.int .u8 (x 6))).setCell ⟨w1.heap.size, 7, none⟩ (.int .u8 (x 7))).setCell ⟨w1.heap.size, 8, none⟩ (.int .u8 (x 8))).setCell ⟨w1.heap.size, 9, none⟩ (.int .u8 (x 9))).setCell ⟨w1.heap.size, 10, none⟩ (.int .u8 (x 10))).setCell ⟨w1.heap.size, 11, none⟩ (.int .u8 (x 11))).setCell ⟨w1.heap.size, 12, none⟩ (.int .u16 kw)).setCell ⟨w1.heap.size, 13, none⟩ (.slice A2 m d2)) := by
  subst he
  have hp := (((((((((((((nb.put 0 (.int .u8 (x 0))).put 1 (.int .u8 (x 1))).put 2 (.int .u8 (x 2))).put 3 (.int .u8 (x 3))).put 4 (.int .u8 (x 4))).put 5 (.int .u8 (x 5))).put 6 (.int .u8 (x 6))).put 7 (.int .u8 (x 7))).put 8 (.int .u8 (x 8))).put 9 (.int .u8 (x 9))).put 10 (.int .u8 (x 10))).put 11 (.int .u8 (x 11))).put 12 (.int .u16 kw)).put 13 (.slice A2 m d2)
  simp only [List.setIfInBounds_toArray, List.set_cons_zero, List.set_cons_succ] at hp
  refine ⟨w1.heap.size, A2, d2, rfl, hH, hp, ?_, ?_⟩
  · refine own_base (own_kp (S := fun b => b = w1.heap.size) own ?_ (fun k h1 h2 => by have := (own.lt k h1).1; omega)) (by omega)
    have hput : ∀ (W : World) (i : Nat) (u : Value), Kp (fun b => b = w1.heap.size) w2 W → Kp (fun b => b = w1.heap.size) w2 (W.setCell ⟨w1.heap.size, i, none⟩ u) := fun W i u h => Kp.setCell (p := ⟨w1.heap.size, i, none⟩) h (Or.inl rfl) u
    iterate 14 refine hput _ _ _ ?_
    exact Kp.refl _ _
  · have hput : ∀ (W : World) (i : Nat) (u : Value), Kp (fun _ => False) w1 W → Kp (fun _ => False) w1 (W.setCell ⟨w1.heap.size, i, none⟩ u) := fun W i u h => Kp.setCell (p := ⟨w1.heap.size, i, none⟩) h (Or.inr (Nat.le_refl _)) u
    iterate 14 refine hput _ _ _ ?_
    exact hk
end Go.Proofs.YtconpcnmccmbiaaDoor
namespace Go.Proofs.YtconpcnmccmbiaaDoor
open Go.RowKit

theorem own_low {w : World} {base base' : Nat} {e : TypeId} {size n : Nat} {v : Value} {xs : List Value} (h : w.ownsRow base e size v n xs) (hb : base' ≤ base) : w.ownsRow base' e size v n xs := by
  refine ⟨h.1, ?_⟩
  rcases h.2 with h | ⟨g, cap, cur, h1, h2, h3⟩
  · exact .inl h
  · exact .inr ⟨g, cap, cur, h1, by omega, h3⟩
/-- A Mac's bytes. -/
def macL (m : Nat → Int) : List Int := [m 0, m 1, m 2, m 3, m 4, m 5]
theorem Bk.rd {w : World} {g : Nat} {t : TypeId} {cs : Array Value} (h : Bk w g t cs) (m : Nat → Int) (o : Nat) (hc : ∀ j, j < 6 → cs[o + j]? = some (.int .u8 (m j))) : RdI w .u8 (some ⟨g, o, none⟩) (macL m) := by
  refine ⟨by simp [macL], .inr ⟨g, o, rfl, fun j hj => ?_⟩⟩
  have hj6 : j < 6 := by simpa [macL] using hj
  rw [h.cell (o + j), hc j hj6]
  have h6 : j = 0 ∨ j = 1 ∨ j = 2 ∨ j = 3 ∨ j = 4 ∨ j = 5 := by omega
  rcases h6 with rfl | rfl | rfl | rfl | rfl | rfl <;> rfl
theorem frm_to (t f : Nat → Int) (k : Int) (b : Value) : ∀ j, j < 6 → (frm t f k b)[0 + j]? = some (.int .u8 (t j)) := fun j hj => by
  have h6 : j = 0 ∨ j = 1 ∨ j = 2 ∨ j = 3 ∨ j = 4 ∨ j = 5 := by omega
  rcases h6 with rfl | rfl | rfl | rfl | rfl | rfl <;> rfl
theorem frm_from (t f : Nat → Int) (k : Int) (b : Value) : ∀ j, j < 6 → (frm t f k b)[6 + j]? = some (.int .u8 (f j)) := fun j hj => by
  have h6 : j = 0 ∨ j = 1 ∨ j = 2 ∨ j = 3 ∨ j = 4 ∨ j = 5 := by omega
  rcases h6 with rfl | rfl | rfl | rfl | rfl | rfl <;> rfl

set_option maxRecDepth 100000 in
set_option maxHeartbeats 2000000 in
theorem ebytes_long (t f : Nat → Int) (k : Int) (A : Option Addr) (n c : Nat) (w : World) (h : 1500 < n) :
    Calls Tryd.prog 54 #[.agg (frm t f k (.slice A n c))] w fun ev w' => ∃ v, ev = .returned (.tuple #[.slice none 0 0, v]) ∧ Chain w' 11 [1] v ∧ Kp (fun _ => False) w w' := by
  have h1 : (1500 : Int) < (n : Int) := by omega
  have hb := Bk.new w 77 (frm t f k (.slice A n c))
  have c13 : _ = some (Value.slice A n c) := hb.cell 13
  have HK := Lib.hid ((Kp.refl (fun _ => False) w).alloc (.cells (frm t f k (.slice A n c)) 77))
  clear hb
  generalize hF : frm t f k (.slice A n c) = F at *
  clear hF
  go_enter Tryd.func54, Tryd.ntmps54
  go_wp2_with fail
  refine (fault_yes 1 11 _ (by decide) (by decide)).mono ?_
  rintro ev w1 ⟨v, rfl, c1, k1⟩
  go_wp2_with fail
  go_ret2
  exact ⟨v, rfl, c1, HK.out.trans' k1⟩

set_option maxRecDepth 100000 in
set_option maxHeartbeats 4000000 in
theorem ebytes_mid (t f : Nat → Int) (k : Nat) (A : Option Addr) (n c : Nat) (ys : List Int) (w : World) (hn : n ≤ 1500) (hk : k < 65536) (hy : RdI w .u8 A ys) (hl : n = ys.length) (h0 : A = none → c = 0) :
    Calls Tryd.prog 54 #[.agg (frm t f k (.slice A n c))] w fun ev w' => ∃ s, ev = .returned (.tuple #[s, .nilIface]) ∧ w'.ownsRow w.heap.size 5 1 s (14 + n) (intsK .u8 (macL t ++ macL f ++ [(k : Int) / 256, (k : Int) % 256] ++ ys)) ∧ Kp (fun _ => False) w w' := by
  have h1 : ¬ ((1500 : Int) < (n : Int)) := by omega
  have hb := Bk.new w 77 (frm t f k (.slice A n c))
  have c13 : _ = some (Value.slice A n c) := hb.cell 13
  have c12 : _ = some (Value.int .u16 k) := hb.cell 12
  have kA := (Kp.refl (fun _ => False) w).alloc (.cells (frm t f k (.slice A n c)) 77)
  have hlt : w.heap.size < (w.alloc (.cells (frm t f k (.slice A n c)) 77)).heap.size := by simp
  have HB := Lib.hid hb
  have HK := Lib.hid kA
  have HY := Lib.hid hy
  have HL := Lib.hid hl
  have H0 := Lib.hid h0
  have hw0 : (w.alloc (.cells (frm t f k (.slice A n c)) 77)).heap.size = w.heap.size + 1 := by simp
  have HW0 := Lib.hid hw0
  have ft := frm_to t f k (.slice A n c)
  have ff := frm_from t f k (.slice A n c)
  have FT := Lib.hid ft
  have FF := Lib.hid ff
  clear hb kA hy hl h0 hw0 ft ff
  generalize hF : frm t f k (.slice A n c) = F at *
  clear hF
  go_enter Tryd.func54, Tryd.ntmps54
  go_wp2_with fail
  have hcell : ((w.alloc (.cells F 77)).alloc (.cells #[.int .u64 k] 117)).cell? ⟨w.heap.size + 1, 0, none⟩ = some (.int .u64 k) := by
    have := (Bk.new (w.alloc (.cells F 77)) 117 #[.int .u64 k]).cell 0
    rw [HW0.out] at this
    exact this
  refine (row2 (w.heap.size + 1) k _ hk hcell).mono ?_
  rintro ev w1 ⟨s, rfl, own1, k1⟩
  obtain ⟨A2, d2, rfl, h2l, rd2, hb2⟩ := RdI.of_own (k := .u8) (xs := [(k : Int) / 256, (k : Int) % 256]) own1
  obtain ⟨a2, rfl⟩ : ∃ a, A2 = some a := by
    rcases rd2.2 with h | ⟨b, o, h, _⟩
    · cases h
    · exact ⟨_, h⟩
  have kB := ((Kp.refl (fun _ => False) (w.alloc (.cells F 77))).alloc (.cells #[.int .u64 k] 117)).trans' k1
  have hb1 := HB.out.kept kB (fun f => f)
  have e13 := (kB.cell (p := ⟨w.heap.size, 13, none⟩) hlt (fun f => f)).trans c13
  have HB1 := Lib.hid hb1
  have K1 := Lib.hid (HK.out.trans' kB)
  have R2 := Lib.hid rd2
  have hwle : w.heap.size ≤ w1.heap.size := (HK.out.trans' kB).size
  clear own1 k1 rd2 h2l hb2 kB hb1 hcell c12 c13
  go_wp2_with fail
  go_still_tail 7, (by kernel_rfl)
  change wpList _ _ _ _ _ w1.drew
  go_wp2_with fail
  have hq := (Bk.new w1 71 #[.slice (some ⟨w.heap.size, 0, none⟩) 6 6, .slice (some ⟨w.heap.size, 6, none⟩) 6 6, .slice (some a2) 2 d2, .slice A n c]).drew
  have kQ := ((Kp.refl (fun _ => False) w1).alloc (.cells #[.slice (some ⟨w.heap.size, 0, none⟩) 6 6, .slice (some ⟨w.heap.size, 6, none⟩) 6 6, .slice (some a2) 2 d2, .slice A n c] 71)).drew
  have hbQ := HB1.out.kept kQ (fun f => f)
  refine (concat4 w1.heap.size w.heap.size n d2 c a2 A (macL t) (macL f) [(k : Int) / 256, (k : Int) % 256] ys _ (hq.cell 0) (hq.cell 1) (hq.cell 2) (hq.cell 3) (hbQ.rd t 0 FT.out) (hbQ.rd f 6 FF.out) (R2.out.kp kQ (fun _ _ _ f => f)) (HY.out.kp (K1.out.trans' kQ) (fun _ _ _ f => f)) rfl rfl rfl HL.out (by omega) H0.out).mono ?_
  rintro ev w3 ⟨s, rfl, own3, k3⟩
  have K3 := Lib.hid (K1.out.trans' (kQ.trans' k3))
  have hk1 := kQ.size
  have HO3 := Lib.hid (own_low (base' := w.heap.size) own3 (by omega))
  clear own3 k3 kQ hbQ hq
  go_wp2_with fail
  go_ret2
  exact ⟨s, rfl, HO3.out, K3.out⟩
end Go.Proofs.YtconpcnmccmbiaaDoor
namespace Go.Proofs.YtconpcnmccmbiaaDoor
open Go.ChangeShapes Go.WideShapes Go.ChangeAt Go.RowKit

theorem cells5 : Tryd.prog.cellsOf 5 = 1 := by kernel_rfl
theorem cells73 : Tryd.prog.cellsOf 73 = 6 := by kernel_rfl
theorem cells75 : Tryd.prog.cellsOf 75 = 1 := by kernel_rfl
theorem cells71 : Tryd.prog.cellsOf 71 = 1 := by kernel_rfl
theorem cells77 : Tryd.prog.cellsOf 77 = 14 := by kernel_rfl
/-- Bytes. -/
def Oct (m : Nat → Int) : Prop := ∀ i, 0 ≤ m i ∧ m i < 256
theorem wf_u8 {n : Int} (h : (Lit.int .u8 n).wf = true) : 0 ≤ n ∧ n < 256 := by
  simp [Lit.wf, IntKind.min, IntKind.max, IntKind.signed, IntKind.bits] at h
  omega
theorem wf_u16 {n : Int} (h : (Lit.int .u16 n).wf = true) : 0 ≤ n ∧ n < 65536 := by
  simp [Lit.wf, IntKind.min, IntKind.max, IntKind.signed, IntKind.bits] at h
  omega
section
variable {H : Type} {enc : TypeId × Value → H} {w : World} {base : Nat} {spare : Nat → Bool} {held : Bool} {fuel : Nat}
set_option maxRecDepth 100000 in
theorem trod_mac {cs : List Value} {x : DataW H × List MemPlace} (h : DataW.trod enc Tryd.prog w base spare held fuel 73 cs = some x) :
    ∃ m : Nat → Int, cs = (mac m).toList ∧ x.2 = [] ∧ Oct m := by
  obtain ⟨xs, n, rfl, rfl, hl, hxs, hi⟩ := DataW.trod_array Tryd.underlying73 h
  rw [cells73] at hl
  simp only [cells5, Nat.mul_one] at hi
  match xs, hxs with
  | [y0, y1, y2, y3, y4, y5], _ =>
    match cs, hl with
    | [c0, c1, c2, c3, c4, c5], _ =>
      have t0 := DataW.trod_int Tryd.underlying5 (by simpa using hi 0 (by omega))
      have t1 := DataW.trod_int Tryd.underlying5 (by simpa using hi 1 (by omega))
      have t2 := DataW.trod_int Tryd.underlying5 (by simpa using hi 2 (by omega))
      have t3 := DataW.trod_int Tryd.underlying5 (by simpa using hi 3 (by omega))
      have t4 := DataW.trod_int Tryd.underlying5 (by simpa using hi 4 (by omega))
      have t5 := DataW.trod_int Tryd.underlying5 (by simpa using hi 5 (by omega))
      obtain ⟨n0, e0, rfl, w0⟩ := t0
      obtain ⟨n1, e1, rfl, w1⟩ := t1
      obtain ⟨n2, e2, rfl, w2⟩ := t2
      obtain ⟨n3, e3, rfl, w3⟩ := t3
      obtain ⟨n4, e4, rfl, w4⟩ := t4
      obtain ⟨n5, e5, rfl, w5⟩ := t5
      simp only [List.cons.injEq, and_true] at e0 e1 e2 e3 e4 e5
      subst e0 e1 e2 e3 e4 e5
      refine ⟨fun i => [n0, n1, n2, n3, n4, n5].getD i 0, rfl, rfl, fun i => ?_⟩
      have := wf_u8 w0; have := wf_u8 w1; have := wf_u8 w2; have := wf_u8 w3; have := wf_u8 w4; have := wf_u8 w5
      match i with
      | 0 => assumption
      | 1 => assumption
      | 2 => assumption
      | 3 => assumption
      | 4 => assumption
      | 5 => assumption
      | i + 6 => simp
set_option maxRecDepth 100000 in
theorem open_mac {r : Reach} {b0 : Nat} {v : Value} {d : DataW H} {p : List MemPlace} (hv : Value.okWide Tryd.prog w r b0 73 v) (h : DataW.Trod enc Tryd.prog w base spare held 73 v d p) :
    ∃ m : Nat → Int, v = .agg (mac m) ∧ p = [] ∧ Oct m := by
  obtain ⟨cs, rfl, _⟩ : ∃ cs, v = .agg cs ∧ cs.size = Tryd.prog.cellsOf 73 := by
    unfold Value.okWide at hv
    rw [Tryd.underlying73] at hv
    obtain ⟨cs, h1, h2, _⟩ := hv
    exact ⟨cs, h1, h2⟩
  obtain ⟨fuel, hf⟩ := h
  obtain ⟨m, h1, h2, h3⟩ := trod_mac hf
  exact ⟨m, by rw [show cs = mac m from Array.ext' h1], h2, h3⟩
theorem off77 : ∃ fs : Array Field, Tryd.prog.underlying 77 = some (.struct fs) ∧ fs.toList.map (fun f => (f.type, f.offset)) = [(73, 0), (73, 6), (75, 12), (71, 13)] := ⟨_, Tryd.underlying77, by kernel_rfl⟩
/-- A slice of bytes that came in. -/
theorem open_oct {W : World} {cs : List Value} {x : DataW H × List MemPlace} (h : DataW.trod enc Tryd.prog W 0 (fun _ => true) true fuel 71 cs = some x) :
    ∃ A xs c, cs = [.slice A xs.length c] ∧ RdI W .u8 A xs ∧ Byt xs ∧ (A = none → c = 0) ∧ xs.length ≤ c := by
  rcases open_ints Tryd.underlying71 Tryd.underlying5 cells5 h with ⟨rfl, hx⟩ | ⟨a, len, cap, zs, rfl, _, hl, hm, hz, hx, hcell, hwz⟩
  · exact ⟨none, [], 0, rfl, ⟨by simp, .inl rfl⟩, fun j => by simp, fun _ => rfl, by simp⟩
  · simp at hz
    have htl : (zs.take len).length = len := by rw [List.length_take]; omega
    refine ⟨some a, zs.take len, cap, by rw [htl], ⟨by rw [htl]; unfold maxLen at hm; omega, ?_⟩, ?_, (fun h => by cases h), by rw [htl]; exact hl⟩
    · by_cases h0 : len = 0
      · exact .inl (by rw [htl]; exact h0)
      · right
        have hsp : a.spot = none := by
          have h1 := hcell 0 (by omega)
          cases hs : a.spot with
          | none => rfl
          | some q => simp [Addr.add, World.cell?, hs] at h1; split at h1 <;> cases h1
        obtain ⟨b, o, sp⟩ := a
        simp at hsp
        subst hsp
        refine ⟨b, o, rfl, fun j hj => ?_⟩
        rw [htl] at hj
        have h1 := hcell j (by omega)
        have e1 : (⟨b, o, none⟩ : Addr).add j = ⟨b, o + j, none⟩ := by unfold Addr.add; split <;> simp_all
        rw [e1] at h1
        rw [h1]
        simp [List.getElem?_take_of_lt, hj]
    · intro j
      rcases Nat.lt_or_ge j (zs.take len).length with hj | hj
      · have h1 := wf_u8 (hwz _ (List.mem_of_mem_take (List.getElem_mem hj)))
        simp only [List.getD, List.getElem?_eq_getElem hj, Option.getD_some]
        exact h1
      · simp [List.getD, List.getElem?_eq_none hj]
set_option maxRecDepth 100000 in
theorem open_bytes {W : World} {b0 : Nat} {r : Reach} {v : Value} {d : DataW H} {p : List MemPlace} (hv : Value.okWide Tryd.prog W r b0 71 v) (h : DataW.Trod enc Tryd.prog W 0 (fun _ => true) true 71 v d p) :
    ∃ A xs c, v = .slice A xs.length c ∧ RdI W .u8 A xs ∧ Byt xs ∧ (A = none → c = 0) ∧ xs.length ≤ c := by
  obtain ⟨fuel, hf⟩ := h
  obtain ⟨a0, len, cap, rfl⟩ := okWide_slice Tryd.underlying71 hv
  obtain ⟨A, xs, c, e, h⟩ := open_oct hf
  simp only [Value.cells, List.cons.injEq, and_true] at e
  exact ⟨A, xs, c, e, h⟩
set_option maxRecDepth 100000 in
theorem open_frame {W : World} {b0 : Nat} {r : Reach} {v : Value} {d : DataW H} {p : List MemPlace} (hv : Value.okWide Tryd.prog W r b0 77 v) (h : DataW.Trod enc Tryd.prog W 0 (fun _ => true) true 77 v d p) :
    ∃ (t f : Nat → Int) (k : Nat) (A : Option Addr) (xs : List Int) (c : Nat), v = .agg (frm t f k (.slice A xs.length c)) ∧ Oct t ∧ Oct f ∧ k < 65536 ∧ RdI W .u8 A xs ∧ Byt xs ∧ (A = none → c = 0) ∧ xs.length ≤ c := by
  obtain ⟨cs, rfl, hsz⟩ := okWide_struct Tryd.underlying77 hv
  obtain ⟨fuel, hf⟩ := h
  obtain ⟨ys, n, rfl, _, hl, hys, hi⟩ := DataW.trod_struct Tryd.underlying77 hf
  rw [cells77] at hsz
  have h0 := hi 0 _ rfl
  have h1 := hi 1 _ rfl
  have h2 := hi 2 _ rfl
  have h3 := hi 3 _ rfl
  match ys, hys with
  | [y0, y1, y2, y3], _ =>
    obtain ⟨l, hcs⟩ : ∃ l, cs = l := ⟨cs, rfl⟩
    have hl14 : cs.toList.length = 14 := by simpa using hsz
    match hcl : cs.toList, hl14 with
    | [c0, c1, c2, c3, c4, c5, c6, c7, c8, c9, c10, c11, c12, c13], _ =>
      simp only [Value.cells, hcl] at h0 h1 h2 h3
      obtain ⟨t, e0, _, o0⟩ := trod_mac (x := y0) (by simpa [cells73] using h0)
      obtain ⟨f, e1, _, o1⟩ := trod_mac (x := y1) (by simpa [cells73] using h1)
      obtain ⟨kk, e2, _, w2⟩ := DataW.trod_int (x := y2) Tryd.underlying75 (by simpa [cells75] using h2)
      obtain ⟨A, xs, c, e3, rd, by', hA, hxc⟩ := open_oct (x := y3) (by simpa [cells71] using h3)
      have hw := wf_u16 w2
      refine ⟨t, f, kk.toNat, A, xs, c, ?_, o0, o1, by omega, rd, by', hA, hxc⟩
      have hk : ((kk.toNat : Nat) : Int) = kk := by omega
      rw [hk]
      refine congrArg Value.agg (Array.ext' ?_)
      rw [hcl]
      have e0' : [c0, c1, c2, c3, c4, c5] = (mac t).toList := e0
      have e1' : [c6, c7, c8, c9, c10, c11] = (mac f).toList := e1
      have e2' : [c12] = [Value.int .u16 kk] := e2
      have e3' : [c13] = [Value.slice A xs.length c] := e3
      show [c0, c1, c2, c3, c4, c5] ++ [c6, c7, c8, c9, c10, c11] ++ [c12] ++ [c13] = _
      rw [e0', e1', e2', e3']
      rfl
end
end Go.Proofs.YtconpcnmccmbiaaDoor
