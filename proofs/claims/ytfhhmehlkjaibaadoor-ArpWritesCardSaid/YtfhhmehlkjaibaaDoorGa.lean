/- Ya Yb Arp: numbers of two and four bytes (arp.number, word.Row). Arp: a number's four bytes (word.number, word.Row). Arp: slices.Concat of a packet's six rows; what Bytes makes. Arp: a packet's bytes. -/
import Derived.Test.YtfhhmehlkjaibaaDoorSi
import Derived.Laws.StructEq
import Derived.Stop.BytesEq
import Derived.LoopTactic
import Derived.Laws.Rows
import Derived.Deep.RegionHeld3
import Derived.Deep.DeepMust
import Derived.Laws.OwnMore
import Derived.Maps.AppendAt
import Derived.Lib.BufferMore
import Derived.Laws.BytesArg
import Derived.IntWalk
import Derived.Lib.AppendZeros
import Derived.Laws.AppendOwnNone
import Derived.Deep.AppendLies
import Derived.Laws.BitsAllLaws
import Derived.Laws.Tables
import Derived.StillTailTactics
import Derived.Deep.DeepCutAuto
import Derived.Lib.SlBytesConst
set_option linter.unusedVariables false
set_option linter.unusedSimpArgs false
namespace Go.Proofs.YtfhhmehlkjaibaaDoor
open Go.RowKit

/-- A Mac's cells. -/
def mac (m : Nat → Int) : Array Value := #[.int .u8 (m 0), .int .u8 (m 1), .int .u8 (m 2), .int .u8 (m 3), .int .u8 (m 4), .int .u8 (m 5)]
/-- Are two Macs the same? -/
def macEq (m n : Nat → Int) : Bool := (List.range 6).all fun i => m i == n i
theorem run_equalIn_mac (w : World) (d : Nat) (m n : Nat → Int) : (Op.equalIn (d + 2) 41 (.agg (mac m)) (.agg (mac n))).run Tryd.prog w = .ok (macEq m n) w := by
  have hsz : ∀ w, (sizeOf 5).run Tryd.prog w = .ok 1 w := fun w => by kernel_rfl
  have ht : Tryd.prog.underlying 41 = some (.array 6 5) := Tryd.underlying41
  have he : Tryd.prog.underlying 5 = some (.int .u8) := Tryd.underlying5
  unfold macEq
  rw [List.range_eq_range', Op.equalIn]
  simp only [Sem.run_bind, run_underlying ht, Result.andThen_ok, hsz, Std.Legacy.Range.forIn_eq_forIn_range', Std.Legacy.Range.size, Nat.sub_zero, Nat.add_sub_cancel, Nat.div_one]
  have hl : ∀ i ∈ List.range' 0 6 1, i < 6 := fun i hi => by simpa using (List.mem_range'_1.1 hi).2
  generalize List.range' 0 6 1 = l at hl ⊢
  induction l with
  | nil => simp
  | cons i l ih =>
    have hi : i < 6 := hl i (by simp)
    have hcell : ∀ (m : Nat → Int), (part 5 (mac m) (i * 1)).run Tryd.prog w = .ok (.int .u8 (m i)) w := fun m => by
      have h6 : i = 0 ∨ i = 1 ∨ i = 2 ∨ i = 3 ∨ i = 4 ∨ i = 5 := by omega
      rcases h6 with rfl | rfl | rfl | rfl | rfl | rfl <;> simp [part, isAgg, run_underlying he, mac]
    have pe : (Op.equalIn (d + 1) 5 (.int .u8 (m i)) (.int .u8 (n i))).run Tryd.prog w = .ok (m i == n i) w := by
      rw [run_equalIn_int w d 5 .u8 .u8 _ _ he]
    simp only [List.forIn_cons, Sem.run_bind, hcell m, hcell n, pe, Result.andThen_ok, List.all_cons]
    cases hb : (m i == n i)
    · simp
    · simp only [Bool.not_true, Bool.false_eq_true, if_false, Sem.run_pure, Result.andThen_ok, Bool.true_and]
      exact ih fun j hj => hl j (by simp [hj])
theorem run_eql_mac (w : World) (m n : Nat → Int) : (binOp .eql 41 (.agg (mac m)) (.agg (mac n))).run Tryd.prog w = .ok (.bool (macEq m n)) w := by
  rw [run_eql_struct, run_equalIn_mac w 9998 m n]
  rfl
theorem macEq_iff (m n : Nat → Int) : macEq m n = true ↔ ∀ i, i < 6 → m i = n i := by
  unfold macEq
  simp [List.all_eq_true]
theorem odd_val (x : Int) (h : 0 ≤ x ∧ x < 256) : (bits BinOp.and IntKind.u8 x 1 != 0) = (x % 2 != 0) := by
  have h1 : ∀ n : Fin 256, (bits BinOp.and IntKind.u8 (n.val : Int) 1 != 0) = ((n.val : Int) % 2 != 0) := by decide +kernel
  have h2 := h1 ⟨x.toNat, by omega⟩
  rwa [show (((⟨x.toNat, by omega⟩ : Fin 256).val : Nat) : Int) = x from by show ((x.toNat : Nat) : Int) = x; omega] at h2
set_option maxRecDepth 100000 in
set_option maxHeartbeats 1000000 in
theorem group_any (m : Nat → Int) (w : World) (hm : 0 ≤ m 0 ∧ m 0 < 256) :
    Calls Tryd.prog 41 #[.agg (mac m)] w fun ev w' => ev = .returned (.bool (m 0 % 2 != 0)) ∧ Kp (fun _ => False) w w' := by
  have hb := (Bk.new w 41 (mac m)).cell 0
  have c0 : (w.alloc (.cells (mac m) 41)).cell? ⟨w.heap.size, 0, none⟩ = some (.int .u8 (m 0)) := hb
  clear hb
  have ho := odd_val _ hm
  have HO := Lib.hid ho
  clear ho hm
  generalize hM : mac m = M at c0
  go_enter Tryd.func41, Tryd.ntmps41
  go_wp2_with fail
  go_ret
  exact ⟨ret_bool' HO.out, (Kp.refl _ _).alloc _⟩
theorem u8Info : (Tryd.prog.info? 5).map (fun i => (i.zero, i.size, i.bytes)) = some (some (.int .u8 0), 1, 1) := by kernel_rfl
theorem intsK_one (k : IntKind) (xs : List Int) : ∀ u ∈ intsK k xs, u.oneCell' = true := by
  intro u hu
  unfold intsK at hu
  obtain ⟨x, _, rfl⟩ := List.mem_map.1 hu
  rfl
theorem intsK_len (k : IntKind) (xs : List Int) : (intsK k xs).length = xs.length := by simp [intsK]
theorem RdI.cells {w : World} {k : IntKind} {a : Addr} {xs : List Int} (h : RdI w k (some a) xs) : ∀ i u, (intsK k xs)[i]? = some u → w.cell? (a.add i) = some u := by
  intro i u hu
  have hi : i < xs.length := by have := (List.getElem?_eq_some_iff.1 hu).1; rwa [intsK_len] at this
  rcases h.2 with h0 | ⟨b, o, hA, hc⟩
  · omega
  · cases hA
    have e1 : (⟨b, o, none⟩ : Addr).add i = ⟨b, o + i, none⟩ := by unfold Addr.add; split <;> simp_all
    rw [e1, hc i hi, ← hu]
    simp [intsK, hi]
set_option maxRecDepth 100000 in
set_option maxHeartbeats 1000000 in
theorem sameBytes_any (A B : Option Addr) (c d : Nat) (xs ys : List Int) (w : World) (hx : RdI w .u8 A xs) (hy : RdI w .u8 B ys) :
    Calls Tryd.prog 22 #[.slice A xs.length c, .slice B ys.length d] w fun e w' => e = .returned (.bool (xs == ys)) ∧ ∃ n, w' = w.drewN n := by
  obtain ⟨h1, h2⟩ := hx
  obtain ⟨h3, h4⟩ := hy
  by_cases hl : xs.length = ys.length
  · have hb : (((xs.length : Nat) : Int) != ((ys.length : Nat) : Int)) = false := by simp [hl]
    have Hl := Lib.hid hl
    have H2 := Lib.hid h2
    have H4 := Lib.hid h4
    clear hl h2 h4
    go_enter Tryd.func22, Tryd.ntmps22
    go_wp2_with fail
    go_loopw [5] (fun v wr => ∃ k : Nat, v = .int .i64 k ∧ k ≤ xs.length ∧ xs.take k = ys.take k ∧ ∃ n, wr = w.drewN n) (fun v _ => xs.length - (intOf v).toNat)
    case atStart => exact ⟨0, rfl, by omega, rfl, 0, rfl⟩
    case round =>
      obtain ⟨k, rfl, hk, ht, nw, rfl⟩ := hrel
      have Ht := Lib.hid ht
      clear ht
      by_cases hlt : k < xs.length
      · obtain ⟨b, o, rfl, hc⟩ : ∃ b o, A = some ⟨b, o, none⟩ ∧ ∀ j, j < xs.length → w.cell? ⟨b, o + j, none⟩ = some (.int .u8 (xs.getD j 0)) := by
          rcases H2.out with h | h
          · omega
          · exact h
        obtain ⟨b2, o2, rfl, hc2⟩ : ∃ b o, B = some ⟨b, o, none⟩ ∧ ∀ j, j < ys.length → w.cell? ⟨b, o + j, none⟩ = some (.int .u8 (ys.getD j 0)) := by
          rcases H4.out with h | h
          · have := Hl.out; omega
          · exact h
        have d1 := hc k hlt
        have d2 := hc2 k (by have := Hl.out; omega)
        have k0 : (0 : Int) ≤ (k : Int) := by omega
        have k1 : (k : Int) < (xs.length : Int) := by omega
        have k2 : (k : Int) < (ys.length : Int) := by have := Hl.out; omega
        clear hc hc2
        generalize hxk : xs.getD k 0 = x at d1
        generalize hyk : ys.getD k 0 = y at d2
        have Hxk := Lib.hid hxk
        have Hyk := Lib.hid hyk
        clear hxk hyk
        go_wp2_with fail
        go_quiet (fail)
        by_cases he : x = y
        · have hb2 : (x != y) = false := by simp [he]
          have He := Lib.hid he
          clear he
          go_wp2_with fail
          go_roundw
          case rel => exact ⟨k + 1, by go_num, by omega, getD_eq_or _ _ _ hlt Hl.out Ht.out (by rw [Hxk.out, Hyk.out]; exact He.out), _, rfl⟩
          case measure => simp [intOf]; omega
        · have hb2 : (x != y) = true := by simp [he]
          go_wp2_with fail
          go_ret
          exact ⟨ret_bool' (Eq.symm (by have := getD_ne xs ys k (by rw [Hxk.out, Hyk.out]; exact he); simp [this])), _, World.drewN_drewN ..⟩
      · go_wp2_with fail
        go_ret
        exact ⟨ret_bool' (Eq.symm (by
          have h := Ht.out
          rw [List.take_of_length_le (by omega), List.take_of_length_le (by have := Hl.out; omega)] at h
          simp [h])), _, rfl⟩
  · have hb : (((xs.length : Nat) : Int) != ((ys.length : Nat) : Int)) = true := by simp; omega
    have hne : xs ≠ ys := fun h => hl (by rw [h])
    have Hne := Lib.hid hne
    clear hl hne h2 h4
    go_enter Tryd.func22, Tryd.ntmps22
    go_wp2_with fail
    go_ret
    exact ⟨ret_bool' (Eq.symm (by simp [Hne.out])), 0, rfl⟩
/-- Bytes that a slice's cells hold. -/
def Byt (xs : List Int) : Prop := ∀ j, 0 ≤ xs.getD j 0 ∧ xs.getD j 0 < 256
theorem Byt.tail {x : Int} {xs : List Int} (h : Byt (x :: xs)) : (0 ≤ x ∧ x < 256) ∧ Byt xs := ⟨by simpa using h 0, fun j => by simpa using h (j + 1)⟩
theorem Byt.drop {xs : List Int} (h : Byt xs) (n : Nat) : Byt (xs.drop n) := fun j => by
  have := h (n + j)
  simpa [List.getD, List.getElem?_drop] using this
theorem byt_map : ∀ (xs ys : List Int), Byt xs → Byt ys → (xs.map fun n => UInt8.ofNat n.toNat) = (ys.map fun n => UInt8.ofNat n.toNat) → xs = ys
  | [], [], _, _, _ => rfl
  | [], y :: ys, _, _, h => by simp at h
  | x :: xs, [], _, _, h => by simp at h
  | x :: xs, y :: ys, hx, hy, h => by
    obtain ⟨h1, h2⟩ := hx.tail
    obtain ⟨h3, h4⟩ := hy.tail
    simp only [List.map_cons, List.cons.injEq] at h
    rw [byt_map xs ys h2 h4 h.2]
    have he := congrArg UInt8.toNat h.1
    simp at he
    have : x = y := by omega
    rw [this]
theorem strOfNums_eq (xs ys : List Int) (hx : Byt xs) (hy : Byt ys) : ((strOfNums xs).toList == (strOfNums ys).toList) = (xs == ys) := by
  rw [ByteArray.toList_eq, ByteArray.toList_eq, strOfNums_data, strOfNums_data, Bool.eq_iff_iff]
  simp only [beq_iff_eq]
  constructor
  · exact byt_map xs ys hx hy
  · rintro rfl; rfl
theorem conv_rd {w : World} {A : Option Addr} {xs : List Int} (h : RdI w .u8 A xs) (n c : Nat) (hn : xs.length = n) : (convert 38 9 (.slice A n c)).run Tryd.prog w = .ok (.string (strOfNums xs)) w := by
  rcases h.2 with h0 | ⟨b, o, rfl, hc⟩
  · have : xs = [] := List.eq_nil_of_length_eq_zero h0
    subst this
    obtain rfl : n = 0 := by simpa using hn.symm
    cases A with
    | none => exact run_convert_bytes_nil w 38 5 Tryd.underlying38 Tryd.underlying5 0 c 9 Tryd.underlying9
    | some a =>
      rw [run_convert_bytes_string w 38 9 5 _ 0 c Tryd.underlying38 Tryd.underlying5 Tryd.underlying9, run_bytesToString w a 0 c [] (by simp [loadCells, loadCellsFrom]), foldl_push_bytes]
      rfl
  · exact run_convert_bytes_arg w 38 5 Tryd.underlying38 Tryd.underlying5 b o n c xs hn (fun i hi => hc i (by omega)) 9 Tryd.underlying9
set_option maxRecDepth 100000 in
set_option maxHeartbeats 1000000 in
theorem equal_any (A B : Option Addr) (c d n m : Nat) (xs ys : List Int) (w : World) (hx : RdI w .u8 A xs) (hy : RdI w .u8 B ys) (hn : xs.length = n) (hm : ys.length = m) (bx : Byt xs) (by' : Byt ys) :
    Calls Tryd.prog 58 #[.slice A n c, .slice B m d] w fun ev w' => ev = .returned (.bool (xs == ys)) ∧ Kp (fun _ => False) w w' := by
  have h1 := conv_rd hx n c hn
  have h2 := conv_rd hy m d hm
  have h3 := strOfNums_eq xs ys bx by'
  have H3 := Lib.hid h3
  clear h3 hx hy hn hm bx by'
  go_enter Tryd.func58, Tryd.ntmps58
  go_wp2_with fail
  go_ret
  refine ⟨?_, Kp.refl _ _⟩
  exact ret_bool' H3.out
theorem sized2' (w : World) : Calls Tryd.prog 59 #[.int .i64 2] w fun ev w' => ev = .returned (.bool true) ∧ Kp (fun _ => False) w w' := by
  go_enter Tryd.func59, Tryd.ntmps59
  go_wp2_with fail
  go_ret
  exact ⟨rfl, Kp.refl _ _⟩
set_option maxRecDepth 100000 in
set_option maxHeartbeats 2000000 in
theorem number2 (v : Nat) (w : World) (hv : v < 65536) :
    Calls Tryd.prog 60 #[.int .u64 v, .int .i64 2] w fun ev w' => ∃ s, ev = .returned (.tuple #[s, .int .i64 0]) ∧ w'.ownsRow w.heap.size 5 1 s 2 (intsK .u8 [(v : Int) / 256, (v : Int) % 256]) ∧ Kp (fun _ => False) w w' := by
  obtain ⟨i0, hi0, hz0, hz1, hz2⟩ := info_parts u8Info
  go_enter Tryd.func60, Tryd.ntmps60
  go_wp2_with fail
  refine (sized2' _).mono ?_
  rintro ev w1 ⟨rfl, k1⟩
  have K1 := Lib.hid k1
  clear k1
  go_wp2_with fail
  have hw1 : w.heap.size ≤ w1.heap.size := K1.out.size
  refine wp_loop_rounds 3 ?_
  rw [rounds_succ]
  have hown0 := World.ownsRow_nil (w := w1.alloc (.cells #[.int .u8 ((v : Int) / 256)] 5)) w.heap.size 5 1
  go_wp2_with
    (at_builtin
     go_must (refine wpList_append_own _ rfl (.tmp 29) (.tmp 34) _ rfl w.heap.size 5 i0 _ 1 1 Tryd.underlying38 hi0 hz0 hz1 hz2 rfl (by omega) (.slice none 0 0) 0 [] rfl hown0 ⟨w1.heap.size, 0, none⟩ 1 1 (intsK .u8 [(v : Int) / 256]) rfl rfl (cell_one_new _ _ _) (intsK_one _ _) (by unfold maxLen; omega) (by omega) (by simp; omega) ?_)
     intro v2 w2 hown2 hgrow2 _
     have K2 := Lib.hid ((K1.out.alloc (.cells #[.int .u8 ((v : Int) / 256)] 5)).grown hgrow2 (fun j hj => by cases hj))
     have Hown2 := Lib.hid hown2
     clear hown2 hgrow2)
  rw [rounds_succ]
  have hw2 : w.heap.size ≤ w2.heap.size := K2.out.size
  go_wp2_with
    (at_builtin
     go_must (refine wpList_append_own _ rfl (.tmp 29) (.tmp 34) _ rfl w.heap.size 5 i0 _ 1 1 Tryd.underlying38 hi0 hz0 hz1 hz2 rfl (by omega) v2 (0 + 1) ([] ++ intsK .u8 [(v : Int) / 256]) rfl (Hown2.out.alloc _) ⟨w2.heap.size, 0, none⟩ 1 1 (intsK .u8 [(v : Int) % 256]) rfl rfl (cell_one_new _ _ _) (intsK_one _ _) (by unfold maxLen; omega) (by omega) (by simp; omega) ?_)
     intro v3 w3 hown3 hgrow3 _
     have K3 := Lib.hid ((K2.out.alloc (.cells #[.int .u8 ((v : Int) % 256)] 5)).grown hgrow3 (fun j hj => .inr (Hown2.out.lt j hj).1))
     have Hown3 := Lib.hid hown3
     clear hown3 hgrow3)
  rw [rounds_succ]
  go_wp2_with fail
  go_ret2
  exact ⟨v3, rfl, Hown3.out, K3.out⟩
set_option maxRecDepth 100000 in
set_option maxHeartbeats 2000000 in
/-- word.Row of one number of two bytes. -/
theorem row2 (g v : Nat) (w : World) (hv : v < 65536) (hc : w.cell? ⟨g, 0, none⟩ = some (.int .u64 v)) :
    Calls Tryd.prog 44 #[.int .i64 2, .slice (some ⟨g, 0, none⟩) 1 1] w fun ev w' => ∃ s, ev = .returned (.tuple #[s, .int .i64 0]) ∧ w'.ownsRow w.heap.size 5 1 s 2 (intsK .u8 [(v : Int) / 256, (v : Int) % 256]) ∧ Kp (fun _ => False) w w' := by
  obtain ⟨i0, hi0, hz0, hz1, hz2⟩ := info_parts u8Info
  have HC := Lib.hid hc
  clear hc
  go_enter Tryd.func44, Tryd.ntmps44
  go_wp2_with fail
  refine (sized2' _).mono ?_
  rintro ev w1 ⟨rfl, k1⟩
  have c1 := (k1.cell (p := ⟨g, 0, none⟩) (World.block_lt_of_cell? w _ HC.out) (fun f => f)).trans HC.out
  have K1 := Lib.hid k1
  clear k1
  go_wp2_with fail
  refine wp_loop_rounds 2 ?_
  rw [rounds_succ]
  go_wp2_with fail
  refine (number2 v _ hv).mono ?_
  rintro ev w2 ⟨s, rfl, own2, k2⟩
  have hw1 : w.heap.size ≤ w1.heap.size := K1.out.size
  have hw2 : w1.heap.size ≤ w2.heap.size := k2.size
  obtain ⟨A2, d2, rfl, h2l, rd2, hb2⟩ := RdI.of_own (k := .u8) (xs := [(v : Int) / 256, (v : Int) % 256]) own2
  obtain ⟨a2, rfl⟩ : ∃ a, A2 = some a := by
    rcases rd2.2 with h | ⟨b, o, h, _⟩
    · cases h
    · exact ⟨_, h⟩
  have K2 := Lib.hid (K1.out.trans' k2)
  have HC2 := Lib.hid rd2.cells
  have hown0 := World.ownsRow_nil (w := w2) w.heap.size 5 1
  clear own2 k2 rd2 h2l hb2 c1
  go_wp2_with
    (at_builtin
     go_must (refine wpList_append_own _ rfl (.tmp 29) (.tmp 30) _ rfl w.heap.size 5 i0 _ 1 1 Tryd.underlying38 hi0 hz0 hz1 hz2 rfl (by omega) (.slice none 0 0) 0 [] rfl hown0 a2 2 d2 (intsK .u8 [(v : Int) / 256, (v : Int) % 256]) rfl rfl HC2.out (intsK_one _ _) (by unfold maxLen; omega) (by omega) (by omega) ?_)
     intro v3 w3 hown3 hgrow3 _
     have K3 := Lib.hid (K2.out.grown hgrow3 (fun j hj => by cases hj))
     have Hown3 := Lib.hid hown3
     clear hown3 hgrow3)
  rw [rounds_succ]
  go_wp2_with fail
  go_ret2
  exact ⟨v3, rfl, by simpa using Hown3.out, K3.out⟩
theorem u8Zero : (Tryd.prog.info? 5).map (fun i => (i.zero, i.size, i.bytes)) = some (some (.int .u8 0), 1, 1) := by kernel_rfl
set_option maxRecDepth 100000 in
set_option maxHeartbeats 2000000 in
theorem grow_nil (n : Nat) (w : World) (hn : n ≤ 100000) (h0 : 0 < n) :
    Calls Tryd.prog 61 #[.slice none 0 0, .int .i64 n] w fun ev w' => ∃ s, ev = .returned s ∧ w'.ownsRow w.heap.size 5 1 s 0 [] ∧ Kp (fun _ => False) w w' := by
  obtain ⟨i0, hi0, hz0, hz1, hz2⟩ := info_parts u8Zero
  have h1 : ¬ ((n : Int) < 0) := by omega
  have h3 : IntKind.i64.wrap (n : Int) = n := IntWalk.i64_in _ (by omega)
  have h4 : (0 : Int) < (n : Int) := by omega
  have hr := fun (w : World) (ty : TypeId) => Lib.run_append_nil_zeros (P := Tryd.prog) w 38 3 ty 5 i0 (.int .u8 0) .i64 .i64 Tryd.underlying38 Tryd.underlying3 hi0 hz0 n h0 (by rw [hz1]; omega) (by omega) (by rw [hz2]; omega)
  have HR := Lib.hid hr
  clear hr
  go_enter Tryd.func61, Tryd.ntmps61
  go_wp2_with
    (at_builtin
     go_must (refine Lib.wpList_append_run _ rfl (.tmp 20) (.tmp 21) 38 3 rfl (.slice none 0 0) (.int .i64 n) rfl rfl _ _ (HR.out _ _) ?_))
  go_ret
  refine ⟨_, rfl, ?_, ((Kp.refl _ _).alloc _).drew⟩
  exact World.ownsRow_made w _ _ (Nat.le_refl _) (grownCap_le_maxLen w n 0 5 (by unfold maxLen; omega)) (by simp [size_zeroCells]; have := grownCap_ge w n 0 5; omega)
/-- append of bytes, nil or not, onto a row of one's own. -/
theorem wpList_append_rd {w : World} {ops : Array Oper} {rest : List Oper} {o : Oper} {a : Act} {Q : Exit → Act → World → Prop} (hgd : o.guard = none) (s x : Operand)
    (ho : o.op = .call { callee := .builtin .append, args := #[s, x], argTypes := #[38, 38] }) (base : Nat) (hbase : base ≤ w.heap.size)
    (v : Value) (n : Nat) (xs : List Int) (hs : a.eval s = v) (hown : w.ownsRow base 5 1 v n (intsK .u8 xs))
    (A : Option Addr) (m c : Nat) (ys : List Int) (hx : a.eval x = .slice A m c) (hm : m = ys.length) (hr : RdI w .u8 A ys) (hc0 : A = none → c = 0) (hb : n + m ≤ 100000)
    (h : ∀ v' w', w'.ownsRow base 5 1 v' (n + m) (intsK .u8 (xs ++ ys)) → Kp (fun k => v.ownBlock = some k) w w' → wpList Tryd.prog ops Q rest (a.put o.dst v') w') : wpList Tryd.prog ops Q (o :: rest) a w := by
  obtain ⟨i0, hi0, hz0, hz1, hz2⟩ := info_parts u8Zero
  cases A with
  | none =>
    have h0 : ys = [] := by
      rcases hr.2 with h | ⟨_, _, h, _⟩
      · exact List.eq_nil_of_length_eq_zero h
      · cases h
    subst h0
    obtain rfl := hc0 rfl
    obtain rfl : m = 0 := hm
    refine wpList_append_own_none hgd s x 38 ho base 5 i0 1 Tryd.underlying38 hi0 v n (intsK .u8 xs) hs hown hx ?_
    exact h v w (by simpa using hown) (Kp.refl _ _)
  | some ad =>
    refine wpList_append_own w hgd s x 38 ho base 5 i0 (.int .u8 0) 1 1 Tryd.underlying38 hi0 hz0 hz1 hz2 rfl (by omega) v n (intsK .u8 xs) hs hown ad m c (intsK .u8 ys) hx (by rw [intsK_len, hm]; omega) hr.cells (intsK_one _ _) (by unfold maxLen; omega) (by omega) hbase ?_
    intro v' w' h1 h2 _
    refine h v' w' (by simpa [intsK] using h1) ((Kp.refl _ w).grown h2 (fun k hk => .inl hk))
end Go.Proofs.YtfhhmehlkjaibaaDoor
namespace Go.Proofs.YtfhhmehlkjaibaaDoor
open Go.RowKit

theorem or_two (a b : Nat) (ha : a < 256) (hb : b < 256) : bits .or .u64 (IntKind.u64.wrap ((a : Int) * 256)) (IntKind.u64.wrap (b : Int)) = (a : Int) * 256 + b := by
  have h1 : IntKind.u64.wrap ((a : Int) * 256) = ((a * 256 : Nat) : Int) := by rw [IntKind.wrap_u64]; omega
  have h2 : IntKind.u64.wrap (b : Int) = ((b : Nat) : Int) := by rw [IntKind.wrap_u64]; omega
  rw [h1, h2, u64_or_nat _ _ (by omega) (by omega)]
  have h3 := Nat.shiftLeft_add_eq_or_of_lt (show b < 2 ^ 8 from hb) a
  rw [Nat.shiftLeft_eq] at h3
  have h4 : a * 256 ||| b = a * 256 + b := h3.symm
  rw [h4]
  omega
theorem or_end (a b : Nat) (ha : a < 256) (hb : b < 256) : bits .or .u64 (IntKind.u64.wrap (bits .or .u64 0 (a : Int) * 256)) (b : Int) = (a : Int) * 256 + b := by
  have h0 : bits .or .u64 0 (a : Int) = (a : Int) := by
    have := u64_or_nat 0 a (by omega) (by omega)
    simpa using this
  have h2 : IntKind.u64.wrap (b : Int) = (b : Int) := by rw [IntKind.wrap_u64]; omega
  have := or_two a b ha hb
  rw [h2] at this
  rw [h0, this]
theorem sized2 (w : World) : Calls Tryd.prog 59 #[.int .i64 2] w fun ev w' => ev = .returned (.bool true) ∧ Kp (fun _ => False) w w' := by
  go_enter Tryd.func59, Tryd.ntmps59
  go_wp2_with fail
  go_ret
  exact ⟨rfl, Kp.refl _ _⟩
theorem span2 (n p : Nat) (w : World) (h : p + 2 ≤ n) (hn : n ≤ 100000) : Calls Tryd.prog 65 #[.int .i64 n, .int .i64 p, .int .i64 2] w fun ev w' => ev = .returned (.int .i64 0) ∧ Kp (fun _ => False) w w' := by
  have h1 : ¬ ((p : Int) < 0) := by omega
  have h2 : ¬ ((n : Int) < (p : Int)) := by omega
  have h3 : IntKind.i64.wrap ((n : Int) - (p : Int)) = (n : Int) - p := IntWalk.i64_in _ (by omega)
  have h4 : ¬ ((n : Int) - (p : Int) < 2) := by omega
  go_enter Tryd.func65, Tryd.ntmps65
  go_wp2_with fail
  go_ret
  exact ⟨rfl, Kp.refl _ _⟩
set_option maxRecDepth 100000 in
set_option maxHeartbeats 2000000 in
theorem at2_any (b o p n c x y : Nat) (w : World) (h : p + 2 ≤ n) (hn : n ≤ 100000) (hc : n ≤ c)
    (h1 : w.cell? ⟨b, o + p, none⟩ = some (.int .u8 x)) (h2 : w.cell? ⟨b, o + p + 1, none⟩ = some (.int .u8 y)) (hx : x < 256) (hy : y < 256) :
    Calls Tryd.prog 57 #[.slice (some ⟨b, o, none⟩) n c, .int .i64 p, .int .i64 2] w fun ev w' => ev = .returned (.tuple #[.int .u64 ((x : Int) * 256 + y), .int .i64 0]) ∧ Kp (fun _ => False) w w' := by
  have H1 := Lib.hid h1
  have H2 := Lib.hid h2
  clear h1 h2
  have hoe := or_end x y hx hy
  have HOE := Lib.hid hoe
  clear hoe
  go_enter Tryd.func57, Tryd.ntmps57
  go_wp2_with fail
  refine (sized2 _).mono ?_
  rintro ev w1 ⟨rfl, k1⟩
  have K1 := Lib.hid k1
  clear k1
  go_wp2_with fail
  refine (span2 n p _ h hn).mono ?_
  rintro ev w2 ⟨rfl, k2⟩
  have c1 := ((K1.out.trans' k2).cell (p := ⟨b, o + p, none⟩) (World.block_lt_of_cell? w _ H1.out) (fun f => f)).trans H1.out
  have c2 := ((K1.out.trans' k2).cell (p := ⟨b, o + p + 1, none⟩) (World.block_lt_of_cell? w _ H2.out) (fun f => f)).trans H2.out
  have K2 := Lib.hid (K1.out.trans' k2)
  clear k2
  have e1 : IntKind.i64.wrap ((p : Int) + 2) = (p : Int) + 2 := IntWalk.i64_in _ (by omega)
  have e2 : (0 : Int) ≤ (p : Int) + 2 := by omega
  have e3 : ((p : Int) + 2).toNat = p + 2 := by omega
  have e4 : ¬ (c = p) := by omega
  have e5 : (p : Int) + 2 ≤ (c : Int) := by omega
  have e6 : p ≤ p + 2 := by omega
  have e7 : p + 2 ≤ c := by omega
  have e8 : p + 2 - p = 2 := by omega
  go_wp2_with fail
  clear e1 e2 e3 e4 e5 e6 e7 e8
  refine wp_loop_rounds 3 ?_
  rw [rounds_succ]
  go_wp2_with fail
  rw [rounds_succ]
  go_wp2_with fail
  rw [rounds_succ]
  go_wp2_with fail
  go_ret2
  exact ⟨by rw [HOE.out]; rfl, K2.out⟩
theorem Kp.setRow {S : Nat → Prop} {a w : World} (h : Kp S a w) {g : Nat} (hg : S g ∨ a.heap.size ≤ g) (cs : Array Value) : Kp S a (w.setRow g cs) :=
  ⟨h.os, h.tape, h.output, by simpa [World.setRow] using h.size, fun k hk hS => (setRow_other w g k cs (by rintro rfl; rcases hg with hg | hg; exact hS hg; omega)).trans (h.block k hk hS)⟩
theorem Bk.setRow {w : World} {g : Nat} {t : TypeId} {cs : Array Value} (h : Bk w g t cs) (cs' : Array Value) : Bk (w.setRow g cs') g t cs' := setRow_heap w g cs cs' t (0, 0) h
theorem own_low {w : World} {base base' : Nat} {e : TypeId} {size n : Nat} {v : Value} {xs : List Value} (h : w.ownsRow base e size v n xs) (hb : base' ≤ base) : w.ownsRow base' e size v n xs := by
  refine ⟨h.1, ?_⟩
  rcases h.2 with h | ⟨g, cap, cur, h1, h2, h3⟩
  · exact .inl h
  · exact .inr ⟨g, cap, cur, h1, by omega, h3⟩
/-- A Mac's bytes. -/
def macL (m : Nat → Int) : List Int := [m 0, m 1, m 2, m 3, m 4, m 5]
theorem Bk.rd {w : World} {g : Nat} {t : TypeId} {cs : Array Value} (h : Bk w g t cs) (m : Nat → Int) (o : Nat) (hc : ∀ j, j < 6 → cs[o + j]? = some (.int .u8 (m j))) : RdI w .u8 (some ⟨g, o, none⟩) (macL m) := by
  refine ⟨by simp [macL], .inr ⟨g, o, rfl, fun j hj => ?_⟩⟩
  have hj6 : j < 6 := by simpa [macL] using hj
  rw [h.cell (o + j), hc j hj6]
  have h6 : j = 0 ∨ j = 1 ∨ j = 2 ∨ j = 3 ∨ j = 4 ∨ j = 5 := by omega
  rcases h6 with rfl | rfl | rfl | rfl | rfl | rfl <;> rfl
/-- Bytes. -/
def Oct (m : Nat → Int) : Prop := ∀ i, 0 ≤ m i ∧ m i < 256
theorem wf_u8 {n : Int} (h : (Lit.int .u8 n).wf = true) : 0 ≤ n ∧ n < 256 := by
  simp [Lit.wf, IntKind.min, IntKind.max, IntKind.signed, IntKind.bits] at h
  omega
theorem wf_u16 {n : Int} (h : (Lit.int .u16 n).wf = true) : 0 ≤ n ∧ n < 65536 := by
  simp [Lit.wf, IntKind.min, IntKind.max, IntKind.signed, IntKind.bits] at h
  omega
theorem byt_of (xs : List Int) (h : (xs.all fun x => decide (0 ≤ x ∧ x < 256)) = true) : Byt xs := by
  intro j
  rcases Nat.lt_or_ge j xs.length with hj | hj
  · have := List.all_eq_true.1 h (xs[j]) (List.getElem_mem hj)
    simp [List.getD, hj]
    simpa using this
  · simp [List.getD, List.getElem?_eq_none hj]
theorem own_form {w : World} {base n : Nat} {v : Value} {xs : List Value} (h : w.ownsRow base 5 1 v n xs) (hn : 0 < n) : ∃ g c, v = .slice (some ⟨g, 0, none⟩) n c ∧ n ≤ c ∧ c ≤ maxLen ∧ base ≤ g := by
  rcases h.2 with ⟨_, h0⟩ | ⟨g, cap, cur, h1, h2, _, h3, h4, _⟩
  · omega
  · exact ⟨g, cap, h1, h3, h4, h2⟩
theorem RdI.take {w : World} {k : IntKind} {A : Option Addr} {xs : List Int} (h : RdI w k A xs) (m : Nat) : RdI w k A (xs.take m) := by
  refine ⟨by have := h.1; rw [List.length_take]; omega, ?_⟩
  rcases h.2 with h0 | ⟨b, o, hA, hc⟩
  · left; rw [List.length_take]; omega
  · right
    refine ⟨b, o, hA, fun j hj => ?_⟩
    rw [List.length_take] at hj
    rw [hc j (by omega)]
    simp [List.getD, List.getElem?_take_of_lt (show j < m by omega)]
theorem byt_append {xs ys : List Int} (hx : Byt xs) (hy : Byt ys) : Byt (xs ++ ys) := by
  intro j
  rcases Nat.lt_or_ge j xs.length with h | h
  · have := hx j
    simpa [List.getD, List.getElem?_append_left h] using this
  · have := hy (j - xs.length)
    simpa [List.getD, List.getElem?_append_right h] using this
theorem byt_take {xs : List Int} (hx : Byt xs) (m : Nat) : Byt (xs.take m) := by
  intro j
  rcases Nat.lt_or_ge j m with h | h
  · have := hx j
    simpa [List.getD, List.getElem?_take_of_lt h] using this
  · simp [List.getD, List.getElem?_eq_none (show (xs.take m).length ≤ j by rw [List.length_take]; omega)]
theorem byt_mac {m : Nat → Int} (h : Oct m) : Byt (macL m) := by
  intro j
  match j with
  | 0 => exact h 0
  | 1 => exact h 1
  | 2 => exact h 2
  | 3 => exact h 3
  | 4 => exact h 4
  | 5 => exact h 5
  | j + 6 => simp [macL]
set_option maxRecDepth 100000 in
set_option maxHeartbeats 2000000 in
theorem ownB_any (A : Option Addr) (n c : Nat) (xs : List Int) (w : World) (hx : RdI w .u8 A xs) (hl : n = xs.length) (hn : n ≤ 90000) (h0 : A = none → c = 0) :
    Calls Tryd.prog 17 #[.slice A n c] w fun ev w' => ∃ s, ev = .returned s ∧ w'.ownsRow w.heap.size 5 1 s n (intsK .u8 xs) ∧ Kp (fun _ => False) w w' := by
  have hown0 : (w.alloc (.cells #[] 5)).ownsRow w.heap.size 5 1 (.slice (some ⟨w.heap.size, 0, none⟩) 0 0) 0 (intsK .u8 []) := World.ownsRow_made w (base := w.heap.size) (e := 5) (size := 1) #[] 0 (Nat.le_refl _) (by unfold maxLen; omega) rfl
  have Hown0 := Lib.hid hown0
  have HK := Lib.hid ((Kp.refl (fun _ => False) w).alloc (.cells #[] 5))
  have HX := Lib.hid (hx.alloc (.cells #[] 5))
  have HL := Lib.hid hl
  have H0 := Lib.hid h0
  have hsz : w.heap.size ≤ (w.alloc (.cells #[] 5)).heap.size := by simp
  clear hx hl h0 hown0
  go_enter Tryd.func17, Tryd.ntmps17
  go_wp2_with
    (at_builtin
     go_must (refine wpList_append_rd rfl (.tmp 3) (.tmp 4) rfl w.heap.size hsz (.slice (some ⟨w.heap.size, 0, none⟩) 0 0) 0 [] rfl Hown0.out A n c xs rfl HL.out HX.out H0.out (by omega) ?_)
     intro v1 w1 hown1 hk1
     have Hown1 := Lib.hid hown1
     have HK1 := Lib.hid (HK.out.trans hk1 (fun j hj hk => absurd (Hown0.out.lt j hk).1 (by omega)))
     clear hown1 hk1)
  go_ret
  refine ⟨_, rfl, ?_, HK1.out⟩
  have := Hown1.out
  simpa using this
theorem own_low2 {w : World} {base base' : Nat} {e : TypeId} {size n : Nat} {v : Value} {xs : List Value} (h : w.ownsRow base e size v n xs) (hb : base' ≤ base) : w.ownsRow base' e size v n xs := by
  refine ⟨h.1, ?_⟩
  rcases h.2 with h | ⟨g, cap, cur, h1, h2, h3⟩
  · exact .inl h
  · exact .inr ⟨g, cap, cur, h1, by omega, h3⟩
theorem own_none {w : World} {base e size n m c : Nat} {A : Option Addr} {xs : List Value} (h : w.ownsRow base e size (.slice A n c) m xs) : A = none → c = 0 := by
  rintro rfl
  rcases h.2 with ⟨h, _⟩ | ⟨g, cap, cur, h, _⟩
  · cases h; rfl
  · cases h
theorem own_rd {w : World} {base n c : Nat} {A : Option Addr} {xs : List Int} {m : Nat} (h : w.ownsRow base 5 1 (.slice A n c) m (intsK .u8 xs)) : RdI w .u8 A xs := by
  obtain ⟨A', c', e, _, h2, _⟩ := RdI.of_own (k := .u8) (xs := xs) h
  cases e
  exact h2
theorem kp_kc {w w' : World} {p : Addr} {v : Value} (h : w.cell? p = some v) (k : Kp (fun _ => False) w w') : w'.cell? p = some v := (k.cell (World.block_lt_of_cell? w _ h) (fun f => f)).trans h
end Go.Proofs.YtfhhmehlkjaibaaDoor
namespace Go.Proofs.YtfhhmehlkjaibaaDoor
open Go.RowKit

/-- One byte more behind a number. -/
theorem or_step (a b : Nat) (ha : a < 16777216) (hb : b < 256) : bits .or .u64 (IntKind.u64.wrap ((a : Int) * 256)) (b : Int) = ((a * 256 + b : Nat) : Int) := by
  have h2 : IntKind.u64.wrap (b : Int) = (b : Int) := by rw [IntKind.wrap_u64]; omega
  have h1 : IntKind.u64.wrap ((a : Int) * 256) = ((a * 256 : Nat) : Int) := by rw [IntKind.wrap_u64]; omega
  rw [h1, u64_or_nat _ _ (by omega) (by omega)]
  have h3 := Nat.shiftLeft_add_eq_or_of_lt (show b < 2 ^ 8 from hb) a
  rw [Nat.shiftLeft_eq] at h3
  have h4 : a * 256 ||| b = a * 256 + b := h3.symm
  rw [h4]
theorem or_zero (a : Nat) (ha : a < 256) : bits .or .u64 0 (a : Int) = (a : Int) := by
  have := u64_or_nat 0 a (by omega) (by omega)
  simpa using this
theorem sized4 (w : World) : Calls Tryd.prog 59 #[.int .i64 4] w fun ev w' => ev = .returned (.bool true) ∧ Kp (fun _ => False) w w' := by
  go_enter Tryd.func59, Tryd.ntmps59
  go_wp2_with fail
  go_ret
  exact ⟨rfl, Kp.refl _ _⟩
theorem span4 (n p : Nat) (w : World) (h : p + 4 ≤ n) (hn : n ≤ 100000) : Calls Tryd.prog 65 #[.int .i64 n, .int .i64 p, .int .i64 4] w fun ev w' => ev = .returned (.int .i64 0) ∧ Kp (fun _ => False) w w' := by
  have h1 : ¬ ((p : Int) < 0) := by omega
  have h2 : ¬ ((n : Int) < (p : Int)) := by omega
  have h3 : IntKind.i64.wrap ((n : Int) - (p : Int)) = (n : Int) - p := IntWalk.i64_in _ (by omega)
  have h4 : ¬ ((n : Int) - (p : Int) < 4) := by omega
  go_enter Tryd.func65, Tryd.ntmps65
  go_wp2_with fail
  go_ret
  exact ⟨rfl, Kp.refl _ _⟩

set_option maxRecDepth 100000 in
set_option maxHeartbeats 4000000 in
theorem at4_any (b o p n c x y z u : Nat) (w : World) (h : p + 4 ≤ n) (hn : n ≤ 100000) (hc : n ≤ c)
    (h1 : w.cell? ⟨b, o + p, none⟩ = some (.int .u8 x)) (h2 : w.cell? ⟨b, o + p + 1, none⟩ = some (.int .u8 y)) (h3 : w.cell? ⟨b, o + p + 2, none⟩ = some (.int .u8 z)) (h4 : w.cell? ⟨b, o + p + 3, none⟩ = some (.int .u8 u)) (hx : x < 256) (hy : y < 256) (hz : z < 256) (hu : u < 256) :
    Calls Tryd.prog 57 #[.slice (some ⟨b, o, none⟩) n c, .int .i64 p, .int .i64 4] w fun ev w' => ev = .returned (.tuple #[.int .u64 (((((x * 256 + y) * 256 + z) * 256 + u : Nat)) : Int), .int .i64 0]) ∧ Kp (fun _ => False) w w' := by
  have H1 := Lib.hid h1
  have H2 := Lib.hid h2
  have H3 := Lib.hid h3
  have H4 := Lib.hid h4
  clear h1 h2 h3 h4
  have hoe : bits .or .u64 (IntKind.u64.wrap (bits .or .u64 (IntKind.u64.wrap (bits .or .u64 (IntKind.u64.wrap (bits .or .u64 0 (x : Int) * 256)) (y : Int) * 256)) (z : Int) * 256)) (u : Int) = ((((x * 256 + y) * 256 + z) * 256 + u : Nat) : Int) := by
    rw [or_zero x hx, or_step x y (by omega) hy, or_step (x * 256 + y) z (by omega) hz, or_step _ u (by omega) hu]
  have HOE := Lib.hid hoe
  clear hoe
  go_enter Tryd.func57, Tryd.ntmps57
  go_wp2_with fail
  refine (sized4 _).mono ?_
  rintro ev w1 ⟨rfl, k1⟩
  have K1 := Lib.hid k1
  clear k1
  go_wp2_with fail
  refine (span4 n p _ h hn).mono ?_
  rintro ev w2 ⟨rfl, k2⟩
  have c1 := ((K1.out.trans' k2).cell (p := ⟨b, o + p, none⟩) (World.block_lt_of_cell? w _ H1.out) (fun f => f)).trans H1.out
  have c2 := ((K1.out.trans' k2).cell (p := ⟨b, o + p + 1, none⟩) (World.block_lt_of_cell? w _ H2.out) (fun f => f)).trans H2.out
  have c3 := ((K1.out.trans' k2).cell (p := ⟨b, o + p + 2, none⟩) (World.block_lt_of_cell? w _ H3.out) (fun f => f)).trans H3.out
  have c4 := ((K1.out.trans' k2).cell (p := ⟨b, o + p + 3, none⟩) (World.block_lt_of_cell? w _ H4.out) (fun f => f)).trans H4.out
  have K2 := Lib.hid (K1.out.trans' k2)
  clear k2
  have e1 : IntKind.i64.wrap ((p : Int) + 4) = (p : Int) + 4 := IntWalk.i64_in _ (by omega)
  have e2 : (0 : Int) ≤ (p : Int) + 4 := by omega
  have e3 : ((p : Int) + 4).toNat = p + 4 := by omega
  have e4 : ¬ (c = p) := by omega
  have e5 : (p : Int) + 4 ≤ (c : Int) := by omega
  have e6 : p ≤ p + 4 := by omega
  have e7 : p + 4 ≤ c := by omega
  have e8 : p + 4 - p = 4 := by omega
  go_wp2_with fail
  clear e1 e2 e3 e4 e5 e6 e7 e8
  refine wp_loop_rounds 5 ?_
  rw [rounds_succ]
  go_wp2_with fail
  rw [rounds_succ]
  go_wp2_with fail
  rw [rounds_succ]
  go_wp2_with fail
  rw [rounds_succ]
  go_wp2_with fail
  rw [rounds_succ]
  go_wp2_with fail
  go_ret2
  exact ⟨by rw [HOE.out]; rfl, K2.out⟩
/-- arp.number: two bytes, four bytes. -/
theorem num2 (b o p n c x y : Nat) (w : World) (h : p + 2 ≤ n) (hn : n ≤ 100000) (hc : n ≤ c)
    (h1 : w.cell? ⟨b, o + p, none⟩ = some (.int .u8 x)) (h2 : w.cell? ⟨b, o + p + 1, none⟩ = some (.int .u8 y)) (hx : x < 256) (hy : y < 256) :
    Calls Tryd.prog 39 #[.slice (some ⟨b, o, none⟩) n c, .int .i64 p, .int .i64 2] w fun ev w' => ev = .returned (.int .u64 ((x : Int) * 256 + y)) ∧ Kp (fun _ => False) w w' := by
  go_enter Tryd.func39, Tryd.ntmps39
  go_wp2_with fail
  refine (at2_any b o p n c x y _ h hn hc h1 h2 hx hy).mono ?_
  rintro ev w1 ⟨rfl, k1⟩
  go_wp2_with fail
  go_ret
  exact ⟨rfl, k1⟩
theorem num4 (b o p n c x y z u : Nat) (w : World) (h : p + 4 ≤ n) (hn : n ≤ 100000) (hc : n ≤ c)
    (h1 : w.cell? ⟨b, o + p, none⟩ = some (.int .u8 x)) (h2 : w.cell? ⟨b, o + p + 1, none⟩ = some (.int .u8 y)) (h3 : w.cell? ⟨b, o + p + 2, none⟩ = some (.int .u8 z)) (h4 : w.cell? ⟨b, o + p + 3, none⟩ = some (.int .u8 u)) (hx : x < 256) (hy : y < 256) (hz : z < 256) (hu : u < 256) :
    Calls Tryd.prog 39 #[.slice (some ⟨b, o, none⟩) n c, .int .i64 p, .int .i64 4] w fun ev w' => ev = .returned (.int .u64 (((((x * 256 + y) * 256 + z) * 256 + u : Nat)) : Int)) ∧ Kp (fun _ => False) w w' := by
  go_enter Tryd.func39, Tryd.ntmps39
  go_wp2_with fail
  refine (at4_any b o p n c x y z u _ h hn hc h1 h2 h3 h4 hx hy hz hu).mono ?_
  rintro ev w1 ⟨rfl, k1⟩
  go_wp2_with fail
  go_ret
  exact ⟨rfl, k1⟩
end Go.Proofs.YtfhhmehlkjaibaaDoor
namespace Go.Proofs.YtfhhmehlkjaibaaDoor
open Go.RowKit

/-- A number's four bytes. -/
def four (v : Nat) : List Int := [(v : Int) / 16777216, (v : Int) / 65536 % 256, (v : Int) / 256 % 256, (v : Int) % 256]
set_option maxRecDepth 100000 in
set_option maxHeartbeats 4000000 in
theorem number4 (v : Nat) (w : World) (hv : v < 4294967296) :
    Calls Tryd.prog 60 #[.int .u64 v, .int .i64 4] w fun ev w' => ∃ s, ev = .returned (.tuple #[s, .int .i64 0]) ∧ w'.ownsRow w.heap.size 5 1 s 4 (intsK .u8 (four v)) ∧ Kp (fun _ => False) w w' := by
  obtain ⟨i0, hi0, hz0, hz1, hz2⟩ := info_parts u8Info
  have hb0 : (v : Int) / 4294967296 = 0 := by omega
  go_enter Tryd.func60, Tryd.ntmps60
  go_wp2_with fail
  refine (sized4 _).mono ?_
  rintro ev w1 ⟨rfl, k1⟩
  have K1 := Lib.hid k1
  clear k1
  go_wp2_with fail
  have hw1 : w.heap.size ≤ w1.heap.size := K1.out.size
  clear hb0
  have hown0 : w1.ownsRow w.heap.size 5 1 (.slice none 0 0) 0 (intsK .u8 []) := World.ownsRow_nil (w := w1) w.heap.size 5 1
  have O1 := Lib.hid hown0
  clear hown0
  refine wp_loop_rounds 5 ?_
  rw [rounds_succ]
  go_wp2_with
    (at_builtin
     go_must (refine wpList_append_rd rfl (.tmp 29) (.tmp 34) rfl w.heap.size (by simp; omega) (.slice none 0 0) (0) ([]) rfl (own_kp O1.out ((Kp.refl (fun _ => False) w1).alloc (.cells #[.int .u8 ((v : Int) / 16777216)] 5)) (fun _ _ f => f)) (some ⟨w1.heap.size, 0, none⟩) 1 1 [(v : Int) / 16777216] rfl rfl (RdI.new w1 .u8 5 [(v : Int) / 16777216] (by simp)) (fun h => by cases h) (by omega) ?_)
     intro v2 w2 hown hk
     have K2 := Lib.hid ((K1.out.alloc (.cells #[.int .u8 ((v : Int) / 16777216)] 5)).trans hk (fun j hj hk => absurd (O1.out.lt j hk).1 (by omega)))
     have O2 := Lib.hid hown
     have hw2 : w.heap.size ≤ w2.heap.size := K2.out.size
     clear hown hk)
  rw [rounds_succ]
  go_wp2_with
    (at_builtin
     go_must (refine wpList_append_rd rfl (.tmp 29) (.tmp 34) rfl w.heap.size (by simp; omega) v2 (0 + 1) ([] ++ [(v : Int) / 16777216]) rfl (own_kp O2.out ((Kp.refl (fun _ => False) w2).alloc (.cells #[.int .u8 ((v : Int) / 65536 % 256)] 5)) (fun _ _ f => f)) (some ⟨w2.heap.size, 0, none⟩) 1 1 [(v : Int) / 65536 % 256] rfl rfl (RdI.new w2 .u8 5 [(v : Int) / 65536 % 256] (by simp)) (fun h => by cases h) (by omega) ?_)
     intro v3 w3 hown hk
     have K3 := Lib.hid ((K2.out.alloc (.cells #[.int .u8 ((v : Int) / 65536 % 256)] 5)).trans hk (fun j hj hk => absurd (O2.out.lt j hk).1 (by omega)))
     have O3 := Lib.hid hown
     have hw3 : w.heap.size ≤ w3.heap.size := K3.out.size
     clear hown hk)
  rw [rounds_succ]
  go_wp2_with
    (at_builtin
     go_must (refine wpList_append_rd rfl (.tmp 29) (.tmp 34) rfl w.heap.size (by simp; omega) v3 (0 + 1 + 1) ([] ++ [(v : Int) / 16777216] ++ [(v : Int) / 65536 % 256]) rfl (own_kp O3.out ((Kp.refl (fun _ => False) w3).alloc (.cells #[.int .u8 ((v : Int) / 256 % 256)] 5)) (fun _ _ f => f)) (some ⟨w3.heap.size, 0, none⟩) 1 1 [(v : Int) / 256 % 256] rfl rfl (RdI.new w3 .u8 5 [(v : Int) / 256 % 256] (by simp)) (fun h => by cases h) (by omega) ?_)
     intro v4 w4 hown hk
     have K4 := Lib.hid ((K3.out.alloc (.cells #[.int .u8 ((v : Int) / 256 % 256)] 5)).trans hk (fun j hj hk => absurd (O3.out.lt j hk).1 (by omega)))
     have O4 := Lib.hid hown
     have hw4 : w.heap.size ≤ w4.heap.size := K4.out.size
     clear hown hk)
  rw [rounds_succ]
  go_wp2_with
    (at_builtin
     go_must (refine wpList_append_rd rfl (.tmp 29) (.tmp 34) rfl w.heap.size (by simp; omega) v4 (0 + 1 + 1 + 1) ([] ++ [(v : Int) / 16777216] ++ [(v : Int) / 65536 % 256] ++ [(v : Int) / 256 % 256]) rfl (own_kp O4.out ((Kp.refl (fun _ => False) w4).alloc (.cells #[.int .u8 ((v : Int) % 256)] 5)) (fun _ _ f => f)) (some ⟨w4.heap.size, 0, none⟩) 1 1 [(v : Int) % 256] rfl rfl (RdI.new w4 .u8 5 [(v : Int) % 256] (by simp)) (fun h => by cases h) (by omega) ?_)
     intro v5 w5 hown hk
     have K5 := Lib.hid ((K4.out.alloc (.cells #[.int .u8 ((v : Int) % 256)] 5)).trans hk (fun j hj hk => absurd (O4.out.lt j hk).1 (by omega)))
     have O5 := Lib.hid hown
     have hw5 : w.heap.size ≤ w5.heap.size := K5.out.size
     clear hown hk)
  rw [rounds_succ]
  go_wp2_with fail
  go_ret2
  exact ⟨v5, rfl, by simpa [four] using O5.out, K5.out⟩
set_option maxRecDepth 100000 in
set_option maxHeartbeats 2000000 in
/-- word.Row of one number of four bytes. -/
theorem row4 (g v : Nat) (w : World) (hv : v < 4294967296) (hc : w.cell? ⟨g, 0, none⟩ = some (.int .u64 v)) :
    Calls Tryd.prog 44 #[.int .i64 4, .slice (some ⟨g, 0, none⟩) 1 1] w fun ev w' => ∃ s, ev = .returned (.tuple #[s, .int .i64 0]) ∧ w'.ownsRow w.heap.size 5 1 s 4 (intsK .u8 (four v)) ∧ Kp (fun _ => False) w w' := by
  obtain ⟨i0, hi0, hz0, hz1, hz2⟩ := info_parts u8Info
  have HC := Lib.hid hc
  clear hc
  go_enter Tryd.func44, Tryd.ntmps44
  go_wp2_with fail
  refine (sized4 _).mono ?_
  rintro ev w1 ⟨rfl, k1⟩
  have c1 := (k1.cell (p := ⟨g, 0, none⟩) (World.block_lt_of_cell? w _ HC.out) (fun f => f)).trans HC.out
  have K1 := Lib.hid k1
  clear k1
  go_wp2_with fail
  refine wp_loop_rounds 2 ?_
  rw [rounds_succ]
  go_wp2_with fail
  refine (number4 v _ hv).mono ?_
  rintro ev w2 ⟨s, rfl, own2, k2⟩
  have hw1 : w.heap.size ≤ w1.heap.size := K1.out.size
  have hw2 : w1.heap.size ≤ w2.heap.size := k2.size
  obtain ⟨A2, d2, rfl, h2l, rd2, hb2⟩ := RdI.of_own (k := .u8) (xs := (four v)) own2
  obtain ⟨a2, rfl⟩ : ∃ a, A2 = some a := by
    rcases rd2.2 with h | ⟨b, o, h, _⟩
    · cases h
    · exact ⟨_, h⟩
  have K2 := Lib.hid (K1.out.trans' k2)
  have HC2 := Lib.hid rd2.cells
  have hown0 := World.ownsRow_nil (w := w2) w.heap.size 5 1
  clear own2 k2 rd2 h2l hb2 c1
  go_wp2_with
    (at_builtin
     go_must (refine wpList_append_own _ rfl (.tmp 29) (.tmp 30) _ rfl w.heap.size 5 i0 _ 1 1 Tryd.underlying38 hi0 hz0 hz1 hz2 rfl (by omega) (.slice none 0 0) 0 [] rfl hown0 a2 4 d2 (intsK .u8 (four v)) rfl rfl HC2.out (intsK_one _ _) (by unfold maxLen; omega) (by omega) (by omega) ?_)
     intro v3 w3 hown3 hgrow3 _
     have K3 := Lib.hid (K2.out.grown hgrow3 (fun j hj => by cases hj))
     have Hown3 := Lib.hid hown3
     clear hown3 hgrow3)
  rw [rounds_succ]
  go_wp2_with fail
  go_ret2
  exact ⟨v3, rfl, by simpa using Hown3.out, K3.out⟩
end Go.Proofs.YtfhhmehlkjaibaaDoor
namespace Go.Proofs.YtfhhmehlkjaibaaDoor
open Go.RowKit

set_option maxRecDepth 100000 in
set_option maxHeartbeats 8000000 in
theorem concat6 (g : Nat) (a0 a1 a2 a3 a4 a5 : Addr) (d0 d1 d2 d3 d4 d5 : Nat) (x0 x1 x2 x3 x4 x5 : List Int) (w : World)
    (c0 : w.cell? ⟨g, 0, none⟩ = some (.slice (some a0) 6 d0)) (r0 : RdI w .u8 (some a0) x0) (l0 : 6 = x0.length)
    (c1 : w.cell? ⟨g, 1, none⟩ = some (.slice (some a1) 2 d1)) (r1 : RdI w .u8 (some a1) x1) (l1 : 2 = x1.length)
    (c2 : w.cell? ⟨g, 2, none⟩ = some (.slice (some a2) 6 d2)) (r2 : RdI w .u8 (some a2) x2) (l2 : 6 = x2.length)
    (c3 : w.cell? ⟨g, 3, none⟩ = some (.slice (some a3) 4 d3)) (r3 : RdI w .u8 (some a3) x3) (l3 : 4 = x3.length)
    (c4 : w.cell? ⟨g, 4, none⟩ = some (.slice (some a4) 6 d4)) (r4 : RdI w .u8 (some a4) x4) (l4 : 6 = x4.length)
    (c5 : w.cell? ⟨g, 5, none⟩ = some (.slice (some a5) 4 d5)) (r5 : RdI w .u8 (some a5) x5) (l5 : 4 = x5.length)
    : Calls Tryd.prog 45 #[.slice (some ⟨g, 0, none⟩) 6 6] w fun ev w' => ∃ s, ev = .returned s ∧ w'.ownsRow w.heap.size 5 1 s 28 (intsK .u8 (x0 ++ x1 ++ x2 ++ x3 ++ x4 ++ x5)) ∧ Kp (fun _ => False) w w' := by
  have hg : g < w.heap.size := World.block_lt_of_cell? w _ c0
  have R0 := Lib.hid r0
  have L0 := Lib.hid l0
  have R1 := Lib.hid r1
  have L1 := Lib.hid l1
  have R2 := Lib.hid r2
  have L2 := Lib.hid l2
  have R3 := Lib.hid r3
  have L3 := Lib.hid l3
  have R4 := Lib.hid r4
  have L4 := Lib.hid l4
  have R5 := Lib.hid r5
  have L5 := Lib.hid l5
  clear r0 l0 r1 l1 r2 l2 r3 l3 r4 l4 r5 l5
  go_enter Tryd.func45, Tryd.ntmps45
  go_wp2_with fail
  refine wp_loop_rounds 7 ?_
  rw [rounds_succ]
  go_wp2_with fail
  rw [rounds_succ]
  go_wp2_with fail
  rw [rounds_succ]
  go_wp2_with fail
  rw [rounds_succ]
  go_wp2_with fail
  rw [rounds_succ]
  go_wp2_with fail
  rw [rounds_succ]
  go_wp2_with fail
  rw [rounds_succ]
  go_wp2_with fail
  refine (grow_nil 28 _ (by omega) (by omega)).mono ?_
  rintro ev w1 ⟨v1, rfl, own1, k1⟩
  have q0 := (k1.cell (p := ⟨g, 0, none⟩) hg (fun f => f)).trans c0
  have q1 := (k1.cell (p := ⟨g, 1, none⟩) hg (fun f => f)).trans c1
  have q2 := (k1.cell (p := ⟨g, 2, none⟩) hg (fun f => f)).trans c2
  have q3 := (k1.cell (p := ⟨g, 3, none⟩) hg (fun f => f)).trans c3
  have q4 := (k1.cell (p := ⟨g, 4, none⟩) hg (fun f => f)).trans c4
  have q5 := (k1.cell (p := ⟨g, 5, none⟩) hg (fun f => f)).trans c5
  have K1 := Lib.hid k1
  have own1' : w1.ownsRow w.heap.size 5 1 v1 0 (intsK .u8 []) := own1
  have Hown1 := Lib.hid own1'
  clear k1 own1 own1'
  go_wp2_with fail
  refine wp_loop_rounds 7 ?_
  rw [rounds_succ]
  go_wp2_with
    (at_builtin
     go_must (refine wpList_append_rd rfl (.tmp 31) (.tmp 32) rfl w.heap.size (K1.out.size) v1 (0) ([]) rfl Hown1.out (some a0) 6 d0 x0 rfl L0.out (R0.out.kp K1.out (fun _ _ _ f => f)) (fun h => by cases h) (by omega) ?_)
     intro v2 w2 hown hkp
     have K2 := Lib.hid (K1.out.trans hkp (fun j hj hk => absurd (Hown1.out.lt j hk).1 (by omega)))
     have Hown2 := Lib.hid hown
     have q0 := (K2.out.cell (p := ⟨g, 0, none⟩) hg (fun f => f)).trans c0
     have q1 := (K2.out.cell (p := ⟨g, 1, none⟩) hg (fun f => f)).trans c1
     have q2 := (K2.out.cell (p := ⟨g, 2, none⟩) hg (fun f => f)).trans c2
     have q3 := (K2.out.cell (p := ⟨g, 3, none⟩) hg (fun f => f)).trans c3
     have q4 := (K2.out.cell (p := ⟨g, 4, none⟩) hg (fun f => f)).trans c4
     have q5 := (K2.out.cell (p := ⟨g, 5, none⟩) hg (fun f => f)).trans c5
     clear hown hkp)
  rw [rounds_succ]
  go_wp2_with
    (at_builtin
     go_must (refine wpList_append_rd rfl (.tmp 31) (.tmp 32) rfl w.heap.size (K2.out.size) v2 (0 + 6) ([] ++ x0) rfl Hown2.out (some a1) 2 d1 x1 rfl L1.out (R1.out.kp K2.out (fun _ _ _ f => f)) (fun h => by cases h) (by omega) ?_)
     intro v3 w3 hown hkp
     have K3 := Lib.hid (K2.out.trans hkp (fun j hj hk => absurd (Hown2.out.lt j hk).1 (by omega)))
     have Hown3 := Lib.hid hown
     have q0 := (K3.out.cell (p := ⟨g, 0, none⟩) hg (fun f => f)).trans c0
     have q1 := (K3.out.cell (p := ⟨g, 1, none⟩) hg (fun f => f)).trans c1
     have q2 := (K3.out.cell (p := ⟨g, 2, none⟩) hg (fun f => f)).trans c2
     have q3 := (K3.out.cell (p := ⟨g, 3, none⟩) hg (fun f => f)).trans c3
     have q4 := (K3.out.cell (p := ⟨g, 4, none⟩) hg (fun f => f)).trans c4
     have q5 := (K3.out.cell (p := ⟨g, 5, none⟩) hg (fun f => f)).trans c5
     clear hown hkp)
  rw [rounds_succ]
  go_wp2_with
    (at_builtin
     go_must (refine wpList_append_rd rfl (.tmp 31) (.tmp 32) rfl w.heap.size (K3.out.size) v3 (0 + 6 + 2) ([] ++ x0 ++ x1) rfl Hown3.out (some a2) 6 d2 x2 rfl L2.out (R2.out.kp K3.out (fun _ _ _ f => f)) (fun h => by cases h) (by omega) ?_)
     intro v4 w4 hown hkp
     have K4 := Lib.hid (K3.out.trans hkp (fun j hj hk => absurd (Hown3.out.lt j hk).1 (by omega)))
     have Hown4 := Lib.hid hown
     have q0 := (K4.out.cell (p := ⟨g, 0, none⟩) hg (fun f => f)).trans c0
     have q1 := (K4.out.cell (p := ⟨g, 1, none⟩) hg (fun f => f)).trans c1
     have q2 := (K4.out.cell (p := ⟨g, 2, none⟩) hg (fun f => f)).trans c2
     have q3 := (K4.out.cell (p := ⟨g, 3, none⟩) hg (fun f => f)).trans c3
     have q4 := (K4.out.cell (p := ⟨g, 4, none⟩) hg (fun f => f)).trans c4
     have q5 := (K4.out.cell (p := ⟨g, 5, none⟩) hg (fun f => f)).trans c5
     clear hown hkp)
  rw [rounds_succ]
  go_wp2_with
    (at_builtin
     go_must (refine wpList_append_rd rfl (.tmp 31) (.tmp 32) rfl w.heap.size (K4.out.size) v4 (0 + 6 + 2 + 6) ([] ++ x0 ++ x1 ++ x2) rfl Hown4.out (some a3) 4 d3 x3 rfl L3.out (R3.out.kp K4.out (fun _ _ _ f => f)) (fun h => by cases h) (by omega) ?_)
     intro v5 w5 hown hkp
     have K5 := Lib.hid (K4.out.trans hkp (fun j hj hk => absurd (Hown4.out.lt j hk).1 (by omega)))
     have Hown5 := Lib.hid hown
     have q0 := (K5.out.cell (p := ⟨g, 0, none⟩) hg (fun f => f)).trans c0
     have q1 := (K5.out.cell (p := ⟨g, 1, none⟩) hg (fun f => f)).trans c1
     have q2 := (K5.out.cell (p := ⟨g, 2, none⟩) hg (fun f => f)).trans c2
     have q3 := (K5.out.cell (p := ⟨g, 3, none⟩) hg (fun f => f)).trans c3
     have q4 := (K5.out.cell (p := ⟨g, 4, none⟩) hg (fun f => f)).trans c4
     have q5 := (K5.out.cell (p := ⟨g, 5, none⟩) hg (fun f => f)).trans c5
     clear hown hkp)
  rw [rounds_succ]
  go_wp2_with
    (at_builtin
     go_must (refine wpList_append_rd rfl (.tmp 31) (.tmp 32) rfl w.heap.size (K5.out.size) v5 (0 + 6 + 2 + 6 + 4) ([] ++ x0 ++ x1 ++ x2 ++ x3) rfl Hown5.out (some a4) 6 d4 x4 rfl L4.out (R4.out.kp K5.out (fun _ _ _ f => f)) (fun h => by cases h) (by omega) ?_)
     intro v6 w6 hown hkp
     have K6 := Lib.hid (K5.out.trans hkp (fun j hj hk => absurd (Hown5.out.lt j hk).1 (by omega)))
     have Hown6 := Lib.hid hown
     have q0 := (K6.out.cell (p := ⟨g, 0, none⟩) hg (fun f => f)).trans c0
     have q1 := (K6.out.cell (p := ⟨g, 1, none⟩) hg (fun f => f)).trans c1
     have q2 := (K6.out.cell (p := ⟨g, 2, none⟩) hg (fun f => f)).trans c2
     have q3 := (K6.out.cell (p := ⟨g, 3, none⟩) hg (fun f => f)).trans c3
     have q4 := (K6.out.cell (p := ⟨g, 4, none⟩) hg (fun f => f)).trans c4
     have q5 := (K6.out.cell (p := ⟨g, 5, none⟩) hg (fun f => f)).trans c5
     clear hown hkp)
  rw [rounds_succ]
  go_wp2_with
    (at_builtin
     go_must (refine wpList_append_rd rfl (.tmp 31) (.tmp 32) rfl w.heap.size (K6.out.size) v6 (0 + 6 + 2 + 6 + 4 + 6) ([] ++ x0 ++ x1 ++ x2 ++ x3 ++ x4) rfl Hown6.out (some a5) 4 d5 x5 rfl L5.out (R5.out.kp K6.out (fun _ _ _ f => f)) (fun h => by cases h) (by omega) ?_)
     intro v7 w7 hown hkp
     have K7 := Lib.hid (K6.out.trans hkp (fun j hj hk => absurd (Hown6.out.lt j hk).1 (by omega)))
     have Hown7 := Lib.hid hown
     have q0 := (K7.out.cell (p := ⟨g, 0, none⟩) hg (fun f => f)).trans c0
     have q1 := (K7.out.cell (p := ⟨g, 1, none⟩) hg (fun f => f)).trans c1
     have q2 := (K7.out.cell (p := ⟨g, 2, none⟩) hg (fun f => f)).trans c2
     have q3 := (K7.out.cell (p := ⟨g, 3, none⟩) hg (fun f => f)).trans c3
     have q4 := (K7.out.cell (p := ⟨g, 4, none⟩) hg (fun f => f)).trans c4
     have q5 := (K7.out.cell (p := ⟨g, 5, none⟩) hg (fun f => f)).trans c5
     clear hown hkp)
  rw [rounds_succ]
  go_wp2_with fail
  go_ret
  exact ⟨v7, rfl, by simpa using Hown7.out, K7.out⟩
end Go.Proofs.YtfhhmehlkjaibaaDoor
namespace Go.Proofs.YtfhhmehlkjaibaaDoor
open Go.RowKit

/-- A packet's cells. -/
def pkt (op : Int) (m : Nat → Int) (ip : Nat) (t : Nat → Int) (tip : Nat) : Array Value :=
  #[.int .i64 op, .int .u8 (m 0), .int .u8 (m 1), .int .u8 (m 2), .int .u8 (m 3), .int .u8 (m 4), .int .u8 (m 5), .int .u32 ip, .int .u8 (t 0), .int .u8 (t 1), .int .u8 (t 2), .int .u8 (t 3), .int .u8 (t 4), .int .u8 (t 5), .int .u32 tip]
/-- A packet's bytes. -/
def pbytes (op : Int) (m : Nat → Int) (ip : Nat) (t : Nat → Int) (tip : Nat) : List Int :=
  [0, 1, 8, 0, 6, 4] ++ [op % 65536 / 256, op % 65536 % 256] ++ macL m ++ four ip ++ macL t ++ four tip
theorem own_some {w : World} {base n : Nat} {v : Value} {xs : List Int} (h : w.ownsRow base 5 1 v n (intsK .u8 xs)) (hn : 0 < n) : ∃ a d, v = .slice (some a) n d ∧ RdI w .u8 (some a) xs := by
  obtain ⟨g, c, rfl, _⟩ := own_form h hn
  exact ⟨_, _, rfl, own_rd h⟩
theorem pkt_mac (op : Int) (m t : Nat → Int) (ip tip : Nat) : ∀ j, j < 6 → (pkt op m ip t tip)[1 + j]? = some (.int .u8 (m j)) := fun j hj => by
  have h6 : j = 0 ∨ j = 1 ∨ j = 2 ∨ j = 3 ∨ j = 4 ∨ j = 5 := by omega
  rcases h6 with rfl | rfl | rfl | rfl | rfl | rfl <;> rfl
theorem pkt_to (op : Int) (m t : Nat → Int) (ip tip : Nat) : ∀ j, j < 6 → (pkt op m ip t tip)[8 + j]? = some (.int .u8 (t j)) := fun j hj => by
  have h6 : j = 0 ∨ j = 1 ∨ j = 2 ∨ j = 3 ∨ j = 4 ∨ j = 5 := by omega
  rcases h6 with rfl | rfl | rfl | rfl | rfl | rfl <;> rfl

set_option maxRecDepth 100000 in
set_option maxHeartbeats 8000000 in
theorem pbytes_any (op : Int) (m t : Nat → Int) (ip tip : Nat) (w : World) (hi : ip < 4294967296) (ht : tip < 4294967296) :
    Calls Tryd.prog 23 #[.agg (pkt op m ip t tip)] w fun ev w' => ∃ s, ev = .returned s ∧ w'.ownsRow w.heap.size 5 1 s 28 (intsK .u8 (pbytes op m ip t tip)) ∧ Kp (fun _ => False) w w' := by
  obtain ⟨opn, hopn⟩ : ∃ n : Nat, op % 65536 = n := ⟨(op % 65536).toNat, by omega⟩
  have hop1 : opn < 65536 := by omega
  have hwr : IntKind.u16.wrap op = opn := by rw [IntKind.wrap_u16, hopn]
  have hwr2 : IntKind.u64.wrap (opn : Int) = opn := by rw [IntKind.wrap_u64]; omega
  have hip : IntKind.u64.wrap (ip : Int) = ip := by rw [IntKind.wrap_u64]; omega
  have htp : IntKind.u64.wrap (tip : Int) = tip := by rw [IntKind.wrap_u64]; omega
  have hb := Bk.new w 44 (pkt op m ip t tip)
  have c0 : _ = some (Value.int .i64 op) := hb.cell 0
  have c7 : _ = some (Value.int .u32 ip) := hb.cell 7
  have c14 : _ = some (Value.int .u32 tip) := hb.cell 14
  have hw0 : (w.alloc (.cells (pkt op m ip t tip) 44)).heap.size = w.heap.size + 1 := by simp
  have HB := Lib.hid hb
  have HK := Lib.hid ((Kp.refl (fun _ => False) w).alloc (.cells (pkt op m ip t tip) 44))
  have FM := Lib.hid (pkt_mac op m t ip tip)
  have FT := Lib.hid (pkt_to op m t ip tip)
  have HW0 := Lib.hid hw0
  have HOP := Lib.hid hopn
  clear hb hw0 hopn
  generalize hF : pkt op m ip t tip = F at *
  clear hF
  go_enter Tryd.func23, Tryd.ntmps23
  go_wp2_with fail
  have hcell : ((w.alloc (.cells F 44)).alloc (.cells #[.int .u64 opn] 79)).cell? ⟨w.heap.size + 1, 0, none⟩ = some (.int .u64 opn) := by
    have := (Bk.new (w.alloc (.cells F 44)) 79 #[.int .u64 opn]).cell 0
    rw [HW0.out] at this
    exact this
  refine (row2 (w.heap.size + 1) opn _ hop1 hcell).mono ?_
  rintro ev w1 ⟨s1, rfl, own1, k1⟩
  obtain ⟨a1, d1, rfl, rd1⟩ := own_some own1 (by omega)
  have kB := ((Kp.refl (fun _ => False) (w.alloc (.cells F 44))).alloc (.cells #[.int .u64 opn] 79)).trans' k1
  have hb1 := HB.out.kept kB (fun f => f)
  have hlt : w.heap.size < (w.alloc (.cells F 44)).heap.size := by simp
  have e7 := (kB.cell (p := ⟨w.heap.size, 7, none⟩) hlt (fun f => f)).trans c7
  have e14 := (kB.cell (p := ⟨w.heap.size, 14, none⟩) hlt (fun f => f)).trans c14
  have HB1 := Lib.hid hb1
  have K1 := Lib.hid (HK.out.trans' kB)
  have R1 := Lib.hid rd1
  have hl1 : w.heap.size < w1.heap.size := hb1.lt
  clear own1 k1 rd1 kB hb1 hcell c0 c7 c14 hwr hwr2 hlt
  go_wp2_with fail
  refine (row4 w1.heap.size ip _ hi ((Bk.new w1 79 #[.int .u64 ip]).cell 0)).mono ?_
  rintro ev w2 ⟨s3, rfl, own3, k2⟩
  obtain ⟨a3, d3, rfl, rd3⟩ := own_some own3 (by omega)
  have kB := ((Kp.refl (fun _ => False) w1).alloc (.cells #[.int .u64 ip] 79)).trans' k2
  have f14 := (kB.cell (p := ⟨w.heap.size, 14, none⟩) hl1 (fun f => f)).trans e14
  have HB2 := Lib.hid (HB1.out.kept kB (fun f => f))
  have K2 := Lib.hid (K1.out.trans' kB)
  have R12 := Lib.hid (R1.out.kp kB (fun _ _ _ f => f))
  have R3 := Lib.hid rd3
  clear own3 k2 rd3 kB e7 e14 hip
  go_wp2_with fail
  refine (row4 w2.heap.size tip _ ht ((Bk.new w2 79 #[.int .u64 tip]).cell 0)).mono ?_
  rintro ev w0 ⟨s5, rfl, own5, k3⟩
  obtain ⟨a5, d5, rfl, rd5⟩ := own_some own5 (by omega)
  have kB := ((Kp.refl (fun _ => False) w2).alloc (.cells #[.int .u64 tip] 79)).trans' k3
  have HB3 := Lib.hid (HB2.out.kept kB (fun f => f))
  have K3 := Lib.hid (K2.out.trans' kB)
  have R13 := Lib.hid (R12.out.kp kB (fun _ _ _ f => f))
  have R33 := Lib.hid (R3.out.kp kB (fun _ _ _ f => f))
  have R5 := Lib.hid rd5
  clear own5 k3 rd5 kB f14 htp hl1
  go_upto_region 4 with fail
  have KC := Lib.hid ((Kp.refl (fun _ => False) w0).drew)
  refine wp_region_held_drew (S := (fun w' => Kp (fun _ => False) w0 w')) (by kernel_rfl) (KC.out) (fun hHeld => ?_)
  refine wpAnyH_take (i := 2) (v := ?v2_0) rfl (by kernel_rfl) (by kernel_rfl) (by kernel_rfl) (fun _ _ _ h => h) (Or.inl ⟨by rfl, ?y2_0⟩) (by assumption) ?r2_0
  case y2_0 => (intro w hSw; (try dsimp only at hSw); go_simp; first | done | with_reducible rfl)
  try simp only [Act.put, List.getElem_toArray, List.getElem_cons_succ, List.getElem_cons_zero, List.setIfInBounds_toArray, List.set_cons_zero, List.set_cons_succ]
  refine wpAnyH_take (i := 3) (v := ?v3_1) rfl (by kernel_rfl) (by kernel_rfl) (by kernel_rfl) (fun _ _ _ h => h) (Or.inl ⟨by rfl, ?y3_1⟩) (by assumption) ?r3_1
  case y3_1 => (intro w hSw; (try dsimp only at hSw); go_simp; first | done | with_reducible rfl)
  try simp only [Act.put, List.getElem_toArray, List.getElem_cons_succ, List.getElem_cons_zero, List.setIfInBounds_toArray, List.set_cons_zero, List.set_cons_succ]
  refine wpAnyH_take (i := 4) (v := ?v4_2) rfl (by kernel_rfl) (by kernel_rfl) (by kernel_rfl) (fun _ _ _ h => h) (Or.inl ⟨by rfl, ?y4_2⟩) (by assumption) ?r4_2
  case y4_2 => (intro w hSw; (try dsimp only at hSw); go_simp; first | done | with_reducible rfl)
  try simp only [Act.put, List.getElem_toArray, List.getElem_cons_succ, List.getElem_cons_zero, List.setIfInBounds_toArray, List.set_cons_zero, List.set_cons_succ]
  refine wpAnyH_take (i := 5) (v := ?v5_3) rfl (by kernel_rfl) (by kernel_rfl) (by kernel_rfl) (fun _ _ _ h => h) (Or.inl ⟨by rfl, ?y5_3⟩) (by assumption) ?r5_3
  case y5_3 => (intro w hSw; (try dsimp only at hSw); go_simp; first | done | with_reducible rfl)
  try simp only [Act.put, List.getElem_toArray, List.getElem_cons_succ, List.getElem_cons_zero, List.setIfInBounds_toArray, List.set_cons_zero, List.set_cons_succ]
  refine wpAnyH_take (i := 6) (v := ?v6_4) rfl (by kernel_rfl) (by kernel_rfl) (by kernel_rfl) (fun _ _ _ h => h) (Or.inl ⟨by rfl, ?y6_4⟩) (by assumption) ?r6_4
  case y6_4 => (intro w hSw; (try dsimp only at hSw); go_simp; first | done | with_reducible rfl)
  try simp only [Act.put, List.getElem_toArray, List.getElem_cons_succ, List.getElem_cons_zero, List.setIfInBounds_toArray, List.set_cons_zero, List.set_cons_succ]
  refine wpAnyH_take (i := 7) (v := ?v7_5) rfl (by kernel_rfl) (by kernel_rfl) (by kernel_rfl) (fun _ _ _ h => h) (Or.inl ⟨by rfl, ?y7_5⟩) (by assumption) ?r7_5
  case y7_5 => (intro w hSw; (try dsimp only at hSw); go_simp; first | done | with_reducible rfl)
  try simp only [Act.put, List.getElem_toArray, List.getElem_cons_succ, List.getElem_cons_zero, List.setIfInBounds_toArray, List.set_cons_zero, List.set_cons_succ]
  refine wpAnyH_take (i := 8) (v := ?v8_6) rfl (by kernel_rfl) (by kernel_rfl) (by kernel_rfl) (fun _ _ _ h => h) (Or.inl ⟨by rfl, ?y8_6⟩) (by assumption) ?r8_6
  case y8_6 => (intro w hSw; (try dsimp only at hSw); go_simp; first | done | with_reducible rfl)
  try simp only [Act.put, List.getElem_toArray, List.getElem_cons_succ, List.getElem_cons_zero, List.setIfInBounds_toArray, List.set_cons_zero, List.set_cons_succ]
  refine wpAnyH_ready (rs := [0]) (by kernel_rfl) (by simp) ?_
  refine AllReadyH.cons rfl (fun K hK => ?_) AllReadyH.nil
  go_simp
  have KC := Lib.hid (KC.out.alloc (.cells #[.int .u8 0, .int .u8 1, .int .u8 8, .int .u8 0, .int .u8 6, .int .u8 4] 5))
  refine hK.out _ _ (KC.out) (fun hHeld => ?_)
  clear hK K
  try simp only [Act.put, List.getElem_toArray, List.getElem_cons_succ, List.getElem_cons_zero, List.setIfInBounds_toArray, List.set_cons_zero, List.set_cons_succ]
  refine wpAnyH_ready (rs := [1]) (by kernel_rfl) (by simp) ?_
  refine AllReadyH.cons rfl (fun K hK => ?_) AllReadyH.nil
  have hcv : (convert 38 38 (.slice (some ⟨w0.heap.size, 0, none⟩) 6 6)).run Tryd.prog (w0.alloc (.cells #[.int .u8 0, .int .u8 1, .int .u8 8, .int .u8 0, .int .u8 6, .int .u8 4] 5)).drew = .ok (.slice (some ⟨w0.heap.size, 0, none⟩) 6 6) (w0.alloc (.cells #[.int .u8 0, .int .u8 1, .int .u8 8, .int .u8 0, .int .u8 6, .int .u8 4] 5 (6, 7))).drew := Lib.run_convert_bytes_const w0.drew 38 5 #[.int .u8 0, .int .u8 1, .int .u8 8, .int .u8 0, .int .u8 6, .int .u8 4] 6 6 Tryd.underlying38 Tryd.underlying5
  go_simp
  have KC := Lib.hid (((Kp.refl (fun _ => False) w0).alloc (.cells #[.int .u8 0, .int .u8 1, .int .u8 8, .int .u8 0, .int .u8 6, .int .u8 4] 5 (6, 7))).drew)
  refine hK.out _ _ (KC.out) (fun hHeld => ?_)
  clear hK K hcv
  try simp only [Act.put, List.getElem_toArray, List.getElem_cons_succ, List.getElem_cons_zero, List.setIfInBounds_toArray, List.set_cons_zero, List.set_cons_succ]
  refine wpAnyH_ready (rs := [9]) (by kernel_rfl) (by simp) ?_
  refine AllReadyH.cons rfl (fun K hK => ?_) AllReadyH.nil
  go_simp
  have KC := Lib.hid (KC.out.alloc (.cells #[.slice (some ⟨w0.heap.size, 0, none⟩) 6 6, .slice (some a1) 2 d1, .slice (some ⟨w.heap.size, 1, none⟩) 6 6, .slice (some a3) 4 d3, .slice (some ⟨w.heap.size, 8, none⟩) 6 6, .slice (some a5) 4 d5] 38))
  refine hK.out _ _ (KC.out) (fun hHeld => ?_)
  clear hK K
  try simp only [Act.put, List.getElem_toArray, List.getElem_cons_succ, List.getElem_cons_zero, List.setIfInBounds_toArray, List.set_cons_zero, List.set_cons_succ]
  have hH : RdI (w0.alloc (.cells #[.int .u8 0, .int .u8 1, .int .u8 8, .int .u8 0, .int .u8 6, .int .u8 4] 5 (6, 7))) .u8 (some ⟨w0.heap.size, 0, none⟩) [0, 1, 8, 0, 6, 4] := by
    refine ⟨by decide, .inr ⟨w0.heap.size, 0, rfl, fun j hj => ?_⟩⟩
    rw [cell_of_row _ _ _ #[.int .u8 0, .int .u8 1, .int .u8 8, .int .u8 0, .int .u8 6, .int .u8 4] 5 (6, 7) (heap_alloc_new _ _)]
    have hj6 : j < 6 := hj
    have h6 : j = 0 ∨ j = 1 ∨ j = 2 ∨ j = 3 ∨ j = 4 ∨ j = 5 := by omega
    rcases h6 with rfl | rfl | rfl | rfl | rfl | rfl <;> rfl
  have kH := (Kp.refl (fun _ => False) w0).alloc (.cells #[.int .u8 0, .int .u8 1, .int .u8 8, .int .u8 0, .int .u8 6, .int .u8 4] 5 (6, 7))
  have hsz : (w0.alloc (.cells #[.int .u8 0, .int .u8 1, .int .u8 8, .int .u8 0, .int .u8 6, .int .u8 4] 5 (6, 7))).heap.size = w0.heap.size + 1 := by simp
  have hq := Bk.new (w0.alloc (.cells #[.int .u8 0, .int .u8 1, .int .u8 8, .int .u8 0, .int .u8 6, .int .u8 4] 5 (6, 7))) 38 #[.slice (some ⟨w0.heap.size, 0, none⟩) 6 6, .slice (some a1) 2 d1, .slice (some ⟨w.heap.size, 1, none⟩) 6 6, .slice (some a3) 4 d3, .slice (some ⟨w.heap.size, 8, none⟩) 6 6, .slice (some a5) 4 d5]
  rw [hsz] at hq
  have hq := hq.drew
  have kQ := (kH.alloc (.cells #[.slice (some ⟨w0.heap.size, 0, none⟩) 6 6, .slice (some a1) 2 d1, .slice (some ⟨w.heap.size, 1, none⟩) 6 6, .slice (some a3) 4 d3, .slice (some ⟨w.heap.size, 8, none⟩) 6 6, .slice (some a5) 4 d5] 38)).drew
  have kQ2 := ((Kp.refl (fun _ => False) (w0.alloc (.cells #[.int .u8 0, .int .u8 1, .int .u8 8, .int .u8 0, .int .u8 6, .int .u8 4] 5 (6, 7)))).alloc (.cells #[.slice (some ⟨w0.heap.size, 0, none⟩) 6 6, .slice (some a1) 2 d1, .slice (some ⟨w.heap.size, 1, none⟩) 6 6, .slice (some a3) 4 d3, .slice (some ⟨w.heap.size, 8, none⟩) 6 6, .slice (some a5) 4 d5] 38)).drew
  have hbQ := HB3.out.kept kQ (fun f => f)
  have hcc := concat6 (w0.heap.size + 1) ⟨w0.heap.size, 0, none⟩ a1 ⟨w.heap.size, 1, none⟩ a3 ⟨w.heap.size, 8, none⟩ a5 6 d1 6 d3 6 d5 [0, 1, 8, 0, 6, 4] [(opn : Int) / 256, (opn : Int) % 256] (macL m) (four ip) (macL t) (four tip) _ (hq.cell 0) (hH.kp kQ2 (fun _ _ _ f => f)) rfl (hq.cell 1) (R13.out.kp kQ (fun _ _ _ f => f)) rfl (hq.cell 2) (hbQ.rd m 1 FM.out) rfl (hq.cell 3) (R33.out.kp kQ (fun _ _ _ f => f)) rfl (hq.cell 4) (hbQ.rd t 8 FT.out) rfl (hq.cell 5) (R5.out.kp kQ (fun _ _ _ f => f)) rfl
  have HCC := Lib.hid hcc
  clear hcc
  refine wpAnyH_ready (rs := [10]) (by kernel_rfl) (by simp) ?_
  refine AllReadyH.cons rfl (fun K hK => ?_) AllReadyH.nil
  go_simp
  with_reducible refine (HCC.out).mono ?_
  rintro ev w9 ⟨s9, rfl, own9, k9⟩
  have KC := Lib.hid (KC.out.trans' k9)
  have O9 := Lib.hid own9
  clear k9
  try dsimp only
  refine hK.out _ _ (KC.out) (fun hHeld => ?_)
  clear hK K
  try simp only [Act.put, List.getElem_toArray, List.getElem_cons_succ, List.getElem_cons_zero, List.setIfInBounds_toArray, List.set_cons_zero, List.set_cons_succ]
  refine wpAnyH_take (i := 11) (v := ?v11_7) rfl (by kernel_rfl) (by kernel_rfl) (by kernel_rfl) (fun _ _ _ h => h) (Or.inl ⟨by rfl, ?y11_7⟩) (by assumption) ?r11_7
  case y11_7 => (intro w hSw; (try dsimp only at hSw); go_simp; first | done | with_reducible rfl)
  try simp only [Act.put, List.getElem_toArray, List.getElem_cons_succ, List.getElem_cons_zero, List.setIfInBounds_toArray, List.set_cons_zero, List.set_cons_succ]
  refine wpAnyH_done (by kernel_rfl) ?_ _
  go_wp2_with fail
  go_ret
  have hls := K3.out.size
  refine ⟨s9, rfl, ?_, K3.out.trans' KC.out⟩
  have := own_low (base' := w.heap.size) O9.out (by simp; omega)
  unfold pbytes
  rw [HOP.out]
  exact this
end Go.Proofs.YtfhhmehlkjaibaaDoor
