/- Arp: bytes.HasPrefix. Arp: Ask and Tell. Arp: are two packets the same? Arp: the reference's Ask and Tell. Arp: the law's Of. Arp: the reference's Head. Arp: arguments that came in. Yc -/
import Derived.Test.YtfhhmehlkjaibaaDoorGa
import Derived.Test.YtfhhmehlkjaibaaDoorLawKit
import Derived.Test.YtfhhmehlkjaibaaDoorWm
import Derived.Test.YtfhhmehlkjaibaaDoorWWords
set_option linter.unusedVariables false
set_option linter.unusedSimpArgs false
namespace Go.Proofs.YtfhhmehlkjaibaaDoor
open Go.RowKit

set_option maxRecDepth 100000 in
set_option maxHeartbeats 2000000 in
theorem prefix_any (b o n c l d : Nat) (B : Option Addr) (xs hs : List Int) (w : World) (hx : RdI w .u8 (some ⟨b, o, none⟩) xs) (hh : RdI w .u8 B hs) (hn : xs.length = n) (hl : hs.length = l) (bx : Byt xs) (bh : Byt hs) (hle : l ≤ n) (hc : n ≤ c) (hn9 : n ≤ 100000) :
    Calls Tryd.prog 40 #[.slice (some ⟨b, o, none⟩) n c, .slice B l d] w fun ev w' => ev = .returned (.bool (xs.take l == hs)) ∧ Kp (fun _ => False) w w' := by
  have h1 : (l : Int) ≤ (n : Int) := by omega
  have h2 : (0 : Int) ≤ (l : Int) := by omega
  have h3 : (l : Int) ≤ (c : Int) := by omega
  have h4 : l ≤ c := by omega
  have heq : ∀ c', Calls Tryd.prog 58 #[.slice (some ⟨b, o, none⟩) l c', .slice B l d] w fun ev w' => ev = .returned (.bool (xs.take l == hs)) ∧ Kp (fun _ => False) w w' := fun c' =>
    equal_any (some ⟨b, o, none⟩) B c' d l l (xs.take l) hs w (hx.take l) hh (by rw [List.length_take, hn]; omega) hl (byt_take bx l) bh
  have HEQ := Lib.hid heq
  obtain ⟨q, hq⟩ : ∃ q, (xs.take l == hs) = q := ⟨_, rfl⟩
  rw [hq] at HEQ ⊢
  clear heq hx hh hn hl bx bh hq
  go_enter Tryd.func40, Tryd.ntmps40
  go_wp2_with fail
  refine (HEQ.out _).mono ?_
  rintro ev w1 ⟨rfl, k1⟩
  go_wp2_with fail
  go_ret
  exact ⟨by simp, k1⟩
end Go.Proofs.YtfhhmehlkjaibaaDoor
namespace Go.Proofs.YtfhhmehlkjaibaaDoor
open Go.RowKit

theorem hi44 : (Tryd.prog.info? 44).map (·.size) = some 15 := by kernel_rfl
set_option maxRecDepth 100000 in
set_option maxHeartbeats 4000000 in
theorem ask_any (m : Nat → Int) (ip tip : Nat) (w : World) :
    Calls Tryd.prog 25 #[.agg (mac m), .int .u32 ip, .int .u32 tip] w fun ev w' => ev = .returned (.agg (pkt 1 m ip (fun _ => 0) tip)) ∧ Kp (fun _ => False) w w' := by
  have hb := (Bk.new w 41 (mac m)).alloc (.cells #[.int .i64 0, .int .u8 0, .int .u8 0, .int .u8 0, .int .u8 0, .int .u8 0, .int .u8 0, .int .u32 0, .int .u8 0, .int .u8 0, .int .u8 0, .int .u8 0, .int .u8 0, .int .u8 0, .int .u32 0] 44)
  have c0 : _ = some (Value.int .u8 (m 0)) := hb.cell 0
  have c1 : _ = some (Value.int .u8 (m 1)) := hb.cell 1
  have c2 : _ = some (Value.int .u8 (m 2)) := hb.cell 2
  have c3 : _ = some (Value.int .u8 (m 3)) := hb.cell 3
  have c4 : _ = some (Value.int .u8 (m 4)) := hb.cell 4
  have c5 : _ = some (Value.int .u8 (m 5)) := hb.cell 5
  clear hb
  have HB := Lib.hid (Bk.new (w.alloc (.cells (mac m) 41)) 44 (pkt 1 m ip (fun _ => 0) tip))
  have HK := Lib.hid (((Kp.refl (fun _ => False) w).alloc (.cells (mac m) 41)).alloc (.cells (pkt 1 m ip (fun _ => 0) tip) 44))
  have hsz : (w.alloc (.cells (mac m) 41)).heap.size = w.heap.size + 1 := by simp
  have HS := Lib.hid hsz
  clear hsz
  generalize hM : mac m = M at *
  clear hM
  go_enter Tryd.func25, Tryd.ntmps25
  go_wp2_with fail
  have hbb := HB.out
  rw [HS.out] at hbb
  refine bodyPost_ret (results_cell_row rfl _ _ (w.heap.size + 1) 44 (pkt 1 m ip (fun _ => 0) tip) (0, 0) _ rfl hbb Tryd.underlying44 rfl hi44) rfl ?_
  exact ⟨rfl, HK.out⟩

set_option maxRecDepth 100000 in
set_option maxHeartbeats 4000000 in
theorem tell_any (op : Int) (m t : Nat → Int) (ip tip : Nat) (n : Nat → Int) (w : World) :
    Calls Tryd.prog 27 #[.agg (pkt op m ip t tip), .agg (mac n)] w fun ev w' => ev = .returned (.agg (pkt 2 n tip m ip)) ∧ Kp (fun _ => False) w w' := by
  have hb0 := ((Bk.new w 44 (pkt op m ip t tip)).alloc (.cells (mac n) 41)).alloc (.cells #[.int .i64 0, .int .u8 0, .int .u8 0, .int .u8 0, .int .u8 0, .int .u8 0, .int .u8 0, .int .u32 0, .int .u8 0, .int .u8 0, .int .u8 0, .int .u8 0, .int .u8 0, .int .u8 0, .int .u32 0] 44)
  have hb1 := (Bk.new (w.alloc (.cells (pkt op m ip t tip) 44)) 41 (mac n)).alloc (.cells #[.int .i64 0, .int .u8 0, .int .u8 0, .int .u8 0, .int .u8 0, .int .u8 0, .int .u8 0, .int .u32 0, .int .u8 0, .int .u8 0, .int .u8 0, .int .u8 0, .int .u8 0, .int .u8 0, .int .u32 0] 44)
  rw [show (w.alloc (.cells (pkt op m ip t tip) 44)).heap.size = w.heap.size + 1 by simp] at hb1
  have x0 : _ = some (Value.int .i64 op) := hb0.cell 0
  have x1 : _ = some (Value.int .u8 (m 0)) := hb0.cell 1
  have x2 : _ = some (Value.int .u8 (m 1)) := hb0.cell 2
  have x3 : _ = some (Value.int .u8 (m 2)) := hb0.cell 3
  have x4 : _ = some (Value.int .u8 (m 3)) := hb0.cell 4
  have x5 : _ = some (Value.int .u8 (m 4)) := hb0.cell 5
  have x6 : _ = some (Value.int .u8 (m 5)) := hb0.cell 6
  have x7 : _ = some (Value.int .u32 ip) := hb0.cell 7
  have x8 : _ = some (Value.int .u8 (t 0)) := hb0.cell 8
  have x9 : _ = some (Value.int .u8 (t 1)) := hb0.cell 9
  have x10 : _ = some (Value.int .u8 (t 2)) := hb0.cell 10
  have x11 : _ = some (Value.int .u8 (t 3)) := hb0.cell 11
  have x12 : _ = some (Value.int .u8 (t 4)) := hb0.cell 12
  have x13 : _ = some (Value.int .u8 (t 5)) := hb0.cell 13
  have x14 : _ = some (Value.int .u32 tip) := hb0.cell 14
  have y0 : _ = some (Value.int .u8 (n 0)) := hb1.cell 0
  have y1 : _ = some (Value.int .u8 (n 1)) := hb1.cell 1
  have y2 : _ = some (Value.int .u8 (n 2)) := hb1.cell 2
  have y3 : _ = some (Value.int .u8 (n 3)) := hb1.cell 3
  have y4 : _ = some (Value.int .u8 (n 4)) := hb1.cell 4
  have y5 : _ = some (Value.int .u8 (n 5)) := hb1.cell 5
  clear hb0 hb1
  have HB := Lib.hid (Bk.new ((w.alloc (.cells (pkt op m ip t tip) 44)).alloc (.cells (mac n) 41)) 44 (pkt 2 n tip m ip))
  have HK := Lib.hid ((((Kp.refl (fun _ => False) w).alloc (.cells (pkt op m ip t tip) 44)).alloc (.cells (mac n) 41)).alloc (.cells (pkt 2 n tip m ip) 44))
  have hsz : ((w.alloc (.cells (pkt op m ip t tip) 44)).alloc (.cells (mac n) 41)).heap.size = w.heap.size + 2 := by simp
  have HS := Lib.hid hsz
  clear hsz
  generalize hM : mac n = M at *
  generalize hF : pkt op m ip t tip = F at *
  clear hM hF
  go_enter Tryd.func27, Tryd.ntmps27
  go_wp2_with fail
  have hbb := HB.out
  rw [HS.out] at hbb
  refine bodyPost_ret (results_cell_row rfl _ _ (w.heap.size + 2) 44 (pkt 2 n tip m ip) (0, 0) _ rfl hbb Tryd.underlying44 rfl hi44) rfl ?_
  exact ⟨rfl, HK.out⟩
end Go.Proofs.YtfhhmehlkjaibaaDoor
namespace Go.Proofs.YtfhhmehlkjaibaaDoor
open Go.RowKit

/-- Are two packets the same? -/
def pktEq (a : Int) (m : Nat → Int) (ip : Nat) (t : Nat → Int) (tip : Nat) (a' : Int) (m' : Nat → Int) (ip' : Nat) (t' : Nat → Int) (tip' : Nat) : Bool :=
  (a == a') && (macEq m m' && (((ip : Int) == ip') && (macEq t t' && ((tip : Int) == tip'))))
theorem fields44 : (Tryd.prog.fieldsOf 44).toList.map (fun f => (f.name, f.type, f.offset)) = [("Op", 3, 0), ("Mac", 41, 1), ("Ip", 42, 7), ("ToMac", 41, 8), ("ToIp", 42, 14)] := by kernel_rfl
set_option maxRecDepth 100000 in
theorem run_equalIn_pkt (w : World) (d : Nat) (a : Int) (m : Nat → Int) (ip : Nat) (t : Nat → Int) (tip : Nat) (a' : Int) (m' : Nat → Int) (ip' : Nat) (t' : Nat → Int) (tip' : Nat) :
    (Op.equalIn (d + 3) 44 (.agg (pkt a m ip t tip)) (.agg (pkt a' m' ip' t' tip'))).run Tryd.prog w = .ok (pktEq a m ip t tip a' m' ip' t' tip') w := by
  rw [run_equalIn_struct w (d + 2) 44 _ _ (by kernel_rfl) (by kernel_rfl)]
  have p0 : ∀ (a : Int) (m : Nat → Int) (ip : Nat) (t : Nat → Int) (tip : Nat) w, (part 3 (pkt a m ip t tip) 0).run Tryd.prog w = .ok (.int .i64 a) w := fun a m ip t tip w => by simp [part, isAgg, run_underlying Tryd.underlying3, pkt]
  have p1 : ∀ (a : Int) (m : Nat → Int) (ip : Nat) (t : Nat → Int) (tip : Nat) w, (part 41 (pkt a m ip t tip) 1).run Tryd.prog w = .ok (.agg (mac m)) w := fun a m ip t tip w => by kernel_rfl
  have p7 : ∀ (a : Int) (m : Nat → Int) (ip : Nat) (t : Nat → Int) (tip : Nat) w, (part 42 (pkt a m ip t tip) 7).run Tryd.prog w = .ok (.int .u32 ip) w := fun a m ip t tip w => by simp [part, isAgg, run_underlying Tryd.underlying42, pkt]
  have p8 : ∀ (a : Int) (m : Nat → Int) (ip : Nat) (t : Nat → Int) (tip : Nat) w, (part 41 (pkt a m ip t tip) 8).run Tryd.prog w = .ok (.agg (mac t)) w := fun a m ip t tip w => by kernel_rfl
  have p14 : ∀ (a : Int) (m : Nat → Int) (ip : Nat) (t : Nat → Int) (tip : Nat) w, (part 42 (pkt a m ip t tip) 14).run Tryd.prog w = .ok (.int .u32 tip) w := fun a m ip t tip w => by simp [part, isAgg, run_underlying Tryd.underlying42, pkt]
  have hf := fields44
  generalize (Tryd.prog.fieldsOf 44).toList = fs at hf
  have hlen : fs.length = 5 := by simpa using congrArg List.length hf
  obtain ⟨f0, f1, f2, f3, f4, rfl⟩ : ∃ f0 f1 f2 f3 f4, fs = [f0, f1, f2, f3, f4] := by
    match fs, hlen with
    | [a, b, c, d, e], _ => exact ⟨a, b, c, d, e, rfl⟩
  simp only [List.map_cons, List.map_nil, List.cons.injEq, Prod.mk.injEq, and_true] at hf
  obtain ⟨⟨n0, t0, o0⟩, ⟨n1, t1, o1⟩, ⟨n2, t2, o2⟩, ⟨n3, t3, o3⟩, ⟨n4, t4, o4⟩⟩ := hf
  simp only [Op.eqFields, n0, n1, n2, n3, n4, t0, t1, t2, t3, t4, o0, o1, o2, o3, o4, Sem.run_bind, Sem.run_ite, p0, p1, p7, p8, p14, Result.andThen_ok, run_equalIn_mac w d, run_equalIn_int w (d + 1) 3 .i64 .i64 _ _ Tryd.underlying3, run_equalIn_int w (d + 1) 42 .u32 .u32 _ _ Tryd.underlying42]
  unfold pktEq
  cases (a == a') <;> cases macEq m m' <;> cases ((ip : Int) == ip') <;> cases macEq t t' <;> cases ((tip : Int) == tip') <;> simp
theorem run_eql_pkt (w : World) (a : Int) (m : Nat → Int) (ip : Nat) (t : Nat → Int) (tip : Nat) (a' : Int) (m' : Nat → Int) (ip' : Nat) (t' : Nat → Int) (tip' : Nat) :
    (binOp .eql 44 (.agg (pkt a m ip t tip)) (.agg (pkt a' m' ip' t' tip'))).run Tryd.prog w = .ok (.bool (pktEq a m ip t tip a' m' ip' t' tip')) w := by
  rw [run_eql_struct, run_equalIn_pkt w 9997]
  rfl
end Go.Proofs.YtfhhmehlkjaibaaDoor
namespace Go.Proofs.YtfhhmehlkjaibaaDoor
open Go.RowKit

theorem hi48 : (Tryd.prog.info? 48).map (·.size) = some 15 := by kernel_rfl
set_option maxRecDepth 100000 in
set_option maxHeartbeats 4000000 in
theorem rask_any (m : Nat → Int) (ip tip : Nat) (w : World) :
    Calls Tryd.prog 26 #[.agg (mac m), .int .u32 ip, .int .u32 tip] w fun ev w' => ev = .returned (.agg (pkt 1 m ip (fun _ => 0) tip)) ∧ Kp (fun _ => False) w w' := by
  have hb := (Bk.new w 40 (mac m)).alloc (.cells #[.int .i64 0, .int .u8 0, .int .u8 0, .int .u8 0, .int .u8 0, .int .u8 0, .int .u8 0, .int .u32 0, .int .u8 0, .int .u8 0, .int .u8 0, .int .u8 0, .int .u8 0, .int .u8 0, .int .u32 0] 48)
  have c0 : _ = some (Value.int .u8 (m 0)) := hb.cell 0
  have c1 : _ = some (Value.int .u8 (m 1)) := hb.cell 1
  have c2 : _ = some (Value.int .u8 (m 2)) := hb.cell 2
  have c3 : _ = some (Value.int .u8 (m 3)) := hb.cell 3
  have c4 : _ = some (Value.int .u8 (m 4)) := hb.cell 4
  have c5 : _ = some (Value.int .u8 (m 5)) := hb.cell 5
  clear hb
  have HB := Lib.hid (Bk.new (w.alloc (.cells (mac m) 40)) 48 (pkt 1 m ip (fun _ => 0) tip))
  have HK := Lib.hid (((Kp.refl (fun _ => False) w).alloc (.cells (mac m) 40)).alloc (.cells (pkt 1 m ip (fun _ => 0) tip) 48))
  have hsz : (w.alloc (.cells (mac m) 40)).heap.size = w.heap.size + 1 := by simp
  have HS := Lib.hid hsz
  clear hsz
  generalize hM : mac m = M at *
  clear hM
  go_enter Tryd.func26, Tryd.ntmps26
  go_wp2_with fail
  have hbb := HB.out
  rw [HS.out] at hbb
  refine bodyPost_ret (results_cell_row rfl _ _ (w.heap.size + 1) 48 (pkt 1 m ip (fun _ => 0) tip) (0, 0) _ rfl hbb Tryd.underlying48 rfl hi48) rfl ?_
  exact ⟨rfl, HK.out⟩

set_option maxRecDepth 100000 in
set_option maxHeartbeats 4000000 in
theorem rtell_any (op : Int) (m t : Nat → Int) (ip tip : Nat) (n : Nat → Int) (w : World) :
    Calls Tryd.prog 28 #[.agg (pkt op m ip t tip), .agg (mac n)] w fun ev w' => ev = .returned (.agg (pkt 2 n tip m ip)) ∧ Kp (fun _ => False) w w' := by
  have hb0 := ((Bk.new w 48 (pkt op m ip t tip)).alloc (.cells (mac n) 40)).alloc (.cells #[.int .i64 0, .int .u8 0, .int .u8 0, .int .u8 0, .int .u8 0, .int .u8 0, .int .u8 0, .int .u32 0, .int .u8 0, .int .u8 0, .int .u8 0, .int .u8 0, .int .u8 0, .int .u8 0, .int .u32 0] 48)
  have hb1 := (Bk.new (w.alloc (.cells (pkt op m ip t tip) 48)) 40 (mac n)).alloc (.cells #[.int .i64 0, .int .u8 0, .int .u8 0, .int .u8 0, .int .u8 0, .int .u8 0, .int .u8 0, .int .u32 0, .int .u8 0, .int .u8 0, .int .u8 0, .int .u8 0, .int .u8 0, .int .u8 0, .int .u32 0] 48)
  rw [show (w.alloc (.cells (pkt op m ip t tip) 48)).heap.size = w.heap.size + 1 by simp] at hb1
  have x0 : _ = some (Value.int .i64 op) := hb0.cell 0
  have x1 : _ = some (Value.int .u8 (m 0)) := hb0.cell 1
  have x2 : _ = some (Value.int .u8 (m 1)) := hb0.cell 2
  have x3 : _ = some (Value.int .u8 (m 2)) := hb0.cell 3
  have x4 : _ = some (Value.int .u8 (m 3)) := hb0.cell 4
  have x5 : _ = some (Value.int .u8 (m 4)) := hb0.cell 5
  have x6 : _ = some (Value.int .u8 (m 5)) := hb0.cell 6
  have x7 : _ = some (Value.int .u32 ip) := hb0.cell 7
  have x8 : _ = some (Value.int .u8 (t 0)) := hb0.cell 8
  have x9 : _ = some (Value.int .u8 (t 1)) := hb0.cell 9
  have x10 : _ = some (Value.int .u8 (t 2)) := hb0.cell 10
  have x11 : _ = some (Value.int .u8 (t 3)) := hb0.cell 11
  have x12 : _ = some (Value.int .u8 (t 4)) := hb0.cell 12
  have x13 : _ = some (Value.int .u8 (t 5)) := hb0.cell 13
  have x14 : _ = some (Value.int .u32 tip) := hb0.cell 14
  have y0 : _ = some (Value.int .u8 (n 0)) := hb1.cell 0
  have y1 : _ = some (Value.int .u8 (n 1)) := hb1.cell 1
  have y2 : _ = some (Value.int .u8 (n 2)) := hb1.cell 2
  have y3 : _ = some (Value.int .u8 (n 3)) := hb1.cell 3
  have y4 : _ = some (Value.int .u8 (n 4)) := hb1.cell 4
  have y5 : _ = some (Value.int .u8 (n 5)) := hb1.cell 5
  clear hb0 hb1
  have HB := Lib.hid (Bk.new ((w.alloc (.cells (pkt op m ip t tip) 48)).alloc (.cells (mac n) 40)) 48 (pkt 2 n tip m ip))
  have HK := Lib.hid ((((Kp.refl (fun _ => False) w).alloc (.cells (pkt op m ip t tip) 48)).alloc (.cells (mac n) 40)).alloc (.cells (pkt 2 n tip m ip) 48))
  have hsz : ((w.alloc (.cells (pkt op m ip t tip) 48)).alloc (.cells (mac n) 40)).heap.size = w.heap.size + 2 := by simp
  have HS := Lib.hid hsz
  clear hsz
  generalize hM : mac n = M at *
  generalize hF : pkt op m ip t tip = F at *
  clear hM hF
  go_enter Tryd.func28, Tryd.ntmps28
  go_wp2_with fail
  have hbb := HB.out
  rw [HS.out] at hbb
  refine bodyPost_ret (results_cell_row rfl _ _ (w.heap.size + 2) 48 (pkt 2 n tip m ip) (0, 0) _ rfl hbb Tryd.underlying48 rfl hi48) rfl ?_
  exact ⟨rfl, HK.out⟩
end Go.Proofs.YtfhhmehlkjaibaaDoor
namespace Go.Proofs.YtfhhmehlkjaibaaDoor
open Go.RowKit

set_option maxRecDepth 100000 in
set_option maxHeartbeats 4000000 in
theorem of_pkt (op : Int) (m t : Nat → Int) (ip tip : Nat) (w : World) :
    Calls Tryd.prog 21 #[.agg (pkt op m ip t tip)] w fun ev w' => ev = .returned (.agg (pkt op m ip t tip)) ∧ Kp (fun _ => False) w w' := by
  have hb0 := (Bk.new w 44 (pkt op m ip t tip)).alloc (.cells #[.int .i64 0, .int .u8 0, .int .u8 0, .int .u8 0, .int .u8 0, .int .u8 0, .int .u8 0, .int .u32 0, .int .u8 0, .int .u8 0, .int .u8 0, .int .u8 0, .int .u8 0, .int .u8 0, .int .u32 0] 48)
  have x0 : _ = some (Value.int .i64 op) := hb0.cell 0
  have x1 : _ = some (Value.int .u8 (m 0)) := hb0.cell 1
  have x2 : _ = some (Value.int .u8 (m 1)) := hb0.cell 2
  have x3 : _ = some (Value.int .u8 (m 2)) := hb0.cell 3
  have x4 : _ = some (Value.int .u8 (m 3)) := hb0.cell 4
  have x5 : _ = some (Value.int .u8 (m 4)) := hb0.cell 5
  have x6 : _ = some (Value.int .u8 (m 5)) := hb0.cell 6
  have x7 : _ = some (Value.int .u32 ip) := hb0.cell 7
  have x8 : _ = some (Value.int .u8 (t 0)) := hb0.cell 8
  have x9 : _ = some (Value.int .u8 (t 1)) := hb0.cell 9
  have x10 : _ = some (Value.int .u8 (t 2)) := hb0.cell 10
  have x11 : _ = some (Value.int .u8 (t 3)) := hb0.cell 11
  have x12 : _ = some (Value.int .u8 (t 4)) := hb0.cell 12
  have x13 : _ = some (Value.int .u8 (t 5)) := hb0.cell 13
  have x14 : _ = some (Value.int .u32 tip) := hb0.cell 14
  clear hb0
  have HB := Lib.hid (Bk.new (w.alloc (.cells (pkt op m ip t tip) 44)) 48 (pkt op m ip t tip))
  have HK := Lib.hid (((Kp.refl (fun _ => False) w).alloc (.cells (pkt op m ip t tip) 44)).alloc (.cells (pkt op m ip t tip) 48))
  have hsz : (w.alloc (.cells (pkt op m ip t tip) 44)).heap.size = w.heap.size + 1 := by simp
  have HS := Lib.hid hsz
  clear hsz
  go_enter Tryd.func21, Tryd.ntmps21
  go_wp2_with fail
  have hbb := HB.out
  rw [HS.out] at hbb
  refine bodyPost_ret (results_cell_row rfl _ _ (w.heap.size + 1) 48 (pkt op m ip t tip) (0, 0) _ rfl hbb Tryd.underlying48 rfl hi48) rfl ?_
  exact ⟨rfl, HK.out⟩
end Go.Proofs.YtfhhmehlkjaibaaDoor
namespace Go.Proofs.YtfhhmehlkjaibaaDoor
open Go.RowKit

theorem row_new (w : World) (base : Nat) (xs : List Int) (n : Nat) (hb : base ≤ w.heap.size) (hn : xs.length = n) (hm : n ≤ maxLen) :
    (w.alloc (.cells (intsK .u8 xs).toArray 5)).ownsRow base 5 1 (.slice (some ⟨w.heap.size, 0, none⟩) n n) n (intsK .u8 xs) :=
  ⟨by rw [intsK_len, hn]; omega, .inr ⟨w.heap.size, n, (intsK .u8 xs).toArray, rfl, hb, heap_alloc_new w _, Nat.le_refl _, hm, by simp [intsK_len, hn], by simp; rw [List.take_of_length_le (by rw [intsK_len, hn]; omega)]⟩⟩
set_option maxRecDepth 100000 in
set_option maxHeartbeats 2000000 in
theorem head_any (w : World) : Calls Tryd.prog 42 #[] w fun ev w' => ∃ s, ev = .returned s ∧ w'.ownsRow w.heap.size 5 1 s 6 (intsK .u8 [0, 1, 8, 0, 6, 4]) ∧ Kp (fun _ => False) w w' := by
  have HR := Lib.hid (row_new w w.heap.size [0, 1, 8, 0, 6, 4] 6 (Nat.le_refl _) rfl (by unfold maxLen; omega))
  go_enter Tryd.func42, Tryd.ntmps42
  go_wp2_with fail
  go_ret
  exact ⟨_, rfl, HR.out, (Kp.refl _ _).alloc _⟩
set_option maxRecDepth 100000 in
set_option maxHeartbeats 2000000 in
theorem four_any (v : Nat) (w : World) (hv : v < 4294967296) : Calls Tryd.prog 46 #[.int .u32 v] w fun ev w' => ∃ s, ev = .returned s ∧ w'.ownsRow w.heap.size 5 1 s 4 (intsK .u8 (four v)) ∧ Kp (fun _ => False) w w' := by
  have HR := Lib.hid (row_new w w.heap.size (four v) 4 (Nat.le_refl _) rfl (by unfold maxLen; omega))
  have a1 : IntKind.u32.wrap ((v : Int) / 16777216) = (v : Int) / 16777216 := by rw [IntKind.wrap_u32']; omega
  have a2 : IntKind.u32.wrap ((v : Int) / 65536) = (v : Int) / 65536 := by rw [IntKind.wrap_u32']; omega
  have a3 : IntKind.u32.wrap ((v : Int) / 256) = (v : Int) / 256 := by rw [IntKind.wrap_u32']; omega
  have b1 : IntKind.u8.wrap ((v : Int) / 16777216) = (v : Int) / 16777216 := by rw [IntKind.wrap_u8']; omega
  have c2 : ((v : Int) / 65536).tmod 256 = (v : Int) / 65536 % 256 := Int.tmod_eq_emod_of_nonneg (by omega)
  have c3 : ((v : Int) / 256).tmod 256 = (v : Int) / 256 % 256 := Int.tmod_eq_emod_of_nonneg (by omega)
  have c4 : (v : Int).tmod 256 = (v : Int) % 256 := Int.tmod_eq_emod_of_nonneg (by omega)
  have b2 : IntKind.u8.wrap ((v : Int) / 65536 % 256) = (v : Int) / 65536 % 256 := by rw [IntKind.wrap_u8']; omega
  have b3 : IntKind.u8.wrap ((v : Int) / 256 % 256) = (v : Int) / 256 % 256 := by rw [IntKind.wrap_u8']; omega
  have b4 : IntKind.u8.wrap ((v : Int) % 256) = (v : Int) % 256 := by rw [IntKind.wrap_u8']; omega
  go_enter Tryd.func46, Tryd.ntmps46
  go_wp2_with fail
  go_ret
  exact ⟨_, rfl, HR.out, (Kp.refl _ _).alloc _⟩
end Go.Proofs.YtfhhmehlkjaibaaDoor
namespace Go.Proofs.YtfhhmehlkjaibaaDoor
open Go.ChangeShapes Go.WideShapes Go.ChangeAt Go.RowKit

theorem wf_u32 {n : Int} (h : (Lit.int .u32 n).wf = true) : 0 ≤ n ∧ n < 4294967296 := by
  simp [Lit.wf, IntKind.min, IntKind.max, IntKind.signed, IntKind.bits] at h
  omega
theorem cells3 : Tryd.prog.cellsOf 3 = 1 := by kernel_rfl
theorem cells5 : Tryd.prog.cellsOf 5 = 1 := by kernel_rfl
theorem cells41 : Tryd.prog.cellsOf 41 = 6 := by kernel_rfl
theorem cells42 : Tryd.prog.cellsOf 42 = 1 := by kernel_rfl
theorem cells38 : Tryd.prog.cellsOf 38 = 1 := by kernel_rfl
theorem cells44 : Tryd.prog.cellsOf 44 = 15 := by kernel_rfl
section
variable {H : Type} {enc : TypeId × Value → H} {w : World} {base : Nat} {spare : Nat → Bool} {held : Bool} {fuel : Nat}
set_option maxRecDepth 100000 in
theorem trod_mac {cs : List Value} {x : DataW H × List MemPlace} (h : DataW.trod enc Tryd.prog w base spare held fuel 41 cs = some x) :
    ∃ m : Nat → Int, cs = (mac m).toList ∧ x.2 = [] ∧ Oct m := by
  obtain ⟨xs, n, rfl, rfl, hl, hxs, hi⟩ := DataW.trod_array Tryd.underlying41 h
  rw [cells41] at hl
  simp only [cells5, Nat.mul_one] at hi
  match xs, hxs with
  | [y0, y1, y2, y3, y4, y5], _ =>
    match cs, hl with
    | [c0, c1, c2, c3, c4, c5], _ =>
      have t0 := DataW.trod_int Tryd.underlying5 (by simpa using hi 0 (by omega))
      have t1 := DataW.trod_int Tryd.underlying5 (by simpa using hi 1 (by omega))
      have t2 := DataW.trod_int Tryd.underlying5 (by simpa using hi 2 (by omega))
      have t3 := DataW.trod_int Tryd.underlying5 (by simpa using hi 3 (by omega))
      have t4 := DataW.trod_int Tryd.underlying5 (by simpa using hi 4 (by omega))
      have t5 := DataW.trod_int Tryd.underlying5 (by simpa using hi 5 (by omega))
      obtain ⟨n0, e0, rfl, w0⟩ := t0
      obtain ⟨n1, e1, rfl, w1⟩ := t1
      obtain ⟨n2, e2, rfl, w2⟩ := t2
      obtain ⟨n3, e3, rfl, w3⟩ := t3
      obtain ⟨n4, e4, rfl, w4⟩ := t4
      obtain ⟨n5, e5, rfl, w5⟩ := t5
      simp only [List.cons.injEq, and_true] at e0 e1 e2 e3 e4 e5
      subst e0 e1 e2 e3 e4 e5
      refine ⟨fun i => [n0, n1, n2, n3, n4, n5].getD i 0, rfl, rfl, fun i => ?_⟩
      have := wf_u8 w0; have := wf_u8 w1; have := wf_u8 w2; have := wf_u8 w3; have := wf_u8 w4; have := wf_u8 w5
      match i with
      | 0 => assumption
      | 1 => assumption
      | 2 => assumption
      | 3 => assumption
      | 4 => assumption
      | 5 => assumption
      | i + 6 => simp
set_option maxRecDepth 100000 in
theorem open_mac {r : Reach} {b0 : Nat} {v : Value} {d : DataW H} {p : List MemPlace} (hv : Value.okWide Tryd.prog w r b0 41 v) (h : DataW.Trod enc Tryd.prog w base spare held 41 v d p) :
    ∃ m : Nat → Int, v = .agg (mac m) ∧ p = [] ∧ Oct m := by
  obtain ⟨cs, rfl, _⟩ : ∃ cs, v = .agg cs ∧ cs.size = Tryd.prog.cellsOf 41 := by
    unfold Value.okWide at hv
    rw [Tryd.underlying41] at hv
    obtain ⟨cs, h1, h2, _⟩ := hv
    exact ⟨cs, h1, h2⟩
  obtain ⟨fuel, hf⟩ := h
  obtain ⟨m, h1, h2, h3⟩ := trod_mac hf
  exact ⟨m, by rw [show cs = mac m from Array.ext' h1], h2, h3⟩
/-- A slice of bytes that came in. -/
theorem open_oct {W : World} {cs : List Value} {x : DataW H × List MemPlace} (h : DataW.trod enc Tryd.prog W 0 (fun _ => true) true fuel 38 cs = some x) :
    ∃ A xs c, cs = [.slice A xs.length c] ∧ RdI W .u8 A xs ∧ Byt xs ∧ (A = none → c = 0) ∧ xs.length ≤ c := by
  rcases open_ints Tryd.underlying38 Tryd.underlying5 cells5 h with ⟨rfl, hx⟩ | ⟨a, len, cap, zs, rfl, _, hl, hm, hz, hx, hcell, hwz⟩
  · exact ⟨none, [], 0, rfl, ⟨by simp, .inl rfl⟩, fun j => by simp, fun _ => rfl, by simp⟩
  · simp at hz
    have htl : (zs.take len).length = len := by rw [List.length_take]; omega
    refine ⟨some a, zs.take len, cap, by rw [htl], ⟨by rw [htl]; unfold maxLen at hm; omega, ?_⟩, ?_, (fun h => by cases h), by rw [htl]; exact hl⟩
    · by_cases h0 : len = 0
      · exact .inl (by rw [htl]; exact h0)
      · right
        have hsp : a.spot = none := by
          have h1 := hcell 0 (by omega)
          cases hs : a.spot with
          | none => rfl
          | some q => simp [Addr.add, World.cell?, hs] at h1; split at h1 <;> cases h1
        obtain ⟨b, o, sp⟩ := a
        simp at hsp
        subst hsp
        refine ⟨b, o, rfl, fun j hj => ?_⟩
        rw [htl] at hj
        have h1 := hcell j (by omega)
        have e1 : (⟨b, o, none⟩ : Addr).add j = ⟨b, o + j, none⟩ := by unfold Addr.add; split <;> simp_all
        rw [e1] at h1
        rw [h1]
        simp [List.getElem?_take_of_lt, hj]
    · intro j
      rcases Nat.lt_or_ge j (zs.take len).length with hj | hj
      · have h1 := wf_u8 (hwz _ (List.mem_of_mem_take (List.getElem_mem hj)))
        simp only [List.getD, List.getElem?_eq_getElem hj, Option.getD_some]
        exact h1
      · simp [List.getD, List.getElem?_eq_none hj]
set_option maxRecDepth 100000 in
theorem open_bytes {W : World} {b0 : Nat} {r : Reach} {v : Value} {d : DataW H} {p : List MemPlace} (hv : Value.okWide Tryd.prog W r b0 38 v) (h : DataW.Trod enc Tryd.prog W 0 (fun _ => true) true 38 v d p) :
    ∃ A xs c, v = .slice A xs.length c ∧ RdI W .u8 A xs ∧ Byt xs ∧ (A = none → c = 0) ∧ xs.length ≤ c := by
  obtain ⟨fuel, hf⟩ := h
  obtain ⟨a0, len, cap, rfl⟩ := okWide_slice Tryd.underlying38 hv
  obtain ⟨A, xs, c, e, h⟩ := open_oct hf
  simp only [Value.cells, List.cons.injEq, and_true] at e
  exact ⟨A, xs, c, e, h⟩
set_option maxRecDepth 100000 in
theorem open_pkt {W : World} {b0 : Nat} {r : Reach} {v : Value} {d : DataW H} {p : List MemPlace} (hv : Value.okWide Tryd.prog W r b0 44 v) (h : DataW.Trod enc Tryd.prog W 0 (fun _ => true) true 44 v d p) :
    ∃ (op : Int) (m : Nat → Int) (ip : Nat) (t : Nat → Int) (tip : Nat), v = .agg (pkt op m ip t tip) ∧ Oct m ∧ ip < 4294967296 ∧ Oct t ∧ tip < 4294967296 := by
  obtain ⟨cs, rfl, hsz⟩ := okWide_struct Tryd.underlying44 hv
  obtain ⟨fuel, hf⟩ := h
  obtain ⟨ys, n, rfl, _, hl, hys, hi⟩ := DataW.trod_struct Tryd.underlying44 hf
  rw [cells44] at hsz
  have h0 := hi 0 _ rfl
  have h1 := hi 1 _ rfl
  have h2 := hi 2 _ rfl
  have h3 := hi 3 _ rfl
  have h4 := hi 4 _ rfl
  match ys, hys with
  | [y0, y1, y2, y3, y4], _ =>
    obtain ⟨l, hcs⟩ : ∃ l, cs = l := ⟨cs, rfl⟩
    have hl15 : cs.toList.length = 15 := by simpa using hsz
    match hcl : cs.toList, hl15 with
    | [c0, c1, c2, c3, c4, c5, c6, c7, c8, c9, c10, c11, c12, c13, c14], _ =>
      simp only [Value.cells, hcl] at h0 h1 h2 h3 h4
      obtain ⟨op, e0, _, _⟩ := DataW.trod_int (x := y0) Tryd.underlying3 (by simpa [cells3] using h0)
      obtain ⟨m, e1, _, o1⟩ := trod_mac (x := y1) (by simpa [cells41] using h1)
      obtain ⟨ii, e2, _, w2⟩ := DataW.trod_int (x := y2) Tryd.underlying42 (by simpa [cells42] using h2)
      obtain ⟨t, e3, _, o3⟩ := trod_mac (x := y3) (by simpa [cells41] using h3)
      obtain ⟨tt, e4, _, w4⟩ := DataW.trod_int (x := y4) Tryd.underlying42 (by simpa [cells42] using h4)
      have hw2 := wf_u32 w2
      have hw4 := wf_u32 w4
      refine ⟨op, m, ii.toNat, t, tt.toNat, ?_, o1, by omega, o3, by omega⟩
      have hk : ((ii.toNat : Nat) : Int) = ii := by omega
      have hk2 : ((tt.toNat : Nat) : Int) = tt := by omega
      refine congrArg Value.agg (Array.ext' ?_)
      rw [hcl]
      have e0' : [c0] = [Value.int .i64 op] := e0
      have e1' : [c1, c2, c3, c4, c5, c6] = (mac m).toList := e1
      have e2' : [c7] = [Value.int .u32 ii] := e2
      have e3' : [c8, c9, c10, c11, c12, c13] = (mac t).toList := e3
      have e4' : [c14] = [Value.int .u32 tt] := e4
      show [c0] ++ [c1, c2, c3, c4, c5, c6] ++ [c7] ++ [c8, c9, c10, c11, c12, c13] ++ [c14] = _
      rw [e0', e1', e2', e3', e4']
      simp only [pkt, hk, hk2]
      rfl
end
end Go.Proofs.YtfhhmehlkjaibaaDoor
namespace Go.Proofs.YtfhhmehlkjaibaaDoor
open Go.RowKit Go.Proofs.YtfhhmehlkjaibaaDoorW.PrintWords

theorem RdI.toC {w : World} {k : IntKind} {A : Option Addr} {xs : List Int} (h : RdI w k A xs) : Kd.C (Kd.int k) w A xs.length xs := by
  refine ⟨rfl, h.1, fun hn => ?_⟩
  rcases h.2 with h0 | ⟨b, o, rfl, hc⟩
  · omega
  · refine ⟨⟨b, o, none⟩, rfl, fun j p hp => ⟨[.int k p], rfl, rfl, fun i u hu => ?_⟩⟩
    have hj : j < xs.length := (List.getElem?_eq_some_iff.1 hp).1
    have hp2 : xs.getD j 0 = p := by simp [List.getD, hp]
    cases i with
    | zero =>
      have hu2 : u = .int k p := by simpa using hu.symm
      have e1 : (⟨b, o, none⟩ : Addr).add (j * 1 + 0) = ⟨b, o + j, none⟩ := by unfold Addr.add; split <;> simp_all
      have e2 : (Kd.int k).sz = 1 := rfl
      rw [e2, e1, hc j hj, hp2, hu2]
    | succ i => simp at hu
set_option maxRecDepth 100000 in
set_option maxHeartbeats 4000000 in
/-- No error, no fault. -/
theorem is_nil (u : Value) (w : World) : Calls Tryd.prog 20 #[.nilIface, .agg #[u, .int .i64 0]] w fun ev w' => ev = .returned (.bool true) ∧ Kp (fun _ => False) w w' := by
  have HK := Lib.hid ((Kp.refl (fun _ => False) w).alloc (.cells #[u, .int .i64 0] 28))
  have c1 : _ = some (Value.int .i64 0) := (Bk.new w 28 #[u, .int .i64 0]).cell 1
  go_enter Tryd.func20, Tryd.ntmps20
  go_wp2_with fail
  go_ret
  exact ⟨rfl, HK.out⟩
set_option maxRecDepth 100000 in
set_option maxHeartbeats 4000000 in
/-- An error and its fault. -/
theorem is_chain (r e : Int) (v : Value) (A : Option Addr) (c : Nat) (w : World) (hE : Et w) (hc : Chain w e [r] v) (he : e ≠ 0) (hr : RdI w .i64 A [r]) (hcu : 1 ≤ c) :
    Calls Tryd.prog 20 #[v, .agg #[.slice A 1 c, .int .i64 e]] w fun ev w' => ev = .returned (.bool true) ∧ Kp (fun _ => False) w w' := by
  have hb := Bk.new w 28 #[.slice A 1 c, .int .i64 e]
  have kA := (Kp.refl (fun _ => False) w).alloc (.cells #[.slice A 1 c, .int .i64 e] 28)
  have hv := hc.form
  rcases hv with ⟨x, rfl⟩ | ⟨x, rfl⟩
  · exact absurd hc (by rintro ⟨g, v', h, _⟩; cases h)
  have HE := Lib.hid (hE.kept kA (fun x => x))
  have HC := Lib.hid (hc.none_kept kA)
  have HR := Lib.hid (hr.kp kA (fun _ _ _ x => x))
  have HB := Lib.hid hb
  have HK := Lib.hid kA
  have c0 : _ = some (Value.slice A 1 c) := hb.cell 0
  have c1 : _ = some (Value.int .i64 e) := hb.cell 1
  have heb : (e == 0) = false := by simp [he]
  have hen : (e != 0) = true := by simp [he]
  clear hE hc hr hb kA he
  go_enter Tryd.func20, Tryd.ntmps20
  go_wp2_with fail
  generalize w.alloc (.cells #[.slice A 1 c, .int .i64 e] 28) = w0 at *
  have KC := Lib.hid ((Kp.refl (fun _ => False) w0).drew)
  have hfr : ∀ w', Kp (fun _ => False) w0 w' → Calls Tryd.prog 15 #[.agg #[.slice A 1 c, .int .i64 e]] w' fun ev w'' => ev = .returned (.int .i64 (reasonOf [r] e)) ∧ Kp (fun _ => False) w' w'' := fun w' hk => freason_any A c [r] e w' (HR.out.kp hk (fun _ _ _ x => x)).toC hcu
  have HFR := Lib.hid hfr
  clear hfr
  go_region_held3 (fun w' => Kp (fun _ => False) w0 w' ∧ w'.cell? ⟨w.heap.size, 0, none⟩ = some (.slice A 1 c) ∧ w'.cell? ⟨w.heap.size, 1, none⟩ = some (.int .i64 e))
    (first | exact ⟨KC.out, (KC.out.cell (p := ⟨w.heap.size, 0, none⟩) HB.out.lt (fun x => x)).trans (HB.out.cell 0), (KC.out.cell (p := ⟨w.heap.size, 1, none⟩) HB.out.lt (fun x => x)).trans (HB.out.cell 1)⟩ | fail)
    (first
      | (go_at_call 10; with_reducible refine (errno_any [r] e _ _ (HE.out.kept KC.out (fun x => x)) (HC.out.none_kept KC.out)).mono ?_; rintro ev w9 ⟨rfl, k9⟩; have KC := Lib.hid (KC.out.trans' k9); clear k9)
      | (go_at_call 14; with_reducible refine (wreason_any [r] e _ _ (HE.out.kept KC.out (fun x => x)) (HC.out.none_kept KC.out)).mono ?_; rintro ev w9 ⟨rfl, k9⟩; have KC := Lib.hid (KC.out.trans' k9); clear k9)
      | (go_at_call 15; with_reducible refine (HFR.out _ KC.out).mono ?_; rintro ev w9 ⟨rfl, k9⟩; have KC := Lib.hid (KC.out.trans' k9); clear k9)
      | fail)
  all_goals
    go_wp2_with fail
    go_ret
    exact ⟨by simp [reasonOf], HK.out.trans' KC.out⟩
end Go.Proofs.YtfhhmehlkjaibaaDoor
