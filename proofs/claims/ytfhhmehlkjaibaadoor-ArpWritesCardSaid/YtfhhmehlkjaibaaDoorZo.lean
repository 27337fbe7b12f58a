/- Arp: the walk of ArpTells. -/
import Derived.Test.YtfhhmehlkjaibaaDoorZn
set_option linter.unusedVariables false
set_option linter.unusedSimpArgs false
namespace Go.Proofs.YtfhhmehlkjaibaaDoor
open Go.RowKit

theorem macEq_refl (m : Nat → Int) : macEq m m = true := (macEq_iff m m).2 (fun _ _ => rfl)
theorem run_eql_mac_refl (w : World) (m : Nat → Int) : (binOp .eql 41 (.agg #[.int .u8 (m 0), .int .u8 (m 1), .int .u8 (m 2), .int .u8 (m 3), .int .u8 (m 4), .int .u8 (m 5)]) (.agg #[.int .u8 (m 0), .int .u8 (m 1), .int .u8 (m 2), .int .u8 (m 3), .int .u8 (m 4), .int .u8 (m 5)])).run Tryd.prog w = .ok (.bool true) w := by
  have h := run_eql_mac w m m
  rw [macEq_refl] at h
  exact h
set_option maxRecDepth 1000000 in
set_option maxHeartbeats 20000000 in
theorem tells_walk (op : Int) (m t : Nat → Int) (ip tip : Nat) (ma mb : Nat → Int) (w : World) (hE : Et w) :
    Calls Tryd.prog 6 #[.agg (pkt op m ip t tip), .agg (mac ma), .agg (mac mb)] w fun ev w' => ev = .returned (.bool true) ∧ Kp (fun _ => False) w w' := by
  have hs1 : (w.alloc (.cells #[.int .i64 op, .int .u8 (m 0), .int .u8 (m 1), .int .u8 (m 2), .int .u8 (m 3), .int .u8 (m 4), .int .u8 (m 5), .int .u32 ip, .int .u8 (t 0), .int .u8 (t 1), .int .u8 (t 2), .int .u8 (t 3), .int .u8 (t 4), .int .u8 (t 5), .int .u32 tip] 44)).heap.size = w.heap.size + 1 := by simp
  have hs2 : ((w.alloc (.cells #[.int .i64 op, .int .u8 (m 0), .int .u8 (m 1), .int .u8 (m 2), .int .u8 (m 3), .int .u8 (m 4), .int .u8 (m 5), .int .u32 ip, .int .u8 (t 0), .int .u8 (t 1), .int .u8 (t 2), .int .u8 (t 3), .int .u8 (t 4), .int .u8 (t 5), .int .u32 tip] 44)).alloc (.cells #[.int .u8 (ma 0), .int .u8 (ma 1), .int .u8 (ma 2), .int .u8 (ma 3), .int .u8 (ma 4), .int .u8 (ma 5)] 41)).heap.size = w.heap.size + 2 := by simp
  have K := Lib.hid ((((Kp.refl (fun _ => False) w).alloc (.cells #[.int .i64 op, .int .u8 (m 0), .int .u8 (m 1), .int .u8 (m 2), .int .u8 (m 3), .int .u8 (m 4), .int .u8 (m 5), .int .u32 ip, .int .u8 (t 0), .int .u8 (t 1), .int .u8 (t 2), .int .u8 (t 3), .int .u8 (t 4), .int .u8 (t 5), .int .u32 tip] 44)).alloc (.cells #[.int .u8 (ma 0), .int .u8 (ma 1), .int .u8 (ma 2), .int .u8 (ma 3), .int .u8 (ma 4), .int .u8 (ma 5)] 41)).alloc (.cells #[.int .u8 (mb 0), .int .u8 (mb 1), .int .u8 (mb 2), .int .u8 (mb 3), .int .u8 (mb 4), .int .u8 (mb 5)] 41))
  have B0 := Lib.hid (((Bk.new w 44 #[.int .i64 op, .int .u8 (m 0), .int .u8 (m 1), .int .u8 (m 2), .int .u8 (m 3), .int .u8 (m 4), .int .u8 (m 5), .int .u32 ip, .int .u8 (t 0), .int .u8 (t 1), .int .u8 (t 2), .int .u8 (t 3), .int .u8 (t 4), .int .u8 (t 5), .int .u32 tip]).alloc (.cells #[.int .u8 (ma 0), .int .u8 (ma 1), .int .u8 (ma 2), .int .u8 (ma 3), .int .u8 (ma 4), .int .u8 (ma 5)] 41)).alloc (.cells #[.int .u8 (mb 0), .int .u8 (mb 1), .int .u8 (mb 2), .int .u8 (mb 3), .int .u8 (mb 4), .int .u8 (mb 5)] 41))
  have ba := (Bk.new (w.alloc (.cells #[.int .i64 op, .int .u8 (m 0), .int .u8 (m 1), .int .u8 (m 2), .int .u8 (m 3), .int .u8 (m 4), .int .u8 (m 5), .int .u32 ip, .int .u8 (t 0), .int .u8 (t 1), .int .u8 (t 2), .int .u8 (t 3), .int .u8 (t 4), .int .u8 (t 5), .int .u32 tip] 44)) 41 #[.int .u8 (ma 0), .int .u8 (ma 1), .int .u8 (ma 2), .int .u8 (ma 3), .int .u8 (ma 4), .int .u8 (ma 5)]).alloc (.cells #[.int .u8 (mb 0), .int .u8 (mb 1), .int .u8 (mb 2), .int .u8 (mb 3), .int .u8 (mb 4), .int .u8 (mb 5)] 41)
  rw [hs1] at ba
  have bb := Bk.new ((w.alloc (.cells #[.int .i64 op, .int .u8 (m 0), .int .u8 (m 1), .int .u8 (m 2), .int .u8 (m 3), .int .u8 (m 4), .int .u8 (m 5), .int .u32 ip, .int .u8 (t 0), .int .u8 (t 1), .int .u8 (t 2), .int .u8 (t 3), .int .u8 (t 4), .int .u8 (t 5), .int .u32 tip] 44)).alloc (.cells #[.int .u8 (ma 0), .int .u8 (ma 1), .int .u8 (ma 2), .int .u8 (ma 3), .int .u8 (ma 4), .int .u8 (ma 5)] 41)) 41 #[.int .u8 (mb 0), .int .u8 (mb 1), .int .u8 (mb 2), .int .u8 (mb 3), .int .u8 (mb 4), .int .u8 (mb 5)]
  rw [hs2] at bb
  have BA := Lib.hid ba
  have BB := Lib.hid bb
  have E := Lib.hid (hE.kept K.out (fun x => x))
  clear hs1 hs2 ba bb hE
  have ht1 : ∀ w', Calls Tryd.prog 27 #[.agg #[.int .i64 op, .int .u8 (m 0), .int .u8 (m 1), .int .u8 (m 2), .int .u8 (m 3), .int .u8 (m 4), .int .u8 (m 5), .int .u32 ip, .int .u8 (t 0), .int .u8 (t 1), .int .u8 (t 2), .int .u8 (t 3), .int .u8 (t 4), .int .u8 (t 5), .int .u32 tip], .agg #[.int .u8 (ma 0), .int .u8 (ma 1), .int .u8 (ma 2), .int .u8 (ma 3), .int .u8 (ma 4), .int .u8 (ma 5)]] w' fun ev w'' => ev = .returned (.agg #[.int .i64 2, .int .u8 (ma 0), .int .u8 (ma 1), .int .u8 (ma 2), .int .u8 (ma 3), .int .u8 (ma 4), .int .u8 (ma 5), .int .u32 tip, .int .u8 (m 0), .int .u8 (m 1), .int .u8 (m 2), .int .u8 (m 3), .int .u8 (m 4), .int .u8 (m 5), .int .u32 ip]) ∧ Kp (fun _ => False) w' w'' := fun w' => tell_any op m t ip tip ma w'
  have ht2 : ∀ w', Calls Tryd.prog 27 #[.agg #[.int .i64 2, .int .u8 (ma 0), .int .u8 (ma 1), .int .u8 (ma 2), .int .u8 (ma 3), .int .u8 (ma 4), .int .u8 (ma 5), .int .u32 tip, .int .u8 (m 0), .int .u8 (m 1), .int .u8 (m 2), .int .u8 (m 3), .int .u8 (m 4), .int .u8 (m 5), .int .u32 ip], .agg #[.int .u8 (mb 0), .int .u8 (mb 1), .int .u8 (mb 2), .int .u8 (mb 3), .int .u8 (mb 4), .int .u8 (mb 5)]] w' fun ev w'' => ev = .returned (.agg #[.int .i64 2, .int .u8 (mb 0), .int .u8 (mb 1), .int .u8 (mb 2), .int .u8 (mb 3), .int .u8 (mb 4), .int .u8 (mb 5), .int .u32 ip, .int .u8 (ma 0), .int .u8 (ma 1), .int .u8 (ma 2), .int .u8 (ma 3), .int .u8 (ma 4), .int .u8 (ma 5), .int .u32 tip]) ∧ Kp (fun _ => False) w' w'' := fun w' => tell_any 2 ma m tip ip mb w'
  have ha : ∀ w', Calls Tryd.prog 25 #[.agg #[.int .u8 (ma 0), .int .u8 (ma 1), .int .u8 (ma 2), .int .u8 (ma 3), .int .u8 (ma 4), .int .u8 (ma 5)], .int .u32 ip, .int .u32 tip] w' fun ev w'' => ev = .returned (.agg #[.int .i64 1, .int .u8 (ma 0), .int .u8 (ma 1), .int .u8 (ma 2), .int .u8 (ma 3), .int .u8 (ma 4), .int .u8 (ma 5), .int .u32 ip, .int .u8 0, .int .u8 0, .int .u8 0, .int .u8 0, .int .u8 0, .int .u8 0, .int .u32 tip]) ∧ Kp (fun _ => False) w' w'' := fun w' => ask_any ma ip tip w'
  have HT1 := Lib.hid ht1
  have HT2 := Lib.hid ht2
  have HAK := Lib.hid ha
  clear ht1 ht2 ha
  go_enter Tryd.func6, Tryd.ntmps6
  go_wp2_with fail
  refine (alive06 _ E.out).mono ?_
  rintro ev w1 ⟨rfl, k1⟩
  have K := Lib.hid (K.out.trans' k1)
  have E := Lib.hid (E.out.kept k1 (fun f => f))
  have B0 := Lib.hid (B0.out.kept k1 (fun f => f))
  have BA := Lib.hid (BA.out.kept k1 (fun f => f))
  have BB := Lib.hid (BB.out.kept k1 (fun f => f))
  clear k1
  have p0 : World.cell? w1 ⟨w.heap.size, 0, none⟩ = some (Value.int .i64 op) := B0.out.cell 0
  have p1 : World.cell? w1 ⟨w.heap.size, 1, none⟩ = some (Value.int .u8 (m 0)) := B0.out.cell 1
  have p2 : World.cell? w1 ⟨w.heap.size, 2, none⟩ = some (Value.int .u8 (m 1)) := B0.out.cell 2
  have p3 : World.cell? w1 ⟨w.heap.size, 3, none⟩ = some (Value.int .u8 (m 2)) := B0.out.cell 3
  have p4 : World.cell? w1 ⟨w.heap.size, 4, none⟩ = some (Value.int .u8 (m 3)) := B0.out.cell 4
  have p5 : World.cell? w1 ⟨w.heap.size, 5, none⟩ = some (Value.int .u8 (m 4)) := B0.out.cell 5
  have p6 : World.cell? w1 ⟨w.heap.size, 6, none⟩ = some (Value.int .u8 (m 5)) := B0.out.cell 6
  have p7 : World.cell? w1 ⟨w.heap.size, 7, none⟩ = some (Value.int .u32 ip) := B0.out.cell 7
  have p8 : World.cell? w1 ⟨w.heap.size, 8, none⟩ = some (Value.int .u8 (t 0)) := B0.out.cell 8
  have p9 : World.cell? w1 ⟨w.heap.size, 9, none⟩ = some (Value.int .u8 (t 1)) := B0.out.cell 9
  have p10 : World.cell? w1 ⟨w.heap.size, 10, none⟩ = some (Value.int .u8 (t 2)) := B0.out.cell 10
  have p11 : World.cell? w1 ⟨w.heap.size, 11, none⟩ = some (Value.int .u8 (t 3)) := B0.out.cell 11
  have p12 : World.cell? w1 ⟨w.heap.size, 12, none⟩ = some (Value.int .u8 (t 4)) := B0.out.cell 12
  have p13 : World.cell? w1 ⟨w.heap.size, 13, none⟩ = some (Value.int .u8 (t 5)) := B0.out.cell 13
  have p14 : World.cell? w1 ⟨w.heap.size, 14, none⟩ = some (Value.int .u32 tip) := B0.out.cell 14
  have a0 : World.cell? w1 ⟨w.heap.size + 1, 0, none⟩ = some (Value.int .u8 (ma 0)) := BA.out.cell 0
  have a1 : World.cell? w1 ⟨w.heap.size + 1, 1, none⟩ = some (Value.int .u8 (ma 1)) := BA.out.cell 1
  have a2 : World.cell? w1 ⟨w.heap.size + 1, 2, none⟩ = some (Value.int .u8 (ma 2)) := BA.out.cell 2
  have a3 : World.cell? w1 ⟨w.heap.size + 1, 3, none⟩ = some (Value.int .u8 (ma 3)) := BA.out.cell 3
  have a4 : World.cell? w1 ⟨w.heap.size + 1, 4, none⟩ = some (Value.int .u8 (ma 4)) := BA.out.cell 4
  have a5 : World.cell? w1 ⟨w.heap.size + 1, 5, none⟩ = some (Value.int .u8 (ma 5)) := BA.out.cell 5
  go_wp2_with fail
  refine (HT1.out _).mono ?_
  rintro ev w2 ⟨rfl, k2⟩
  have kA := k2.alloc (.cells #[.int .i64 2, .int .u8 (ma 0), .int .u8 (ma 1), .int .u8 (ma 2), .int .u8 (ma 3), .int .u8 (ma 4), .int .u8 (ma 5), .int .u32 tip, .int .u8 (m 0), .int .u8 (m 1), .int .u8 (m 2), .int .u8 (m 3), .int .u8 (m 4), .int .u8 (m 5), .int .u32 ip] 44)
  have K := Lib.hid (K.out.trans' kA)
  have E := Lib.hid (E.out.kept kA (fun f => f))
  have B0 := Lib.hid (B0.out.kept kA (fun f => f))
  have BA := Lib.hid (BA.out.kept kA (fun f => f))
  have BB := Lib.hid (BB.out.kept kA (fun f => f))
  clear p0 p1 p2 p3 p4 p5 p6 p7 p8 p9 p10 p11 p12 p13 p14
  clear a0 a1 a2 a3 a4 a5
  have B7 := Lib.hid (Bk.new w2 44 #[.int .i64 2, .int .u8 (ma 0), .int .u8 (ma 1), .int .u8 (ma 2), .int .u8 (ma 3), .int .u8 (ma 4), .int .u8 (ma 5), .int .u32 tip, .int .u8 (m 0), .int .u8 (m 1), .int .u8 (m 2), .int .u8 (m 3), .int .u8 (m 4), .int .u8 (m 5), .int .u32 ip])
  clear kA k2
  have b0 : World.cell? (w2.alloc (.cells #[.int .i64 2, .int .u8 (ma 0), .int .u8 (ma 1), .int .u8 (ma 2), .int .u8 (ma 3), .int .u8 (ma 4), .int .u8 (ma 5), .int .u32 tip, .int .u8 (m 0), .int .u8 (m 1), .int .u8 (m 2), .int .u8 (m 3), .int .u8 (m 4), .int .u8 (m 5), .int .u32 ip] 44)) ⟨w.heap.size + 2, 0, none⟩ = some (Value.int .u8 (mb 0)) := BB.out.cell 0
  have b1 : World.cell? (w2.alloc (.cells #[.int .i64 2, .int .u8 (ma 0), .int .u8 (ma 1), .int .u8 (ma 2), .int .u8 (ma 3), .int .u8 (ma 4), .int .u8 (ma 5), .int .u32 tip, .int .u8 (m 0), .int .u8 (m 1), .int .u8 (m 2), .int .u8 (m 3), .int .u8 (m 4), .int .u8 (m 5), .int .u32 ip] 44)) ⟨w.heap.size + 2, 1, none⟩ = some (Value.int .u8 (mb 1)) := BB.out.cell 1
  have b2 : World.cell? (w2.alloc (.cells #[.int .i64 2, .int .u8 (ma 0), .int .u8 (ma 1), .int .u8 (ma 2), .int .u8 (ma 3), .int .u8 (ma 4), .int .u8 (ma 5), .int .u32 tip, .int .u8 (m 0), .int .u8 (m 1), .int .u8 (m 2), .int .u8 (m 3), .int .u8 (m 4), .int .u8 (m 5), .int .u32 ip] 44)) ⟨w.heap.size + 2, 2, none⟩ = some (Value.int .u8 (mb 2)) := BB.out.cell 2
  have b3 : World.cell? (w2.alloc (.cells #[.int .i64 2, .int .u8 (ma 0), .int .u8 (ma 1), .int .u8 (ma 2), .int .u8 (ma 3), .int .u8 (ma 4), .int .u8 (ma 5), .int .u32 tip, .int .u8 (m 0), .int .u8 (m 1), .int .u8 (m 2), .int .u8 (m 3), .int .u8 (m 4), .int .u8 (m 5), .int .u32 ip] 44)) ⟨w.heap.size + 2, 3, none⟩ = some (Value.int .u8 (mb 3)) := BB.out.cell 3
  have b4 : World.cell? (w2.alloc (.cells #[.int .i64 2, .int .u8 (ma 0), .int .u8 (ma 1), .int .u8 (ma 2), .int .u8 (ma 3), .int .u8 (ma 4), .int .u8 (ma 5), .int .u32 tip, .int .u8 (m 0), .int .u8 (m 1), .int .u8 (m 2), .int .u8 (m 3), .int .u8 (m 4), .int .u8 (m 5), .int .u32 ip] 44)) ⟨w.heap.size + 2, 4, none⟩ = some (Value.int .u8 (mb 4)) := BB.out.cell 4
  have b5 : World.cell? (w2.alloc (.cells #[.int .i64 2, .int .u8 (ma 0), .int .u8 (ma 1), .int .u8 (ma 2), .int .u8 (ma 3), .int .u8 (ma 4), .int .u8 (ma 5), .int .u32 tip, .int .u8 (m 0), .int .u8 (m 1), .int .u8 (m 2), .int .u8 (m 3), .int .u8 (m 4), .int .u8 (m 5), .int .u32 ip] 44)) ⟨w.heap.size + 2, 5, none⟩ = some (Value.int .u8 (mb 5)) := BB.out.cell 5
  go_wp2_with fail
  refine (HT2.out _).mono ?_
  rintro ev w3 ⟨rfl, k3⟩
  have kA := k3.alloc (.cells #[.int .i64 2, .int .u8 (mb 0), .int .u8 (mb 1), .int .u8 (mb 2), .int .u8 (mb 3), .int .u8 (mb 4), .int .u8 (mb 5), .int .u32 ip, .int .u8 (ma 0), .int .u8 (ma 1), .int .u8 (ma 2), .int .u8 (ma 3), .int .u8 (ma 4), .int .u8 (ma 5), .int .u32 tip] 44)
  have K := Lib.hid (K.out.trans' kA)
  have E := Lib.hid (E.out.kept kA (fun f => f))
  have B0 := Lib.hid (B0.out.kept kA (fun f => f))
  have BA := Lib.hid (BA.out.kept kA (fun f => f))
  have BB := Lib.hid (BB.out.kept kA (fun f => f))
  have B7 := Lib.hid (B7.out.kept kA (fun f => f))
  clear b0 b1 b2 b3 b4 b5
  have B8 := Lib.hid (Bk.new w3 44 #[.int .i64 2, .int .u8 (mb 0), .int .u8 (mb 1), .int .u8 (mb 2), .int .u8 (mb 3), .int .u8 (mb 4), .int .u8 (mb 5), .int .u32 ip, .int .u8 (ma 0), .int .u8 (ma 1), .int .u8 (ma 2), .int .u8 (ma 3), .int .u8 (ma 4), .int .u8 (ma 5), .int .u32 tip])
  clear kA k3
  have p1 : World.cell? (w3.alloc (.cells #[.int .i64 2, .int .u8 (mb 0), .int .u8 (mb 1), .int .u8 (mb 2), .int .u8 (mb 3), .int .u8 (mb 4), .int .u8 (mb 5), .int .u32 ip, .int .u8 (ma 0), .int .u8 (ma 1), .int .u8 (ma 2), .int .u8 (ma 3), .int .u8 (ma 4), .int .u8 (ma 5), .int .u32 tip] 44)) ⟨w.heap.size, 1, none⟩ = some (Value.int .u8 (m 0)) := B0.out.cell 1
  have p2 : World.cell? (w3.alloc (.cells #[.int .i64 2, .int .u8 (mb 0), .int .u8 (mb 1), .int .u8 (mb 2), .int .u8 (mb 3), .int .u8 (mb 4), .int .u8 (mb 5), .int .u32 ip, .int .u8 (ma 0), .int .u8 (ma 1), .int .u8 (ma 2), .int .u8 (ma 3), .int .u8 (ma 4), .int .u8 (ma 5), .int .u32 tip] 44)) ⟨w.heap.size, 2, none⟩ = some (Value.int .u8 (m 1)) := B0.out.cell 2
  have p3 : World.cell? (w3.alloc (.cells #[.int .i64 2, .int .u8 (mb 0), .int .u8 (mb 1), .int .u8 (mb 2), .int .u8 (mb 3), .int .u8 (mb 4), .int .u8 (mb 5), .int .u32 ip, .int .u8 (ma 0), .int .u8 (ma 1), .int .u8 (ma 2), .int .u8 (ma 3), .int .u8 (ma 4), .int .u8 (ma 5), .int .u32 tip] 44)) ⟨w.heap.size, 3, none⟩ = some (Value.int .u8 (m 2)) := B0.out.cell 3
  have p4 : World.cell? (w3.alloc (.cells #[.int .i64 2, .int .u8 (mb 0), .int .u8 (mb 1), .int .u8 (mb 2), .int .u8 (mb 3), .int .u8 (mb 4), .int .u8 (mb 5), .int .u32 ip, .int .u8 (ma 0), .int .u8 (ma 1), .int .u8 (ma 2), .int .u8 (ma 3), .int .u8 (ma 4), .int .u8 (ma 5), .int .u32 tip] 44)) ⟨w.heap.size, 4, none⟩ = some (Value.int .u8 (m 3)) := B0.out.cell 4
  have p5 : World.cell? (w3.alloc (.cells #[.int .i64 2, .int .u8 (mb 0), .int .u8 (mb 1), .int .u8 (mb 2), .int .u8 (mb 3), .int .u8 (mb 4), .int .u8 (mb 5), .int .u32 ip, .int .u8 (ma 0), .int .u8 (ma 1), .int .u8 (ma 2), .int .u8 (ma 3), .int .u8 (ma 4), .int .u8 (ma 5), .int .u32 tip] 44)) ⟨w.heap.size, 5, none⟩ = some (Value.int .u8 (m 4)) := B0.out.cell 5
  have p6 : World.cell? (w3.alloc (.cells #[.int .i64 2, .int .u8 (mb 0), .int .u8 (mb 1), .int .u8 (mb 2), .int .u8 (mb 3), .int .u8 (mb 4), .int .u8 (mb 5), .int .u32 ip, .int .u8 (ma 0), .int .u8 (ma 1), .int .u8 (ma 2), .int .u8 (ma 3), .int .u8 (ma 4), .int .u8 (ma 5), .int .u32 tip] 44)) ⟨w.heap.size, 6, none⟩ = some (Value.int .u8 (m 5)) := B0.out.cell 6
  have p7 : World.cell? (w3.alloc (.cells #[.int .i64 2, .int .u8 (mb 0), .int .u8 (mb 1), .int .u8 (mb 2), .int .u8 (mb 3), .int .u8 (mb 4), .int .u8 (mb 5), .int .u32 ip, .int .u8 (ma 0), .int .u8 (ma 1), .int .u8 (ma 2), .int .u8 (ma 3), .int .u8 (ma 4), .int .u8 (ma 5), .int .u32 tip] 44)) ⟨w.heap.size, 7, none⟩ = some (Value.int .u32 ip) := B0.out.cell 7
  have p14 : World.cell? (w3.alloc (.cells #[.int .i64 2, .int .u8 (mb 0), .int .u8 (mb 1), .int .u8 (mb 2), .int .u8 (mb 3), .int .u8 (mb 4), .int .u8 (mb 5), .int .u32 ip, .int .u8 (ma 0), .int .u8 (ma 1), .int .u8 (ma 2), .int .u8 (ma 3), .int .u8 (ma 4), .int .u8 (ma 5), .int .u32 tip] 44)) ⟨w.heap.size, 14, none⟩ = some (Value.int .u32 tip) := B0.out.cell 14
  have a0 : World.cell? (w3.alloc (.cells #[.int .i64 2, .int .u8 (mb 0), .int .u8 (mb 1), .int .u8 (mb 2), .int .u8 (mb 3), .int .u8 (mb 4), .int .u8 (mb 5), .int .u32 ip, .int .u8 (ma 0), .int .u8 (ma 1), .int .u8 (ma 2), .int .u8 (ma 3), .int .u8 (ma 4), .int .u8 (ma 5), .int .u32 tip] 44)) ⟨w.heap.size + 1, 0, none⟩ = some (Value.int .u8 (ma 0)) := BA.out.cell 0
  have a1 : World.cell? (w3.alloc (.cells #[.int .i64 2, .int .u8 (mb 0), .int .u8 (mb 1), .int .u8 (mb 2), .int .u8 (mb 3), .int .u8 (mb 4), .int .u8 (mb 5), .int .u32 ip, .int .u8 (ma 0), .int .u8 (ma 1), .int .u8 (ma 2), .int .u8 (ma 3), .int .u8 (ma 4), .int .u8 (ma 5), .int .u32 tip] 44)) ⟨w.heap.size + 1, 1, none⟩ = some (Value.int .u8 (ma 1)) := BA.out.cell 1
  have a2 : World.cell? (w3.alloc (.cells #[.int .i64 2, .int .u8 (mb 0), .int .u8 (mb 1), .int .u8 (mb 2), .int .u8 (mb 3), .int .u8 (mb 4), .int .u8 (mb 5), .int .u32 ip, .int .u8 (ma 0), .int .u8 (ma 1), .int .u8 (ma 2), .int .u8 (ma 3), .int .u8 (ma 4), .int .u8 (ma 5), .int .u32 tip] 44)) ⟨w.heap.size + 1, 2, none⟩ = some (Value.int .u8 (ma 2)) := BA.out.cell 2
  have a3 : World.cell? (w3.alloc (.cells #[.int .i64 2, .int .u8 (mb 0), .int .u8 (mb 1), .int .u8 (mb 2), .int .u8 (mb 3), .int .u8 (mb 4), .int .u8 (mb 5), .int .u32 ip, .int .u8 (ma 0), .int .u8 (ma 1), .int .u8 (ma 2), .int .u8 (ma 3), .int .u8 (ma 4), .int .u8 (ma 5), .int .u32 tip] 44)) ⟨w.heap.size + 1, 3, none⟩ = some (Value.int .u8 (ma 3)) := BA.out.cell 3
  have a4 : World.cell? (w3.alloc (.cells #[.int .i64 2, .int .u8 (mb 0), .int .u8 (mb 1), .int .u8 (mb 2), .int .u8 (mb 3), .int .u8 (mb 4), .int .u8 (mb 5), .int .u32 ip, .int .u8 (ma 0), .int .u8 (ma 1), .int .u8 (ma 2), .int .u8 (ma 3), .int .u8 (ma 4), .int .u8 (ma 5), .int .u32 tip] 44)) ⟨w.heap.size + 1, 4, none⟩ = some (Value.int .u8 (ma 4)) := BA.out.cell 4
  have a5 : World.cell? (w3.alloc (.cells #[.int .i64 2, .int .u8 (mb 0), .int .u8 (mb 1), .int .u8 (mb 2), .int .u8 (mb 3), .int .u8 (mb 4), .int .u8 (mb 5), .int .u32 ip, .int .u8 (ma 0), .int .u8 (ma 1), .int .u8 (ma 2), .int .u8 (ma 3), .int .u8 (ma 4), .int .u8 (ma 5), .int .u32 tip] 44)) ⟨w.heap.size + 1, 5, none⟩ = some (Value.int .u8 (ma 5)) := BA.out.cell 5
  have x0 : World.cell? (w3.alloc (.cells #[.int .i64 2, .int .u8 (mb 0), .int .u8 (mb 1), .int .u8 (mb 2), .int .u8 (mb 3), .int .u8 (mb 4), .int .u8 (mb 5), .int .u32 ip, .int .u8 (ma 0), .int .u8 (ma 1), .int .u8 (ma 2), .int .u8 (ma 3), .int .u8 (ma 4), .int .u8 (ma 5), .int .u32 tip] 44)) ⟨w2.heap.size, 0, none⟩ = some (Value.int .i64 2) := B7.out.cell 0
  have x1 : World.cell? (w3.alloc (.cells #[.int .i64 2, .int .u8 (mb 0), .int .u8 (mb 1), .int .u8 (mb 2), .int .u8 (mb 3), .int .u8 (mb 4), .int .u8 (mb 5), .int .u32 ip, .int .u8 (ma 0), .int .u8 (ma 1), .int .u8 (ma 2), .int .u8 (ma 3), .int .u8 (ma 4), .int .u8 (ma 5), .int .u32 tip] 44)) ⟨w2.heap.size, 1, none⟩ = some (Value.int .u8 (ma 0)) := B7.out.cell 1
  have x2 : World.cell? (w3.alloc (.cells #[.int .i64 2, .int .u8 (mb 0), .int .u8 (mb 1), .int .u8 (mb 2), .int .u8 (mb 3), .int .u8 (mb 4), .int .u8 (mb 5), .int .u32 ip, .int .u8 (ma 0), .int .u8 (ma 1), .int .u8 (ma 2), .int .u8 (ma 3), .int .u8 (ma 4), .int .u8 (ma 5), .int .u32 tip] 44)) ⟨w2.heap.size, 2, none⟩ = some (Value.int .u8 (ma 1)) := B7.out.cell 2
  have x3 : World.cell? (w3.alloc (.cells #[.int .i64 2, .int .u8 (mb 0), .int .u8 (mb 1), .int .u8 (mb 2), .int .u8 (mb 3), .int .u8 (mb 4), .int .u8 (mb 5), .int .u32 ip, .int .u8 (ma 0), .int .u8 (ma 1), .int .u8 (ma 2), .int .u8 (ma 3), .int .u8 (ma 4), .int .u8 (ma 5), .int .u32 tip] 44)) ⟨w2.heap.size, 3, none⟩ = some (Value.int .u8 (ma 2)) := B7.out.cell 3
  have x4 : World.cell? (w3.alloc (.cells #[.int .i64 2, .int .u8 (mb 0), .int .u8 (mb 1), .int .u8 (mb 2), .int .u8 (mb 3), .int .u8 (mb 4), .int .u8 (mb 5), .int .u32 ip, .int .u8 (ma 0), .int .u8 (ma 1), .int .u8 (ma 2), .int .u8 (ma 3), .int .u8 (ma 4), .int .u8 (ma 5), .int .u32 tip] 44)) ⟨w2.heap.size, 4, none⟩ = some (Value.int .u8 (ma 3)) := B7.out.cell 4
  have x5 : World.cell? (w3.alloc (.cells #[.int .i64 2, .int .u8 (mb 0), .int .u8 (mb 1), .int .u8 (mb 2), .int .u8 (mb 3), .int .u8 (mb 4), .int .u8 (mb 5), .int .u32 ip, .int .u8 (ma 0), .int .u8 (ma 1), .int .u8 (ma 2), .int .u8 (ma 3), .int .u8 (ma 4), .int .u8 (ma 5), .int .u32 tip] 44)) ⟨w2.heap.size, 5, none⟩ = some (Value.int .u8 (ma 4)) := B7.out.cell 5
  have x6 : World.cell? (w3.alloc (.cells #[.int .i64 2, .int .u8 (mb 0), .int .u8 (mb 1), .int .u8 (mb 2), .int .u8 (mb 3), .int .u8 (mb 4), .int .u8 (mb 5), .int .u32 ip, .int .u8 (ma 0), .int .u8 (ma 1), .int .u8 (ma 2), .int .u8 (ma 3), .int .u8 (ma 4), .int .u8 (ma 5), .int .u32 tip] 44)) ⟨w2.heap.size, 6, none⟩ = some (Value.int .u8 (ma 5)) := B7.out.cell 6
  have x7 : World.cell? (w3.alloc (.cells #[.int .i64 2, .int .u8 (mb 0), .int .u8 (mb 1), .int .u8 (mb 2), .int .u8 (mb 3), .int .u8 (mb 4), .int .u8 (mb 5), .int .u32 ip, .int .u8 (ma 0), .int .u8 (ma 1), .int .u8 (ma 2), .int .u8 (ma 3), .int .u8 (ma 4), .int .u8 (ma 5), .int .u32 tip] 44)) ⟨w2.heap.size, 7, none⟩ = some (Value.int .u32 tip) := B7.out.cell 7
  have x8 : World.cell? (w3.alloc (.cells #[.int .i64 2, .int .u8 (mb 0), .int .u8 (mb 1), .int .u8 (mb 2), .int .u8 (mb 3), .int .u8 (mb 4), .int .u8 (mb 5), .int .u32 ip, .int .u8 (ma 0), .int .u8 (ma 1), .int .u8 (ma 2), .int .u8 (ma 3), .int .u8 (ma 4), .int .u8 (ma 5), .int .u32 tip] 44)) ⟨w2.heap.size, 8, none⟩ = some (Value.int .u8 (m 0)) := B7.out.cell 8
  have x9 : World.cell? (w3.alloc (.cells #[.int .i64 2, .int .u8 (mb 0), .int .u8 (mb 1), .int .u8 (mb 2), .int .u8 (mb 3), .int .u8 (mb 4), .int .u8 (mb 5), .int .u32 ip, .int .u8 (ma 0), .int .u8 (ma 1), .int .u8 (ma 2), .int .u8 (ma 3), .int .u8 (ma 4), .int .u8 (ma 5), .int .u32 tip] 44)) ⟨w2.heap.size, 9, none⟩ = some (Value.int .u8 (m 1)) := B7.out.cell 9
  have x10 : World.cell? (w3.alloc (.cells #[.int .i64 2, .int .u8 (mb 0), .int .u8 (mb 1), .int .u8 (mb 2), .int .u8 (mb 3), .int .u8 (mb 4), .int .u8 (mb 5), .int .u32 ip, .int .u8 (ma 0), .int .u8 (ma 1), .int .u8 (ma 2), .int .u8 (ma 3), .int .u8 (ma 4), .int .u8 (ma 5), .int .u32 tip] 44)) ⟨w2.heap.size, 10, none⟩ = some (Value.int .u8 (m 2)) := B7.out.cell 10
  have x11 : World.cell? (w3.alloc (.cells #[.int .i64 2, .int .u8 (mb 0), .int .u8 (mb 1), .int .u8 (mb 2), .int .u8 (mb 3), .int .u8 (mb 4), .int .u8 (mb 5), .int .u32 ip, .int .u8 (ma 0), .int .u8 (ma 1), .int .u8 (ma 2), .int .u8 (ma 3), .int .u8 (ma 4), .int .u8 (ma 5), .int .u32 tip] 44)) ⟨w2.heap.size, 11, none⟩ = some (Value.int .u8 (m 3)) := B7.out.cell 11
  have x12 : World.cell? (w3.alloc (.cells #[.int .i64 2, .int .u8 (mb 0), .int .u8 (mb 1), .int .u8 (mb 2), .int .u8 (mb 3), .int .u8 (mb 4), .int .u8 (mb 5), .int .u32 ip, .int .u8 (ma 0), .int .u8 (ma 1), .int .u8 (ma 2), .int .u8 (ma 3), .int .u8 (ma 4), .int .u8 (ma 5), .int .u32 tip] 44)) ⟨w2.heap.size, 12, none⟩ = some (Value.int .u8 (m 4)) := B7.out.cell 12
  have x13 : World.cell? (w3.alloc (.cells #[.int .i64 2, .int .u8 (mb 0), .int .u8 (mb 1), .int .u8 (mb 2), .int .u8 (mb 3), .int .u8 (mb 4), .int .u8 (mb 5), .int .u32 ip, .int .u8 (ma 0), .int .u8 (ma 1), .int .u8 (ma 2), .int .u8 (ma 3), .int .u8 (ma 4), .int .u8 (ma 5), .int .u32 tip] 44)) ⟨w2.heap.size, 13, none⟩ = some (Value.int .u8 (m 5)) := B7.out.cell 13
  have x14 : World.cell? (w3.alloc (.cells #[.int .i64 2, .int .u8 (mb 0), .int .u8 (mb 1), .int .u8 (mb 2), .int .u8 (mb 3), .int .u8 (mb 4), .int .u8 (mb 5), .int .u32 ip, .int .u8 (ma 0), .int .u8 (ma 1), .int .u8 (ma 2), .int .u8 (ma 3), .int .u8 (ma 4), .int .u8 (ma 5), .int .u32 tip] 44)) ⟨w2.heap.size, 14, none⟩ = some (Value.int .u32 ip) := B7.out.cell 14
  have hm1 : ∀ w, _ = _ := fun w => run_eql_mac_refl w m
  have hm2 : ∀ w, _ = _ := fun w => run_eql_mac_refl w ma
  go_wp2_with fail
  refine (HAK.out _).mono ?_
  rintro ev w4 ⟨rfl, k4⟩
  have K := Lib.hid (K.out.trans' k4)
  have E := Lib.hid (E.out.kept k4 (fun f => f))
  have B0 := Lib.hid (B0.out.kept k4 (fun f => f))
  have BA := Lib.hid (BA.out.kept k4 (fun f => f))
  have BB := Lib.hid (BB.out.kept k4 (fun f => f))
  have B7 := Lib.hid (B7.out.kept k4 (fun f => f))
  have hf : ∀ w, (Instr.field 44 (.agg #[.int .i64 1, .int .u8 (ma 0), .int .u8 (ma 1), .int .u8 (ma 2), .int .u8 (ma 3), .int .u8 (ma 4), .int .u8 (ma 5), .int .u32 ip, .int .u8 0, .int .u8 0, .int .u8 0, .int .u8 0, .int .u8 0, .int .u8 0, .int .u32 tip]) 3).run Tryd.prog w = .ok (.agg #[.int .u8 0, .int .u8 0, .int .u8 0, .int .u8 0, .int .u8 0, .int .u8 0]) w := fun w => by kernel_rfl
  have hz : ∀ w, (binOp .eql 41 (.agg #[.int .u8 0, .int .u8 0, .int .u8 0, .int .u8 0, .int .u8 0, .int .u8 0]) (.agg #[.int .u8 0, .int .u8 0, .int .u8 0, .int .u8 0, .int .u8 0, .int .u8 0])).run Tryd.prog w = .ok (.bool true) w := fun w => by kernel_rfl
  go_wp2_with fail
  go_ret
  exact ⟨rfl, K.out⟩
end Go.Proofs.YtfhhmehlkjaibaaDoor
