/- Arp: the walk of ArpWrites. -/
import Derived.Test.YtfhhmehlkjaibaaDoorZt
set_option linter.unusedVariables false
set_option linter.unusedSimpArgs false
namespace Go.Proofs.YtfhhmehlkjaibaaDoor
open Go.RowKit

/-- Parse of any bytes that are enough: a packet and an error, whatever they are. -/
theorem pany (b c n : Nat) (xs : List Int) (w : World) (hx : RdI w .u8 (some ⟨b, 0, none⟩) xs) (hb : Byt xs) (hn : xs.length = n) (h1 : 28 ≤ n) (h2 : n ≤ 100000) (hc : n ≤ c) :
    Calls Tryd.prog 18 #[.slice (some ⟨b, 0, none⟩) n c] w fun ev w' => ∃ (a : Int) (mm : Nat → Int) (ii : Nat) (tt : Nat → Int) (ti : Nat) (v : Value), ev = .returned (.tuple #[.agg #[.int .i64 a, .int .u8 (mm 0), .int .u8 (mm 1), .int .u8 (mm 2), .int .u8 (mm 3), .int .u8 (mm 4), .int .u8 (mm 5), .int .u32 ii, .int .u8 (tt 0), .int .u8 (tt 1), .int .u8 (tt 2), .int .u8 (tt 3), .int .u8 (tt 4), .int .u8 (tt 5), .int .u32 ti], v]) ∧ Kp (fun _ => False) w w' := by
  refine (parse_any b 0 c n xs w hx hb hn h1 h2 hc).mono ?_
  rintro ev w' (⟨_, ⟨v, rfl, c1⟩, k⟩ | ⟨_, _, ⟨v, rfl, c1⟩, k⟩ | ⟨g1, g2, rfl, k⟩)
  · exact ⟨0, fun _ => 0, 0, fun _ => 0, 0, v, rfl, k⟩
  · exact ⟨0, fun _ => 0, 0, fun _ => 0, 0, v, rfl, k⟩
  · exact ⟨n2 (nat xs) 6, fun i => nat xs (8 + i), n4 (nat xs) 14, fun i => nat xs (18 + i), n4 (nat xs) 24, .nilIface, rfl, k⟩
theorem podd (b c n : Nat) (xs : List Int) (w : World) (hx : RdI w .u8 (some ⟨b, 0, none⟩) xs) (hb : Byt xs) (hn : xs.length = n) (h1 : 28 ≤ n) (h2 : n ≤ 100000) (hc : n ≤ c) (he : badOf xs = false) (ho : (xs.getD 8 0 % 2 != 0) = true) :
    Calls Tryd.prog 18 #[.slice (some ⟨b, 0, none⟩) n c] w fun ev w' => ∃ v, ev = .returned (.tuple #[.agg #[.int .i64 0, .int .u8 0, .int .u8 0, .int .u8 0, .int .u8 0, .int .u8 0, .int .u8 0, .int .u32 0, .int .u8 0, .int .u8 0, .int .u8 0, .int .u8 0, .int .u8 0, .int .u8 0, .int .u32 0], v]) ∧ Chain w' 10 [1] v ∧ Kp (fun _ => False) w w' := by
  refine (parse_any b 0 c n xs w hx hb hn h1 h2 hc).mono ?_
  rintro ev w' (⟨g1, _⟩ | ⟨_, _, ⟨v, rfl, c1⟩, k⟩ | ⟨g1, g2, rfl, k⟩)
  · rw [he] at g1; cases g1
  · exact ⟨v, rfl, c1, k⟩
  · rw [ho] at g2; cases g2
theorem pok (b c n : Nat) (xs : List Int) (op : Int) (m t : Nat → Int) (ip tip : Nat) (w : World) (hx : RdI w .u8 (some ⟨b, 0, none⟩) xs) (hb : Byt xs) (hn : xs.length = n) (h1 : 28 ≤ n) (h2 : n ≤ 100000) (hc : n ≤ c) (he : badOf xs = false) (ho : (xs.getD 8 0 % 2 != 0) = false) (hp : pktOf (nat xs) = pkt op m ip t tip) :
    Calls Tryd.prog 18 #[.slice (some ⟨b, 0, none⟩) n c] w fun ev w' => ev = .returned (.tuple #[.agg #[.int .i64 op, .int .u8 (m 0), .int .u8 (m 1), .int .u8 (m 2), .int .u8 (m 3), .int .u8 (m 4), .int .u8 (m 5), .int .u32 ip, .int .u8 (t 0), .int .u8 (t 1), .int .u8 (t 2), .int .u8 (t 3), .int .u8 (t 4), .int .u8 (t 5), .int .u32 tip], .nilIface]) ∧ Kp (fun _ => False) w w' := by
  refine (parse_any b 0 c n xs w hx hb hn h1 h2 hc).mono ?_
  rintro ev w' (⟨g1, _⟩ | ⟨_, g2, _⟩ | ⟨g1, g2, rfl, k⟩)
  · rw [he] at g1; cases g1
  · rw [ho] at g2; cases g2
  · rw [hp]
    exact ⟨rfl, k⟩
theorem run_equalIn_mac40_refl (w : World) (m : Nat → Int) : (Op.equalIn 9999 40 (.agg #[.int .u8 (m 0), .int .u8 (m 1), .int .u8 (m 2), .int .u8 (m 3), .int .u8 (m 4), .int .u8 (m 5)]) (.agg #[.int .u8 (m 0), .int .u8 (m 1), .int .u8 (m 2), .int .u8 (m 3), .int .u8 (m 4), .int .u8 (m 5)])).run Tryd.prog w = .ok true w := by
  have h := run_equalIn_mac40 w 9997 m m
  rw [macEq_refl] at h
  exact h
theorem badOf_app (L x : List Int) (h : L.length = 28) : badOf (L ++ x) = badOf L := by
  have ht : (L ++ x).take 6 = L.take 6 := by rw [List.take_append_of_le_length (by omega)]
  unfold badOf n2
  rw [ht, nat_app L x h 6 (by omega), nat_app L x h (6 + 1) (by omega)]
theorem getD8_app (L x : List Int) (h : L.length = 28) : (L ++ x).getD 8 0 = L.getD 8 0 := by rw [List.getD_eq_getElem?_getD, List.getD_eq_getElem?_getD, List.getElem?_append_left (by omega)]
set_option maxRecDepth 1000000 in
set_option maxHeartbeats 40000000 in
theorem writes_walk (op : Int) (m t : Nat → Int) (ip tip : Nat) (ma : Nat → Int) (tg : Nat) (w : World) (hE : Et w) (hm : Oct m) (hi : ip < 4294967296) (ht : Oct t) (hj : tip < 4294967296) :
    Calls Tryd.prog 5 #[.agg (pkt op m ip t tip), .agg (mac ma), .int .u32 tg] w fun ev w' => ev = .returned (.bool true) ∧ Kp (fun _ => False) w w' := by
  have hs1 : (w.alloc (.cells #[.int .i64 op, .int .u8 (m 0), .int .u8 (m 1), .int .u8 (m 2), .int .u8 (m 3), .int .u8 (m 4), .int .u8 (m 5), .int .u32 ip, .int .u8 (t 0), .int .u8 (t 1), .int .u8 (t 2), .int .u8 (t 3), .int .u8 (t 4), .int .u8 (t 5), .int .u32 tip] 44)).heap.size = w.heap.size + 1 := by simp
  have K := Lib.hid (((Kp.refl (fun _ => False) w).alloc (.cells #[.int .i64 op, .int .u8 (m 0), .int .u8 (m 1), .int .u8 (m 2), .int .u8 (m 3), .int .u8 (m 4), .int .u8 (m 5), .int .u32 ip, .int .u8 (t 0), .int .u8 (t 1), .int .u8 (t 2), .int .u8 (t 3), .int .u8 (t 4), .int .u8 (t 5), .int .u32 tip] 44)).alloc (.cells #[.int .u8 (ma 0), .int .u8 (ma 1), .int .u8 (ma 2), .int .u8 (ma 3), .int .u8 (ma 4), .int .u8 (ma 5)] 41))
  have B0 := Lib.hid ((Bk.new w 44 #[.int .i64 op, .int .u8 (m 0), .int .u8 (m 1), .int .u8 (m 2), .int .u8 (m 3), .int .u8 (m 4), .int .u8 (m 5), .int .u32 ip, .int .u8 (t 0), .int .u8 (t 1), .int .u8 (t 2), .int .u8 (t 3), .int .u8 (t 4), .int .u8 (t 5), .int .u32 tip]).alloc (.cells #[.int .u8 (ma 0), .int .u8 (ma 1), .int .u8 (ma 2), .int .u8 (ma 3), .int .u8 (ma 4), .int .u8 (ma 5)] 41))
  have ba := Bk.new (w.alloc (.cells #[.int .i64 op, .int .u8 (m 0), .int .u8 (m 1), .int .u8 (m 2), .int .u8 (m 3), .int .u8 (m 4), .int .u8 (m 5), .int .u32 ip, .int .u8 (t 0), .int .u8 (t 1), .int .u8 (t 2), .int .u8 (t 3), .int .u8 (t 4), .int .u8 (t 5), .int .u32 tip] 44)) 41 #[.int .u8 (ma 0), .int .u8 (ma 1), .int .u8 (ma 2), .int .u8 (ma 3), .int .u8 (ma 4), .int .u8 (ma 5)]
  rw [hs1] at ba
  have BA := Lib.hid ba
  have E := Lib.hid (hE.kept K.out (fun x => x))
  clear hs1 ba hE
  have HBL := Lib.hid (byt_pbytes (op := op) hm ht hi hj)
  have HLL := Lib.hid (pbytes_len op m t ip tip)
  have hb : ∀ w', Calls Tryd.prog 23 #[.agg #[.int .i64 op, .int .u8 (m 0), .int .u8 (m 1), .int .u8 (m 2), .int .u8 (m 3), .int .u8 (m 4), .int .u8 (m 5), .int .u32 ip, .int .u8 (t 0), .int .u8 (t 1), .int .u8 (t 2), .int .u8 (t 3), .int .u8 (t 4), .int .u8 (t 5), .int .u32 tip]] w' fun ev w'' => ∃ s, ev = .returned s ∧ w''.ownsRow w'.heap.size 5 1 s 28 (intsK .u8 (pbytes op m ip t tip)) ∧ Kp (fun _ => False) w' w'' := fun w' => pbytes_any op m t ip tip w' hi hj
  have hrb : ∀ w', Calls Tryd.prog 24 #[.agg #[.int .i64 op, .int .u8 (m 0), .int .u8 (m 1), .int .u8 (m 2), .int .u8 (m 3), .int .u8 (m 4), .int .u8 (m 5), .int .u32 ip, .int .u8 (t 0), .int .u8 (t 1), .int .u8 (t 2), .int .u8 (t 3), .int .u8 (t 4), .int .u8 (t 5), .int .u32 tip]] w' fun ev w'' => ∃ s, ev = .returned s ∧ w''.ownsRow w'.heap.size 5 1 s 28 (intsK .u8 (pbytes op m ip t tip)) ∧ Kp (fun _ => False) w' w'' := fun w' => rbytes_any op m t ip tip w' hi hj
  have HBP := Lib.hid (fun h => @bad_pbytes op m t ip tip h)
  have HGP := Lib.hid (getD_pbytes op m t ip tip)
  have HPP := Lib.hid (fun h => @pktOf_pbytes op m t ip tip h hm ht hi hj)
  have HM0 := Lib.hid (hm 0)
  obtain ⟨L, hL⟩ : ∃ L, pbytes op m ip t tip = L := ⟨_, rfl⟩
  rw [hL] at HBL HLL HBP HGP HPP
  simp only [hL] at hb hrb
  have HB := Lib.hid hb
  have HRB := Lib.hid hrb
  clear hb hrb hL hm ht hi hj
  have hhof : ∀ w', Calls Tryd.prog 21 #[.agg #[.int .i64 op, .int .u8 (m 0), .int .u8 (m 1), .int .u8 (m 2), .int .u8 (m 3), .int .u8 (m 4), .int .u8 (m 5), .int .u32 ip, .int .u8 (t 0), .int .u8 (t 1), .int .u8 (t 2), .int .u8 (t 3), .int .u8 (t 4), .int .u8 (t 5), .int .u32 tip]] w' fun ev w'' => ev = .returned (.agg #[.int .i64 op, .int .u8 (m 0), .int .u8 (m 1), .int .u8 (m 2), .int .u8 (m 3), .int .u8 (m 4), .int .u8 (m 5), .int .u32 ip, .int .u8 (t 0), .int .u8 (t 1), .int .u8 (t 2), .int .u8 (t 3), .int .u8 (t 4), .int .u8 (t 5), .int .u32 tip]) ∧ Kp (fun _ => False) w' w'' := fun w' => of_pkt op m t ip tip w'
  have HOF := Lib.hid hhof
  clear hhof
  have hhoq : ∀ w', Calls Tryd.prog 21 #[.agg #[.int .i64 1, .int .u8 (ma 0), .int .u8 (ma 1), .int .u8 (ma 2), .int .u8 (ma 3), .int .u8 (ma 4), .int .u8 (ma 5), .int .u32 ip, .int .u8 0, .int .u8 0, .int .u8 0, .int .u8 0, .int .u8 0, .int .u8 0, .int .u32 tg]] w' fun ev w'' => ev = .returned (.agg #[.int .i64 1, .int .u8 (ma 0), .int .u8 (ma 1), .int .u8 (ma 2), .int .u8 (ma 3), .int .u8 (ma 4), .int .u8 (ma 5), .int .u32 ip, .int .u8 0, .int .u8 0, .int .u8 0, .int .u8 0, .int .u8 0, .int .u8 0, .int .u32 tg]) ∧ Kp (fun _ => False) w' w'' := fun w' => of_pkt 1 ma (fun _ => 0) ip tg w'
  have HOQ := Lib.hid hhoq
  clear hhoq
  have hhox : ∀ w', Calls Tryd.prog 21 #[.agg #[.int .i64 2, .int .u8 (ma 0), .int .u8 (ma 1), .int .u8 (ma 2), .int .u8 (ma 3), .int .u8 (ma 4), .int .u8 (ma 5), .int .u32 tip, .int .u8 (m 0), .int .u8 (m 1), .int .u8 (m 2), .int .u8 (m 3), .int .u8 (m 4), .int .u8 (m 5), .int .u32 ip]] w' fun ev w'' => ev = .returned (.agg #[.int .i64 2, .int .u8 (ma 0), .int .u8 (ma 1), .int .u8 (ma 2), .int .u8 (ma 3), .int .u8 (ma 4), .int .u8 (ma 5), .int .u32 tip, .int .u8 (m 0), .int .u8 (m 1), .int .u8 (m 2), .int .u8 (m 3), .int .u8 (m 4), .int .u8 (m 5), .int .u32 ip]) ∧ Kp (fun _ => False) w' w'' := fun w' => of_pkt 2 ma m tip ip w'
  have HOX := Lib.hid hhox
  clear hhox
  have hhas : ∀ w', Calls Tryd.prog 25 #[.agg #[.int .u8 (ma 0), .int .u8 (ma 1), .int .u8 (ma 2), .int .u8 (ma 3), .int .u8 (ma 4), .int .u8 (ma 5)], .int .u32 ip, .int .u32 tg] w' fun ev w'' => ev = .returned (.agg #[.int .i64 1, .int .u8 (ma 0), .int .u8 (ma 1), .int .u8 (ma 2), .int .u8 (ma 3), .int .u8 (ma 4), .int .u8 (ma 5), .int .u32 ip, .int .u8 0, .int .u8 0, .int .u8 0, .int .u8 0, .int .u8 0, .int .u8 0, .int .u32 tg]) ∧ Kp (fun _ => False) w' w'' := fun w' => ask_any ma ip tg w'
  have HAS := Lib.hid hhas
  clear hhas
  have hhra : ∀ w', Calls Tryd.prog 26 #[.agg #[.int .u8 (ma 0), .int .u8 (ma 1), .int .u8 (ma 2), .int .u8 (ma 3), .int .u8 (ma 4), .int .u8 (ma 5)], .int .u32 ip, .int .u32 tg] w' fun ev w'' => ev = .returned (.agg #[.int .i64 1, .int .u8 (ma 0), .int .u8 (ma 1), .int .u8 (ma 2), .int .u8 (ma 3), .int .u8 (ma 4), .int .u8 (ma 5), .int .u32 ip, .int .u8 0, .int .u8 0, .int .u8 0, .int .u8 0, .int .u8 0, .int .u8 0, .int .u32 tg]) ∧ Kp (fun _ => False) w' w'' := fun w' => rask_any ma ip tg w'
  have HRA := Lib.hid hhra
  clear hhra
  have hhte : ∀ w', Calls Tryd.prog 27 #[.agg #[.int .i64 op, .int .u8 (m 0), .int .u8 (m 1), .int .u8 (m 2), .int .u8 (m 3), .int .u8 (m 4), .int .u8 (m 5), .int .u32 ip, .int .u8 (t 0), .int .u8 (t 1), .int .u8 (t 2), .int .u8 (t 3), .int .u8 (t 4), .int .u8 (t 5), .int .u32 tip], .agg #[.int .u8 (ma 0), .int .u8 (ma 1), .int .u8 (ma 2), .int .u8 (ma 3), .int .u8 (ma 4), .int .u8 (ma 5)]] w' fun ev w'' => ev = .returned (.agg #[.int .i64 2, .int .u8 (ma 0), .int .u8 (ma 1), .int .u8 (ma 2), .int .u8 (ma 3), .int .u8 (ma 4), .int .u8 (ma 5), .int .u32 tip, .int .u8 (m 0), .int .u8 (m 1), .int .u8 (m 2), .int .u8 (m 3), .int .u8 (m 4), .int .u8 (m 5), .int .u32 ip]) ∧ Kp (fun _ => False) w' w'' := fun w' => tell_any op m t ip tip ma w'
  have HTE := Lib.hid hhte
  clear hhte
  have hhrt : ∀ w', Calls Tryd.prog 28 #[.agg #[.int .i64 op, .int .u8 (m 0), .int .u8 (m 1), .int .u8 (m 2), .int .u8 (m 3), .int .u8 (m 4), .int .u8 (m 5), .int .u32 ip, .int .u8 (t 0), .int .u8 (t 1), .int .u8 (t 2), .int .u8 (t 3), .int .u8 (t 4), .int .u8 (t 5), .int .u32 tip], .agg #[.int .u8 (ma 0), .int .u8 (ma 1), .int .u8 (ma 2), .int .u8 (ma 3), .int .u8 (ma 4), .int .u8 (ma 5)]] w' fun ev w'' => ev = .returned (.agg #[.int .i64 2, .int .u8 (ma 0), .int .u8 (ma 1), .int .u8 (ma 2), .int .u8 (ma 3), .int .u8 (ma 4), .int .u8 (ma 5), .int .u32 tip, .int .u8 (m 0), .int .u8 (m 1), .int .u8 (m 2), .int .u8 (m 3), .int .u8 (m 4), .int .u8 (m 5), .int .u32 ip]) ∧ Kp (fun _ => False) w' w'' := fun w' => rtell_any op m t ip tip ma w'
  have HRT := Lib.hid hhrt
  clear hhrt
  generalize hG : Value.agg (pkt op m ip t tip) = G
  have hG' : G = .agg #[.int .i64 op, .int .u8 (m 0), .int .u8 (m 1), .int .u8 (m 2), .int .u8 (m 3), .int .u8 (m 4), .int .u8 (m 5), .int .u32 ip, .int .u8 (t 0), .int .u8 (t 1), .int .u8 (t 2), .int .u8 (t 3), .int .u8 (t 4), .int .u8 (t 5), .int .u32 tip] := hG.symm
  subst hG'
  clear hG
  go_enter Tryd.func5, Tryd.ntmps5
  go_wp2_with fail
  refine (alive06 _ E.out).mono ?_
  rintro ev w1 ⟨rfl, k1⟩
  have K := Lib.hid (K.out.trans' k1)
  have E := Lib.hid (E.out.kept k1 (fun f => f))
  have B0 := Lib.hid (B0.out.kept k1 (fun f => f))
  have BA := Lib.hid (BA.out.kept k1 (fun f => f))
  clear k1
  have p0 : World.cell? w1 ⟨w.heap.size, 0, none⟩ = some (Value.int .i64 op) := B0.out.cell 0
  have p1 : World.cell? w1 ⟨w.heap.size, 1, none⟩ = some (Value.int .u8 (m 0)) := B0.out.cell 1
  have p2 : World.cell? w1 ⟨w.heap.size, 2, none⟩ = some (Value.int .u8 (m 1)) := B0.out.cell 2
  have p3 : World.cell? w1 ⟨w.heap.size, 3, none⟩ = some (Value.int .u8 (m 2)) := B0.out.cell 3
  have p4 : World.cell? w1 ⟨w.heap.size, 4, none⟩ = some (Value.int .u8 (m 3)) := B0.out.cell 4
  have p5 : World.cell? w1 ⟨w.heap.size, 5, none⟩ = some (Value.int .u8 (m 4)) := B0.out.cell 5
  have p6 : World.cell? w1 ⟨w.heap.size, 6, none⟩ = some (Value.int .u8 (m 5)) := B0.out.cell 6
  have p7 : World.cell? w1 ⟨w.heap.size, 7, none⟩ = some (Value.int .u32 ip) := B0.out.cell 7
  have p8 : World.cell? w1 ⟨w.heap.size, 8, none⟩ = some (Value.int .u8 (t 0)) := B0.out.cell 8
  have p9 : World.cell? w1 ⟨w.heap.size, 9, none⟩ = some (Value.int .u8 (t 1)) := B0.out.cell 9
  have p10 : World.cell? w1 ⟨w.heap.size, 10, none⟩ = some (Value.int .u8 (t 2)) := B0.out.cell 10
  have p11 : World.cell? w1 ⟨w.heap.size, 11, none⟩ = some (Value.int .u8 (t 3)) := B0.out.cell 11
  have p12 : World.cell? w1 ⟨w.heap.size, 12, none⟩ = some (Value.int .u8 (t 4)) := B0.out.cell 12
  have p13 : World.cell? w1 ⟨w.heap.size, 13, none⟩ = some (Value.int .u8 (t 5)) := B0.out.cell 13
  have p14 : World.cell? w1 ⟨w.heap.size, 14, none⟩ = some (Value.int .u32 tip) := B0.out.cell 14
  go_wp2_with fail
  refine (HB.out _).mono ?_
  rintro ev w4 ⟨s4, rfl, own4, k4⟩
  obtain ⟨g, d, rfl, hd, _, hg1⟩ := own_form own4 (by omega)
  have O := Lib.hid own4
  have K1 := K
  have E1 := E
  have B1 := B0
  have BA1 := BA
  have KN := Lib.hid k4
  have K := Lib.hid (K.out.trans' k4)
  have E := Lib.hid (E.out.kept k4 (fun f => f))
  have B0 := Lib.hid (B0.out.kept k4 (fun f => f))
  have BA := Lib.hid (BA.out.kept k4 (fun f => f))
  clear k4 own4
  clear p0 p1 p2 p3 p4 p5 p6 p7 p8 p9 p10 p11 p12 p13 p14
  have hsb : ∀ w', Kp (fun _ => False) w4 w' → ∀ a3 d3, RdI w' .u8 (some a3) L → Calls Tryd.prog 22 #[.slice (some ⟨g, 0, none⟩) 28 d, .slice (some a3) 28 d3] w' fun ev w'' => ev = .returned (.bool (L == L)) ∧ ∃ n, w'' = w'.drewN n := fun w' hk a3 d3 h3 => by
    have h := sameBytes_any (some ⟨g, 0, none⟩) (some a3) d d3 L L w' ((own_rd O.out).kp hk (fun _ _ _ f => f)) h3
    rw [HLL.out] at h
    exact h
  have HSB := Lib.hid hsb
  have EQA := Lib.hid (fun w => run_equalIn_mac40_refl w ma)
  have EQM := Lib.hid (fun w => run_equalIn_mac40_refl w m)
  have EQZ := Lib.hid (fun w => run_equalIn_mac40_refl w (fun _ => 0))
  clear hsb
  go_upto_region 4 with fail
  go_cut [44] (fun s44 wx => s44 = .bool false ∧ Kp (fun _ => False) w4 wx)
  case first =>
    as_aux_lemma =>
      have KC := Lib.hid ((Kp.refl (fun _ => False) w4).drew)
      refine wp_region_held_drew (S := (fun w' => Kp (fun _ => False) w4 w')) (by kernel_rfl) (KC.out) (fun hHeld => ?_)
      refine wpAnyH_take (i := 0) (v := ?v0_0) rfl (by kernel_rfl) (by kernel_rfl) (by kernel_rfl) (fun _ _ _ h => h) (Or.inl ⟨by rfl, ?y0_0⟩) (by assumption) ?r0_0
      case y0_0 => (intro w' hSw; (try dsimp only at hSw); go_simp; first | done | with_reducible rfl)
      try simp only [Act.put, List.getElem_toArray, List.getElem_cons_succ, List.getElem_cons_zero, List.setIfInBounds_toArray, List.set_cons_zero, List.set_cons_succ]
      refine wpAnyH_take (i := 1) (v := ?v1_1) rfl (by kernel_rfl) (by kernel_rfl) (by kernel_rfl) (fun _ _ _ h => h) (Or.inl ⟨by rfl, ?y1_1⟩) (by assumption) ?r1_1
      case y1_1 => (intro w' hSw; (try dsimp only at hSw); have d0 := kp_kc (show w4.cell? ⟨w.heap.size, 0, none⟩ = some (Value.int .i64 op) from B0.out.cell 0) hSw; have d1 := kp_kc (show w4.cell? ⟨w.heap.size, 1, none⟩ = some (Value.int .u8 (m 0)) from B0.out.cell 1) hSw; have d2 := kp_kc (show w4.cell? ⟨w.heap.size, 2, none⟩ = some (Value.int .u8 (m 1)) from B0.out.cell 2) hSw; have d3 := kp_kc (show w4.cell? ⟨w.heap.size, 3, none⟩ = some (Value.int .u8 (m 2)) from B0.out.cell 3) hSw; have d4 := kp_kc (show w4.cell? ⟨w.heap.size, 4, none⟩ = some (Value.int .u8 (m 3)) from B0.out.cell 4) hSw; have d5 := kp_kc (show w4.cell? ⟨w.heap.size, 5, none⟩ = some (Value.int .u8 (m 4)) from B0.out.cell 5) hSw; have d6 := kp_kc (show w4.cell? ⟨w.heap.size, 6, none⟩ = some (Value.int .u8 (m 5)) from B0.out.cell 6) hSw; have d7 := kp_kc (show w4.cell? ⟨w.heap.size, 7, none⟩ = some (Value.int .u32 ip) from B0.out.cell 7) hSw; have d8 := kp_kc (show w4.cell? ⟨w.heap.size, 8, none⟩ = some (Value.int .u8 (t 0)) from B0.out.cell 8) hSw; have d9 := kp_kc (show w4.cell? ⟨w.heap.size, 9, none⟩ = some (Value.int .u8 (t 1)) from B0.out.cell 9) hSw; have d10 := kp_kc (show w4.cell? ⟨w.heap.size, 10, none⟩ = some (Value.int .u8 (t 2)) from B0.out.cell 10) hSw; have d11 := kp_kc (show w4.cell? ⟨w.heap.size, 11, none⟩ = some (Value.int .u8 (t 3)) from B0.out.cell 11) hSw; have d12 := kp_kc (show w4.cell? ⟨w.heap.size, 12, none⟩ = some (Value.int .u8 (t 4)) from B0.out.cell 12) hSw; have d13 := kp_kc (show w4.cell? ⟨w.heap.size, 13, none⟩ = some (Value.int .u8 (t 5)) from B0.out.cell 13) hSw; have d14 := kp_kc (show w4.cell? ⟨w.heap.size, 14, none⟩ = some (Value.int .u32 tip) from B0.out.cell 14) hSw; go_simp; first | done | with_reducible rfl)
      try simp only [Act.put, List.getElem_toArray, List.getElem_cons_succ, List.getElem_cons_zero, List.setIfInBounds_toArray, List.set_cons_zero, List.set_cons_succ]
      refine wpAnyH_ready (rs := [2]) (by kernel_rfl) (by simp) ?_
      refine AllReadyH.cons rfl (fun K hK => ?_) AllReadyH.nil
      go_simp
      with_reducible refine (HOF.out _).mono ?_
      rintro ev x2 ⟨rfl, k9⟩
      have KC := Lib.hid (KC.out.trans' k9)
      clear k9
      try dsimp only
      refine hK.out _ _ (KC.out) (fun hHeld => ?_)
      clear hK K
      try simp only [Act.put, List.getElem_toArray, List.getElem_cons_succ, List.getElem_cons_zero, List.setIfInBounds_toArray, List.set_cons_zero, List.set_cons_succ]
      refine wpAnyH_ready (rs := [3]) (by kernel_rfl) (by simp) ?_
      refine AllReadyH.cons rfl (fun K hK => ?_) AllReadyH.nil
      go_simp
      with_reducible refine (HRB.out _).mono ?_
      rintro ev x3 ⟨s3, rfl, own3, k9⟩
      obtain ⟨a3, d3, rfl, r3⟩ := own_some own3 (by omega)
      have KC := Lib.hid (KC.out.trans' k9)
      have R3 := Lib.hid r3
      clear own3 k9 r3
      try dsimp only
      refine hK.out _ _ (KC.out) (fun hHeld => ?_)
      clear hK K
      try simp only [Act.put, List.getElem_toArray, List.getElem_cons_succ, List.getElem_cons_zero, List.setIfInBounds_toArray, List.set_cons_zero, List.set_cons_succ]
      refine wpAnyH_ready (rs := [4]) (by kernel_rfl) (by simp) ?_
      refine AllReadyH.cons rfl (fun K hK => ?_) AllReadyH.nil
      go_simp
      with_reducible refine (HSB.out _ (by exact KC.out) _ _ (by exact R3.out)).mono ?_
      rintro ev x4 ⟨rfl, n4', rfl⟩
      rw [beq_self_eq_true]
      have KC := Lib.hid (KC.out.drewN n4')
      try dsimp only
      refine hK.out _ _ (KC.out) (fun hHeld => ?_)
      clear hK K
      try simp only [Act.put, List.getElem_toArray, List.getElem_cons_succ, List.getElem_cons_zero, List.setIfInBounds_toArray, List.set_cons_zero, List.set_cons_succ]
      refine wpAnyH_take (i := 5) (v := ?v5_2) rfl (by kernel_rfl) (by kernel_rfl) (by kernel_rfl) (fun _ _ _ h => h) (Or.inl ⟨by rfl, ?y5_2⟩) (by assumption) ?r5_2
      case y5_2 => (intro w' hSw; (try dsimp only at hSw); go_simp; first | done | with_reducible rfl)
      try simp only [Act.put, List.getElem_toArray, List.getElem_cons_succ, List.getElem_cons_zero, List.setIfInBounds_toArray, List.set_cons_zero, List.set_cons_succ]
      refine wpAnyH_take (i := 6) (v := ?v6_3) rfl (by kernel_rfl) (by kernel_rfl) (by kernel_rfl) (fun _ _ _ h => h) (Or.inl ⟨by rfl, ?y6_3⟩) (by assumption) ?r6_3
      case y6_3 => (intro w' hSw; (try dsimp only at hSw); go_simp; first | done | with_reducible rfl)
      try simp only [Act.put, List.getElem_toArray, List.getElem_cons_succ, List.getElem_cons_zero, List.setIfInBounds_toArray, List.set_cons_zero, List.set_cons_succ]
      refine wpAnyH_take (i := 7) (v := ?v7_4) rfl (by kernel_rfl) (by kernel_rfl) (by kernel_rfl) (fun _ _ _ h => h) (Or.inl ⟨by rfl, ?y7_4⟩) (by assumption) ?r7_4
      case y7_4 => (intro w' hSw; (try dsimp only at hSw); have d0 := kp_kc (show w4.cell? ⟨w.heap.size + 1, 0, none⟩ = some (Value.int .u8 (ma 0)) from BA.out.cell 0) hSw; have d1 := kp_kc (show w4.cell? ⟨w.heap.size + 1, 1, none⟩ = some (Value.int .u8 (ma 1)) from BA.out.cell 1) hSw; have d2 := kp_kc (show w4.cell? ⟨w.heap.size + 1, 2, none⟩ = some (Value.int .u8 (ma 2)) from BA.out.cell 2) hSw; have d3 := kp_kc (show w4.cell? ⟨w.heap.size + 1, 3, none⟩ = some (Value.int .u8 (ma 3)) from BA.out.cell 3) hSw; have d4 := kp_kc (show w4.cell? ⟨w.heap.size + 1, 4, none⟩ = some (Value.int .u8 (ma 4)) from BA.out.cell 4) hSw; have d5 := kp_kc (show w4.cell? ⟨w.heap.size + 1, 5, none⟩ = some (Value.int .u8 (ma 5)) from BA.out.cell 5) hSw; go_simp; first | done | with_reducible rfl)
      try simp only [Act.put, List.getElem_toArray, List.getElem_cons_succ, List.getElem_cons_zero, List.setIfInBounds_toArray, List.set_cons_zero, List.set_cons_succ]
      refine wpAnyH_take (i := 8) (v := ?v8_5) rfl (by kernel_rfl) (by kernel_rfl) (by kernel_rfl) (fun _ _ _ h => h) (Or.inl ⟨by rfl, ?y8_5⟩) (by assumption) ?r8_5
      case y8_5 => (intro w' hSw; (try dsimp only at hSw); go_simp; first | done | with_reducible rfl)
      try simp only [Act.put, List.getElem_toArray, List.getElem_cons_succ, List.getElem_cons_zero, List.setIfInBounds_toArray, List.set_cons_zero, List.set_cons_succ]
      refine wpAnyH_take (i := 9) (v := ?v9_6) rfl (by kernel_rfl) (by kernel_rfl) (by kernel_rfl) (fun _ _ _ h => h) (Or.inl ⟨by rfl, ?y9_6⟩) (by assumption) ?r9_6
      case y9_6 => (intro w' hSw; (try dsimp only at hSw); have d7 := kp_kc (show w4.cell? ⟨w.heap.size, 7, none⟩ = some (Value.int .u32 ip) from B0.out.cell 7) hSw; go_simp; first | done | with_reducible rfl)
      try simp only [Act.put, List.getElem_toArray, List.getElem_cons_succ, List.getElem_cons_zero, List.setIfInBounds_toArray, List.set_cons_zero, List.set_cons_succ]
      refine wpAnyH_take (i := 10) (v := ?v10_7) rfl (by kernel_rfl) (by kernel_rfl) (by kernel_rfl) (fun _ _ _ h => h) (Or.inl ⟨by rfl, ?y10_7⟩) (by assumption) ?r10_7
      case y10_7 => (intro w' hSw; (try dsimp only at hSw); go_simp; first | done | with_reducible rfl)
      try simp only [Act.put, List.getElem_toArray, List.getElem_cons_succ, List.getElem_cons_zero, List.setIfInBounds_toArray, List.set_cons_zero, List.set_cons_succ]
      refine wpAnyH_take (i := 13) (v := ?v13_8) rfl (by kernel_rfl) (by kernel_rfl) (by kernel_rfl) (fun _ _ _ h => h) (Or.inl ⟨by rfl, ?y13_8⟩) (by assumption) ?r13_8
      case y13_8 => (intro w' hSw; (try dsimp only at hSw); have d0 := kp_kc (show w4.cell? ⟨w.heap.size + 1, 0, none⟩ = some (Value.int .u8 (ma 0)) from BA.out.cell 0) hSw; have d1 := kp_kc (show w4.cell? ⟨w.heap.size + 1, 1, none⟩ = some (Value.int .u8 (ma 1)) from BA.out.cell 1) hSw; have d2 := kp_kc (show w4.cell? ⟨w.heap.size + 1, 2, none⟩ = some (Value.int .u8 (ma 2)) from BA.out.cell 2) hSw; have d3 := kp_kc (show w4.cell? ⟨w.heap.size + 1, 3, none⟩ = some (Value.int .u8 (ma 3)) from BA.out.cell 3) hSw; have d4 := kp_kc (show w4.cell? ⟨w.heap.size + 1, 4, none⟩ = some (Value.int .u8 (ma 4)) from BA.out.cell 4) hSw; have d5 := kp_kc (show w4.cell? ⟨w.heap.size + 1, 5, none⟩ = some (Value.int .u8 (ma 5)) from BA.out.cell 5) hSw; go_simp; first | done | with_reducible rfl)
      try simp only [Act.put, List.getElem_toArray, List.getElem_cons_succ, List.getElem_cons_zero, List.setIfInBounds_toArray, List.set_cons_zero, List.set_cons_succ]
      refine wpAnyH_take (i := 14) (v := ?v14_9) rfl (by kernel_rfl) (by kernel_rfl) (by kernel_rfl) (fun _ _ _ h => h) (Or.inl ⟨by rfl, ?y14_9⟩) (by assumption) ?r14_9
      case y14_9 => (intro w' hSw; (try dsimp only at hSw); go_simp; first | done | with_reducible rfl)
      try simp only [Act.put, List.getElem_toArray, List.getElem_cons_succ, List.getElem_cons_zero, List.setIfInBounds_toArray, List.set_cons_zero, List.set_cons_succ]
      refine wpAnyH_take (i := 15) (v := ?v15_10) rfl (by kernel_rfl) (by kernel_rfl) (by kernel_rfl) (fun _ _ _ h => h) (Or.inl ⟨by rfl, ?y15_10⟩) (by assumption) ?r15_10
      case y15_10 => (intro w' hSw; (try dsimp only at hSw); have d7 := kp_kc (show w4.cell? ⟨w.heap.size, 7, none⟩ = some (Value.int .u32 ip) from B0.out.cell 7) hSw; go_simp; first | done | with_reducible rfl)
      try simp only [Act.put, List.getElem_toArray, List.getElem_cons_succ, List.getElem_cons_zero, List.setIfInBounds_toArray, List.set_cons_zero, List.set_cons_succ]
      refine wpAnyH_take (i := 16) (v := ?v16_11) rfl (by kernel_rfl) (by kernel_rfl) (by kernel_rfl) (fun _ _ _ h => h) (Or.inl ⟨by rfl, ?y16_11⟩) (by assumption) ?r16_11
      case y16_11 => (intro w' hSw; (try dsimp only at hSw); go_simp; first | done | with_reducible rfl)
      try simp only [Act.put, List.getElem_toArray, List.getElem_cons_succ, List.getElem_cons_zero, List.setIfInBounds_toArray, List.set_cons_zero, List.set_cons_succ]
      refine wpAnyH_ready (rs := [11]) (by kernel_rfl) (by simp) ?_
      refine AllReadyH.cons rfl (fun K hK => ?_) AllReadyH.nil
      go_simp
      with_reducible refine (HAS.out _).mono ?_
      rintro ev x11 ⟨rfl, k9⟩
      have KC := Lib.hid (KC.out.trans' k9)
      clear k9
      try dsimp only
      refine hK.out _ _ (KC.out) (fun hHeld => ?_)
      clear hK K
      try simp only [Act.put, List.getElem_toArray, List.getElem_cons_succ, List.getElem_cons_zero, List.setIfInBounds_toArray, List.set_cons_zero, List.set_cons_succ]
      refine wpAnyH_ready (rs := [12]) (by kernel_rfl) (by simp) ?_
      refine AllReadyH.cons rfl (fun K hK => ?_) AllReadyH.nil
      go_simp
      with_reducible refine (HOQ.out _).mono ?_
      rintro ev x12 ⟨rfl, k9⟩
      have KC := Lib.hid (KC.out.trans' k9)
      clear k9
      try dsimp only
      refine hK.out _ _ (KC.out) (fun hHeld => ?_)
      clear hK K
      try simp only [Act.put, List.getElem_toArray, List.getElem_cons_succ, List.getElem_cons_zero, List.setIfInBounds_toArray, List.set_cons_zero, List.set_cons_succ]
      refine wpAnyH_ready (rs := [17]) (by kernel_rfl) (by simp) ?_
      refine AllReadyH.cons rfl (fun K hK => ?_) AllReadyH.nil
      go_simp
      with_reducible refine (HRA.out _).mono ?_
      rintro ev x17 ⟨rfl, k9⟩
      have KC := Lib.hid (KC.out.trans' k9)
      clear k9
      try dsimp only
      refine hK.out _ _ (KC.out) (fun hHeld => ?_)
      clear hK K
      try simp only [Act.put, List.getElem_toArray, List.getElem_cons_succ, List.getElem_cons_zero, List.setIfInBounds_toArray, List.set_cons_zero, List.set_cons_succ]
      refine wpAnyH_take (i := 18) (v := ?v18_12) rfl (by kernel_rfl) (by kernel_rfl) (by kernel_rfl) (fun _ _ _ h => h) (Or.inl ⟨by rfl, ?y18_12⟩) (by assumption) ?r18_12
      case y18_12 => (intro w' hSw; (try dsimp only at hSw); have hq1 := EQA.out w'; have hq2 := EQZ.out w'; go_simp; first | done | with_reducible rfl)
      try simp only [Act.put, List.getElem_toArray, List.getElem_cons_succ, List.getElem_cons_zero, List.setIfInBounds_toArray, List.set_cons_zero, List.set_cons_succ]
      refine wpAnyH_take (i := 19) (v := ?v19_13) rfl (by kernel_rfl) (by kernel_rfl) (by kernel_rfl) (fun _ _ _ h => h) (Or.inl ⟨by rfl, ?y19_13⟩) (by assumption) ?r19_13
      case y19_13 => (intro w' hSw; (try dsimp only at hSw); go_simp; first | done | with_reducible rfl)
      try simp only [Act.put, List.getElem_toArray, List.getElem_cons_succ, List.getElem_cons_zero, List.setIfInBounds_toArray, List.set_cons_zero, List.set_cons_succ]
      refine wpAnyH_take (i := 20) (v := ?v20_14) rfl (by kernel_rfl) (by kernel_rfl) (by kernel_rfl) (fun _ _ _ h => h) (Or.inl ⟨by rfl, ?y20_14⟩) (by assumption) ?r20_14
      case y20_14 => (intro w' hSw; (try dsimp only at hSw); go_simp; first | done | with_reducible rfl)
      try simp only [Act.put, List.getElem_toArray, List.getElem_cons_succ, List.getElem_cons_zero, List.setIfInBounds_toArray, List.set_cons_zero, List.set_cons_succ]
      refine wpAnyH_take (i := 21) (v := ?v21_15) rfl (by kernel_rfl) (by kernel_rfl) (by kernel_rfl) (fun _ _ _ h => h) (Or.inl ⟨by rfl, ?y21_15⟩) (by assumption) ?r21_15
      case y21_15 => (intro w' hSw; (try dsimp only at hSw); have d0 := kp_kc (show w4.cell? ⟨w.heap.size, 0, none⟩ = some (Value.int .i64 op) from B0.out.cell 0) hSw; have d1 := kp_kc (show w4.cell? ⟨w.heap.size, 1, none⟩ = some (Value.int .u8 (m 0)) from B0.out.cell 1) hSw; have d2 := kp_kc (show w4.cell? ⟨w.heap.size, 2, none⟩ = some (Value.int .u8 (m 1)) from B0.out.cell 2) hSw; have d3 := kp_kc (show w4.cell? ⟨w.heap.size, 3, none⟩ = some (Value.int .u8 (m 2)) from B0.out.cell 3) hSw; have d4 := kp_kc (show w4.cell? ⟨w.heap.size, 4, none⟩ = some (Value.int .u8 (m 3)) from B0.out.cell 4) hSw; have d5 := kp_kc (show w4.cell? ⟨w.heap.size, 5, none⟩ = some (Value.int .u8 (m 4)) from B0.out.cell 5) hSw; have d6 := kp_kc (show w4.cell? ⟨w.heap.size, 6, none⟩ = some (Value.int .u8 (m 5)) from B0.out.cell 6) hSw; have d7 := kp_kc (show w4.cell? ⟨w.heap.size, 7, none⟩ = some (Value.int .u32 ip) from B0.out.cell 7) hSw; have d8 := kp_kc (show w4.cell? ⟨w.heap.size, 8, none⟩ = some (Value.int .u8 (t 0)) from B0.out.cell 8) hSw; have d9 := kp_kc (show w4.cell? ⟨w.heap.size, 9, none⟩ = some (Value.int .u8 (t 1)) from B0.out.cell 9) hSw; have d10 := kp_kc (show w4.cell? ⟨w.heap.size, 10, none⟩ = some (Value.int .u8 (t 2)) from B0.out.cell 10) hSw; have d11 := kp_kc (show w4.cell? ⟨w.heap.size, 11, none⟩ = some (Value.int .u8 (t 3)) from B0.out.cell 11) hSw; have d12 := kp_kc (show w4.cell? ⟨w.heap.size, 12, none⟩ = some (Value.int .u8 (t 4)) from B0.out.cell 12) hSw; have d13 := kp_kc (show w4.cell? ⟨w.heap.size, 13, none⟩ = some (Value.int .u8 (t 5)) from B0.out.cell 13) hSw; have d14 := kp_kc (show w4.cell? ⟨w.heap.size, 14, none⟩ = some (Value.int .u32 tip) from B0.out.cell 14) hSw; go_simp; first | done | with_reducible rfl)
      try simp only [Act.put, List.getElem_toArray, List.getElem_cons_succ, List.getElem_cons_zero, List.setIfInBounds_toArray, List.set_cons_zero, List.set_cons_succ]
      refine wpAnyH_take (i := 22) (v := ?v22_16) rfl (by kernel_rfl) (by kernel_rfl) (by kernel_rfl) (fun _ _ _ h => h) (Or.inl ⟨by rfl, ?y22_16⟩) (by assumption) ?r22_16
      case y22_16 => (intro w' hSw; (try dsimp only at hSw); have d0 := kp_kc (show w4.cell? ⟨w.heap.size + 1, 0, none⟩ = some (Value.int .u8 (ma 0)) from BA.out.cell 0) hSw; have d1 := kp_kc (show w4.cell? ⟨w.heap.size + 1, 1, none⟩ = some (Value.int .u8 (ma 1)) from BA.out.cell 1) hSw; have d2 := kp_kc (show w4.cell? ⟨w.heap.size + 1, 2, none⟩ = some (Value.int .u8 (ma 2)) from BA.out.cell 2) hSw; have d3 := kp_kc (show w4.cell? ⟨w.heap.size + 1, 3, none⟩ = some (Value.int .u8 (ma 3)) from BA.out.cell 3) hSw; have d4 := kp_kc (show w4.cell? ⟨w.heap.size + 1, 4, none⟩ = some (Value.int .u8 (ma 4)) from BA.out.cell 4) hSw; have d5 := kp_kc (show w4.cell? ⟨w.heap.size + 1, 5, none⟩ = some (Value.int .u8 (ma 5)) from BA.out.cell 5) hSw; go_simp; first | done | with_reducible rfl)
      try simp only [Act.put, List.getElem_toArray, List.getElem_cons_succ, List.getElem_cons_zero, List.setIfInBounds_toArray, List.set_cons_zero, List.set_cons_succ]
      refine wpAnyH_take (i := 25) (v := ?v25_17) rfl (by kernel_rfl) (by kernel_rfl) (by kernel_rfl) (fun _ _ _ h => h) (Or.inl ⟨by rfl, ?y25_17⟩) (by assumption) ?r25_17
      case y25_17 => (intro w' hSw; (try dsimp only at hSw); have d0 := kp_kc (show w4.cell? ⟨w.heap.size, 0, none⟩ = some (Value.int .i64 op) from B0.out.cell 0) hSw; have d1 := kp_kc (show w4.cell? ⟨w.heap.size, 1, none⟩ = some (Value.int .u8 (m 0)) from B0.out.cell 1) hSw; have d2 := kp_kc (show w4.cell? ⟨w.heap.size, 2, none⟩ = some (Value.int .u8 (m 1)) from B0.out.cell 2) hSw; have d3 := kp_kc (show w4.cell? ⟨w.heap.size, 3, none⟩ = some (Value.int .u8 (m 2)) from B0.out.cell 3) hSw; have d4 := kp_kc (show w4.cell? ⟨w.heap.size, 4, none⟩ = some (Value.int .u8 (m 3)) from B0.out.cell 4) hSw; have d5 := kp_kc (show w4.cell? ⟨w.heap.size, 5, none⟩ = some (Value.int .u8 (m 4)) from B0.out.cell 5) hSw; have d6 := kp_kc (show w4.cell? ⟨w.heap.size, 6, none⟩ = some (Value.int .u8 (m 5)) from B0.out.cell 6) hSw; have d7 := kp_kc (show w4.cell? ⟨w.heap.size, 7, none⟩ = some (Value.int .u32 ip) from B0.out.cell 7) hSw; have d8 := kp_kc (show w4.cell? ⟨w.heap.size, 8, none⟩ = some (Value.int .u8 (t 0)) from B0.out.cell 8) hSw; have d9 := kp_kc (show w4.cell? ⟨w.heap.size, 9, none⟩ = some (Value.int .u8 (t 1)) from B0.out.cell 9) hSw; have d10 := kp_kc (show w4.cell? ⟨w.heap.size, 10, none⟩ = some (Value.int .u8 (t 2)) from B0.out.cell 10) hSw; have d11 := kp_kc (show w4.cell? ⟨w.heap.size, 11, none⟩ = some (Value.int .u8 (t 3)) from B0.out.cell 11) hSw; have d12 := kp_kc (show w4.cell? ⟨w.heap.size, 12, none⟩ = some (Value.int .u8 (t 4)) from B0.out.cell 12) hSw; have d13 := kp_kc (show w4.cell? ⟨w.heap.size, 13, none⟩ = some (Value.int .u8 (t 5)) from B0.out.cell 13) hSw; have d14 := kp_kc (show w4.cell? ⟨w.heap.size, 14, none⟩ = some (Value.int .u32 tip) from B0.out.cell 14) hSw; go_simp; first | done | with_reducible rfl)
      try simp only [Act.put, List.getElem_toArray, List.getElem_cons_succ, List.getElem_cons_zero, List.setIfInBounds_toArray, List.set_cons_zero, List.set_cons_succ]
      refine wpAnyH_take (i := 27) (v := ?v27_18) rfl (by kernel_rfl) (by kernel_rfl) (by kernel_rfl) (fun _ _ _ h => h) (Or.inl ⟨by rfl, ?y27_18⟩) (by assumption) ?r27_18
      case y27_18 => (intro w' hSw; (try dsimp only at hSw); have d0 := kp_kc (show w4.cell? ⟨w.heap.size + 1, 0, none⟩ = some (Value.int .u8 (ma 0)) from BA.out.cell 0) hSw; have d1 := kp_kc (show w4.cell? ⟨w.heap.size + 1, 1, none⟩ = some (Value.int .u8 (ma 1)) from BA.out.cell 1) hSw; have d2 := kp_kc (show w4.cell? ⟨w.heap.size + 1, 2, none⟩ = some (Value.int .u8 (ma 2)) from BA.out.cell 2) hSw; have d3 := kp_kc (show w4.cell? ⟨w.heap.size + 1, 3, none⟩ = some (Value.int .u8 (ma 3)) from BA.out.cell 3) hSw; have d4 := kp_kc (show w4.cell? ⟨w.heap.size + 1, 4, none⟩ = some (Value.int .u8 (ma 4)) from BA.out.cell 4) hSw; have d5 := kp_kc (show w4.cell? ⟨w.heap.size + 1, 5, none⟩ = some (Value.int .u8 (ma 5)) from BA.out.cell 5) hSw; go_simp; first | done | with_reducible rfl)
      try simp only [Act.put, List.getElem_toArray, List.getElem_cons_succ, List.getElem_cons_zero, List.setIfInBounds_toArray, List.set_cons_zero, List.set_cons_succ]
      refine wpAnyH_ready (rs := [23]) (by kernel_rfl) (by simp) ?_
      refine AllReadyH.cons rfl (fun K hK => ?_) AllReadyH.nil
      go_simp
      with_reducible refine (HTE.out _).mono ?_
      rintro ev x23 ⟨rfl, k9⟩
      have KC := Lib.hid (KC.out.trans' k9)
      clear k9
      try dsimp only
      refine hK.out _ _ (KC.out) (fun hHeld => ?_)
      clear hK K
      try simp only [Act.put, List.getElem_toArray, List.getElem_cons_succ, List.getElem_cons_zero, List.setIfInBounds_toArray, List.set_cons_zero, List.set_cons_succ]
      refine wpAnyH_ready (rs := [24]) (by kernel_rfl) (by simp) ?_
      refine AllReadyH.cons rfl (fun K hK => ?_) AllReadyH.nil
      go_simp
      with_reducible refine (HOX.out _).mono ?_
      rintro ev x24 ⟨rfl, k9⟩
      have KC := Lib.hid (KC.out.trans' k9)
      clear k9
      try dsimp only
      refine hK.out _ _ (KC.out) (fun hHeld => ?_)
      clear hK K
      try simp only [Act.put, List.getElem_toArray, List.getElem_cons_succ, List.getElem_cons_zero, List.setIfInBounds_toArray, List.set_cons_zero, List.set_cons_succ]
      refine wpAnyH_ready (rs := [26]) (by kernel_rfl) (by simp) ?_
      refine AllReadyH.cons rfl (fun K hK => ?_) AllReadyH.nil
      go_simp
      with_reducible refine (HOF.out _).mono ?_
      rintro ev x26 ⟨rfl, k9⟩
      have KC := Lib.hid (KC.out.trans' k9)
      clear k9
      try dsimp only
      refine hK.out _ _ (KC.out) (fun hHeld => ?_)
      clear hK K
      try simp only [Act.put, List.getElem_toArray, List.getElem_cons_succ, List.getElem_cons_zero, List.setIfInBounds_toArray, List.set_cons_zero, List.set_cons_succ]
      refine wpAnyH_ready (rs := [28]) (by kernel_rfl) (by simp) ?_
      refine AllReadyH.cons rfl (fun K hK => ?_) AllReadyH.nil
      go_simp
      with_reducible refine (HRT.out _).mono ?_
      rintro ev x28 ⟨rfl, k9⟩
      have KC := Lib.hid (KC.out.trans' k9)
      clear k9
      try dsimp only
      refine hK.out _ _ (KC.out) (fun hHeld => ?_)
      clear hK K
      try simp only [Act.put, List.getElem_toArray, List.getElem_cons_succ, List.getElem_cons_zero, List.setIfInBounds_toArray, List.set_cons_zero, List.set_cons_succ]
      refine wpAnyH_take (i := 29) (v := ?v29_19) rfl (by kernel_rfl) (by kernel_rfl) (by kernel_rfl) (fun _ _ _ h => h) (Or.inl ⟨by rfl, ?y29_19⟩) (by assumption) ?r29_19
      case y29_19 => (intro w' hSw; (try dsimp only at hSw); have hq1 := EQA.out w'; have hq2 := EQM.out w'; go_simp; first | done | with_reducible rfl)
      try simp only [Act.put, List.getElem_toArray, List.getElem_cons_succ, List.getElem_cons_zero, List.setIfInBounds_toArray, List.set_cons_zero, List.set_cons_succ]
      refine wpAnyH_take (i := 30) (v := ?v30_20) rfl (by kernel_rfl) (by kernel_rfl) (by kernel_rfl) (fun _ _ _ h => h) (Or.inl ⟨by rfl, ?y30_20⟩) (by assumption) ?r30_20
      case y30_20 => (intro w' hSw; (try dsimp only at hSw); go_simp; first | done | with_reducible rfl)
      try simp only [Act.put, List.getElem_toArray, List.getElem_cons_succ, List.getElem_cons_zero, List.setIfInBounds_toArray, List.set_cons_zero, List.set_cons_succ]
      refine wpAnyH_done (by kernel_rfl) ?_ _
      go_wp2_with fail
      go_meet
      exact ⟨rfl, KC.out⟩
  case rest =>
  as_aux_lemma =>
  obtain ⟨rfl, kc⟩ := hcut
  have KN := Lib.hid (KN.out.trans' kc)
  have O := Lib.hid (own_kp O.out kc (fun _ _ f => f))
  clear kc K E B0 BA HSB HOF HOQ HOX HAS HRA HTE HRT HRB
  have kn1 := KN.out.size
  go_wp2_with
    (at_builtin
     go_must (refine wpList_append_rd rfl (.tmp 46) (.tmp 47) rfl w1.heap.size (by simp; omega) (.slice (some ⟨g, 0, none⟩) 28 d) 28 L rfl (own_kp O.out ((Kp.refl (fun _ => False) wc).alloc (.cells #[.int .u8 1, .int .u8 2, .int .u8 3] 5)) (fun _ _ f => f)) (some ⟨wc.heap.size, 0, none⟩) 3 3 [1, 2, 3] rfl rfl (RdI.new wc .u8 5 [1, 2, 3] (by simp)) (fun h => by cases h) (by omega) ?_)
     intro v5 w5 hown hk
     have k5 := (KN.out.alloc (.cells #[.int .u8 1, .int .u8 2, .int .u8 3] 5)).trans hk (fun j hj hk => absurd (O.out.lt j hk).1 (by omega))
     have K := Lib.hid (K1.out.trans' k5)
     have E := Lib.hid (E1.out.kept k5 (fun f => f))
     have B0 := Lib.hid (B1.out.kept k5 (fun f => f))
     have O5 := Lib.hid hown
     clear hown hk k5)
  obtain ⟨g5, c5, rfl, hc5, _, _⟩ := own_form O5.out (by omega)
  have R5 := Lib.hid (own_rd O5.out)
  have HB5 := Lib.hid (byt_append HBL.out (byt_of [1, 2, 3] (by decide)))
  have HL5 := Lib.hid (show (L ++ [1, 2, 3]).length = 28 + 3 by rw [List.length_append, HLL.out]; rfl)
  have HBA := Lib.hid (badOf_app L [1, 2, 3] HLL.out)
  have HG8 := Lib.hid (getD8_app L [1, 2, 3] HLL.out)
  have HPA := Lib.hid (pktOf_app L [1, 2, 3] HLL.out)
  clear O O5 KN K1 E1 B1 BA1 EQA EQM EQZ kn1 hg1 hd HBL HLL
  by_cases hop : op = 1 ∨ op = 2
  · cases ho : (m 0 % 2 != 0)
    · as_aux_lemma =>
      refine (pok g5 c5 (28 + 3) (L ++ [1, 2, 3]) op m t ip tip _ R5.out HB5.out HL5.out (by omega) (by omega) hc5 (HBA.out.trans (HBP.out hop)) (by rw [HG8.out, HGP.out]; exact ho) (HPA.out.trans (HPP.out hop))).mono ?_
      rintro ev w6 ⟨rfl, k6⟩
      have kA := k6.alloc (.cells #[.int .i64 op, .int .u8 (m 0), .int .u8 (m 1), .int .u8 (m 2), .int .u8 (m 3), .int .u8 (m 4), .int .u8 (m 5), .int .u32 ip, .int .u8 (t 0), .int .u8 (t 1), .int .u8 (t 2), .int .u8 (t 3), .int .u8 (t 4), .int .u8 (t 5), .int .u32 tip] 44)
      have K := Lib.hid (K.out.trans' kA)
      have E := Lib.hid (E.out.kept kA (fun f => f))
      have B0 := Lib.hid (B0.out.kept kA (fun f => f))
      clear kA k6 R5 HB5 HL5 HBA HG8 HPA HBP HGP HPP
      have p0 : World.cell? (w6.alloc (.cells #[.int .i64 op, .int .u8 (m 0), .int .u8 (m 1), .int .u8 (m 2), .int .u8 (m 3), .int .u8 (m 4), .int .u8 (m 5), .int .u32 ip, .int .u8 (t 0), .int .u8 (t 1), .int .u8 (t 2), .int .u8 (t 3), .int .u8 (t 4), .int .u8 (t 5), .int .u32 tip] 44)) ⟨w.heap.size, 0, none⟩ = some (Value.int .i64 op) := B0.out.cell 0
      have p1 : World.cell? (w6.alloc (.cells #[.int .i64 op, .int .u8 (m 0), .int .u8 (m 1), .int .u8 (m 2), .int .u8 (m 3), .int .u8 (m 4), .int .u8 (m 5), .int .u32 ip, .int .u8 (t 0), .int .u8 (t 1), .int .u8 (t 2), .int .u8 (t 3), .int .u8 (t 4), .int .u8 (t 5), .int .u32 tip] 44)) ⟨w.heap.size, 1, none⟩ = some (Value.int .u8 (m 0)) := B0.out.cell 1
      have p2 : World.cell? (w6.alloc (.cells #[.int .i64 op, .int .u8 (m 0), .int .u8 (m 1), .int .u8 (m 2), .int .u8 (m 3), .int .u8 (m 4), .int .u8 (m 5), .int .u32 ip, .int .u8 (t 0), .int .u8 (t 1), .int .u8 (t 2), .int .u8 (t 3), .int .u8 (t 4), .int .u8 (t 5), .int .u32 tip] 44)) ⟨w.heap.size, 2, none⟩ = some (Value.int .u8 (m 1)) := B0.out.cell 2
      have p3 : World.cell? (w6.alloc (.cells #[.int .i64 op, .int .u8 (m 0), .int .u8 (m 1), .int .u8 (m 2), .int .u8 (m 3), .int .u8 (m 4), .int .u8 (m 5), .int .u32 ip, .int .u8 (t 0), .int .u8 (t 1), .int .u8 (t 2), .int .u8 (t 3), .int .u8 (t 4), .int .u8 (t 5), .int .u32 tip] 44)) ⟨w.heap.size, 3, none⟩ = some (Value.int .u8 (m 2)) := B0.out.cell 3
      have p4 : World.cell? (w6.alloc (.cells #[.int .i64 op, .int .u8 (m 0), .int .u8 (m 1), .int .u8 (m 2), .int .u8 (m 3), .int .u8 (m 4), .int .u8 (m 5), .int .u32 ip, .int .u8 (t 0), .int .u8 (t 1), .int .u8 (t 2), .int .u8 (t 3), .int .u8 (t 4), .int .u8 (t 5), .int .u32 tip] 44)) ⟨w.heap.size, 4, none⟩ = some (Value.int .u8 (m 3)) := B0.out.cell 4
      have p5 : World.cell? (w6.alloc (.cells #[.int .i64 op, .int .u8 (m 0), .int .u8 (m 1), .int .u8 (m 2), .int .u8 (m 3), .int .u8 (m 4), .int .u8 (m 5), .int .u32 ip, .int .u8 (t 0), .int .u8 (t 1), .int .u8 (t 2), .int .u8 (t 3), .int .u8 (t 4), .int .u8 (t 5), .int .u32 tip] 44)) ⟨w.heap.size, 5, none⟩ = some (Value.int .u8 (m 4)) := B0.out.cell 5
      have p6 : World.cell? (w6.alloc (.cells #[.int .i64 op, .int .u8 (m 0), .int .u8 (m 1), .int .u8 (m 2), .int .u8 (m 3), .int .u8 (m 4), .int .u8 (m 5), .int .u32 ip, .int .u8 (t 0), .int .u8 (t 1), .int .u8 (t 2), .int .u8 (t 3), .int .u8 (t 4), .int .u8 (t 5), .int .u32 tip] 44)) ⟨w.heap.size, 6, none⟩ = some (Value.int .u8 (m 5)) := B0.out.cell 6
      have p7 : World.cell? (w6.alloc (.cells #[.int .i64 op, .int .u8 (m 0), .int .u8 (m 1), .int .u8 (m 2), .int .u8 (m 3), .int .u8 (m 4), .int .u8 (m 5), .int .u32 ip, .int .u8 (t 0), .int .u8 (t 1), .int .u8 (t 2), .int .u8 (t 3), .int .u8 (t 4), .int .u8 (t 5), .int .u32 tip] 44)) ⟨w.heap.size, 7, none⟩ = some (Value.int .u32 ip) := B0.out.cell 7
      have p8 : World.cell? (w6.alloc (.cells #[.int .i64 op, .int .u8 (m 0), .int .u8 (m 1), .int .u8 (m 2), .int .u8 (m 3), .int .u8 (m 4), .int .u8 (m 5), .int .u32 ip, .int .u8 (t 0), .int .u8 (t 1), .int .u8 (t 2), .int .u8 (t 3), .int .u8 (t 4), .int .u8 (t 5), .int .u32 tip] 44)) ⟨w.heap.size, 8, none⟩ = some (Value.int .u8 (t 0)) := B0.out.cell 8
      have p9 : World.cell? (w6.alloc (.cells #[.int .i64 op, .int .u8 (m 0), .int .u8 (m 1), .int .u8 (m 2), .int .u8 (m 3), .int .u8 (m 4), .int .u8 (m 5), .int .u32 ip, .int .u8 (t 0), .int .u8 (t 1), .int .u8 (t 2), .int .u8 (t 3), .int .u8 (t 4), .int .u8 (t 5), .int .u32 tip] 44)) ⟨w.heap.size, 9, none⟩ = some (Value.int .u8 (t 1)) := B0.out.cell 9
      have p10 : World.cell? (w6.alloc (.cells #[.int .i64 op, .int .u8 (m 0), .int .u8 (m 1), .int .u8 (m 2), .int .u8 (m 3), .int .u8 (m 4), .int .u8 (m 5), .int .u32 ip, .int .u8 (t 0), .int .u8 (t 1), .int .u8 (t 2), .int .u8 (t 3), .int .u8 (t 4), .int .u8 (t 5), .int .u32 tip] 44)) ⟨w.heap.size, 10, none⟩ = some (Value.int .u8 (t 2)) := B0.out.cell 10
      have p11 : World.cell? (w6.alloc (.cells #[.int .i64 op, .int .u8 (m 0), .int .u8 (m 1), .int .u8 (m 2), .int .u8 (m 3), .int .u8 (m 4), .int .u8 (m 5), .int .u32 ip, .int .u8 (t 0), .int .u8 (t 1), .int .u8 (t 2), .int .u8 (t 3), .int .u8 (t 4), .int .u8 (t 5), .int .u32 tip] 44)) ⟨w.heap.size, 11, none⟩ = some (Value.int .u8 (t 3)) := B0.out.cell 11
      have p12 : World.cell? (w6.alloc (.cells #[.int .i64 op, .int .u8 (m 0), .int .u8 (m 1), .int .u8 (m 2), .int .u8 (m 3), .int .u8 (m 4), .int .u8 (m 5), .int .u32 ip, .int .u8 (t 0), .int .u8 (t 1), .int .u8 (t 2), .int .u8 (t 3), .int .u8 (t 4), .int .u8 (t 5), .int .u32 tip] 44)) ⟨w.heap.size, 12, none⟩ = some (Value.int .u8 (t 4)) := B0.out.cell 12
      have p13 : World.cell? (w6.alloc (.cells #[.int .i64 op, .int .u8 (m 0), .int .u8 (m 1), .int .u8 (m 2), .int .u8 (m 3), .int .u8 (m 4), .int .u8 (m 5), .int .u32 ip, .int .u8 (t 0), .int .u8 (t 1), .int .u8 (t 2), .int .u8 (t 3), .int .u8 (t 4), .int .u8 (t 5), .int .u32 tip] 44)) ⟨w.heap.size, 13, none⟩ = some (Value.int .u8 (t 5)) := B0.out.cell 13
      have p14 : World.cell? (w6.alloc (.cells #[.int .i64 op, .int .u8 (m 0), .int .u8 (m 1), .int .u8 (m 2), .int .u8 (m 3), .int .u8 (m 4), .int .u8 (m 5), .int .u32 ip, .int .u8 (t 0), .int .u8 (t 1), .int .u8 (t 2), .int .u8 (t 3), .int .u8 (t 4), .int .u8 (t 5), .int .u32 tip] 44)) ⟨w.heap.size, 14, none⟩ = some (Value.int .u32 tip) := B0.out.cell 14
      have d1 : decide (op < 1) = false := decide_eq_false (by omega)
      have d2 : decide (2 < op) = false := decide_eq_false (by omega)
      have m0 := HM0.out
      have m1 : 0 ≤ m 0 := m0.1
      have m2 : m 0 < 256 := m0.2
      have hod : (m 0 % 2 == 1) = false := by clear d1 d2; simp at ho ⊢; omega
      clear m0 ho hop
      have hee : ∀ w, (binOp .eql 44 (.agg #[.int .i64 op, .int .u8 (m 0), .int .u8 (m 1), .int .u8 (m 2), .int .u8 (m 3), .int .u8 (m 4), .int .u8 (m 5), .int .u32 ip, .int .u8 (t 0), .int .u8 (t 1), .int .u8 (t 2), .int .u8 (t 3), .int .u8 (t 4), .int .u8 (t 5), .int .u32 tip]) (.agg #[.int .i64 op, .int .u8 (m 0), .int .u8 (m 1), .int .u8 (m 2), .int .u8 (m 3), .int .u8 (m 4), .int .u8 (m 5), .int .u32 ip, .int .u8 (t 0), .int .u8 (t 1), .int .u8 (t 2), .int .u8 (t 3), .int .u8 (t 4), .int .u8 (t 5), .int .u32 tip])).run Tryd.prog w = .ok (.bool true) w := fun w => run_eql_pkt_refl w op m ip t tip
      have he1 : ∀ w, (Op.equalIn 9999 41 (.agg #[.int .u8 (m 0), .int .u8 (m 1), .int .u8 (m 2), .int .u8 (m 3), .int .u8 (m 4), .int .u8 (m 5)]) (.agg #[.int .u8 (m 0), .int .u8 (m 1), .int .u8 (m 2), .int .u8 (m 3), .int .u8 (m 4), .int .u8 (m 5)])).run Tryd.prog w = .ok true w := fun w => by have h := run_equalIn_mac w 9997 m m; rw [macEq_refl] at h; exact h
      have he2 : ∀ w, (Op.equalIn 9999 41 (.agg #[.int .u8 (t 0), .int .u8 (t 1), .int .u8 (t 2), .int .u8 (t 3), .int .u8 (t 4), .int .u8 (t 5)]) (.agg #[.int .u8 (t 0), .int .u8 (t 1), .int .u8 (t 2), .int .u8 (t 3), .int .u8 (t 4), .int .u8 (t 5)])).run Tryd.prog w = .ok true w := fun w => by have h := run_equalIn_mac w 9997 t t; rw [macEq_refl] at h; exact h
      go_wp2_with fail
      go_ret
      exact ⟨rfl, K.out⟩
    · as_aux_lemma =>
      refine (podd g5 c5 (28 + 3) (L ++ [1, 2, 3]) _ R5.out HB5.out HL5.out (by omega) (by omega) hc5 (HBA.out.trans (HBP.out hop)) (by rw [HG8.out, HGP.out]; exact ho)).mono ?_
      rintro ev w6 ⟨v6, rfl, c6, k6⟩
      obtain ⟨x6, rfl⟩ := chain_if c6
      have kA := k6.alloc (.cells #[.int .i64 0, .int .u8 0, .int .u8 0, .int .u8 0, .int .u8 0, .int .u8 0, .int .u8 0, .int .u32 0, .int .u8 0, .int .u8 0, .int .u8 0, .int .u8 0, .int .u8 0, .int .u8 0, .int .u32 0] 44)
      have K := Lib.hid (K.out.trans' kA)
      have E := Lib.hid (E.out.kept kA (fun f => f))
      have B0 := Lib.hid (B0.out.kept kA (fun f => f))
      have C6 := Lib.hid (c6.none_kept ((Kp.refl (fun _ => False) w6).alloc (.cells #[.int .i64 0, .int .u8 0, .int .u8 0, .int .u8 0, .int .u8 0, .int .u8 0, .int .u8 0, .int .u32 0, .int .u8 0, .int .u8 0, .int .u8 0, .int .u8 0, .int .u8 0, .int .u8 0, .int .u32 0] 44)))
      clear c6
      clear kA k6 R5 HB5 HL5 HBA HG8 HPA HBP HGP HPP
      have p0 : World.cell? (w6.alloc (.cells #[.int .i64 0, .int .u8 0, .int .u8 0, .int .u8 0, .int .u8 0, .int .u8 0, .int .u8 0, .int .u32 0, .int .u8 0, .int .u8 0, .int .u8 0, .int .u8 0, .int .u8 0, .int .u8 0, .int .u32 0] 44)) ⟨w.heap.size, 0, none⟩ = some (Value.int .i64 op) := B0.out.cell 0
      have p1 : World.cell? (w6.alloc (.cells #[.int .i64 0, .int .u8 0, .int .u8 0, .int .u8 0, .int .u8 0, .int .u8 0, .int .u8 0, .int .u32 0, .int .u8 0, .int .u8 0, .int .u8 0, .int .u8 0, .int .u8 0, .int .u8 0, .int .u32 0] 44)) ⟨w.heap.size, 1, none⟩ = some (Value.int .u8 (m 0)) := B0.out.cell 1
      have p2 : World.cell? (w6.alloc (.cells #[.int .i64 0, .int .u8 0, .int .u8 0, .int .u8 0, .int .u8 0, .int .u8 0, .int .u8 0, .int .u32 0, .int .u8 0, .int .u8 0, .int .u8 0, .int .u8 0, .int .u8 0, .int .u8 0, .int .u32 0] 44)) ⟨w.heap.size, 2, none⟩ = some (Value.int .u8 (m 1)) := B0.out.cell 2
      have p3 : World.cell? (w6.alloc (.cells #[.int .i64 0, .int .u8 0, .int .u8 0, .int .u8 0, .int .u8 0, .int .u8 0, .int .u8 0, .int .u32 0, .int .u8 0, .int .u8 0, .int .u8 0, .int .u8 0, .int .u8 0, .int .u8 0, .int .u32 0] 44)) ⟨w.heap.size, 3, none⟩ = some (Value.int .u8 (m 2)) := B0.out.cell 3
      have p4 : World.cell? (w6.alloc (.cells #[.int .i64 0, .int .u8 0, .int .u8 0, .int .u8 0, .int .u8 0, .int .u8 0, .int .u8 0, .int .u32 0, .int .u8 0, .int .u8 0, .int .u8 0, .int .u8 0, .int .u8 0, .int .u8 0, .int .u32 0] 44)) ⟨w.heap.size, 4, none⟩ = some (Value.int .u8 (m 3)) := B0.out.cell 4
      have p5 : World.cell? (w6.alloc (.cells #[.int .i64 0, .int .u8 0, .int .u8 0, .int .u8 0, .int .u8 0, .int .u8 0, .int .u8 0, .int .u32 0, .int .u8 0, .int .u8 0, .int .u8 0, .int .u8 0, .int .u8 0, .int .u8 0, .int .u32 0] 44)) ⟨w.heap.size, 5, none⟩ = some (Value.int .u8 (m 4)) := B0.out.cell 5
      have p6 : World.cell? (w6.alloc (.cells #[.int .i64 0, .int .u8 0, .int .u8 0, .int .u8 0, .int .u8 0, .int .u8 0, .int .u8 0, .int .u32 0, .int .u8 0, .int .u8 0, .int .u8 0, .int .u8 0, .int .u8 0, .int .u8 0, .int .u32 0] 44)) ⟨w.heap.size, 6, none⟩ = some (Value.int .u8 (m 5)) := B0.out.cell 6
      have p7 : World.cell? (w6.alloc (.cells #[.int .i64 0, .int .u8 0, .int .u8 0, .int .u8 0, .int .u8 0, .int .u8 0, .int .u8 0, .int .u32 0, .int .u8 0, .int .u8 0, .int .u8 0, .int .u8 0, .int .u8 0, .int .u8 0, .int .u32 0] 44)) ⟨w.heap.size, 7, none⟩ = some (Value.int .u32 ip) := B0.out.cell 7
      have p8 : World.cell? (w6.alloc (.cells #[.int .i64 0, .int .u8 0, .int .u8 0, .int .u8 0, .int .u8 0, .int .u8 0, .int .u8 0, .int .u32 0, .int .u8 0, .int .u8 0, .int .u8 0, .int .u8 0, .int .u8 0, .int .u8 0, .int .u32 0] 44)) ⟨w.heap.size, 8, none⟩ = some (Value.int .u8 (t 0)) := B0.out.cell 8
      have p9 : World.cell? (w6.alloc (.cells #[.int .i64 0, .int .u8 0, .int .u8 0, .int .u8 0, .int .u8 0, .int .u8 0, .int .u8 0, .int .u32 0, .int .u8 0, .int .u8 0, .int .u8 0, .int .u8 0, .int .u8 0, .int .u8 0, .int .u32 0] 44)) ⟨w.heap.size, 9, none⟩ = some (Value.int .u8 (t 1)) := B0.out.cell 9
      have p10 : World.cell? (w6.alloc (.cells #[.int .i64 0, .int .u8 0, .int .u8 0, .int .u8 0, .int .u8 0, .int .u8 0, .int .u8 0, .int .u32 0, .int .u8 0, .int .u8 0, .int .u8 0, .int .u8 0, .int .u8 0, .int .u8 0, .int .u32 0] 44)) ⟨w.heap.size, 10, none⟩ = some (Value.int .u8 (t 2)) := B0.out.cell 10
      have p11 : World.cell? (w6.alloc (.cells #[.int .i64 0, .int .u8 0, .int .u8 0, .int .u8 0, .int .u8 0, .int .u8 0, .int .u8 0, .int .u32 0, .int .u8 0, .int .u8 0, .int .u8 0, .int .u8 0, .int .u8 0, .int .u8 0, .int .u32 0] 44)) ⟨w.heap.size, 11, none⟩ = some (Value.int .u8 (t 3)) := B0.out.cell 11
      have p12 : World.cell? (w6.alloc (.cells #[.int .i64 0, .int .u8 0, .int .u8 0, .int .u8 0, .int .u8 0, .int .u8 0, .int .u8 0, .int .u32 0, .int .u8 0, .int .u8 0, .int .u8 0, .int .u8 0, .int .u8 0, .int .u8 0, .int .u32 0] 44)) ⟨w.heap.size, 12, none⟩ = some (Value.int .u8 (t 4)) := B0.out.cell 12
      have p13 : World.cell? (w6.alloc (.cells #[.int .i64 0, .int .u8 0, .int .u8 0, .int .u8 0, .int .u8 0, .int .u8 0, .int .u8 0, .int .u32 0, .int .u8 0, .int .u8 0, .int .u8 0, .int .u8 0, .int .u8 0, .int .u8 0, .int .u32 0] 44)) ⟨w.heap.size, 13, none⟩ = some (Value.int .u8 (t 5)) := B0.out.cell 13
      have p14 : World.cell? (w6.alloc (.cells #[.int .i64 0, .int .u8 0, .int .u8 0, .int .u8 0, .int .u8 0, .int .u8 0, .int .u8 0, .int .u32 0, .int .u8 0, .int .u8 0, .int .u8 0, .int .u8 0, .int .u8 0, .int .u8 0, .int .u32 0] 44)) ⟨w.heap.size, 14, none⟩ = some (Value.int .u32 tip) := B0.out.cell 14
      have d1 : decide (op < 1) = false := decide_eq_false (by omega)
      have d2 : decide (2 < op) = false := decide_eq_false (by omega)
      have m0 := HM0.out
      have m1 : 0 ≤ m 0 := m0.1
      have m2 : m 0 < 256 := m0.2
      have hod : (m 0 % 2 == 1) = true := by clear d1 d2; simp at ho ⊢; omega
      clear m0 ho hop
      go_wp2_with fail
      refine (whyIs_k [1] 10 10 _ _ C6.out).mono ?_
      rintro ev w7 ⟨rfl, k7⟩
      rw [show ((10 : Int) == 10) = true by decide]
      go_wp2_with fail
      go_ret
      exact ⟨rfl, K.out.trans' k7⟩
  · as_aux_lemma =>
    refine (pany g5 c5 (28 + 3) (L ++ [1, 2, 3]) _ R5.out HB5.out HL5.out (by omega) (by omega) hc5).mono ?_
    rintro ev w6 ⟨a, mm, ii, tt, ti, v6, rfl, k6⟩
    have kA := k6.alloc (.cells #[.int .i64 a, .int .u8 (mm 0), .int .u8 (mm 1), .int .u8 (mm 2), .int .u8 (mm 3), .int .u8 (mm 4), .int .u8 (mm 5), .int .u32 ii, .int .u8 (tt 0), .int .u8 (tt 1), .int .u8 (tt 2), .int .u8 (tt 3), .int .u8 (tt 4), .int .u8 (tt 5), .int .u32 ti] 44)
    have K := Lib.hid (K.out.trans' kA)
    have E := Lib.hid (E.out.kept kA (fun f => f))
    have B0 := Lib.hid (B0.out.kept kA (fun f => f))
    clear kA k6 R5 HB5 HL5 HBA HG8 HPA HBP HGP HPP
    have p0 : World.cell? (w6.alloc (.cells #[.int .i64 a, .int .u8 (mm 0), .int .u8 (mm 1), .int .u8 (mm 2), .int .u8 (mm 3), .int .u8 (mm 4), .int .u8 (mm 5), .int .u32 ii, .int .u8 (tt 0), .int .u8 (tt 1), .int .u8 (tt 2), .int .u8 (tt 3), .int .u8 (tt 4), .int .u8 (tt 5), .int .u32 ti] 44)) ⟨w.heap.size, 0, none⟩ = some (Value.int .i64 op) := B0.out.cell 0
    have p1 : World.cell? (w6.alloc (.cells #[.int .i64 a, .int .u8 (mm 0), .int .u8 (mm 1), .int .u8 (mm 2), .int .u8 (mm 3), .int .u8 (mm 4), .int .u8 (mm 5), .int .u32 ii, .int .u8 (tt 0), .int .u8 (tt 1), .int .u8 (tt 2), .int .u8 (tt 3), .int .u8 (tt 4), .int .u8 (tt 5), .int .u32 ti] 44)) ⟨w.heap.size, 1, none⟩ = some (Value.int .u8 (m 0)) := B0.out.cell 1
    have p2 : World.cell? (w6.alloc (.cells #[.int .i64 a, .int .u8 (mm 0), .int .u8 (mm 1), .int .u8 (mm 2), .int .u8 (mm 3), .int .u8 (mm 4), .int .u8 (mm 5), .int .u32 ii, .int .u8 (tt 0), .int .u8 (tt 1), .int .u8 (tt 2), .int .u8 (tt 3), .int .u8 (tt 4), .int .u8 (tt 5), .int .u32 ti] 44)) ⟨w.heap.size, 2, none⟩ = some (Value.int .u8 (m 1)) := B0.out.cell 2
    have p3 : World.cell? (w6.alloc (.cells #[.int .i64 a, .int .u8 (mm 0), .int .u8 (mm 1), .int .u8 (mm 2), .int .u8 (mm 3), .int .u8 (mm 4), .int .u8 (mm 5), .int .u32 ii, .int .u8 (tt 0), .int .u8 (tt 1), .int .u8 (tt 2), .int .u8 (tt 3), .int .u8 (tt 4), .int .u8 (tt 5), .int .u32 ti] 44)) ⟨w.heap.size, 3, none⟩ = some (Value.int .u8 (m 2)) := B0.out.cell 3
    have p4 : World.cell? (w6.alloc (.cells #[.int .i64 a, .int .u8 (mm 0), .int .u8 (mm 1), .int .u8 (mm 2), .int .u8 (mm 3), .int .u8 (mm 4), .int .u8 (mm 5), .int .u32 ii, .int .u8 (tt 0), .int .u8 (tt 1), .int .u8 (tt 2), .int .u8 (tt 3), .int .u8 (tt 4), .int .u8 (tt 5), .int .u32 ti] 44)) ⟨w.heap.size, 4, none⟩ = some (Value.int .u8 (m 3)) := B0.out.cell 4
    have p5 : World.cell? (w6.alloc (.cells #[.int .i64 a, .int .u8 (mm 0), .int .u8 (mm 1), .int .u8 (mm 2), .int .u8 (mm 3), .int .u8 (mm 4), .int .u8 (mm 5), .int .u32 ii, .int .u8 (tt 0), .int .u8 (tt 1), .int .u8 (tt 2), .int .u8 (tt 3), .int .u8 (tt 4), .int .u8 (tt 5), .int .u32 ti] 44)) ⟨w.heap.size, 5, none⟩ = some (Value.int .u8 (m 4)) := B0.out.cell 5
    have p6 : World.cell? (w6.alloc (.cells #[.int .i64 a, .int .u8 (mm 0), .int .u8 (mm 1), .int .u8 (mm 2), .int .u8 (mm 3), .int .u8 (mm 4), .int .u8 (mm 5), .int .u32 ii, .int .u8 (tt 0), .int .u8 (tt 1), .int .u8 (tt 2), .int .u8 (tt 3), .int .u8 (tt 4), .int .u8 (tt 5), .int .u32 ti] 44)) ⟨w.heap.size, 6, none⟩ = some (Value.int .u8 (m 5)) := B0.out.cell 6
    have p7 : World.cell? (w6.alloc (.cells #[.int .i64 a, .int .u8 (mm 0), .int .u8 (mm 1), .int .u8 (mm 2), .int .u8 (mm 3), .int .u8 (mm 4), .int .u8 (mm 5), .int .u32 ii, .int .u8 (tt 0), .int .u8 (tt 1), .int .u8 (tt 2), .int .u8 (tt 3), .int .u8 (tt 4), .int .u8 (tt 5), .int .u32 ti] 44)) ⟨w.heap.size, 7, none⟩ = some (Value.int .u32 ip) := B0.out.cell 7
    have p8 : World.cell? (w6.alloc (.cells #[.int .i64 a, .int .u8 (mm 0), .int .u8 (mm 1), .int .u8 (mm 2), .int .u8 (mm 3), .int .u8 (mm 4), .int .u8 (mm 5), .int .u32 ii, .int .u8 (tt 0), .int .u8 (tt 1), .int .u8 (tt 2), .int .u8 (tt 3), .int .u8 (tt 4), .int .u8 (tt 5), .int .u32 ti] 44)) ⟨w.heap.size, 8, none⟩ = some (Value.int .u8 (t 0)) := B0.out.cell 8
    have p9 : World.cell? (w6.alloc (.cells #[.int .i64 a, .int .u8 (mm 0), .int .u8 (mm 1), .int .u8 (mm 2), .int .u8 (mm 3), .int .u8 (mm 4), .int .u8 (mm 5), .int .u32 ii, .int .u8 (tt 0), .int .u8 (tt 1), .int .u8 (tt 2), .int .u8 (tt 3), .int .u8 (tt 4), .int .u8 (tt 5), .int .u32 ti] 44)) ⟨w.heap.size, 9, none⟩ = some (Value.int .u8 (t 1)) := B0.out.cell 9
    have p10 : World.cell? (w6.alloc (.cells #[.int .i64 a, .int .u8 (mm 0), .int .u8 (mm 1), .int .u8 (mm 2), .int .u8 (mm 3), .int .u8 (mm 4), .int .u8 (mm 5), .int .u32 ii, .int .u8 (tt 0), .int .u8 (tt 1), .int .u8 (tt 2), .int .u8 (tt 3), .int .u8 (tt 4), .int .u8 (tt 5), .int .u32 ti] 44)) ⟨w.heap.size, 10, none⟩ = some (Value.int .u8 (t 2)) := B0.out.cell 10
    have p11 : World.cell? (w6.alloc (.cells #[.int .i64 a, .int .u8 (mm 0), .int .u8 (mm 1), .int .u8 (mm 2), .int .u8 (mm 3), .int .u8 (mm 4), .int .u8 (mm 5), .int .u32 ii, .int .u8 (tt 0), .int .u8 (tt 1), .int .u8 (tt 2), .int .u8 (tt 3), .int .u8 (tt 4), .int .u8 (tt 5), .int .u32 ti] 44)) ⟨w.heap.size, 11, none⟩ = some (Value.int .u8 (t 3)) := B0.out.cell 11
    have p12 : World.cell? (w6.alloc (.cells #[.int .i64 a, .int .u8 (mm 0), .int .u8 (mm 1), .int .u8 (mm 2), .int .u8 (mm 3), .int .u8 (mm 4), .int .u8 (mm 5), .int .u32 ii, .int .u8 (tt 0), .int .u8 (tt 1), .int .u8 (tt 2), .int .u8 (tt 3), .int .u8 (tt 4), .int .u8 (tt 5), .int .u32 ti] 44)) ⟨w.heap.size, 12, none⟩ = some (Value.int .u8 (t 4)) := B0.out.cell 12
    have p13 : World.cell? (w6.alloc (.cells #[.int .i64 a, .int .u8 (mm 0), .int .u8 (mm 1), .int .u8 (mm 2), .int .u8 (mm 3), .int .u8 (mm 4), .int .u8 (mm 5), .int .u32 ii, .int .u8 (tt 0), .int .u8 (tt 1), .int .u8 (tt 2), .int .u8 (tt 3), .int .u8 (tt 4), .int .u8 (tt 5), .int .u32 ti] 44)) ⟨w.heap.size, 13, none⟩ = some (Value.int .u8 (t 5)) := B0.out.cell 13
    have p14 : World.cell? (w6.alloc (.cells #[.int .i64 a, .int .u8 (mm 0), .int .u8 (mm 1), .int .u8 (mm 2), .int .u8 (mm 3), .int .u8 (mm 4), .int .u8 (mm 5), .int .u32 ii, .int .u8 (tt 0), .int .u8 (tt 1), .int .u8 (tt 2), .int .u8 (tt 3), .int .u8 (tt 4), .int .u8 (tt 5), .int .u32 ti] 44)) ⟨w.heap.size, 14, none⟩ = some (Value.int .u32 tip) := B0.out.cell 14
    by_cases h1 : op < 1
    · go_wp2_with fail
      go_ret
      exact ⟨rfl, K.out⟩
    · have h2 : 2 < op := by omega
      have h1' : decide (op < 1) = false := decide_eq_false h1
      clear h1
      go_wp2_with fail
      go_ret
      exact ⟨rfl, K.out⟩
end Go.Proofs.YtfhhmehlkjaibaaDoor
