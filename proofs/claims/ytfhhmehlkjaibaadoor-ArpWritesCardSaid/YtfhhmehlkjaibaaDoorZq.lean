/- Arp: the walk of ArpCuts. -/
import Derived.Test.YtfhhmehlkjaibaaDoorZo
set_option linter.unusedVariables false
set_option linter.unusedSimpArgs false
namespace Go.Proofs.YtfhhmehlkjaibaaDoor
open Go.RowKit

/-- Is it none? -/
def errB (xs : List Int) : Bool := badOf xs || (xs.getD 8 0 % 2 != 0)
theorem ptwo_err (b c n : Nat) (xs : List Int) (w : World) (hx : RdI w .u8 (some ⟨b, 0, none⟩) xs) (hb : Byt xs) (hn : xs.length = n) (h1 : 28 ≤ n) (h2 : n ≤ 100000) (hc : n ≤ c) (he : errB xs = true) :
    Calls Tryd.prog 18 #[.slice (some ⟨b, 0, none⟩) n c] w fun ev w' => ∃ v e r, ev = .returned (.tuple #[.agg #[.int .i64 0, .int .u8 0, .int .u8 0, .int .u8 0, .int .u8 0, .int .u8 0, .int .u8 0, .int .u32 0, .int .u8 0, .int .u8 0, .int .u8 0, .int .u8 0, .int .u8 0, .int .u8 0, .int .u32 0], v]) ∧ Chain w' e [r] v ∧ Kp (fun _ => False) w w' := by
  refine (parse_any b 0 c n xs w hx hb hn h1 h2 hc).mono ?_
  rintro ev w' (⟨_, ⟨v, rfl, c1⟩, k⟩ | ⟨_, _, ⟨v, rfl, c1⟩, k⟩ | ⟨g1, g2, _⟩)
  · exact ⟨v, _, _, rfl, c1, k⟩
  · exact ⟨v, _, _, rfl, c1, k⟩
  · rw [errB, g1, g2] at he; cases he
theorem ptwo_ok (b c n : Nat) (xs : List Int) (y : Nat → Nat) (w : World) (hx : RdI w .u8 (some ⟨b, 0, none⟩) xs) (hb : Byt xs) (hn : xs.length = n) (h1 : 28 ≤ n) (h2 : n ≤ 100000) (hc : n ≤ c) (he : errB xs = false) (hy : pktOf (nat xs) = pktOf y) :
    Calls Tryd.prog 18 #[.slice (some ⟨b, 0, none⟩) n c] w fun ev w' => ev = .returned (.tuple #[.agg #[.int .i64 (n2 y 6), .int .u8 (y 8), .int .u8 (y 9), .int .u8 (y 10), .int .u8 (y 11), .int .u8 (y 12), .int .u8 (y 13), .int .u32 (n4 y 14), .int .u8 (y 18), .int .u8 (y 19), .int .u8 (y 20), .int .u8 (y 21), .int .u8 (y 22), .int .u8 (y 23), .int .u32 (n4 y 24)], .nilIface]) ∧ Kp (fun _ => False) w w' := by
  refine (parse_any b 0 c n xs w hx hb hn h1 h2 hc).mono ?_
  rintro ev w' (⟨g1, _⟩ | ⟨_, g2, _⟩ | ⟨_, _, rfl, k⟩)
  · rw [errB, g1] at he; simp at he
  · rw [errB, g2] at he; simp at he
  · rw [hy]
    exact ⟨rfl, k⟩
theorem nat_app (L x : List Int) (h : L.length = 28) (j : Nat) (hj : j < 28) : nat (L ++ x) j = nat L j := by
  unfold nat
  rw [List.getD_eq_getElem?_getD, List.getD_eq_getElem?_getD, List.getElem?_append_left (by omega)]
theorem errB_app (L x : List Int) (h : L.length = 28) : errB (L ++ x) = errB L := by
  have h8 : (L ++ x).getD 8 0 = L.getD 8 0 := by rw [List.getD_eq_getElem?_getD, List.getD_eq_getElem?_getD, List.getElem?_append_left (by omega)]
  have ht : (L ++ x).take 6 = L.take 6 := by rw [List.take_append_of_le_length (by omega)]
  unfold errB badOf n2
  rw [h8, ht, nat_app L x h 6 (by omega), nat_app L x h (6 + 1) (by omega)]
theorem pktOf_app (L x : List Int) (h : L.length = 28) : pktOf (nat (L ++ x)) = pktOf (nat L) := by
  unfold pktOf pkt n2 n4
  simp only [nat_app L x h 6 (by omega), nat_app L x h 7 (by omega), nat_app L x h 8 (by omega), nat_app L x h 9 (by omega), nat_app L x h 10 (by omega), nat_app L x h 11 (by omega), nat_app L x h 12 (by omega), nat_app L x h 13 (by omega), nat_app L x h 14 (by omega), nat_app L x h 15 (by omega), nat_app L x h 16 (by omega), nat_app L x h 17 (by omega), nat_app L x h 18 (by omega), nat_app L x h 19 (by omega), nat_app L x h 20 (by omega), nat_app L x h 21 (by omega), nat_app L x h 22 (by omega), nat_app L x h 23 (by omega), nat_app L x h 24 (by omega), nat_app L x h 25 (by omega), nat_app L x h 26 (by omega), nat_app L x h 27 (by omega), Nat.reduceAdd]
theorem byt_four {v : Nat} (h : v < 4294967296) : Byt (four v) := by
  refine byt_of _ ?_
  simp [four]
  omega
theorem byt_pbytes {op : Int} {m t : Nat → Int} {ip tip : Nat} (hm : Oct m) (ht : Oct t) (hi : ip < 4294967296) (hj : tip < 4294967296) : Byt (pbytes op m ip t tip) := by
  refine byt_append (byt_append (byt_append (byt_append (byt_append (byt_of _ (by decide)) (byt_of _ ?_)) (byt_mac hm)) (byt_four hi)) (byt_mac ht)) (byt_four hj)
  simp
  omega
theorem pbytes_len (op : Int) (m t : Nat → Int) (ip tip : Nat) : (pbytes op m ip t tip).length = 28 := by simp [pbytes, macL, four]
theorem run_neq_pkt_refl (w : World) (y : Nat → Nat) : (binOp .neq 44 (.agg #[.int .i64 (n2 y 6), .int .u8 (y 8), .int .u8 (y 9), .int .u8 (y 10), .int .u8 (y 11), .int .u8 (y 12), .int .u8 (y 13), .int .u32 (n4 y 14), .int .u8 (y 18), .int .u8 (y 19), .int .u8 (y 20), .int .u8 (y 21), .int .u8 (y 22), .int .u8 (y 23), .int .u32 (n4 y 24)]) (.agg #[.int .i64 (n2 y 6), .int .u8 (y 8), .int .u8 (y 9), .int .u8 (y 10), .int .u8 (y 11), .int .u8 (y 12), .int .u8 (y 13), .int .u32 (n4 y 14), .int .u8 (y 18), .int .u8 (y 19), .int .u8 (y 20), .int .u8 (y 21), .int .u8 (y 22), .int .u8 (y 23), .int .u32 (n4 y 24)])).run Tryd.prog w = .ok (.bool false) w := by
  rw [run_neq_struct, show (#[.int .i64 (n2 y 6), .int .u8 (y 8), .int .u8 (y 9), .int .u8 (y 10), .int .u8 (y 11), .int .u8 (y 12), .int .u8 (y 13), .int .u32 (n4 y 14), .int .u8 (y 18), .int .u8 (y 19), .int .u8 (y 20), .int .u8 (y 21), .int .u8 (y 22), .int .u8 (y 23), .int .u32 (n4 y 24)] : Array Value) = pkt (n2 y 6) (fun i => y (8 + i)) (n4 y 14) (fun i => y (18 + i)) (n4 y 24) from rfl, run_equalIn_pkt w 9997]
  simp [pktEq, macEq_refl]
set_option maxRecDepth 1000000 in
set_option maxHeartbeats 40000000 in
theorem cuts_walk (op : Int) (m t : Nat → Int) (ip tip : Nat) (A : Option Addr) (c : Nat) (x : List Int) (cut : Int) (w : World) (hE : Et w) (hm : Oct m) (hi : ip < 4294967296) (ht : Oct t) (hj : tip < 4294967296)
    (hx : RdI w .u8 A x) (hxb : Byt x) (h0 : A = none → c = 0) (hxc : x.length ≤ c) :
    Calls Tryd.prog 7 #[.agg (pkt op m ip t tip), .slice A x.length c, .int .i64 cut] w fun ev w' => ev = .returned (.bool true) ∧ Kp (fun _ => False) w w' := by
  obtain ⟨n, hn⟩ : ∃ n, x.length = n := ⟨_, rfl⟩
  rw [hn] at hxc ⊢
  have K := Lib.hid ((Kp.refl (fun _ => False) w).alloc (.cells #[.int .i64 op, .int .u8 (m 0), .int .u8 (m 1), .int .u8 (m 2), .int .u8 (m 3), .int .u8 (m 4), .int .u8 (m 5), .int .u32 ip, .int .u8 (t 0), .int .u8 (t 1), .int .u8 (t 2), .int .u8 (t 3), .int .u8 (t 4), .int .u8 (t 5), .int .u32 tip] 44))
  have B0 := Lib.hid (Bk.new w 44 #[.int .i64 op, .int .u8 (m 0), .int .u8 (m 1), .int .u8 (m 2), .int .u8 (m 3), .int .u8 (m 4), .int .u8 (m 5), .int .u32 ip, .int .u8 (t 0), .int .u8 (t 1), .int .u8 (t 2), .int .u8 (t 3), .int .u8 (t 4), .int .u8 (t 5), .int .u32 tip])
  have E := Lib.hid (hE.kept K.out (fun x => x))
  have RX := Lib.hid (hx.kp K.out (fun _ _ _ f => f))
  have HBL := Lib.hid (byt_pbytes (op := op) hm ht hi hj)
  have HLL := Lib.hid (pbytes_len op m t ip tip)
  have hb : ∀ w', Calls Tryd.prog 23 #[.agg #[.int .i64 op, .int .u8 (m 0), .int .u8 (m 1), .int .u8 (m 2), .int .u8 (m 3), .int .u8 (m 4), .int .u8 (m 5), .int .u32 ip, .int .u8 (t 0), .int .u8 (t 1), .int .u8 (t 2), .int .u8 (t 3), .int .u8 (t 4), .int .u8 (t 5), .int .u32 tip]] w' fun ev w'' => ∃ s, ev = .returned s ∧ w''.ownsRow w'.heap.size 5 1 s 28 (intsK .u8 (pbytes op m ip t tip)) ∧ Kp (fun _ => False) w' w'' := fun w' => pbytes_any op m t ip tip w' hi hj
  obtain ⟨L, hL⟩ : ∃ L, pbytes op m ip t tip = L := ⟨_, rfl⟩
  rw [hL] at HBL HLL
  simp only [hL] at hb
  have HB := Lib.hid hb
  have HXB := Lib.hid hxb
  have HN := Lib.hid hn
  have H0 := Lib.hid h0
  clear hE hx hb hL hxb hn h0 hm ht hi hj
  generalize hG : Value.agg (pkt op m ip t tip) = G
  have hG' : G = .agg #[.int .i64 op, .int .u8 (m 0), .int .u8 (m 1), .int .u8 (m 2), .int .u8 (m 3), .int .u8 (m 4), .int .u8 (m 5), .int .u32 ip, .int .u8 (t 0), .int .u8 (t 1), .int .u8 (t 2), .int .u8 (t 3), .int .u8 (t 4), .int .u8 (t 5), .int .u32 tip] := hG.symm
  subst hG'
  clear hG
  go_enter Tryd.func7, Tryd.ntmps7
  go_wp2_with fail
  refine (alive06 _ E.out).mono ?_
  rintro ev w1 ⟨rfl, k1⟩
  have K := Lib.hid (K.out.trans' k1)
  have E := Lib.hid (E.out.kept k1 (fun f => f))
  have RX := Lib.hid (RX.out.kp k1 (fun _ _ _ f => f))
  have B0 := Lib.hid (B0.out.kept k1 (fun f => f))
  clear k1
  have p0 : World.cell? w1 ⟨w.heap.size, 0, none⟩ = some (Value.int .i64 op) := B0.out.cell 0
  have p1 : World.cell? w1 ⟨w.heap.size, 1, none⟩ = some (Value.int .u8 (m 0)) := B0.out.cell 1
  have p2 : World.cell? w1 ⟨w.heap.size, 2, none⟩ = some (Value.int .u8 (m 1)) := B0.out.cell 2
  have p3 : World.cell? w1 ⟨w.heap.size, 3, none⟩ = some (Value.int .u8 (m 2)) := B0.out.cell 3
  have p4 : World.cell? w1 ⟨w.heap.size, 4, none⟩ = some (Value.int .u8 (m 3)) := B0.out.cell 4
  have p5 : World.cell? w1 ⟨w.heap.size, 5, none⟩ = some (Value.int .u8 (m 4)) := B0.out.cell 5
  have p6 : World.cell? w1 ⟨w.heap.size, 6, none⟩ = some (Value.int .u8 (m 5)) := B0.out.cell 6
  have p7 : World.cell? w1 ⟨w.heap.size, 7, none⟩ = some (Value.int .u32 ip) := B0.out.cell 7
  have p8 : World.cell? w1 ⟨w.heap.size, 8, none⟩ = some (Value.int .u8 (t 0)) := B0.out.cell 8
  have p9 : World.cell? w1 ⟨w.heap.size, 9, none⟩ = some (Value.int .u8 (t 1)) := B0.out.cell 9
  have p10 : World.cell? w1 ⟨w.heap.size, 10, none⟩ = some (Value.int .u8 (t 2)) := B0.out.cell 10
  have p11 : World.cell? w1 ⟨w.heap.size, 11, none⟩ = some (Value.int .u8 (t 3)) := B0.out.cell 11
  have p12 : World.cell? w1 ⟨w.heap.size, 12, none⟩ = some (Value.int .u8 (t 4)) := B0.out.cell 12
  have p13 : World.cell? w1 ⟨w.heap.size, 13, none⟩ = some (Value.int .u8 (t 5)) := B0.out.cell 13
  have p14 : World.cell? w1 ⟨w.heap.size, 14, none⟩ = some (Value.int .u32 tip) := B0.out.cell 14
  go_wp2_with fail
  refine (HB.out _).mono ?_
  rintro ev w2 ⟨s2, rfl, own2, k2⟩
  obtain ⟨g, d, rfl, hd, _, _⟩ := own_form own2 (by omega)
  have O := Lib.hid own2
  have K := Lib.hid (K.out.trans' k2)
  have E := Lib.hid (E.out.kept k2 (fun f => f))
  have RX := Lib.hid (RX.out.kp k2 (fun _ _ _ f => f))
  clear k2 own2 B0
  clear p0 p1 p2 p3 p4 p5 p6 p7 p8 p9 p10 p11 p12 p13 p14
  by_cases hbig : 300 < n
  · have hbi : (300 : Int) < (n : Int) := by omega
    go_wp2_with fail
    go_ret
    exact ⟨rfl, K.out⟩
  have hbi : ¬ ((300 : Int) < (n : Int)) := by omega
  go_wp2_with fail
  refine (ownB_any (some ⟨g, 0, none⟩) 28 d L _ (own_rd O.out) HLL.out.symm (by omega) (fun h => by cases h)).mono ?_
  rintro ev w3 ⟨s3, rfl, own3, k3⟩
  have O3 := Lib.hid own3
  have K3 := Lib.hid k3
  have hw3 := k3.size
  have RX3 := Lib.hid (RX.out.kp k3 (fun _ _ _ f => f))
  clear own3 k3
  go_wp2_with
    (at_builtin
     go_must (refine wpList_append_rd rfl (.tmp 31) (.tmp 32) rfl w2.heap.size hw3 s3 28 L rfl O3.out A n c x rfl HN.out.symm RX3.out H0.out (by omega) ?_)
     intro v4 w4 hown hk
     have k24 := K3.out.trans hk (fun j hj hk => absurd (O3.out.lt j hk).1 (by omega))
     have O4 := Lib.hid hown
     have K := Lib.hid (K.out.trans' k24)
     have E := Lib.hid (E.out.kept k24 (fun f => f))
     have RX := Lib.hid (RX.out.kp k24 (fun _ _ _ f => f))
     have O := Lib.hid (own_kp O.out k24 (fun _ _ f => f))
     clear hown hk k24)
  obtain ⟨g4, c4, rfl, hc4, _, _⟩ := own_form O4.out (by omega)
  have HR4 := Lib.hid (own_rd O4.out)
  have HB4 := Lib.hid (byt_append HBL.out HXB.out)
  have HL4 := Lib.hid (show (L ++ x).length = 28 + n by rw [List.length_append, HLL.out, HN.out])
  clear RX O3 K3 RX3 O4 hw3
  have he4 := errB_app L x HLL.out
  have hp4 := pktOf_app L x HLL.out
  obtain ⟨y, hy⟩ : ∃ y, nat L = y := ⟨_, rfl⟩
  obtain ⟨q, hq⟩ : ∃ q, errB L = q := ⟨_, rfl⟩
  rw [hq] at he4
  rw [hy] at hp4
  have HE4 := Lib.hid he4
  have HP4 := Lib.hid hp4
  have HQ := Lib.hid hq
  have HY := Lib.hid hy
  clear he4 hp4 hy hq
  cases q
  · as_aux_lemma =>
    refine (ptwo_ok g4 c4 (28 + n) (L ++ x) y _ HR4.out HB4.out HL4.out (by omega) (by omega) hc4 HE4.out HP4.out).mono ?_
    rintro ev w5 ⟨rfl, k5⟩
    have kA := k5.alloc (.cells #[.int .i64 (n2 y 6), .int .u8 (y 8), .int .u8 (y 9), .int .u8 (y 10), .int .u8 (y 11), .int .u8 (y 12), .int .u8 (y 13), .int .u32 (n4 y 14), .int .u8 (y 18), .int .u8 (y 19), .int .u8 (y 20), .int .u8 (y 21), .int .u8 (y 22), .int .u8 (y 23), .int .u32 (n4 y 24)] 44)
    have K := Lib.hid (K.out.trans' kA)
    have E := Lib.hid (E.out.kept kA (fun f => f))
    have O := Lib.hid (own_kp O.out kA (fun _ _ f => f))
    have B8 := Lib.hid (Bk.new w5 44 #[.int .i64 (n2 y 6), .int .u8 (y 8), .int .u8 (y 9), .int .u8 (y 10), .int .u8 (y 11), .int .u8 (y 12), .int .u8 (y 13), .int .u32 (n4 y 14), .int .u8 (y 18), .int .u8 (y 19), .int .u8 (y 20), .int .u8 (y 21), .int .u8 (y 22), .int .u8 (y 23), .int .u32 (n4 y 24)])
    clear k5 kA HR4
    go_wp2_with fail
    refine (ptwo_ok g d 28 L y _ (own_rd O.out) HBL.out HLL.out (by omega) (by omega) hd HQ.out (by rw [HY.out])).mono ?_
    rintro ev w6 ⟨rfl, k6⟩
    have kA := k6.alloc (.cells #[.int .i64 (n2 y 6), .int .u8 (y 8), .int .u8 (y 9), .int .u8 (y 10), .int .u8 (y 11), .int .u8 (y 12), .int .u8 (y 13), .int .u32 (n4 y 14), .int .u8 (y 18), .int .u8 (y 19), .int .u8 (y 20), .int .u8 (y 21), .int .u8 (y 22), .int .u8 (y 23), .int .u32 (n4 y 24)] 44)
    have K := Lib.hid (K.out.trans' kA)
    have E := Lib.hid (E.out.kept kA (fun f => f))
    have O := Lib.hid (own_kp O.out kA (fun _ _ f => f))
    have B8 := Lib.hid (B8.out.kept kA (fun f => f))
    have BA := Lib.hid (Bk.new w6 44 #[.int .i64 (n2 y 6), .int .u8 (y 8), .int .u8 (y 9), .int .u8 (y 10), .int .u8 (y 11), .int .u8 (y 12), .int .u8 (y 13), .int .u32 (n4 y 14), .int .u8 (y 18), .int .u8 (y 19), .int .u8 (y 20), .int .u8 (y 21), .int .u8 (y 22), .int .u8 (y 23), .int .u32 (n4 y 24)])
    clear k6 kA
    go_upto_region 8 with fail
    generalize w6.alloc (.cells #[.int .i64 (n2 y 6), .int .u8 (y 8), .int .u8 (y 9), .int .u8 (y 10), .int .u8 (y 11), .int .u8 (y 12), .int .u8 (y 13), .int .u32 (n4 y 14), .int .u8 (y 18), .int .u8 (y 19), .int .u8 (y 20), .int .u8 (y 21), .int .u8 (y 22), .int .u8 (y 23), .int .u32 (n4 y 24)] 44) = w7 at *
    have p0 : World.cell? w7 ⟨w5.heap.size, 0, none⟩ = some (Value.int .i64 (n2 y 6)) := B8.out.cell 0
    have p1 : World.cell? w7 ⟨w5.heap.size, 1, none⟩ = some (Value.int .u8 (y 8)) := B8.out.cell 1
    have p2 : World.cell? w7 ⟨w5.heap.size, 2, none⟩ = some (Value.int .u8 (y 9)) := B8.out.cell 2
    have p3 : World.cell? w7 ⟨w5.heap.size, 3, none⟩ = some (Value.int .u8 (y 10)) := B8.out.cell 3
    have p4 : World.cell? w7 ⟨w5.heap.size, 4, none⟩ = some (Value.int .u8 (y 11)) := B8.out.cell 4
    have p5 : World.cell? w7 ⟨w5.heap.size, 5, none⟩ = some (Value.int .u8 (y 12)) := B8.out.cell 5
    have p6 : World.cell? w7 ⟨w5.heap.size, 6, none⟩ = some (Value.int .u8 (y 13)) := B8.out.cell 6
    have p7 : World.cell? w7 ⟨w5.heap.size, 7, none⟩ = some (Value.int .u32 (n4 y 14)) := B8.out.cell 7
    have p8 : World.cell? w7 ⟨w5.heap.size, 8, none⟩ = some (Value.int .u8 (y 18)) := B8.out.cell 8
    have p9 : World.cell? w7 ⟨w5.heap.size, 9, none⟩ = some (Value.int .u8 (y 19)) := B8.out.cell 9
    have p10 : World.cell? w7 ⟨w5.heap.size, 10, none⟩ = some (Value.int .u8 (y 20)) := B8.out.cell 10
    have p11 : World.cell? w7 ⟨w5.heap.size, 11, none⟩ = some (Value.int .u8 (y 21)) := B8.out.cell 11
    have p12 : World.cell? w7 ⟨w5.heap.size, 12, none⟩ = some (Value.int .u8 (y 22)) := B8.out.cell 12
    have p13 : World.cell? w7 ⟨w5.heap.size, 13, none⟩ = some (Value.int .u8 (y 23)) := B8.out.cell 13
    have p14 : World.cell? w7 ⟨w5.heap.size, 14, none⟩ = some (Value.int .u32 (n4 y 24)) := B8.out.cell 14
    have q0 : World.cell? w7 ⟨w6.heap.size, 0, none⟩ = some (Value.int .i64 (n2 y 6)) := BA.out.cell 0
    have q1 : World.cell? w7 ⟨w6.heap.size, 1, none⟩ = some (Value.int .u8 (y 8)) := BA.out.cell 1
    have q2 : World.cell? w7 ⟨w6.heap.size, 2, none⟩ = some (Value.int .u8 (y 9)) := BA.out.cell 2
    have q3 : World.cell? w7 ⟨w6.heap.size, 3, none⟩ = some (Value.int .u8 (y 10)) := BA.out.cell 3
    have q4 : World.cell? w7 ⟨w6.heap.size, 4, none⟩ = some (Value.int .u8 (y 11)) := BA.out.cell 4
    have q5 : World.cell? w7 ⟨w6.heap.size, 5, none⟩ = some (Value.int .u8 (y 12)) := BA.out.cell 5
    have q6 : World.cell? w7 ⟨w6.heap.size, 6, none⟩ = some (Value.int .u8 (y 13)) := BA.out.cell 6
    have q7 : World.cell? w7 ⟨w6.heap.size, 7, none⟩ = some (Value.int .u32 (n4 y 14)) := BA.out.cell 7
    have q8 : World.cell? w7 ⟨w6.heap.size, 8, none⟩ = some (Value.int .u8 (y 18)) := BA.out.cell 8
    have q9 : World.cell? w7 ⟨w6.heap.size, 9, none⟩ = some (Value.int .u8 (y 19)) := BA.out.cell 9
    have q10 : World.cell? w7 ⟨w6.heap.size, 10, none⟩ = some (Value.int .u8 (y 20)) := BA.out.cell 10
    have q11 : World.cell? w7 ⟨w6.heap.size, 11, none⟩ = some (Value.int .u8 (y 21)) := BA.out.cell 11
    have q12 : World.cell? w7 ⟨w6.heap.size, 12, none⟩ = some (Value.int .u8 (y 22)) := BA.out.cell 12
    have q13 : World.cell? w7 ⟨w6.heap.size, 13, none⟩ = some (Value.int .u8 (y 23)) := BA.out.cell 13
    have q14 : World.cell? w7 ⟨w6.heap.size, 14, none⟩ = some (Value.int .u32 (n4 y 24)) := BA.out.cell 14
    have hne : ∀ w, _ = _ := fun w => run_neq_pkt_refl w y
    go_quiet (fail)
    clear p0 p1 p2 p3 p4 p5 p6 p7 p8 p9 p10 p11 p12 p13 p14
    clear q0 q1 q2 q3 q4 q5 q6 q7 q8 q9 q10 q11 q12 q13 q14
    clear hne
    obtain ⟨w8, k8⟩ : ∃ w8, Kp (fun _ => False) w7 w8 ∧ w8 = w7.drewN nq := ⟨_, (Kp.refl _ _).drewN _, rfl⟩
    obtain ⟨k8, h8⟩ := k8
    rw [← h8]
    clear h8
    have K := Lib.hid (K.out.trans' k8)
    have E := Lib.hid (E.out.kept k8 (fun f => f))
    have O := Lib.hid (own_kp O.out k8 (fun _ _ f => f))
    have B8 := Lib.hid (B8.out.kept k8 (fun f => f))
    have BA := Lib.hid (BA.out.kept k8 (fun f => f))
    clear k8
    by_cases hc0 : cut < 0
    · go_wp2_with fail
      go_ret
      exact ⟨rfl, K.out⟩
    by_cases hc1 : 27 < cut
    · go_wp2_with fail
      go_ret
      exact ⟨rfl, K.out⟩
    obtain ⟨k, rfl⟩ : ∃ k : Nat, cut = k := ⟨cut.toNat, by omega⟩
    have z1 : (0 : Int) ≤ (k : Int) := by omega
    have z2 : (k : Int) ≤ (d : Int) := by omega
    have z3 : k ≤ d := by omega
    have z4 : k < 28 := by omega
    go_wp2_with fail
    refine (show Calls Tryd.prog 18 #[.slice (some ⟨g, 0, none⟩) k d] _ (fun ev w' => ∃ v, ev = .returned (.tuple #[.agg #[.int .i64 0, .int .u8 0, .int .u8 0, .int .u8 0, .int .u8 0, .int .u8 0, .int .u8 0, .int .u32 0, .int .u8 0, .int .u8 0, .int .u8 0, .int .u8 0, .int .u8 0, .int .u8 0, .int .u32 0], v]) ∧ Chain w' 12 [1] v ∧ Kp (fun _ => False) _ w') from parse_short (some ⟨g, 0, none⟩) d k _ z4).mono ?_
    rintro ev w9 ⟨v9, rfl, c9, k9⟩
    obtain ⟨x9, rfl⟩ := chain_if c9
    have kA := k9.alloc (.cells #[.int .i64 0, .int .u8 0, .int .u8 0, .int .u8 0, .int .u8 0, .int .u8 0, .int .u8 0, .int .u32 0, .int .u8 0, .int .u8 0, .int .u8 0, .int .u8 0, .int .u8 0, .int .u8 0, .int .u32 0] 44)
    have K := Lib.hid (K.out.trans' kA)
    have BC := Lib.hid (Bk.new w9 44 #[.int .i64 0, .int .u8 0, .int .u8 0, .int .u8 0, .int .u8 0, .int .u8 0, .int .u8 0, .int .u32 0, .int .u8 0, .int .u8 0, .int .u8 0, .int .u8 0, .int .u8 0, .int .u8 0, .int .u32 0])
    have C9 := Lib.hid (c9.none_kept ((Kp.refl (fun _ => False) w9).alloc (.cells #[.int .i64 0, .int .u8 0, .int .u8 0, .int .u8 0, .int .u8 0, .int .u8 0, .int .u8 0, .int .u32 0, .int .u8 0, .int .u8 0, .int .u8 0, .int .u8 0, .int .u8 0, .int .u8 0, .int .u32 0] 44)))
    clear k9 kA c9
    go_wp2_with fail
    refine (whyIs_k [1] 12 12 _ _ C9.out).mono ?_
    rintro ev w10 ⟨rfl, k10⟩
    rw [show ((12 : Int) == 12) = true by decide]
    have K := Lib.hid (K.out.trans' k10)
    have BC := Lib.hid (BC.out.kept k10 (fun f => f))
    clear k10
    have p0 : World.cell? w10 ⟨w9.heap.size, 0, none⟩ = some (Value.int .i64 0) := BC.out.cell 0
    have p1 : World.cell? w10 ⟨w9.heap.size, 1, none⟩ = some (Value.int .u8 0) := BC.out.cell 1
    have p2 : World.cell? w10 ⟨w9.heap.size, 2, none⟩ = some (Value.int .u8 0) := BC.out.cell 2
    have p3 : World.cell? w10 ⟨w9.heap.size, 3, none⟩ = some (Value.int .u8 0) := BC.out.cell 3
    have p4 : World.cell? w10 ⟨w9.heap.size, 4, none⟩ = some (Value.int .u8 0) := BC.out.cell 4
    have p5 : World.cell? w10 ⟨w9.heap.size, 5, none⟩ = some (Value.int .u8 0) := BC.out.cell 5
    have p6 : World.cell? w10 ⟨w9.heap.size, 6, none⟩ = some (Value.int .u8 0) := BC.out.cell 6
    have p7 : World.cell? w10 ⟨w9.heap.size, 7, none⟩ = some (Value.int .u32 0) := BC.out.cell 7
    have p8 : World.cell? w10 ⟨w9.heap.size, 8, none⟩ = some (Value.int .u8 0) := BC.out.cell 8
    have p9 : World.cell? w10 ⟨w9.heap.size, 9, none⟩ = some (Value.int .u8 0) := BC.out.cell 9
    have p10 : World.cell? w10 ⟨w9.heap.size, 10, none⟩ = some (Value.int .u8 0) := BC.out.cell 10
    have p11 : World.cell? w10 ⟨w9.heap.size, 11, none⟩ = some (Value.int .u8 0) := BC.out.cell 11
    have p12 : World.cell? w10 ⟨w9.heap.size, 12, none⟩ = some (Value.int .u8 0) := BC.out.cell 12
    have p13 : World.cell? w10 ⟨w9.heap.size, 13, none⟩ = some (Value.int .u8 0) := BC.out.cell 13
    have p14 : World.cell? w10 ⟨w9.heap.size, 14, none⟩ = some (Value.int .u32 0) := BC.out.cell 14
    have hze : ∀ w, (binOp .eql 44 (.agg #[.int .i64 0, .int .u8 0, .int .u8 0, .int .u8 0, .int .u8 0, .int .u8 0, .int .u8 0, .int .u32 0, .int .u8 0, .int .u8 0, .int .u8 0, .int .u8 0, .int .u8 0, .int .u8 0, .int .u32 0]) (.agg #[.int .i64 0, .int .u8 0, .int .u8 0, .int .u8 0, .int .u8 0, .int .u8 0, .int .u8 0, .int .u32 0, .int .u8 0, .int .u8 0, .int .u8 0, .int .u8 0, .int .u8 0, .int .u8 0, .int .u32 0])).run Tryd.prog w = .ok (.bool true) w := fun w => by kernel_rfl
    go_wp2_with fail
    go_ret
    exact ⟨rfl, K.out⟩
  · as_aux_lemma =>
    refine (ptwo_err g4 c4 (28 + n) (L ++ x) _ HR4.out HB4.out HL4.out (by omega) (by omega) hc4 HE4.out).mono ?_
    rintro ev w5 ⟨v5, e5, r5, rfl, c5, k5⟩
    obtain ⟨x5, rfl⟩ := chain_if c5
    have kA := k5.alloc (.cells #[.int .i64 0, .int .u8 0, .int .u8 0, .int .u8 0, .int .u8 0, .int .u8 0, .int .u8 0, .int .u32 0, .int .u8 0, .int .u8 0, .int .u8 0, .int .u8 0, .int .u8 0, .int .u8 0, .int .u32 0] 44)
    have K := Lib.hid (K.out.trans' kA)
    have E := Lib.hid (E.out.kept kA (fun f => f))
    have O := Lib.hid (own_kp O.out kA (fun _ _ f => f))
    have B8 := Lib.hid (Bk.new w5 44 #[.int .i64 0, .int .u8 0, .int .u8 0, .int .u8 0, .int .u8 0, .int .u8 0, .int .u8 0, .int .u32 0, .int .u8 0, .int .u8 0, .int .u8 0, .int .u8 0, .int .u8 0, .int .u8 0, .int .u32 0])
    clear k5 kA HR4
    clear c5
    go_wp2_with fail
    refine (ptwo_err g d 28 L _ (own_rd O.out) HBL.out HLL.out (by omega) (by omega) hd HQ.out).mono ?_
    rintro ev w6 ⟨v6, e6, r6, rfl, c6, k6⟩
    obtain ⟨x6, rfl⟩ := chain_if c6
    have kA := k6.alloc (.cells #[.int .i64 0, .int .u8 0, .int .u8 0, .int .u8 0, .int .u8 0, .int .u8 0, .int .u8 0, .int .u32 0, .int .u8 0, .int .u8 0, .int .u8 0, .int .u8 0, .int .u8 0, .int .u8 0, .int .u32 0] 44)
    have K := Lib.hid (K.out.trans' kA)
    have E := Lib.hid (E.out.kept kA (fun f => f))
    have O := Lib.hid (own_kp O.out kA (fun _ _ f => f))
    have B8 := Lib.hid (B8.out.kept kA (fun f => f))
    have BA := Lib.hid (Bk.new w6 44 #[.int .i64 0, .int .u8 0, .int .u8 0, .int .u8 0, .int .u8 0, .int .u8 0, .int .u8 0, .int .u32 0, .int .u8 0, .int .u8 0, .int .u8 0, .int .u8 0, .int .u8 0, .int .u8 0, .int .u32 0])
    clear k6 kA
    clear c6
    go_upto_region 8 with fail
    generalize w6.alloc (.cells #[.int .i64 0, .int .u8 0, .int .u8 0, .int .u8 0, .int .u8 0, .int .u8 0, .int .u8 0, .int .u32 0, .int .u8 0, .int .u8 0, .int .u8 0, .int .u8 0, .int .u8 0, .int .u8 0, .int .u32 0] 44) = w7 at *
    have p0 : World.cell? w7 ⟨w5.heap.size, 0, none⟩ = some (Value.int .i64 0) := B8.out.cell 0
    have p1 : World.cell? w7 ⟨w5.heap.size, 1, none⟩ = some (Value.int .u8 0) := B8.out.cell 1
    have p2 : World.cell? w7 ⟨w5.heap.size, 2, none⟩ = some (Value.int .u8 0) := B8.out.cell 2
    have p3 : World.cell? w7 ⟨w5.heap.size, 3, none⟩ = some (Value.int .u8 0) := B8.out.cell 3
    have p4 : World.cell? w7 ⟨w5.heap.size, 4, none⟩ = some (Value.int .u8 0) := B8.out.cell 4
    have p5 : World.cell? w7 ⟨w5.heap.size, 5, none⟩ = some (Value.int .u8 0) := B8.out.cell 5
    have p6 : World.cell? w7 ⟨w5.heap.size, 6, none⟩ = some (Value.int .u8 0) := B8.out.cell 6
    have p7 : World.cell? w7 ⟨w5.heap.size, 7, none⟩ = some (Value.int .u32 0) := B8.out.cell 7
    have p8 : World.cell? w7 ⟨w5.heap.size, 8, none⟩ = some (Value.int .u8 0) := B8.out.cell 8
    have p9 : World.cell? w7 ⟨w5.heap.size, 9, none⟩ = some (Value.int .u8 0) := B8.out.cell 9
    have p10 : World.cell? w7 ⟨w5.heap.size, 10, none⟩ = some (Value.int .u8 0) := B8.out.cell 10
    have p11 : World.cell? w7 ⟨w5.heap.size, 11, none⟩ = some (Value.int .u8 0) := B8.out.cell 11
    have p12 : World.cell? w7 ⟨w5.heap.size, 12, none⟩ = some (Value.int .u8 0) := B8.out.cell 12
    have p13 : World.cell? w7 ⟨w5.heap.size, 13, none⟩ = some (Value.int .u8 0) := B8.out.cell 13
    have p14 : World.cell? w7 ⟨w5.heap.size, 14, none⟩ = some (Value.int .u32 0) := B8.out.cell 14
    have q0 : World.cell? w7 ⟨w6.heap.size, 0, none⟩ = some (Value.int .i64 0) := BA.out.cell 0
    have q1 : World.cell? w7 ⟨w6.heap.size, 1, none⟩ = some (Value.int .u8 0) := BA.out.cell 1
    have q2 : World.cell? w7 ⟨w6.heap.size, 2, none⟩ = some (Value.int .u8 0) := BA.out.cell 2
    have q3 : World.cell? w7 ⟨w6.heap.size, 3, none⟩ = some (Value.int .u8 0) := BA.out.cell 3
    have q4 : World.cell? w7 ⟨w6.heap.size, 4, none⟩ = some (Value.int .u8 0) := BA.out.cell 4
    have q5 : World.cell? w7 ⟨w6.heap.size, 5, none⟩ = some (Value.int .u8 0) := BA.out.cell 5
    have q6 : World.cell? w7 ⟨w6.heap.size, 6, none⟩ = some (Value.int .u8 0) := BA.out.cell 6
    have q7 : World.cell? w7 ⟨w6.heap.size, 7, none⟩ = some (Value.int .u32 0) := BA.out.cell 7
    have q8 : World.cell? w7 ⟨w6.heap.size, 8, none⟩ = some (Value.int .u8 0) := BA.out.cell 8
    have q9 : World.cell? w7 ⟨w6.heap.size, 9, none⟩ = some (Value.int .u8 0) := BA.out.cell 9
    have q10 : World.cell? w7 ⟨w6.heap.size, 10, none⟩ = some (Value.int .u8 0) := BA.out.cell 10
    have q11 : World.cell? w7 ⟨w6.heap.size, 11, none⟩ = some (Value.int .u8 0) := BA.out.cell 11
    have q12 : World.cell? w7 ⟨w6.heap.size, 12, none⟩ = some (Value.int .u8 0) := BA.out.cell 12
    have q13 : World.cell? w7 ⟨w6.heap.size, 13, none⟩ = some (Value.int .u8 0) := BA.out.cell 13
    have q14 : World.cell? w7 ⟨w6.heap.size, 14, none⟩ = some (Value.int .u32 0) := BA.out.cell 14
    have hne : ∀ w, (binOp .neq 44 (.agg #[.int .i64 0, .int .u8 0, .int .u8 0, .int .u8 0, .int .u8 0, .int .u8 0, .int .u8 0, .int .u32 0, .int .u8 0, .int .u8 0, .int .u8 0, .int .u8 0, .int .u8 0, .int .u8 0, .int .u32 0]) (.agg #[.int .i64 0, .int .u8 0, .int .u8 0, .int .u8 0, .int .u8 0, .int .u8 0, .int .u8 0, .int .u32 0, .int .u8 0, .int .u8 0, .int .u8 0, .int .u8 0, .int .u8 0, .int .u8 0, .int .u32 0])).run Tryd.prog w = .ok (.bool false) w := fun w => by kernel_rfl
    go_quiet (fail)
    clear p0 p1 p2 p3 p4 p5 p6 p7 p8 p9 p10 p11 p12 p13 p14
    clear q0 q1 q2 q3 q4 q5 q6 q7 q8 q9 q10 q11 q12 q13 q14
    clear hne
    obtain ⟨w8, k8⟩ : ∃ w8, Kp (fun _ => False) w7 w8 ∧ w8 = w7.drewN nq := ⟨_, (Kp.refl _ _).drewN _, rfl⟩
    obtain ⟨k8, h8⟩ := k8
    rw [← h8]
    clear h8
    have K := Lib.hid (K.out.trans' k8)
    have E := Lib.hid (E.out.kept k8 (fun f => f))
    have O := Lib.hid (own_kp O.out k8 (fun _ _ f => f))
    have B8 := Lib.hid (B8.out.kept k8 (fun f => f))
    have BA := Lib.hid (BA.out.kept k8 (fun f => f))
    clear k8
    by_cases hc0 : cut < 0
    · go_wp2_with fail
      go_ret
      exact ⟨rfl, K.out⟩
    by_cases hc1 : 27 < cut
    · go_wp2_with fail
      go_ret
      exact ⟨rfl, K.out⟩
    obtain ⟨k, rfl⟩ : ∃ k : Nat, cut = k := ⟨cut.toNat, by omega⟩
    have z1 : (0 : Int) ≤ (k : Int) := by omega
    have z2 : (k : Int) ≤ (d : Int) := by omega
    have z3 : k ≤ d := by omega
    have z4 : k < 28 := by omega
    go_wp2_with fail
    refine (show Calls Tryd.prog 18 #[.slice (some ⟨g, 0, none⟩) k d] _ (fun ev w' => ∃ v, ev = .returned (.tuple #[.agg #[.int .i64 0, .int .u8 0, .int .u8 0, .int .u8 0, .int .u8 0, .int .u8 0, .int .u8 0, .int .u32 0, .int .u8 0, .int .u8 0, .int .u8 0, .int .u8 0, .int .u8 0, .int .u8 0, .int .u32 0], v]) ∧ Chain w' 12 [1] v ∧ Kp (fun _ => False) _ w') from parse_short (some ⟨g, 0, none⟩) d k _ z4).mono ?_
    rintro ev w9 ⟨v9, rfl, c9, k9⟩
    obtain ⟨x9, rfl⟩ := chain_if c9
    have kA := k9.alloc (.cells #[.int .i64 0, .int .u8 0, .int .u8 0, .int .u8 0, .int .u8 0, .int .u8 0, .int .u8 0, .int .u32 0, .int .u8 0, .int .u8 0, .int .u8 0, .int .u8 0, .int .u8 0, .int .u8 0, .int .u32 0] 44)
    have K := Lib.hid (K.out.trans' kA)
    have BC := Lib.hid (Bk.new w9 44 #[.int .i64 0, .int .u8 0, .int .u8 0, .int .u8 0, .int .u8 0, .int .u8 0, .int .u8 0, .int .u32 0, .int .u8 0, .int .u8 0, .int .u8 0, .int .u8 0, .int .u8 0, .int .u8 0, .int .u32 0])
    have C9 := Lib.hid (c9.none_kept ((Kp.refl (fun _ => False) w9).alloc (.cells #[.int .i64 0, .int .u8 0, .int .u8 0, .int .u8 0, .int .u8 0, .int .u8 0, .int .u8 0, .int .u32 0, .int .u8 0, .int .u8 0, .int .u8 0, .int .u8 0, .int .u8 0, .int .u8 0, .int .u32 0] 44)))
    clear k9 kA c9
    go_wp2_with fail
    refine (whyIs_k [1] 12 12 _ _ C9.out).mono ?_
    rintro ev w10 ⟨rfl, k10⟩
    rw [show ((12 : Int) == 12) = true by decide]
    have K := Lib.hid (K.out.trans' k10)
    have BC := Lib.hid (BC.out.kept k10 (fun f => f))
    clear k10
    have p0 : World.cell? w10 ⟨w9.heap.size, 0, none⟩ = some (Value.int .i64 0) := BC.out.cell 0
    have p1 : World.cell? w10 ⟨w9.heap.size, 1, none⟩ = some (Value.int .u8 0) := BC.out.cell 1
    have p2 : World.cell? w10 ⟨w9.heap.size, 2, none⟩ = some (Value.int .u8 0) := BC.out.cell 2
    have p3 : World.cell? w10 ⟨w9.heap.size, 3, none⟩ = some (Value.int .u8 0) := BC.out.cell 3
    have p4 : World.cell? w10 ⟨w9.heap.size, 4, none⟩ = some (Value.int .u8 0) := BC.out.cell 4
    have p5 : World.cell? w10 ⟨w9.heap.size, 5, none⟩ = some (Value.int .u8 0) := BC.out.cell 5
    have p6 : World.cell? w10 ⟨w9.heap.size, 6, none⟩ = some (Value.int .u8 0) := BC.out.cell 6
    have p7 : World.cell? w10 ⟨w9.heap.size, 7, none⟩ = some (Value.int .u32 0) := BC.out.cell 7
    have p8 : World.cell? w10 ⟨w9.heap.size, 8, none⟩ = some (Value.int .u8 0) := BC.out.cell 8
    have p9 : World.cell? w10 ⟨w9.heap.size, 9, none⟩ = some (Value.int .u8 0) := BC.out.cell 9
    have p10 : World.cell? w10 ⟨w9.heap.size, 10, none⟩ = some (Value.int .u8 0) := BC.out.cell 10
    have p11 : World.cell? w10 ⟨w9.heap.size, 11, none⟩ = some (Value.int .u8 0) := BC.out.cell 11
    have p12 : World.cell? w10 ⟨w9.heap.size, 12, none⟩ = some (Value.int .u8 0) := BC.out.cell 12
    have p13 : World.cell? w10 ⟨w9.heap.size, 13, none⟩ = some (Value.int .u8 0) := BC.out.cell 13
    have p14 : World.cell? w10 ⟨w9.heap.size, 14, none⟩ = some (Value.int .u32 0) := BC.out.cell 14
    have hze : ∀ w, (binOp .eql 44 (.agg #[.int .i64 0, .int .u8 0, .int .u8 0, .int .u8 0, .int .u8 0, .int .u8 0, .int .u8 0, .int .u32 0, .int .u8 0, .int .u8 0, .int .u8 0, .int .u8 0, .int .u8 0, .int .u8 0, .int .u32 0]) (.agg #[.int .i64 0, .int .u8 0, .int .u8 0, .int .u8 0, .int .u8 0, .int .u8 0, .int .u8 0, .int .u32 0, .int .u8 0, .int .u8 0, .int .u8 0, .int .u8 0, .int .u8 0, .int .u8 0, .int .u32 0])).run Tryd.prog w = .ok (.bool true) w := fun w => by kernel_rfl
    go_wp2_with fail
    go_ret
    exact ⟨rfl, K.out⟩
end Go.Proofs.YtfhhmehlkjaibaaDoor
