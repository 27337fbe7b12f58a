/- Ether: the walk of EtherFor. -/
import Derived.Test.YtconpcnmccmbiaaDoorFb
set_option linter.unusedVariables false
set_option linter.unusedSimpArgs false
namespace Go.Proofs.YtconpcnmccmbiaaDoor
open Go.RowKit

theorem Kp.keepc {w w' : World} {p : Addr} {v : Value} (h : w.cell? p = some v) (k : Kp (fun _ => False) w w') : w'.cell? p = some v := (k.cell (World.block_lt_of_cell? w _ h) (fun f => f)).trans h
set_option maxRecDepth 100000 in
set_option maxHeartbeats 40000000 in
theorem for_walk (t f m : Nat → Int) (k kd : Int) (A B : Option Addr) (n c n2 c2 : Nat) (w : World) (hE : Et w) :
    Calls Tryd.prog 13 #[.agg (frm t f k (.slice A n c)), .agg (mac m), .int .u16 kd, .slice B n2 c2] w fun ev w' => ev = .returned (.bool true) ∧ Kp (fun _ => False) w w' := by
  have h1 := fun w => run_eql_mac w t (fun _ => 255)
  obtain ⟨p, hp⟩ : ∃ p, macEq t m = p := ⟨_, rfl⟩
  obtain ⟨q, hq⟩ : ∃ q, macEq t (fun _ => 255) = q := ⟨_, rfl⟩
  have h2 := fun w => run_eql_mac w t m
  rw [hq] at h1
  rw [hp] at h2
  simp only [mac] at h1 h2
  have htt : (macEq t t || q) = true := by rw [(macEq_iff t t).2 (fun _ _ => rfl)]; rfl
  have h25 : (macEq m255 m || macEq m255 fun _ => 255) = true := by rw [(macEq_iff m255 (fun _ => 255)).2 (fun _ _ => rfl)]; simp
  have kA := ((Kp.refl (fun _ => False) w).alloc (.cells (frm t f k (.slice A n c)) 77)).alloc (.cells (mac m) 73)
  have hb0 := (Bk.new w 77 (frm t f k (.slice A n c))).alloc (.cells (mac m) 73)
  have hb1 := Bk.new (w.alloc (.cells (frm t f k (.slice A n c)) 77)) 73 (mac m)
  rw [show (w.alloc (.cells (frm t f k (.slice A n c)) 77)).heap.size = w.heap.size + 1 by simp] at hb1
  have HK := Lib.hid kA
  have Hb0 := Lib.hid hb0
  have Hb1 := Lib.hid hb1
  have HE := Lib.hid (hE.kept kA (fun x => x))
  have HP := Lib.hid hp
  have HQ := Lib.hid hq
  have HTT := Lib.hid htt
  have H25 := Lib.hid h25
  clear kA hb0 hb1 hE hp hq htt h25
  go_enter Tryd.func13, Tryd.ntmps13
  go_wp2_with fail
  refine (alive05 _ HE.out).mono ?_
  rintro ev w1 ⟨rfl, k1⟩
  have b0 := Hb0.out.kept k1 (fun x => x)
  have b1 := Hb1.out.kept k1 (fun x => x)
  have x0 : _ = some (Value.int IntKind.u8 (t 0)) := b0.cell 0
  have x1 : _ = some (Value.int IntKind.u8 (t 1)) := b0.cell 1
  have x2 : _ = some (Value.int IntKind.u8 (t 2)) := b0.cell 2
  have x3 : _ = some (Value.int IntKind.u8 (t 3)) := b0.cell 3
  have x4 : _ = some (Value.int IntKind.u8 (t 4)) := b0.cell 4
  have x5 : _ = some (Value.int IntKind.u8 (t 5)) := b0.cell 5
  have x6 : _ = some (Value.int IntKind.u8 (f 0)) := b0.cell 6
  have x7 : _ = some (Value.int IntKind.u8 (f 1)) := b0.cell 7
  have x8 : _ = some (Value.int IntKind.u8 (f 2)) := b0.cell 8
  have x9 : _ = some (Value.int IntKind.u8 (f 3)) := b0.cell 9
  have x10 : _ = some (Value.int IntKind.u8 (f 4)) := b0.cell 10
  have x11 : _ = some (Value.int IntKind.u8 (f 5)) := b0.cell 11
  have x12 : _ = some (Value.int IntKind.u16 k) := b0.cell 12
  have x13 : _ = some (Value.slice A n c) := b0.cell 13
  have y0 : _ = some (Value.int IntKind.u8 (m 0)) := b1.cell 0
  have y1 : _ = some (Value.int IntKind.u8 (m 1)) := b1.cell 1
  have y2 : _ = some (Value.int IntKind.u8 (m 2)) := b1.cell 2
  have y3 : _ = some (Value.int IntKind.u8 (m 3)) := b1.cell 3
  have y4 : _ = some (Value.int IntKind.u8 (m 4)) := b1.cell 4
  have y5 : _ = some (Value.int IntKind.u8 (m 5)) := b1.cell 5
  have K1 := Lib.hid (HK.out.trans' k1)
  have B0 := Lib.hid b0
  have B1 := Lib.hid b1
  clear b0 b1 k1
  go_wp2_with fail
  have kB := (Kp.refl (fun _ => False) w1).alloc (.cells #[.int .u8 (t 0), .int .u8 (t 1), .int .u8 (t 2), .int .u8 (t 3), .int .u8 (t 4), .int .u8 (t 5), .int .u8 (m 0), .int .u8 (m 1), .int .u8 (m 2), .int .u8 (m 3), .int .u8 (m 4), .int .u8 (m 5), .int .u16 kd, .slice B n2 c2] 77)
  have bO := Bk.new w1 77 #[.int .u8 (t 0), .int .u8 (t 1), .int .u8 (t 2), .int .u8 (t 3), .int .u8 (t 4), .int .u8 (t 5), .int .u8 (m 0), .int .u8 (m 1), .int .u8 (m 2), .int .u8 (m 3), .int .u8 (m 4), .int .u8 (m 5), .int .u16 kd, .slice B n2 c2]
  refine (allMac_any _).mono ?_
  simp only [mac]
  rintro ev w2 ⟨rfl, k2⟩
  have K2 := Lib.hid (K1.out.trans' (kB.trans' k2))
  have C0 := Lib.hid (B0.out.kept (kB.trans' k2) (fun x => x))
  have C1 := Lib.hid (B1.out.kept (kB.trans' k2) (fun x => x))
  have C2 := Lib.hid (bO.kept k2 (fun x => x))
  clear kB bO k2 x0 x1 x2 x3 x4 x5 x6 x7 x8 x9 x10 x11 x12 x13 y0 y1 y2 y3 y4 y5
  generalize Value.agg #[Value.int IntKind.u8 (t 0), Value.int IntKind.u8 (t 1), Value.int IntKind.u8 (t 2), Value.int IntKind.u8 (t 3), Value.int IntKind.u8 (t 4), Value.int IntKind.u8 (t 5), Value.int IntKind.u8 (m 0), Value.int IntKind.u8 (m 1), Value.int IntKind.u8 (m 2), Value.int IntKind.u8 (m 3), Value.int IntKind.u8 (m 4), Value.int IntKind.u8 (m 5), Value.int IntKind.u16 kd, Value.slice B n2 c2] = G1
  generalize Value.agg #[Value.int IntKind.u8 (m 0), Value.int IntKind.u8 (m 1), Value.int IntKind.u8 (m 2), Value.int IntKind.u8 (m 3), Value.int IntKind.u8 (m 4), Value.int IntKind.u8 (m 5)] = G2
  go_upto_region 5 with fail
  have kC := (Kp.refl (fun _ => False) w2).alloc (.cells #[.int .u8 255, .int .u8 255, .int .u8 255, .int .u8 255, .int .u8 255, .int .u8 255, .int .u8 0, .int .u8 0, .int .u8 0, .int .u8 0, .int .u8 0, .int .u8 0, .int .u16 kd, .slice none 0 0] 77)
  have D0 := Lib.hid (C0.out.kept kC (fun x => x))
  have D1 := Lib.hid (C1.out.kept kC (fun x => x))
  have D2 := Lib.hid (C2.out.kept kC (fun x => x))
  have D3 := Lib.hid (Bk.new w2 77 #[.int .u8 255, .int .u8 255, .int .u8 255, .int .u8 255, .int .u8 255, .int .u8 255, .int .u8 0, .int .u8 0, .int .u8 0, .int .u8 0, .int .u8 0, .int .u8 0, .int .u16 kd, .slice none 0 0])
  have K5 := Lib.hid (K2.out.trans' kC)
  clear kC C0 C1 C2
  generalize w2.alloc (.cells #[.int .u8 255, .int .u8 255, .int .u8 255, .int .u8 255, .int .u8 255, .int .u8 255, .int .u8 0, .int .u8 0, .int .u8 0, .int .u8 0, .int .u8 0, .int .u8 0, .int .u16 kd, .slice none 0 0] 77) = w5 at *
  generalize Value.agg #[Value.int IntKind.u8 255, Value.int IntKind.u8 255, Value.int IntKind.u8 255, Value.int IntKind.u8 255, Value.int IntKind.u8 255, Value.int IntKind.u8 255, Value.int IntKind.u8 0, Value.int IntKind.u8 0, Value.int IntKind.u8 0, Value.int IntKind.u8 0, Value.int IntKind.u8 0, Value.int IntKind.u8 0, Value.int IntKind.u16 kd, Value.slice none 0 0] = G3
  generalize Value.agg (frm t f k (.slice A n c)) = G4
  have keep : ∀ b, Kp (fun _ => False) w5 b → (fun w' => Kp (fun _ => False) w5 w' ∧ w'.cell? ⟨w.heap.size, 0, none⟩ = some (Value.int IntKind.u8 (t 0)) ∧ w'.cell? ⟨w.heap.size, 1, none⟩ = some (Value.int IntKind.u8 (t 1)) ∧ w'.cell? ⟨w.heap.size, 2, none⟩ = some (Value.int IntKind.u8 (t 2)) ∧ w'.cell? ⟨w.heap.size, 3, none⟩ = some (Value.int IntKind.u8 (t 3)) ∧ w'.cell? ⟨w.heap.size, 4, none⟩ = some (Value.int IntKind.u8 (t 4)) ∧ w'.cell? ⟨w.heap.size, 5, none⟩ = some (Value.int IntKind.u8 (t 5)) ∧ w'.cell? ⟨w.heap.size, 6, none⟩ = some (Value.int IntKind.u8 (f 0)) ∧ w'.cell? ⟨w.heap.size, 7, none⟩ = some (Value.int IntKind.u8 (f 1)) ∧ w'.cell? ⟨w.heap.size, 8, none⟩ = some (Value.int IntKind.u8 (f 2)) ∧ w'.cell? ⟨w.heap.size, 9, none⟩ = some (Value.int IntKind.u8 (f 3)) ∧ w'.cell? ⟨w.heap.size, 10, none⟩ = some (Value.int IntKind.u8 (f 4)) ∧ w'.cell? ⟨w.heap.size, 11, none⟩ = some (Value.int IntKind.u8 (f 5)) ∧ w'.cell? ⟨w.heap.size, 12, none⟩ = some (Value.int IntKind.u16 k) ∧ w'.cell? ⟨w.heap.size, 13, none⟩ = some (Value.slice A n c) ∧ w'.cell? ⟨w.heap.size + 1, 0, none⟩ = some (Value.int IntKind.u8 (m 0)) ∧ w'.cell? ⟨w.heap.size + 1, 1, none⟩ = some (Value.int IntKind.u8 (m 1)) ∧ w'.cell? ⟨w.heap.size + 1, 2, none⟩ = some (Value.int IntKind.u8 (m 2)) ∧ w'.cell? ⟨w.heap.size + 1, 3, none⟩ = some (Value.int IntKind.u8 (m 3)) ∧ w'.cell? ⟨w.heap.size + 1, 4, none⟩ = some (Value.int IntKind.u8 (m 4)) ∧ w'.cell? ⟨w.heap.size + 1, 5, none⟩ = some (Value.int IntKind.u8 (m 5)) ∧ w'.cell? ⟨w1.heap.size, 0, none⟩ = some (Value.int IntKind.u8 (t 0)) ∧ w'.cell? ⟨w1.heap.size, 1, none⟩ = some (Value.int IntKind.u8 (t 1)) ∧ w'.cell? ⟨w1.heap.size, 2, none⟩ = some (Value.int IntKind.u8 (t 2)) ∧ w'.cell? ⟨w1.heap.size, 3, none⟩ = some (Value.int IntKind.u8 (t 3)) ∧ w'.cell? ⟨w1.heap.size, 4, none⟩ = some (Value.int IntKind.u8 (t 4)) ∧ w'.cell? ⟨w1.heap.size, 5, none⟩ = some (Value.int IntKind.u8 (t 5)) ∧ w'.cell? ⟨w1.heap.size, 6, none⟩ = some (Value.int IntKind.u8 (m 0)) ∧ w'.cell? ⟨w1.heap.size, 7, none⟩ = some (Value.int IntKind.u8 (m 1)) ∧ w'.cell? ⟨w1.heap.size, 8, none⟩ = some (Value.int IntKind.u8 (m 2)) ∧ w'.cell? ⟨w1.heap.size, 9, none⟩ = some (Value.int IntKind.u8 (m 3)) ∧ w'.cell? ⟨w1.heap.size, 10, none⟩ = some (Value.int IntKind.u8 (m 4)) ∧ w'.cell? ⟨w1.heap.size, 11, none⟩ = some (Value.int IntKind.u8 (m 5)) ∧ w'.cell? ⟨w1.heap.size, 12, none⟩ = some (Value.int IntKind.u16 kd) ∧ w'.cell? ⟨w1.heap.size, 13, none⟩ = some (Value.slice B n2 c2) ∧ w'.cell? ⟨w2.heap.size, 0, none⟩ = some (Value.int IntKind.u8 255) ∧ w'.cell? ⟨w2.heap.size, 1, none⟩ = some (Value.int IntKind.u8 255) ∧ w'.cell? ⟨w2.heap.size, 2, none⟩ = some (Value.int IntKind.u8 255) ∧ w'.cell? ⟨w2.heap.size, 3, none⟩ = some (Value.int IntKind.u8 255) ∧ w'.cell? ⟨w2.heap.size, 4, none⟩ = some (Value.int IntKind.u8 255) ∧ w'.cell? ⟨w2.heap.size, 5, none⟩ = some (Value.int IntKind.u8 255) ∧ w'.cell? ⟨w2.heap.size, 6, none⟩ = some (Value.int IntKind.u8 0) ∧ w'.cell? ⟨w2.heap.size, 7, none⟩ = some (Value.int IntKind.u8 0) ∧ w'.cell? ⟨w2.heap.size, 8, none⟩ = some (Value.int IntKind.u8 0) ∧ w'.cell? ⟨w2.heap.size, 9, none⟩ = some (Value.int IntKind.u8 0) ∧ w'.cell? ⟨w2.heap.size, 10, none⟩ = some (Value.int IntKind.u8 0) ∧ w'.cell? ⟨w2.heap.size, 11, none⟩ = some (Value.int IntKind.u8 0) ∧ w'.cell? ⟨w2.heap.size, 12, none⟩ = some (Value.int IntKind.u16 kd) ∧ w'.cell? ⟨w2.heap.size, 13, none⟩ = some (Value.slice none 0 0)) b := fun b hk => ⟨hk, Kp.keepc (D0.out.cell 0) hk, Kp.keepc (D0.out.cell 1) hk, Kp.keepc (D0.out.cell 2) hk, Kp.keepc (D0.out.cell 3) hk, Kp.keepc (D0.out.cell 4) hk, Kp.keepc (D0.out.cell 5) hk, Kp.keepc (D0.out.cell 6) hk, Kp.keepc (D0.out.cell 7) hk, Kp.keepc (D0.out.cell 8) hk, Kp.keepc (D0.out.cell 9) hk, Kp.keepc (D0.out.cell 10) hk, Kp.keepc (D0.out.cell 11) hk, Kp.keepc (D0.out.cell 12) hk, Kp.keepc (D0.out.cell 13) hk, Kp.keepc (D1.out.cell 0) hk, Kp.keepc (D1.out.cell 1) hk, Kp.keepc (D1.out.cell 2) hk, Kp.keepc (D1.out.cell 3) hk, Kp.keepc (D1.out.cell 4) hk, Kp.keepc (D1.out.cell 5) hk, Kp.keepc (D2.out.cell 0) hk, Kp.keepc (D2.out.cell 1) hk, Kp.keepc (D2.out.cell 2) hk, Kp.keepc (D2.out.cell 3) hk, Kp.keepc (D2.out.cell 4) hk, Kp.keepc (D2.out.cell 5) hk, Kp.keepc (D2.out.cell 6) hk, Kp.keepc (D2.out.cell 7) hk, Kp.keepc (D2.out.cell 8) hk, Kp.keepc (D2.out.cell 9) hk, Kp.keepc (D2.out.cell 10) hk, Kp.keepc (D2.out.cell 11) hk, Kp.keepc (D2.out.cell 12) hk, Kp.keepc (D2.out.cell 13) hk, Kp.keepc (D3.out.cell 0) hk, Kp.keepc (D3.out.cell 1) hk, Kp.keepc (D3.out.cell 2) hk, Kp.keepc (D3.out.cell 3) hk, Kp.keepc (D3.out.cell 4) hk, Kp.keepc (D3.out.cell 5) hk, Kp.keepc (D3.out.cell 6) hk, Kp.keepc (D3.out.cell 7) hk, Kp.keepc (D3.out.cell 8) hk, Kp.keepc (D3.out.cell 9) hk, Kp.keepc (D3.out.cell 10) hk, Kp.keepc (D3.out.cell 11) hk, Kp.keepc (D3.out.cell 12) hk, Kp.keepc (D3.out.cell 13) hk⟩
  have KC := Lib.hid ((Kp.refl (fun _ => False) w5).drew)
  have KEEP := Lib.hid keep
  clear keep
  have hfor : ∀ w, Calls Tryd.prog 52 #[.agg #[.int .u8 (t 0), .int .u8 (t 1), .int .u8 (t 2), .int .u8 (t 3), .int .u8 (t 4), .int .u8 (t 5), .int .u8 (f 0), .int .u8 (f 1), .int .u8 (f 2), .int .u8 (f 3), .int .u8 (f 4), .int .u8 (f 5), .int .u16 k, .slice A n c], .agg #[.int .u8 (m 0), .int .u8 (m 1), .int .u8 (m 2), .int .u8 (m 3), .int .u8 (m 4), .int .u8 (m 5)]] w fun ev w' => ev = .returned (.bool (p || q)) ∧ Kp (fun _ => False) w w' := fun w => by
    have := for_any t f m k (.slice A n c) w
    rw [HP.out, HQ.out] at this
    exact this
  have hfor2 : ∀ w, Calls Tryd.prog 52 #[.agg #[.int .u8 (t 0), .int .u8 (t 1), .int .u8 (t 2), .int .u8 (t 3), .int .u8 (t 4), .int .u8 (t 5), .int .u8 (m 0), .int .u8 (m 1), .int .u8 (m 2), .int .u8 (m 3), .int .u8 (m 4), .int .u8 (m 5), .int .u16 kd, .slice B n2 c2], .agg #[.int .u8 (m 0), .int .u8 (m 1), .int .u8 (m 2), .int .u8 (m 3), .int .u8 (m 4), .int .u8 (m 5)]] w fun ev w' => ev = .returned (.bool (p || q)) ∧ Kp (fun _ => False) w w' := fun w => by
    have := for_any t m m kd (.slice B n2 c2) w
    rw [HP.out, HQ.out] at this
    exact this
  have hfor3 : ∀ w, Calls Tryd.prog 52 #[.agg #[.int .u8 (t 0), .int .u8 (t 1), .int .u8 (t 2), .int .u8 (t 3), .int .u8 (t 4), .int .u8 (t 5), .int .u8 (f 0), .int .u8 (f 1), .int .u8 (f 2), .int .u8 (f 3), .int .u8 (f 4), .int .u8 (f 5), .int .u16 k, .slice A n c], .agg #[.int .u8 (t 0), .int .u8 (t 1), .int .u8 (t 2), .int .u8 (t 3), .int .u8 (t 4), .int .u8 (t 5)]] w fun ev w' => ev = .returned (.bool true) ∧ Kp (fun _ => False) w w' := fun w => by
    have := for_any t f t k (.slice A n c) w
    rw [HQ.out, HTT.out] at this
    exact this
  have hfor4 : ∀ w, Calls Tryd.prog 52 #[.agg #[.int .u8 255, .int .u8 255, .int .u8 255, .int .u8 255, .int .u8 255, .int .u8 255, .int .u8 0, .int .u8 0, .int .u8 0, .int .u8 0, .int .u8 0, .int .u8 0, .int .u16 kd, .slice none 0 0], .agg #[.int .u8 (m 0), .int .u8 (m 1), .int .u8 (m 2), .int .u8 (m 3), .int .u8 (m 4), .int .u8 (m 5)]] w fun ev w' => ev = .returned (.bool true) ∧ Kp (fun _ => False) w w' := fun w => by
    have := for_any m255 m0 m kd (.slice none 0 0) w
    rw [H25.out] at this
    exact this
  have hfor5 : ∀ w, Calls Tryd.prog 52 #[.agg #[.int .u8 2, .int .u8 1, .int .u8 0, .int .u8 0, .int .u8 0, .int .u8 0, .int .u8 0, .int .u8 0, .int .u8 0, .int .u8 0, .int .u8 0, .int .u8 0, .int .u16 0, .slice none 0 0], .agg #[.int .u8 2, .int .u8 2, .int .u8 0, .int .u8 0, .int .u8 0, .int .u8 0]] w fun ev w' => ev = .returned (.bool false) ∧ Kp (fun _ => False) w w' := fun w => for_any (fun i => [2, 1].getD i 0) m0 (fun i => [2, 2].getD i 0) 0 (.slice none 0 0) w
  have hfor6 : ∀ w, Calls Tryd.prog 57 #[] w fun ev w' => ev = .returned (.agg #[.int .u8 255, .int .u8 255, .int .u8 255, .int .u8 255, .int .u8 255, .int .u8 255]) ∧ Kp (fun _ => False) w w' := fun w => allMac_any w
  have HF6 := Lib.hid hfor6
  clear hfor6
  have HF1 := Lib.hid hfor
  have HF2 := Lib.hid hfor2
  have HF3 := Lib.hid hfor3
  have HF4 := Lib.hid hfor4
  have HF5 := Lib.hid hfor5
  clear hfor hfor2 hfor3 hfor4 hfor5
  cases q
  · go_region_held3 (fun w' => Kp (fun _ => False) w5 w' ∧ w'.cell? ⟨w.heap.size, 0, none⟩ = some (Value.int IntKind.u8 (t 0)) ∧ w'.cell? ⟨w.heap.size, 1, none⟩ = some (Value.int IntKind.u8 (t 1)) ∧ w'.cell? ⟨w.heap.size, 2, none⟩ = some (Value.int IntKind.u8 (t 2)) ∧ w'.cell? ⟨w.heap.size, 3, none⟩ = some (Value.int IntKind.u8 (t 3)) ∧ w'.cell? ⟨w.heap.size, 4, none⟩ = some (Value.int IntKind.u8 (t 4)) ∧ w'.cell? ⟨w.heap.size, 5, none⟩ = some (Value.int IntKind.u8 (t 5)) ∧ w'.cell? ⟨w.heap.size, 6, none⟩ = some (Value.int IntKind.u8 (f 0)) ∧ w'.cell? ⟨w.heap.size, 7, none⟩ = some (Value.int IntKind.u8 (f 1)) ∧ w'.cell? ⟨w.heap.size, 8, none⟩ = some (Value.int IntKind.u8 (f 2)) ∧ w'.cell? ⟨w.heap.size, 9, none⟩ = some (Value.int IntKind.u8 (f 3)) ∧ w'.cell? ⟨w.heap.size, 10, none⟩ = some (Value.int IntKind.u8 (f 4)) ∧ w'.cell? ⟨w.heap.size, 11, none⟩ = some (Value.int IntKind.u8 (f 5)) ∧ w'.cell? ⟨w.heap.size, 12, none⟩ = some (Value.int IntKind.u16 k) ∧ w'.cell? ⟨w.heap.size, 13, none⟩ = some (Value.slice A n c) ∧ w'.cell? ⟨w.heap.size + 1, 0, none⟩ = some (Value.int IntKind.u8 (m 0)) ∧ w'.cell? ⟨w.heap.size + 1, 1, none⟩ = some (Value.int IntKind.u8 (m 1)) ∧ w'.cell? ⟨w.heap.size + 1, 2, none⟩ = some (Value.int IntKind.u8 (m 2)) ∧ w'.cell? ⟨w.heap.size + 1, 3, none⟩ = some (Value.int IntKind.u8 (m 3)) ∧ w'.cell? ⟨w.heap.size + 1, 4, none⟩ = some (Value.int IntKind.u8 (m 4)) ∧ w'.cell? ⟨w.heap.size + 1, 5, none⟩ = some (Value.int IntKind.u8 (m 5)) ∧ w'.cell? ⟨w1.heap.size, 0, none⟩ = some (Value.int IntKind.u8 (t 0)) ∧ w'.cell? ⟨w1.heap.size, 1, none⟩ = some (Value.int IntKind.u8 (t 1)) ∧ w'.cell? ⟨w1.heap.size, 2, none⟩ = some (Value.int IntKind.u8 (t 2)) ∧ w'.cell? ⟨w1.heap.size, 3, none⟩ = some (Value.int IntKind.u8 (t 3)) ∧ w'.cell? ⟨w1.heap.size, 4, none⟩ = some (Value.int IntKind.u8 (t 4)) ∧ w'.cell? ⟨w1.heap.size, 5, none⟩ = some (Value.int IntKind.u8 (t 5)) ∧ w'.cell? ⟨w1.heap.size, 6, none⟩ = some (Value.int IntKind.u8 (m 0)) ∧ w'.cell? ⟨w1.heap.size, 7, none⟩ = some (Value.int IntKind.u8 (m 1)) ∧ w'.cell? ⟨w1.heap.size, 8, none⟩ = some (Value.int IntKind.u8 (m 2)) ∧ w'.cell? ⟨w1.heap.size, 9, none⟩ = some (Value.int IntKind.u8 (m 3)) ∧ w'.cell? ⟨w1.heap.size, 10, none⟩ = some (Value.int IntKind.u8 (m 4)) ∧ w'.cell? ⟨w1.heap.size, 11, none⟩ = some (Value.int IntKind.u8 (m 5)) ∧ w'.cell? ⟨w1.heap.size, 12, none⟩ = some (Value.int IntKind.u16 kd) ∧ w'.cell? ⟨w1.heap.size, 13, none⟩ = some (Value.slice B n2 c2) ∧ w'.cell? ⟨w2.heap.size, 0, none⟩ = some (Value.int IntKind.u8 255) ∧ w'.cell? ⟨w2.heap.size, 1, none⟩ = some (Value.int IntKind.u8 255) ∧ w'.cell? ⟨w2.heap.size, 2, none⟩ = some (Value.int IntKind.u8 255) ∧ w'.cell? ⟨w2.heap.size, 3, none⟩ = some (Value.int IntKind.u8 255) ∧ w'.cell? ⟨w2.heap.size, 4, none⟩ = some (Value.int IntKind.u8 255) ∧ w'.cell? ⟨w2.heap.size, 5, none⟩ = some (Value.int IntKind.u8 255) ∧ w'.cell? ⟨w2.heap.size, 6, none⟩ = some (Value.int IntKind.u8 0) ∧ w'.cell? ⟨w2.heap.size, 7, none⟩ = some (Value.int IntKind.u8 0) ∧ w'.cell? ⟨w2.heap.size, 8, none⟩ = some (Value.int IntKind.u8 0) ∧ w'.cell? ⟨w2.heap.size, 9, none⟩ = some (Value.int IntKind.u8 0) ∧ w'.cell? ⟨w2.heap.size, 10, none⟩ = some (Value.int IntKind.u8 0) ∧ w'.cell? ⟨w2.heap.size, 11, none⟩ = some (Value.int IntKind.u8 0) ∧ w'.cell? ⟨w2.heap.size, 12, none⟩ = some (Value.int IntKind.u16 kd) ∧ w'.cell? ⟨w2.heap.size, 13, none⟩ = some (Value.slice none 0 0))
      (first | exact KEEP.out _ KC.out | fail)
      (first
        | (go_at_call 52; with_reducible refine (HF1.out _).mono ?_; simp only [Bool.or_false]; rintro ev w9 ⟨rfl, k9⟩; have KC := Lib.hid (KC.out.trans' k9); clear k9)
        | (go_at_call 52; with_reducible refine (HF2.out _).mono ?_; simp only [Bool.or_false]; rintro ev w9 ⟨rfl, k9⟩; have KC := Lib.hid (KC.out.trans' k9); clear k9)
        | (go_at_call 52; with_reducible refine (HF3.out _).mono ?_; rintro ev w9 ⟨rfl, k9⟩; have KC := Lib.hid (KC.out.trans' k9); clear k9)
        | (go_at_call 52; with_reducible refine (HF4.out _).mono ?_; rintro ev w9 ⟨rfl, k9⟩; have KC := Lib.hid (KC.out.trans' k9); clear k9)
        | (go_at_call 52; with_reducible refine (HF5.out _).mono ?_; rintro ev w9 ⟨rfl, k9⟩; have KC := Lib.hid (KC.out.trans' k9); clear k9)
        | (go_at_call 57; with_reducible refine (HF6.out _).mono ?_; rintro ev w9 ⟨rfl, k9⟩; have KC := Lib.hid (KC.out.trans' k9); clear k9)
        | fail)
    all_goals
      go_wp2_with fail
      go_ret
      exact ⟨rfl, K5.out.trans' KC.out⟩
  · refine wp_region_held_drew (S := (fun w' => Kp (fun _ => False) w5 w' ∧ w'.cell? ⟨w.heap.size, 0, none⟩ = some (Value.int IntKind.u8 (t 0)) ∧ w'.cell? ⟨w.heap.size, 1, none⟩ = some (Value.int IntKind.u8 (t 1)) ∧ w'.cell? ⟨w.heap.size, 2, none⟩ = some (Value.int IntKind.u8 (t 2)) ∧ w'.cell? ⟨w.heap.size, 3, none⟩ = some (Value.int IntKind.u8 (t 3)) ∧ w'.cell? ⟨w.heap.size, 4, none⟩ = some (Value.int IntKind.u8 (t 4)) ∧ w'.cell? ⟨w.heap.size, 5, none⟩ = some (Value.int IntKind.u8 (t 5)) ∧ w'.cell? ⟨w.heap.size, 6, none⟩ = some (Value.int IntKind.u8 (f 0)) ∧ w'.cell? ⟨w.heap.size, 7, none⟩ = some (Value.int IntKind.u8 (f 1)) ∧ w'.cell? ⟨w.heap.size, 8, none⟩ = some (Value.int IntKind.u8 (f 2)) ∧ w'.cell? ⟨w.heap.size, 9, none⟩ = some (Value.int IntKind.u8 (f 3)) ∧ w'.cell? ⟨w.heap.size, 10, none⟩ = some (Value.int IntKind.u8 (f 4)) ∧ w'.cell? ⟨w.heap.size, 11, none⟩ = some (Value.int IntKind.u8 (f 5)) ∧ w'.cell? ⟨w.heap.size, 12, none⟩ = some (Value.int IntKind.u16 k) ∧ w'.cell? ⟨w.heap.size, 13, none⟩ = some (Value.slice A n c) ∧ w'.cell? ⟨w.heap.size + 1, 0, none⟩ = some (Value.int IntKind.u8 (m 0)) ∧ w'.cell? ⟨w.heap.size + 1, 1, none⟩ = some (Value.int IntKind.u8 (m 1)) ∧ w'.cell? ⟨w.heap.size + 1, 2, none⟩ = some (Value.int IntKind.u8 (m 2)) ∧ w'.cell? ⟨w.heap.size + 1, 3, none⟩ = some (Value.int IntKind.u8 (m 3)) ∧ w'.cell? ⟨w.heap.size + 1, 4, none⟩ = some (Value.int IntKind.u8 (m 4)) ∧ w'.cell? ⟨w.heap.size + 1, 5, none⟩ = some (Value.int IntKind.u8 (m 5)) ∧ w'.cell? ⟨w1.heap.size, 0, none⟩ = some (Value.int IntKind.u8 (t 0)) ∧ w'.cell? ⟨w1.heap.size, 1, none⟩ = some (Value.int IntKind.u8 (t 1)) ∧ w'.cell? ⟨w1.heap.size, 2, none⟩ = some (Value.int IntKind.u8 (t 2)) ∧ w'.cell? ⟨w1.heap.size, 3, none⟩ = some (Value.int IntKind.u8 (t 3)) ∧ w'.cell? ⟨w1.heap.size, 4, none⟩ = some (Value.int IntKind.u8 (t 4)) ∧ w'.cell? ⟨w1.heap.size, 5, none⟩ = some (Value.int IntKind.u8 (t 5)) ∧ w'.cell? ⟨w1.heap.size, 6, none⟩ = some (Value.int IntKind.u8 (m 0)) ∧ w'.cell? ⟨w1.heap.size, 7, none⟩ = some (Value.int IntKind.u8 (m 1)) ∧ w'.cell? ⟨w1.heap.size, 8, none⟩ = some (Value.int IntKind.u8 (m 2)) ∧ w'.cell? ⟨w1.heap.size, 9, none⟩ = some (Value.int IntKind.u8 (m 3)) ∧ w'.cell? ⟨w1.heap.size, 10, none⟩ = some (Value.int IntKind.u8 (m 4)) ∧ w'.cell? ⟨w1.heap.size, 11, none⟩ = some (Value.int IntKind.u8 (m 5)) ∧ w'.cell? ⟨w1.heap.size, 12, none⟩ = some (Value.int IntKind.u16 kd) ∧ w'.cell? ⟨w1.heap.size, 13, none⟩ = some (Value.slice B n2 c2) ∧ w'.cell? ⟨w2.heap.size, 0, none⟩ = some (Value.int IntKind.u8 255) ∧ w'.cell? ⟨w2.heap.size, 1, none⟩ = some (Value.int IntKind.u8 255) ∧ w'.cell? ⟨w2.heap.size, 2, none⟩ = some (Value.int IntKind.u8 255) ∧ w'.cell? ⟨w2.heap.size, 3, none⟩ = some (Value.int IntKind.u8 255) ∧ w'.cell? ⟨w2.heap.size, 4, none⟩ = some (Value.int IntKind.u8 255) ∧ w'.cell? ⟨w2.heap.size, 5, none⟩ = some (Value.int IntKind.u8 255) ∧ w'.cell? ⟨w2.heap.size, 6, none⟩ = some (Value.int IntKind.u8 0) ∧ w'.cell? ⟨w2.heap.size, 7, none⟩ = some (Value.int IntKind.u8 0) ∧ w'.cell? ⟨w2.heap.size, 8, none⟩ = some (Value.int IntKind.u8 0) ∧ w'.cell? ⟨w2.heap.size, 9, none⟩ = some (Value.int IntKind.u8 0) ∧ w'.cell? ⟨w2.heap.size, 10, none⟩ = some (Value.int IntKind.u8 0) ∧ w'.cell? ⟨w2.heap.size, 11, none⟩ = some (Value.int IntKind.u8 0) ∧ w'.cell? ⟨w2.heap.size, 12, none⟩ = some (Value.int IntKind.u16 kd) ∧ w'.cell? ⟨w2.heap.size, 13, none⟩ = some (Value.slice none 0 0))) (by kernel_rfl) (KEEP.out _ KC.out) (fun hHeld => ?_)
    refine wpAnyH_take (i := 0) (v := ?v0) rfl (by kernel_rfl) (by kernel_rfl) (by kernel_rfl) (fun _ _ _ h => h) (Or.inl ⟨by rfl, ?y0⟩) (by assumption) ?r0
    case y0 => (intro w hSw; (try dsimp only at hSw); go_simp; first | done | with_reducible rfl)
    try simp only [Act.put, List.getElem_toArray, List.getElem_cons_succ, List.getElem_cons_zero, List.setIfInBounds_toArray, List.set_cons_zero, List.set_cons_succ]
    refine wpAnyH_take (i := 1) (v := ?v1) rfl (by kernel_rfl) (by kernel_rfl) (by kernel_rfl) (fun _ _ _ h => h) (Or.inl ⟨by rfl, ?y1⟩) (by assumption) ?r1
    case y1 => (intro w hSw; (try dsimp only at hSw); go_simp; first | done | with_reducible rfl)
    try simp only [Act.put, List.getElem_toArray, List.getElem_cons_succ, List.getElem_cons_zero, List.setIfInBounds_toArray, List.set_cons_zero, List.set_cons_succ]
    refine wpAnyH_take (i := 3) (v := ?v3) rfl (by kernel_rfl) (by kernel_rfl) (by kernel_rfl) (fun _ _ _ h => h) (Or.inl ⟨by rfl, ?y3⟩) (by assumption) ?r3
    case y3 => (intro w hSw; (try dsimp only at hSw); go_simp; first | done | with_reducible rfl)
    try simp only [Act.put, List.getElem_toArray, List.getElem_cons_succ, List.getElem_cons_zero, List.setIfInBounds_toArray, List.set_cons_zero, List.set_cons_succ]
    refine wpAnyH_take (i := 4) (v := ?v4) rfl (by kernel_rfl) (by kernel_rfl) (by kernel_rfl) (fun _ _ _ h => h) (Or.inl ⟨by rfl, ?y4⟩) (by assumption) ?r4
    case y4 => (intro w hSw; (try dsimp only at hSw); go_simp; first | done | with_reducible rfl)
    try simp only [Act.put, List.getElem_toArray, List.getElem_cons_succ, List.getElem_cons_zero, List.setIfInBounds_toArray, List.set_cons_zero, List.set_cons_succ]
    refine wpAnyH_ready (rs := [2]) (by kernel_rfl) (by simp) ?_
    refine AllReadyH.cons rfl (fun K hK => ?_) AllReadyH.nil
    go_simp
    with_reducible refine (HF1.out _).mono ?_
    simp only [Bool.or_true]
    rintro ev w9 ⟨rfl, k9⟩
    have KC := Lib.hid (KC.out.trans' k9)
    clear k9
    try dsimp only
    refine hK.out _ _ (KEEP.out _ KC.out) (fun hHeld => ?_)
    clear hK K
    try simp only [Act.put, List.getElem_toArray, List.getElem_cons_succ, List.getElem_cons_zero, List.setIfInBounds_toArray, List.set_cons_zero, List.set_cons_succ]
    refine wpAnyH_ready (rs := [5]) (by kernel_rfl) (by simp) ?_
    refine AllReadyH.cons rfl (fun K hK => ?_) AllReadyH.nil
    go_simp
    with_reducible refine (HF2.out _).mono ?_
    simp only [Bool.or_true]
    rintro ev w9 ⟨rfl, k9⟩
    have KC := Lib.hid (KC.out.trans' k9)
    clear k9
    try dsimp only
    refine hK.out _ _ (KEEP.out _ KC.out) (fun hHeld => ?_)
    clear hK K
    try simp only [Act.put, List.getElem_toArray, List.getElem_cons_succ, List.getElem_cons_zero, List.setIfInBounds_toArray, List.set_cons_zero, List.set_cons_succ]
    refine wpAnyH_take (i := 6) (v := ?v6) rfl (by kernel_rfl) (by kernel_rfl) (by kernel_rfl) (fun _ _ _ h => h) (Or.inl ⟨by rfl, ?y6⟩) (by assumption) ?r6
    case y6 => (intro w hSw; (try dsimp only at hSw); go_simp; first | done | with_reducible rfl)
    try simp only [Act.put, List.getElem_toArray, List.getElem_cons_succ, List.getElem_cons_zero, List.setIfInBounds_toArray, List.set_cons_zero, List.set_cons_succ]
    refine wpAnyH_take (i := 7) (v := ?v7) rfl (by kernel_rfl) (by kernel_rfl) (by kernel_rfl) (fun _ _ _ h => h) (Or.inl ⟨by rfl, ?y7⟩) (by assumption) ?r7
    case y7 => (intro w hSw; (try dsimp only at hSw); go_simp; first | done | with_reducible rfl)
    try simp only [Act.put, List.getElem_toArray, List.getElem_cons_succ, List.getElem_cons_zero, List.setIfInBounds_toArray, List.set_cons_zero, List.set_cons_succ]
    refine wpAnyH_take (i := 8) (v := ?v8) rfl (by kernel_rfl) (by kernel_rfl) (by kernel_rfl) (fun _ _ _ h => h) (Or.inl ⟨by rfl, ?y8⟩) (by assumption) ?r8
    case y8 => (intro w hSw; (try dsimp only at hSw); go_simp; first | done | with_reducible rfl)
    try simp only [Act.put, List.getElem_toArray, List.getElem_cons_succ, List.getElem_cons_zero, List.setIfInBounds_toArray, List.set_cons_zero, List.set_cons_succ]
    refine wpAnyH_take (i := 9) (v := ?v9) rfl (by kernel_rfl) (by kernel_rfl) (by kernel_rfl) (fun _ _ _ h => h) (Or.inl ⟨by rfl, ?y9⟩) (by assumption) ?r9
    case y9 => (intro w hSw; (try dsimp only at hSw); go_simp; first | done | with_reducible rfl)
    try simp only [Act.put, List.getElem_toArray, List.getElem_cons_succ, List.getElem_cons_zero, List.setIfInBounds_toArray, List.set_cons_zero, List.set_cons_succ]
    refine wpAnyH_take (i := 10) (v := ?v10) rfl (by kernel_rfl) (by kernel_rfl) (by kernel_rfl) (fun _ _ _ h => h) (Or.inl ⟨by rfl, ?y10⟩) (by assumption) ?r10
    case y10 => (intro w hSw; (try dsimp only at hSw); go_simp; first | done | with_reducible rfl)
    try simp only [Act.put, List.getElem_toArray, List.getElem_cons_succ, List.getElem_cons_zero, List.setIfInBounds_toArray, List.set_cons_zero, List.set_cons_succ]
    refine wpAnyH_ready (rs := [11]) (by kernel_rfl) (by simp) ?_
    refine AllReadyH.cons rfl (fun K hK => ?_) AllReadyH.nil
    go_simp
    with_reducible refine (HF3.out _).mono ?_
    rintro ev w9 ⟨rfl, k9⟩
    have KC := Lib.hid (KC.out.trans' k9)
    clear k9
    try dsimp only
    refine hK.out _ _ (KEEP.out _ KC.out) (fun hHeld => ?_)
    clear hK K
    try simp only [Act.put, List.getElem_toArray, List.getElem_cons_succ, List.getElem_cons_zero, List.setIfInBounds_toArray, List.set_cons_zero, List.set_cons_succ]
    refine wpAnyH_take (i := 12) (v := ?v12) rfl (by kernel_rfl) (by kernel_rfl) (by kernel_rfl) (fun _ _ _ h => h) (Or.inl ⟨by rfl, ?y12⟩) (by assumption) ?r12
    case y12 => (intro w hSw; (try dsimp only at hSw); go_simp; first | done | with_reducible rfl)
    try simp only [Act.put, List.getElem_toArray, List.getElem_cons_succ, List.getElem_cons_zero, List.setIfInBounds_toArray, List.set_cons_zero, List.set_cons_succ]
    refine wpAnyH_take (i := 13) (v := ?v13) rfl (by kernel_rfl) (by kernel_rfl) (by kernel_rfl) (fun _ _ _ h => h) (Or.inl ⟨by rfl, ?y13⟩) (by assumption) ?r13
    case y13 => (intro w hSw; (try dsimp only at hSw); go_simp; first | done | with_reducible rfl)
    try simp only [Act.put, List.getElem_toArray, List.getElem_cons_succ, List.getElem_cons_zero, List.setIfInBounds_toArray, List.set_cons_zero, List.set_cons_succ]
    refine wpAnyH_take (i := 14) (v := ?v14) rfl (by kernel_rfl) (by kernel_rfl) (by kernel_rfl) (fun _ _ _ h => h) (Or.inl ⟨by rfl, ?y14⟩) (by assumption) ?r14
    case y14 => (intro w hSw; (try dsimp only at hSw); go_simp; first | done | with_reducible rfl)
    try simp only [Act.put, List.getElem_toArray, List.getElem_cons_succ, List.getElem_cons_zero, List.setIfInBounds_toArray, List.set_cons_zero, List.set_cons_succ]
    refine wpAnyH_take (i := 15) (v := ?v15) rfl (by kernel_rfl) (by kernel_rfl) (by kernel_rfl) (fun _ _ _ h => h) (Or.inl ⟨by rfl, ?y15⟩) (by assumption) ?r15
    case y15 => (intro w hSw; (try dsimp only at hSw); go_simp; first | done | with_reducible rfl)
    try simp only [Act.put, List.getElem_toArray, List.getElem_cons_succ, List.getElem_cons_zero, List.setIfInBounds_toArray, List.set_cons_zero, List.set_cons_succ]
    refine wpAnyH_ready (rs := [16]) (by kernel_rfl) (by simp) ?_
    refine AllReadyH.cons rfl (fun K hK => ?_) AllReadyH.nil
    go_simp
    with_reducible refine (HF4.out _).mono ?_
    rintro ev w9 ⟨rfl, k9⟩
    have KC := Lib.hid (KC.out.trans' k9)
    clear k9
    try dsimp only
    refine hK.out _ _ (KEEP.out _ KC.out) (fun hHeld => ?_)
    clear hK K
    try simp only [Act.put, List.getElem_toArray, List.getElem_cons_succ, List.getElem_cons_zero, List.setIfInBounds_toArray, List.set_cons_zero, List.set_cons_succ]
    refine wpAnyH_take (i := 17) (v := ?v17) rfl (by kernel_rfl) (by kernel_rfl) (by kernel_rfl) (fun _ _ _ h => h) (Or.inl ⟨by rfl, ?y17⟩) (by assumption) ?r17
    case y17 => (intro w hSw; (try dsimp only at hSw); go_simp; first | done | with_reducible rfl)
    try simp only [Act.put, List.getElem_toArray, List.getElem_cons_succ, List.getElem_cons_zero, List.setIfInBounds_toArray, List.set_cons_zero, List.set_cons_succ]
    refine wpAnyH_take (i := 18) (v := ?v18) rfl (by kernel_rfl) (by kernel_rfl) (by kernel_rfl) (fun _ _ _ h => h) (Or.inl ⟨by rfl, ?y18⟩) (by assumption) ?r18
    case y18 => (intro w hSw; (try dsimp only at hSw); go_simp; first | done | with_reducible rfl)
    try simp only [Act.put, List.getElem_toArray, List.getElem_cons_succ, List.getElem_cons_zero, List.setIfInBounds_toArray, List.set_cons_zero, List.set_cons_succ]
    refine wpAnyH_take (i := 19) (v := ?v19) rfl (by kernel_rfl) (by kernel_rfl) (by kernel_rfl) (fun _ _ _ h => h) (Or.inl ⟨by rfl, ?y19⟩) (by assumption) ?r19
    case y19 => (intro w hSw; (try dsimp only at hSw); go_simp; first | done | with_reducible rfl)
    try simp only [Act.put, List.getElem_toArray, List.getElem_cons_succ, List.getElem_cons_zero, List.setIfInBounds_toArray, List.set_cons_zero, List.set_cons_succ]
    refine wpAnyH_take (i := 20) (v := ?v20) rfl (by kernel_rfl) (by kernel_rfl) (by kernel_rfl) (fun _ _ _ h => h) (Or.inl ⟨by rfl, ?y20⟩) (by assumption) ?r20
    case y20 => (intro w hSw; (try dsimp only at hSw); go_simp; first | done | with_reducible rfl)
    try simp only [Act.put, List.getElem_toArray, List.getElem_cons_succ, List.getElem_cons_zero, List.setIfInBounds_toArray, List.set_cons_zero, List.set_cons_succ]
    refine wpAnyH_ready (rs := [21]) (by kernel_rfl) (by simp) ?_
    refine AllReadyH.cons rfl (fun K hK => ?_) AllReadyH.nil
    go_simp
    with_reducible refine (HF6.out _).mono ?_
    rintro ev w9 ⟨rfl, k9⟩
    have KC := Lib.hid (KC.out.trans' k9)
    clear k9
    try dsimp only
    refine hK.out _ _ (KEEP.out _ KC.out) (fun hHeld => ?_)
    clear hK K
    try simp only [Act.put, List.getElem_toArray, List.getElem_cons_succ, List.getElem_cons_zero, List.setIfInBounds_toArray, List.set_cons_zero, List.set_cons_succ]
    refine wpAnyH_take (i := 22) (v := ?v22) rfl (by kernel_rfl) (by kernel_rfl) (by kernel_rfl) (fun _ _ _ h => h) (Or.inl ⟨by rfl, ?y22⟩) (by assumption) ?r22
    case y22 => (intro w hSw; (try dsimp only at hSw); go_simp; first | done | with_reducible rfl)
    try simp only [Act.put, List.getElem_toArray, List.getElem_cons_succ, List.getElem_cons_zero, List.setIfInBounds_toArray, List.set_cons_zero, List.set_cons_succ]
    refine wpAnyH_take (i := 23) (v := ?v23) rfl (by kernel_rfl) (by kernel_rfl) (by kernel_rfl) (fun _ _ _ h => h) (Or.inl ⟨by rfl, ?y23⟩) (by assumption) ?r23
    case y23 => (intro w hSw; (try dsimp only at hSw); go_simp; first | done | with_reducible rfl)
    try simp only [Act.put, List.getElem_toArray, List.getElem_cons_succ, List.getElem_cons_zero, List.setIfInBounds_toArray, List.set_cons_zero, List.set_cons_succ]
    refine wpAnyH_take (i := 24) (v := undef) rfl (by kernel_rfl) (by kernel_rfl) (by kernel_rfl) (fun _ _ _ h => h) (Or.inr ⟨by rfl, rfl⟩) (by assumption) ?_
    try simp only [Act.put, List.getElem_toArray, List.getElem_cons_succ, List.getElem_cons_zero, List.setIfInBounds_toArray, List.set_cons_zero, List.set_cons_succ]
    refine wpAnyH_take (i := 25) (v := undef) rfl (by kernel_rfl) (by kernel_rfl) (by kernel_rfl) (fun _ _ _ h => h) (Or.inr ⟨by rfl, rfl⟩) (by assumption) ?_
    try simp only [Act.put, List.getElem_toArray, List.getElem_cons_succ, List.getElem_cons_zero, List.setIfInBounds_toArray, List.set_cons_zero, List.set_cons_succ]
    refine wpAnyH_take (i := 26) (v := undef) rfl (by kernel_rfl) (by kernel_rfl) (by kernel_rfl) (fun _ _ _ h => h) (Or.inr ⟨by rfl, rfl⟩) (by assumption) ?_
    try simp only [Act.put, List.getElem_toArray, List.getElem_cons_succ, List.getElem_cons_zero, List.setIfInBounds_toArray, List.set_cons_zero, List.set_cons_succ]
    refine wpAnyH_take (i := 27) (v := undef) rfl (by kernel_rfl) (by kernel_rfl) (by kernel_rfl) (fun _ _ _ h => h) (Or.inr ⟨by rfl, rfl⟩) (by assumption) ?_
    try simp only [Act.put, List.getElem_toArray, List.getElem_cons_succ, List.getElem_cons_zero, List.setIfInBounds_toArray, List.set_cons_zero, List.set_cons_succ]
    refine wpAnyH_take (i := 28) (v := undef) rfl (by kernel_rfl) (by kernel_rfl) (by kernel_rfl) (fun _ _ _ h => h) (Or.inr ⟨by rfl, rfl⟩) (by assumption) ?_
    try simp only [Act.put, List.getElem_toArray, List.getElem_cons_succ, List.getElem_cons_zero, List.setIfInBounds_toArray, List.set_cons_zero, List.set_cons_succ]
    refine wpAnyH_take (i := 29) (v := undef) rfl (by kernel_rfl) (by kernel_rfl) (by kernel_rfl) (fun _ _ _ h => h) (Or.inr ⟨by rfl, rfl⟩) (by assumption) ?_
    try simp only [Act.put, List.getElem_toArray, List.getElem_cons_succ, List.getElem_cons_zero, List.setIfInBounds_toArray, List.set_cons_zero, List.set_cons_succ]
    refine wpAnyH_take (i := 30) (v := undef) rfl (by kernel_rfl) (by kernel_rfl) (by kernel_rfl) (fun _ _ _ h => h) (Or.inr ⟨by rfl, rfl⟩) (by assumption) ?_
    try simp only [Act.put, List.getElem_toArray, List.getElem_cons_succ, List.getElem_cons_zero, List.setIfInBounds_toArray, List.set_cons_zero, List.set_cons_succ]
    refine wpAnyH_take (i := 31) (v := undef) rfl (by kernel_rfl) (by kernel_rfl) (by kernel_rfl) (fun _ _ _ h => h) (Or.inr ⟨by rfl, rfl⟩) (by assumption) ?_
    try simp only [Act.put, List.getElem_toArray, List.getElem_cons_succ, List.getElem_cons_zero, List.setIfInBounds_toArray, List.set_cons_zero, List.set_cons_succ]
    refine wpAnyH_take (i := 32) (v := ?v32) rfl (by kernel_rfl) (by kernel_rfl) (by kernel_rfl) (fun _ _ _ h => h) (Or.inl ⟨by rfl, ?y32⟩) (by assumption) ?r32
    case y32 => (intro w hSw; (try dsimp only at hSw); go_simp; first | done | with_reducible rfl)
    try simp only [Act.put, List.getElem_toArray, List.getElem_cons_succ, List.getElem_cons_zero, List.setIfInBounds_toArray, List.set_cons_zero, List.set_cons_succ]
    refine wpAnyH_take (i := 33) (v := ?v33) rfl (by kernel_rfl) (by kernel_rfl) (by kernel_rfl) (fun _ _ _ h => h) (Or.inl ⟨by rfl, ?y33⟩) (by assumption) ?r33
    case y33 => (intro w hSw; (try dsimp only at hSw); go_simp; first | done | with_reducible rfl)
    try simp only [Act.put, List.getElem_toArray, List.getElem_cons_succ, List.getElem_cons_zero, List.setIfInBounds_toArray, List.set_cons_zero, List.set_cons_succ]
    refine wpAnyH_take (i := 34) (v := ?v34) rfl (by kernel_rfl) (by kernel_rfl) (by kernel_rfl) (fun _ _ _ h => h) (Or.inl ⟨by rfl, ?y34⟩) (by assumption) ?r34
    case y34 => (intro w hSw; (try dsimp only at hSw); go_simp; first | done | with_reducible rfl)
    try simp only [Act.put, List.getElem_toArray, List.getElem_cons_succ, List.getElem_cons_zero, List.setIfInBounds_toArray, List.set_cons_zero, List.set_cons_succ]
    refine wpAnyH_take (i := 35) (v := ?v35) rfl (by kernel_rfl) (by kernel_rfl) (by kernel_rfl) (fun _ _ _ h => h) (Or.inl ⟨by rfl, ?y35⟩) (by assumption) ?r35
    case y35 => (intro w hSw; (try dsimp only at hSw); go_simp; first | done | with_reducible rfl)
    try simp only [Act.put, List.getElem_toArray, List.getElem_cons_succ, List.getElem_cons_zero, List.setIfInBounds_toArray, List.set_cons_zero, List.set_cons_succ]
    refine wpAnyH_take (i := 36) (v := ?v36) rfl (by kernel_rfl) (by kernel_rfl) (by kernel_rfl) (fun _ _ _ h => h) (Or.inl ⟨by rfl, ?y36⟩) (by assumption) ?r36
    case y36 => (intro w hSw; (try dsimp only at hSw); go_simp; first | done | with_reducible rfl)
    try simp only [Act.put, List.getElem_toArray, List.getElem_cons_succ, List.getElem_cons_zero, List.setIfInBounds_toArray, List.set_cons_zero, List.set_cons_succ]
    refine wpAnyH_take (i := 37) (v := ?v37) rfl (by kernel_rfl) (by kernel_rfl) (by kernel_rfl) (fun _ _ _ h => h) (Or.inl ⟨by rfl, ?y37⟩) (by assumption) ?r37
    case y37 => (intro w hSw; (try dsimp only at hSw); go_simp; first | done | with_reducible rfl)
    try simp only [Act.put, List.getElem_toArray, List.getElem_cons_succ, List.getElem_cons_zero, List.setIfInBounds_toArray, List.set_cons_zero, List.set_cons_succ]
    refine wpAnyH_ready (rs := [38]) (by kernel_rfl) (by simp) ?_
    refine AllReadyH.cons rfl (fun K hK => ?_) AllReadyH.nil
    go_simp
    with_reducible refine (HF5.out _).mono ?_
    rintro ev w9 ⟨rfl, k9⟩
    have KC := Lib.hid (KC.out.trans' k9)
    clear k9
    try dsimp only
    refine hK.out _ _ (KEEP.out _ KC.out) (fun hHeld => ?_)
    clear hK K
    try simp only [Act.put, List.getElem_toArray, List.getElem_cons_succ, List.getElem_cons_zero, List.setIfInBounds_toArray, List.set_cons_zero, List.set_cons_succ]
    refine wpAnyH_take (i := 39) (v := ?v39) rfl (by kernel_rfl) (by kernel_rfl) (by kernel_rfl) (fun _ _ _ h => h) (Or.inl ⟨by rfl, ?y39⟩) (by assumption) ?r39
    case y39 => (intro w hSw; (try dsimp only at hSw); go_simp; first | done | with_reducible rfl)
    try simp only [Act.put, List.getElem_toArray, List.getElem_cons_succ, List.getElem_cons_zero, List.setIfInBounds_toArray, List.set_cons_zero, List.set_cons_succ]
    refine wpAnyH_take (i := 40) (v := ?v40) rfl (by kernel_rfl) (by kernel_rfl) (by kernel_rfl) (fun _ _ _ h => h) (Or.inl ⟨by rfl, ?y40⟩) (by assumption) ?r40
    case y40 => (intro w hSw; (try dsimp only at hSw); go_simp; first | done | with_reducible rfl)
    try simp only [Act.put, List.getElem_toArray, List.getElem_cons_succ, List.getElem_cons_zero, List.setIfInBounds_toArray, List.set_cons_zero, List.set_cons_succ]
    refine wpAnyH_take (i := 41) (v := ?v41) rfl (by kernel_rfl) (by kernel_rfl) (by kernel_rfl) (fun _ _ _ h => h) (Or.inl ⟨by rfl, ?y41⟩) (by assumption) ?r41
    case y41 => (intro w hSw; (try dsimp only at hSw); go_simp; first | done | with_reducible rfl)
    try simp only [Act.put, List.getElem_toArray, List.getElem_cons_succ, List.getElem_cons_zero, List.setIfInBounds_toArray, List.set_cons_zero, List.set_cons_succ]
    refine wpAnyH_done (by kernel_rfl) ?_ _
    all_goals
      go_wp2_with fail
      go_ret
      exact ⟨rfl, K5.out.trans' KC.out⟩
end Go.Proofs.YtconpcnmccmbiaaDoor
