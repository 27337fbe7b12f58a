/- Ether: the walk of EtherWrites. -/
import Derived.Test.YtconpcnmccmbiaaDoorFb
import Derived.Test.YtconpcnmccmbiaaDoorFc
set_option linter.unusedVariables false
set_option linter.unusedSimpArgs false
namespace Go.Proofs.YtconpcnmccmbiaaDoor
open Go.RowKit

theorem eparse_even2 (g cut n c : Nat) (t f : Nat → Int) (k : Nat) (ys : List Int) (w : World) (hr : RdI w .u8 (some ⟨g, 0, none⟩) (fbytes t f k ys)) (ht : Oct t) (hf : Oct f) (hk : k < 65536) (hy : Byt ys) (h1 : 14 ≤ cut) (h2 : cut ≤ 14 + ys.length) (h3 : ys.length ≤ 1500) (h4 : cut ≤ c) (he : (f 0 % 2 != 0) = false) (hn : cut - 14 = n) :
    Calls Tryd.prog 47 #[.slice (some ⟨g, 0, none⟩) cut c] w fun ev w' => ∃ A d, ev = .returned (.tuple #[.agg #[.int .u8 (t 0), .int .u8 (t 1), .int .u8 (t 2), .int .u8 (t 3), .int .u8 (t 4), .int .u8 (t 5), .int .u8 (f 0), .int .u8 (f 1), .int .u8 (f 2), .int .u8 (f 3), .int .u8 (f 4), .int .u8 (f 5), .int .u16 k, .slice A n d], .nilIface]) ∧ w'.ownsRow w.heap.size 5 1 (.slice A n d) n (intsK .u8 (ys.take n)) ∧ Kp (fun _ => False) w w' := by
  subst hn
  exact eparse_even g cut c t f k ys w hr ht hf hk hy h1 h2 h3 h4 he
theorem eparse_odd2 (g cut c : Nat) (t f : Nat → Int) (k : Nat) (ys : List Int) (w : World) (hr : RdI w .u8 (some ⟨g, 0, none⟩) (fbytes t f k ys)) (ht : Oct t) (hf : Oct f) (hk : k < 65536) (hy : Byt ys) (h1 : 14 ≤ cut) (h2 : cut ≤ 14 + ys.length) (h3 : ys.length ≤ 1500) (h4 : cut ≤ c) (he : (f 0 % 2 != 0) = true) :
    Calls Tryd.prog 47 #[.slice (some ⟨g, 0, none⟩) cut c] w fun ev w' => ∃ v, ev = .returned (.tuple #[.agg #[.int .u8 0, .int .u8 0, .int .u8 0, .int .u8 0, .int .u8 0, .int .u8 0, .int .u8 0, .int .u8 0, .int .u8 0, .int .u8 0, .int .u8 0, .int .u8 0, .int .u16 0, .slice none 0 0], v]) ∧ Chain w' 10 [1] v ∧ Kp (fun _ => False) w w' := eparse_odd g cut c t f k ys w hr ht hf hk hy h1 h2 h3 h4 he
theorem own_none {w : World} {base e size n m c : Nat} {A : Option Addr} {xs : List Value} (h : w.ownsRow base e size (.slice A n c) m xs) : A = none → c = 0 := by
  rintro rfl
  rcases h.2 with ⟨h, _⟩ | ⟨g, cap, cur, h, _⟩
  · cases h; rfl
  · cases h
theorem own_rd {w : World} {base n c : Nat} {A : Option Addr} {xs : List Int} {m : Nat} (h : w.ownsRow base 5 1 (.slice A n c) m (intsK .u8 xs)) : RdI w .u8 A xs := by
  obtain ⟨A', c', e, _, h2, _⟩ := RdI.of_own (k := .u8) (xs := xs) h
  cases e
  exact h2

theorem kp_kc {w w' : World} {p : Addr} {v : Value} (h : w.cell? p = some v) (k : Kp (fun _ => False) w w') : w'.cell? p = some v := (k.cell (World.block_lt_of_cell? w _ h) (fun f => f)).trans h

set_option maxRecDepth 100000 in
set_option maxHeartbeats 40000000 in
theorem writes_walk (t f t2 f2 : Nat → Int) (k k2 : Nat) (A B : Option Addr) (c d : Nat) (ys zs : List Int) (w : World) (hE : Et w) (ht : Oct t) (hf : Oct f) (hk : k < 65536) (hk2 : k2 < 65536)
    (hy : RdI w .u8 A ys) (by1 : Byt ys) (h0 : A = none → c = 0) (hz : RdI w .u8 B zs) (by2 : Byt zs) (h02 : B = none → d = 0) :
    Calls Tryd.prog 12 #[.agg (frm t f k (.slice A ys.length c)), .agg (frm t2 f2 k2 (.slice B zs.length d))] w fun ev w' => ev = .returned (.bool true) ∧ Kp (fun _ => False) w w' := by
  obtain ⟨n, hn⟩ : ∃ n, ys.length = n := ⟨_, rfl⟩
  obtain ⟨m, hm⟩ : ∃ m, zs.length = m := ⟨_, rfl⟩
  rw [hn, hm]
  have kA := ((Kp.refl (fun _ => False) w).alloc (.cells (frm t f k (.slice A n c)) 77)).alloc (.cells (frm t2 f2 k2 (.slice B m d)) 77)
  have hb0 := (Bk.new w 77 (frm t f k (.slice A n c))).alloc (.cells (frm t2 f2 k2 (.slice B m d)) 77)
  have hb1 := Bk.new (w.alloc (.cells (frm t f k (.slice A n c)) 77)) 77 (frm t2 f2 k2 (.slice B m d))
  rw [show (w.alloc (.cells (frm t f k (.slice A n c)) 77)).heap.size = w.heap.size + 1 by simp] at hb1
  have HB0 := Lib.hid hb0
  have HB1 := Lib.hid hb1
  have HK := Lib.hid kA
  have HE := Lib.hid (hE.kept kA (fun x => x))
  have HY := Lib.hid (hy.kp kA (fun _ _ _ x => x))
  have HZ := Lib.hid (hz.kp kA (fun _ _ _ x => x))
  have HT := Lib.hid ht
  have HF := Lib.hid hf
  have HB2 := Lib.hid by1
  have HB3 := Lib.hid by2
  have HN := Lib.hid hn
  have HM := Lib.hid hm
  have H0 := Lib.hid h0
  have H02 := Lib.hid h02
  clear kA hb0 hb1 hE hy hz ht hf by1 by2 hn hm h0 h02
  go_enter Tryd.func12, Tryd.ntmps12
  go_wp2_with fail
  refine (alive05 _ HE.out).mono ?_
  rintro ev w1 ⟨rfl, k1⟩
  have b0 := HB0.out.kept k1 (fun x => x)
  have b1 := HB1.out.kept k1 (fun x => x)
  have x0 : _ = some (Value.int IntKind.u8 (t 0)) := b0.cell 0
  have x1 : _ = some (Value.int IntKind.u8 (t 1)) := b0.cell 1
  have x2 : _ = some (Value.int IntKind.u8 (t 2)) := b0.cell 2
  have x3 : _ = some (Value.int IntKind.u8 (t 3)) := b0.cell 3
  have x4 : _ = some (Value.int IntKind.u8 (t 4)) := b0.cell 4
  have x5 : _ = some (Value.int IntKind.u8 (t 5)) := b0.cell 5
  have x6 : _ = some (Value.int IntKind.u8 (f 0)) := b0.cell 6
  have x7 : _ = some (Value.int IntKind.u8 (f 1)) := b0.cell 7
  have x8 : _ = some (Value.int IntKind.u8 (f 2)) := b0.cell 8
  have x9 : _ = some (Value.int IntKind.u8 (f 3)) := b0.cell 9
  have x10 : _ = some (Value.int IntKind.u8 (f 4)) := b0.cell 10
  have x11 : _ = some (Value.int IntKind.u8 (f 5)) := b0.cell 11
  have x12 : _ = some (Value.int IntKind.u16 k) := b0.cell 12
  have x13 : _ = some (Value.slice A n c) := b0.cell 13
  have y0 : _ = some (Value.int IntKind.u8 (t2 0)) := b1.cell 0
  have y1 : _ = some (Value.int IntKind.u8 (t2 1)) := b1.cell 1
  have y2 : _ = some (Value.int IntKind.u8 (t2 2)) := b1.cell 2
  have y3 : _ = some (Value.int IntKind.u8 (t2 3)) := b1.cell 3
  have y4 : _ = some (Value.int IntKind.u8 (t2 4)) := b1.cell 4
  have y5 : _ = some (Value.int IntKind.u8 (t2 5)) := b1.cell 5
  have y6 : _ = some (Value.int IntKind.u8 (f2 0)) := b1.cell 6
  have y7 : _ = some (Value.int IntKind.u8 (f2 1)) := b1.cell 7
  have y8 : _ = some (Value.int IntKind.u8 (f2 2)) := b1.cell 8
  have y9 : _ = some (Value.int IntKind.u8 (f2 3)) := b1.cell 9
  have y10 : _ = some (Value.int IntKind.u8 (f2 4)) := b1.cell 10
  have y11 : _ = some (Value.int IntKind.u8 (f2 5)) := b1.cell 11
  have y12 : _ = some (Value.int IntKind.u16 k2) := b1.cell 12
  have y13 : _ = some (Value.slice B m d) := b1.cell 13
  have B0 := Lib.hid b0
  have B1 := Lib.hid b1
  have K1 := Lib.hid (HK.out.trans' k1)
  have E1 := Lib.hid (HE.out.kept k1 (fun x => x))
  have Y1 := Lib.hid (HY.out.kp k1 (fun _ _ _ x => x))
  have Z1 := Lib.hid (HZ.out.kp k1 (fun _ _ _ x => x))
  clear b0 b1 k1
  generalize Value.agg (frm t f k (.slice A n c)) = G1
  generalize Value.agg (frm t2 f2 k2 (.slice B m d)) = G2
  by_cases hbig : 3000 < n
  · have hbi : (3000 : Int) < (n : Int) := by omega
    go_wp2_with fail
    go_ret
    exact ⟨rfl, K1.out⟩
  by_cases hbig2 : 3000 < m
  · have hbi : ¬ ((3000 : Int) < (n : Int)) := by omega
    have hbi2 : (3000 : Int) < (m : Int) := by omega
    go_wp2_with fail
    go_ret
    exact ⟨rfl, K1.out⟩
  have hbi : ¬ ((3000 : Int) < (n : Int)) := by omega
  have hbi2 : ¬ ((3000 : Int) < (m : Int)) := by omega
  go_wp2_with fail
  clear x0 x1 x2 x3 x4 x5 x6 x7 x8 x9 x10 x11 x12 x13 y0 y1 y2 y3 y4 y5 y6 y7 y8 y9 y10 y11 y12 y13
  by_cases hlong : 1500 < n
  · refine (ebytes_long t f k A n c _ hlong).mono ?_
    rintro ev w2 ⟨v2, rfl, c2, k2w⟩
    have hv2 := c2.form
    rcases hv2 with ⟨x2, rfl⟩ | ⟨x2, rfl⟩
    · exact absurd c2 (by rintro ⟨g, v', h, _⟩; cases h)
    have b0 := B0.out.kept k2w (fun x => x)
    have b1 := B1.out.kept k2w (fun x => x)
    have B0 := Lib.hid b0
    have B1 := Lib.hid b1
    have E1 := Lib.hid (E1.out.kept k2w (fun x => x))
    have Y1 := Lib.hid (Y1.out.kp k2w (fun _ _ _ x => x))
    have Z1 := Lib.hid (Z1.out.kp k2w (fun _ _ _ x => x))
    have K1 := Lib.hid (K1.out.trans' k2w)
    have x0 : _ = some (Value.int IntKind.u8 (t 0)) := b0.cell 0
    have x1 : _ = some (Value.int IntKind.u8 (t 1)) := b0.cell 1
    have x2 : _ = some (Value.int IntKind.u8 (t 2)) := b0.cell 2
    have x3 : _ = some (Value.int IntKind.u8 (t 3)) := b0.cell 3
    have x4 : _ = some (Value.int IntKind.u8 (t 4)) := b0.cell 4
    have x5 : _ = some (Value.int IntKind.u8 (t 5)) := b0.cell 5
    have x6 : _ = some (Value.int IntKind.u8 (f 0)) := b0.cell 6
    have x7 : _ = some (Value.int IntKind.u8 (f 1)) := b0.cell 7
    have x8 : _ = some (Value.int IntKind.u8 (f 2)) := b0.cell 8
    have x9 : _ = some (Value.int IntKind.u8 (f 3)) := b0.cell 9
    have x10 : _ = some (Value.int IntKind.u8 (f 4)) := b0.cell 10
    have x11 : _ = some (Value.int IntKind.u8 (f 5)) := b0.cell 11
    have x12 : _ = some (Value.int IntKind.u16 k) := b0.cell 12
    have x13 : _ = some (Value.slice A n c) := b0.cell 13
    have C2 := Lib.hid c2
    clear b0 b1 c2 k2w
    go_wp2_with fail
    clear x0 x1 x2 x3 x4 x5 x6 x7 x8 x9 x10 x11 x12 x13
    refine (of_frm t f k A n c ys _ Y1.out HN.out.symm (by omega) H0.out).mono ?_
    rintro ev w3 ⟨A3, c3, rfl, own3, k3⟩
    have C3 := Lib.hid (C2.out.none_kept k3)
    have b0 := B0.out.kept k3 (fun x => x)
    have b1 := B1.out.kept k3 (fun x => x)
    have B0 := Lib.hid b0
    have B1 := Lib.hid b1
    have E1 := Lib.hid (E1.out.kept k3 (fun x => x))
    have Y1 := Lib.hid (Y1.out.kp k3 (fun _ _ _ x => x))
    have Z1 := Lib.hid (Z1.out.kp k3 (fun _ _ _ x => x))
    have K1 := Lib.hid (K1.out.trans' k3)
    clear b0 b1 k3 own3
    go_wp2_with fail
    refine (rbytes_long t f k A3 n c3 _ hlong).mono ?_
    rintro ev w4 ⟨A4, c4, rfl, r4, hc4, k4⟩
    have kB := k4.alloc (.cells #[.slice A4 1 c4, .int .i64 11] 52)
    have kB1 := (Kp.refl (fun _ => False) w4).alloc (.cells #[.slice A4 1 c4, .int .i64 11] 52)
    have C4 := Lib.hid (C3.out.none_kept kB)
    have R4 := Lib.hid (r4.kp kB1 (fun _ _ _ x => x))
    have D8 := Lib.hid (Bk.new w4 52 #[.slice A4 1 c4, .int .i64 11])
    have b0 := B0.out.kept kB (fun x => x)
    have b1 := B1.out.kept kB (fun x => x)
    have B0 := Lib.hid b0
    have B1 := Lib.hid b1
    have E1 := Lib.hid (E1.out.kept kB (fun x => x))
    have Y1 := Lib.hid (Y1.out.kp kB (fun _ _ _ x => x))
    have Z1 := Lib.hid (Z1.out.kp kB (fun _ _ _ x => x))
    have K1 := Lib.hid (K1.out.trans' kB)
    clear b0 b1 k4 kB kB1 r4
    go_upto_region 7 with fail
    obtain ⟨g8, hg8⟩ : ∃ g, w4.heap.size = g := ⟨_, rfl⟩
    rw [hg8] at D8 ⊢
    clear hg8
    generalize w4.alloc (.cells #[.slice A4 1 c4, .int .i64 11] 52) = w0 at *
    have keep : ∀ b, Kp (fun _ => False) w0 b → (fun w' => Kp (fun _ => False) w0 w' ∧ w'.cell? ⟨g8, 0, none⟩ = some (Value.slice A4 1 c4) ∧ w'.cell? ⟨g8, 1, none⟩ = some (Value.int .i64 11) ∧ w'.cell? ⟨w.heap.size, 0, none⟩ = some (Value.int IntKind.u8 (t 0)) ∧ w'.cell? ⟨w.heap.size, 1, none⟩ = some (Value.int IntKind.u8 (t 1)) ∧ w'.cell? ⟨w.heap.size, 2, none⟩ = some (Value.int IntKind.u8 (t 2)) ∧ w'.cell? ⟨w.heap.size, 3, none⟩ = some (Value.int IntKind.u8 (t 3)) ∧ w'.cell? ⟨w.heap.size, 4, none⟩ = some (Value.int IntKind.u8 (t 4)) ∧ w'.cell? ⟨w.heap.size, 5, none⟩ = some (Value.int IntKind.u8 (t 5)) ∧ w'.cell? ⟨w.heap.size, 6, none⟩ = some (Value.int IntKind.u8 (f 0)) ∧ w'.cell? ⟨w.heap.size, 7, none⟩ = some (Value.int IntKind.u8 (f 1)) ∧ w'.cell? ⟨w.heap.size, 8, none⟩ = some (Value.int IntKind.u8 (f 2)) ∧ w'.cell? ⟨w.heap.size, 9, none⟩ = some (Value.int IntKind.u8 (f 3)) ∧ w'.cell? ⟨w.heap.size, 10, none⟩ = some (Value.int IntKind.u8 (f 4)) ∧ w'.cell? ⟨w.heap.size, 11, none⟩ = some (Value.int IntKind.u8 (f 5)) ∧ w'.cell? ⟨w.heap.size, 12, none⟩ = some (Value.int IntKind.u16 k) ∧ w'.cell? ⟨w.heap.size, 13, none⟩ = some (Value.slice A n c) ∧ w'.cell? ⟨w.heap.size + 1, 0, none⟩ = some (Value.int IntKind.u8 (t2 0)) ∧ w'.cell? ⟨w.heap.size + 1, 1, none⟩ = some (Value.int IntKind.u8 (t2 1)) ∧ w'.cell? ⟨w.heap.size + 1, 2, none⟩ = some (Value.int IntKind.u8 (t2 2)) ∧ w'.cell? ⟨w.heap.size + 1, 3, none⟩ = some (Value.int IntKind.u8 (t2 3)) ∧ w'.cell? ⟨w.heap.size + 1, 4, none⟩ = some (Value.int IntKind.u8 (t2 4)) ∧ w'.cell? ⟨w.heap.size + 1, 5, none⟩ = some (Value.int IntKind.u8 (t2 5)) ∧ w'.cell? ⟨w.heap.size + 1, 6, none⟩ = some (Value.int IntKind.u8 (f2 0)) ∧ w'.cell? ⟨w.heap.size + 1, 7, none⟩ = some (Value.int IntKind.u8 (f2 1)) ∧ w'.cell? ⟨w.heap.size + 1, 8, none⟩ = some (Value.int IntKind.u8 (f2 2)) ∧ w'.cell? ⟨w.heap.size + 1, 9, none⟩ = some (Value.int IntKind.u8 (f2 3)) ∧ w'.cell? ⟨w.heap.size + 1, 10, none⟩ = some (Value.int IntKind.u8 (f2 4)) ∧ w'.cell? ⟨w.heap.size + 1, 11, none⟩ = some (Value.int IntKind.u8 (f2 5)) ∧ w'.cell? ⟨w.heap.size + 1, 12, none⟩ = some (Value.int IntKind.u16 k2) ∧ w'.cell? ⟨w.heap.size + 1, 13, none⟩ = some (Value.slice B m d)) b := fun b hk => ⟨hk, kp_kc (D8.out.cell 0) hk, kp_kc (D8.out.cell 1) hk, kp_kc (B0.out.cell 0) hk, kp_kc (B0.out.cell 1) hk, kp_kc (B0.out.cell 2) hk, kp_kc (B0.out.cell 3) hk, kp_kc (B0.out.cell 4) hk, kp_kc (B0.out.cell 5) hk, kp_kc (B0.out.cell 6) hk, kp_kc (B0.out.cell 7) hk, kp_kc (B0.out.cell 8) hk, kp_kc (B0.out.cell 9) hk, kp_kc (B0.out.cell 10) hk, kp_kc (B0.out.cell 11) hk, kp_kc (B0.out.cell 12) hk, kp_kc (B0.out.cell 13) hk, kp_kc (B1.out.cell 0) hk, kp_kc (B1.out.cell 1) hk, kp_kc (B1.out.cell 2) hk, kp_kc (B1.out.cell 3) hk, kp_kc (B1.out.cell 4) hk, kp_kc (B1.out.cell 5) hk, kp_kc (B1.out.cell 6) hk, kp_kc (B1.out.cell 7) hk, kp_kc (B1.out.cell 8) hk, kp_kc (B1.out.cell 9) hk, kp_kc (B1.out.cell 10) hk, kp_kc (B1.out.cell 11) hk, kp_kc (B1.out.cell 12) hk, kp_kc (B1.out.cell 13) hk⟩
    have KEEP := Lib.hid keep
    have KC := Lib.hid ((Kp.refl (fun _ => False) w0).drew)
    obtain ⟨p, hp⟩ : ∃ p, (macEq t t2 && macEq f f2 && ((k : Int) == k2) && (ys == zs)) = p := ⟨_, rfl⟩
    have his : ∀ w', Kp (fun _ => False) w0 w' → Calls Tryd.prog 49 #[(.iface 109 x2), .agg #[.slice A4 1 c4, .int .i64 11]] w' fun ev w'' => ev = .returned (.bool true) ∧ Kp (fun _ => False) w' w'' := fun w' hk => is_chain 1 11 _ A4 c4 w' (E1.out.kept hk (fun x => x)) (C4.out.none_kept hk) (by decide) (R4.out.kp hk (fun _ _ _ x => x)) hc4
    have hsb : ∀ w', Kp (fun _ => False) w0 w' → Calls Tryd.prog 53 #[(.slice none 0 0), (.slice none 0 0)] w' fun ev w'' => ev = .returned (.bool true) ∧ Kp (fun _ => False) w' w'' := fun w' hk => by
      have h := sameBytes_any none none 0 0 [] [] w' ⟨by simp, .inl rfl⟩ ⟨by simp, .inl rfl⟩
      rw [show ([] : List Int).length = 0 from rfl] at h
      refine h.mono ?_
      rintro ev w'' ⟨rfl, nn, rfl⟩
      exact ⟨by simp, (Kp.refl _ _).drewN nn⟩
    have hsa : ∀ w', Kp (fun _ => False) w0 w' → Calls Tryd.prog 56 #[.agg #[.int .u8 (t 0), .int .u8 (t 1), .int .u8 (t 2), .int .u8 (t 3), .int .u8 (t 4), .int .u8 (t 5), .int .u8 (f 0), .int .u8 (f 1), .int .u8 (f 2), .int .u8 (f 3), .int .u8 (f 4), .int .u8 (f 5), .int .u16 k, .slice A n c], .agg #[.int .u8 (t2 0), .int .u8 (t2 1), .int .u8 (t2 2), .int .u8 (t2 3), .int .u8 (t2 4), .int .u8 (t2 5), .int .u8 (f2 0), .int .u8 (f2 1), .int .u8 (f2 2), .int .u8 (f2 3), .int .u8 (f2 4), .int .u8 (f2 5), .int .u16 k2, .slice B m d]] w' fun ev w'' => ev = .returned (.bool p) ∧ Kp (fun _ => False) w' w'' := fun w' hk => by
      rw [← hp]
      exact same_any t f t2 f2 k k2 A B n c m d ys zs w' (Y1.out.kp hk (fun _ _ _ x => x)) (Z1.out.kp hk (fun _ _ _ x => x)) HN.out HM.out HB2.out HB3.out
    have ho1 : ∀ w', Kp (fun _ => False) w0 w' → Calls Tryd.prog 51 #[.agg #[.int .u8 (t 0), .int .u8 (t 1), .int .u8 (t 2), .int .u8 (t 3), .int .u8 (t 4), .int .u8 (t 5), .int .u8 (f 0), .int .u8 (f 1), .int .u8 (f 2), .int .u8 (f 3), .int .u8 (f 4), .int .u8 (f 5), .int .u16 k, .slice A n c]] w' fun ev w'' => ∃ A2 c2, ev = .returned (.agg #[.int .u8 (t 0), .int .u8 (t 1), .int .u8 (t 2), .int .u8 (t 3), .int .u8 (t 4), .int .u8 (t 5), .int .u8 (f 0), .int .u8 (f 1), .int .u8 (f 2), .int .u8 (f 3), .int .u8 (f 4), .int .u8 (f 5), .int .u16 k, .slice A2 n c2]) ∧ RdI w'' .u8 A2 ys ∧ Kp (fun _ => False) w' w'' := fun w' hk => by
      refine (of_frm t f k A n c ys w' (Y1.out.kp hk (fun _ _ _ x => x)) HN.out.symm (by omega) H0.out).mono ?_
      rintro ev w'' ⟨A2, c2, rfl, own, kk⟩
      exact ⟨A2, c2, rfl, own_rd own, kk⟩
    have ho2 : ∀ w', Kp (fun _ => False) w0 w' → Calls Tryd.prog 51 #[.agg #[.int .u8 (t2 0), .int .u8 (t2 1), .int .u8 (t2 2), .int .u8 (t2 3), .int .u8 (t2 4), .int .u8 (t2 5), .int .u8 (f2 0), .int .u8 (f2 1), .int .u8 (f2 2), .int .u8 (f2 3), .int .u8 (f2 4), .int .u8 (f2 5), .int .u16 k2, .slice B m d]] w' fun ev w'' => ∃ A2 c2, ev = .returned (.agg #[.int .u8 (t2 0), .int .u8 (t2 1), .int .u8 (t2 2), .int .u8 (t2 3), .int .u8 (t2 4), .int .u8 (t2 5), .int .u8 (f2 0), .int .u8 (f2 1), .int .u8 (f2 2), .int .u8 (f2 3), .int .u8 (f2 4), .int .u8 (f2 5), .int .u16 k2, .slice A2 m c2]) ∧ RdI w'' .u8 A2 zs ∧ Kp (fun _ => False) w' w'' := fun w' hk => by
      refine (of_frm t2 f2 k2 B m d zs w' (Z1.out.kp hk (fun _ _ _ x => x)) HM.out.symm (by omega) H02.out).mono ?_
      rintro ev w'' ⟨A2, c2, rfl, own, kk⟩
      exact ⟨A2, c2, rfl, own_rd own, kk⟩
    have hrs : ∀ w' A2 c2 A3 c3, RdI w' .u8 A2 ys → RdI w' .u8 A3 zs → Calls Tryd.prog 50 #[.agg #[.int .u8 (t 0), .int .u8 (t 1), .int .u8 (t 2), .int .u8 (t 3), .int .u8 (t 4), .int .u8 (t 5), .int .u8 (f 0), .int .u8 (f 1), .int .u8 (f 2), .int .u8 (f 3), .int .u8 (f 4), .int .u8 (f 5), .int .u16 k, .slice A2 n c2], .agg #[.int .u8 (t2 0), .int .u8 (t2 1), .int .u8 (t2 2), .int .u8 (t2 3), .int .u8 (t2 4), .int .u8 (t2 5), .int .u8 (f2 0), .int .u8 (f2 1), .int .u8 (f2 2), .int .u8 (f2 3), .int .u8 (f2 4), .int .u8 (f2 5), .int .u16 k2, .slice A3 m c3]] w' fun ev w'' => ev = .returned (.bool p) ∧ Kp (fun _ => False) w' w'' := fun w' A2 c2 A3 c3 h1 h2 => by
      rw [← hp]
      exact refSame_any t f t2 f2 k k2 A2 A3 n c2 m c3 ys zs w' h1 h2 HN.out HM.out HB2.out HB3.out
    have HIS := Lib.hid his
    have HSB := Lib.hid hsb
    have HSA := Lib.hid hsa
    have HO1 := Lib.hid ho1
    have HO2 := Lib.hid ho2
    have HRS := Lib.hid hrs
    clear keep his hsb hsa ho1 ho2 hrs hp
    refine wp_region_held_drew (S := (fun w' => Kp (fun _ => False) w0 w' ∧ w'.cell? ⟨g8, 0, none⟩ = some (Value.slice A4 1 c4) ∧ w'.cell? ⟨g8, 1, none⟩ = some (Value.int .i64 11) ∧ w'.cell? ⟨w.heap.size, 0, none⟩ = some (Value.int IntKind.u8 (t 0)) ∧ w'.cell? ⟨w.heap.size, 1, none⟩ = some (Value.int IntKind.u8 (t 1)) ∧ w'.cell? ⟨w.heap.size, 2, none⟩ = some (Value.int IntKind.u8 (t 2)) ∧ w'.cell? ⟨w.heap.size, 3, none⟩ = some (Value.int IntKind.u8 (t 3)) ∧ w'.cell? ⟨w.heap.size, 4, none⟩ = some (Value.int IntKind.u8 (t 4)) ∧ w'.cell? ⟨w.heap.size, 5, none⟩ = some (Value.int IntKind.u8 (t 5)) ∧ w'.cell? ⟨w.heap.size, 6, none⟩ = some (Value.int IntKind.u8 (f 0)) ∧ w'.cell? ⟨w.heap.size, 7, none⟩ = some (Value.int IntKind.u8 (f 1)) ∧ w'.cell? ⟨w.heap.size, 8, none⟩ = some (Value.int IntKind.u8 (f 2)) ∧ w'.cell? ⟨w.heap.size, 9, none⟩ = some (Value.int IntKind.u8 (f 3)) ∧ w'.cell? ⟨w.heap.size, 10, none⟩ = some (Value.int IntKind.u8 (f 4)) ∧ w'.cell? ⟨w.heap.size, 11, none⟩ = some (Value.int IntKind.u8 (f 5)) ∧ w'.cell? ⟨w.heap.size, 12, none⟩ = some (Value.int IntKind.u16 k) ∧ w'.cell? ⟨w.heap.size, 13, none⟩ = some (Value.slice A n c) ∧ w'.cell? ⟨w.heap.size + 1, 0, none⟩ = some (Value.int IntKind.u8 (t2 0)) ∧ w'.cell? ⟨w.heap.size + 1, 1, none⟩ = some (Value.int IntKind.u8 (t2 1)) ∧ w'.cell? ⟨w.heap.size + 1, 2, none⟩ = some (Value.int IntKind.u8 (t2 2)) ∧ w'.cell? ⟨w.heap.size + 1, 3, none⟩ = some (Value.int IntKind.u8 (t2 3)) ∧ w'.cell? ⟨w.heap.size + 1, 4, none⟩ = some (Value.int IntKind.u8 (t2 4)) ∧ w'.cell? ⟨w.heap.size + 1, 5, none⟩ = some (Value.int IntKind.u8 (t2 5)) ∧ w'.cell? ⟨w.heap.size + 1, 6, none⟩ = some (Value.int IntKind.u8 (f2 0)) ∧ w'.cell? ⟨w.heap.size + 1, 7, none⟩ = some (Value.int IntKind.u8 (f2 1)) ∧ w'.cell? ⟨w.heap.size + 1, 8, none⟩ = some (Value.int IntKind.u8 (f2 2)) ∧ w'.cell? ⟨w.heap.size + 1, 9, none⟩ = some (Value.int IntKind.u8 (f2 3)) ∧ w'.cell? ⟨w.heap.size + 1, 10, none⟩ = some (Value.int IntKind.u8 (f2 4)) ∧ w'.cell? ⟨w.heap.size + 1, 11, none⟩ = some (Value.int IntKind.u8 (f2 5)) ∧ w'.cell? ⟨w.heap.size + 1, 12, none⟩ = some (Value.int IntKind.u16 k2) ∧ w'.cell? ⟨w.heap.size + 1, 13, none⟩ = some (Value.slice B m d))) (by kernel_rfl) (KEEP.out _ KC.out) (fun hHeld => ?_)
    refine wpAnyH_take (i := 0) (v := ?v0_0) rfl (by kernel_rfl) (by kernel_rfl) (by kernel_rfl) (fun _ _ _ h => h) (Or.inl ⟨by rfl, ?y0_0⟩) (by assumption) ?r0_0
    case y0_0 => (intro w hSw; (try dsimp only at hSw); go_simp; first | done | with_reducible rfl)
    try simp only [Act.put, List.getElem_toArray, List.getElem_cons_succ, List.getElem_cons_zero, List.setIfInBounds_toArray, List.set_cons_zero, List.set_cons_succ]
    refine wpAnyH_take (i := 1) (v := ?v1_1) rfl (by kernel_rfl) (by kernel_rfl) (by kernel_rfl) (fun _ _ _ h => h) (Or.inl ⟨by rfl, ?y1_1⟩) (by assumption) ?r1_1
    case y1_1 => (intro w hSw; (try dsimp only at hSw); go_simp; first | done | with_reducible rfl)
    try simp only [Act.put, List.getElem_toArray, List.getElem_cons_succ, List.getElem_cons_zero, List.setIfInBounds_toArray, List.set_cons_zero, List.set_cons_succ]
    refine wpAnyH_ready (rs := [2]) (by kernel_rfl) (by simp) ?_
    refine AllReadyH.cons rfl (fun K hK => ?_) AllReadyH.nil
    go_simp
    with_reducible refine (HIS.out _ KC.out).mono ?_
    rintro ev w9 ⟨rfl, k9⟩
    have KC := Lib.hid (KC.out.trans' k9)
    clear k9
    try dsimp only
    refine hK.out _ _ (KEEP.out _ KC.out) (fun hHeld => ?_)
    clear hK K
    try simp only [Act.put, List.getElem_toArray, List.getElem_cons_succ, List.getElem_cons_zero, List.setIfInBounds_toArray, List.set_cons_zero, List.set_cons_succ]
    refine wpAnyH_take (i := 3) (v := ?v3_2) rfl (by kernel_rfl) (by kernel_rfl) (by kernel_rfl) (fun _ _ _ h => h) (Or.inl ⟨by rfl, ?y3_2⟩) (by assumption) ?r3_2
    case y3_2 => (intro w hSw; (try dsimp only at hSw); go_simp; first | done | with_reducible rfl)
    try simp only [Act.put, List.getElem_toArray, List.getElem_cons_succ, List.getElem_cons_zero, List.setIfInBounds_toArray, List.set_cons_zero, List.set_cons_succ]
    refine wpAnyH_take (i := 4) (v := ?v4_3) rfl (by kernel_rfl) (by kernel_rfl) (by kernel_rfl) (fun _ _ _ h => h) (Or.inl ⟨by rfl, ?y4_3⟩) (by assumption) ?r4_3
    case y4_3 => (intro w hSw; (try dsimp only at hSw); go_simp; first | done | with_reducible rfl)
    try simp only [Act.put, List.getElem_toArray, List.getElem_cons_succ, List.getElem_cons_zero, List.setIfInBounds_toArray, List.set_cons_zero, List.set_cons_succ]
    refine wpAnyH_take (i := 5) (v := ?v5_4) rfl (by kernel_rfl) (by kernel_rfl) (by kernel_rfl) (fun _ _ _ h => h) (Or.inl ⟨by rfl, ?y5_4⟩) (by assumption) ?r5_4
    case y5_4 => (intro w hSw; (try dsimp only at hSw); go_simp; first | done | with_reducible rfl)
    try simp only [Act.put, List.getElem_toArray, List.getElem_cons_succ, List.getElem_cons_zero, List.setIfInBounds_toArray, List.set_cons_zero, List.set_cons_succ]
    refine wpAnyH_take (i := 6) (v := ?v6_5) rfl (by kernel_rfl) (by kernel_rfl) (by kernel_rfl) (fun _ _ _ h => h) (Or.inl ⟨by rfl, ?y6_5⟩) (by assumption) ?r6_5
    case y6_5 => (intro w hSw; (try dsimp only at hSw); go_simp; first | done | with_reducible rfl)
    try simp only [Act.put, List.getElem_toArray, List.getElem_cons_succ, List.getElem_cons_zero, List.setIfInBounds_toArray, List.set_cons_zero, List.set_cons_succ]
    refine wpAnyH_ready (rs := [7]) (by kernel_rfl) (by simp) ?_
    refine AllReadyH.cons rfl (fun K hK => ?_) AllReadyH.nil
    go_simp
    with_reducible refine (HSB.out _ KC.out).mono ?_
    rintro ev w9 ⟨rfl, k9⟩
    have KC := Lib.hid (KC.out.trans' k9)
    clear k9
    try dsimp only
    refine hK.out _ _ (KEEP.out _ KC.out) (fun hHeld => ?_)
    clear hK K
    try simp only [Act.put, List.getElem_toArray, List.getElem_cons_succ, List.getElem_cons_zero, List.setIfInBounds_toArray, List.set_cons_zero, List.set_cons_succ]
    refine wpAnyH_take (i := 8) (v := ?v8_6) rfl (by kernel_rfl) (by kernel_rfl) (by kernel_rfl) (fun _ _ _ h => h) (Or.inl ⟨by rfl, ?y8_6⟩) (by assumption) ?r8_6
    case y8_6 => (intro w hSw; (try dsimp only at hSw); go_simp; first | done | with_reducible rfl)
    try simp only [Act.put, List.getElem_toArray, List.getElem_cons_succ, List.getElem_cons_zero, List.setIfInBounds_toArray, List.set_cons_zero, List.set_cons_succ]
    refine wpAnyH_take (i := 9) (v := ?v9_7) rfl (by kernel_rfl) (by kernel_rfl) (by kernel_rfl) (fun _ _ _ h => h) (Or.inl ⟨by rfl, ?y9_7⟩) (by assumption) ?r9_7
    case y9_7 => (intro w hSw; (try dsimp only at hSw); go_simp; first | done | with_reducible rfl)
    try simp only [Act.put, List.getElem_toArray, List.getElem_cons_succ, List.getElem_cons_zero, List.setIfInBounds_toArray, List.set_cons_zero, List.set_cons_succ]
    refine wpAnyH_take (i := 10) (v := ?v10_8) rfl (by kernel_rfl) (by kernel_rfl) (by kernel_rfl) (fun _ _ _ h => h) (Or.inl ⟨by rfl, ?y10_8⟩) (by assumption) ?r10_8
    case y10_8 => (intro w hSw; (try dsimp only at hSw); go_simp; first | done | with_reducible rfl)
    try simp only [Act.put, List.getElem_toArray, List.getElem_cons_succ, List.getElem_cons_zero, List.setIfInBounds_toArray, List.set_cons_zero, List.set_cons_succ]
    refine wpAnyH_take (i := 11) (v := ?v11_9) rfl (by kernel_rfl) (by kernel_rfl) (by kernel_rfl) (fun _ _ _ h => h) (Or.inl ⟨by rfl, ?y11_9⟩) (by assumption) ?r11_9
    case y11_9 => (intro w hSw; (try dsimp only at hSw); go_simp; first | done | with_reducible rfl)
    try simp only [Act.put, List.getElem_toArray, List.getElem_cons_succ, List.getElem_cons_zero, List.setIfInBounds_toArray, List.set_cons_zero, List.set_cons_succ]
    refine wpAnyH_take (i := 12) (v := ?v12_10) rfl (by kernel_rfl) (by kernel_rfl) (by kernel_rfl) (fun _ _ _ h => h) (Or.inl ⟨by rfl, ?y12_10⟩) (by assumption) ?r12_10
    case y12_10 => (intro w hSw; (try dsimp only at hSw); go_simp; first | done | with_reducible rfl)
    try simp only [Act.put, List.getElem_toArray, List.getElem_cons_succ, List.getElem_cons_zero, List.setIfInBounds_toArray, List.set_cons_zero, List.set_cons_succ]
    refine wpAnyH_take (i := 14) (v := ?v14_11) rfl (by kernel_rfl) (by kernel_rfl) (by kernel_rfl) (fun _ _ _ h => h) (Or.inl ⟨by rfl, ?y14_11⟩) (by assumption) ?r14_11
    case y14_11 => (intro w hSw; (try dsimp only at hSw); go_simp; first | done | with_reducible rfl)
    try simp only [Act.put, List.getElem_toArray, List.getElem_cons_succ, List.getElem_cons_zero, List.setIfInBounds_toArray, List.set_cons_zero, List.set_cons_succ]
    refine wpAnyH_take (i := 16) (v := ?v16_12) rfl (by kernel_rfl) (by kernel_rfl) (by kernel_rfl) (fun _ _ _ h => h) (Or.inl ⟨by rfl, ?y16_12⟩) (by assumption) ?r16_12
    case y16_12 => (intro w hSw; (try dsimp only at hSw); go_simp; first | done | with_reducible rfl)
    try simp only [Act.put, List.getElem_toArray, List.getElem_cons_succ, List.getElem_cons_zero, List.setIfInBounds_toArray, List.set_cons_zero, List.set_cons_succ]
    refine wpAnyH_ready (rs := [13]) (by kernel_rfl) (by simp) ?_
    refine AllReadyH.cons rfl (fun K hK => ?_) AllReadyH.nil
    go_simp
    with_reducible refine (HSA.out _ KC.out).mono ?_
    rintro ev w9 ⟨rfl, k9⟩
    have KC := Lib.hid (KC.out.trans' k9)
    clear k9
    try dsimp only
    refine hK.out _ _ (KEEP.out _ KC.out) (fun hHeld => ?_)
    clear hK K
    try simp only [Act.put, List.getElem_toArray, List.getElem_cons_succ, List.getElem_cons_zero, List.setIfInBounds_toArray, List.set_cons_zero, List.set_cons_succ]
    refine wpAnyH_ready (rs := [15]) (by kernel_rfl) (by simp) ?_
    refine AllReadyH.cons rfl (fun K hK => ?_) AllReadyH.nil
    go_simp
    with_reducible refine (HO1.out _ KC.out).mono ?_
    rintro ev w9 ⟨A5, c5, rfl, r5, k9⟩
    have KC := Lib.hid (KC.out.trans' k9)
    have R5 := Lib.hid r5
    clear k9 r5
    try dsimp only
    refine hK.out _ _ (KEEP.out _ KC.out) (fun hHeld => ?_)
    clear hK K
    try simp only [Act.put, List.getElem_toArray, List.getElem_cons_succ, List.getElem_cons_zero, List.setIfInBounds_toArray, List.set_cons_zero, List.set_cons_succ]
    refine wpAnyH_ready (rs := [17]) (by kernel_rfl) (by simp) ?_
    refine AllReadyH.cons rfl (fun K hK => ?_) AllReadyH.nil
    go_simp
    with_reducible refine (HO2.out _ KC.out).mono ?_
    rintro ev w9 ⟨A6, c6, rfl, r6, k9⟩
    have KC := Lib.hid (KC.out.trans' k9)
    have R6 := Lib.hid r6
    have R5 := Lib.hid (R5.out.kp k9 (fun _ _ _ x => x))
    clear k9 r6
    try dsimp only
    refine hK.out _ _ (KEEP.out _ KC.out) (fun hHeld => ?_)
    clear hK K
    try simp only [Act.put, List.getElem_toArray, List.getElem_cons_succ, List.getElem_cons_zero, List.setIfInBounds_toArray, List.set_cons_zero, List.set_cons_succ]
    refine wpAnyH_ready (rs := [18]) (by kernel_rfl) (by simp) ?_
    refine AllReadyH.cons rfl (fun K hK => ?_) AllReadyH.nil
    go_simp
    with_reducible refine (HRS.out _ A5 c5 A6 c6 R5.out R6.out).mono ?_
    rintro ev w9 ⟨rfl, k9⟩
    have KC := Lib.hid (KC.out.trans' k9)
    clear k9
    try dsimp only
    refine hK.out _ _ (KEEP.out _ KC.out) (fun hHeld => ?_)
    clear hK K
    try simp only [Act.put, List.getElem_toArray, List.getElem_cons_succ, List.getElem_cons_zero, List.setIfInBounds_toArray, List.set_cons_zero, List.set_cons_succ]
    refine wpAnyH_take (i := 19) (v := ?v19_13) rfl (by kernel_rfl) (by kernel_rfl) (by kernel_rfl) (fun _ _ _ h => h) (Or.inl ⟨by rfl, ?y19_13⟩) (by assumption) ?r19_13
    case y19_13 => (intro w hSw; (try dsimp only at hSw); go_simp; first | done | with_reducible rfl)
    try simp only [Act.put, List.getElem_toArray, List.getElem_cons_succ, List.getElem_cons_zero, List.setIfInBounds_toArray, List.set_cons_zero, List.set_cons_succ]
    refine wpAnyH_take (i := 20) (v := ?v20_14) rfl (by kernel_rfl) (by kernel_rfl) (by kernel_rfl) (fun _ _ _ h => h) (Or.inl ⟨by rfl, ?y20_14⟩) (by assumption) ?r20_14
    case y20_14 => (intro w hSw; (try dsimp only at hSw); go_simp; first | done | with_reducible rfl)
    try simp only [Act.put, List.getElem_toArray, List.getElem_cons_succ, List.getElem_cons_zero, List.setIfInBounds_toArray, List.set_cons_zero, List.set_cons_succ]
    refine wpAnyH_done (by kernel_rfl) ?_ _
    go_wp2_with fail
    go_ret
    exact ⟨rfl, K1.out.trans' KC.out⟩
  · refine (ebytes_mid t f k A n c ys _ (by omega) hk Y1.out HN.out.symm H0.out).mono ?_
    rintro ev w2 ⟨s2, rfl, own2, k2w⟩
    obtain ⟨g, dd, rfl, hgd, hdm, hgb⟩ := own_form own2 (by omega)
    have R2 := Lib.hid (own_rd (xs := fbytes t f k ys) own2)
    have b0 := B0.out.kept k2w (fun x => x)
    have b1 := B1.out.kept k2w (fun x => x)
    have B0 := Lib.hid b0
    have B1 := Lib.hid b1
    have E1 := Lib.hid (E1.out.kept k2w (fun x => x))
    have Y1 := Lib.hid (Y1.out.kp k2w (fun _ _ _ x => x))
    have Z1 := Lib.hid (Z1.out.kp k2w (fun _ _ _ x => x))
    have K1 := Lib.hid (K1.out.trans' k2w)
    have x0 : _ = some (Value.int IntKind.u8 (t 0)) := b0.cell 0
    have x1 : _ = some (Value.int IntKind.u8 (t 1)) := b0.cell 1
    have x2 : _ = some (Value.int IntKind.u8 (t 2)) := b0.cell 2
    have x3 : _ = some (Value.int IntKind.u8 (t 3)) := b0.cell 3
    have x4 : _ = some (Value.int IntKind.u8 (t 4)) := b0.cell 4
    have x5 : _ = some (Value.int IntKind.u8 (t 5)) := b0.cell 5
    have x6 : _ = some (Value.int IntKind.u8 (f 0)) := b0.cell 6
    have x7 : _ = some (Value.int IntKind.u8 (f 1)) := b0.cell 7
    have x8 : _ = some (Value.int IntKind.u8 (f 2)) := b0.cell 8
    have x9 : _ = some (Value.int IntKind.u8 (f 3)) := b0.cell 9
    have x10 : _ = some (Value.int IntKind.u8 (f 4)) := b0.cell 10
    have x11 : _ = some (Value.int IntKind.u8 (f 5)) := b0.cell 11
    have x12 : _ = some (Value.int IntKind.u16 k) := b0.cell 12
    have x13 : _ = some (Value.slice A n c) := b0.cell 13
    clear b0 b1 own2 k2w hgb
    go_wp2_with fail
    clear x0 x1 x2 x3 x4 x5 x6 x7 x8 x9 x10 x11 x12 x13
    refine (of_frm t f k A n c ys _ Y1.out HN.out.symm (by omega) H0.out).mono ?_
    rintro ev w3 ⟨A3, c3, rfl, own3, k3⟩
    have R2 := Lib.hid (R2.out.kp k3 (fun _ _ _ x => x))
    have R3 := Lib.hid (own_rd (xs := ys) own3)
    have N3 := Lib.hid (own_none own3)
    have b0 := B0.out.kept k3 (fun x => x)
    have b1 := B1.out.kept k3 (fun x => x)
    have B0 := Lib.hid b0
    have B1 := Lib.hid b1
    have E1 := Lib.hid (E1.out.kept k3 (fun x => x))
    have Y1 := Lib.hid (Y1.out.kp k3 (fun _ _ _ x => x))
    have Z1 := Lib.hid (Z1.out.kp k3 (fun _ _ _ x => x))
    have K1 := Lib.hid (K1.out.trans' k3)
    clear b0 b1 k3 own3
    go_wp2_with fail
    refine (rbytes_mid t f k A3 n c3 ys _ (by omega) hk R3.out HN.out.symm N3.out).mono ?_
    rintro ev w4 ⟨s4, rfl, own4, k4⟩
    obtain ⟨g4, d4, rfl, _, _, _⟩ := own_form own4 (by omega)
    have kB := k4.alloc (.cells #[.slice none 0 0, .int .i64 0] 52)
    have kB1 := (Kp.refl (fun _ => False) w4).alloc (.cells #[.slice none 0 0, .int .i64 0] 52)
    have R2 := Lib.hid (R2.out.kp kB (fun _ _ _ x => x))
    have R4 := Lib.hid ((own_rd (xs := fbytes t f k ys) own4).kp kB1 (fun _ _ _ x => x))
    have D8 := Lib.hid (Bk.new w4 52 #[.slice none 0 0, .int .i64 0])
    have b0 := B0.out.kept kB (fun x => x)
    have b1 := B1.out.kept kB (fun x => x)
    have B0 := Lib.hid b0
    have B1 := Lib.hid b1
    have E1 := Lib.hid (E1.out.kept kB (fun x => x))
    have Y1 := Lib.hid (Y1.out.kp kB (fun _ _ _ x => x))
    have Z1 := Lib.hid (Z1.out.kp kB (fun _ _ _ x => x))
    have K1 := Lib.hid (K1.out.trans' kB)
    clear b0 b1 k4 kB kB1 own4
    go_upto_region 7 with fail
    obtain ⟨g8, hg8⟩ : ∃ g, w4.heap.size = g := ⟨_, rfl⟩
    rw [hg8] at D8 ⊢
    clear hg8
    generalize w4.alloc (.cells #[.slice none 0 0, .int .i64 0] 52) = w0 at *
    have keep : ∀ b, Kp (fun _ => False) w0 b → (fun w' => Kp (fun _ => False) w0 w' ∧ w'.cell? ⟨g8, 0, none⟩ = some (Value.slice none 0 0) ∧ w'.cell? ⟨g8, 1, none⟩ = some (Value.int .i64 0) ∧ w'.cell? ⟨w.heap.size, 0, none⟩ = some (Value.int IntKind.u8 (t 0)) ∧ w'.cell? ⟨w.heap.size, 1, none⟩ = some (Value.int IntKind.u8 (t 1)) ∧ w'.cell? ⟨w.heap.size, 2, none⟩ = some (Value.int IntKind.u8 (t 2)) ∧ w'.cell? ⟨w.heap.size, 3, none⟩ = some (Value.int IntKind.u8 (t 3)) ∧ w'.cell? ⟨w.heap.size, 4, none⟩ = some (Value.int IntKind.u8 (t 4)) ∧ w'.cell? ⟨w.heap.size, 5, none⟩ = some (Value.int IntKind.u8 (t 5)) ∧ w'.cell? ⟨w.heap.size, 6, none⟩ = some (Value.int IntKind.u8 (f 0)) ∧ w'.cell? ⟨w.heap.size, 7, none⟩ = some (Value.int IntKind.u8 (f 1)) ∧ w'.cell? ⟨w.heap.size, 8, none⟩ = some (Value.int IntKind.u8 (f 2)) ∧ w'.cell? ⟨w.heap.size, 9, none⟩ = some (Value.int IntKind.u8 (f 3)) ∧ w'.cell? ⟨w.heap.size, 10, none⟩ = some (Value.int IntKind.u8 (f 4)) ∧ w'.cell? ⟨w.heap.size, 11, none⟩ = some (Value.int IntKind.u8 (f 5)) ∧ w'.cell? ⟨w.heap.size, 12, none⟩ = some (Value.int IntKind.u16 k) ∧ w'.cell? ⟨w.heap.size, 13, none⟩ = some (Value.slice A n c) ∧ w'.cell? ⟨w.heap.size + 1, 0, none⟩ = some (Value.int IntKind.u8 (t2 0)) ∧ w'.cell? ⟨w.heap.size + 1, 1, none⟩ = some (Value.int IntKind.u8 (t2 1)) ∧ w'.cell? ⟨w.heap.size + 1, 2, none⟩ = some (Value.int IntKind.u8 (t2 2)) ∧ w'.cell? ⟨w.heap.size + 1, 3, none⟩ = some (Value.int IntKind.u8 (t2 3)) ∧ w'.cell? ⟨w.heap.size + 1, 4, none⟩ = some (Value.int IntKind.u8 (t2 4)) ∧ w'.cell? ⟨w.heap.size + 1, 5, none⟩ = some (Value.int IntKind.u8 (t2 5)) ∧ w'.cell? ⟨w.heap.size + 1, 6, none⟩ = some (Value.int IntKind.u8 (f2 0)) ∧ w'.cell? ⟨w.heap.size + 1, 7, none⟩ = some (Value.int IntKind.u8 (f2 1)) ∧ w'.cell? ⟨w.heap.size + 1, 8, none⟩ = some (Value.int IntKind.u8 (f2 2)) ∧ w'.cell? ⟨w.heap.size + 1, 9, none⟩ = some (Value.int IntKind.u8 (f2 3)) ∧ w'.cell? ⟨w.heap.size + 1, 10, none⟩ = some (Value.int IntKind.u8 (f2 4)) ∧ w'.cell? ⟨w.heap.size + 1, 11, none⟩ = some (Value.int IntKind.u8 (f2 5)) ∧ w'.cell? ⟨w.heap.size + 1, 12, none⟩ = some (Value.int IntKind.u16 k2) ∧ w'.cell? ⟨w.heap.size + 1, 13, none⟩ = some (Value.slice B m d)) b := fun b hk => ⟨hk, kp_kc (D8.out.cell 0) hk, kp_kc (D8.out.cell 1) hk, kp_kc (B0.out.cell 0) hk, kp_kc (B0.out.cell 1) hk, kp_kc (B0.out.cell 2) hk, kp_kc (B0.out.cell 3) hk, kp_kc (B0.out.cell 4) hk, kp_kc (B0.out.cell 5) hk, kp_kc (B0.out.cell 6) hk, kp_kc (B0.out.cell 7) hk, kp_kc (B0.out.cell 8) hk, kp_kc (B0.out.cell 9) hk, kp_kc (B0.out.cell 10) hk, kp_kc (B0.out.cell 11) hk, kp_kc (B0.out.cell 12) hk, kp_kc (B0.out.cell 13) hk, kp_kc (B1.out.cell 0) hk, kp_kc (B1.out.cell 1) hk, kp_kc (B1.out.cell 2) hk, kp_kc (B1.out.cell 3) hk, kp_kc (B1.out.cell 4) hk, kp_kc (B1.out.cell 5) hk, kp_kc (B1.out.cell 6) hk, kp_kc (B1.out.cell 7) hk, kp_kc (B1.out.cell 8) hk, kp_kc (B1.out.cell 9) hk, kp_kc (B1.out.cell 10) hk, kp_kc (B1.out.cell 11) hk, kp_kc (B1.out.cell 12) hk, kp_kc (B1.out.cell 13) hk⟩
    have KEEP := Lib.hid keep
    have KC := Lib.hid ((Kp.refl (fun _ => False) w0).drew)
    obtain ⟨p, hp⟩ : ∃ p, (macEq t t2 && macEq f f2 && ((k : Int) == k2) && (ys == zs)) = p := ⟨_, rfl⟩
    have his : ∀ w', Kp (fun _ => False) w0 w' → Calls Tryd.prog 49 #[.nilIface, .agg #[.slice none 0 0, .int .i64 0]] w' fun ev w'' => ev = .returned (.bool true) ∧ Kp (fun _ => False) w' w'' := fun w' hk => is_nil _ w'
    have hsb : ∀ w', Kp (fun _ => False) w0 w' → Calls Tryd.prog 53 #[(.slice (some ⟨g, 0, none⟩) (14 + n) dd), (.slice (some ⟨g4, 0, none⟩) (14 + n) d4)] w' fun ev w'' => ev = .returned (.bool true) ∧ Kp (fun _ => False) w' w'' := fun w' hk => by
      have h := sameBytes_any (some ⟨g, 0, none⟩) (some ⟨g4, 0, none⟩) dd d4 (fbytes t f k ys) (fbytes t f k ys) w' (R2.out.kp hk (fun _ _ _ x => x)) (R4.out.kp hk (fun _ _ _ x => x))
      rw [fbytes_len, HN.out] at h
      refine h.mono ?_
      rintro ev w'' ⟨rfl, nn, rfl⟩
      exact ⟨by simp, (Kp.refl _ _).drewN nn⟩
    have hsa : ∀ w', Kp (fun _ => False) w0 w' → Calls Tryd.prog 56 #[.agg #[.int .u8 (t 0), .int .u8 (t 1), .int .u8 (t 2), .int .u8 (t 3), .int .u8 (t 4), .int .u8 (t 5), .int .u8 (f 0), .int .u8 (f 1), .int .u8 (f 2), .int .u8 (f 3), .int .u8 (f 4), .int .u8 (f 5), .int .u16 k, .slice A n c], .agg #[.int .u8 (t2 0), .int .u8 (t2 1), .int .u8 (t2 2), .int .u8 (t2 3), .int .u8 (t2 4), .int .u8 (t2 5), .int .u8 (f2 0), .int .u8 (f2 1), .int .u8 (f2 2), .int .u8 (f2 3), .int .u8 (f2 4), .int .u8 (f2 5), .int .u16 k2, .slice B m d]] w' fun ev w'' => ev = .returned (.bool p) ∧ Kp (fun _ => False) w' w'' := fun w' hk => by
      rw [← hp]
      exact same_any t f t2 f2 k k2 A B n c m d ys zs w' (Y1.out.kp hk (fun _ _ _ x => x)) (Z1.out.kp hk (fun _ _ _ x => x)) HN.out HM.out HB2.out HB3.out
    have ho1 : ∀ w', Kp (fun _ => False) w0 w' → Calls Tryd.prog 51 #[.agg #[.int .u8 (t 0), .int .u8 (t 1), .int .u8 (t 2), .int .u8 (t 3), .int .u8 (t 4), .int .u8 (t 5), .int .u8 (f 0), .int .u8 (f 1), .int .u8 (f 2), .int .u8 (f 3), .int .u8 (f 4), .int .u8 (f 5), .int .u16 k, .slice A n c]] w' fun ev w'' => ∃ A2 c2, ev = .returned (.agg #[.int .u8 (t 0), .int .u8 (t 1), .int .u8 (t 2), .int .u8 (t 3), .int .u8 (t 4), .int .u8 (t 5), .int .u8 (f 0), .int .u8 (f 1), .int .u8 (f 2), .int .u8 (f 3), .int .u8 (f 4), .int .u8 (f 5), .int .u16 k, .slice A2 n c2]) ∧ RdI w'' .u8 A2 ys ∧ Kp (fun _ => False) w' w'' := fun w' hk => by
      refine (of_frm t f k A n c ys w' (Y1.out.kp hk (fun _ _ _ x => x)) HN.out.symm (by omega) H0.out).mono ?_
      rintro ev w'' ⟨A2, c2, rfl, own, kk⟩
      exact ⟨A2, c2, rfl, own_rd own, kk⟩
    have ho2 : ∀ w', Kp (fun _ => False) w0 w' → Calls Tryd.prog 51 #[.agg #[.int .u8 (t2 0), .int .u8 (t2 1), .int .u8 (t2 2), .int .u8 (t2 3), .int .u8 (t2 4), .int .u8 (t2 5), .int .u8 (f2 0), .int .u8 (f2 1), .int .u8 (f2 2), .int .u8 (f2 3), .int .u8 (f2 4), .int .u8 (f2 5), .int .u16 k2, .slice B m d]] w' fun ev w'' => ∃ A2 c2, ev = .returned (.agg #[.int .u8 (t2 0), .int .u8 (t2 1), .int .u8 (t2 2), .int .u8 (t2 3), .int .u8 (t2 4), .int .u8 (t2 5), .int .u8 (f2 0), .int .u8 (f2 1), .int .u8 (f2 2), .int .u8 (f2 3), .int .u8 (f2 4), .int .u8 (f2 5), .int .u16 k2, .slice A2 m c2]) ∧ RdI w'' .u8 A2 zs ∧ Kp (fun _ => False) w' w'' := fun w' hk => by
      refine (of_frm t2 f2 k2 B m d zs w' (Z1.out.kp hk (fun _ _ _ x => x)) HM.out.symm (by omega) H02.out).mono ?_
      rintro ev w'' ⟨A2, c2, rfl, own, kk⟩
      exact ⟨A2, c2, rfl, own_rd own, kk⟩
    have hrs : ∀ w' A2 c2 A3 c3, RdI w' .u8 A2 ys → RdI w' .u8 A3 zs → Calls Tryd.prog 50 #[.agg #[.int .u8 (t 0), .int .u8 (t 1), .int .u8 (t 2), .int .u8 (t 3), .int .u8 (t 4), .int .u8 (t 5), .int .u8 (f 0), .int .u8 (f 1), .int .u8 (f 2), .int .u8 (f 3), .int .u8 (f 4), .int .u8 (f 5), .int .u16 k, .slice A2 n c2], .agg #[.int .u8 (t2 0), .int .u8 (t2 1), .int .u8 (t2 2), .int .u8 (t2 3), .int .u8 (t2 4), .int .u8 (t2 5), .int .u8 (f2 0), .int .u8 (f2 1), .int .u8 (f2 2), .int .u8 (f2 3), .int .u8 (f2 4), .int .u8 (f2 5), .int .u16 k2, .slice A3 m c3]] w' fun ev w'' => ev = .returned (.bool p) ∧ Kp (fun _ => False) w' w'' := fun w' A2 c2 A3 c3 h1 h2 => by
      rw [← hp]
      exact refSame_any t f t2 f2 k k2 A2 A3 n c2 m c3 ys zs w' h1 h2 HN.out HM.out HB2.out HB3.out
    have HIS := Lib.hid his
    have HSB := Lib.hid hsb
    have HSA := Lib.hid hsa
    have HO1 := Lib.hid ho1
    have HO2 := Lib.hid ho2
    have HRS := Lib.hid hrs
    clear keep his hsb hsa ho1 ho2 hrs hp
    refine wp_region_held_drew (S := (fun w' => Kp (fun _ => False) w0 w' ∧ w'.cell? ⟨g8, 0, none⟩ = some (Value.slice none 0 0) ∧ w'.cell? ⟨g8, 1, none⟩ = some (Value.int .i64 0) ∧ w'.cell? ⟨w.heap.size, 0, none⟩ = some (Value.int IntKind.u8 (t 0)) ∧ w'.cell? ⟨w.heap.size, 1, none⟩ = some (Value.int IntKind.u8 (t 1)) ∧ w'.cell? ⟨w.heap.size, 2, none⟩ = some (Value.int IntKind.u8 (t 2)) ∧ w'.cell? ⟨w.heap.size, 3, none⟩ = some (Value.int IntKind.u8 (t 3)) ∧ w'.cell? ⟨w.heap.size, 4, none⟩ = some (Value.int IntKind.u8 (t 4)) ∧ w'.cell? ⟨w.heap.size, 5, none⟩ = some (Value.int IntKind.u8 (t 5)) ∧ w'.cell? ⟨w.heap.size, 6, none⟩ = some (Value.int IntKind.u8 (f 0)) ∧ w'.cell? ⟨w.heap.size, 7, none⟩ = some (Value.int IntKind.u8 (f 1)) ∧ w'.cell? ⟨w.heap.size, 8, none⟩ = some (Value.int IntKind.u8 (f 2)) ∧ w'.cell? ⟨w.heap.size, 9, none⟩ = some (Value.int IntKind.u8 (f 3)) ∧ w'.cell? ⟨w.heap.size, 10, none⟩ = some (Value.int IntKind.u8 (f 4)) ∧ w'.cell? ⟨w.heap.size, 11, none⟩ = some (Value.int IntKind.u8 (f 5)) ∧ w'.cell? ⟨w.heap.size, 12, none⟩ = some (Value.int IntKind.u16 k) ∧ w'.cell? ⟨w.heap.size, 13, none⟩ = some (Value.slice A n c) ∧ w'.cell? ⟨w.heap.size + 1, 0, none⟩ = some (Value.int IntKind.u8 (t2 0)) ∧ w'.cell? ⟨w.heap.size + 1, 1, none⟩ = some (Value.int IntKind.u8 (t2 1)) ∧ w'.cell? ⟨w.heap.size + 1, 2, none⟩ = some (Value.int IntKind.u8 (t2 2)) ∧ w'.cell? ⟨w.heap.size + 1, 3, none⟩ = some (Value.int IntKind.u8 (t2 3)) ∧ w'.cell? ⟨w.heap.size + 1, 4, none⟩ = some (Value.int IntKind.u8 (t2 4)) ∧ w'.cell? ⟨w.heap.size + 1, 5, none⟩ = some (Value.int IntKind.u8 (t2 5)) ∧ w'.cell? ⟨w.heap.size + 1, 6, none⟩ = some (Value.int IntKind.u8 (f2 0)) ∧ w'.cell? ⟨w.heap.size + 1, 7, none⟩ = some (Value.int IntKind.u8 (f2 1)) ∧ w'.cell? ⟨w.heap.size + 1, 8, none⟩ = some (Value.int IntKind.u8 (f2 2)) ∧ w'.cell? ⟨w.heap.size + 1, 9, none⟩ = some (Value.int IntKind.u8 (f2 3)) ∧ w'.cell? ⟨w.heap.size + 1, 10, none⟩ = some (Value.int IntKind.u8 (f2 4)) ∧ w'.cell? ⟨w.heap.size + 1, 11, none⟩ = some (Value.int IntKind.u8 (f2 5)) ∧ w'.cell? ⟨w.heap.size + 1, 12, none⟩ = some (Value.int IntKind.u16 k2) ∧ w'.cell? ⟨w.heap.size + 1, 13, none⟩ = some (Value.slice B m d))) (by kernel_rfl) (KEEP.out _ KC.out) (fun hHeld => ?_)
    refine wpAnyH_take (i := 0) (v := ?v0_15) rfl (by kernel_rfl) (by kernel_rfl) (by kernel_rfl) (fun _ _ _ h => h) (Or.inl ⟨by rfl, ?y0_15⟩) (by assumption) ?r0_15
    case y0_15 => (intro w hSw; (try dsimp only at hSw); go_simp; first | done | with_reducible rfl)
    try simp only [Act.put, List.getElem_toArray, List.getElem_cons_succ, List.getElem_cons_zero, List.setIfInBounds_toArray, List.set_cons_zero, List.set_cons_succ]
    refine wpAnyH_take (i := 1) (v := ?v1_16) rfl (by kernel_rfl) (by kernel_rfl) (by kernel_rfl) (fun _ _ _ h => h) (Or.inl ⟨by rfl, ?y1_16⟩) (by assumption) ?r1_16
    case y1_16 => (intro w hSw; (try dsimp only at hSw); go_simp; first | done | with_reducible rfl)
    try simp only [Act.put, List.getElem_toArray, List.getElem_cons_succ, List.getElem_cons_zero, List.setIfInBounds_toArray, List.set_cons_zero, List.set_cons_succ]
    refine wpAnyH_ready (rs := [2]) (by kernel_rfl) (by simp) ?_
    refine AllReadyH.cons rfl (fun K hK => ?_) AllReadyH.nil
    go_simp
    with_reducible refine (HIS.out _ KC.out).mono ?_
    rintro ev w9 ⟨rfl, k9⟩
    have KC := Lib.hid (KC.out.trans' k9)
    clear k9
    try dsimp only
    refine hK.out _ _ (KEEP.out _ KC.out) (fun hHeld => ?_)
    clear hK K
    try simp only [Act.put, List.getElem_toArray, List.getElem_cons_succ, List.getElem_cons_zero, List.setIfInBounds_toArray, List.set_cons_zero, List.set_cons_succ]
    refine wpAnyH_take (i := 3) (v := ?v3_17) rfl (by kernel_rfl) (by kernel_rfl) (by kernel_rfl) (fun _ _ _ h => h) (Or.inl ⟨by rfl, ?y3_17⟩) (by assumption) ?r3_17
    case y3_17 => (intro w hSw; (try dsimp only at hSw); go_simp; first | done | with_reducible rfl)
    try simp only [Act.put, List.getElem_toArray, List.getElem_cons_succ, List.getElem_cons_zero, List.setIfInBounds_toArray, List.set_cons_zero, List.set_cons_succ]
    refine wpAnyH_take (i := 4) (v := ?v4_18) rfl (by kernel_rfl) (by kernel_rfl) (by kernel_rfl) (fun _ _ _ h => h) (Or.inl ⟨by rfl, ?y4_18⟩) (by assumption) ?r4_18
    case y4_18 => (intro w hSw; (try dsimp only at hSw); go_simp; first | done | with_reducible rfl)
    try simp only [Act.put, List.getElem_toArray, List.getElem_cons_succ, List.getElem_cons_zero, List.setIfInBounds_toArray, List.set_cons_zero, List.set_cons_succ]
    refine wpAnyH_take (i := 5) (v := ?v5_19) rfl (by kernel_rfl) (by kernel_rfl) (by kernel_rfl) (fun _ _ _ h => h) (Or.inl ⟨by rfl, ?y5_19⟩) (by assumption) ?r5_19
    case y5_19 => (intro w hSw; (try dsimp only at hSw); go_simp; first | done | with_reducible rfl)
    try simp only [Act.put, List.getElem_toArray, List.getElem_cons_succ, List.getElem_cons_zero, List.setIfInBounds_toArray, List.set_cons_zero, List.set_cons_succ]
    refine wpAnyH_take (i := 6) (v := ?v6_20) rfl (by kernel_rfl) (by kernel_rfl) (by kernel_rfl) (fun _ _ _ h => h) (Or.inl ⟨by rfl, ?y6_20⟩) (by assumption) ?r6_20
    case y6_20 => (intro w hSw; (try dsimp only at hSw); go_simp; first | done | with_reducible rfl)
    try simp only [Act.put, List.getElem_toArray, List.getElem_cons_succ, List.getElem_cons_zero, List.setIfInBounds_toArray, List.set_cons_zero, List.set_cons_succ]
    refine wpAnyH_ready (rs := [7]) (by kernel_rfl) (by simp) ?_
    refine AllReadyH.cons rfl (fun K hK => ?_) AllReadyH.nil
    go_simp
    with_reducible refine (HSB.out _ KC.out).mono ?_
    rintro ev w9 ⟨rfl, k9⟩
    have KC := Lib.hid (KC.out.trans' k9)
    clear k9
    try dsimp only
    refine hK.out _ _ (KEEP.out _ KC.out) (fun hHeld => ?_)
    clear hK K
    try simp only [Act.put, List.getElem_toArray, List.getElem_cons_succ, List.getElem_cons_zero, List.setIfInBounds_toArray, List.set_cons_zero, List.set_cons_succ]
    refine wpAnyH_take (i := 8) (v := ?v8_21) rfl (by kernel_rfl) (by kernel_rfl) (by kernel_rfl) (fun _ _ _ h => h) (Or.inl ⟨by rfl, ?y8_21⟩) (by assumption) ?r8_21
    case y8_21 => (intro w hSw; (try dsimp only at hSw); go_simp; first | done | with_reducible rfl)
    try simp only [Act.put, List.getElem_toArray, List.getElem_cons_succ, List.getElem_cons_zero, List.setIfInBounds_toArray, List.set_cons_zero, List.set_cons_succ]
    refine wpAnyH_take (i := 9) (v := ?v9_22) rfl (by kernel_rfl) (by kernel_rfl) (by kernel_rfl) (fun _ _ _ h => h) (Or.inl ⟨by rfl, ?y9_22⟩) (by assumption) ?r9_22
    case y9_22 => (intro w hSw; (try dsimp only at hSw); go_simp; first | done | with_reducible rfl)
    try simp only [Act.put, List.getElem_toArray, List.getElem_cons_succ, List.getElem_cons_zero, List.setIfInBounds_toArray, List.set_cons_zero, List.set_cons_succ]
    refine wpAnyH_take (i := 10) (v := ?v10_23) rfl (by kernel_rfl) (by kernel_rfl) (by kernel_rfl) (fun _ _ _ h => h) (Or.inl ⟨by rfl, ?y10_23⟩) (by assumption) ?r10_23
    case y10_23 => (intro w hSw; (try dsimp only at hSw); go_simp; first | done | with_reducible rfl)
    try simp only [Act.put, List.getElem_toArray, List.getElem_cons_succ, List.getElem_cons_zero, List.setIfInBounds_toArray, List.set_cons_zero, List.set_cons_succ]
    refine wpAnyH_take (i := 11) (v := ?v11_24) rfl (by kernel_rfl) (by kernel_rfl) (by kernel_rfl) (fun _ _ _ h => h) (Or.inl ⟨by rfl, ?y11_24⟩) (by assumption) ?r11_24
    case y11_24 => (intro w hSw; (try dsimp only at hSw); go_simp; first | done | with_reducible rfl)
    try simp only [Act.put, List.getElem_toArray, List.getElem_cons_succ, List.getElem_cons_zero, List.setIfInBounds_toArray, List.set_cons_zero, List.set_cons_succ]
    refine wpAnyH_take (i := 12) (v := ?v12_25) rfl (by kernel_rfl) (by kernel_rfl) (by kernel_rfl) (fun _ _ _ h => h) (Or.inl ⟨by rfl, ?y12_25⟩) (by assumption) ?r12_25
    case y12_25 => (intro w hSw; (try dsimp only at hSw); go_simp; first | done | with_reducible rfl)
    try simp only [Act.put, List.getElem_toArray, List.getElem_cons_succ, List.getElem_cons_zero, List.setIfInBounds_toArray, List.set_cons_zero, List.set_cons_succ]
    refine wpAnyH_take (i := 14) (v := ?v14_26) rfl (by kernel_rfl) (by kernel_rfl) (by kernel_rfl) (fun _ _ _ h => h) (Or.inl ⟨by rfl, ?y14_26⟩) (by assumption) ?r14_26
    case y14_26 => (intro w hSw; (try dsimp only at hSw); go_simp; first | done | with_reducible rfl)
    try simp only [Act.put, List.getElem_toArray, List.getElem_cons_succ, List.getElem_cons_zero, List.setIfInBounds_toArray, List.set_cons_zero, List.set_cons_succ]
    refine wpAnyH_take (i := 16) (v := ?v16_27) rfl (by kernel_rfl) (by kernel_rfl) (by kernel_rfl) (fun _ _ _ h => h) (Or.inl ⟨by rfl, ?y16_27⟩) (by assumption) ?r16_27
    case y16_27 => (intro w hSw; (try dsimp only at hSw); go_simp; first | done | with_reducible rfl)
    try simp only [Act.put, List.getElem_toArray, List.getElem_cons_succ, List.getElem_cons_zero, List.setIfInBounds_toArray, List.set_cons_zero, List.set_cons_succ]
    refine wpAnyH_ready (rs := [13]) (by kernel_rfl) (by simp) ?_
    refine AllReadyH.cons rfl (fun K hK => ?_) AllReadyH.nil
    go_simp
    with_reducible refine (HSA.out _ KC.out).mono ?_
    rintro ev w9 ⟨rfl, k9⟩
    have KC := Lib.hid (KC.out.trans' k9)
    clear k9
    try dsimp only
    refine hK.out _ _ (KEEP.out _ KC.out) (fun hHeld => ?_)
    clear hK K
    try simp only [Act.put, List.getElem_toArray, List.getElem_cons_succ, List.getElem_cons_zero, List.setIfInBounds_toArray, List.set_cons_zero, List.set_cons_succ]
    refine wpAnyH_ready (rs := [15]) (by kernel_rfl) (by simp) ?_
    refine AllReadyH.cons rfl (fun K hK => ?_) AllReadyH.nil
    go_simp
    with_reducible refine (HO1.out _ KC.out).mono ?_
    rintro ev w9 ⟨A5, c5, rfl, r5, k9⟩
    have KC := Lib.hid (KC.out.trans' k9)
    have R5 := Lib.hid r5
    clear k9 r5
    try dsimp only
    refine hK.out _ _ (KEEP.out _ KC.out) (fun hHeld => ?_)
    clear hK K
    try simp only [Act.put, List.getElem_toArray, List.getElem_cons_succ, List.getElem_cons_zero, List.setIfInBounds_toArray, List.set_cons_zero, List.set_cons_succ]
    refine wpAnyH_ready (rs := [17]) (by kernel_rfl) (by simp) ?_
    refine AllReadyH.cons rfl (fun K hK => ?_) AllReadyH.nil
    go_simp
    with_reducible refine (HO2.out _ KC.out).mono ?_
    rintro ev w9 ⟨A6, c6, rfl, r6, k9⟩
    have KC := Lib.hid (KC.out.trans' k9)
    have R6 := Lib.hid r6
    have R5 := Lib.hid (R5.out.kp k9 (fun _ _ _ x => x))
    clear k9 r6
    try dsimp only
    refine hK.out _ _ (KEEP.out _ KC.out) (fun hHeld => ?_)
    clear hK K
    try simp only [Act.put, List.getElem_toArray, List.getElem_cons_succ, List.getElem_cons_zero, List.setIfInBounds_toArray, List.set_cons_zero, List.set_cons_succ]
    refine wpAnyH_ready (rs := [18]) (by kernel_rfl) (by simp) ?_
    refine AllReadyH.cons rfl (fun K hK => ?_) AllReadyH.nil
    go_simp
    with_reducible refine (HRS.out _ A5 c5 A6 c6 R5.out R6.out).mono ?_
    rintro ev w9 ⟨rfl, k9⟩
    have KC := Lib.hid (KC.out.trans' k9)
    clear k9
    try dsimp only
    refine hK.out _ _ (KEEP.out _ KC.out) (fun hHeld => ?_)
    clear hK K
    try simp only [Act.put, List.getElem_toArray, List.getElem_cons_succ, List.getElem_cons_zero, List.setIfInBounds_toArray, List.set_cons_zero, List.set_cons_succ]
    refine wpAnyH_take (i := 19) (v := ?v19_28) rfl (by kernel_rfl) (by kernel_rfl) (by kernel_rfl) (fun _ _ _ h => h) (Or.inl ⟨by rfl, ?y19_28⟩) (by assumption) ?r19_28
    case y19_28 => (intro w hSw; (try dsimp only at hSw); go_simp; first | done | with_reducible rfl)
    try simp only [Act.put, List.getElem_toArray, List.getElem_cons_succ, List.getElem_cons_zero, List.setIfInBounds_toArray, List.set_cons_zero, List.set_cons_succ]
    refine wpAnyH_take (i := 20) (v := ?v20_29) rfl (by kernel_rfl) (by kernel_rfl) (by kernel_rfl) (fun _ _ _ h => h) (Or.inl ⟨by rfl, ?y20_29⟩) (by assumption) ?r20_29
    case y20_29 => (intro w hSw; (try dsimp only at hSw); go_simp; first | done | with_reducible rfl)
    try simp only [Act.put, List.getElem_toArray, List.getElem_cons_succ, List.getElem_cons_zero, List.setIfInBounds_toArray, List.set_cons_zero, List.set_cons_succ]
    refine wpAnyH_done (by kernel_rfl) ?_ _
    have hf0 := HF.out 0
    have b0 := B0.out.kept KC.out (fun x => x)
    have Y9 := Lib.hid (Y1.out.kp KC.out (fun _ _ _ x => x))
    have R9 := Lib.hid (R2.out.kp KC.out (fun _ _ _ x => x))
    have E9 := Lib.hid (E1.out.kept KC.out (fun x => x))
    have B9 := Lib.hid b0
    have K9 := Lib.hid (K1.out.trans' KC.out)
    clear b0
    go_wp2_with fail
    by_cases hodd : f 0 % 2 = 1
    · have hodb : (f 0 % 2 == 1) = true := by simp [hodd]
      have hev : (f 0 % 2 != 0) = true := by simp [hodd]
      refine (eparse_odd2 g (14 + n) dd t f k ys _ R9.out HT.out HF.out hk HB2.out (by omega) (by rw [HN.out]; omega) (by rw [HN.out]; omega) hgd hev).mono ?_
      rintro ev w5 ⟨v5, rfl, c5, k5⟩
      have kN := k5.alloc (.cells #[.int .u8 0, .int .u8 0, .int .u8 0, .int .u8 0, .int .u8 0, .int .u8 0, .int .u8 0, .int .u8 0, .int .u8 0, .int .u8 0, .int .u8 0, .int .u8 0, .int .u16 0, .slice none 0 0] 77)
      have C5 := Lib.hid (c5.none_kept ((Kp.refl (fun _ => False) w5).alloc (.cells #[.int .u8 0, .int .u8 0, .int .u8 0, .int .u8 0, .int .u8 0, .int .u8 0, .int .u8 0, .int .u8 0, .int .u8 0, .int .u8 0, .int .u8 0, .int .u8 0, .int .u16 0, .slice none 0 0] 77)))
      have hv5 := c5.form
      rcases hv5 with ⟨x5, rfl⟩ | ⟨x5, rfl⟩
      · exact absurd c5 (by rintro ⟨g, v', h, _⟩; cases h)
      have E5 := Lib.hid (E9.out.kept kN (fun x => x))
      have b5 := B9.out.kept kN (fun x => x)
      have x6 : _ = some (Value.int IntKind.u8 (f 0)) := b5.cell 6
      have K5 := Lib.hid (K9.out.trans' kN)
      clear c5 k5 kN b5 hev
      go_wp2_with fail
      refine (errno_any [1] 10 _ _ E5.out C5.out).mono ?_
      rintro ev w6 ⟨rfl, k6⟩
      go_wp2_with fail
      go_ret
      exact ⟨rfl, K5.out.trans' k6⟩
    · have hodb : (f 0 % 2 == 1) = false := by simp [hodd]
      have hev : (f 0 % 2 != 0) = false := by
        have h2 : f 0 % 2 = 0 := by omega
        simp [h2]
      have hpe : ∀ w, RdI w .u8 (some ⟨g, 0, none⟩) (fbytes t f k ys) → Calls Tryd.prog 47 #[.slice (some ⟨g, 0, none⟩) (14 + n) dd] w fun ev w' => ∃ A5 d5, ev = .returned (.tuple #[.agg #[.int .u8 (t 0), .int .u8 (t 1), .int .u8 (t 2), .int .u8 (t 3), .int .u8 (t 4), .int .u8 (t 5), .int .u8 (f 0), .int .u8 (f 1), .int .u8 (f 2), .int .u8 (f 3), .int .u8 (f 4), .int .u8 (f 5), .int .u16 k, .slice A5 n d5], .nilIface]) ∧ RdI w' .u8 A5 ys ∧ Kp (fun _ => False) w w' := fun w hr => by
        refine (eparse_even2 g (14 + n) n dd t f k ys w hr HT.out HF.out hk HB2.out (by omega) (by rw [HN.out]; omega) (by rw [HN.out]; omega) hgd hev (by omega)).mono ?_
        rintro ev w' ⟨A5, d5, rfl, own, kk⟩
        have h := own_rd own
        rw [List.take_of_length_le (by rw [HN.out]; omega)] at h
        exact ⟨A5, d5, rfl, h, kk⟩
      refine (hpe _ R9.out).mono ?_
      rintro ev w5 ⟨A5, d5, rfl, r5, k5⟩
      clear hpe hev
      have kN1 := (Kp.refl (fun _ => False) w5).alloc (.cells #[.int .u8 (t 0), .int .u8 (t 1), .int .u8 (t 2), .int .u8 (t 3), .int .u8 (t 4), .int .u8 (t 5), .int .u8 (f 0), .int .u8 (f 1), .int .u8 (f 2), .int .u8 (f 3), .int .u8 (f 4), .int .u8 (f 5), .int .u16 k, .slice A5 n d5] 77)
      have kN := k5.trans' kN1
      have n5 := Bk.new w5 77 #[.int .u8 (t 0), .int .u8 (t 1), .int .u8 (t 2), .int .u8 (t 3), .int .u8 (t 4), .int .u8 (t 5), .int .u8 (f 0), .int .u8 (f 1), .int .u8 (f 2), .int .u8 (f 3), .int .u8 (f 4), .int .u8 (f 5), .int .u16 k, .slice A5 n d5]
      have R5 := Lib.hid (r5.kp kN1 (fun _ _ _ x => x))
      have Y5 := Lib.hid (Y9.out.kp kN (fun _ _ _ x => x))
      have b5 := B9.out.kept kN (fun x => x)
      have x0 : _ = some (Value.int IntKind.u8 (t 0)) := b5.cell 0
      have x1 : _ = some (Value.int IntKind.u8 (t 1)) := b5.cell 1
      have x2 : _ = some (Value.int IntKind.u8 (t 2)) := b5.cell 2
      have x3 : _ = some (Value.int IntKind.u8 (t 3)) := b5.cell 3
      have x4 : _ = some (Value.int IntKind.u8 (t 4)) := b5.cell 4
      have x5 : _ = some (Value.int IntKind.u8 (t 5)) := b5.cell 5
      have x6 : _ = some (Value.int IntKind.u8 (f 0)) := b5.cell 6
      have x7 : _ = some (Value.int IntKind.u8 (f 1)) := b5.cell 7
      have x8 : _ = some (Value.int IntKind.u8 (f 2)) := b5.cell 8
      have x9 : _ = some (Value.int IntKind.u8 (f 3)) := b5.cell 9
      have x10 : _ = some (Value.int IntKind.u8 (f 4)) := b5.cell 10
      have x11 : _ = some (Value.int IntKind.u8 (f 5)) := b5.cell 11
      have x12 : _ = some (Value.int IntKind.u16 k) := b5.cell 12
      have x13 : _ = some (Value.slice A n c) := b5.cell 13
      have K5 := Lib.hid (K9.out.trans' kN)
      have B5 := Lib.hid b5
      clear r5 k5 kN kN1 b5
      have hw : IntKind.i64.wrap (14 + (n : Int)) = 14 + (n : Int) := IntWalk.i64_in _ (by omega)
      have he : (((14 + n : Nat) : Int) == 14 + (n : Int)) = true := by simp
      go_wp2_with fail
      refine (same_any t f t f k k A5 A n d5 n c ys ys _ R5.out Y5.out HN.out HN.out HB2.out HB2.out).mono ?_
      rintro ev w6 ⟨rfl, k6⟩
      have hsm : (macEq t t && macEq f f && ((k : Int) == k) && (ys == ys)) = true := by
        rw [(macEq_iff t t).2 (fun _ _ => rfl), (macEq_iff f f).2 (fun _ _ => rfl)]
        simp
      rw [hsm]
      have b6 := B5.out.kept k6 (fun x => x)
      have z13 : _ = some (Value.slice A n c) := b6.cell 13
      clear b6 hsm
      go_wp2_with fail
      go_ret
      exact ⟨by simp, K5.out.trans' k6⟩
end Go.Proofs.YtconpcnmccmbiaaDoor
