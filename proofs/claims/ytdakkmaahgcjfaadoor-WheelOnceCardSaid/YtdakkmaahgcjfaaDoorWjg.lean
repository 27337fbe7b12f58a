/- Wheel's law: a wheel that a call made, beside one row of other blocks; alive. -/
import Derived.Test.YtdakkmaahgcjfaaDoorWjf
import Derived.Test.YtdakkmaahgcjfaaDoorWje
set_option linter.unusedVariables false
set_option linter.unusedSimpArgs false
namespace Go.Proofs.YtdakkmaahgcjfaaDoor
open Go.RowKit

open Go.Shelf Go.Sort Go.Maps
/-- From block b0 on, but for those from s1 to s2. -/
def FI (b0 s1 s2 b : Nat) : Prop := b0 ≤ b ∧ ¬ (s1 ≤ b ∧ b < s2)
/-- A wheel that came of w0, beside the blocks from s1 to s2. -/
structure Wx (w0 : World) (s1 s2 : Nat) (w : World) (g now : Nat) (R : Rows) : Prop where
  whl : Whl (FI w0.heap.size s1 s2) w g now R
  sz : s2 ≤ w.heap.size
  kp : Kp (fun _ => False) w0 w
  tab : Tab w
  pos : 0 < w0.heap.size
/-- What a turn of the wheel turns. -/
abbrev FW (w0 : World) (s1 s2 : Nat) (w : World) : Nat → Prop := FK (FI w0.heap.size s1 s2) w
namespace Wx
variable {w0 w w' : World} {s1 s2 g now n2 : Nat} {R R' : Rows}
theorem none_kept (h : Wx w0 s1 s2 w g now R) (hk : Kp (fun _ => False) w w') : Wx w0 s1 s2 w' g now R :=
  ⟨h.whl.none_kept hk, Nat.le_trans h.sz hk.size, h.kp.trans' hk, h.tab.kept hk (fun f => f), h.pos⟩
theorem drewN (h : Wx w0 s1 s2 w g now R) (n : Nat) : Wx w0 s1 s2 (w.drewN n) g now R := h.none_kept ((Kp.refl _ w).drewN n)
theorem alloc (h : Wx w0 s1 s2 w g now R) (o : Obj) : Wx w0 s1 s2 (w.alloc o) g now R := h.none_kept ((Kp.refl _ w).alloc o)
theorem no0 (h : Wx w0 s1 s2 w g now R) : ¬ FI w0.heap.size s1 s2 0 := fun hf => by have := h.pos; have := hf.1; omega
theorem turn (h : Wx w0 s1 s2 w g now R) (hw : Whl (Grn (FI w0.heap.size s1 s2) w) w' g n2 R') (hk : Kp (FW w0 s1 s2 w) w w') : Wx w0 s1 s2 w' g n2 R' := by
  refine ⟨hw.mono (fun b _ hb => ?_), Nat.le_trans h.sz hk.size, h.kp.trans hk (fun b hb hf => ?_), h.tab.kept hk (fun hf => h.no0 hf.1), h.pos⟩
  · rcases hb with hb | hb
    · exact hb
    · have := h.sz
      have := h.kp.size
      exact ⟨by omega, by omega⟩
  · have := hf.1.1
    omega
/-- What else is turned, all of it among the row beside. -/
theorem beside (h : Wx w0 s1 s2 w g now R) {S : Nat → Prop} (hk : Kp S w w') (hS : ∀ b, b < w.heap.size → S b → s1 ≤ b ∧ b < s2) (h0 : ∀ b, S b → w0.heap.size ≤ b) : Wx w0 s1 s2 w' g now R :=
  ⟨h.whl.kept hk (fun b hb hf hs => hf.2 (hS b hb hs)), Nat.le_trans h.sz hk.size, h.kp.trans hk (fun b hb hs => by have := h0 b hs; omega), h.tab.kept hk (fun hs => by have := h0 0 hs; have := h.pos; omega), h.pos⟩
theorem rs (h : Wx w0 s1 s2 w g now R) : RS R := h.whl.rs
/-- A row of blocks beside, which are new. -/
theorem aside (h : Wx w0 0 0 w g now R) (hk : Kp (fun _ => False) w w') : Wx w0 w.heap.size w'.heap.size w' g now R :=
  ⟨(h.whl.mono (G := FI w0.heap.size w.heap.size w'.heap.size) (fun b hb hf => ⟨hf.1, by omega⟩)).none_kept hk, Nat.le_refl _, h.kp.trans' hk, h.tab.kept hk (fun f => f), h.pos⟩
end Wx
section
variable {w0 : World} {s1 s2 : Nat}
theorem xnew (now : Nat) (w0 w : World) (hn : now ≤ TOP) (hT : Tab w) (hp : 0 < w0.heap.size) (hk : Kp (fun _ => False) w0 w) :
    Calls Tryd.prog 9 #[.int .u64 now] w fun ev w' => ∃ g, ev = .returned (.tuple #[.pointer (some ⟨g, 0, none⟩), .int .i64 0]) ∧ Wx w0 0 0 w' g now [] ∧ Kp (fun _ => False) w w' := by
  refine (wnew now w hn).mono ?_
  rintro ev w' ⟨g, rfl, h, k⟩
  exact ⟨g, rfl, ⟨h.mono (fun b _ hb => ⟨Nat.le_trans hk.size hb, by omega⟩), Nat.zero_le _, hk.trans' k, hT.kept k (fun f => f), hp⟩, k⟩
theorem xcancel (g now : Nat) (R : Rows) (i : Int) (w : World) (h : Wx w0 s1 s2 w g now R) :
    Calls Tryd.prog 21 #[.pointer (some ⟨g, 0, none⟩), .int .i64 i] w fun ev w' => ev = .returned (.bool (rdue i R).isSome) ∧ Wx w0 s1 s2 w' g now (rdel i R) ∧ Kp (FW w0 s1 s2 w) w w' := by
  refine (wcancel _ g now R i w h.whl).mono ?_
  rintro ev w' ⟨rfl, h1, k⟩
  exact ⟨rfl, h.turn (h1.mono (fun b _ hb => .inl hb)) k, k⟩
theorem xset (g now : Nat) (R : Rows) (i : Int) (d : Nat) (w : World) (h : Wx w0 s1 s2 w g now R) (hi : -9223372036854775808 ≤ i ∧ i ≤ 9223372036854775807) :
    Calls Tryd.prog 17 #[.pointer (some ⟨g, 0, none⟩), .int .i64 i, .int .u64 d] w fun ev w' => ev = .returned (.int .i64 ((setE R i d : Nat) : Int)) ∧ Wx w0 s1 s2 w' g now (setR R i d) ∧ Kp (FW w0 s1 s2 w) w w' := by
  refine (wset _ g now R i d w h.whl hi).mono ?_
  rintro ev w' ⟨rfl, h1, k⟩
  exact ⟨rfl, h.turn h1 k, k⟩
theorem xlen (g now : Nat) (R : Rows) (w : World) (h : Wx w0 s1 s2 w g now R) : Calls Tryd.prog 20 #[.pointer (some ⟨g, 0, none⟩)] w fun ev w' => ev = .returned (.int .i64 R.length) ∧ w' = w := wlen _ g now R w h.whl
theorem xnow (g now : Nat) (R : Rows) (w : World) (h : Wx w0 s1 s2 w g now R) : Calls Tryd.prog 23 #[.pointer (some ⟨g, 0, none⟩)] w fun ev w' => ev = .returned (.int .u64 now) ∧ w' = w := wnow _ g now R w h.whl
theorem xdue (g now : Nat) (R : Rows) (i : Int) (w : World) (h : Wx w0 s1 s2 w g now R) :
    Calls Tryd.prog 14 #[.pointer (some ⟨g, 0, none⟩), .int .i64 i] w fun ev w' => ev = .returned (.tuple #[.int .u64 ((rdI R i : Nat) : Int), .bool (rdue i R).isSome]) ∧ Kp (fun _ => False) w w' := wdue _ g now R i w h.whl
theorem xnext (g now : Nat) (R : Rows) (w : World) (h : Wx w0 s1 s2 w g now R) :
    Calls Tryd.prog 22 #[.pointer (some ⟨g, 0, none⟩)] w fun ev w' => ev = .returned (.tuple #[.int .u64 ((rfst R : Nat) : Int), .bool (!R.isEmpty)]) ∧ Kp (fun _ => False) w w' := wnext _ g now R w h.whl h.tab
theorem xgo (g now t : Nat) (R : Rows) (w : World) (h : Wx w0 s1 s2 w g now R) (hl : R.length ≤ 1000000) :
    Calls Tryd.prog 18 #[.pointer (some ⟨g, 0, none⟩), .int .u64 t] w fun ev w' => ∃ A c, ev = .returned (.tuple #[.slice A (goL now t R).length c, .int .i64 ((goE now t : Nat) : Int)]) ∧ RdN w' A (goL now t R) ∧ (∀ b o, A = some ⟨b, o, none⟩ → w.heap.size ≤ b) ∧ Wx w0 s1 s2 w' g (goN now t) (goR now t R) ∧ Kp (FW w0 s1 s2 w) w w' := by
  refine (wgo_any _ g now t R w h.whl h.tab h.no0 hl).mono ?_
  rintro ev w' ⟨v, rfl, ⟨A, c, rfl, hr, hb⟩, h2, h3⟩
  exact ⟨A, c, rfl, hr, hb, h.turn h2 h3, h3⟩
/-- Clone: the new one lies beside. -/
theorem xclone (g now : Nat) (R : Rows) (w : World) (h : Wx w0 0 0 w g now R) :
    Calls Tryd.prog 13 #[.pointer (some ⟨g, 0, none⟩)] w fun ev w' => ∃ g2, ev = .returned (.pointer (some ⟨g2, 0, none⟩)) ∧ Wx w0 w.heap.size w'.heap.size w' g now R ∧ Whl (fun b => w.heap.size ≤ b ∧ b < w'.heap.size) w' g2 now R ∧ Kp (fun _ => False) w w' := by
  refine (wclone _ g now R w h.whl).mono ?_
  rintro ev w' ⟨g2, rfl, h2, k⟩
  exact ⟨g2, rfl, h.aside k, h2.mono (fun b hb hf => ⟨hf, hb⟩), k⟩
/-- What lies beside is left. -/
theorem Whl.beside {w w' : World} {g now : Nat} {R : Rows} (h : Whl (fun b => s1 ≤ b ∧ b < s2) w g now R) (hk : Kp (FW w0 s1 s2 w) w w') : Whl (fun b => s1 ≤ b ∧ b < s2) w' g now R := h.kept hk (fun b _ hf hs => hs.1.2 hf)
end
set_option maxRecDepth 1000000 in
set_option maxHeartbeats 8000000 in
theorem alive13 (w : World) (hT : Tab w) : Calls Tryd.prog 8 #[] w fun ev w' => ev = .returned (.bool true) ∧ Kp (fun _ => False) w w' := by
  have HT := Lib.hid hT
  clear hT
  go_enter Tryd.func8, Tryd.ntmps8
  go_wp2_with fail
  refine (xnew 5 w _ (by decide) HT.out HT.out.lt (Kp.refl _ _)).mono ?_
  rintro ev w1 ⟨g, rfl, h1, _⟩
  have W1 := Lib.hid h1
  clear h1
  go_wp2_with fail
  refine (new_far 4611686018427387905 w1 (by decide)).mono ?_
  rintro ev w2 ⟨rfl, rfl⟩
  go_wp2_with fail
  refine (xset g 5 [] 7 10 _ W1.out (by omega)).mono ?_
  rintro ev w2 ⟨rfl, h2, _⟩
  rw [show setR [] 7 10 = [(7, 10)] by decide] at h2
  rw [show setE [] 7 10 = 0 by decide]
  have W2 := Lib.hid h2
  clear h2
  go_wp2_with fail
  refine (xset g 5 [(7, 10)] 3 1000000 _ W2.out (by omega)).mono ?_
  rintro ev w3 ⟨rfl, h3, _⟩
  rw [show setR [(7, 10)] 3 1000000 = [(7, 10), (3, 1000000)] by decide] at h3
  rw [show setE [(7, 10)] 3 1000000 = 0 by decide]
  have W3 := Lib.hid h3
  clear h3
  go_wp2_with fail
  refine (xset g 5 [(7, 10), (3, 1000000)] 3 10 _ W3.out (by omega)).mono ?_
  rintro ev w4 ⟨rfl, h4, _⟩
  rw [show setR [(7, 10), (3, 1000000)] 3 10 = [(3, 10), (7, 10)] by decide] at h4
  rw [show setE [(7, 10), (3, 1000000)] 3 10 = 0 by decide]
  have W4 := Lib.hid h4
  clear h4
  go_wp2_with fail
  refine (xset g 5 [(3, 10), (7, 10)] 5 9 _ W4.out (by omega)).mono ?_
  rintro ev w5 ⟨rfl, h5, _⟩
  rw [show setR [(3, 10), (7, 10)] 5 9 = [(5, 9), (3, 10), (7, 10)] by decide] at h5
  rw [show setE [(3, 10), (7, 10)] 5 9 = 0 by decide]
  have W5 := Lib.hid h5
  clear h5
  go_wp2_with fail
  refine (xset g 5 [(5, 9), (3, 10), (7, 10)] 6 9 _ W5.out (by omega)).mono ?_
  rintro ev w6 ⟨rfl, h6, _⟩
  rw [show setR [(5, 9), (3, 10), (7, 10)] 6 9 = [(5, 9), (6, 9), (3, 10), (7, 10)] by decide] at h6
  rw [show setE [(5, 9), (3, 10), (7, 10)] 6 9 = 0 by decide]
  have W6 := Lib.hid h6
  clear h6
  go_wp2_with fail
  refine (xcancel g 5 [(5, 9), (6, 9), (3, 10), (7, 10)] 6 _ W6.out).mono ?_
  rintro ev w7 ⟨rfl, h7, _⟩
  rw [show rdel 6 [(5, 9), (6, 9), (3, 10), (7, 10)] = [(5, 9), (3, 10), (7, 10)] by decide] at h7
  rw [show (rdue 6 [(5, 9), (6, 9), (3, 10), (7, 10)]).isSome = true by decide]
  have W7 := Lib.hid h7
  clear h7
  go_wp2_with fail
  refine (xcancel g 5 [(5, 9), (3, 10), (7, 10)] 6 _ W7.out).mono ?_
  rintro ev w8 ⟨rfl, h8, _⟩
  rw [show rdel 6 [(5, 9), (3, 10), (7, 10)] = [(5, 9), (3, 10), (7, 10)] by decide] at h8
  rw [show (rdue 6 [(5, 9), (3, 10), (7, 10)]).isSome = false by decide]
  have W8 := Lib.hid h8
  clear h8
  go_wp2_with fail
  refine (xnext g 5 [(5, 9), (3, 10), (7, 10)] _ W8.out).mono ?_
  rintro ev w9 ⟨rfl, k9⟩
  rw [show rfst [(5, 9), (3, 10), (7, 10)] = 9 by decide, show (!List.isEmpty ([(5, 9), (3, 10), (7, 10)] : Rows)) = true by decide]
  have W9 := Lib.hid (W8.out.none_kept k9)
  clear k9
  go_wp2_with fail
  refine (xclone g 5 [(5, 9), (3, 10), (7, 10)] _ W9.out).mono ?_
  rintro ev w10 ⟨g2, rfl, h10, c10, _⟩
  have W10 := Lib.hid h10
  have C10 := Lib.hid c10
  clear h10 c10
  go_wp2_with fail
  refine (xgo g 5 9 [(5, 9), (3, 10), (7, 10)] _ W10.out (by decide)).mono ?_
  rintro ev w11 ⟨Aa, ca, rfl, r11, _, h11, k11⟩
  rw [show goL 5 9 [(5, 9), (3, 10), (7, 10)] = [5] by decide] at r11
  rw [show goL 5 9 [(5, 9), (3, 10), (7, 10)] = [5] by decide]
  rw [show goE 5 9 = 0 by decide]
  rw [show goN 5 9 = 9 by decide, show goR 5 9 [(5, 9), (3, 10), (7, 10)] = [(3, 10), (7, 10)] by decide] at h11
  have W11 := Lib.hid h11
  have C11 := Lib.hid (C10.out.beside k11)
  have RA11 := Lib.hid r11
  clear r11 h11 k11
  go_wp2_with fail
  refine (xgo g 9 12 [(3, 10), (7, 10)] _ W11.out (by decide)).mono ?_
  rintro ev w12 ⟨Ab, cb, rfl, r12, _, h12, k12⟩
  rw [show goL 9 12 [(3, 10), (7, 10)] = [3, 7] by decide] at r12
  rw [show goL 9 12 [(3, 10), (7, 10)] = [3, 7] by decide]
  rw [show goE 9 12 = 0 by decide]
  rw [show goN 9 12 = 12 by decide, show goR 9 12 [(3, 10), (7, 10)] = [] by decide] at h12
  have W12 := Lib.hid h12
  have C12 := Lib.hid (C11.out.beside k12)
  have RA12 := Lib.hid (RA11.out.by_whl k12)
  have RB12 := Lib.hid r12
  clear r12 h12 k12
  go_wp2_with fail
  refine (xgo g 12 11 [] _ W12.out (by decide)).mono ?_
  rintro ev w13 ⟨Az, cz, rfl, r13, _, h13, k13⟩
  rw [show goL 12 11 [] = [] by decide] at r13
  rw [show goL 12 11 [] = [] by decide]
  rw [show goE 12 11 = 22 by decide]
  rw [show goN 12 11 = 12 by decide, show goR 12 11 [] = [] by decide] at h13
  have W13 := Lib.hid h13
  have C13 := Lib.hid (C12.out.beside k13)
  have RA13 := Lib.hid (RA12.out.by_whl k13)
  have RB13 := Lib.hid (RB12.out.by_whl k13)
  clear r13 h13 k13
  go_wp2_with fail
  refine (xdue g 12 [] 7 _ W13.out).mono ?_
  rintro ev w14 ⟨rfl, k14⟩
  rw [show rdI [] 7 = 0 by decide, show (rdue 7 []).isSome = false by decide]
  have W14 := Lib.hid (W13.out.none_kept k14)
  have C14 := Lib.hid (C13.out.none_kept k14)
  have RA14 := Lib.hid (RA13.out.none_kept k14)
  have RB14 := Lib.hid (RB13.out.none_kept k14)
  clear k14
  go_wp2_with fail
  refine (wdue _ g2 5 [(5, 9), (3, 10), (7, 10)] 7 _ C14.out).mono ?_
  rintro ev w15 ⟨rfl, k15⟩
  rw [show rdI [(5, 9), (3, 10), (7, 10)] 7 = 10 by decide, show (rdue 7 [(5, 9), (3, 10), (7, 10)]).isSome = true by decide]
  have W15 := Lib.hid (W14.out.none_kept k15)
  have C15 := Lib.hid (C14.out.none_kept k15)
  have RA15 := Lib.hid (RA14.out.none_kept k15)
  have RB15 := Lib.hid (RB14.out.none_kept k15)
  clear k15
  go_wp2_with fail
  have W16 := Lib.hid (W15.out.alloc (.cells #[.int .i64 5] 3))
  have C16 := Lib.hid (C15.out.none_kept ((Kp.refl _ _).alloc (.cells #[.int .i64 5] 3)))
  have RA16 := Lib.hid (RA15.out.none_kept ((Kp.refl _ _).alloc (.cells #[.int .i64 5] 3)))
  have RB16 := Lib.hid (RB15.out.none_kept ((Kp.refl _ _).alloc (.cells #[.int .i64 5] 3)))
  have RC16 := Lib.hid (RdI.new w15 .i64 3 [5] (by decide))
  refine (sameInts_any Aa _ ca _ [5] [5] _ RA16.out.1 RC16.out).mono ?_
  rintro ev w17 ⟨rfl, n16, hn16⟩
  rw [show (([5] : List Int) == [5]) = true by decide]
  have W17 := Lib.hid (show Wx _ _ _ w17 _ _ _ from hn16 ▸ W16.out.drewN n16)
  have C17 := Lib.hid (show Whl _ w17 _ _ _ from hn16 ▸ C16.out.drewN n16)
  have RA17 := Lib.hid (show RdN w17 _ _ from hn16 ▸ RA16.out.none_kept ((Kp.refl _ _).drewN n16))
  have RB17 := Lib.hid (show RdN w17 _ _ from hn16 ▸ RB16.out.none_kept ((Kp.refl _ _).drewN n16))
  clear hn16
  go_wp2_with fail
  have W18 := Lib.hid (W17.out.alloc (.cells #[.int .i64 3, .int .i64 7] 3))
  have C18 := Lib.hid (C17.out.none_kept ((Kp.refl _ _).alloc (.cells #[.int .i64 3, .int .i64 7] 3)))
  have RA18 := Lib.hid (RA17.out.none_kept ((Kp.refl _ _).alloc (.cells #[.int .i64 3, .int .i64 7] 3)))
  have RB18 := Lib.hid (RB17.out.none_kept ((Kp.refl _ _).alloc (.cells #[.int .i64 3, .int .i64 7] 3)))
  have RC18 := Lib.hid (RdI.new w17 .i64 3 [3, 7] (by decide))
  refine (sameInts_any Ab _ cb _ [3, 7] [3, 7] _ RB18.out.1 RC18.out).mono ?_
  rintro ev w19 ⟨rfl, n18, hn18⟩
  rw [show (([3, 7] : List Int) == [3, 7]) = true by decide]
  have W19 := Lib.hid (show Wx _ _ _ w19 _ _ _ from hn18 ▸ W18.out.drewN n18)
  have C19 := Lib.hid (show Whl _ w19 _ _ _ from hn18 ▸ C18.out.drewN n18)
  have RA19 := Lib.hid (show RdN w19 _ _ from hn18 ▸ RA18.out.none_kept ((Kp.refl _ _).drewN n18))
  have RB19 := Lib.hid (show RdN w19 _ _ from hn18 ▸ RB18.out.none_kept ((Kp.refl _ _).drewN n18))
  clear hn18
  go_wp2_with fail
  refine (xnow g 12 [] _ W19.out).mono ?_
  rintro ev w20 ⟨rfl, rfl⟩
  go_wp2_with fail
  refine (xlen g 12 [] _ W19.out).mono ?_
  rintro ev w20 ⟨rfl, rfl⟩
  rw [show (([] : Rows).length : Int) = 0 by decide]
  go_wp2_with fail
  refine (wlen _ g2 5 [(5, 9), (3, 10), (7, 10)] _ C19.out).mono ?_
  rintro ev w20 ⟨rfl, rfl⟩
  rw [show (([(5, 9), (3, 10), (7, 10)] : Rows).length : Int) = 3 by decide]
  go_wp2_with fail
  exact bodyPost_ret (results_tmp rfl _ _ _) rfl ⟨rfl, W19.out.kp⟩
end Go.Proofs.YtdakkmaahgcjfaaDoor
