/- Ether: Parse's answers, bad bytes and good ones. Ether: the walk of EtherParses. -/
import Derived.Test.YtconpcnmccmbiaaDoorFb
import Derived.Test.YtconpcnmccmbiaaDoorFc
set_option linter.unusedVariables false
set_option linter.unusedSimpArgs false
namespace Go.Proofs.YtconpcnmccmbiaaDoor
open Go.RowKit

/-- What is wrong with bytes that are no frame. -/
def errCode (n : Nat) : Int := if n < 14 then 12 else if 1514 < n then 11 else 10
def Bad (xs : List Int) : Prop := xs.length < 14 ∨ 1514 < xs.length ∨ xs.getD 6 0 % 2 = 1
theorem errCode_ne (n : Nat) : errCode n ≠ 0 := by unfold errCode; split <;> (try split) <;> decide
theorem RdI.some14 {w : World} {A : Option Addr} {xs : List Int} (h : RdI w .u8 A xs) (hn : 14 ≤ xs.length) : ∃ b o, A = some ⟨b, o, none⟩ := by
  rcases h.2 with h | ⟨b, o, h, _⟩
  · omega
  · exact ⟨b, o, h⟩
theorem eparse_bad (A : Option Addr) (n c : Nat) (xs : List Int) (w : World) (hr : RdI w .u8 A xs) (hn : xs.length = n) (hb : Byt xs) (hc : n ≤ c) (h : Bad xs) :
    Calls Tryd.prog 47 #[.slice A n c] w fun ev w' => ∃ v, ev = .returned (.tuple #[.agg #[.int .u8 0, .int .u8 0, .int .u8 0, .int .u8 0, .int .u8 0, .int .u8 0, .int .u8 0, .int .u8 0, .int .u8 0, .int .u8 0, .int .u8 0, .int .u8 0, .int .u16 0, .slice none 0 0], v]) ∧ Chain w' (errCode n) [1] v ∧ Kp (fun _ => False) w w' := by
  subst hn
  unfold errCode
  by_cases h1 : xs.length < 14
  · rw [if_pos h1]
    exact eparse_short A c _ w h1
  by_cases h2 : 1514 < xs.length
  · rw [if_neg h1, if_pos h2]
    exact eparse_long A c _ w h2
  rw [if_neg h1, if_neg h2]
  have h3 : xs.getD 6 0 % 2 = 1 := by
    rcases h with h | h | h
    · exact absurd h h1
    · exact absurd h h2
    · exact h
  obtain ⟨b, o, rfl⟩ := hr.some14 (by omega)
  refine (eparse_mid b o c xs w hr hb (by omega) (by omega) hc).mono ?_
  rintro ev w' (⟨_, ⟨v, rfl, hch⟩, hk⟩ | ⟨h, _⟩)
  · exact ⟨v, rfl, hch, hk⟩
  · rw [h3] at h; cases h
theorem rparse_bad (A : Option Addr) (n c : Nat) (xs : List Int) (w : World) (hr : RdI w .u8 A xs) (hn : xs.length = n) (hb : Byt xs) (hc : n ≤ c) (h : Bad xs) :
    Calls Tryd.prog 48 #[.slice A n c] w fun ev w' => ∃ A2 c2, ev = .returned (.tuple #[.agg #[.int .u8 0, .int .u8 0, .int .u8 0, .int .u8 0, .int .u8 0, .int .u8 0, .int .u8 0, .int .u8 0, .int .u8 0, .int .u8 0, .int .u8 0, .int .u8 0, .int .u16 0, .slice none 0 0], .agg #[.slice A2 1 c2, .int .i64 (errCode n)]]) ∧ RdI w' .i64 A2 [1] ∧ 1 ≤ c2 ∧ Kp (fun _ => False) w w' := by
  unfold errCode
  by_cases h1 : n < 14
  · rw [if_pos h1]
    exact rparse_short A c n w h1
  by_cases h2 : 1514 < n
  · rw [if_neg h1, if_pos h2]
    exact rparse_long A c n w h2
  rw [if_neg h1, if_neg h2]
  have h3 : xs.getD 6 0 % 2 = 1 := by
    rcases h with h | h | h
    · omega
    · omega
    · exact h
  obtain ⟨b, o, rfl⟩ := hr.some14 (by omega)
  exact rparse_odd b o c n xs w hr hb hn (by omega) (by omega) h3
set_option maxRecDepth 100000 in
theorem frm_lit (u v t f : Nat → Int) (k : Int) (b : Value) (h1 : ∀ i, i < 6 → u i = t i) (h2 : ∀ i, i < 6 → v i = f i) : Value.agg (frm u v k b) = .agg #[.int .u8 (t 0), .int .u8 (t 1), .int .u8 (t 2), .int .u8 (t 3), .int .u8 (t 4), .int .u8 (t 5), .int .u8 (f 0), .int .u8 (f 1), .int .u8 (f 2), .int .u8 (f 3), .int .u8 (f 4), .int .u8 (f 5), .int .u16 k, b] := by
  rw [frm_of u v t f k b h1 h2]
  rfl
set_option maxRecDepth 100000 in
theorem eparse_good (A : Option Addr) (n c m : Nat) (xs : List Int) (t f : Nat → Int) (k : Nat) (w : World) (hr : RdI w .u8 A xs) (hn : xs.length = n) (hm : (xs.drop 14).length = m) (hb : Byt xs) (hc : n ≤ c) (h1 : 14 ≤ n) (h2 : n ≤ 1514) (h3 : xs.getD 6 0 % 2 = 0)
    (ht : ∀ i, i < 6 → xs.getD i 0 = t i) (hf : ∀ i, i < 6 → xs.getD (6 + i) 0 = f i) (hk : xs.getD 12 0 * 256 + xs.getD 13 0 = k) :
    Calls Tryd.prog 47 #[.slice A n c] w fun ev w' => ∃ A2 c2, ev = .returned (.tuple #[.agg #[.int .u8 (t 0), .int .u8 (t 1), .int .u8 (t 2), .int .u8 (t 3), .int .u8 (t 4), .int .u8 (t 5), .int .u8 (f 0), .int .u8 (f 1), .int .u8 (f 2), .int .u8 (f 3), .int .u8 (f 4), .int .u8 (f 5), .int .u16 k, .slice A2 m c2], .nilIface]) ∧ w'.ownsRow w.heap.size 5 1 (.slice A2 m c2) m (intsK .u8 (xs.drop 14)) ∧ Kp (fun _ => False) w w' := by
  subst hn
  obtain ⟨b, o, rfl⟩ := hr.some14 h1
  refine (eparse_mid b o c xs w hr hb h1 h2 hc).mono ?_
  rintro ev w' (⟨h, _⟩ | ⟨_, ⟨A2, c2, rfl, own⟩, hkk⟩)
  · rw [h3] at h; cases h
  · rw [hm] at own
    refine ⟨A2, c2, ?_, own, hkk⟩
    rw [hm, frm_lit _ _ t f _ _ ht hf, hk]
set_option maxRecDepth 100000 in
theorem rparse_good (A : Option Addr) (n c m : Nat) (xs : List Int) (t f : Nat → Int) (k : Nat) (w : World) (hr : RdI w .u8 A xs) (hn : xs.length = n) (hm : (xs.drop 14).length = m) (hb : Byt xs) (hc : n ≤ c) (h1 : 14 ≤ n) (h2 : n ≤ 1514) (h3 : xs.getD 6 0 % 2 = 0)
    (ht : ∀ i, i < 6 → xs.getD i 0 = t i) (hf : ∀ i, i < 6 → xs.getD (6 + i) 0 = f i) (hk : xs.getD 12 0 * 256 + xs.getD 13 0 = k) :
    Calls Tryd.prog 48 #[.slice A n c] w fun ev w' => ∃ A2 c2, ev = .returned (.tuple #[.agg #[.int .u8 (t 0), .int .u8 (t 1), .int .u8 (t 2), .int .u8 (t 3), .int .u8 (t 4), .int .u8 (t 5), .int .u8 (f 0), .int .u8 (f 1), .int .u8 (f 2), .int .u8 (f 3), .int .u8 (f 4), .int .u8 (f 5), .int .u16 k, .slice A2 m c2], .agg #[.slice none 0 0, .int .i64 0]]) ∧ w'.ownsRow w.heap.size 5 1 (.slice A2 m c2) m (intsK .u8 (xs.drop 14)) ∧ Kp (fun _ => False) w w' := by
  obtain ⟨b, o, rfl⟩ := hr.some14 (by omega)
  refine (rparse_mid b o c n m xs w hr hb hn hm h1 h2 hc h3).mono ?_
  rintro ev w' ⟨A2, c2, rfl, own, hkk⟩
  refine ⟨A2, c2, ?_, own, hkk⟩
  rw [frm_lit _ _ t f _ _ ht hf, hk]
set_option maxRecDepth 100000 in
/-- A frame's bytes are those that were parsed. -/
theorem fbytes_back (xs : List Int) (t f : Nat → Int) (k : Nat) (hb : Byt xs) (h1 : 14 ≤ xs.length) (ht : ∀ i, i < 6 → xs.getD i 0 = t i) (hf : ∀ i, i < 6 → xs.getD (6 + i) 0 = f i) (hk : xs.getD 12 0 * 256 + xs.getD 13 0 = k) : fbytes t f k (xs.drop 14) = xs := by
  match xs, h1 with
  | a0 :: a1 :: a2 :: a3 :: a4 :: a5 :: a6 :: a7 :: a8 :: a9 :: a10 :: a11 :: a12 :: a13 :: ys, _ =>
    have e0 : a0 = t 0 := ht 0 (by omega)
    have e1 : a1 = t 1 := ht 1 (by omega)
    have e2 : a2 = t 2 := ht 2 (by omega)
    have e3 : a3 = t 3 := ht 3 (by omega)
    have e4 : a4 = t 4 := ht 4 (by omega)
    have e5 : a5 = t 5 := ht 5 (by omega)
    have e6 : a6 = f 0 := hf 0 (by omega)
    have e7 : a7 = f 1 := hf 1 (by omega)
    have e8 : a8 = f 2 := hf 2 (by omega)
    have e9 : a9 = f 3 := hf 3 (by omega)
    have e10 : a10 = f 4 := hf 4 (by omega)
    have e11 : a11 = f 5 := hf 5 (by omega)
    have hk' : a12 * 256 + a13 = (k : Int) := hk
    have h12 : 0 ≤ a12 ∧ a12 < 256 := hb 12
    have h13 : 0 ≤ a13 ∧ a13 < 256 := hb 13
    have d1 : (k : Int) / 256 = a12 := by omega
    have d2 : (k : Int) % 256 = a13 := by omega
    subst e0 e1 e2 e3 e4 e5 e6 e7 e8 e9 e10 e11
    show macL t ++ macL f ++ [(k : Int) / 256, (k : Int) % 256] ++ ys = _
    rw [d1, d2]
    rfl
/-- The cells of a row of one's own. -/
theorem own_cells {w : World} {base g m c : Nat} {xs : List Int} (h : w.ownsRow base 5 1 (.slice (some ⟨g, 0, none⟩) m c) m (intsK .u8 xs)) : ∃ cur : Array Value, Bk w g 5 cur ∧ ∀ j, j < m → ∃ y, cur[j]? = some (.int .u8 y) := by
  rcases h.2 with ⟨h, _⟩ | ⟨g', cap, cur, hv, _, hg, hn, _, hs, ht⟩
  · cases h
  · cases hv
    refine ⟨cur, hg, fun j hj => ?_⟩
    have hl : xs.length = m := by have := h.1; simpa [intsK] using this
    have h1 : (cur.toList.take (m * 1))[j]? = (intsK .u8 xs)[j]? := by rw [ht]
    rw [List.getElem?_take_of_lt (by omega)] at h1
    refine ⟨xs[j]'(by omega), ?_⟩
    rw [← Array.getElem?_toList, h1]
    simp [intsK, hl, hj]
end Go.Proofs.YtconpcnmccmbiaaDoor
namespace Go.Proofs.YtconpcnmccmbiaaDoor
open Go.RowKit

theorem kp_kc2 {w w' : World} {p : Addr} {v : Value} (h : w.cell? p = some v) (k : Kp (fun _ => False) w w') : w'.cell? p = some v := (k.cell (World.block_lt_of_cell? w _ h) (fun f => f)).trans h
theorem cells_put {cur : Array Value} {m : Nat} (h : ∀ j, j < m → ∃ y, cur[j]? = some (Value.int .u8 y)) (i : Nat) (v : Int) : ∀ j, j < m → ∃ y, (cur.setIfInBounds i (.int .u8 v))[j]? = some (Value.int .u8 y) := by
  intro j hj
  obtain ⟨y, hy⟩ := h j hj
  by_cases he : i = j
  · subst he
    have hlt : i < cur.size := (Array.getElem?_eq_some_iff.1 hy).1
    exact ⟨v, by simp [Array.getElem?_setIfInBounds, hlt]⟩
  · exact ⟨y, by simp [Array.getElem?_setIfInBounds, he, hy]⟩
theorem store14 {w : World} {g : Nat} {t : TypeId} {a0 a1 a2 a3 a4 a5 a6 a7 a8 a9 a10 a11 a12 a13 v0 v1 v2 v3 v4 v5 v6 v7 v8 v9 v10 v11 v12 v13 : Value} (hb : Bk w g t #[a0, a1, a2, a3, a4, a5, a6, a7, a8, a9, a10, a11, a12, a13]) :
    Bk ((((((((((((((w.setCell ⟨g, 0, none⟩ v0).setCell ⟨g, 1, none⟩ v1).setCell ⟨g, 2, none⟩ v2).setCell ⟨g, 3, none⟩ v3).setCell ⟨g, 4, none⟩ v4).setCell ⟨g, 5, none⟩ v5).setCell ⟨g, 6, none⟩ v6).setCell ⟨g, 7, none⟩ v7).setCell ⟨g, 8, none⟩ v8).setCell ⟨g, 9, none⟩ v9).setCell ⟨g, 10, none⟩ v10).setCell ⟨g, 11, none⟩ v11).setCell ⟨g, 12, none⟩ v12).setCell ⟨g, 13, none⟩ v13) g t #[v0, v1, v2, v3, v4, v5, v6, v7, v8, v9, v10, v11, v12, v13] ∧ Kp (fun b => b = g) w ((((((((((((((w.setCell ⟨g, 0, none⟩ v0).setCell ⟨g, 1, none⟩ v1).setCell ⟨g, 2, none⟩ v2).setCell ⟨g, 3, none⟩ v3).setCell ⟨g, 4, none⟩ v4).setCell ⟨g, 5, none⟩ v5).setCell ⟨g, 6, none⟩ v6).setCell ⟨g, 7, none⟩ v7).setCell ⟨g, 8, none⟩ v8).setCell ⟨g, 9, none⟩ v9).setCell ⟨g, 10, none⟩ v10).setCell ⟨g, 11, none⟩ v11).setCell ⟨g, 12, none⟩ v12).setCell ⟨g, 13, none⟩ v13) := by
  have hp := ((((((((((((((hb.put 0 v0).put 1 v1).put 2 v2).put 3 v3).put 4 v4).put 5 v5).put 6 v6).put 7 v7).put 8 v8).put 9 v9).put 10 v10).put 11 v11).put 12 v12).put 13 v13)
  simp only [List.setIfInBounds_toArray, List.set_cons_zero, List.set_cons_succ] at hp
  refine ⟨hp, ?_⟩
  have hput : ∀ (W : World) (i : Nat) (u : Value), Kp (fun b => b = g) w W → Kp (fun b => b = g) w (W.setCell ⟨g, i, none⟩ u) := fun W i u h => Kp.setCell (p := ⟨g, i, none⟩) h (Or.inl rfl) u
  iterate 14 refine hput _ _ _ ?_
  exact Kp.refl _ _
theorem own_cap {w : World} {base n c : Nat} {A : Option Addr} {xs : List Value} (h : w.ownsRow base 5 1 (.slice A n c) n xs) : n ≤ c := by
  rcases h.2 with ⟨h, h0⟩ | ⟨g, cap, cur, h, _, _, h1, _⟩
  · omega
  · cases h; exact h1
theorem own_rd2 {w : World} {base n c : Nat} {A : Option Addr} {xs : List Int} {m : Nat} (h : w.ownsRow base 5 1 (.slice A n c) m (intsK .u8 xs)) : RdI w .u8 A xs := by
  obtain ⟨A', c', e, _, h2, _⟩ := RdI.of_own (k := .u8) (xs := xs) h
  cases e
  exact h2
theorem own_none2 {w : World} {base e size n m c : Nat} {A : Option Addr} {xs : List Value} (h : w.ownsRow base e size (.slice A n c) m xs) : A = none → c = 0 := by
  rintro rfl
  rcases h.2 with ⟨h, _⟩ | ⟨g, cap, cur, h, _⟩
  · cases h; rfl
  · cases h

set_option maxRecDepth 100000 in
set_option maxHeartbeats 60000000 in
theorem parses_bad (A : Option Addr) (c : Nat) (xs : List Int) (mm : Nat → Int) (w : World) (hE : Et w) (hx : RdI w .u8 A xs) (hb : Byt xs) (h0 : A = none → c = 0) (hc : xs.length ≤ c) (hbad : Bad xs) :
    Calls Tryd.prog 11 #[.slice A xs.length c, .agg (mac mm)] w fun ev w' => ev = .returned (.bool true) ∧ Kp (fun _ => False) w w' := by
  obtain ⟨n, hn⟩ : ∃ n, xs.length = n := ⟨_, rfl⟩
  rw [hn] at hc ⊢
  have kA := (Kp.refl (fun _ => False) w).alloc (.cells (mac mm) 73)
  have HB0 := Lib.hid (Bk.new w 73 (mac mm))
  have HK := Lib.hid kA
  have HE := Lib.hid (hE.kept kA (fun x => x))
  have HX := Lib.hid (hx.kp kA (fun _ _ _ x => x))
  have HB := Lib.hid hb
  have HN := Lib.hid hn
  have H0 := Lib.hid h0
  have hAl : 0 < n → ∀ b o, A = some ⟨b, o, none⟩ → b < w.heap.size := by
    rintro hp b o rfl
    rcases hx.2 with h | ⟨b', o', hA, h⟩
    · omega
    · cases hA
      exact World.block_lt_of_cell? w _ (h 0 (by omega))
  have HAL := Lib.hid hAl
  clear kA hE hx hb hn h0 hAl
  go_enter Tryd.func11, Tryd.ntmps11
  go_wp2_with fail
  refine (alive05 _ HE.out).mono ?_
  rintro ev w1 ⟨rfl, k1⟩
  have B1 := Lib.hid (HB0.out.kept k1 (fun x => x))
  have K1 := Lib.hid (HK.out.trans' k1)
  have E1 := Lib.hid (HE.out.kept k1 (fun x => x))
  have X1 := Lib.hid (HX.out.kp k1 (fun _ _ _ x => x))
  clear k1
  generalize Value.agg (mac mm) = G1
  by_cases hbig : 3000 < n
  · have hbi : (3000 : Int) < (n : Int) := by omega
    go_wp2_with fail
    go_ret
    exact ⟨rfl, K1.out⟩
  have hbi : ¬ ((3000 : Int) < (n : Int)) := by omega
  go_wp2_with fail
  refine (ownB_any A n c xs _ X1.out HN.out.symm (by omega) H0.out).mono ?_
  rintro ev w2 ⟨s5, rfl, own5, k2⟩
  obtain ⟨A5, c5, rfl, hl5, r5, _⟩ := RdI.of_own (k := .u8) (xs := xs) own5
  have hc5 := own_cap own5
  have h5l : ∀ b o, A5 = some ⟨b, o, none⟩ → b < w2.heap.size := by
    rintro b o rfl
    exact (own5.lt b rfl).2
  have H5L := Lib.hid h5l
  have R2 := Lib.hid r5
  have B2 := Lib.hid (B1.out.kept k2 (fun x => x))
  have K2 := Lib.hid (K1.out.trans' k2)
  have E2 := Lib.hid (E1.out.kept k2 (fun x => x))
  have X2 := Lib.hid (X1.out.kp k2 (fun _ _ _ x => x))
  clear k2 own5 hl5 r5 h5l
  go_wp2_with fail
  refine (eparse_bad A5 n c5 xs _ R2.out HN.out HB.out hc5 hbad).mono ?_
  rintro ev w3 ⟨v3, rfl, ch3, k3⟩
  have hv3 := ch3.form
  rcases hv3 with ⟨x3, rfl⟩ | ⟨x3, rfl⟩
  · exact absurd ch3 (by rintro ⟨g, v', h, _⟩; cases h)
  have C3 := Lib.hid (ch3.none_kept ((Kp.refl (fun _ => False) w3).alloc (.cells #[.int .u8 0, .int .u8 0, .int .u8 0, .int .u8 0, .int .u8 0, .int .u8 0, .int .u8 0, .int .u8 0, .int .u8 0, .int .u8 0, .int .u8 0, .int .u8 0, .int .u16 0, .slice none 0 0] 77)))
  have kB := (Kp.refl (fun _ => False) w3).alloc (.cells #[.int .u8 0, .int .u8 0, .int .u8 0, .int .u8 0, .int .u8 0, .int .u8 0, .int .u8 0, .int .u8 0, .int .u8 0, .int .u8 0, .int .u8 0, .int .u8 0, .int .u16 0, .slice none 0 0] 77)
  have D6 := Lib.hid (Bk.new w3 77 #[.int .u8 0, .int .u8 0, .int .u8 0, .int .u8 0, .int .u8 0, .int .u8 0, .int .u8 0, .int .u8 0, .int .u8 0, .int .u8 0, .int .u8 0, .int .u8 0, .int .u16 0, .slice none 0 0])
  have R3 := Lib.hid (R2.out.kp (k3.trans' kB) (fun _ _ _ x => x))
  have B3 := Lib.hid (B2.out.kept (k3.trans' kB) (fun x => x))
  have K3 := Lib.hid (K2.out.trans' (k3.trans' kB))
  have E3 := Lib.hid (E2.out.kept (k3.trans' kB) (fun x => x))
  have X3 := Lib.hid (X2.out.kp (k3.trans' kB) (fun _ _ _ x => x))
  go_wp2_with fail
  refine (rparse_bad A n c xs _ X3.out HN.out HB.out hc hbad).mono ?_
  rintro ev w4 ⟨A4, c4, rfl, r4, hc4, k4⟩
  have kD := ((Kp.refl (fun _ => False) w4).alloc (.cells #[.int .u8 0, .int .u8 0, .int .u8 0, .int .u8 0, .int .u8 0, .int .u8 0, .int .u8 0, .int .u8 0, .int .u8 0, .int .u8 0, .int .u8 0, .int .u8 0, .int .u16 0, .slice none 0 0] 81)).alloc (.cells #[.slice A4 1 c4, .int .i64 (errCode n)] 52)
  have d8 := (Bk.new w4 81 #[.int .u8 0, .int .u8 0, .int .u8 0, .int .u8 0, .int .u8 0, .int .u8 0, .int .u8 0, .int .u8 0, .int .u8 0, .int .u8 0, .int .u8 0, .int .u8 0, .int .u16 0, .slice none 0 0]).alloc (.cells #[.slice A4 1 c4, .int .i64 (errCode n)] 52)
  have d9 := Bk.new (w4.alloc (.cells #[.int .u8 0, .int .u8 0, .int .u8 0, .int .u8 0, .int .u8 0, .int .u8 0, .int .u8 0, .int .u8 0, .int .u8 0, .int .u8 0, .int .u8 0, .int .u8 0, .int .u16 0, .slice none 0 0] 81)) 52 #[.slice A4 1 c4, .int .i64 (errCode n)]
  rw [show (w4.alloc (.cells #[.int .u8 0, .int .u8 0, .int .u8 0, .int .u8 0, .int .u8 0, .int .u8 0, .int .u8 0, .int .u8 0, .int .u8 0, .int .u8 0, .int .u8 0, .int .u8 0, .int .u16 0, .slice none 0 0] 81)).heap.size = w4.heap.size + 1 by simp] at d9
  have D8 := Lib.hid d8
  have D9 := Lib.hid d9
  have D6 := Lib.hid (D6.out.kept (k4.trans' kD) (fun x => x))
  have R5 := Lib.hid (R3.out.kp (k4.trans' kD) (fun _ _ _ x => x))
  have B5 := Lib.hid (B3.out.kept (k4.trans' kD) (fun x => x))
  have K5 := Lib.hid (K3.out.trans' (k4.trans' kD))
  have E5 := Lib.hid (E3.out.kept (k4.trans' kD) (fun x => x))
  have X5 := Lib.hid (X3.out.kp (k4.trans' kD) (fun _ _ _ x => x))
  have C5 := Lib.hid (C3.out.none_kept (k4.trans' kD))
  have R4 := Lib.hid (r4.kp kD (fun _ _ _ x => x))
  clear ch3 k3 k4 kB kD r4 d8 d9
  go_upto_region 8 with fail
  generalize hw0 : (w4.alloc (.cells #[.int .u8 0, .int .u8 0, .int .u8 0, .int .u8 0, .int .u8 0, .int .u8 0, .int .u8 0, .int .u8 0, .int .u8 0, .int .u8 0, .int .u8 0, .int .u8 0, .int .u16 0, .slice none 0 0] 81)).alloc (.cells #[.slice A4 1 c4, .int .i64 (errCode n)] 52) = w0 at *
  clear hw0
  generalize w4.heap.size + 1 = g9 at *
  generalize w4.heap.size = g8 at *
  generalize w3.heap.size = g6 at *
  go_cut [56] from 13 to 93 (fun s56 wx => s56 = .bool false ∧ Kp (fun _ => False) w0 wx)
  case first =>
    have keep : ∀ b, Kp (fun _ => False) w0 b → (fun w' => Kp (fun _ => False) w0 w' ∧ w'.cell? ⟨g9, 0, none⟩ = some (Value.slice A4 1 c4) ∧ w'.cell? ⟨g9, 1, none⟩ = some (Value.int .i64 (errCode n)) ∧ w'.cell? ⟨g6, 0, none⟩ = some (Value.int IntKind.u8 0) ∧ w'.cell? ⟨g6, 1, none⟩ = some (Value.int IntKind.u8 0) ∧ w'.cell? ⟨g6, 2, none⟩ = some (Value.int IntKind.u8 0) ∧ w'.cell? ⟨g6, 3, none⟩ = some (Value.int IntKind.u8 0) ∧ w'.cell? ⟨g6, 4, none⟩ = some (Value.int IntKind.u8 0) ∧ w'.cell? ⟨g6, 5, none⟩ = some (Value.int IntKind.u8 0) ∧ w'.cell? ⟨g6, 6, none⟩ = some (Value.int IntKind.u8 0) ∧ w'.cell? ⟨g6, 7, none⟩ = some (Value.int IntKind.u8 0) ∧ w'.cell? ⟨g6, 8, none⟩ = some (Value.int IntKind.u8 0) ∧ w'.cell? ⟨g6, 9, none⟩ = some (Value.int IntKind.u8 0) ∧ w'.cell? ⟨g6, 10, none⟩ = some (Value.int IntKind.u8 0) ∧ w'.cell? ⟨g6, 11, none⟩ = some (Value.int IntKind.u8 0) ∧ w'.cell? ⟨g6, 12, none⟩ = some (Value.int IntKind.u16 0) ∧ w'.cell? ⟨g6, 13, none⟩ = some (Value.slice none 0 0) ∧ w'.cell? ⟨g8, 0, none⟩ = some (Value.int IntKind.u8 0) ∧ w'.cell? ⟨g8, 1, none⟩ = some (Value.int IntKind.u8 0) ∧ w'.cell? ⟨g8, 2, none⟩ = some (Value.int IntKind.u8 0) ∧ w'.cell? ⟨g8, 3, none⟩ = some (Value.int IntKind.u8 0) ∧ w'.cell? ⟨g8, 4, none⟩ = some (Value.int IntKind.u8 0) ∧ w'.cell? ⟨g8, 5, none⟩ = some (Value.int IntKind.u8 0) ∧ w'.cell? ⟨g8, 6, none⟩ = some (Value.int IntKind.u8 0) ∧ w'.cell? ⟨g8, 7, none⟩ = some (Value.int IntKind.u8 0) ∧ w'.cell? ⟨g8, 8, none⟩ = some (Value.int IntKind.u8 0) ∧ w'.cell? ⟨g8, 9, none⟩ = some (Value.int IntKind.u8 0) ∧ w'.cell? ⟨g8, 10, none⟩ = some (Value.int IntKind.u8 0) ∧ w'.cell? ⟨g8, 11, none⟩ = some (Value.int IntKind.u8 0) ∧ w'.cell? ⟨g8, 12, none⟩ = some (Value.int IntKind.u16 0) ∧ w'.cell? ⟨g8, 13, none⟩ = some (Value.slice none 0 0) ∧ w'.cell? ⟨w.heap.size, 0, none⟩ = some (Value.int IntKind.u8 (mm 0)) ∧ w'.cell? ⟨w.heap.size, 1, none⟩ = some (Value.int IntKind.u8 (mm 1)) ∧ w'.cell? ⟨w.heap.size, 2, none⟩ = some (Value.int IntKind.u8 (mm 2)) ∧ w'.cell? ⟨w.heap.size, 3, none⟩ = some (Value.int IntKind.u8 (mm 3)) ∧ w'.cell? ⟨w.heap.size, 4, none⟩ = some (Value.int IntKind.u8 (mm 4)) ∧ w'.cell? ⟨w.heap.size, 5, none⟩ = some (Value.int IntKind.u8 (mm 5))) b := fun b hk => ⟨hk, kp_kc2 (D9.out.cell 0) hk, kp_kc2 (D9.out.cell 1) hk, kp_kc2 (D6.out.cell 0) hk, kp_kc2 (D6.out.cell 1) hk, kp_kc2 (D6.out.cell 2) hk, kp_kc2 (D6.out.cell 3) hk, kp_kc2 (D6.out.cell 4) hk, kp_kc2 (D6.out.cell 5) hk, kp_kc2 (D6.out.cell 6) hk, kp_kc2 (D6.out.cell 7) hk, kp_kc2 (D6.out.cell 8) hk, kp_kc2 (D6.out.cell 9) hk, kp_kc2 (D6.out.cell 10) hk, kp_kc2 (D6.out.cell 11) hk, kp_kc2 (D6.out.cell 12) hk, kp_kc2 (D6.out.cell 13) hk, kp_kc2 (D8.out.cell 0) hk, kp_kc2 (D8.out.cell 1) hk, kp_kc2 (D8.out.cell 2) hk, kp_kc2 (D8.out.cell 3) hk, kp_kc2 (D8.out.cell 4) hk, kp_kc2 (D8.out.cell 5) hk, kp_kc2 (D8.out.cell 6) hk, kp_kc2 (D8.out.cell 7) hk, kp_kc2 (D8.out.cell 8) hk, kp_kc2 (D8.out.cell 9) hk, kp_kc2 (D8.out.cell 10) hk, kp_kc2 (D8.out.cell 11) hk, kp_kc2 (D8.out.cell 12) hk, kp_kc2 (D8.out.cell 13) hk, kp_kc2 (B5.out.cell 0) hk, kp_kc2 (B5.out.cell 1) hk, kp_kc2 (B5.out.cell 2) hk, kp_kc2 (B5.out.cell 3) hk, kp_kc2 (B5.out.cell 4) hk, kp_kc2 (B5.out.cell 5) hk⟩
    have KEEP := Lib.hid keep
    have KC := Lib.hid ((Kp.refl (fun _ => False) w0).drew)
    obtain ⟨p, hp⟩ : ∃ p, macEq m0 mm = p := ⟨_, rfl⟩
    obtain ⟨q, hq⟩ : ∃ q, macEq m0 (fun _ => 255) = q := ⟨_, rfl⟩
    have h1 := fun w => run_eql_mac w m0 mm
    have h2 := fun w => run_eql_mac w m0 (fun _ => 255)
    rw [hp] at h1
    rw [hq] at h2
    have h1 : ∀ w, (binOp .eql 73 (.agg #[.int .u8 0, .int .u8 0, .int .u8 0, .int .u8 0, .int .u8 0, .int .u8 0]) (.agg #[.int .u8 (mm 0), .int .u8 (mm 1), .int .u8 (mm 2), .int .u8 (mm 3), .int .u8 (mm 4), .int .u8 (mm 5)])).run Tryd.prog w = .ok (.bool p) w := h1
    have h2 : ∀ w, (binOp .eql 73 (.agg #[.int .u8 0, .int .u8 0, .int .u8 0, .int .u8 0, .int .u8 0, .int .u8 0]) (.agg #[.int .u8 255, .int .u8 255, .int .u8 255, .int .u8 255, .int .u8 255, .int .u8 255])).run Tryd.prog w = .ok (.bool q) w := h2
    have his : ∀ w', Kp (fun _ => False) w0 w' → Calls Tryd.prog 49 #[(.iface 109 x3), .agg #[.slice A4 1 c4, .int .i64 (errCode n)]] w' fun ev w'' => ev = .returned (.bool true) ∧ Kp (fun _ => False) w' w'' := fun w' hk => is_chain 1 (errCode n) _ A4 c4 w' (E5.out.kept hk (fun x => x)) (C5.out.none_kept hk) (errCode_ne n) (R4.out.kp hk (fun _ _ _ x => x)) hc4
    have hof : ∀ w', Kp (fun _ => False) w0 w' → Calls Tryd.prog 51 #[.agg #[.int .u8 0, .int .u8 0, .int .u8 0, .int .u8 0, .int .u8 0, .int .u8 0, .int .u8 0, .int .u8 0, .int .u8 0, .int .u8 0, .int .u8 0, .int .u8 0, .int .u16 0, .slice none 0 0]] w' fun ev w'' => ∃ A9 c9, ev = .returned (.agg #[.int .u8 0, .int .u8 0, .int .u8 0, .int .u8 0, .int .u8 0, .int .u8 0, .int .u8 0, .int .u8 0, .int .u8 0, .int .u8 0, .int .u8 0, .int .u8 0, .int .u16 0, .slice A9 0 c9]) ∧ RdI w'' .u8 A9 [] ∧ Kp (fun _ => False) w' w'' := fun w' hk => by
      refine (of_frm m0 m0 0 none 0 0 [] w' (⟨by simp, .inl rfl⟩) (show 0 = ([] : List Int).length from rfl) (by omega) (fun _ => rfl)).mono ?_
      rintro ev w'' ⟨A9, c9, rfl, own, kk⟩
      exact ⟨A9, c9, rfl, own_rd2 own, kk⟩
    have hrs : ∀ w' A9 c9, Kp (fun _ => False) w0 w' → RdI w' .u8 A9 [] → Calls Tryd.prog 50 #[.agg #[.int .u8 0, .int .u8 0, .int .u8 0, .int .u8 0, .int .u8 0, .int .u8 0, .int .u8 0, .int .u8 0, .int .u8 0, .int .u8 0, .int .u8 0, .int .u8 0, .int .u16 0, .slice A9 0 c9], .agg #[.int .u8 0, .int .u8 0, .int .u8 0, .int .u8 0, .int .u8 0, .int .u8 0, .int .u8 0, .int .u8 0, .int .u8 0, .int .u8 0, .int .u8 0, .int .u8 0, .int .u16 0, .slice none 0 0]] w' fun ev w'' => ev = .returned (.bool true) ∧ Kp (fun _ => False) w' w'' := fun w' A9 c9 hk hr => by
      refine (refSame_any m0 m0 m0 m0 0 0 A9 none 0 c9 0 0 [] [] w' hr (⟨by simp, .inl rfl⟩) (show 0 = ([] : List Int).length from rfl).symm (show 0 = ([] : List Int).length from rfl).symm (byt_of _ (by decide)) (byt_of _ (by decide))).mono ?_
      rintro ev w'' ⟨rfl, kk⟩
      refine ⟨?_, kk⟩
      have e1 := (macEq_iff m0 m0).2 (fun _ _ => rfl)
      have e2 := (macEq_iff m0 m0).2 (fun _ _ => rfl)
      simp [e1, e2]
    have hfo : ∀ w', Calls Tryd.prog 52 #[.agg #[.int .u8 0, .int .u8 0, .int .u8 0, .int .u8 0, .int .u8 0, .int .u8 0, .int .u8 0, .int .u8 0, .int .u8 0, .int .u8 0, .int .u8 0, .int .u8 0, .int .u16 0, .slice none 0 0], .agg #[.int .u8 (mm 0), .int .u8 (mm 1), .int .u8 (mm 2), .int .u8 (mm 3), .int .u8 (mm 4), .int .u8 (mm 5)]] w' fun ev w'' => ev = .returned (.bool (p || q)) ∧ Kp (fun _ => False) w' w'' := fun w' => by
      have := for_any m0 m0 mm 0 (.slice none 0 0) w'
      rw [hp, hq] at this
      exact this
    have HIS := Lib.hid his
    have HOF := Lib.hid hof
    have HRS := Lib.hid hrs
    have HFO := Lib.hid hfo
    clear keep his hof hrs hfo hp hq
    cases p
    · refine wp_region_held_drew (S := (fun w' => Kp (fun _ => False) w0 w' ∧ w'.cell? ⟨g9, 0, none⟩ = some (Value.slice A4 1 c4) ∧ w'.cell? ⟨g9, 1, none⟩ = some (Value.int .i64 (errCode n)) ∧ w'.cell? ⟨g6, 0, none⟩ = some (Value.int IntKind.u8 0) ∧ w'.cell? ⟨g6, 1, none⟩ = some (Value.int IntKind.u8 0) ∧ w'.cell? ⟨g6, 2, none⟩ = some (Value.int IntKind.u8 0) ∧ w'.cell? ⟨g6, 3, none⟩ = some (Value.int IntKind.u8 0) ∧ w'.cell? ⟨g6, 4, none⟩ = some (Value.int IntKind.u8 0) ∧ w'.cell? ⟨g6, 5, none⟩ = some (Value.int IntKind.u8 0) ∧ w'.cell? ⟨g6, 6, none⟩ = some (Value.int IntKind.u8 0) ∧ w'.cell? ⟨g6, 7, none⟩ = some (Value.int IntKind.u8 0) ∧ w'.cell? ⟨g6, 8, none⟩ = some (Value.int IntKind.u8 0) ∧ w'.cell? ⟨g6, 9, none⟩ = some (Value.int IntKind.u8 0) ∧ w'.cell? ⟨g6, 10, none⟩ = some (Value.int IntKind.u8 0) ∧ w'.cell? ⟨g6, 11, none⟩ = some (Value.int IntKind.u8 0) ∧ w'.cell? ⟨g6, 12, none⟩ = some (Value.int IntKind.u16 0) ∧ w'.cell? ⟨g6, 13, none⟩ = some (Value.slice none 0 0) ∧ w'.cell? ⟨g8, 0, none⟩ = some (Value.int IntKind.u8 0) ∧ w'.cell? ⟨g8, 1, none⟩ = some (Value.int IntKind.u8 0) ∧ w'.cell? ⟨g8, 2, none⟩ = some (Value.int IntKind.u8 0) ∧ w'.cell? ⟨g8, 3, none⟩ = some (Value.int IntKind.u8 0) ∧ w'.cell? ⟨g8, 4, none⟩ = some (Value.int IntKind.u8 0) ∧ w'.cell? ⟨g8, 5, none⟩ = some (Value.int IntKind.u8 0) ∧ w'.cell? ⟨g8, 6, none⟩ = some (Value.int IntKind.u8 0) ∧ w'.cell? ⟨g8, 7, none⟩ = some (Value.int IntKind.u8 0) ∧ w'.cell? ⟨g8, 8, none⟩ = some (Value.int IntKind.u8 0) ∧ w'.cell? ⟨g8, 9, none⟩ = some (Value.int IntKind.u8 0) ∧ w'.cell? ⟨g8, 10, none⟩ = some (Value.int IntKind.u8 0) ∧ w'.cell? ⟨g8, 11, none⟩ = some (Value.int IntKind.u8 0) ∧ w'.cell? ⟨g8, 12, none⟩ = some (Value.int IntKind.u16 0) ∧ w'.cell? ⟨g8, 13, none⟩ = some (Value.slice none 0 0) ∧ w'.cell? ⟨w.heap.size, 0, none⟩ = some (Value.int IntKind.u8 (mm 0)) ∧ w'.cell? ⟨w.heap.size, 1, none⟩ = some (Value.int IntKind.u8 (mm 1)) ∧ w'.cell? ⟨w.heap.size, 2, none⟩ = some (Value.int IntKind.u8 (mm 2)) ∧ w'.cell? ⟨w.heap.size, 3, none⟩ = some (Value.int IntKind.u8 (mm 3)) ∧ w'.cell? ⟨w.heap.size, 4, none⟩ = some (Value.int IntKind.u8 (mm 4)) ∧ w'.cell? ⟨w.heap.size, 5, none⟩ = some (Value.int IntKind.u8 (mm 5)))) (by kernel_rfl) (KEEP.out _ KC.out) (fun hHeld => ?_)
      refine wpAnyH_take (i := 0) (v := ?v0_0) rfl (by kernel_rfl) (by kernel_rfl) (by kernel_rfl) (fun _ _ _ h => h) (Or.inl ⟨by rfl, ?y0_0⟩) (by assumption) ?r0_0
      case y0_0 => (intro w hSw; (try dsimp only at hSw); go_simp; first | done | with_reducible rfl)
      try simp only [Act.put, List.getElem_toArray, List.getElem_cons_succ, List.getElem_cons_zero, List.setIfInBounds_toArray, List.set_cons_zero, List.set_cons_succ]
      refine wpAnyH_take (i := 1) (v := ?v1_1) rfl (by kernel_rfl) (by kernel_rfl) (by kernel_rfl) (fun _ _ _ h => h) (Or.inl ⟨by rfl, ?y1_1⟩) (by assumption) ?r1_1
      case y1_1 => (intro w hSw; (try dsimp only at hSw); go_simp; first | done | with_reducible rfl)
      try simp only [Act.put, List.getElem_toArray, List.getElem_cons_succ, List.getElem_cons_zero, List.setIfInBounds_toArray, List.set_cons_zero, List.set_cons_succ]
      refine wpAnyH_ready (rs := [2]) (by kernel_rfl) (by simp) ?_
      refine AllReadyH.cons rfl (fun K hK => ?_) AllReadyH.nil
      go_simp
      with_reducible refine (HIS.out _ KC.out).mono ?_
      rintro ev w9 ⟨rfl, k9⟩
      have KC := Lib.hid (KC.out.trans' k9)
      clear k9
      try dsimp only
      refine hK.out _ _ (KEEP.out _ KC.out) (fun hHeld => ?_)
      clear hK K
      try simp only [Act.put, List.getElem_toArray, List.getElem_cons_succ, List.getElem_cons_zero, List.setIfInBounds_toArray, List.set_cons_zero, List.set_cons_succ]
      refine wpAnyH_take (i := 3) (v := ?v3_2) rfl (by kernel_rfl) (by kernel_rfl) (by kernel_rfl) (fun _ _ _ h => h) (Or.inl ⟨by rfl, ?y3_2⟩) (by assumption) ?r3_2
      case y3_2 => (intro w hSw; (try dsimp only at hSw); go_simp; first | done | with_reducible rfl)
      try simp only [Act.put, List.getElem_toArray, List.getElem_cons_succ, List.getElem_cons_zero, List.setIfInBounds_toArray, List.set_cons_zero, List.set_cons_succ]
      refine wpAnyH_take (i := 4) (v := ?v4_3) rfl (by kernel_rfl) (by kernel_rfl) (by kernel_rfl) (fun _ _ _ h => h) (Or.inl ⟨by rfl, ?y4_3⟩) (by assumption) ?r4_3
      case y4_3 => (intro w hSw; (try dsimp only at hSw); go_simp; first | done | with_reducible rfl)
      try simp only [Act.put, List.getElem_toArray, List.getElem_cons_succ, List.getElem_cons_zero, List.setIfInBounds_toArray, List.set_cons_zero, List.set_cons_succ]
      refine wpAnyH_take (i := 5) (v := ?v5_4) rfl (by kernel_rfl) (by kernel_rfl) (by kernel_rfl) (fun _ _ _ h => h) (Or.inl ⟨by rfl, ?y5_4⟩) (by assumption) ?r5_4
      case y5_4 => (intro w hSw; (try dsimp only at hSw); go_simp; first | done | with_reducible rfl)
      try simp only [Act.put, List.getElem_toArray, List.getElem_cons_succ, List.getElem_cons_zero, List.setIfInBounds_toArray, List.set_cons_zero, List.set_cons_succ]
      refine wpAnyH_take (i := 7) (v := ?v7_5) rfl (by kernel_rfl) (by kernel_rfl) (by kernel_rfl) (fun _ _ _ h => h) (Or.inl ⟨by rfl, ?y7_5⟩) (by assumption) ?r7_5
      case y7_5 => (intro w hSw; (try dsimp only at hSw); go_simp; first | done | with_reducible rfl)
      try simp only [Act.put, List.getElem_toArray, List.getElem_cons_succ, List.getElem_cons_zero, List.setIfInBounds_toArray, List.set_cons_zero, List.set_cons_succ]
      refine wpAnyH_ready (rs := [6]) (by kernel_rfl) (by simp) ?_
      refine AllReadyH.cons rfl (fun K hK => ?_) AllReadyH.nil
      go_simp
      with_reducible refine (HOF.out _ KC.out).mono ?_
      rintro ev w9 ⟨A9, c9, rfl, r9, k9⟩
      have KC := Lib.hid (KC.out.trans' k9)
      have R9 := Lib.hid r9
      clear k9 r9
      try dsimp only
      refine hK.out _ _ (KEEP.out _ KC.out) (fun hHeld => ?_)
      clear hK K
      try simp only [Act.put, List.getElem_toArray, List.getElem_cons_succ, List.getElem_cons_zero, List.setIfInBounds_toArray, List.set_cons_zero, List.set_cons_succ]
      refine wpAnyH_ready (rs := [8]) (by kernel_rfl) (by simp) ?_
      refine AllReadyH.cons rfl (fun K hK => ?_) AllReadyH.nil
      go_simp
      with_reducible refine (HRS.out _ A9 c9 KC.out R9.out).mono ?_
      rintro ev w9 ⟨rfl, k9⟩
      have KC := Lib.hid (KC.out.trans' k9)
      clear k9
      try dsimp only
      refine hK.out _ _ (KEEP.out _ KC.out) (fun hHeld => ?_)
      clear hK K
      try simp only [Act.put, List.getElem_toArray, List.getElem_cons_succ, List.getElem_cons_zero, List.setIfInBounds_toArray, List.set_cons_zero, List.set_cons_succ]
      refine wpAnyH_take (i := 9) (v := ?v9_6) rfl (by kernel_rfl) (by kernel_rfl) (by kernel_rfl) (fun _ _ _ h => h) (Or.inl ⟨by rfl, ?y9_6⟩) (by assumption) ?r9_6
      case y9_6 => (intro w hSw; (try dsimp only at hSw); go_simp; first | done | with_reducible rfl)
      try simp only [Act.put, List.getElem_toArray, List.getElem_cons_succ, List.getElem_cons_zero, List.setIfInBounds_toArray, List.set_cons_zero, List.set_cons_succ]
      refine wpAnyH_take (i := 10) (v := ?v10_7) rfl (by kernel_rfl) (by kernel_rfl) (by kernel_rfl) (fun _ _ _ h => h) (Or.inl ⟨by rfl, ?y10_7⟩) (by assumption) ?r10_7
      case y10_7 => (intro w hSw; (try dsimp only at hSw); go_simp; first | done | with_reducible rfl)
      try simp only [Act.put, List.getElem_toArray, List.getElem_cons_succ, List.getElem_cons_zero, List.setIfInBounds_toArray, List.set_cons_zero, List.set_cons_succ]
      refine wpAnyH_take (i := 11) (v := ?v11_8) rfl (by kernel_rfl) (by kernel_rfl) (by kernel_rfl) (fun _ _ _ h => h) (Or.inl ⟨by rfl, ?y11_8⟩) (by assumption) ?r11_8
      case y11_8 => (intro w hSw; (try dsimp only at hSw); go_simp; first | done | with_reducible rfl)
      try simp only [Act.put, List.getElem_toArray, List.getElem_cons_succ, List.getElem_cons_zero, List.setIfInBounds_toArray, List.set_cons_zero, List.set_cons_succ]
      refine wpAnyH_take (i := 12) (v := ?v12_9) rfl (by kernel_rfl) (by kernel_rfl) (by kernel_rfl) (fun _ _ _ h => h) (Or.inl ⟨by rfl, ?y12_9⟩) (by assumption) ?r12_9
      case y12_9 => (intro w hSw; (try dsimp only at hSw); go_simp; first | done | with_reducible rfl)
      try simp only [Act.put, List.getElem_toArray, List.getElem_cons_succ, List.getElem_cons_zero, List.setIfInBounds_toArray, List.set_cons_zero, List.set_cons_succ]
      refine wpAnyH_take (i := 13) (v := ?v13_10) rfl (by kernel_rfl) (by kernel_rfl) (by kernel_rfl) (fun _ _ _ h => h) (Or.inl ⟨by rfl, ?y13_10⟩) (by assumption) ?r13_10
      case y13_10 => (intro w hSw; (try dsimp only at hSw); go_simp; first | done | with_reducible rfl)
      try simp only [Act.put, List.getElem_toArray, List.getElem_cons_succ, List.getElem_cons_zero, List.setIfInBounds_toArray, List.set_cons_zero, List.set_cons_succ]
      refine wpAnyH_take (i := 15) (v := ?v15_11) rfl (by kernel_rfl) (by kernel_rfl) (by kernel_rfl) (fun _ _ _ h => h) (Or.inl ⟨by rfl, ?y15_11⟩) (by assumption) ?r15_11
      case y15_11 => (intro w hSw; (try dsimp only at hSw); go_simp; first | done | with_reducible rfl)
      try simp only [Act.put, List.getElem_toArray, List.getElem_cons_succ, List.getElem_cons_zero, List.setIfInBounds_toArray, List.set_cons_zero, List.set_cons_succ]
      refine wpAnyH_take (i := 16) (v := ?v16_12) rfl (by kernel_rfl) (by kernel_rfl) (by kernel_rfl) (fun _ _ _ h => h) (Or.inl ⟨by rfl, ?y16_12⟩) (by assumption) ?r16_12
      case y16_12 => (intro w hSw; (try dsimp only at hSw); go_simp; first | done | with_reducible rfl)
      try simp only [Act.put, List.getElem_toArray, List.getElem_cons_succ, List.getElem_cons_zero, List.setIfInBounds_toArray, List.set_cons_zero, List.set_cons_succ]
      refine wpAnyH_take (i := 17) (v := ?v17_13) rfl (by kernel_rfl) (by kernel_rfl) (by kernel_rfl) (fun _ _ _ h => h) (Or.inl ⟨by rfl, ?y17_13⟩) (by assumption) ?r17_13
      case y17_13 => (intro w hSw; (try dsimp only at hSw); go_simp; first | done | with_reducible rfl)
      try simp only [Act.put, List.getElem_toArray, List.getElem_cons_succ, List.getElem_cons_zero, List.setIfInBounds_toArray, List.set_cons_zero, List.set_cons_succ]
      refine wpAnyH_take (i := 18) (v := ?v18_14) rfl (by kernel_rfl) (by kernel_rfl) (by kernel_rfl) (fun _ _ _ h => h) (Or.inl ⟨by rfl, ?y18_14⟩) (by assumption) ?r18_14
      case y18_14 => (intro w hSw; (try dsimp only at hSw); go_simp; first | done | with_reducible rfl)
      try simp only [Act.put, List.getElem_toArray, List.getElem_cons_succ, List.getElem_cons_zero, List.setIfInBounds_toArray, List.set_cons_zero, List.set_cons_succ]
      refine wpAnyH_ready (rs := [14]) (by kernel_rfl) (by simp) ?_
      refine AllReadyH.cons rfl (fun K hK => ?_) AllReadyH.nil
      go_simp
      with_reducible refine (HFO.out _).mono ?_
      simp only [Bool.true_or, Bool.false_or]
      rintro ev w9 ⟨rfl, k9⟩
      have KC := Lib.hid (KC.out.trans' k9)
      clear k9
      try dsimp only
      refine hK.out _ _ (KEEP.out _ KC.out) (fun hHeld => ?_)
      clear hK K
      try simp only [Act.put, List.getElem_toArray, List.getElem_cons_succ, List.getElem_cons_zero, List.setIfInBounds_toArray, List.set_cons_zero, List.set_cons_succ]
      refine wpAnyH_take (i := 19) (v := ?v19_15) rfl (by kernel_rfl) (by kernel_rfl) (by kernel_rfl) (fun _ _ _ h => h) (Or.inl ⟨by rfl, ?y19_15⟩) (by assumption) ?r19_15
      case y19_15 => (intro w hSw; (try dsimp only at hSw); go_simp; first | done | with_reducible rfl)
      try simp only [Act.put, List.getElem_toArray, List.getElem_cons_succ, List.getElem_cons_zero, List.setIfInBounds_toArray, List.set_cons_zero, List.set_cons_succ]
      refine wpAnyH_take (i := 20) (v := ?v20_16) rfl (by kernel_rfl) (by kernel_rfl) (by kernel_rfl) (fun _ _ _ h => h) (Or.inl ⟨by rfl, ?y20_16⟩) (by assumption) ?r20_16
      case y20_16 => (intro w hSw; (try dsimp only at hSw); go_simp; first | done | with_reducible rfl)
      try simp only [Act.put, List.getElem_toArray, List.getElem_cons_succ, List.getElem_cons_zero, List.setIfInBounds_toArray, List.set_cons_zero, List.set_cons_succ]
      refine wpAnyH_take (i := 21) (v := ?v21_17) rfl (by kernel_rfl) (by kernel_rfl) (by kernel_rfl) (fun _ _ _ h => h) (Or.inl ⟨by rfl, ?y21_17⟩) (by assumption) ?r21_17
      case y21_17 => (intro w hSw; (try dsimp only at hSw); go_simp; first | done | with_reducible rfl)
      try simp only [Act.put, List.getElem_toArray, List.getElem_cons_succ, List.getElem_cons_zero, List.setIfInBounds_toArray, List.set_cons_zero, List.set_cons_succ]
      refine wpAnyH_take (i := 22) (v := ?v22_18) rfl (by kernel_rfl) (by kernel_rfl) (by kernel_rfl) (fun _ _ _ h => h) (Or.inl ⟨by rfl, ?y22_18⟩) (by assumption) ?r22_18
      case y22_18 => (intro w hSw; (try dsimp only at hSw); go_simp; first | done | with_reducible rfl)
      try simp only [Act.put, List.getElem_toArray, List.getElem_cons_succ, List.getElem_cons_zero, List.setIfInBounds_toArray, List.set_cons_zero, List.set_cons_succ]
      refine wpAnyH_take (i := 23) (v := ?v23_19) rfl (by kernel_rfl) (by kernel_rfl) (by kernel_rfl) (fun _ _ _ h => h) (Or.inl ⟨by rfl, ?y23_19⟩) (by assumption) ?r23_19
      case y23_19 => (intro w hSw; (try dsimp only at hSw); go_simp; first | done | with_reducible rfl)
      try simp only [Act.put, List.getElem_toArray, List.getElem_cons_succ, List.getElem_cons_zero, List.setIfInBounds_toArray, List.set_cons_zero, List.set_cons_succ]
      refine wpAnyH_take (i := 24) (v := ?v24_20) rfl (by kernel_rfl) (by kernel_rfl) (by kernel_rfl) (fun _ _ _ h => h) (Or.inl ⟨by rfl, ?y24_20⟩) (by assumption) ?r24_20
      case y24_20 => (intro w hSw; (try dsimp only at hSw); go_simp; first | done | with_reducible rfl)
      try simp only [Act.put, List.getElem_toArray, List.getElem_cons_succ, List.getElem_cons_zero, List.setIfInBounds_toArray, List.set_cons_zero, List.set_cons_succ]
      refine wpAnyH_take (i := 25) (v := ?v25_21) rfl (by kernel_rfl) (by kernel_rfl) (by kernel_rfl) (fun _ _ _ h => h) (Or.inl ⟨by rfl, ?y25_21⟩) (by assumption) ?r25_21
      case y25_21 => (intro w hSw; (try dsimp only at hSw); go_simp; first | done | with_reducible rfl)
      try simp only [Act.put, List.getElem_toArray, List.getElem_cons_succ, List.getElem_cons_zero, List.setIfInBounds_toArray, List.set_cons_zero, List.set_cons_succ]
      refine wpAnyH_take (i := 26) (v := ?v26_22) rfl (by kernel_rfl) (by kernel_rfl) (by kernel_rfl) (fun _ _ _ h => h) (Or.inl ⟨by rfl, ?y26_22⟩) (by assumption) ?r26_22
      case y26_22 => (intro w hSw; (try dsimp only at hSw); go_simp; first | done | with_reducible rfl)
      try simp only [Act.put, List.getElem_toArray, List.getElem_cons_succ, List.getElem_cons_zero, List.setIfInBounds_toArray, List.set_cons_zero, List.set_cons_succ]
      refine wpAnyH_done (by kernel_rfl) ?_ _
      go_wp2_with fail
      go_meet
      exact ⟨by simp, KC.out⟩
    · refine wp_region_held_drew (S := (fun w' => Kp (fun _ => False) w0 w' ∧ w'.cell? ⟨g9, 0, none⟩ = some (Value.slice A4 1 c4) ∧ w'.cell? ⟨g9, 1, none⟩ = some (Value.int .i64 (errCode n)) ∧ w'.cell? ⟨g6, 0, none⟩ = some (Value.int IntKind.u8 0) ∧ w'.cell? ⟨g6, 1, none⟩ = some (Value.int IntKind.u8 0) ∧ w'.cell? ⟨g6, 2, none⟩ = some (Value.int IntKind.u8 0) ∧ w'.cell? ⟨g6, 3, none⟩ = some (Value.int IntKind.u8 0) ∧ w'.cell? ⟨g6, 4, none⟩ = some (Value.int IntKind.u8 0) ∧ w'.cell? ⟨g6, 5, none⟩ = some (Value.int IntKind.u8 0) ∧ w'.cell? ⟨g6, 6, none⟩ = some (Value.int IntKind.u8 0) ∧ w'.cell? ⟨g6, 7, none⟩ = some (Value.int IntKind.u8 0) ∧ w'.cell? ⟨g6, 8, none⟩ = some (Value.int IntKind.u8 0) ∧ w'.cell? ⟨g6, 9, none⟩ = some (Value.int IntKind.u8 0) ∧ w'.cell? ⟨g6, 10, none⟩ = some (Value.int IntKind.u8 0) ∧ w'.cell? ⟨g6, 11, none⟩ = some (Value.int IntKind.u8 0) ∧ w'.cell? ⟨g6, 12, none⟩ = some (Value.int IntKind.u16 0) ∧ w'.cell? ⟨g6, 13, none⟩ = some (Value.slice none 0 0) ∧ w'.cell? ⟨g8, 0, none⟩ = some (Value.int IntKind.u8 0) ∧ w'.cell? ⟨g8, 1, none⟩ = some (Value.int IntKind.u8 0) ∧ w'.cell? ⟨g8, 2, none⟩ = some (Value.int IntKind.u8 0) ∧ w'.cell? ⟨g8, 3, none⟩ = some (Value.int IntKind.u8 0) ∧ w'.cell? ⟨g8, 4, none⟩ = some (Value.int IntKind.u8 0) ∧ w'.cell? ⟨g8, 5, none⟩ = some (Value.int IntKind.u8 0) ∧ w'.cell? ⟨g8, 6, none⟩ = some (Value.int IntKind.u8 0) ∧ w'.cell? ⟨g8, 7, none⟩ = some (Value.int IntKind.u8 0) ∧ w'.cell? ⟨g8, 8, none⟩ = some (Value.int IntKind.u8 0) ∧ w'.cell? ⟨g8, 9, none⟩ = some (Value.int IntKind.u8 0) ∧ w'.cell? ⟨g8, 10, none⟩ = some (Value.int IntKind.u8 0) ∧ w'.cell? ⟨g8, 11, none⟩ = some (Value.int IntKind.u8 0) ∧ w'.cell? ⟨g8, 12, none⟩ = some (Value.int IntKind.u16 0) ∧ w'.cell? ⟨g8, 13, none⟩ = some (Value.slice none 0 0) ∧ w'.cell? ⟨w.heap.size, 0, none⟩ = some (Value.int IntKind.u8 (mm 0)) ∧ w'.cell? ⟨w.heap.size, 1, none⟩ = some (Value.int IntKind.u8 (mm 1)) ∧ w'.cell? ⟨w.heap.size, 2, none⟩ = some (Value.int IntKind.u8 (mm 2)) ∧ w'.cell? ⟨w.heap.size, 3, none⟩ = some (Value.int IntKind.u8 (mm 3)) ∧ w'.cell? ⟨w.heap.size, 4, none⟩ = some (Value.int IntKind.u8 (mm 4)) ∧ w'.cell? ⟨w.heap.size, 5, none⟩ = some (Value.int IntKind.u8 (mm 5)))) (by kernel_rfl) (KEEP.out _ KC.out) (fun hHeld => ?_)
      refine wpAnyH_take (i := 0) (v := ?v0_23) rfl (by kernel_rfl) (by kernel_rfl) (by kernel_rfl) (fun _ _ _ h => h) (Or.inl ⟨by rfl, ?y0_23⟩) (by assumption) ?r0_23
      case y0_23 => (intro w hSw; (try dsimp only at hSw); go_simp; first | done | with_reducible rfl)
      try simp only [Act.put, List.getElem_toArray, List.getElem_cons_succ, List.getElem_cons_zero, List.setIfInBounds_toArray, List.set_cons_zero, List.set_cons_succ]
      refine wpAnyH_take (i := 1) (v := ?v1_24) rfl (by kernel_rfl) (by kernel_rfl) (by kernel_rfl) (fun _ _ _ h => h) (Or.inl ⟨by rfl, ?y1_24⟩) (by assumption) ?r1_24
      case y1_24 => (intro w hSw; (try dsimp only at hSw); go_simp; first | done | with_reducible rfl)
      try simp only [Act.put, List.getElem_toArray, List.getElem_cons_succ, List.getElem_cons_zero, List.setIfInBounds_toArray, List.set_cons_zero, List.set_cons_succ]
      refine wpAnyH_ready (rs := [2]) (by kernel_rfl) (by simp) ?_
      refine AllReadyH.cons rfl (fun K hK => ?_) AllReadyH.nil
      go_simp
      with_reducible refine (HIS.out _ KC.out).mono ?_
      rintro ev w9 ⟨rfl, k9⟩
      have KC := Lib.hid (KC.out.trans' k9)
      clear k9
      try dsimp only
      refine hK.out _ _ (KEEP.out _ KC.out) (fun hHeld => ?_)
      clear hK K
      try simp only [Act.put, List.getElem_toArray, List.getElem_cons_succ, List.getElem_cons_zero, List.setIfInBounds_toArray, List.set_cons_zero, List.set_cons_succ]
      refine wpAnyH_take (i := 3) (v := ?v3_25) rfl (by kernel_rfl) (by kernel_rfl) (by kernel_rfl) (fun _ _ _ h => h) (Or.inl ⟨by rfl, ?y3_25⟩) (by assumption) ?r3_25
      case y3_25 => (intro w hSw; (try dsimp only at hSw); go_simp; first | done | with_reducible rfl)
      try simp only [Act.put, List.getElem_toArray, List.getElem_cons_succ, List.getElem_cons_zero, List.setIfInBounds_toArray, List.set_cons_zero, List.set_cons_succ]
      refine wpAnyH_take (i := 4) (v := ?v4_26) rfl (by kernel_rfl) (by kernel_rfl) (by kernel_rfl) (fun _ _ _ h => h) (Or.inl ⟨by rfl, ?y4_26⟩) (by assumption) ?r4_26
      case y4_26 => (intro w hSw; (try dsimp only at hSw); go_simp; first | done | with_reducible rfl)
      try simp only [Act.put, List.getElem_toArray, List.getElem_cons_succ, List.getElem_cons_zero, List.setIfInBounds_toArray, List.set_cons_zero, List.set_cons_succ]
      refine wpAnyH_take (i := 5) (v := ?v5_27) rfl (by kernel_rfl) (by kernel_rfl) (by kernel_rfl) (fun _ _ _ h => h) (Or.inl ⟨by rfl, ?y5_27⟩) (by assumption) ?r5_27
      case y5_27 => (intro w hSw; (try dsimp only at hSw); go_simp; first | done | with_reducible rfl)
      try simp only [Act.put, List.getElem_toArray, List.getElem_cons_succ, List.getElem_cons_zero, List.setIfInBounds_toArray, List.set_cons_zero, List.set_cons_succ]
      refine wpAnyH_take (i := 7) (v := ?v7_28) rfl (by kernel_rfl) (by kernel_rfl) (by kernel_rfl) (fun _ _ _ h => h) (Or.inl ⟨by rfl, ?y7_28⟩) (by assumption) ?r7_28
      case y7_28 => (intro w hSw; (try dsimp only at hSw); go_simp; first | done | with_reducible rfl)
      try simp only [Act.put, List.getElem_toArray, List.getElem_cons_succ, List.getElem_cons_zero, List.setIfInBounds_toArray, List.set_cons_zero, List.set_cons_succ]
      refine wpAnyH_ready (rs := [6]) (by kernel_rfl) (by simp) ?_
      refine AllReadyH.cons rfl (fun K hK => ?_) AllReadyH.nil
      go_simp
      with_reducible refine (HOF.out _ KC.out).mono ?_
      rintro ev w9 ⟨A9, c9, rfl, r9, k9⟩
      have KC := Lib.hid (KC.out.trans' k9)
      have R9 := Lib.hid r9
      clear k9 r9
      try dsimp only
      refine hK.out _ _ (KEEP.out _ KC.out) (fun hHeld => ?_)
      clear hK K
      try simp only [Act.put, List.getElem_toArray, List.getElem_cons_succ, List.getElem_cons_zero, List.setIfInBounds_toArray, List.set_cons_zero, List.set_cons_succ]
      refine wpAnyH_ready (rs := [8]) (by kernel_rfl) (by simp) ?_
      refine AllReadyH.cons rfl (fun K hK => ?_) AllReadyH.nil
      go_simp
      with_reducible refine (HRS.out _ A9 c9 KC.out R9.out).mono ?_
      rintro ev w9 ⟨rfl, k9⟩
      have KC := Lib.hid (KC.out.trans' k9)
      clear k9
      try dsimp only
      refine hK.out _ _ (KEEP.out _ KC.out) (fun hHeld => ?_)
      clear hK K
      try simp only [Act.put, List.getElem_toArray, List.getElem_cons_succ, List.getElem_cons_zero, List.setIfInBounds_toArray, List.set_cons_zero, List.set_cons_succ]
      refine wpAnyH_take (i := 9) (v := ?v9_29) rfl (by kernel_rfl) (by kernel_rfl) (by kernel_rfl) (fun _ _ _ h => h) (Or.inl ⟨by rfl, ?y9_29⟩) (by assumption) ?r9_29
      case y9_29 => (intro w hSw; (try dsimp only at hSw); go_simp; first | done | with_reducible rfl)
      try simp only [Act.put, List.getElem_toArray, List.getElem_cons_succ, List.getElem_cons_zero, List.setIfInBounds_toArray, List.set_cons_zero, List.set_cons_succ]
      refine wpAnyH_take (i := 10) (v := ?v10_30) rfl (by kernel_rfl) (by kernel_rfl) (by kernel_rfl) (fun _ _ _ h => h) (Or.inl ⟨by rfl, ?y10_30⟩) (by assumption) ?r10_30
      case y10_30 => (intro w hSw; (try dsimp only at hSw); go_simp; first | done | with_reducible rfl)
      try simp only [Act.put, List.getElem_toArray, List.getElem_cons_succ, List.getElem_cons_zero, List.setIfInBounds_toArray, List.set_cons_zero, List.set_cons_succ]
      refine wpAnyH_take (i := 11) (v := ?v11_31) rfl (by kernel_rfl) (by kernel_rfl) (by kernel_rfl) (fun _ _ _ h => h) (Or.inl ⟨by rfl, ?y11_31⟩) (by assumption) ?r11_31
      case y11_31 => (intro w hSw; (try dsimp only at hSw); go_simp; first | done | with_reducible rfl)
      try simp only [Act.put, List.getElem_toArray, List.getElem_cons_succ, List.getElem_cons_zero, List.setIfInBounds_toArray, List.set_cons_zero, List.set_cons_succ]
      refine wpAnyH_take (i := 12) (v := ?v12_32) rfl (by kernel_rfl) (by kernel_rfl) (by kernel_rfl) (fun _ _ _ h => h) (Or.inl ⟨by rfl, ?y12_32⟩) (by assumption) ?r12_32
      case y12_32 => (intro w hSw; (try dsimp only at hSw); go_simp; first | done | with_reducible rfl)
      try simp only [Act.put, List.getElem_toArray, List.getElem_cons_succ, List.getElem_cons_zero, List.setIfInBounds_toArray, List.set_cons_zero, List.set_cons_succ]
      refine wpAnyH_take (i := 13) (v := ?v13_33) rfl (by kernel_rfl) (by kernel_rfl) (by kernel_rfl) (fun _ _ _ h => h) (Or.inl ⟨by rfl, ?y13_33⟩) (by assumption) ?r13_33
      case y13_33 => (intro w hSw; (try dsimp only at hSw); go_simp; first | done | with_reducible rfl)
      try simp only [Act.put, List.getElem_toArray, List.getElem_cons_succ, List.getElem_cons_zero, List.setIfInBounds_toArray, List.set_cons_zero, List.set_cons_succ]
      refine wpAnyH_take (i := 15) (v := ?v15_34) rfl (by kernel_rfl) (by kernel_rfl) (by kernel_rfl) (fun _ _ _ h => h) (Or.inl ⟨by rfl, ?y15_34⟩) (by assumption) ?r15_34
      case y15_34 => (intro w hSw; (try dsimp only at hSw); go_simp; first | done | with_reducible rfl)
      try simp only [Act.put, List.getElem_toArray, List.getElem_cons_succ, List.getElem_cons_zero, List.setIfInBounds_toArray, List.set_cons_zero, List.set_cons_succ]
      refine wpAnyH_take (i := 16) (v := ?v16_35) rfl (by kernel_rfl) (by kernel_rfl) (by kernel_rfl) (fun _ _ _ h => h) (Or.inl ⟨by rfl, ?y16_35⟩) (by assumption) ?r16_35
      case y16_35 => (intro w hSw; (try dsimp only at hSw); go_simp; first | done | with_reducible rfl)
      try simp only [Act.put, List.getElem_toArray, List.getElem_cons_succ, List.getElem_cons_zero, List.setIfInBounds_toArray, List.set_cons_zero, List.set_cons_succ]
      refine wpAnyH_take (i := 17) (v := ?v17_36) rfl (by kernel_rfl) (by kernel_rfl) (by kernel_rfl) (fun _ _ _ h => h) (Or.inl ⟨by rfl, ?y17_36⟩) (by assumption) ?r17_36
      case y17_36 => (intro w hSw; (try dsimp only at hSw); go_simp; first | done | with_reducible rfl)
      try simp only [Act.put, List.getElem_toArray, List.getElem_cons_succ, List.getElem_cons_zero, List.setIfInBounds_toArray, List.set_cons_zero, List.set_cons_succ]
      refine wpAnyH_take (i := 18) (v := ?v18_37) rfl (by kernel_rfl) (by kernel_rfl) (by kernel_rfl) (fun _ _ _ h => h) (Or.inl ⟨by rfl, ?y18_37⟩) (by assumption) ?r18_37
      case y18_37 => (intro w hSw; (try dsimp only at hSw); go_simp; first | done | with_reducible rfl)
      try simp only [Act.put, List.getElem_toArray, List.getElem_cons_succ, List.getElem_cons_zero, List.setIfInBounds_toArray, List.set_cons_zero, List.set_cons_succ]
      refine wpAnyH_ready (rs := [14]) (by kernel_rfl) (by simp) ?_
      refine AllReadyH.cons rfl (fun K hK => ?_) AllReadyH.nil
      go_simp
      with_reducible refine (HFO.out _).mono ?_
      simp only [Bool.true_or, Bool.false_or]
      rintro ev w9 ⟨rfl, k9⟩
      have KC := Lib.hid (KC.out.trans' k9)
      clear k9
      try dsimp only
      refine hK.out _ _ (KEEP.out _ KC.out) (fun hHeld => ?_)
      clear hK K
      try simp only [Act.put, List.getElem_toArray, List.getElem_cons_succ, List.getElem_cons_zero, List.setIfInBounds_toArray, List.set_cons_zero, List.set_cons_succ]
      refine wpAnyH_take (i := 19) (v := ?v19_38) rfl (by kernel_rfl) (by kernel_rfl) (by kernel_rfl) (fun _ _ _ h => h) (Or.inl ⟨by rfl, ?y19_38⟩) (by assumption) ?r19_38
      case y19_38 => (intro w hSw; (try dsimp only at hSw); go_simp; first | done | with_reducible rfl)
      try simp only [Act.put, List.getElem_toArray, List.getElem_cons_succ, List.getElem_cons_zero, List.setIfInBounds_toArray, List.set_cons_zero, List.set_cons_succ]
      refine wpAnyH_take (i := 20) (v := undef) rfl (by kernel_rfl) (by kernel_rfl) (by kernel_rfl) (fun _ _ _ h => h) (Or.inr ⟨by rfl, rfl⟩) (by assumption) ?_
      try simp only [Act.put, List.getElem_toArray, List.getElem_cons_succ, List.getElem_cons_zero, List.setIfInBounds_toArray, List.set_cons_zero, List.set_cons_succ]
      refine wpAnyH_take (i := 21) (v := undef) rfl (by kernel_rfl) (by kernel_rfl) (by kernel_rfl) (fun _ _ _ h => h) (Or.inr ⟨by rfl, rfl⟩) (by assumption) ?_
      try simp only [Act.put, List.getElem_toArray, List.getElem_cons_succ, List.getElem_cons_zero, List.setIfInBounds_toArray, List.set_cons_zero, List.set_cons_succ]
      refine wpAnyH_take (i := 22) (v := undef) rfl (by kernel_rfl) (by kernel_rfl) (by kernel_rfl) (fun _ _ _ h => h) (Or.inr ⟨by rfl, rfl⟩) (by assumption) ?_
      try simp only [Act.put, List.getElem_toArray, List.getElem_cons_succ, List.getElem_cons_zero, List.setIfInBounds_toArray, List.set_cons_zero, List.set_cons_succ]
      refine wpAnyH_take (i := 23) (v := undef) rfl (by kernel_rfl) (by kernel_rfl) (by kernel_rfl) (fun _ _ _ h => h) (Or.inr ⟨by rfl, rfl⟩) (by assumption) ?_
      try simp only [Act.put, List.getElem_toArray, List.getElem_cons_succ, List.getElem_cons_zero, List.setIfInBounds_toArray, List.set_cons_zero, List.set_cons_succ]
      refine wpAnyH_take (i := 24) (v := ?v24_39) rfl (by kernel_rfl) (by kernel_rfl) (by kernel_rfl) (fun _ _ _ h => h) (Or.inl ⟨by rfl, ?y24_39⟩) (by assumption) ?r24_39
      case y24_39 => (intro w hSw; (try dsimp only at hSw); go_simp; first | done | with_reducible rfl)
      try simp only [Act.put, List.getElem_toArray, List.getElem_cons_succ, List.getElem_cons_zero, List.setIfInBounds_toArray, List.set_cons_zero, List.set_cons_succ]
      refine wpAnyH_take (i := 25) (v := ?v25_40) rfl (by kernel_rfl) (by kernel_rfl) (by kernel_rfl) (fun _ _ _ h => h) (Or.inl ⟨by rfl, ?y25_40⟩) (by assumption) ?r25_40
      case y25_40 => (intro w hSw; (try dsimp only at hSw); go_simp; first | done | with_reducible rfl)
      try simp only [Act.put, List.getElem_toArray, List.getElem_cons_succ, List.getElem_cons_zero, List.setIfInBounds_toArray, List.set_cons_zero, List.set_cons_succ]
      refine wpAnyH_take (i := 26) (v := ?v26_41) rfl (by kernel_rfl) (by kernel_rfl) (by kernel_rfl) (fun _ _ _ h => h) (Or.inl ⟨by rfl, ?y26_41⟩) (by assumption) ?r26_41
      case y26_41 => (intro w hSw; (try dsimp only at hSw); go_simp; first | done | with_reducible rfl)
      try simp only [Act.put, List.getElem_toArray, List.getElem_cons_succ, List.getElem_cons_zero, List.setIfInBounds_toArray, List.set_cons_zero, List.set_cons_succ]
      refine wpAnyH_done (by kernel_rfl) ?_ _
      go_wp2_with fail
      go_meet
      exact ⟨by simp, KC.out⟩
  case rest =>
    obtain ⟨rfl, hkc⟩ := hcut
    have d6 := D6.out.kept hkc (fun x => x)
    have q13 : _ = some (Value.slice none 0 0) := d6.cell 13
    have R6 := Lib.hid (R5.out.kp hkc (fun _ _ _ x => x))
    have B6 := Lib.hid (B5.out.kept hkc (fun x => x))
    have K6 := Lib.hid (K5.out.trans' hkc)
    have E6 := Lib.hid (E5.out.kept hkc (fun x => x))
    have X6 := Lib.hid (X5.out.kp hkc (fun _ _ _ x => x))
    clear d6 hkc
    go_wp2_with fail
    refine wp_loop_rounds 1 ?_
    rw [rounds_succ]
    go_wp2_with fail
    have hsb := sameBytes_any A5 A c5 c xs xs _ R6.out X6.out
    rw [HN.out] at hsb
    refine hsb.mono ?_
    rintro ev w7 ⟨rfl, nn, rfl⟩
    rw [show (xs == xs) = true by simp]
    clear hsb
    go_wp2_with fail
    go_ret
    exact ⟨rfl, K6.out.drewN nn⟩
set_option maxRecDepth 100000 in
set_option maxHeartbeats 60000000 in
theorem parses_good (A : Option Addr) (c : Nat) (xs : List Int) (mm : Nat → Int) (w : World) (hE : Et w) (hx : RdI w .u8 A xs) (hb : Byt xs) (h0 : A = none → c = 0) (hc : xs.length ≤ c) (hbad : ¬ Bad xs) :
    Calls Tryd.prog 11 #[.slice A xs.length c, .agg (mac mm)] w fun ev w' => ev = .returned (.bool true) ∧ Kp (fun _ => False) w w' := by
  obtain ⟨n, hn⟩ : ∃ n, xs.length = n := ⟨_, rfl⟩
  rw [hn] at hc ⊢
  have kA := (Kp.refl (fun _ => False) w).alloc (.cells (mac mm) 73)
  have HB0 := Lib.hid (Bk.new w 73 (mac mm))
  have HK := Lib.hid kA
  have HE := Lib.hid (hE.kept kA (fun x => x))
  have HX := Lib.hid (hx.kp kA (fun _ _ _ x => x))
  have HB := Lib.hid hb
  have HN := Lib.hid hn
  have H0 := Lib.hid h0
  have hAl : 0 < n → ∀ b o, A = some ⟨b, o, none⟩ → b < w.heap.size := by
    rintro hp b o rfl
    rcases hx.2 with h | ⟨b', o', hA, h⟩
    · omega
    · cases hA
      exact World.block_lt_of_cell? w _ (h 0 (by omega))
  have HAL := Lib.hid hAl
  clear kA hE hx hb hn h0 hAl
  go_enter Tryd.func11, Tryd.ntmps11
  go_wp2_with fail
  refine (alive05 _ HE.out).mono ?_
  rintro ev w1 ⟨rfl, k1⟩
  have B1 := Lib.hid (HB0.out.kept k1 (fun x => x))
  have K1 := Lib.hid (HK.out.trans' k1)
  have E1 := Lib.hid (HE.out.kept k1 (fun x => x))
  have X1 := Lib.hid (HX.out.kp k1 (fun _ _ _ x => x))
  clear k1
  generalize Value.agg (mac mm) = G1
  by_cases hbig : 3000 < n
  · have hbi : (3000 : Int) < (n : Int) := by omega
    go_wp2_with fail
    go_ret
    exact ⟨rfl, K1.out⟩
  have hbi : ¬ ((3000 : Int) < (n : Int)) := by omega
  go_wp2_with fail
  refine (ownB_any A n c xs _ X1.out HN.out.symm (by omega) H0.out).mono ?_
  rintro ev w2 ⟨s5, rfl, own5, k2⟩
  obtain ⟨A5, c5, rfl, hl5, r5, _⟩ := RdI.of_own (k := .u8) (xs := xs) own5
  have hc5 := own_cap own5
  have h5l : ∀ b o, A5 = some ⟨b, o, none⟩ → b < w2.heap.size := by
    rintro b o rfl
    exact (own5.lt b rfl).2
  have H5L := Lib.hid h5l
  have R2 := Lib.hid r5
  have B2 := Lib.hid (B1.out.kept k2 (fun x => x))
  have K2 := Lib.hid (K1.out.trans' k2)
  have E2 := Lib.hid (E1.out.kept k2 (fun x => x))
  have X2 := Lib.hid (X1.out.kp k2 (fun _ _ _ x => x))
  clear k2 own5 hl5 r5 h5l
  have hbad' := hbad
  unfold Bad at hbad'
  have hn' := HN.out
  have h14 : 14 ≤ n := by omega
  have h15 : n ≤ 1514 := by omega
  have hx0 := HB.out 6
  have hev : xs.getD 6 0 % 2 = 0 := by omega
  obtain ⟨t, ht⟩ : ∃ t : Nat → Int, ∀ i, i < 6 → xs.getD i 0 = t i := ⟨fun i => xs.getD i 0, fun _ _ => rfl⟩
  obtain ⟨f, hf⟩ : ∃ f : Nat → Int, ∀ i, i < 6 → xs.getD (6 + i) 0 = f i := ⟨fun i => xs.getD (6 + i) 0, fun _ _ => rfl⟩
  have hx12 := HB.out 12
  have hx13 := HB.out 13
  obtain ⟨k, hk⟩ : ∃ k : Nat, xs.getD 12 0 * 256 + xs.getD 13 0 = k := ⟨(xs.getD 12 0 * 256 + xs.getD 13 0).toNat, by omega⟩
  have hk16 : k < 65536 := by omega
  obtain ⟨ys, hys⟩ : ∃ ys, xs.drop 14 = ys := ⟨_, rfl⟩
  obtain ⟨m, hm⟩ : ∃ m, ys.length = m := ⟨_, rfl⟩
  have hmn : m = n - 14 := by rw [← hm, ← hys, List.length_drop, HN.out]
  have hby : Byt ys := by rw [← hys]; exact HB.out.drop 14
  have hback := fbytes_back xs t f k HB.out (by omega) ht hf hk
  rw [hys] at hback
  have hep : ∀ A n' c w, RdI w .u8 A xs → n' = n → n ≤ c → Calls Tryd.prog 47 #[.slice A n' c] w fun ev w' => ∃ A2 c2, ev = .returned (.tuple #[.agg #[.int .u8 (t 0), .int .u8 (t 1), .int .u8 (t 2), .int .u8 (t 3), .int .u8 (t 4), .int .u8 (t 5), .int .u8 (f 0), .int .u8 (f 1), .int .u8 (f 2), .int .u8 (f 3), .int .u8 (f 4), .int .u8 (f 5), .int .u16 k, .slice A2 m c2], .nilIface]) ∧ w'.ownsRow w.heap.size 5 1 (.slice A2 m c2) m (intsK .u8 ys) ∧ Kp (fun _ => False) w w' := fun A n' c w hr hnn hc => by
    subst hnn
    have := eparse_good A n' c m xs t f k w hr HN.out (by rw [hys, hm]) HB.out hc h14 h15 hev ht hf hk
    rw [hys] at this
    exact this
  have hrp : ∀ A c w, RdI w .u8 A xs → n ≤ c → Calls Tryd.prog 48 #[.slice A n c] w fun ev w' => ∃ A2 c2, ev = .returned (.tuple #[.agg #[.int .u8 (t 0), .int .u8 (t 1), .int .u8 (t 2), .int .u8 (t 3), .int .u8 (t 4), .int .u8 (t 5), .int .u8 (f 0), .int .u8 (f 1), .int .u8 (f 2), .int .u8 (f 3), .int .u8 (f 4), .int .u8 (f 5), .int .u16 k, .slice A2 m c2], .agg #[.slice none 0 0, .int .i64 0]]) ∧ w'.ownsRow w.heap.size 5 1 (.slice A2 m c2) m (intsK .u8 ys) ∧ Kp (fun _ => False) w w' := fun A c w hr hc => by
    have := rparse_good A n c m xs t f k w hr HN.out (by rw [hys, hm]) HB.out hc h14 h15 hev ht hf hk
    rw [hys] at this
    exact this
  have HEP := Lib.hid hep
  have HRP := Lib.hid hrp
  have HBY := Lib.hid hby
  have HBK := Lib.hid hback
  have HM := Lib.hid hm
  have HMN := Lib.hid hmn
  have hm15 : m ≤ 1500 := by omega
  clear hbad hbad' hn' hx0 hev ht hf hx12 hx13 hk hys hm hmn hby hback hep hrp
  go_wp2_with fail
  refine (HEP.out A5 n c5 _ R2.out rfl hc5).mono ?_
  rintro ev w3 ⟨A2, c2, rfl, own2, k3⟩
  have kB' := (Kp.refl (fun _ => False) w3).alloc (.cells #[.int .u8 (t 0), .int .u8 (t 1), .int .u8 (t 2), .int .u8 (t 3), .int .u8 (t 4), .int .u8 (t 5), .int .u8 (f 0), .int .u8 (f 1), .int .u8 (f 2), .int .u8 (f 3), .int .u8 (f 4), .int .u8 (f 5), .int .u16 k, .slice A2 m c2] 77)
  have O3 := Lib.hid (own_kp own2 kB' (fun _ _ x => x))
  clear kB'
  have kB := (Kp.refl (fun _ => False) w3).alloc (.cells #[.int .u8 (t 0), .int .u8 (t 1), .int .u8 (t 2), .int .u8 (t 3), .int .u8 (t 4), .int .u8 (t 5), .int .u8 (f 0), .int .u8 (f 1), .int .u8 (f 2), .int .u8 (f 3), .int .u8 (f 4), .int .u8 (f 5), .int .u16 k, .slice A2 m c2] 77)
  have D6 := Lib.hid (Bk.new w3 77 #[.int .u8 (t 0), .int .u8 (t 1), .int .u8 (t 2), .int .u8 (t 3), .int .u8 (t 4), .int .u8 (t 5), .int .u8 (f 0), .int .u8 (f 1), .int .u8 (f 2), .int .u8 (f 3), .int .u8 (f 4), .int .u8 (f 5), .int .u16 k, .slice A2 m c2])
  have R3 := Lib.hid (R2.out.kp (k3.trans' kB) (fun _ _ _ x => x))
  have B3 := Lib.hid (B2.out.kept (k3.trans' kB) (fun x => x))
  have K3 := Lib.hid (K2.out.trans' (k3.trans' kB))
  have E3 := Lib.hid (E2.out.kept (k3.trans' kB) (fun x => x))
  have X3 := Lib.hid (X2.out.kp (k3.trans' kB) (fun _ _ _ x => x))
  go_wp2_with fail
  refine (HRP.out A c _ X3.out hc).mono ?_
  rintro ev w4 ⟨A4, c4, rfl, own4, k4⟩
  have kD := ((Kp.refl (fun _ => False) w4).alloc (.cells #[.int .u8 (t 0), .int .u8 (t 1), .int .u8 (t 2), .int .u8 (t 3), .int .u8 (t 4), .int .u8 (t 5), .int .u8 (f 0), .int .u8 (f 1), .int .u8 (f 2), .int .u8 (f 3), .int .u8 (f 4), .int .u8 (f 5), .int .u16 k, .slice A4 m c4] 81)).alloc (.cells #[.slice none 0 0, .int .i64 0] 52)
  have d8 := (Bk.new w4 81 #[.int .u8 (t 0), .int .u8 (t 1), .int .u8 (t 2), .int .u8 (t 3), .int .u8 (t 4), .int .u8 (t 5), .int .u8 (f 0), .int .u8 (f 1), .int .u8 (f 2), .int .u8 (f 3), .int .u8 (f 4), .int .u8 (f 5), .int .u16 k, .slice A4 m c4]).alloc (.cells #[.slice none 0 0, .int .i64 0] 52)
  have d9 := Bk.new (w4.alloc (.cells #[.int .u8 (t 0), .int .u8 (t 1), .int .u8 (t 2), .int .u8 (t 3), .int .u8 (t 4), .int .u8 (t 5), .int .u8 (f 0), .int .u8 (f 1), .int .u8 (f 2), .int .u8 (f 3), .int .u8 (f 4), .int .u8 (f 5), .int .u16 k, .slice A4 m c4] 81)) 52 #[.slice none 0 0, .int .i64 0]
  rw [show (w4.alloc (.cells #[.int .u8 (t 0), .int .u8 (t 1), .int .u8 (t 2), .int .u8 (t 3), .int .u8 (t 4), .int .u8 (t 5), .int .u8 (f 0), .int .u8 (f 1), .int .u8 (f 2), .int .u8 (f 3), .int .u8 (f 4), .int .u8 (f 5), .int .u16 k, .slice A4 m c4] 81)).heap.size = w4.heap.size + 1 by simp] at d9
  have D8 := Lib.hid d8
  have D9 := Lib.hid d9
  have D6 := Lib.hid (D6.out.kept (k4.trans' kD) (fun x => x))
  have R5 := Lib.hid (R3.out.kp (k4.trans' kD) (fun _ _ _ x => x))
  have B5 := Lib.hid (B3.out.kept (k4.trans' kD) (fun x => x))
  have K5 := Lib.hid (K3.out.trans' (k4.trans' kD))
  have E5 := Lib.hid (E3.out.kept (k4.trans' kD) (fun x => x))
  have X5 := Lib.hid (X3.out.kp (k4.trans' kD) (fun _ _ _ x => x))
  have O5 := Lib.hid (own_kp O3.out (k4.trans' kD) (fun _ _ x => x))
  have P5 := Lib.hid ((own_rd2 own4).kp kD (fun _ _ _ x => x))
  have hg6 : w2.heap.size ≤ w3.heap.size := k3.size
  clear own2 k3 k4 kB kD d8 d9
  go_upto_region 8 with fail
  generalize hw0 : (w4.alloc (.cells #[.int .u8 (t 0), .int .u8 (t 1), .int .u8 (t 2), .int .u8 (t 3), .int .u8 (t 4), .int .u8 (t 5), .int .u8 (f 0), .int .u8 (f 1), .int .u8 (f 2), .int .u8 (f 3), .int .u8 (f 4), .int .u8 (f 5), .int .u16 k, .slice A4 m c4] 81)).alloc (.cells #[.slice none 0 0, .int .i64 0] 52) = w0 at *
  clear hw0
  generalize w4.heap.size + 1 = g9 at *
  generalize w4.heap.size = g8 at *
  generalize w3.heap.size = g6 at *
  go_cut [56] from 13 to 93 (fun s56 wx => s56 = .bool false ∧ Kp (fun _ => False) w0 wx)
  case first =>
    have keep : ∀ b, Kp (fun _ => False) w0 b → (fun w' => Kp (fun _ => False) w0 w' ∧ w'.cell? ⟨g9, 0, none⟩ = some (Value.slice none 0 0) ∧ w'.cell? ⟨g9, 1, none⟩ = some (Value.int .i64 0) ∧ w'.cell? ⟨g6, 0, none⟩ = some (Value.int IntKind.u8 (t 0)) ∧ w'.cell? ⟨g6, 1, none⟩ = some (Value.int IntKind.u8 (t 1)) ∧ w'.cell? ⟨g6, 2, none⟩ = some (Value.int IntKind.u8 (t 2)) ∧ w'.cell? ⟨g6, 3, none⟩ = some (Value.int IntKind.u8 (t 3)) ∧ w'.cell? ⟨g6, 4, none⟩ = some (Value.int IntKind.u8 (t 4)) ∧ w'.cell? ⟨g6, 5, none⟩ = some (Value.int IntKind.u8 (t 5)) ∧ w'.cell? ⟨g6, 6, none⟩ = some (Value.int IntKind.u8 (f 0)) ∧ w'.cell? ⟨g6, 7, none⟩ = some (Value.int IntKind.u8 (f 1)) ∧ w'.cell? ⟨g6, 8, none⟩ = some (Value.int IntKind.u8 (f 2)) ∧ w'.cell? ⟨g6, 9, none⟩ = some (Value.int IntKind.u8 (f 3)) ∧ w'.cell? ⟨g6, 10, none⟩ = some (Value.int IntKind.u8 (f 4)) ∧ w'.cell? ⟨g6, 11, none⟩ = some (Value.int IntKind.u8 (f 5)) ∧ w'.cell? ⟨g6, 12, none⟩ = some (Value.int IntKind.u16 k) ∧ w'.cell? ⟨g6, 13, none⟩ = some (Value.slice A2 m c2) ∧ w'.cell? ⟨g8, 0, none⟩ = some (Value.int IntKind.u8 (t 0)) ∧ w'.cell? ⟨g8, 1, none⟩ = some (Value.int IntKind.u8 (t 1)) ∧ w'.cell? ⟨g8, 2, none⟩ = some (Value.int IntKind.u8 (t 2)) ∧ w'.cell? ⟨g8, 3, none⟩ = some (Value.int IntKind.u8 (t 3)) ∧ w'.cell? ⟨g8, 4, none⟩ = some (Value.int IntKind.u8 (t 4)) ∧ w'.cell? ⟨g8, 5, none⟩ = some (Value.int IntKind.u8 (t 5)) ∧ w'.cell? ⟨g8, 6, none⟩ = some (Value.int IntKind.u8 (f 0)) ∧ w'.cell? ⟨g8, 7, none⟩ = some (Value.int IntKind.u8 (f 1)) ∧ w'.cell? ⟨g8, 8, none⟩ = some (Value.int IntKind.u8 (f 2)) ∧ w'.cell? ⟨g8, 9, none⟩ = some (Value.int IntKind.u8 (f 3)) ∧ w'.cell? ⟨g8, 10, none⟩ = some (Value.int IntKind.u8 (f 4)) ∧ w'.cell? ⟨g8, 11, none⟩ = some (Value.int IntKind.u8 (f 5)) ∧ w'.cell? ⟨g8, 12, none⟩ = some (Value.int IntKind.u16 k) ∧ w'.cell? ⟨g8, 13, none⟩ = some (Value.slice A4 m c4) ∧ w'.cell? ⟨w.heap.size, 0, none⟩ = some (Value.int IntKind.u8 (mm 0)) ∧ w'.cell? ⟨w.heap.size, 1, none⟩ = some (Value.int IntKind.u8 (mm 1)) ∧ w'.cell? ⟨w.heap.size, 2, none⟩ = some (Value.int IntKind.u8 (mm 2)) ∧ w'.cell? ⟨w.heap.size, 3, none⟩ = some (Value.int IntKind.u8 (mm 3)) ∧ w'.cell? ⟨w.heap.size, 4, none⟩ = some (Value.int IntKind.u8 (mm 4)) ∧ w'.cell? ⟨w.heap.size, 5, none⟩ = some (Value.int IntKind.u8 (mm 5))) b := fun b hk => ⟨hk, kp_kc2 (D9.out.cell 0) hk, kp_kc2 (D9.out.cell 1) hk, kp_kc2 (D6.out.cell 0) hk, kp_kc2 (D6.out.cell 1) hk, kp_kc2 (D6.out.cell 2) hk, kp_kc2 (D6.out.cell 3) hk, kp_kc2 (D6.out.cell 4) hk, kp_kc2 (D6.out.cell 5) hk, kp_kc2 (D6.out.cell 6) hk, kp_kc2 (D6.out.cell 7) hk, kp_kc2 (D6.out.cell 8) hk, kp_kc2 (D6.out.cell 9) hk, kp_kc2 (D6.out.cell 10) hk, kp_kc2 (D6.out.cell 11) hk, kp_kc2 (D6.out.cell 12) hk, kp_kc2 (D6.out.cell 13) hk, kp_kc2 (D8.out.cell 0) hk, kp_kc2 (D8.out.cell 1) hk, kp_kc2 (D8.out.cell 2) hk, kp_kc2 (D8.out.cell 3) hk, kp_kc2 (D8.out.cell 4) hk, kp_kc2 (D8.out.cell 5) hk, kp_kc2 (D8.out.cell 6) hk, kp_kc2 (D8.out.cell 7) hk, kp_kc2 (D8.out.cell 8) hk, kp_kc2 (D8.out.cell 9) hk, kp_kc2 (D8.out.cell 10) hk, kp_kc2 (D8.out.cell 11) hk, kp_kc2 (D8.out.cell 12) hk, kp_kc2 (D8.out.cell 13) hk, kp_kc2 (B5.out.cell 0) hk, kp_kc2 (B5.out.cell 1) hk, kp_kc2 (B5.out.cell 2) hk, kp_kc2 (B5.out.cell 3) hk, kp_kc2 (B5.out.cell 4) hk, kp_kc2 (B5.out.cell 5) hk⟩
    have KEEP := Lib.hid keep
    have KC := Lib.hid ((Kp.refl (fun _ => False) w0).drew)
    obtain ⟨p, hp⟩ : ∃ p, macEq t mm = p := ⟨_, rfl⟩
    obtain ⟨q, hq⟩ : ∃ q, macEq t (fun _ => 255) = q := ⟨_, rfl⟩
    have h1 := fun w => run_eql_mac w t mm
    have h2 := fun w => run_eql_mac w t (fun _ => 255)
    rw [hp] at h1
    rw [hq] at h2
    have h1 : ∀ w, (binOp .eql 73 (.agg #[.int .u8 (t 0), .int .u8 (t 1), .int .u8 (t 2), .int .u8 (t 3), .int .u8 (t 4), .int .u8 (t 5)]) (.agg #[.int .u8 (mm 0), .int .u8 (mm 1), .int .u8 (mm 2), .int .u8 (mm 3), .int .u8 (mm 4), .int .u8 (mm 5)])).run Tryd.prog w = .ok (.bool p) w := h1
    have h2 : ∀ w, (binOp .eql 73 (.agg #[.int .u8 (t 0), .int .u8 (t 1), .int .u8 (t 2), .int .u8 (t 3), .int .u8 (t 4), .int .u8 (t 5)]) (.agg #[.int .u8 255, .int .u8 255, .int .u8 255, .int .u8 255, .int .u8 255, .int .u8 255])).run Tryd.prog w = .ok (.bool q) w := h2
    have his : ∀ w', Kp (fun _ => False) w0 w' → Calls Tryd.prog 49 #[.nilIface, .agg #[.slice none 0 0, .int .i64 0]] w' fun ev w'' => ev = .returned (.bool true) ∧ Kp (fun _ => False) w' w'' := fun w' hk => is_nil _ w'
    have hof : ∀ w', Kp (fun _ => False) w0 w' → Calls Tryd.prog 51 #[.agg #[.int .u8 (t 0), .int .u8 (t 1), .int .u8 (t 2), .int .u8 (t 3), .int .u8 (t 4), .int .u8 (t 5), .int .u8 (f 0), .int .u8 (f 1), .int .u8 (f 2), .int .u8 (f 3), .int .u8 (f 4), .int .u8 (f 5), .int .u16 k, .slice A2 m c2]] w' fun ev w'' => ∃ A9 c9, ev = .returned (.agg #[.int .u8 (t 0), .int .u8 (t 1), .int .u8 (t 2), .int .u8 (t 3), .int .u8 (t 4), .int .u8 (t 5), .int .u8 (f 0), .int .u8 (f 1), .int .u8 (f 2), .int .u8 (f 3), .int .u8 (f 4), .int .u8 (f 5), .int .u16 k, .slice A9 m c9]) ∧ RdI w'' .u8 A9 ys ∧ Kp (fun _ => False) w' w'' := fun w' hk => by
      refine (of_frm t f k A2 m c2 ys w' ((own_rd2 O5.out).kp hk (fun _ _ _ x => x)) HM.out.symm (by omega) (own_none2 O5.out)).mono ?_
      rintro ev w'' ⟨A9, c9, rfl, own, kk⟩
      exact ⟨A9, c9, rfl, own_rd2 own, kk⟩
    have hrs : ∀ w' A9 c9, Kp (fun _ => False) w0 w' → RdI w' .u8 A9 ys → Calls Tryd.prog 50 #[.agg #[.int .u8 (t 0), .int .u8 (t 1), .int .u8 (t 2), .int .u8 (t 3), .int .u8 (t 4), .int .u8 (t 5), .int .u8 (f 0), .int .u8 (f 1), .int .u8 (f 2), .int .u8 (f 3), .int .u8 (f 4), .int .u8 (f 5), .int .u16 k, .slice A9 m c9], .agg #[.int .u8 (t 0), .int .u8 (t 1), .int .u8 (t 2), .int .u8 (t 3), .int .u8 (t 4), .int .u8 (t 5), .int .u8 (f 0), .int .u8 (f 1), .int .u8 (f 2), .int .u8 (f 3), .int .u8 (f 4), .int .u8 (f 5), .int .u16 k, .slice A4 m c4]] w' fun ev w'' => ev = .returned (.bool true) ∧ Kp (fun _ => False) w' w'' := fun w' A9 c9 hk hr => by
      refine (refSame_any t f t f k k A9 A4 m c9 m c4 ys ys w' hr (P5.out.kp hk (fun _ _ _ x => x)) HM.out HM.out HBY.out HBY.out).mono ?_
      rintro ev w'' ⟨rfl, kk⟩
      refine ⟨?_, kk⟩
      have e1 := (macEq_iff t t).2 (fun _ _ => rfl)
      have e2 := (macEq_iff f f).2 (fun _ _ => rfl)
      simp [e1, e2]
    have hfo : ∀ w', Calls Tryd.prog 52 #[.agg #[.int .u8 (t 0), .int .u8 (t 1), .int .u8 (t 2), .int .u8 (t 3), .int .u8 (t 4), .int .u8 (t 5), .int .u8 (f 0), .int .u8 (f 1), .int .u8 (f 2), .int .u8 (f 3), .int .u8 (f 4), .int .u8 (f 5), .int .u16 k, .slice A2 m c2], .agg #[.int .u8 (mm 0), .int .u8 (mm 1), .int .u8 (mm 2), .int .u8 (mm 3), .int .u8 (mm 4), .int .u8 (mm 5)]] w' fun ev w'' => ev = .returned (.bool (p || q)) ∧ Kp (fun _ => False) w' w'' := fun w' => by
      have := for_any t f mm k (.slice A2 m c2) w'
      rw [hp, hq] at this
      exact this
    have HIS := Lib.hid his
    have HOF := Lib.hid hof
    have HRS := Lib.hid hrs
    have HFO := Lib.hid hfo
    clear keep his hof hrs hfo hp hq
    cases p
    · refine wp_region_held_drew (S := (fun w' => Kp (fun _ => False) w0 w' ∧ w'.cell? ⟨g9, 0, none⟩ = some (Value.slice none 0 0) ∧ w'.cell? ⟨g9, 1, none⟩ = some (Value.int .i64 0) ∧ w'.cell? ⟨g6, 0, none⟩ = some (Value.int IntKind.u8 (t 0)) ∧ w'.cell? ⟨g6, 1, none⟩ = some (Value.int IntKind.u8 (t 1)) ∧ w'.cell? ⟨g6, 2, none⟩ = some (Value.int IntKind.u8 (t 2)) ∧ w'.cell? ⟨g6, 3, none⟩ = some (Value.int IntKind.u8 (t 3)) ∧ w'.cell? ⟨g6, 4, none⟩ = some (Value.int IntKind.u8 (t 4)) ∧ w'.cell? ⟨g6, 5, none⟩ = some (Value.int IntKind.u8 (t 5)) ∧ w'.cell? ⟨g6, 6, none⟩ = some (Value.int IntKind.u8 (f 0)) ∧ w'.cell? ⟨g6, 7, none⟩ = some (Value.int IntKind.u8 (f 1)) ∧ w'.cell? ⟨g6, 8, none⟩ = some (Value.int IntKind.u8 (f 2)) ∧ w'.cell? ⟨g6, 9, none⟩ = some (Value.int IntKind.u8 (f 3)) ∧ w'.cell? ⟨g6, 10, none⟩ = some (Value.int IntKind.u8 (f 4)) ∧ w'.cell? ⟨g6, 11, none⟩ = some (Value.int IntKind.u8 (f 5)) ∧ w'.cell? ⟨g6, 12, none⟩ = some (Value.int IntKind.u16 k) ∧ w'.cell? ⟨g6, 13, none⟩ = some (Value.slice A2 m c2) ∧ w'.cell? ⟨g8, 0, none⟩ = some (Value.int IntKind.u8 (t 0)) ∧ w'.cell? ⟨g8, 1, none⟩ = some (Value.int IntKind.u8 (t 1)) ∧ w'.cell? ⟨g8, 2, none⟩ = some (Value.int IntKind.u8 (t 2)) ∧ w'.cell? ⟨g8, 3, none⟩ = some (Value.int IntKind.u8 (t 3)) ∧ w'.cell? ⟨g8, 4, none⟩ = some (Value.int IntKind.u8 (t 4)) ∧ w'.cell? ⟨g8, 5, none⟩ = some (Value.int IntKind.u8 (t 5)) ∧ w'.cell? ⟨g8, 6, none⟩ = some (Value.int IntKind.u8 (f 0)) ∧ w'.cell? ⟨g8, 7, none⟩ = some (Value.int IntKind.u8 (f 1)) ∧ w'.cell? ⟨g8, 8, none⟩ = some (Value.int IntKind.u8 (f 2)) ∧ w'.cell? ⟨g8, 9, none⟩ = some (Value.int IntKind.u8 (f 3)) ∧ w'.cell? ⟨g8, 10, none⟩ = some (Value.int IntKind.u8 (f 4)) ∧ w'.cell? ⟨g8, 11, none⟩ = some (Value.int IntKind.u8 (f 5)) ∧ w'.cell? ⟨g8, 12, none⟩ = some (Value.int IntKind.u16 k) ∧ w'.cell? ⟨g8, 13, none⟩ = some (Value.slice A4 m c4) ∧ w'.cell? ⟨w.heap.size, 0, none⟩ = some (Value.int IntKind.u8 (mm 0)) ∧ w'.cell? ⟨w.heap.size, 1, none⟩ = some (Value.int IntKind.u8 (mm 1)) ∧ w'.cell? ⟨w.heap.size, 2, none⟩ = some (Value.int IntKind.u8 (mm 2)) ∧ w'.cell? ⟨w.heap.size, 3, none⟩ = some (Value.int IntKind.u8 (mm 3)) ∧ w'.cell? ⟨w.heap.size, 4, none⟩ = some (Value.int IntKind.u8 (mm 4)) ∧ w'.cell? ⟨w.heap.size, 5, none⟩ = some (Value.int IntKind.u8 (mm 5)))) (by kernel_rfl) (KEEP.out _ KC.out) (fun hHeld => ?_)
      refine wpAnyH_take (i := 0) (v := ?v0_42) rfl (by kernel_rfl) (by kernel_rfl) (by kernel_rfl) (fun _ _ _ h => h) (Or.inl ⟨by rfl, ?y0_42⟩) (by assumption) ?r0_42
      case y0_42 => (intro w hSw; (try dsimp only at hSw); go_simp; first | done | with_reducible rfl)
      try simp only [Act.put, List.getElem_toArray, List.getElem_cons_succ, List.getElem_cons_zero, List.setIfInBounds_toArray, List.set_cons_zero, List.set_cons_succ]
      refine wpAnyH_take (i := 1) (v := ?v1_43) rfl (by kernel_rfl) (by kernel_rfl) (by kernel_rfl) (fun _ _ _ h => h) (Or.inl ⟨by rfl, ?y1_43⟩) (by assumption) ?r1_43
      case y1_43 => (intro w hSw; (try dsimp only at hSw); go_simp; first | done | with_reducible rfl)
      try simp only [Act.put, List.getElem_toArray, List.getElem_cons_succ, List.getElem_cons_zero, List.setIfInBounds_toArray, List.set_cons_zero, List.set_cons_succ]
      refine wpAnyH_ready (rs := [2]) (by kernel_rfl) (by simp) ?_
      refine AllReadyH.cons rfl (fun K hK => ?_) AllReadyH.nil
      go_simp
      with_reducible refine (HIS.out _ KC.out).mono ?_
      rintro ev w9 ⟨rfl, k9⟩
      have KC := Lib.hid (KC.out.trans' k9)
      clear k9
      try dsimp only
      refine hK.out _ _ (KEEP.out _ KC.out) (fun hHeld => ?_)
      clear hK K
      try simp only [Act.put, List.getElem_toArray, List.getElem_cons_succ, List.getElem_cons_zero, List.setIfInBounds_toArray, List.set_cons_zero, List.set_cons_succ]
      refine wpAnyH_take (i := 3) (v := ?v3_44) rfl (by kernel_rfl) (by kernel_rfl) (by kernel_rfl) (fun _ _ _ h => h) (Or.inl ⟨by rfl, ?y3_44⟩) (by assumption) ?r3_44
      case y3_44 => (intro w hSw; (try dsimp only at hSw); go_simp; first | done | with_reducible rfl)
      try simp only [Act.put, List.getElem_toArray, List.getElem_cons_succ, List.getElem_cons_zero, List.setIfInBounds_toArray, List.set_cons_zero, List.set_cons_succ]
      refine wpAnyH_take (i := 4) (v := ?v4_45) rfl (by kernel_rfl) (by kernel_rfl) (by kernel_rfl) (fun _ _ _ h => h) (Or.inl ⟨by rfl, ?y4_45⟩) (by assumption) ?r4_45
      case y4_45 => (intro w hSw; (try dsimp only at hSw); go_simp; first | done | with_reducible rfl)
      try simp only [Act.put, List.getElem_toArray, List.getElem_cons_succ, List.getElem_cons_zero, List.setIfInBounds_toArray, List.set_cons_zero, List.set_cons_succ]
      refine wpAnyH_take (i := 5) (v := ?v5_46) rfl (by kernel_rfl) (by kernel_rfl) (by kernel_rfl) (fun _ _ _ h => h) (Or.inl ⟨by rfl, ?y5_46⟩) (by assumption) ?r5_46
      case y5_46 => (intro w hSw; (try dsimp only at hSw); go_simp; first | done | with_reducible rfl)
      try simp only [Act.put, List.getElem_toArray, List.getElem_cons_succ, List.getElem_cons_zero, List.setIfInBounds_toArray, List.set_cons_zero, List.set_cons_succ]
      refine wpAnyH_take (i := 7) (v := ?v7_47) rfl (by kernel_rfl) (by kernel_rfl) (by kernel_rfl) (fun _ _ _ h => h) (Or.inl ⟨by rfl, ?y7_47⟩) (by assumption) ?r7_47
      case y7_47 => (intro w hSw; (try dsimp only at hSw); go_simp; first | done | with_reducible rfl)
      try simp only [Act.put, List.getElem_toArray, List.getElem_cons_succ, List.getElem_cons_zero, List.setIfInBounds_toArray, List.set_cons_zero, List.set_cons_succ]
      refine wpAnyH_ready (rs := [6]) (by kernel_rfl) (by simp) ?_
      refine AllReadyH.cons rfl (fun K hK => ?_) AllReadyH.nil
      go_simp
      with_reducible refine (HOF.out _ KC.out).mono ?_
      rintro ev w9 ⟨A9, c9, rfl, r9, k9⟩
      have KC := Lib.hid (KC.out.trans' k9)
      have R9 := Lib.hid r9
      clear k9 r9
      try dsimp only
      refine hK.out _ _ (KEEP.out _ KC.out) (fun hHeld => ?_)
      clear hK K
      try simp only [Act.put, List.getElem_toArray, List.getElem_cons_succ, List.getElem_cons_zero, List.setIfInBounds_toArray, List.set_cons_zero, List.set_cons_succ]
      refine wpAnyH_ready (rs := [8]) (by kernel_rfl) (by simp) ?_
      refine AllReadyH.cons rfl (fun K hK => ?_) AllReadyH.nil
      go_simp
      with_reducible refine (HRS.out _ A9 c9 KC.out R9.out).mono ?_
      rintro ev w9 ⟨rfl, k9⟩
      have KC := Lib.hid (KC.out.trans' k9)
      clear k9
      try dsimp only
      refine hK.out _ _ (KEEP.out _ KC.out) (fun hHeld => ?_)
      clear hK K
      try simp only [Act.put, List.getElem_toArray, List.getElem_cons_succ, List.getElem_cons_zero, List.setIfInBounds_toArray, List.set_cons_zero, List.set_cons_succ]
      refine wpAnyH_take (i := 9) (v := ?v9_48) rfl (by kernel_rfl) (by kernel_rfl) (by kernel_rfl) (fun _ _ _ h => h) (Or.inl ⟨by rfl, ?y9_48⟩) (by assumption) ?r9_48
      case y9_48 => (intro w hSw; (try dsimp only at hSw); go_simp; first | done | with_reducible rfl)
      try simp only [Act.put, List.getElem_toArray, List.getElem_cons_succ, List.getElem_cons_zero, List.setIfInBounds_toArray, List.set_cons_zero, List.set_cons_succ]
      refine wpAnyH_take (i := 10) (v := ?v10_49) rfl (by kernel_rfl) (by kernel_rfl) (by kernel_rfl) (fun _ _ _ h => h) (Or.inl ⟨by rfl, ?y10_49⟩) (by assumption) ?r10_49
      case y10_49 => (intro w hSw; (try dsimp only at hSw); go_simp; first | done | with_reducible rfl)
      try simp only [Act.put, List.getElem_toArray, List.getElem_cons_succ, List.getElem_cons_zero, List.setIfInBounds_toArray, List.set_cons_zero, List.set_cons_succ]
      refine wpAnyH_take (i := 11) (v := ?v11_50) rfl (by kernel_rfl) (by kernel_rfl) (by kernel_rfl) (fun _ _ _ h => h) (Or.inl ⟨by rfl, ?y11_50⟩) (by assumption) ?r11_50
      case y11_50 => (intro w hSw; (try dsimp only at hSw); go_simp; first | done | with_reducible rfl)
      try simp only [Act.put, List.getElem_toArray, List.getElem_cons_succ, List.getElem_cons_zero, List.setIfInBounds_toArray, List.set_cons_zero, List.set_cons_succ]
      refine wpAnyH_take (i := 12) (v := ?v12_51) rfl (by kernel_rfl) (by kernel_rfl) (by kernel_rfl) (fun _ _ _ h => h) (Or.inl ⟨by rfl, ?y12_51⟩) (by assumption) ?r12_51
      case y12_51 => (intro w hSw; (try dsimp only at hSw); go_simp; first | done | with_reducible rfl)
      try simp only [Act.put, List.getElem_toArray, List.getElem_cons_succ, List.getElem_cons_zero, List.setIfInBounds_toArray, List.set_cons_zero, List.set_cons_succ]
      refine wpAnyH_take (i := 13) (v := ?v13_52) rfl (by kernel_rfl) (by kernel_rfl) (by kernel_rfl) (fun _ _ _ h => h) (Or.inl ⟨by rfl, ?y13_52⟩) (by assumption) ?r13_52
      case y13_52 => (intro w hSw; (try dsimp only at hSw); go_simp; first | done | with_reducible rfl)
      try simp only [Act.put, List.getElem_toArray, List.getElem_cons_succ, List.getElem_cons_zero, List.setIfInBounds_toArray, List.set_cons_zero, List.set_cons_succ]
      refine wpAnyH_take (i := 15) (v := ?v15_53) rfl (by kernel_rfl) (by kernel_rfl) (by kernel_rfl) (fun _ _ _ h => h) (Or.inl ⟨by rfl, ?y15_53⟩) (by assumption) ?r15_53
      case y15_53 => (intro w hSw; (try dsimp only at hSw); go_simp; first | done | with_reducible rfl)
      try simp only [Act.put, List.getElem_toArray, List.getElem_cons_succ, List.getElem_cons_zero, List.setIfInBounds_toArray, List.set_cons_zero, List.set_cons_succ]
      refine wpAnyH_take (i := 16) (v := ?v16_54) rfl (by kernel_rfl) (by kernel_rfl) (by kernel_rfl) (fun _ _ _ h => h) (Or.inl ⟨by rfl, ?y16_54⟩) (by assumption) ?r16_54
      case y16_54 => (intro w hSw; (try dsimp only at hSw); go_simp; first | done | with_reducible rfl)
      try simp only [Act.put, List.getElem_toArray, List.getElem_cons_succ, List.getElem_cons_zero, List.setIfInBounds_toArray, List.set_cons_zero, List.set_cons_succ]
      refine wpAnyH_take (i := 17) (v := ?v17_55) rfl (by kernel_rfl) (by kernel_rfl) (by kernel_rfl) (fun _ _ _ h => h) (Or.inl ⟨by rfl, ?y17_55⟩) (by assumption) ?r17_55
      case y17_55 => (intro w hSw; (try dsimp only at hSw); go_simp; first | done | with_reducible rfl)
      try simp only [Act.put, List.getElem_toArray, List.getElem_cons_succ, List.getElem_cons_zero, List.setIfInBounds_toArray, List.set_cons_zero, List.set_cons_succ]
      refine wpAnyH_take (i := 18) (v := ?v18_56) rfl (by kernel_rfl) (by kernel_rfl) (by kernel_rfl) (fun _ _ _ h => h) (Or.inl ⟨by rfl, ?y18_56⟩) (by assumption) ?r18_56
      case y18_56 => (intro w hSw; (try dsimp only at hSw); go_simp; first | done | with_reducible rfl)
      try simp only [Act.put, List.getElem_toArray, List.getElem_cons_succ, List.getElem_cons_zero, List.setIfInBounds_toArray, List.set_cons_zero, List.set_cons_succ]
      refine wpAnyH_ready (rs := [14]) (by kernel_rfl) (by simp) ?_
      refine AllReadyH.cons rfl (fun K hK => ?_) AllReadyH.nil
      go_simp
      with_reducible refine (HFO.out _).mono ?_
      simp only [Bool.true_or, Bool.false_or]
      rintro ev w9 ⟨rfl, k9⟩
      have KC := Lib.hid (KC.out.trans' k9)
      clear k9
      try dsimp only
      refine hK.out _ _ (KEEP.out _ KC.out) (fun hHeld => ?_)
      clear hK K
      try simp only [Act.put, List.getElem_toArray, List.getElem_cons_succ, List.getElem_cons_zero, List.setIfInBounds_toArray, List.set_cons_zero, List.set_cons_succ]
      refine wpAnyH_take (i := 19) (v := ?v19_57) rfl (by kernel_rfl) (by kernel_rfl) (by kernel_rfl) (fun _ _ _ h => h) (Or.inl ⟨by rfl, ?y19_57⟩) (by assumption) ?r19_57
      case y19_57 => (intro w hSw; (try dsimp only at hSw); go_simp; first | done | with_reducible rfl)
      try simp only [Act.put, List.getElem_toArray, List.getElem_cons_succ, List.getElem_cons_zero, List.setIfInBounds_toArray, List.set_cons_zero, List.set_cons_succ]
      refine wpAnyH_take (i := 20) (v := ?v20_58) rfl (by kernel_rfl) (by kernel_rfl) (by kernel_rfl) (fun _ _ _ h => h) (Or.inl ⟨by rfl, ?y20_58⟩) (by assumption) ?r20_58
      case y20_58 => (intro w hSw; (try dsimp only at hSw); go_simp; first | done | with_reducible rfl)
      try simp only [Act.put, List.getElem_toArray, List.getElem_cons_succ, List.getElem_cons_zero, List.setIfInBounds_toArray, List.set_cons_zero, List.set_cons_succ]
      refine wpAnyH_take (i := 21) (v := ?v21_59) rfl (by kernel_rfl) (by kernel_rfl) (by kernel_rfl) (fun _ _ _ h => h) (Or.inl ⟨by rfl, ?y21_59⟩) (by assumption) ?r21_59
      case y21_59 => (intro w hSw; (try dsimp only at hSw); go_simp; first | done | with_reducible rfl)
      try simp only [Act.put, List.getElem_toArray, List.getElem_cons_succ, List.getElem_cons_zero, List.setIfInBounds_toArray, List.set_cons_zero, List.set_cons_succ]
      refine wpAnyH_take (i := 22) (v := ?v22_60) rfl (by kernel_rfl) (by kernel_rfl) (by kernel_rfl) (fun _ _ _ h => h) (Or.inl ⟨by rfl, ?y22_60⟩) (by assumption) ?r22_60
      case y22_60 => (intro w hSw; (try dsimp only at hSw); go_simp; first | done | with_reducible rfl)
      try simp only [Act.put, List.getElem_toArray, List.getElem_cons_succ, List.getElem_cons_zero, List.setIfInBounds_toArray, List.set_cons_zero, List.set_cons_succ]
      refine wpAnyH_take (i := 23) (v := ?v23_61) rfl (by kernel_rfl) (by kernel_rfl) (by kernel_rfl) (fun _ _ _ h => h) (Or.inl ⟨by rfl, ?y23_61⟩) (by assumption) ?r23_61
      case y23_61 => (intro w hSw; (try dsimp only at hSw); go_simp; first | done | with_reducible rfl)
      try simp only [Act.put, List.getElem_toArray, List.getElem_cons_succ, List.getElem_cons_zero, List.setIfInBounds_toArray, List.set_cons_zero, List.set_cons_succ]
      refine wpAnyH_take (i := 24) (v := ?v24_62) rfl (by kernel_rfl) (by kernel_rfl) (by kernel_rfl) (fun _ _ _ h => h) (Or.inl ⟨by rfl, ?y24_62⟩) (by assumption) ?r24_62
      case y24_62 => (intro w hSw; (try dsimp only at hSw); go_simp; first | done | with_reducible rfl)
      try simp only [Act.put, List.getElem_toArray, List.getElem_cons_succ, List.getElem_cons_zero, List.setIfInBounds_toArray, List.set_cons_zero, List.set_cons_succ]
      refine wpAnyH_take (i := 25) (v := ?v25_63) rfl (by kernel_rfl) (by kernel_rfl) (by kernel_rfl) (fun _ _ _ h => h) (Or.inl ⟨by rfl, ?y25_63⟩) (by assumption) ?r25_63
      case y25_63 => (intro w hSw; (try dsimp only at hSw); go_simp; first | done | with_reducible rfl)
      try simp only [Act.put, List.getElem_toArray, List.getElem_cons_succ, List.getElem_cons_zero, List.setIfInBounds_toArray, List.set_cons_zero, List.set_cons_succ]
      refine wpAnyH_take (i := 26) (v := ?v26_64) rfl (by kernel_rfl) (by kernel_rfl) (by kernel_rfl) (fun _ _ _ h => h) (Or.inl ⟨by rfl, ?y26_64⟩) (by assumption) ?r26_64
      case y26_64 => (intro w hSw; (try dsimp only at hSw); go_simp; first | done | with_reducible rfl)
      try simp only [Act.put, List.getElem_toArray, List.getElem_cons_succ, List.getElem_cons_zero, List.setIfInBounds_toArray, List.set_cons_zero, List.set_cons_succ]
      refine wpAnyH_done (by kernel_rfl) ?_ _
      go_wp2_with fail
      go_meet
      exact ⟨by simp, KC.out⟩
    · refine wp_region_held_drew (S := (fun w' => Kp (fun _ => False) w0 w' ∧ w'.cell? ⟨g9, 0, none⟩ = some (Value.slice none 0 0) ∧ w'.cell? ⟨g9, 1, none⟩ = some (Value.int .i64 0) ∧ w'.cell? ⟨g6, 0, none⟩ = some (Value.int IntKind.u8 (t 0)) ∧ w'.cell? ⟨g6, 1, none⟩ = some (Value.int IntKind.u8 (t 1)) ∧ w'.cell? ⟨g6, 2, none⟩ = some (Value.int IntKind.u8 (t 2)) ∧ w'.cell? ⟨g6, 3, none⟩ = some (Value.int IntKind.u8 (t 3)) ∧ w'.cell? ⟨g6, 4, none⟩ = some (Value.int IntKind.u8 (t 4)) ∧ w'.cell? ⟨g6, 5, none⟩ = some (Value.int IntKind.u8 (t 5)) ∧ w'.cell? ⟨g6, 6, none⟩ = some (Value.int IntKind.u8 (f 0)) ∧ w'.cell? ⟨g6, 7, none⟩ = some (Value.int IntKind.u8 (f 1)) ∧ w'.cell? ⟨g6, 8, none⟩ = some (Value.int IntKind.u8 (f 2)) ∧ w'.cell? ⟨g6, 9, none⟩ = some (Value.int IntKind.u8 (f 3)) ∧ w'.cell? ⟨g6, 10, none⟩ = some (Value.int IntKind.u8 (f 4)) ∧ w'.cell? ⟨g6, 11, none⟩ = some (Value.int IntKind.u8 (f 5)) ∧ w'.cell? ⟨g6, 12, none⟩ = some (Value.int IntKind.u16 k) ∧ w'.cell? ⟨g6, 13, none⟩ = some (Value.slice A2 m c2) ∧ w'.cell? ⟨g8, 0, none⟩ = some (Value.int IntKind.u8 (t 0)) ∧ w'.cell? ⟨g8, 1, none⟩ = some (Value.int IntKind.u8 (t 1)) ∧ w'.cell? ⟨g8, 2, none⟩ = some (Value.int IntKind.u8 (t 2)) ∧ w'.cell? ⟨g8, 3, none⟩ = some (Value.int IntKind.u8 (t 3)) ∧ w'.cell? ⟨g8, 4, none⟩ = some (Value.int IntKind.u8 (t 4)) ∧ w'.cell? ⟨g8, 5, none⟩ = some (Value.int IntKind.u8 (t 5)) ∧ w'.cell? ⟨g8, 6, none⟩ = some (Value.int IntKind.u8 (f 0)) ∧ w'.cell? ⟨g8, 7, none⟩ = some (Value.int IntKind.u8 (f 1)) ∧ w'.cell? ⟨g8, 8, none⟩ = some (Value.int IntKind.u8 (f 2)) ∧ w'.cell? ⟨g8, 9, none⟩ = some (Value.int IntKind.u8 (f 3)) ∧ w'.cell? ⟨g8, 10, none⟩ = some (Value.int IntKind.u8 (f 4)) ∧ w'.cell? ⟨g8, 11, none⟩ = some (Value.int IntKind.u8 (f 5)) ∧ w'.cell? ⟨g8, 12, none⟩ = some (Value.int IntKind.u16 k) ∧ w'.cell? ⟨g8, 13, none⟩ = some (Value.slice A4 m c4) ∧ w'.cell? ⟨w.heap.size, 0, none⟩ = some (Value.int IntKind.u8 (mm 0)) ∧ w'.cell? ⟨w.heap.size, 1, none⟩ = some (Value.int IntKind.u8 (mm 1)) ∧ w'.cell? ⟨w.heap.size, 2, none⟩ = some (Value.int IntKind.u8 (mm 2)) ∧ w'.cell? ⟨w.heap.size, 3, none⟩ = some (Value.int IntKind.u8 (mm 3)) ∧ w'.cell? ⟨w.heap.size, 4, none⟩ = some (Value.int IntKind.u8 (mm 4)) ∧ w'.cell? ⟨w.heap.size, 5, none⟩ = some (Value.int IntKind.u8 (mm 5)))) (by kernel_rfl) (KEEP.out _ KC.out) (fun hHeld => ?_)
      refine wpAnyH_take (i := 0) (v := ?v0_65) rfl (by kernel_rfl) (by kernel_rfl) (by kernel_rfl) (fun _ _ _ h => h) (Or.inl ⟨by rfl, ?y0_65⟩) (by assumption) ?r0_65
      case y0_65 => (intro w hSw; (try dsimp only at hSw); go_simp; first | done | with_reducible rfl)
      try simp only [Act.put, List.getElem_toArray, List.getElem_cons_succ, List.getElem_cons_zero, List.setIfInBounds_toArray, List.set_cons_zero, List.set_cons_succ]
      refine wpAnyH_take (i := 1) (v := ?v1_66) rfl (by kernel_rfl) (by kernel_rfl) (by kernel_rfl) (fun _ _ _ h => h) (Or.inl ⟨by rfl, ?y1_66⟩) (by assumption) ?r1_66
      case y1_66 => (intro w hSw; (try dsimp only at hSw); go_simp; first | done | with_reducible rfl)
      try simp only [Act.put, List.getElem_toArray, List.getElem_cons_succ, List.getElem_cons_zero, List.setIfInBounds_toArray, List.set_cons_zero, List.set_cons_succ]
      refine wpAnyH_ready (rs := [2]) (by kernel_rfl) (by simp) ?_
      refine AllReadyH.cons rfl (fun K hK => ?_) AllReadyH.nil
      go_simp
      with_reducible refine (HIS.out _ KC.out).mono ?_
      rintro ev w9 ⟨rfl, k9⟩
      have KC := Lib.hid (KC.out.trans' k9)
      clear k9
      try dsimp only
      refine hK.out _ _ (KEEP.out _ KC.out) (fun hHeld => ?_)
      clear hK K
      try simp only [Act.put, List.getElem_toArray, List.getElem_cons_succ, List.getElem_cons_zero, List.setIfInBounds_toArray, List.set_cons_zero, List.set_cons_succ]
      refine wpAnyH_take (i := 3) (v := ?v3_67) rfl (by kernel_rfl) (by kernel_rfl) (by kernel_rfl) (fun _ _ _ h => h) (Or.inl ⟨by rfl, ?y3_67⟩) (by assumption) ?r3_67
      case y3_67 => (intro w hSw; (try dsimp only at hSw); go_simp; first | done | with_reducible rfl)
      try simp only [Act.put, List.getElem_toArray, List.getElem_cons_succ, List.getElem_cons_zero, List.setIfInBounds_toArray, List.set_cons_zero, List.set_cons_succ]
      refine wpAnyH_take (i := 4) (v := ?v4_68) rfl (by kernel_rfl) (by kernel_rfl) (by kernel_rfl) (fun _ _ _ h => h) (Or.inl ⟨by rfl, ?y4_68⟩) (by assumption) ?r4_68
      case y4_68 => (intro w hSw; (try dsimp only at hSw); go_simp; first | done | with_reducible rfl)
      try simp only [Act.put, List.getElem_toArray, List.getElem_cons_succ, List.getElem_cons_zero, List.setIfInBounds_toArray, List.set_cons_zero, List.set_cons_succ]
      refine wpAnyH_take (i := 5) (v := ?v5_69) rfl (by kernel_rfl) (by kernel_rfl) (by kernel_rfl) (fun _ _ _ h => h) (Or.inl ⟨by rfl, ?y5_69⟩) (by assumption) ?r5_69
      case y5_69 => (intro w hSw; (try dsimp only at hSw); go_simp; first | done | with_reducible rfl)
      try simp only [Act.put, List.getElem_toArray, List.getElem_cons_succ, List.getElem_cons_zero, List.setIfInBounds_toArray, List.set_cons_zero, List.set_cons_succ]
      refine wpAnyH_take (i := 7) (v := ?v7_70) rfl (by kernel_rfl) (by kernel_rfl) (by kernel_rfl) (fun _ _ _ h => h) (Or.inl ⟨by rfl, ?y7_70⟩) (by assumption) ?r7_70
      case y7_70 => (intro w hSw; (try dsimp only at hSw); go_simp; first | done | with_reducible rfl)
      try simp only [Act.put, List.getElem_toArray, List.getElem_cons_succ, List.getElem_cons_zero, List.setIfInBounds_toArray, List.set_cons_zero, List.set_cons_succ]
      refine wpAnyH_ready (rs := [6]) (by kernel_rfl) (by simp) ?_
      refine AllReadyH.cons rfl (fun K hK => ?_) AllReadyH.nil
      go_simp
      with_reducible refine (HOF.out _ KC.out).mono ?_
      rintro ev w9 ⟨A9, c9, rfl, r9, k9⟩
      have KC := Lib.hid (KC.out.trans' k9)
      have R9 := Lib.hid r9
      clear k9 r9
      try dsimp only
      refine hK.out _ _ (KEEP.out _ KC.out) (fun hHeld => ?_)
      clear hK K
      try simp only [Act.put, List.getElem_toArray, List.getElem_cons_succ, List.getElem_cons_zero, List.setIfInBounds_toArray, List.set_cons_zero, List.set_cons_succ]
      refine wpAnyH_ready (rs := [8]) (by kernel_rfl) (by simp) ?_
      refine AllReadyH.cons rfl (fun K hK => ?_) AllReadyH.nil
      go_simp
      with_reducible refine (HRS.out _ A9 c9 KC.out R9.out).mono ?_
      rintro ev w9 ⟨rfl, k9⟩
      have KC := Lib.hid (KC.out.trans' k9)
      clear k9
      try dsimp only
      refine hK.out _ _ (KEEP.out _ KC.out) (fun hHeld => ?_)
      clear hK K
      try simp only [Act.put, List.getElem_toArray, List.getElem_cons_succ, List.getElem_cons_zero, List.setIfInBounds_toArray, List.set_cons_zero, List.set_cons_succ]
      refine wpAnyH_take (i := 9) (v := ?v9_71) rfl (by kernel_rfl) (by kernel_rfl) (by kernel_rfl) (fun _ _ _ h => h) (Or.inl ⟨by rfl, ?y9_71⟩) (by assumption) ?r9_71
      case y9_71 => (intro w hSw; (try dsimp only at hSw); go_simp; first | done | with_reducible rfl)
      try simp only [Act.put, List.getElem_toArray, List.getElem_cons_succ, List.getElem_cons_zero, List.setIfInBounds_toArray, List.set_cons_zero, List.set_cons_succ]
      refine wpAnyH_take (i := 10) (v := ?v10_72) rfl (by kernel_rfl) (by kernel_rfl) (by kernel_rfl) (fun _ _ _ h => h) (Or.inl ⟨by rfl, ?y10_72⟩) (by assumption) ?r10_72
      case y10_72 => (intro w hSw; (try dsimp only at hSw); go_simp; first | done | with_reducible rfl)
      try simp only [Act.put, List.getElem_toArray, List.getElem_cons_succ, List.getElem_cons_zero, List.setIfInBounds_toArray, List.set_cons_zero, List.set_cons_succ]
      refine wpAnyH_take (i := 11) (v := ?v11_73) rfl (by kernel_rfl) (by kernel_rfl) (by kernel_rfl) (fun _ _ _ h => h) (Or.inl ⟨by rfl, ?y11_73⟩) (by assumption) ?r11_73
      case y11_73 => (intro w hSw; (try dsimp only at hSw); go_simp; first | done | with_reducible rfl)
      try simp only [Act.put, List.getElem_toArray, List.getElem_cons_succ, List.getElem_cons_zero, List.setIfInBounds_toArray, List.set_cons_zero, List.set_cons_succ]
      refine wpAnyH_take (i := 12) (v := ?v12_74) rfl (by kernel_rfl) (by kernel_rfl) (by kernel_rfl) (fun _ _ _ h => h) (Or.inl ⟨by rfl, ?y12_74⟩) (by assumption) ?r12_74
      case y12_74 => (intro w hSw; (try dsimp only at hSw); go_simp; first | done | with_reducible rfl)
      try simp only [Act.put, List.getElem_toArray, List.getElem_cons_succ, List.getElem_cons_zero, List.setIfInBounds_toArray, List.set_cons_zero, List.set_cons_succ]
      refine wpAnyH_take (i := 13) (v := ?v13_75) rfl (by kernel_rfl) (by kernel_rfl) (by kernel_rfl) (fun _ _ _ h => h) (Or.inl ⟨by rfl, ?y13_75⟩) (by assumption) ?r13_75
      case y13_75 => (intro w hSw; (try dsimp only at hSw); go_simp; first | done | with_reducible rfl)
      try simp only [Act.put, List.getElem_toArray, List.getElem_cons_succ, List.getElem_cons_zero, List.setIfInBounds_toArray, List.set_cons_zero, List.set_cons_succ]
      refine wpAnyH_take (i := 15) (v := ?v15_76) rfl (by kernel_rfl) (by kernel_rfl) (by kernel_rfl) (fun _ _ _ h => h) (Or.inl ⟨by rfl, ?y15_76⟩) (by assumption) ?r15_76
      case y15_76 => (intro w hSw; (try dsimp only at hSw); go_simp; first | done | with_reducible rfl)
      try simp only [Act.put, List.getElem_toArray, List.getElem_cons_succ, List.getElem_cons_zero, List.setIfInBounds_toArray, List.set_cons_zero, List.set_cons_succ]
      refine wpAnyH_take (i := 16) (v := ?v16_77) rfl (by kernel_rfl) (by kernel_rfl) (by kernel_rfl) (fun _ _ _ h => h) (Or.inl ⟨by rfl, ?y16_77⟩) (by assumption) ?r16_77
      case y16_77 => (intro w hSw; (try dsimp only at hSw); go_simp; first | done | with_reducible rfl)
      try simp only [Act.put, List.getElem_toArray, List.getElem_cons_succ, List.getElem_cons_zero, List.setIfInBounds_toArray, List.set_cons_zero, List.set_cons_succ]
      refine wpAnyH_take (i := 17) (v := ?v17_78) rfl (by kernel_rfl) (by kernel_rfl) (by kernel_rfl) (fun _ _ _ h => h) (Or.inl ⟨by rfl, ?y17_78⟩) (by assumption) ?r17_78
      case y17_78 => (intro w hSw; (try dsimp only at hSw); go_simp; first | done | with_reducible rfl)
      try simp only [Act.put, List.getElem_toArray, List.getElem_cons_succ, List.getElem_cons_zero, List.setIfInBounds_toArray, List.set_cons_zero, List.set_cons_succ]
      refine wpAnyH_take (i := 18) (v := ?v18_79) rfl (by kernel_rfl) (by kernel_rfl) (by kernel_rfl) (fun _ _ _ h => h) (Or.inl ⟨by rfl, ?y18_79⟩) (by assumption) ?r18_79
      case y18_79 => (intro w hSw; (try dsimp only at hSw); go_simp; first | done | with_reducible rfl)
      try simp only [Act.put, List.getElem_toArray, List.getElem_cons_succ, List.getElem_cons_zero, List.setIfInBounds_toArray, List.set_cons_zero, List.set_cons_succ]
      refine wpAnyH_ready (rs := [14]) (by kernel_rfl) (by simp) ?_
      refine AllReadyH.cons rfl (fun K hK => ?_) AllReadyH.nil
      go_simp
      with_reducible refine (HFO.out _).mono ?_
      simp only [Bool.true_or, Bool.false_or]
      rintro ev w9 ⟨rfl, k9⟩
      have KC := Lib.hid (KC.out.trans' k9)
      clear k9
      try dsimp only
      refine hK.out _ _ (KEEP.out _ KC.out) (fun hHeld => ?_)
      clear hK K
      try simp only [Act.put, List.getElem_toArray, List.getElem_cons_succ, List.getElem_cons_zero, List.setIfInBounds_toArray, List.set_cons_zero, List.set_cons_succ]
      refine wpAnyH_take (i := 19) (v := ?v19_80) rfl (by kernel_rfl) (by kernel_rfl) (by kernel_rfl) (fun _ _ _ h => h) (Or.inl ⟨by rfl, ?y19_80⟩) (by assumption) ?r19_80
      case y19_80 => (intro w hSw; (try dsimp only at hSw); go_simp; first | done | with_reducible rfl)
      try simp only [Act.put, List.getElem_toArray, List.getElem_cons_succ, List.getElem_cons_zero, List.setIfInBounds_toArray, List.set_cons_zero, List.set_cons_succ]
      refine wpAnyH_take (i := 20) (v := undef) rfl (by kernel_rfl) (by kernel_rfl) (by kernel_rfl) (fun _ _ _ h => h) (Or.inr ⟨by rfl, rfl⟩) (by assumption) ?_
      try simp only [Act.put, List.getElem_toArray, List.getElem_cons_succ, List.getElem_cons_zero, List.setIfInBounds_toArray, List.set_cons_zero, List.set_cons_succ]
      refine wpAnyH_take (i := 21) (v := undef) rfl (by kernel_rfl) (by kernel_rfl) (by kernel_rfl) (fun _ _ _ h => h) (Or.inr ⟨by rfl, rfl⟩) (by assumption) ?_
      try simp only [Act.put, List.getElem_toArray, List.getElem_cons_succ, List.getElem_cons_zero, List.setIfInBounds_toArray, List.set_cons_zero, List.set_cons_succ]
      refine wpAnyH_take (i := 22) (v := undef) rfl (by kernel_rfl) (by kernel_rfl) (by kernel_rfl) (fun _ _ _ h => h) (Or.inr ⟨by rfl, rfl⟩) (by assumption) ?_
      try simp only [Act.put, List.getElem_toArray, List.getElem_cons_succ, List.getElem_cons_zero, List.setIfInBounds_toArray, List.set_cons_zero, List.set_cons_succ]
      refine wpAnyH_take (i := 23) (v := undef) rfl (by kernel_rfl) (by kernel_rfl) (by kernel_rfl) (fun _ _ _ h => h) (Or.inr ⟨by rfl, rfl⟩) (by assumption) ?_
      try simp only [Act.put, List.getElem_toArray, List.getElem_cons_succ, List.getElem_cons_zero, List.setIfInBounds_toArray, List.set_cons_zero, List.set_cons_succ]
      refine wpAnyH_take (i := 24) (v := ?v24_81) rfl (by kernel_rfl) (by kernel_rfl) (by kernel_rfl) (fun _ _ _ h => h) (Or.inl ⟨by rfl, ?y24_81⟩) (by assumption) ?r24_81
      case y24_81 => (intro w hSw; (try dsimp only at hSw); go_simp; first | done | with_reducible rfl)
      try simp only [Act.put, List.getElem_toArray, List.getElem_cons_succ, List.getElem_cons_zero, List.setIfInBounds_toArray, List.set_cons_zero, List.set_cons_succ]
      refine wpAnyH_take (i := 25) (v := ?v25_82) rfl (by kernel_rfl) (by kernel_rfl) (by kernel_rfl) (fun _ _ _ h => h) (Or.inl ⟨by rfl, ?y25_82⟩) (by assumption) ?r25_82
      case y25_82 => (intro w hSw; (try dsimp only at hSw); go_simp; first | done | with_reducible rfl)
      try simp only [Act.put, List.getElem_toArray, List.getElem_cons_succ, List.getElem_cons_zero, List.setIfInBounds_toArray, List.set_cons_zero, List.set_cons_succ]
      refine wpAnyH_take (i := 26) (v := ?v26_83) rfl (by kernel_rfl) (by kernel_rfl) (by kernel_rfl) (fun _ _ _ h => h) (Or.inl ⟨by rfl, ?y26_83⟩) (by assumption) ?r26_83
      case y26_83 => (intro w hSw; (try dsimp only at hSw); go_simp; first | done | with_reducible rfl)
      try simp only [Act.put, List.getElem_toArray, List.getElem_cons_succ, List.getElem_cons_zero, List.setIfInBounds_toArray, List.set_cons_zero, List.set_cons_succ]
      refine wpAnyH_done (by kernel_rfl) ?_ _
      go_wp2_with fail
      go_meet
      exact ⟨by simp, KC.out⟩
  case rest =>
    obtain ⟨rfl, hkc⟩ := hcut
    have D6 := Lib.hid (D6.out.kept hkc (fun x => x))
    have O6 := Lib.hid (own_kp O5.out hkc (fun _ _ x => x))
    have R6 := Lib.hid (R5.out.kp hkc (fun _ _ _ x => x))
    have B6 := Lib.hid (B5.out.kept hkc (fun x => x))
    have K6 := Lib.hid (K5.out.trans' hkc)
    have E6 := Lib.hid (E5.out.kept hkc (fun x => x))
    have X6 := Lib.hid (X5.out.kp hkc (fun _ _ _ x => x))
    clear hkc
    have hform : 0 < m → ∃ gb, A2 = some ⟨gb, 0, none⟩ := fun hp => by
      obtain ⟨gb, d', e, _⟩ := own_form O6.out hp
      cases e
      exact ⟨gb, rfl⟩
    have hbase : ∀ gb, A2 = some ⟨gb, 0, none⟩ → w2.heap.size ≤ gb ∧ gb ≠ g6 := by
      rintro gb rfl
      exact ⟨(O6.out.lt gb rfl).1, fun h => own_type5 O6.out D6.out (by decide) (by rw [← h]; rfl)⟩
    have hcells : ∀ gb, A2 = some ⟨gb, 0, none⟩ → ∃ cur : Array Value, Bk wc gb 5 cur ∧ ∀ j, j < m → ∃ y, cur[j]? = some (.int .u8 y) := by
      rintro gb rfl
      exact own_cells O6.out
    have HFORM := Lib.hid hform
    have HBASE := Lib.hid hbase
    have hm63 : (m : Int) ≤ 1500 := by omega
    clear hform hbase
    go_wp2_with fail
    go_loopw [10] (fun v wr => ∃ i : Nat, v = .int .i64 i ∧ i ≤ m ∧ Kp (fun b => A2 = some ⟨b, 0, none⟩) wc wr ∧ ∀ gb, A2 = some ⟨gb, 0, none⟩ → ∃ cur : Array Value, Bk wr gb 5 cur ∧ ∀ j, j < m → ∃ y, cur[j]? = some (.int .u8 y)) (fun v _ => m - (intOf v).toNat)
    case atStart => exact ⟨0, rfl, by omega, Kp.refl _ _, hcells⟩
    case round =>
      obtain ⟨i, rfl, hi, hkr, hcr⟩ := hrel
      have dr := D6.out.kept hkr (fun h => (HBASE.out _ h).2 rfl)
      have q13 : wr.cell? ⟨g6, 13, none⟩ = some (Value.slice A2 m c2) := dr.cell 13
      have HKR := Lib.hid hkr
      have HCR := Lib.hid hcr
      have DR := Lib.hid dr
      clear hkr hcr dr hcells
      by_cases hlt : i < m
      · obtain ⟨gb, rfl⟩ := HFORM.out (by omega)
        obtain ⟨cur, hcur, hy⟩ := HCR.out gb rfl
        obtain ⟨y, hyi⟩ := hy i hlt
        have hq := hcur.cell i
        rw [hyi] at hq
        have hfz := hcur.frozen i
        have hne := (HBASE.out gb rfl).2
        have hne' : g6 ≠ gb := fun h => hne h.symm
        have i0 : (0 : Int) ≤ (i : Int) := by omega
        have i1 : (i : Int) < (m : Int) := by omega
        have HY := Lib.hid hy
        have HCU := Lib.hid hcur
        clear hy hcur hyi
        go_wp2_with fail
        go_roundw
        case rel => exact ⟨i + 1, by go_num, by omega, HKR.out.setCell (p := ⟨gb, i, none⟩) (Or.inl rfl) _, fun gb' h => by cases h; exact ⟨_, HCU.out.put i _, cells_put HY.out i _⟩⟩
        case measure => simp [intOf]; omega
      · have hw2 : w.heap.size ≤ w2.heap.size := K2.out.size
        have RR := Lib.hid (R6.out.kp HKR.out (fun b o h hS => by have := H5L.out b o h; have := (HBASE.out b hS).1; omega))
        have XR := Lib.hid (X6.out.kp HKR.out (fun b o h hS => by have := HAL.out (by omega) b o h; have := (HBASE.out b hS).1; omega))
        have KR := Lib.hid (K6.out.trans HKR.out (fun b hb hS => by have := (HBASE.out b hS).1; omega))
        have hnl : ¬ ((i : Int) < (m : Int)) := by omega
        go_wp2_with fail
        clear q13
        have hsb := sameBytes_any A5 A c5 c xs xs _ RR.out XR.out
        rw [HN.out] at hsb
        refine hsb.mono ?_
        rintro ev w7 ⟨rfl, nn, rfl⟩
        rw [show (xs == xs) = true by simp]
        clear hsb
        go_wp2_with fail
        refine (HEP.out A5 n c5 _ (RR.out.drewN nn) rfl hc5).mono ?_
        rintro ev w8 ⟨A7, c7, rfl, own7, k8⟩
        have k8 := Kp.undrewN k8
        have d8' := DR.out.kept k8 (fun x => x)
        have O8 := Lib.hid own7
        have q0 : _ = some (Value.int IntKind.u8 (t 0)) := d8'.cell 0
        have z0 := d8'.frozen 0
        have q1 : _ = some (Value.int IntKind.u8 (t 1)) := d8'.cell 1
        have z1 := d8'.frozen 1
        have q2 : _ = some (Value.int IntKind.u8 (t 2)) := d8'.cell 2
        have z2 := d8'.frozen 2
        have q3 : _ = some (Value.int IntKind.u8 (t 3)) := d8'.cell 3
        have z3 := d8'.frozen 3
        have q4 : _ = some (Value.int IntKind.u8 (t 4)) := d8'.cell 4
        have z4 := d8'.frozen 4
        have q5 : _ = some (Value.int IntKind.u8 (t 5)) := d8'.cell 5
        have z5 := d8'.frozen 5
        have q6 : _ = some (Value.int IntKind.u8 (f 0)) := d8'.cell 6
        have z6 := d8'.frozen 6
        have q7 : _ = some (Value.int IntKind.u8 (f 1)) := d8'.cell 7
        have z7 := d8'.frozen 7
        have q8 : _ = some (Value.int IntKind.u8 (f 2)) := d8'.cell 8
        have z8 := d8'.frozen 8
        have q9 : _ = some (Value.int IntKind.u8 (f 3)) := d8'.cell 9
        have z9 := d8'.frozen 9
        have q10 : _ = some (Value.int IntKind.u8 (f 4)) := d8'.cell 10
        have z10 := d8'.frozen 10
        have q11 : _ = some (Value.int IntKind.u8 (f 5)) := d8'.cell 11
        have z11 := d8'.frozen 11
        have q12 : _ = some (Value.int IntKind.u16 k) := d8'.cell 12
        have z12 := d8'.frozen 12
        have q13 : _ = some (Value.slice A2 m c2) := d8'.cell 13
        have z13 := d8'.frozen 13
        have HD8 := Lib.hid d8'
        have hw3 : w2.heap.size ≤ g6 := hg6
        have hw6 : w2.heap.size ≤ w8.heap.size := by have := k8.size; have := HKR.out.size; have := DR.out.lt; have := D6.out.lt; omega
        have X8 := Lib.hid (XR.out.kp k8 (fun _ _ _ x => x))
        have K8 := Lib.hid (KR.out.trans' k8)
        have hot := own_type5 O8.out d8' (by decide)
        have HOT := Lib.hid hot
        clear k8 own7 d8' hot
        go_upto_region 19 with fail
        clear q0 z0 q1 z1 q2 z2 q3 z3 q4 z4 q5 z5 q6 z6 q7 z7 q8 z8 q9 z9 q10 z10 q11 z11 q12 z12 q13 z13
        obtain ⟨hb9, k9⟩ := store14 (v0 := .int .u8 (t 0)) (v1 := .int .u8 (t 1)) (v2 := .int .u8 (t 2)) (v3 := .int .u8 (t 3)) (v4 := .int .u8 (t 4)) (v5 := .int .u8 (t 5)) (v6 := .int .u8 (f 0)) (v7 := .int .u8 (f 1)) (v8 := .int .u8 (f 2)) (v9 := .int .u8 (f 3)) (v10 := .int .u8 (f 4)) (v11 := .int .u8 (f 5)) (v12 := .int .u16 k) (v13 := .slice A7 m c7) HD8.out
        generalize ((((((((((((((w8.setCell ⟨g6, 0, none⟩ (.int .u8 (t 0))).setCell ⟨g6, 1, none⟩ (.int .u8 (t 1))).setCell ⟨g6, 2, none⟩ (.int .u8 (t 2))).setCell ⟨g6, 3, none⟩ (.int .u8 (t 3))).setCell ⟨g6, 4, none⟩ (.int .u8 (t 4))).setCell ⟨g6, 5, none⟩ (.int .u8 (t 5))).setCell ⟨g6, 6, none⟩ (.int .u8 (f 0))).setCell ⟨g6, 7, none⟩ (.int .u8 (f 1))).setCell ⟨g6, 8, none⟩ (.int .u8 (f 2))).setCell ⟨g6, 9, none⟩ (.int .u8 (f 3))).setCell ⟨g6, 10, none⟩ (.int .u8 (f 4))).setCell ⟨g6, 11, none⟩ (.int .u8 (f 5))).setCell ⟨g6, 12, none⟩ (.int .u16 k)).setCell ⟨g6, 13, none⟩ (.slice A7 m c7)) = w9 at *
        have X9 := Lib.hid (X8.out.kp k9 (fun b o h hS => by have := HAL.out (by omega) b o h; have hS' : b = g6 := hS; omega))
        have K9 := Lib.hid (K8.out.trans k9 (fun b hb hS => by have hS' : b = g6 := hS; omega))
        have O9 := Lib.hid (own_kp O8.out k9 (fun j hj h => HOT.out (by rw [← h]; exact hj)))
        have q0 : _ = some (Value.int IntKind.u8 (t 0)) := hb9.cell 0
        have q1 : _ = some (Value.int IntKind.u8 (t 1)) := hb9.cell 1
        have q2 : _ = some (Value.int IntKind.u8 (t 2)) := hb9.cell 2
        have q3 : _ = some (Value.int IntKind.u8 (t 3)) := hb9.cell 3
        have q4 : _ = some (Value.int IntKind.u8 (t 4)) := hb9.cell 4
        have q5 : _ = some (Value.int IntKind.u8 (t 5)) := hb9.cell 5
        have q6 : _ = some (Value.int IntKind.u8 (f 0)) := hb9.cell 6
        have q7 : _ = some (Value.int IntKind.u8 (f 1)) := hb9.cell 7
        have q8 : _ = some (Value.int IntKind.u8 (f 2)) := hb9.cell 8
        have q9 : _ = some (Value.int IntKind.u8 (f 3)) := hb9.cell 9
        have q10 : _ = some (Value.int IntKind.u8 (f 4)) := hb9.cell 10
        have q11 : _ = some (Value.int IntKind.u8 (f 5)) := hb9.cell 11
        have q12 : _ = some (Value.int IntKind.u16 k) := hb9.cell 12
        have q13 : _ = some (Value.slice A7 m c7) := hb9.cell 13
        clear hb9 k9
        go_wp2_with fail
        clear q0 q1 q2 q3 q4 q5 q6 q7 q8 q9 q10 q11 q12 q13
        refine (ebytes_mid t f k A7 m c7 ys _ hm15 hk16 (own_rd2 O9.out) HM.out.symm (own_none2 O9.out)).mono ?_
        rintro ev w10 ⟨s10, rfl, own10, k10⟩
        have own10 : w10.ownsRow _ 5 1 s10 (14 + m) (intsK .u8 (fbytes t f k ys)) := own10
        rw [HBK.out] at own10
        obtain ⟨A10, c10, rfl, hl10, r10, _⟩ := RdI.of_own (k := .u8) (xs := xs) own10
        have R10 := Lib.hid r10
        have X10 := Lib.hid (X9.out.kp k10 (fun _ _ _ x => x))
        have K10 := Lib.hid (K9.out.trans' k10)
        have h14m : 14 + m = n := by rw [HMN.out]; omega
        rw [h14m]
        clear own10 hl10 r10 k10 h14m
        go_wp2_with fail
        have hsb := sameBytes_any A10 A c10 c xs xs _ R10.out X10.out
        rw [HN.out] at hsb
        refine hsb.mono ?_
        rintro ev w11 ⟨rfl, nn2, rfl⟩
        rw [show (xs == xs) = true by simp]
        clear hsb
        go_wp2_with fail
        go_ret
        exact ⟨rfl, K10.out.drewN nn2⟩
theorem parses_walk (A : Option Addr) (c : Nat) (xs : List Int) (mm : Nat → Int) (w : World) (hE : Et w) (hx : RdI w .u8 A xs) (hb : Byt xs) (h0 : A = none → c = 0) (hc : xs.length ≤ c) :
    Calls Tryd.prog 11 #[.slice A xs.length c, .agg (mac mm)] w fun ev w' => ev = .returned (.bool true) ∧ Kp (fun _ => False) w w' := by
  by_cases h : Bad xs
  · exact parses_bad A c xs mm w hE hx hb h0 hc h
  · exact parses_good A c xs mm w hE hx hb h0 hc h
end Go.Proofs.YtconpcnmccmbiaaDoor
