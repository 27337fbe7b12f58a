/- Place: the walk of Parse. -/
import Derived.Test.YtkafdpidhelfdaaDoorPsq
import Derived.Test.YtkafdpidhelfdaaDoorPnt
import Derived.Test.YtkafdpidhelfdaaDoorPnw
import Derived.RangeFuncBound
import Derived.RangeFuncCalls
set_option linter.unusedVariables false
set_option linter.unusedSimpArgs false
namespace Go.Proofs.YtkafdpidhelfdaaDoor
open Go.RowKit Go.Shelf
attribute [local go_sem] Oper.semAt_some

/-- One part more. -/
def pstep (o : Option Nat) (p : PB) : Option Nat := match o, part8 p.1.data.toList with | some ip, some n => some (ip * 256 % 4294967296 ||| n) | _, _ => none
def pfold (l : List PB) : Option Nat := l.foldl pstep (some 0)
theorem pfold_snoc (l : List PB) (x : PB) : pfold (l ++ [x]) = pstep (pfold l) x := by unfold pfold; rw [List.foldl_append]; rfl
/-- What Parse answers. -/
def parseV (s : ByteArray) : Value := match pfold (partsB s) with | some ip => if textL ip = s.data.toList then .tuple #[.int .u32 (ip : Int), .int .i64 0] else .tuple #[.int .u32 0, .int .i64 10] | none => .tuple #[.int .u32 0, .int .i64 10]
theorem bx_own {B B0 : Nat} {t : TypeId} {v : Value} {X Y : World} {row : Option Nat} (hb : Boxed X B t v) (hg : X.grownBy Y row) (hr : ∀ r, row = some r → B0 ≤ r ∧ ∃ o : Obj, X.heap[r]? = some o ∧ o.isCells = false) : Boxed Y B t v :=
  boxed_own (β := Unit) B t (fun _ => v) () X Y row hb hg (fun r e => (hr r e).2)
theorem part8_lt {l : List UInt8} {n : Nat} (h : part8 l = some n) : n < 256 := by
  unfold part8 at h
  by_cases he : l = []
  · rw [if_pos he] at h; cases h
  · rw [if_neg he] at h
    have key : ∀ (l : List UInt8) (acc m : Nat), acc ≤ 255 → Lib.parseUintM 255 acc l = .ok m → m ≤ 255 := by
      intro l
      induction l with
      | nil => intro acc m ha h; unfold Lib.parseUintM at h; injection h with h; omega
      | cons c r ih =>
        intro acc m ha h
        unfold Lib.parseUintM at h
        split at h
        · split at h
          · cases h
          · split at h
            · cases h
            · exact ih _ _ (by omega) h
        · cases h
    split at h
    · rename_i m hm
      injection h with h
      have := key l 0 m (by omega) hm
      omega
    · cases h
theorem bx_kp {B : Nat} {t : TypeId} {v : Value} {X Y : World} (hb : Boxed X B t v) (hk : Kp (fun _ => False) X Y) : Boxed Y B t v := (hk.block B hb.lt (fun f => f)).trans hb
theorem kf_kp {B : Nat} {X Y : World} (hk : Kp (fun _ => False) X Y) : KeepsFrom B X Y := ⟨hk.size, fun k o _ h _ => (hk.block k (Array.getElem?_eq_some_iff.1 h).1 (fun f => f)).trans h⟩
theorem pfold_pre {pre l : List PB} (h : pre <+: l) (hn : pfold pre = none) : pfold l = none := by
  obtain ⟨t, rfl⟩ := h
  unfold pfold at hn ⊢
  rw [List.foldl_append, hn]
  induction t with
  | nil => rfl
  | cons x t ih => exact ih
theorem step_lt {ip n : Nat} (h : n < 256) : (ip * 256 % 4294967296 ||| n) < 4294967296 := Nat.or_lt_two_pow (n := 32) (by omega) (by omega)
set_option maxRecDepth 1000000 in
set_option maxHeartbeats 8000000 in
theorem parse_in (n : Nat) (hn : 4 ≤ n) (s : ByteArray) (w : World) (hs : s.size ≤ 1000) (hl : Laid w) : CallsIn Fence.wide n Tryd.prog 25 #[.string s] w fun ev w' => ev = .returned (parseV s) ∧ Below w.heap.size w w' := by
  have h1 : 1 ≤ n := by omega
  have HS := Lib.hid (fun W => callsIn_wide (n := n - 1).2 (splitseq_ s ⟨#[46]⟩ W))
  refine callsIn_of_wp_marks Tryd.func25 rfl trivial ?_ rfl
  simp only [Tryd.ntmps25, List.size_toArray, List.length_cons, List.length_nil, Nat.reduceAdd, Nat.reduceSub, Array.replicate_succ, Array.replicate_zero, List.push_toArray, List.append_toArray, List.nil_append, List.cons_append]
  gi_wp2_with fail
  refine ⟨trivial, (HS.out _).mono ?_⟩
  rintro ev w1 ⟨rfl, hw1⟩
  gi_wp2_with fail
  obtain ⟨W0, hW0⟩ : ∃ W0, ((((((w.alloc (.cells #[.int .u32 0] 22)).alloc (.cells #[.int .i64 0] 38)).alloc (.cells #[.int .u32 0] 22)).alloc (.cells #[.string s] 9)).alloc (.cells #[.string ⟨#[46]⟩] 9)).alloc (.cells #[.int .i64 0] 3)) = W0 := ⟨_, rfl⟩
  have z0 : W0.heap.size = w.heap.size + 6 := by rw [← hW0]; simp [World.size_alloc]
  have hB : Below w.heap.size w W0 := by
    rw [← hW0]
    exact ((((((Below.refl _ _).alloc (Nat.le_refl _) _).alloc (by simp) _).alloc (by simp; omega) _).alloc (by simp; omega) _).alloc (by simp; omega) _).alloc (by simp; omega) _
  have b0 : Boxed W0 w.heap.size 22 (.int .u32 0) := by
    rw [← hW0]
    exact (((((Boxed.new w 22 _).alloc _).alloc _).alloc _).alloc _).alloc _
  have bx (X : World) (t : TypeId) (v : Value) (k : Nat) (hk : X.heap.size = k) : Boxed (X.alloc (.cells #[v] t)) k t v := hk ▸ Boxed.new X t v
  have b1 : Boxed W0 (w.heap.size + 1) 38 (.int .i64 0) := by
    rw [← hW0]
    exact ((((bx _ 38 _ _ (by simp)).alloc _).alloc _).alloc _).alloc _
  have b2 : Boxed W0 (w.heap.size + 1 + 1) 22 (.int .u32 0) := by
    rw [← hW0]
    exact (((bx _ 22 _ _ (by simp)).alloc _).alloc _).alloc _
  have b3 : Boxed W0 (w.heap.size + 1 + 1 + 1) 9 (.string s) := by
    rw [← hW0]
    exact ((bx _ 9 _ _ (by simp)).alloc _).alloc _
  have b4 : Boxed W0 (w.heap.size + 1 + 1 + 1 + 1) 9 (.string ⟨#[46]⟩) := by
    rw [← hW0]
    exact (bx _ 9 _ _ (by simp)).alloc _
  have b5 : Boxed W0 (w.heap.size + 1 + 1 + 1 + 2) 3 (.int .i64 0) := by
    rw [← hW0]
    exact bx _ 3 _ _ (by simp)
  rw [hW0]
  have HL := Lib.hid hl
  have hseq := split_box (n - 1) (by omega) (w.heap.size + 1 + 1 + 1) s W0 (by omega) (by omega) b3.cell b3.frozen b4.cell b5.cell
  clear hW0 bx b3 b4 b5 hl HS
  refine wpIn_rangeFunc_box (F := Fence.wide) (n := n) (P := Tryd.prog) rfl h1 (gf := 55) (lb := #[.pointer (some ⟨w.heap.size + 1 + 1 + 1 + 1, 0, none⟩), .pointer (some ⟨w.heap.size + 1 + 1 + 1, 0, none⟩), .pointer (some ⟨w.heap.size + 1 + 1 + 1 + 2, 0, none⟩)]) rfl trivial (enters_of Tryd.func55 (by kernel_rfl) rfl)
    hseq (Below.refl _ _) (by omega) (fun _ => rfl)
    (fun pre W => (∃ v : Nat, pfold pre = some v ∧ v < 4294967296 ∧ Boxed W (w.heap.size + 1 + 1) 22 (.int .u32 (v : Int))) ∧ Boxed W w.heap.size 22 (.int .u32 0) ∧ Boxed W (w.heap.size + 1) 38 (.int .i64 0) ∧ Below w.heap.size w W ∧ W0.heap.size ≤ W.heap.size)
    (fun c pre W => c = .ret ∧ pfold pre = none ∧ Boxed W w.heap.size 22 (.int .u32 0) ∧ Boxed W (w.heap.size + 1) 38 (.int .i64 10) ∧ Below w.heap.size w W)
    (fun pre X Y row h hg hr => ⟨h.1.imp fun v hv => ⟨hv.1, hv.2.1, bx_own hv.2.2 hg hr⟩, bx_own h.2.1 hg hr, bx_own h.2.2.1 hg hr, ownFrom_below (β := Unit) (w₀ := w) (Nat.le_refl _) (by omega) () X Y row h.2.2.2.1 hg hr, Nat.le_trans h.2.2.2.2 hg.size⟩)
    (fun c pre X Y row h hg hr => ⟨h.1, h.2.1, bx_own h.2.2.1 hg hr, bx_own h.2.2.2.1 hg hr, ownFrom_below (β := Unit) (w₀ := w) (Nat.le_refl _) (by omega) () X Y row h.2.2.2.2 hg hr⟩)
    (fun pre W v h => ⟨h.1.imp fun u hu => ⟨hu.1, hu.2.1, hu.2.2.other (by omega) v⟩, h.2.1.other (by omega) v, h.2.2.1.other (by omega) v, h.2.2.2.1.setCell (p := ⟨w.heap.size + 1 + 1 + 1, 0, none⟩) (by show w.heap.size ≤ w.heap.size + 1 + 1 + 1; omega) v, Nat.le_trans h.2.2.2.2 (KeepsOthers.setCell W _ v).size⟩)
    ⟨⟨0, rfl, by omega, b2⟩, b0, b1, hB, Nat.le_refl _⟩
    (fun x => { tmps := #[.string s, undef, .pointer (some ⟨w.heap.size, 0, none⟩), .pointer (some ⟨w.heap.size + 1, 0, none⟩), .pointer (some ⟨w.heap.size + 1 + 1, 0, none⟩), .string x.1, undef, undef, .string s, .func (.func 55) #[] #[.pointer (some ⟨w.heap.size + 1 + 1 + 1 + 1, 0, none⟩), .pointer (some ⟨w.heap.size + 1 + 1 + 1, 0, none⟩), .pointer (some ⟨w.heap.size + 1 + 1 + 1 + 2, 0, none⟩)], .string x.1, undef, undef, undef, undef, undef, undef, undef, undef, undef, undef, undef, undef, undef, undef, undef, undef, undef], defers := [] }) ?assign ?body ?done ?stop
  case assign =>
    intro l x W K hK
    gi_wp2
    exact hK
  case body =>
    rintro l pre x W hl ⟨⟨v, hv, hv32, hbv⟩, hb0, hb1, hBW, hsz⟩ hlen
    have HLW := Lib.hid (HL.out.keep (Kp.of_below hBW (fun _ => False)))
    cases hp : part8 x.1.data.toList with
    | none =>
      have HP := Lib.hid ((callsIn_wide (n := n - 1 - 1 - 1).2 (pu_err x.1 x.2 W HLW.out hp)).inRound l)
      gi_wp2_with fail
      refine ⟨trivial, fun _ => by omega, HP.out.mono ?_⟩
      rintro ev w1 ⟨m, N, rfl, k1⟩
      have c0 := bx_kp hb0 k1
      have c1 := bx_kp hb1 k1
      have q0 := c0.cell
      have q1 := c1.cell
      have r0 := c0.frozen
      have r1 := c1.frozen
      have hBw := hBW.trans (k1.below.mono hBW.size)
      have hkf := kf_kp (B := W0.heap.size) k1
      clear HP HLW k1
      gi_wp2_with fail
      exact ⟨(hkf.trans ((KeepsOthers.setCell _ _ _).from _)).trans ((KeepsOthers.setCell _ _ _).from _), rfl, by rw [pfold_snoc, hv]; unfold pstep; rw [hp], (c0.set _).other (by omega) _, (c1.other (by omega) _).set _, (hBw.setCell (p := ⟨w.heap.size, 0, none⟩) (Nat.le_refl _) _).setCell (p := ⟨w.heap.size + 1, 0, none⟩) (by show w.heap.size ≤ w.heap.size + 1; omega) _⟩
    | some m =>
      have HP := Lib.hid ((callsIn_wide (n := n - 1 - 1 - 1).2 (pu_ok x.1 x.2 W m hp)).inRound l)
      have hm := part8_lt hp
      have s1 : IntKind.u32.wrap ((v : Int) * 256) = ((v * 256 % 4294967296 : Nat) : Int) := by
        show ((v : Int) * 256) % 4294967296 = _
        omega
      have s2 : IntKind.u32.wrap (m : Int) = (m : Int) := by
        show (m : Int) % 4294967296 = _
        omega
      have s3 : bits BinOp.or IntKind.u32 ((v * 256 % 4294967296 : Nat) : Int) (m : Int) = ((v * 256 % 4294967296 ||| m : Nat) : Int) := u32_or_nat _ _ (by omega) (by omega)
      have s4 := step_lt (ip := v) hm
      have hpf : pfold (pre ++ [x]) = some (v * 256 % 4294967296 ||| m) := by rw [pfold_snoc, hv]; unfold pstep; rw [hp]
      generalize (v * 256 % 4294967296 ||| m) = v2 at *
      generalize v * 256 % 4294967296 = v1 at *
      gi_wp2_with fail
      refine ⟨trivial, fun _ => by omega, HP.out.mono ?_⟩
      rintro ev w1 ⟨rfl, k1⟩
      have c0 := bx_kp hb0 k1
      have c1 := bx_kp hb1 k1
      have c2 := bx_kp hbv k1
      have q2 := c2.cell
      have r2 := c2.frozen
      have hBw := hBW.trans (k1.below.mono hBW.size)
      have hkf := kf_kp (B := W0.heap.size) k1
      have hkb : KB (w.heap.size + 1 + 1 + 1) W w1 := fun k h1 h2 => k1.block k (by omega) (fun f => f)
      clear HP HLW k1
      gi_wp2_with fail
      exact ⟨hkf.trans ((KeepsOthers.setCell _ _ _).from _), fun k h1 h2 => (Below.heap_setCell _ _ _ k (by show k ≠ w.heap.size + 1 + 1; omega)).trans (hkb k h1 h2), ⟨_, hpf, s4, c2.set _⟩, c0.other (by omega) _, c1.other (by omega) _, hBw.setCell (p := ⟨w.heap.size + 1 + 1, 0, none⟩) (by show w.heap.size ≤ w.heap.size + 1 + 1; omega) _, Nat.le_trans (Nat.le_trans hsz hkf.size) (KeepsOthers.setCell _ _ _).size⟩
  case done =>
    rintro D xs W hD rfl ⟨⟨v, hv, hv32, hbv⟩, hb0, hb1, hBW, hsz⟩ hK
    have q2 := hbv.cell
    have hpv : parseV s = if textL v = s.data.toList then .tuple #[.int .u32 (v : Int), .int .i64 0] else .tuple #[.int .u32 0, .int .i64 10] := by unfold parseV; rw [hv]
    obtain ⟨T, hT⟩ : ∃ T : ByteArray, T = ⟨(textL v).toArray⟩ := ⟨_, rfl⟩
    have HT := Lib.hid (callsIn_wide (n := n - 1).2 (text_ v W hv32 (HL.out.keep (Kp.of_below hBW (fun _ => False)))))
    have HT : Hid (CallsIn Fence.wide (n - 1) Tryd.prog 29 #[.int .u32 (v : Int)] W fun ev w' => ev = .returned (.string T) ∧ Kp (fun _ => False) W w') := by rw [hT]; exact HT
    have hDW : D < W.heap.size := (Array.getElem?_eq_some_iff.1 hK).1
    by_cases hTs : T = s
    · rw [if_pos (by rw [← hTs, hT])] at hpv
      have HPV := Lib.hid hpv
      rw [hTs] at HT
      clear hTs hT hpv
      gi_wp2_with fail
      refine ⟨trivial, HT.out.mono ?_⟩
      rintro ev w1 ⟨rfl, k1⟩
      have c0 := bx_kp hb0 k1
      have c1 := bx_kp hb1 k1
      have c2 := bx_kp hbv k1
      have hK1 := (k1.block D hDW (fun f => f)).trans hK
      have p0 := c0.cell
      have p1 := c1.cell
      have p2 := c2.cell
      have r0 := c0.frozen
      have r1 := c1.frozen
      have hBw := hBW.trans (k1.below.mono hBW.size)
      clear HT k1
      gi_wp2_with fail
      have hK3 := ((KeepsOthers.setCell w1 ⟨w.heap.size, 0, none⟩ (.int .u32 (v : Int))).trans (KeepsOthers.setCell _ ⟨w.heap.size + 1, 0, none⟩ (.int .i64 0))).same D _ hK1 rfl
      refine ⟨by simp, .inl ⟨_, _, rfl, run_takeDeferred hK3, ?_⟩⟩
      have hc0 := cell_kept ((c0.set (.int .u32 (v : Int))).other (B' := w.heap.size + 1) (by omega) (.int .i64 0)).cell (grownBy_putObj' _ D (.deferred none)) (fun r e => by cases e; exact ⟨_, hK3, rfl⟩)
      have hc1 := cell_kept ((c1.other (B' := w.heap.size) (by omega) (.int .u32 (v : Int))).set (.int .i64 0)).cell (grownBy_putObj' _ D (.deferred none)) (fun r e => by cases e; exact ⟨_, hK3, rfl⟩)
      refine ⟨.tuple #[.int .u32 (v : Int), .int .i64 0], ?_, ?_⟩
      · simp [results, Tryd.f25, go_sem, hc0, hc1]
      · exact ⟨by rw [HPV.out], ((hBw.setCell (p := ⟨w.heap.size, 0, none⟩) (Nat.le_refl _) _).setCell (p := ⟨w.heap.size + 1, 0, none⟩) (by show w.heap.size ≤ w.heap.size + 1; omega) _).trans (belowK_b (w := w) (Nat.le_refl _) _ D _ _ (by omega) hK3 rfl rfl)⟩
    · have hne : (T.toList == s.toList) = false := by
        rw [beq_eq_false_iff_ne, ByteArray.toList_eq, ByteArray.toList_eq]
        exact fun h => hTs (ByteArray.ext (by simpa using h))
      rw [if_neg (fun h => hTs (by rw [hT, h]))] at hpv
      have HPV := Lib.hid hpv
      clear hT hpv
      gi_wp2_with fail
      refine ⟨trivial, HT.out.mono ?_⟩
      rintro ev w1 ⟨rfl, k1⟩
      have c0 := bx_kp hb0 k1
      have c1 := bx_kp hb1 k1
      have hK1 := (k1.block D hDW (fun f => f)).trans hK
      have p0 := c0.cell
      have p1 := c1.cell
      have r0 := c0.frozen
      have r1 := c1.frozen
      have hBw := hBW.trans (k1.below.mono hBW.size)
      clear HT k1
      gi_wp2_with fail
      have hK3 := ((KeepsOthers.setCell w1 ⟨w.heap.size, 0, none⟩ (.int .u32 0)).trans (KeepsOthers.setCell _ ⟨w.heap.size + 1, 0, none⟩ (.int .i64 10))).same D _ hK1 rfl
      refine ⟨by simp, .inl ⟨_, _, rfl, run_takeDeferred hK3, ?_⟩⟩
      have hc0 := cell_kept ((c0.set (.int .u32 0)).other (B' := w.heap.size + 1) (by omega) (.int .i64 10)).cell (grownBy_putObj' _ D (.deferred none)) (fun r e => by cases e; exact ⟨_, hK3, rfl⟩)
      have hc1 := cell_kept ((c1.other (B' := w.heap.size) (by omega) (.int .u32 0)).set (.int .i64 10)).cell (grownBy_putObj' _ D (.deferred none)) (fun r e => by cases e; exact ⟨_, hK3, rfl⟩)
      refine ⟨.tuple #[.int .u32 0, .int .i64 10], ?_, ?_⟩
      · simp [results, Tryd.f25, go_sem, hc0, hc1]
      · exact ⟨by rw [HPV.out], ((hBw.setCell (p := ⟨w.heap.size, 0, none⟩) (Nat.le_refl _) _).setCell (p := ⟨w.heap.size + 1, 0, none⟩) (by show w.heap.size ≤ w.heap.size + 1; omega) _).trans (belowK_b (w := w) (Nat.le_refl _) _ D _ _ (by omega) hK3 rfl rfl)⟩
  case stop =>
    rintro D c pre W hD hpre ⟨rfl, hnone, hb0, hb1, hBW⟩ hK
    have HPV := Lib.hid (show parseV s = .tuple #[.int .u32 0, .int .i64 10] by unfold parseV; rw [pfold_pre hpre hnone])
    gi_wp2_with fail
    refine ⟨by simp, .inl ⟨_, _, rfl, run_takeDeferred hK, ?_⟩⟩
    have hc0 := cell_kept (hb0).cell (grownBy_putObj' _ D (.deferred none)) (fun r e => by cases e; exact ⟨_, hK, rfl⟩)
    have hc1 := cell_kept (hb1).cell (grownBy_putObj' _ D (.deferred none)) (fun r e => by cases e; exact ⟨_, hK, rfl⟩)
    refine ⟨.tuple #[.int .u32 0, .int .i64 10], ?_, ?_⟩
    · simp [results, Tryd.f25, go_sem, hc0, hc1]
    · exact ⟨by rw [HPV.out], (hBW).trans (belowK_b (w := w) (Nat.le_refl _) _ D _ _ (by omega) hK rfl rfl)⟩
theorem parse_ (s : ByteArray) (w : World) (hs : s.size ≤ 1000) (hl : Laid w) : Calls Tryd.prog 25 #[.string s] w fun ev w' => ev = .returned (parseV s) ∧ Kp (fun _ => False) w w' :=
  (callsIn_wide.1 (parse_in 8 (by omega) s w hs hl)).mono fun ev w' h => ⟨h.1, Kp.of_below h.2 _⟩
end Go.Proofs.YtkafdpidhelfdaaDoor
