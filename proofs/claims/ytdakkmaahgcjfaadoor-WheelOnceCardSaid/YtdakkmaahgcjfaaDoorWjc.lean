/- Wheel's reference: Cancel, Set told of rows. -/
import Derived.Test.YtdakkmaahgcjfaaDoorWic
import Derived.Test.YtdakkmaahgcjfaaDoorWja
set_option linter.unusedVariables false
set_option linter.unusedSimpArgs false
namespace Go.Proofs.YtdakkmaahgcjfaaDoor
open Go.RowKit

theorem rFind_none {t : Int} : ∀ {R : Rows}, rFind R t = none ↔ rdue t R = none
  | [] => by simp [rFind, rdue]
  | y :: R => by
    unfold rFind rdue
    rw [List.findIdx?_cons]
    by_cases h : y.1 = t
    · simp [h]
    · simp only [h, if_false, beq_iff_eq, Option.map_eq_none_iff]
      exact rFind_none
theorem rFind_cut {t : Int} : ∀ {R : Rows} {i : Nat}, (R.map Prod.fst).Nodup → rFind R t = some i → rCut R i = rdel t R ∧ (rdue t R).isSome = true
  | [], i, _, h => by simp [rFind] at h
  | y :: R, i, hn, h => by
    rw [List.map_cons, List.nodup_cons] at hn
    unfold rFind at h
    rw [List.findIdx?_cons] at h
    by_cases e : y.1 = t
    · simp [e] at h
      subst h
      have hh : rdel t R = R := rdel_none (rdue_none.2 (fun x hx ex => hn.1 (List.mem_map.2 ⟨x, hx, by rw [ex, e]⟩)))
      have h2 : rdel t (y :: R) = rdel t R := by simp [rdel, e]
      rw [h2, hh]
      exact ⟨by simp [rCut], by simp [rdue, e]⟩
    · simp only [e, if_false, beq_iff_eq] at h
      rcases hj : R.findIdx? (fun r => r.1 == t) with _ | j
      · rw [hj] at h; cases h
      · rw [hj] at h
        cases h
        obtain ⟨h1, h2⟩ := rFind_cut (R := R) (i := j) hn.2 hj
        have h3 : rdel t (y :: R) = y :: rdel t R := by simp [rdel, e]
        refine ⟨?_, by simp only [rdue, e, if_false]; exact h2⟩
        rw [h3, ← h1]
        simp [rCut]
theorem rcancel (g now : Nat) (R : Rows) (t : Int) (w : World) (h : RW w g now R) (hr : RS R) (hl : R.length ≤ 1000000) :
    Calls Tryd.prog 25 #[.pointer (some ⟨g, 0, none⟩), .int .i64 t] w fun ev w' => ev = .returned (.bool (rdue t R).isSome) ∧ RW w' g now (rdel t R) ∧ Kp (fun b => b = g) w w' := by
  rcases hf : rFind R t with _ | i
  · refine (rcancel_none g now R t w h hl hf).mono ?_
    rintro ev w' ⟨rfl, rfl⟩
    rw [rFind_none.1 hf, rdel_none (rFind_none.1 hf)]
    exact ⟨rfl, h, Kp.refl _ _⟩
  · refine (rcancel_some g now i R t w h hl hf).mono ?_
    rintro ev w' ⟨rfl, h1, k⟩
    obtain ⟨e1, e2⟩ := rFind_cut hr.nd hf
    rw [← e1, e2]
    exact ⟨rfl, h1, k⟩
theorem rowsC_snoc (R : Rows) (x : Int × Nat) : rowsC (R ++ [x]) = rowsC R ++ [.int .i64 x.1, .int .u64 (x.2 : Int)] := by rw [rowsC_append]; rfl
theorem two_one (a b : Int) : ∀ u ∈ [Value.int .i64 a, Value.int .u64 b], u.oneCell' = true := fun u hu => by
  simp at hu
  rcases hu with rfl | rfl <;> rfl
theorem cells_two_new (w : World) (t : TypeId) (a b : Value) : ∀ j u, [a, b][j]? = some u → (w.alloc (.cells #[a, b] t)).cell? ((⟨w.heap.size, 0, none⟩ : Addr).add j) = some u := by
  intro j u hu
  rw [add_at, Nat.zero_add]
  exact ((Bk.new w t #[a, b]).cell j).trans (by simpa using hu)
/-- Other rows are laid in. -/
theorem RW.relay {w wr : World} {g now n cap g' : Nat} {S out : Rows} (h : RW w g now S) (hk : Kp (fun _ => False) w wr) (hn : n = out.length) (hown : wr.ownsRow w.heap.size 73 2 (.slice (some ⟨g', 0, none⟩) n cap) n (rowsC out)) :
    RW (wr.setCell ⟨g, 1, none⟩ (.slice (some ⟨g', 0, none⟩) n cap)) g now out ∧ Kp (fun b => b = g) w (wr.setCell ⟨g, 1, none⟩ (.slice (some ⟨g', 0, none⟩) n cap)) := by
  subst hn
  obtain ⟨v, hb, _⟩ := h
  have hgl := hb.lt
  have hge := (hown.lt g' rfl).1
  have hb2 := (hb.kept hk (fun f => f)).put 1 (.slice (some ⟨g', 0, none⟩) out.length cap)
  have hk2 : Kp (fun b => b = g) wr (wr.setCell ⟨g, 1, none⟩ (.slice (some ⟨g', 0, none⟩) out.length cap)) := (Kp.refl (fun b => b = g) wr).setCell (p := ⟨g, 1, none⟩) (.inl rfl) _
  refine ⟨⟨_, hb2, own_base (own_kp hown hk2 (fun k hk' => ?_)) (Nat.zero_le _)⟩, (hk.mono (fun _ f => f.elim)).trans' hk2⟩
  have : g' = k := by simpa [Value.ownBlock] using hk'
  omega
set_option maxRecDepth 1000000 in
set_option maxHeartbeats 8000000 in
theorem rset_far (g now : Nat) (R : Rows) (t : Int) (d : Nat) (w : World) (hd : ¬ d ≤ TOP) :
    Calls Tryd.prog 24 #[.pointer (some ⟨g, 0, none⟩), .int .i64 t, .int .u64 d] w fun ev w' => ev = .returned (.int .i64 11) ∧ w' = w := by
  have h1 : (4611686018427387904 : Int) < (d : Int) := by unfold TOP at hd; omega
  have h2 : ¬ ((d : Int) ≤ 4611686018427387904) := by omega
  go_enter Tryd.func24, Tryd.ntmps24
  go_wp2_with fail
  exact bodyPost_ret (results_tmp rfl _ _ _) rfl ⟨rfl, rfl⟩
set_option maxRecDepth 1000000 in
set_option maxHeartbeats 8000000 in
theorem rset_full (g now : Nat) (R : Rows) (t : Int) (d : Nat) (w : World) (h : RW w g now R) (hd : d ≤ TOP) (hf : rFind R t = none) (hl : R.length = 16384) :
    Calls Tryd.prog 24 #[.pointer (some ⟨g, 0, none⟩), .int .i64 t, .int .u64 d] w fun ev w' => ev = .returned (.int .i64 18) ∧ w' = w := by
  have h1 : ¬ (4611686018427387904 : Int) < (d : Int) := by unfold TOP at hd; omega
  have h2 : ((d : Int) ≤ 4611686018427387904) := by omega
  have hc := rfind g now R t w h (by omega)
  unfold rFindI at hc
  rw [hf] at hc
  obtain ⟨A, cap, c0, c1, hrd⟩ := h.read
  rw [hl] at c1
  clear h hrd
  go_enter Tryd.func24, Tryd.ntmps24
  go_wp2_with fail
  refine hc.mono ?_
  rintro ev w1 ⟨rfl, rfl⟩
  go_wp2_with fail
  exact bodyPost_ret (results_tmp rfl _ _ _) rfl ⟨rfl, rfl⟩
/-- How the rows stand in Set's loop. -/
structure RMid (w wr : World) (x : Int × Nat) (S : Rows) (v : Value) (j : Nat) (out : Rows) (d : Bool) : Prop where
  jl : j ≤ S.length
  eq : (out ++ if d = true then S.drop j else rins x (S.drop j)) = rins x S
  own : wr.ownsRow w.heap.size 73 2 v out.length (rowsC out)
  nn : v ≠ .slice none 0 0
  kp : Kp (fun _ => False) w wr
theorem RMid.len {w wr : World} {x : Int × Nat} {S : Rows} {v : Value} {j : Nat} {out : Rows} {d : Bool} (h : RMid w wr x S v j out d) : out.length ≤ S.length + 1 := by
  have := congrArg List.length h.eq
  rw [List.length_append, rins_len] at this
  omega
theorem drop_cons {S : Rows} {j : Nat} (h : j < S.length) : S.drop j = S[j] :: S.drop (j + 1) := List.drop_eq_getElem_cons h
set_option maxRecDepth 1000000 in
set_option maxHeartbeats 16000000 in
theorem rset_ok (g now : Nat) (R : Rows) (t : Int) (d : Nat) (w : World) (h : RW w g now R) (hr : RS R) (hl : R.length ≤ 16384) (hd : d ≤ TOP) (hcase : (rFind R t = none ∧ R.length ≠ 16384) ∨ ∃ i, rFind R t = some i) :
    Calls Tryd.prog 24 #[.pointer (some ⟨g, 0, none⟩), .int .i64 t, .int .u64 d] w fun ev w' => ev = .returned (.int .i64 0) ∧ RW w' g now (rset t d R) ∧ Kp (fun b => b = g) w w' := by
  have h1 : ¬ (4611686018427387904 : Int) < (d : Int) := by unfold TOP at hd; omega
  have h2 : ((d : Int) ≤ 4611686018427387904) := by unfold TOP at hd; omega
  have hc := rfind g now R t w h (by omega)
  have HC2 := Lib.hid (rcancel g now R t w h hr (by omega))
  obtain ⟨i0, hi0, hz0, hz1, hz2⟩ := info73
  unfold rFindI at hc
  obtain ⟨A0, cap0, c00, c10, _⟩ := h.read
  have HdR := Lib.hid (show (rdel t R).length ≤ 16384 from Nat.le_trans (List.length_filter_le ..) hl)
  clear h hr
  rcases hcase with ⟨hf, hne⟩ | ⟨i, hf⟩
  all_goals
    rw [hf] at hc
    first
      | (have hne2 : ((R.length : Int) == 16384) = false := by simp; omega
         clear hne)
      | have i0' : ¬ (i : Int) < 0 := by omega
    clear hf
    go_enter Tryd.func24, Tryd.ntmps24
    go_wp2_with fail
    refine hc.mono ?_
    rintro ev w1 ⟨rfl, rfl⟩
    go_wp2_with fail
    refine HC2.out.mono ?_
    rintro ev w2 ⟨rfl, r2, k2⟩
    have hSl := HdR.out
    have Hrs := Lib.hid (show rset t d R = rins (t, d) (rdel t R) from rfl)
    generalize rdel t R = S at r2 hSl Hrs
    obtain ⟨A, cap, c0, c1, hrd⟩ := r2.read
    have hgl : g < w2.heap.size := World.block_lt_of_cell? w2 _ c1
    have hfr : w2.frozen? ⟨g, 1, none⟩ = false := by
      obtain ⟨v, hb, _⟩ := r2
      exact hb.frozen 1
    have Hr2 := Lib.hid r2
    have Hk2 := Lib.hid k2
    have Hrd := Lib.hid hrd
    have Hown0 := Lib.hid (World.ownsRow_made w2 (base := w2.heap.size) (e := 73) (size := 2) #[] 0 (Nat.le_refl _) (by unfold maxLen; omega) rfl)
    clear r2 k2 hrd hc c00 c10
    go_wp2_with fail
    go_loopw [7, 8, 9] (fun v dv iv wr => ∃ (j : Nat) (out : Rows) (dn : Bool), iv = .int .i64 j ∧ dv = .bool dn ∧ RMid w2 wr (t, d) S v j out dn) (fun _ _ iv _ => S.length - (intOf iv).toNat)
    case atStart => exact ⟨0, [], false, rfl, rfl, ⟨by omega, rfl, Hown0.out, (by intro e; cases e), (Kp.refl _ _).alloc _⟩⟩
    case round =>
      obtain ⟨j, out, dn, rfl, rfl, hm⟩ := hrel
      have hol := hm.len
      have hjl := hm.jl
      have c1' := (hm.kp.cell (p := ⟨g, 1, none⟩) hgl (fun f => f)).trans c1
      have fr' := (hm.kp.frozen (p := ⟨g, 1, none⟩) hgl (fun f => f)).trans hfr
      have hwr := hm.kp.size
      have Hm := Lib.hid hm
      clear hm
      have j1 : (0 : Int) ≤ (j : Int) := by omega
      by_cases hlt : j < S.length
      · have j2 : (j : Int) < (S.length : Int) := by omega
        obtain ⟨b, hA, y1, y2⟩ := Hrd.out j hlt
        subst hA
        have z1 := kp_kc0 y1 Hm.out.kp
        have z2 := kp_kc0 y2 Hm.out.kp
        have Hdr := Lib.hid (drop_cons hlt)
        have Hdl : Hid (j + 1 ≤ S.length) := Lib.hid hlt
        generalize S[j] = y at y1 y2 z1 z2 Hdr
        obtain ⟨ya, yb⟩ := y
        simp only at y1 y2 z1 z2
        clear y1 y2
        by_cases hin : dn = false ∧ rlt (t, d) (ya, yb)
        · obtain ⟨rfl, hlt2⟩ := hin
          have Heq := Lib.hid (show ((out ++ [(t, d)] ++ [(ya, yb)]) ++ if true = true then S.drop (j + 1) else rins (t, d) (S.drop (j + 1))) = rins (t, d) S by
            rw [← Hm.out.eq, Hdr.out, if_pos rfl, if_neg (by decide)]
            unfold rins
            rw [if_pos hlt2]
            simp)
          rcases hlt2 with hlt2 | ⟨hlt2, hlt3⟩
          all_goals
            simp only at hlt2
            first
              | have hx : (d : Int) < (yb : Int) := by omega
              | (have hx : ¬ (d : Int) < (yb : Int) := by omega
                 have hx2 : ((d : Int) == (yb : Int)) = true := by simp; omega
                 simp only at hlt3)
            clear hlt2
            go_wp2_with (first
              | (at_builtin
                 (
                   refine wpList_append_own _ rfl (.tmp 65) (.tmp 69) _ rfl w2.heap.size 73 i0 _ 2 16 Tryd.underlying69 hi0 hz0 hz1 hz2 rfl (by omega) u7 out.length (rowsC out) rfl ((own_kp Hm.out.own ((Kp.refl (fun _ => False) wr).alloc _) (fun _ _ f => f)).alloc _) ⟨wr.heap.size + 1, 0, none⟩ 1 1 [.int .i64 t, .int .u64 d] rfl rfl (by have q := cells_two_new (wr.alloc (.cells #[.int .i64 ya, .int .u64 yb] 73)) 73 (.int .i64 t) (.int .u64 d); simpa using q) (two_one _ _) (by unfold maxLen; omega) (by omega) (by simp; omega) ?_
                   intro v1 w3 hown1 hgrow1 hnil1
                   go_must (
                   have k1 := ((Hm.out.kp.alloc (.cells #[.int .i64 ya, .int .u64 yb] 73)).alloc (.cells #[.int .i64 t, .int .u64 d] 73)).grown hgrow1 (fun i hi => .inr (Hm.out.own.lt i hi).1)
                   have hx1 := ((Bk.new wr 73 #[.int .i64 ya, .int .u64 yb]).alloc (.cells #[.int .i64 t, .int .u64 d] 73)).kept ((Kp.refl (fun b => u7.ownBlock = some b) _).grown hgrow1 (fun i hi => .inl hi)) (fun e => by have := (Hm.out.own.lt _ e).2; omega)
                   have hx1a := hx1.cell 0
                   have hx1b := hx1.cell 1
                   have Hx1 := Lib.hid hx1
                   have Hnn1 := Lib.hid (fun e => Hm.out.nn (hnil1.1 e).1)
                   have Hk1 := Lib.hid k1
                   have Hown1 := Lib.hid hown1
                   have hs1 := k1.size
                   clear k1 hown1 hgrow1 hnil1 hx1)))
              | (at_builtin
                 go_must (
                   refine wpList_append_own _ rfl (.tmp 71) (.tmp 73) _ rfl w2.heap.size 73 i0 _ 2 16 Tryd.underlying69 hi0 hz0 hz1 hz2 rfl (by omega) v1 (out.length + 1) (rowsC out ++ [.int .i64 t, .int .u64 d]) rfl (Hown1.out.alloc _) ⟨w3.heap.size, 0, none⟩ 1 1 [.int .i64 ya, .int .u64 yb] rfl rfl (cells_two_new _ _ _ _) (two_one _ _) (by unfold maxLen; omega) (by omega) (by simp; omega) ?_
                   intro v2 w4 hown2 hgrow2 hnil2
                   have k2 := (Hk1.out.alloc (.cells #[.int .i64 ya, .int .u64 yb] 73)).grown hgrow2 (fun i hi => .inr (Hown1.out.lt i hi).1)
                   have Hnn2 := Lib.hid (fun e => Hnn1.out (hnil2.1 e).1)
                   have Hk3 := Lib.hid k2
                   have Hown2 := Lib.hid hown2
                   clear k2 hown2 hgrow2 hnil2)))
            go_roundw
            case rel => exact ⟨j + 1, _, true, by go_num, rfl, ⟨Hdl.out, Heq.out, by have q := Hown2.out; rw [rowsC_snoc, rowsC_snoc]; simpa using q, Hnn2.out, Hk3.out⟩⟩
            case measure => simp [intOf]; omega
        · have Heq := Lib.hid (show ((out ++ [(ya, yb)]) ++ if dn = true then S.drop (j + 1) else rins (t, d) (S.drop (j + 1))) = rins (t, d) S by
            rw [← Hm.out.eq, Hdr.out]
            cases dn with
            | true => simp
            | false =>
              have : ¬ rlt (t, d) (ya, yb) := fun h => hin ⟨rfl, h⟩
              simp only [Bool.false_eq_true, if_false]
              conv => rhs; unfold rins
              rw [if_neg this]
              simp)
          have hno : dn = true ∨ dn = false ∧ yb < d ∨ dn = false ∧ d = yb ∧ ¬ t < ya := by
            cases dn with
            | true => exact .inl rfl
            | false =>
              have : ¬ rlt (t, d) (ya, yb) := fun h => hin ⟨rfl, h⟩
              unfold rlt at this
              simp only at this
              rcases Nat.lt_trichotomy d yb with h | h | h
              · exact absurd (.inl h) this
              · exact .inr (.inr ⟨rfl, h, fun h2 => this (.inr ⟨h, h2⟩)⟩)
              · exact .inr (.inl ⟨rfl, h⟩)
          clear hin
          rcases hno with rfl | ⟨rfl, hgt⟩ | ⟨rfl, hde, hgt⟩
          all_goals
            first
              | (have hx : ¬ (d : Int) < (yb : Int) := by omega
                 have hx2 : ((d : Int) == (yb : Int)) = false := by simp; omega
                 clear hgt)
              | (have hx : ¬ (d : Int) < (yb : Int) := by omega
                 have hx2 : ((d : Int) == (yb : Int)) = true := by simp; omega
                 clear hde)
              | skip
            go_wp2_with
              (at_builtin
               go_must (
                 refine wpList_append_own _ rfl (.tmp 71) (.tmp 73) _ rfl w2.heap.size 73 i0 _ 2 16 Tryd.underlying69 hi0 hz0 hz1 hz2 rfl (by omega) u7 out.length (rowsC out) rfl ((own_kp Hm.out.own ((Kp.refl (fun _ => False) wr).alloc _) (fun _ _ f => f)).alloc _) ⟨wr.heap.size + 1, 0, none⟩ 1 1 [.int .i64 ya, .int .u64 yb] rfl rfl (by have q := cells_two_new (wr.alloc (.cells #[.int .i64 ya, .int .u64 yb] 73)) 73 (.int .i64 ya) (.int .u64 yb); simpa using q) (two_one _ _) (by unfold maxLen; omega) (by omega) (by simp; omega) ?_
                 intro v2 w4 hown2 hgrow2 hnil2
                 have k2 := ((Hm.out.kp.alloc (.cells #[.int .i64 ya, .int .u64 yb] 73)).alloc (.cells #[.int .i64 ya, .int .u64 yb] 73)).grown hgrow2 (fun i hi => .inr (Hm.out.own.lt i hi).1)
                 have Hnn2 := Lib.hid (fun e => Hm.out.nn (hnil2.1 e).1)
                 have Hk3 := Lib.hid k2
                 have Hown2 := Lib.hid hown2
                 clear k2 hown2 hgrow2 hnil2))
            go_roundw
            case rel => exact ⟨j + 1, _, _, by go_num, rfl, ⟨Hdl.out, Heq.out, by have q := Hown2.out; rw [rowsC_snoc]; simpa using q, Hnn2.out, Hk3.out⟩⟩
            case measure => simp [intOf]; omega
      · obtain rfl : j = S.length := by omega
        have heq := Hm.out.eq
        rw [List.drop_length] at heq
        cases dn with
        | true =>
          have hout : out = rins (t, d) S := by simpa using heq
          have Hout := Lib.hid hout
          obtain ⟨g', cp, hv, hbg⟩ := own_form Hm.out.own Hm.out.nn
          subst hv
          have POST := Lib.hid (Hr2.out.relay Hm.out.kp rfl Hm.out.own)
          clear hout heq
          go_wp2_with fail
          exact bodyPost_ret (results_tmp rfl _ _ _) rfl ⟨rfl, by rw [Hrs.out, ← Hout.out]; exact POST.out.1, Hk2.out.trans' POST.out.2⟩
        | false =>
          have hout : out ++ [(t, d)] = rins (t, d) S := by simpa [rins] using heq
          have Hout := Lib.hid hout
          clear hout heq
          go_wp2_with
            (at_builtin
             go_must (
               refine wpList_append_own _ rfl (.tmp 77) (.tmp 81) _ rfl w2.heap.size 73 i0 _ 2 16 Tryd.underlying69 hi0 hz0 hz1 hz2 rfl (by omega) u7 out.length (rowsC out) rfl (Hm.out.own.alloc _) ⟨wr.heap.size, 0, none⟩ 1 1 [.int .i64 t, .int .u64 d] rfl rfl (cells_two_new _ _ _ _) (two_one _ _) (by unfold maxLen; omega) (by omega) (by simp; omega) ?_
               intro v2 w4 hown2 hgrow2 hnil2
               have k2 := (Hm.out.kp.alloc (.cells #[.int .i64 t, .int .u64 d] 73)).grown hgrow2 (fun i hi => .inr (Hm.out.own.lt i hi).1)
               obtain ⟨g', cp, hv, hbg⟩ := own_form hown2 (fun e => Hm.out.nn (hnil2.1 e).1)
               rw [hv] at hown2 ⊢
               have c1'' := (k2.cell (p := ⟨g, 1, none⟩) hgl (fun f => f)).trans c1
               have fr'' := (k2.frozen (p := ⟨g, 1, none⟩) hgl (fun f => f)).trans hfr
               have POST := Lib.hid (Hr2.out.relay (out := out ++ [(t, d)]) k2 (n := out.length + 1) (by simp) (by rw [rowsC_snoc]; exact hown2))
               clear k2 hown2 hgrow2 hv hnil2))
          exact bodyPost_ret (results_tmp rfl _ _ _) rfl ⟨rfl, by rw [Hrs.out, ← Hout.out]; exact POST.out.1, Hk2.out.trans' POST.out.2⟩
end Go.Proofs.YtdakkmaahgcjfaaDoor
