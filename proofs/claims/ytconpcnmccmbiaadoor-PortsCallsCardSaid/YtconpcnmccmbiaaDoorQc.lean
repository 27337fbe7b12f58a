/- The walk of the reference's lay. -/
import Derived.Test.YtconpcnmccmbiaaDoorQb
namespace Go.Proofs.YtconpcnmccmbiaaDoor
open Go.RowKit

theorem own_mono' {w : World} {base base' : Nat} {e : TypeId} {size n : Nat} {v : Value} {xs : List Value} (h : w.ownsRow base e size v n xs) (hb : base' ≤ base) : w.ownsRow base' e size v n xs := by
  refine ⟨h.1, ?_⟩
  rcases h.2 with h | ⟨g, cap, cur, hv, hg, r⟩
  · exact .inl h
  · exact .inr ⟨g, cap, cur, hv, by omega, r⟩
theorem one_int (x : Int) : ∀ u ∈ [Value.int .i64 x], u.oneCell' = true := fun u hu => by simp at hu; subst hu; rfl
theorem ints_one (xs : List Int) : ∀ u ∈ ints xs, u.oneCell' = true := fun u hu => by
  obtain ⟨x, _, rfl⟩ := List.mem_map.1 hu
  rfl
theorem ints_snoc (xs : List Int) (x : Int) : ints (xs ++ [x]) = ints xs ++ [Value.int .i64 x] := by simp [ints]

/-- Another row is laid in. -/
theorem Ref.relay {w wr : World} {g l m mk : Nat} {o : Option Nat} {T U : Nat → Bool} (h : Ref w g o l m mk T) (hk : Kp (fun _ => False) w wr) {g' n cap : Nat} (hn : n = (takenL U l m).length) (hown : wr.ownsRow w.heap.size 3 1 (.slice (some ⟨g', 0, none⟩) n cap) n (ints (takenL U l m))) :
    (∃ o', Ref (wr.setCell ⟨g, 3, none⟩ (.slice (some ⟨g', 0, none⟩) n cap)) g o' l m mk U ∧ ∀ j, o' = some j → w.heap.size ≤ j) ∧ Kp (fun b => b = g) w (wr.setCell ⟨g, 3, none⟩ (.slice (some ⟨g', 0, none⟩) n cap)) := by
  have hlt := h.lt
  obtain ⟨v, a, b, c, d1, d2, d3, d4, d5⟩ := h
  have hge := (hown.lt g' rfl).1
  have h2 := (hk.mono (T := fun b => b = g) (fun _ f => f.elim)).setCell (p := ⟨g, 3, none⟩) (.inl rfl) (.slice (some ⟨g', 0, none⟩) n cap)
  refine ⟨⟨some g', ⟨.slice (some ⟨g', 0, none⟩) n cap, ?_, rfl, ?_, d1, d2, d3, d4, d5⟩, fun j hj => by injection hj with hj; omega⟩, h2⟩
  · have := (a.kept hk (fun f => f)).put 3 (.slice (some ⟨g', 0, none⟩) n cap)
    simpa using this
  · rw [← hn]
    have hsz : 2 ≤ w.heap.size := by omega
    refine own_kp (own_mono' hown hsz) ((Kp.refl (fun b => b = g) wr).setCell (p := ⟨g, 3, none⟩) (.inl rfl) _) (fun k hk => ?_)
    have : g' = k := by simpa [Value.ownBlock] using hk
    omega

set_option maxRecDepth 100000 in
set_option maxHeartbeats 4000000 in
theorem rlay_any (g l m mk k : Nat) (o : Option Nat) (T : Nat → Bool) (a : Int) (w : World) (h : Ref w g o l m mk T) (hk : k < m) (hT : T k = false) (ha : a = (k : Int) + l) :
    Calls Tryd.prog 79 #[.pointer (some ⟨g, 0, none⟩), .int .i64 a] w fun e w' => e = .returned (.tuple #[]) ∧ (∃ o', Ref w' g o' l m mk (upd T k true) ∧ ∀ j, o' = some j → w.heap.size ≤ j) ∧ Kp (fun b => b = g) w w' := by
  subst ha
  have hlt := h.lt
  have hins := ins_all T l m k hk hT
  obtain ⟨i0, hi0, hz0, hz1, hz2⟩ := info_parts intInfo
  obtain ⟨_, _, _, _, f3, A, c, c3, hrd, hl1, hl2, hl3, hA0⟩ := h.cells
  have hb := h
  obtain ⟨_, _, _, _, b1, b2, b3, b4, b5⟩ := hb
  unfold maxLen at hl3
  have H := Lib.hid h
  have Hins := Lib.hid hins
  generalize hxs : takenL T l m = xs at c3 hrd hl1 hl2 Hins
  have Hxs := Lib.hid hxs
  have Hrd := Lib.hid hrd
  have hown0 := World.ownsRow_made w (base := w.heap.size) (e := 3) (size := 1) #[] 0 (Nat.le_refl _) (by unfold maxLen; omega) rfl
  have Hown0 := Lib.hid hown0
  clear hins hrd h hA0 hxs hown0
  generalize hp : (k : Int) + l = p at *
  have Hp := Lib.hid hp
  clear hp
  go_enter Tryd.func79, Tryd.ntmps79
  go_wp2_with fail
  go_loopw [4, 5, 6] (fun v d i wr => ∃ j : Nat, i = .int .i64 j ∧ j ≤ xs.length ∧ d = .bool (insFold p (xs.take j)).2 ∧ wr.ownsRow w.heap.size 3 1 v (insFold p (xs.take j)).1.length (ints (insFold p (xs.take j)).1) ∧ Kp (fun _ => False) w wr) (fun _ _ i _ => xs.length - (intOf i).toNat)
  case atStart => exact ⟨0, rfl, by omega, rfl, by simpa [insFold, ints] using Hown0.out, (Kp.refl _ _).alloc _⟩
  case round =>
    obtain ⟨j, rfl, hj, rfl, hown, hkp⟩ := hrel
    have hil := insFold_len p (xs.take j)
    rw [List.length_take] at hil
    have c3' := (hkp.cell (p := ⟨g, 3, none⟩) hlt.1 (fun f => f)).trans c3
    have f3' := (hkp.frozen (p := ⟨g, 3, none⟩) hlt.1 (fun f => f)).trans f3
    have Hown := Lib.hid hown
    have Hkp := Lib.hid hkp
    have hwr := hkp.size
    clear hown hkp
    by_cases hlt2 : j < xs.length
    · obtain ⟨b, o', rfl, hc⟩ : ∃ b o', A = some ⟨b, o', none⟩ ∧ ∀ j, j < xs.length → w.cell? ⟨b, o' + j, none⟩ = some (.int .i64 (xs.getD j 0)) := by
        rcases Hrd.out.2 with h | h
        · omega
        · exact h
      have hcw := hc j hlt2
      have hbw := World.block_lt_of_cell? w _ hcw
      have hcj := (Hkp.out.cell (p := ⟨b, o' + j, none⟩) hbw (fun f => f)).trans hcw
      have hsn : insFold p (xs.take (j + 1)) = insStep p (insFold p (xs.take j)) (xs.getD j 0) := by
        rw [List.take_succ_eq_append_getElem hlt2, insFold_snoc]; simp [hlt2]
      have Hsn := Lib.hid hsn
      have j1 : (0 : Int) ≤ (j : Int) := by omega
      have j2 : (j : Int) < (xs.length : Int) := by omega
      clear hc hsn
      generalize xs.getD j 0 = x at hcw hcj Hsn
      have Hcw := Lib.hid hcw
      clear hcw
      generalize insFold p (xs.take j) = F at Hown Hsn hil
      obtain ⟨out, d⟩ := F
      simp only at hil
      have Hown' : Hid (wr.ownsRow w.heap.size 3 1 u4 out.length (ints out)) := Hown.out
      clear Hown
      by_cases hcase : d = false ∧ p < x
      · obtain ⟨rfl, hpx⟩ := hcase
        have hst : insFold p (xs.take (j + 1)) = (out ++ [p] ++ [x], true) := by
          rw [Hsn.out]
          unfold insStep
          rw [if_pos ⟨rfl, hpx⟩]
        have Hst := Lib.hid hst
        clear hst
        go_wp2_with (first
          | (at_builtin
             refine wpList_append_own _ rfl (.tmp 30) (.tmp 32) _ rfl w.heap.size 3 i0 _ 1 8 Tryd.underlying45 hi0 hz0 hz1 hz2 rfl (by omega) u4 out.length (ints out) rfl (Hown'.out.alloc _) ⟨wr.heap.size, 0, none⟩ 1 1 [.int .i64 p] rfl rfl (cell_one_new _ _ _) (one_int _) (by unfold maxLen; omega) (by omega) (by simp; omega) ?_
             intro v1 w1 hown1 hgrow1 _
             go_must (
               have k1 := (Hkp.out.alloc _).grown hgrow1 (fun i hi => .inr (Hown'.out.lt i hi).1)
               have Hk1 := Lib.hid k1
               have Hown1 := Lib.hid hown1
               have c3'' := (k1.cell (p := ⟨g, 3, none⟩) hlt.1 (fun f => f)).trans c3
               have hcj1 := (k1.cell (p := ⟨b, o' + j, none⟩) hbw (fun f => f)).trans Hcw.out
               have hs1 := k1.size
               clear k1 hown1 hgrow1))
          | (at_builtin
             go_must (
               refine wpList_append_own _ rfl (.tmp 34) (.tmp 42) _ rfl w.heap.size 3 i0 _ 1 8 Tryd.underlying45 hi0 hz0 hz1 hz2 rfl (by omega) v1 (out.length + 1) (ints out ++ [.int .i64 p]) rfl (Hown1.out.alloc _) ⟨w1.heap.size, 0, none⟩ 1 1 [.int .i64 x] rfl rfl (cell_one_new _ _ _) (one_int _) (by unfold maxLen; omega) (by omega) (by simp; omega) ?_
               intro v2 w2 hown2 hgrow2 _
               have k2 := (Hk1.out.alloc _).grown hgrow2 (fun i hi => .inr (Hown1.out.lt i hi).1)
               have Hk2 := Lib.hid k2
               have Hown2 := Lib.hid hown2
               clear k2 hown2 hgrow2)))
        go_roundw
        case rel => exact ⟨j + 1, by go_num, by omega, by rw [Hst.out], by rw [Hst.out]; have q := Hown2.out; simp only [ints_snoc, List.length_append, List.length_singleton]; exact q, Hk2.out⟩
        case measure => simp [intOf]; omega
      · have hst : insFold p (xs.take (j + 1)) = (out ++ [x], d) := by
          rw [Hsn.out]
          unfold insStep
          rw [if_neg hcase]
        have Hst := Lib.hid hst
        have hd : d = true ∨ d = false ∧ ¬ p < x := by
          cases d with
          | true => exact .inl rfl
          | false => exact .inr ⟨rfl, fun h => hcase ⟨rfl, h⟩⟩
        clear hst hcase
        rcases hd with rfl | ⟨rfl, hpx⟩
        all_goals
          go_wp2_with
            (at_builtin
             go_must (
               refine wpList_append_own _ rfl (.tmp 34) (.tmp 42) _ rfl w.heap.size 3 i0 _ 1 8 Tryd.underlying45 hi0 hz0 hz1 hz2 rfl (by omega) u4 out.length (ints out) rfl (Hown'.out.alloc _) ⟨wr.heap.size, 0, none⟩ 1 1 [.int .i64 x] rfl rfl (cell_one_new _ _ _) (one_int _) (by unfold maxLen; omega) (by omega) (by simp; omega) ?_
               intro v2 w2 hown2 hgrow2 _
               have k2 := (Hkp.out.alloc _).grown hgrow2 (fun i hi => .inr (Hown'.out.lt i hi).1)
               have Hk2 := Lib.hid k2
               have Hown2 := Lib.hid hown2
               clear k2 hown2 hgrow2))
          go_roundw
          case rel => exact ⟨j + 1, by go_num, by omega, by rw [Hst.out], by rw [Hst.out]; have q := Hown2.out; simp only [ints_snoc, List.length_append, List.length_singleton]; exact q, Hk2.out⟩
          case measure => simp [intOf]; omega
    · obtain rfl : j = xs.length := by omega
      have htk : xs.take xs.length = xs := List.take_length
      rw [htk] at hil Hown ⊢
      generalize insFold p xs = F at Hown Hins hil
      obtain ⟨out, d⟩ := F
      simp only at hil
      have Hown' : Hid (wr.ownsRow w.heap.size 3 1 u4 out.length (ints out)) := Hown.out
      have hne : 1 ≤ (takenL (upd T k true) l m).length := by
        have h1 := takenL_cnt (upd T k true) l m
        have h2 := cnt_lay T k m hk hT
        have h3 := cnt_le T m
        omega
      clear Hown htk
      cases d with
      | true =>
        have hout : out = takenL (upd T k true) l m := by have := Hins.out; simpa using this
        have Hout := Lib.hid hout
        rw [← hout] at hne
        obtain ⟨g', cap, hv, hbg, hlg⟩ := Hown'.out.form hne
        rw [hv] at Hown' ⊢
        clear hout hv
        go_wp2_with fail
        go_end0
        have hr := H.out.relay (U := upd T k true) Hkp.out (n := out.length) (by rw [Hout.out]) (by rw [← Hout.out]; exact Hown'.out)
        exact ⟨rfl, hr.1, hr.2⟩
      | false =>
        have hout : out ++ [p] = takenL (upd T k true) l m := by have := Hins.out; simpa using this
        have Hout := Lib.hid hout
        clear hout
        go_wp2_with
          (at_builtin
           go_must (
             refine wpList_append_own _ rfl (.tmp 46) (.tmp 48) _ rfl w.heap.size 3 i0 _ 1 8 Tryd.underlying45 hi0 hz0 hz1 hz2 rfl (by omega) u4 out.length (ints out) rfl (Hown'.out.alloc _) ⟨wr.heap.size, 0, none⟩ 1 1 [.int .i64 p] rfl rfl (cell_one_new _ _ _) (one_int _) (by unfold maxLen; omega) (by omega) (by simp; omega) ?_
             intro v2 w2 hown2 hgrow2 _
             have k2 := (Hkp.out.alloc _).grown hgrow2 (fun i hi => .inr (Hown'.out.lt i hi).1)
             obtain ⟨g', cap, hv, hbg, hlg⟩ := hown2.form (by omega)
             rw [hv] at hown2 ⊢
             have c3'' := (k2.cell (p := ⟨g, 3, none⟩) hlt.1 (fun f => f)).trans c3
             have f3'' := (k2.frozen (p := ⟨g, 3, none⟩) hlt.1 (fun f => f)).trans f3
             have Hk2 := Lib.hid k2
             have Hown2 := Lib.hid hown2
             clear k2 hown2 hgrow2 hv))
        go_end0
        have hr := H.out.relay (U := upd T k true) Hk2.out (n := out.length + 1) (by rw [← Hout.out]; simp) (by rw [← Hout.out, ints_snoc]; exact Hown2.out)
        exact ⟨rfl, hr.1, hr.2⟩
end Go.Proofs.YtconpcnmccmbiaaDoor
