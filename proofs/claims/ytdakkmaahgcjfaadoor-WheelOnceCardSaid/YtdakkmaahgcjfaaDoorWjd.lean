/- Wheel's reference: Go. -/
import Derived.Test.YtdakkmaahgcjfaaDoorWjc
import Derived.Test.YtdakkmaahgcjfaaDoorWsi
set_option linter.unusedVariables false
set_option linter.unusedSimpArgs false
namespace Go.Proofs.YtdakkmaahgcjfaaDoor
open Go.RowKit
open Go.Shelf Go.Sort Go.Maps

theorem info3 : ∃ i, Tryd.prog.info? 3 = some i ∧ i.zero = some (.int .i64 0) ∧ i.size = 1 ∧ i.bytes = 8 := by
  have h : (Tryd.prog.info? 3).map (fun i => (i.zero, i.size, i.bytes)) = some (some (.int .i64 0), 1, 8) := by kernel_rfl
  rcases hi : Tryd.prog.info? 3 with _ | i
  · rw [hi] at h; cases h
  · rw [hi] at h
    simp only [Option.map_some, Option.some.injEq, Prod.mk.injEq] at h
    exact ⟨i, rfl, h.1, h.2.1, h.2.2⟩
theorem cells_one_new (w : World) (t : TypeId) (a : Value) : ∀ j u, [a][j]? = some u → (w.alloc (.cells #[a] t)).cell? ((⟨w.heap.size, 0, none⟩ : Addr).add j) = some u := by
  intro j u hu
  rw [add_at, Nat.zero_add]
  exact ((Bk.new w t #[a]).cell j).trans (by simpa using hu)
theorem one_one (a : Int) : ∀ u ∈ [Value.int .i64 a], u.oneCell' = true := fun u hu => by
  simp at hu
  subst hu
  rfl
/-- A row's own block is of its elements' type. -/
theorem own_kind {w : World} {base e size n : Nat} {v : Value} {xs : List Value} (h : w.ownsRow base e size v n xs) {b t : Nat} {cs : Array Value} (hb : Bk w b t cs) (ht : t ≠ e) : v.ownBlock ≠ some b := by
  intro hk
  rcases h.2 with ⟨rfl, _⟩ | ⟨gb, cap, cur, rfl, _, hgb, _⟩
  · cases hk
  · obtain rfl : gb = b := Option.some.inj hk
    unfold Bk at hb
    rw [hb] at hgb
    injection hgb with hgb
    injection hgb with _ h2
    exact ht h2
theorem RW.parts {w : World} {g now : Nat} {y : Int × Nat} {S : Rows} (h : RW w g now (y :: S)) : ∃ b cap AD, w.cell? ⟨g, 0, none⟩ = some (.int .u64 now) ∧ w.cell? ⟨g, 1, none⟩ = some (.slice (some ⟨b, 0, none⟩) (S.length + 1) cap) ∧ w.frozen? ⟨g, 1, none⟩ = false ∧
    w.cell? ⟨b, 0, none⟩ = some (.int .i64 y.1) ∧ w.cell? ⟨b, 1, none⟩ = some (.int .u64 (y.2 : Int)) ∧ S.length + 1 ≤ cap ∧ cap ≤ maxLen ∧ (if cap = 1 then (some ⟨b, 0, none⟩ : Option Addr) else some ⟨b, 2, none⟩) = some AD ∧
    ∀ W : World, Kp (fun _ => False) w W → ∀ j u, (rowsC S)[j]? = some u → W.cell? (AD.add j) = some u := by
  obtain ⟨v, hb, ho⟩ := h
  rcases ho.2 with ⟨_, hl0⟩ | ⟨b, cap, cur, rfl, _, hgb, r1, r2, r3, r4⟩
  · simp at hl0
  have hbk : Bk w b 73 cur := hgb
  have hc : ∀ j u, (rowsC (y :: S))[j]? = some u → w.cell? ⟨b, j, none⟩ = some u := by
    intro j u hu
    have hlt := (List.getElem?_eq_some_iff.1 hu).1
    rw [rowsC_len] at hlt
    rw [← r4, List.getElem?_take_of_lt hlt, Array.getElem?_toList] at hu
    exact (hbk.cell j).trans hu
  have hs : ∀ j u, (rowsC S)[j]? = some u → w.cell? ⟨b, 2 + j, none⟩ = some u := by
    intro j u hu
    refine hc (2 + j) u ?_
    rw [show 2 + j = j + 1 + 1 by omega]
    exact hu
  obtain ⟨AD, hAD, hADn⟩ : ∃ AD : Addr, (if cap = 1 then (some ⟨b, 0, none⟩ : Option Addr) else some ⟨b, 2, none⟩) = some AD ∧ ∀ (W : World), Kp (fun _ => False) w W → ∀ j u, (rowsC S)[j]? = some u → W.cell? (AD.add j) = some u := by
    by_cases hcj : cap = 1
    · refine ⟨⟨b, 0, none⟩, by rw [if_pos hcj], fun W _ j u hu => ?_⟩
      have : S = [] := by
        have r1' : (y :: S).length ≤ cap := r1
        rw [hcj] at r1'
        exact List.eq_nil_of_length_eq_zero (by simp at r1'; simp [r1'])
      subst this
      simp [rowsC] at hu
    · refine ⟨⟨b, 2, none⟩, by rw [if_neg hcj], fun W hW j u hu => ?_⟩
      rw [add_at]
      exact kp_kc0 (hs j u hu) hW
  exact ⟨b, cap, AD, hb.cell 0, hb.cell 1, hb.frozen 1, hc 0 _ rfl, hc 1 _ rfl, r1, r2, hAD, hADn⟩
theorem RW.setNow {w : World} {g now : Nat} {R : Rows} (h : RW w g now R) (t : Nat) : RW (w.setCell ⟨g, 0, none⟩ (.int .u64 t)) g t R ∧ Kp (fun b => b = g) w (w.setCell ⟨g, 0, none⟩ (.int .u64 t)) := by
  obtain ⟨v, hb, ho⟩ := h
  have hk : Kp (fun b => b = g) w (w.setCell ⟨g, 0, none⟩ (.int .u64 t)) := (Kp.refl (fun b => b = g) w).setCell (p := ⟨g, 0, none⟩) (.inl rfl) _
  exact ⟨⟨v, hb.put 0 _, own_kp ho hk (fun k hk' e => by subst e; exact own_kind ho hb (by decide) hk')⟩, hk⟩
set_option maxRecDepth 1000000 in
set_option maxHeartbeats 8000000 in
theorem rgo_far (g t : Nat) (w : World) (ht : ¬ t ≤ TOP) :
    Calls Tryd.prog 26 #[.pointer (some ⟨g, 0, none⟩), .int .u64 t] w fun ev w' => ev = .returned (.tuple #[.slice none 0 0, .int .i64 11]) ∧ w' = w := by
  have h1 : (4611686018427387904 : Int) < (t : Int) := by unfold TOP at ht; omega
  have h2 : ¬ ((t : Int) ≤ 4611686018427387904) := by omega
  go_enter Tryd.func26, Tryd.ntmps26
  go_wp2_with fail
  exact bodyPost_ret (results_tmp2 rfl _ _ _) rfl ⟨rfl, rfl⟩
set_option maxRecDepth 1000000 in
set_option maxHeartbeats 8000000 in
theorem rgo_old (g now t : Nat) (R : Rows) (w : World) (h : RW w g now R) (ht : t ≤ TOP) (hn : t < now) :
    Calls Tryd.prog 26 #[.pointer (some ⟨g, 0, none⟩), .int .u64 t] w fun ev w' => ev = .returned (.tuple #[.slice none 0 0, .int .i64 22]) ∧ w' = w := by
  have h1 : ¬ (4611686018427387904 : Int) < (t : Int) := by unfold TOP at ht; omega
  have h2 : ((t : Int) ≤ 4611686018427387904) := by unfold TOP at ht; omega
  have h3 : (t : Int) < (now : Int) := by omega
  obtain ⟨A, cap, c0, c1, hrd⟩ := h.read
  clear h hrd
  go_enter Tryd.func26, Tryd.ntmps26
  go_wp2_with fail
  exact bodyPost_ret (results_tmp2 rfl _ _ _) rfl ⟨rfl, rfl⟩
/-- How it stands in Go's loop. -/
structure GM (w wr : World) (g t : Nat) (R S : Rows) (v : Value) (out : List Int) : Prop where
  rw_ : RW wr g t S
  own : wr.ownsRow w.heap.size 3 1 v out.length (out.map encZ)
  nn : v ≠ .slice none 0 0
  got : out ++ rgot t S = rgot t R
  rest : rrest t S = rrest t R
  sl : S.length ≤ R.length
  kp : Kp (fun b => b = g) w wr
theorem GM.len {w wr : World} {g t : Nat} {R S : Rows} {v : Value} {out : List Int} (h : GM w wr g t R S v out) : out.length ≤ R.length := by
  have h1 := congrArg List.length h.got
  have h2 := rgot_len t R
  rw [List.length_append] at h1
  omega
theorem encZ_snoc (l : List Int) (x : Int) : (l ++ [x]).map encZ = l.map encZ ++ [.int .i64 x] := by rw [List.map_append]; rfl
/-- What Go's end leaves. -/
def RGoPost (g t : Nat) (R : Rows) (w w' : World) (v : Value) : Prop := w'.ownsRow w.heap.size 3 1 v (rgot t R).length ((rgot t R).map encZ) ∧ RW w' g t (rrest t R) ∧ Kp (fun b => b = g) w w'
theorem GM.ends {w wr : World} {g t : Nat} {R S : Rows} {v : Value} {out : List Int} (h : GM w wr g t R S v out) (h1 : rgot t S = []) (h2 : rrest t S = S) : RGoPost g t R w wr v := by
  have e := h.got
  rw [h1, List.append_nil] at e
  subst e
  refine ⟨h.own, ?_, h.kp⟩
  rw [← h.rest, h2]
  exact h.rw_
set_option maxRecDepth 1000000 in
set_option maxHeartbeats 16000000 in
theorem rgo_ok (g now t : Nat) (R : Rows) (w : World) (h : RW w g now R) (ht : t ≤ TOP) (hn : now ≤ t) (hl : R.length ≤ 1000000) :
    Calls Tryd.prog 26 #[.pointer (some ⟨g, 0, none⟩), .int .u64 t] w fun ev w' => ∃ v, ev = .returned (.tuple #[v, .int .i64 0]) ∧ RGoPost g t R w w' v := by
  have h1 : ¬ (4611686018427387904 : Int) < (t : Int) := by unfold TOP at ht; omega
  have h2 : ((t : Int) ≤ 4611686018427387904) := by unfold TOP at ht; omega
  have h3 : ¬ (t : Int) < (now : Int) := by omega
  have h4 : (now : Int) ≤ (t : Int) := by omega
  obtain ⟨A, cap, c0, c1, _⟩ := h.read
  obtain ⟨i0, hi0, hz0, hz1, hz2⟩ := info73
  obtain ⟨i3, hi3, hy0, hy1, hy2⟩ := info3
  have hgl : g < w.heap.size := World.block_lt_of_cell? w _ c0
  have f0 : w.frozen? ⟨g, 0, none⟩ = false := by
    obtain ⟨v, hb, _⟩ := h
    exact hb.frozen 0
  obtain ⟨rw0, k0⟩ := h.setNow t
  have G0 := Lib.hid (show GM w ((w.setCell ⟨g, 0, none⟩ (.int .u64 t)).alloc (.cells #[] 3)) g t R R (.slice (some ⟨w.heap.size, 0, none⟩) 0 0) [] from
    ⟨rw0.none_kept ((Kp.refl (fun _ => False) _).alloc _), by
      have q := World.ownsRow_made (w.setCell ⟨g, 0, none⟩ (.int .u64 t)) (base := w.heap.size) (e := 3) (size := 1) #[] 0 k0.size (by unfold maxLen; omega) rfl
      have e : (w.setCell ⟨g, 0, none⟩ (.int .u64 t)).heap.size = w.heap.size := by simp [World.setCell]
      rw [e] at q
      exact q, fun e => (by cases e), rfl, rfl, Nat.le_refl _, k0.alloc _⟩)
  clear h rw0 k0
  go_enter Tryd.func26, Tryd.ntmps26
  go_wp2_with fail
  generalize (w.setCell ⟨g, 0, none⟩ (.int .u64 t)).alloc (.cells #[] 3) = w0 at G0 ⊢
  go_loopw [6] (fun v wr => ∃ (S : Rows) (out : List Int), GM w wr g t R S v out) (fun v _ => R.length - (match v with | .slice _ n _ => n | _ => 0))
  case atStart => exact ⟨R, [], G0.out⟩
  case round =>
    obtain ⟨S, out, hm⟩ := hrel
    have hol := hm.len
    have hsz := hm.kp.size
    have hSl := hm.sl
    rcases S with _ | ⟨y, S⟩
    · obtain ⟨A', cap', d0, d1, _⟩ := hm.rw_.read
      have d1 : wr.cell? ⟨g, 1, none⟩ = some (.slice A' 0 cap') := d1
      have POST := Lib.hid (hm.ends rfl rfl)
      clear hm
      go_wp2_with fail
      exact bodyPost_ret (results_tmp2 rfl _ _ _) rfl ⟨_, rfl, POST.out⟩
    · obtain ⟨b, cp, AD, d0, d1, df, y1, y2, hcp, hcm, hAD, _⟩ := hm.rw_.parts
      have Hm := Lib.hid hm
      have hSl2 : S.length + 1 ≤ R.length := hSl
      have s1 : (0 : Int) < ((S.length + 1 : Nat) : Int) := by omega
      obtain ⟨ya, yb⟩ := y
      simp only at y1 y2
      by_cases hle : yb ≤ t
      · have hx : (yb : Int) ≤ (t : Int) := by omega
        have Hgot := Lib.hid (show (out ++ [ya]) ++ rgot t S = rgot t R by
          rw [← hm.got]
          show _ = out ++ (if yb ≤ t then ya :: rgot t S else [])
          rw [if_pos hle]
          simp)
        have Hrest := Lib.hid (show rrest t S = rrest t R by
          rw [← hm.rest]
          show _ = if yb ≤ t then rrest t S else (ya, yb) :: S
          rw [if_pos hle])
        have HL : Hid (out.length + 1 ≤ R.length) := Lib.hid (by
          have h1 := congrArg List.length Hgot.out
          have h2 := rgot_len t R
          rw [List.length_append, List.length_append] at h1
          simp at h1
          omega)
        have hl1 : out.length + 1 ≤ 1000000 := Nat.le_trans HL.out hl
        clear hm hAD hle
        go_wp2_with (first
          | (at_builtin
             refine wpList_append_own _ rfl (.tmp 37) (.tmp 45) _ rfl w.heap.size 3 i3 _ 1 8 Tryd.underlying47 hi3 hy0 hy1 hy2 rfl (by omega) u6 out.length (out.map encZ) rfl (Hm.out.own.alloc _) ⟨wr.heap.size, 0, none⟩ 1 1 [.int .i64 ya] rfl rfl (cells_one_new _ _ _) (one_one _) (by unfold maxLen; omega) (by omega) (by simp; omega) ?_
             intro v1 w3 hown1 hgrow1 hnil1
             go_must (
               have kA := (Kp.refl (fun _ => False) wr).alloc (.cells #[.int .i64 ya] 3)
               have kB := (Kp.refl (fun b => u6.ownBlock = some b) (wr.alloc (.cells #[.int .i64 ya] 3))).grown hgrow1 (fun i hi => .inl hi)
               have rw3 := (Hm.out.rw_.none_kept kA).kept kB (fun e => by have := (Hm.out.own.lt _ e).1; omega) (fun b cs hb => own_kind (Hm.out.own.alloc _) hb (by decide))
               have k3 := (Hm.out.kp.alloc (.cells #[.int .i64 ya] 3)).grown hgrow1 (fun i hi => .inr (Hm.out.own.lt i hi).1)
               obtain ⟨b3, cp3, AD3, e0, e1, ef, _, _, hcp3, hcm3, hAD3, hn3⟩ := rw3.parts
               have hg3 : g < w3.heap.size := World.block_lt_of_cell? w3 _ e1
               have Hrw3 := Lib.hid rw3
               have Hk3 := Lib.hid k3
               have Hown1 := Lib.hid hown1
               have Hnn1 := Lib.hid (fun e => Hm.out.nn (hnil1.1 e).1)
               have Hn3 := Lib.hid hn3
               have Hown0 := Lib.hid (World.ownsRow_made w3 (base := w3.heap.size) (e := 73) (size := 2) #[] 0 (Nat.le_refl _) (by unfold maxLen; omega) rfl)
               have Hsl := Lib.hid (rowsC_len S)
               have t1 : (1 : Int) ≤ ((S.length + 1 : Nat) : Int) := by omega
               have t2 : ((S.length + 1 : Nat) : Int) ≤ (cp3 : Int) := by omega
               have t3 : (1 : Int) ≤ (cp3 : Int) := by omega
               clear rw3 k3 hown1 hgrow1 hnil1 hn3 kA kB))
          | (at_builtin
             go_must (
               refine wpList_append_own _ rfl (.tmp 48) (.tmp 53) _ rfl w3.heap.size 73 i0 _ 2 16 Tryd.underlying69 hi0 hz0 hz1 hz2 rfl (by omega) (.slice (some ⟨w3.heap.size, 0, none⟩) 0 0) 0 [] rfl Hown0.out AD3 S.length (cp3 - 1) (rowsC S) rfl Hsl.out (Hn3.out _ ((Kp.refl _ _).alloc _)) (rowsC_one _) (by unfold maxLen at *; omega) (by unfold maxLen at *; omega) (by simp) ?_
               intro v2 w4 hown2 hgrow2 hnil2
               have k4 := ((Kp.refl (fun _ => False) w3).alloc (.cells #[] 73)).grown hgrow2 (fun i hi => .inr (Hown0.out.lt i hi).1)
               obtain ⟨g', cp4, hv, hbg⟩ := own_form hown2 (fun e => by have := (hnil2.1 e).1; cases this)
               rw [hv] at hown2 ⊢
               rw [Nat.zero_add] at hown2 ⊢
               have e1' := (k4.cell (p := ⟨g, 1, none⟩) hg3 (fun f => f)).trans e1
               have ef' := (k4.frozen (p := ⟨g, 1, none⟩) hg3 (fun f => f)).trans ef
               obtain ⟨rw5, k5⟩ := Hrw3.out.relay (out := S) k4 rfl (by simpa using hown2)
               have own5 := own_kp (own_kp Hown1.out k4 (fun _ _ f => f)) ((Kp.refl (fun b => b = g) w4).setCell (p := ⟨g, 1, none⟩) (.inl rfl) (.slice (some ⟨g', 0, none⟩) S.length cp4)) (fun k hk e => by have := (Hown1.out.lt k hk).1; omega)
               have POST := Lib.hid (show GM w (w4.setCell ⟨g, 1, none⟩ (.slice (some ⟨g', 0, none⟩) S.length cp4)) g t R S v1 (out ++ [ya]) from
                 ⟨rw5, by rw [encZ_snoc, List.length_append]; exact own5, Hnn1.out, Hgot.out, Hrest.out, by omega, Hk3.out.trans' k5⟩)
               clear k4 hown2 hgrow2 hnil2 hv rw5 k5 own5)))
        obtain ⟨gv, cv, hv, _⟩ := own_form Hown1.out Hnn1.out
        subst hv
        go_roundw
        case rel => exact ⟨S, _, POST.out⟩
        case measure =>
          obtain ⟨gu, cu, hu, _⟩ := own_form Hm.out.own Hm.out.nn
          rw [hu]
          have := HL.out
          simp
          omega
      · have hx : ¬ (yb : Int) ≤ (t : Int) := by omega
        have POST := Lib.hid (hm.ends (show (if yb ≤ t then ya :: rgot t S else []) = [] from if_neg hle) (show (if yb ≤ t then rrest t S else (ya, yb) :: S) = (ya, yb) :: S from if_neg hle))
        clear hm hle hAD
        go_wp2_with fail
        exact bodyPost_ret (results_tmp2 rfl _ _ _) rfl ⟨_, rfl, POST.out⟩
end Go.Proofs.YtdakkmaahgcjfaaDoor
