/- Wheel: the walk of WheelCancels. -/
import Derived.Test.YtdakkmaahgcjfaaDoorWjv
set_option linter.unusedVariables false
set_option linter.unusedSimpArgs false
namespace Go.Proofs.YtdakkmaahgcjfaaDoor
open Go.RowKit

theorem rdue_rset {R : Rows} (h : RS R) (i j : Int) (d : Nat) : rdue j (rset i d R) = if j = i then some d else rdue j R := by
  have hs := h.set i d
  by_cases e : j = i
  · subst e
    rw [if_pos rfl]
    exact hs.due.2 (mem_rset.2 (.inl rfl))
  · rw [if_neg e]
    rcases hd : rdue j R with _ | v
    · rw [rdue_none]
      intro x hx ex
      rcases mem_rset.1 hx with rfl | hx
      · exact e ex.symm
      · exact rdue_none.1 hd x hx.1 ex
    · exact hs.due.2 (mem_rset.2 (.inr ⟨rdue_mem hd, e⟩))
theorem rdue_rdel {R : Rows} (h : RS R) (i j : Int) : rdue j (rdel i R) = if j = i then none else rdue j R := by
  by_cases e : j = i
  · subst e
    rw [if_pos rfl, rdue_none]
    intro x hx
    exact (mem_rdel.1 hx).2
  · rw [if_neg e]
    rcases hd : rdue j R with _ | v
    · rw [rdue_none]
      intro x hx
      exact rdue_none.1 hd x (mem_rdel.1 hx).1
    · exact (h.del i).due.2 (mem_rdel.2 ⟨rdue_mem hd, e⟩)
theorem rset_len {R : Rows} (h : RS R) (i : Int) (d : Nat) : (rset i d R).length = if (rdue i R).isSome then R.length else R.length + 1 := by
  unfold rset
  rw [rins_len]
  rcases hd : rdue i R with _ | v
  · rw [rdel_none hd]; rfl
  · have := rdel_len h.nd hd
    simp
    omega
/-- The map of those that are wanted is as the rows. -/
structure Want (R : Rows) (L : List Ent) : Prop where
  get : ∀ i, mget i L = (rdue i R).map (fun d : Nat => Value.int .u64 (d : Int))
  len : L.length = R.length
theorem Want.nil : Want [] [] := ⟨fun i => rfl, rfl⟩
theorem mput_len2 (i : Int) (v : Value) (c : Nat) (L : List Ent) : (mput i v c L).length = if (mget i L).isSome then L.length else L.length + 1 := by
  unfold mput
  split
  · exact mset_len i v L
  · simp
theorem Want.set {R : Rows} {L : List Ent} (h : Want R L) (hr : RS R) (i : Int) (d c : Nat) : Want (rset i d R) (mput i (.int .u64 (d : Int)) c L) := by
  refine ⟨fun j => ?_, ?_⟩
  · rw [mget_mput, rdue_rset hr, h.get]
    by_cases e : j = i <;> simp [e]
  · rw [mput_len2, rset_len hr, h.get, h.len]
    rcases rdue i R with _ | v <;> rfl
theorem Want.del {R : Rows} {L : List Ent} (h : Want R L) (hr : RS R) (hn : (L.map Ent.k).Nodup) (i : Int) : Want (rdel i R) (mdel i L) := by
  refine ⟨fun j => ?_, ?_⟩
  · rw [mget_mdel i j L hn, rdue_rdel hr, h.get]
    by_cases e : j = i <;> simp [e]
  · have hg := h.get i
    have hl := h.len
    rcases hd : rdue i R with _ | v
    · rw [hd] at hg
      rw [mdel_none i L hg, rdel_none hd, hl]
    · rw [hd] at hg
      have h1 := mdel_len i L (by rw [hg]; rfl)
      have h2 := rdel_len hr.nd hd
      omega
theorem Want.look {w : World} {b clk : Nat} {R : Rows} {L : List Ent} (h : Want R L) (hm : IMap w b clk L) (k : Int) : (Instr.lookup 56 (.map (some b)) (.int .i64 k) true).run Tryd.prog w = .ok (.tuple #[.int .u64 ((rdI R k : Nat) : Int), .bool (rdue k R).isSome]) w := by
  have := (hm.run_lookup (P := Tryd.prog) (T := 56) (E := 22) (K := 3) Tryd.underlying56 Tryd.underlying3 (z := .int .u64 0) (by kernel_rfl) k).2
  rw [h.get k] at this
  unfold rdI
  rcases hd : rdue k R with _ | d
  · rw [hd] at this; exact this
  · rw [hd] at this; exact this
/-- How many rows are due by t, among those whose key is from -1 on and less than i. -/
def cR (t : Nat) (i : Int) (R : Rows) : Nat := (R.filter (fun x => decide (-1 ≤ x.1) && decide (x.1 < i) && decide (x.2 ≤ t))).length
theorem split_len (a : Int) (q : Int × Nat → Bool) : ∀ {R : Rows}, (R.map Prod.fst).Nodup → (R.filter q).length = (R.filter (fun x => q x && x.1 != a)).length + (match rdue a R with | some d => if q (a, d) = true then 1 else 0 | none => 0)
  | [], _ => rfl
  | y :: R, hn => by
    rw [List.map_cons, List.nodup_cons] at hn
    have ih := split_len a q (R := R) hn.2
    by_cases e : y.1 = a
    · have hno : rdue a R = none := rdue_none.2 (fun x hx ex => hn.1 (List.mem_map.2 ⟨x, hx, by rw [ex, e]⟩))
      rw [hno] at ih
      have hy : rdue a (y :: R) = some y.2 := by unfold rdue; rw [if_pos e]
      rw [hy]
      have ey : (a, y.2) = y := by rw [← e]
      simp only [List.filter_cons, ey]
      have h1 : (q y && y.1 != a) = false := by simp [e]
      rw [h1]
      by_cases hq : q y = true
      · simp only [hq, if_true, List.length_cons, Bool.false_eq_true, if_false]
        simp at ih
        simp
        omega
      · simp only [hq, if_false, Bool.false_eq_true]
        simp at ih
        simp
        omega
    · have hy : rdue a (y :: R) = rdue a R := by conv => lhs; unfold rdue; rw [if_neg e]
      rw [hy]
      simp only [List.filter_cons]
      have h1 : (q y && y.1 != a) = q y := by simp [e]
      rw [h1]
      by_cases hq : q y = true
      · simp only [hq, if_true, List.length_cons]; omega
      · simp only [hq, if_false, Bool.false_eq_true]; exact ih
theorem cR_start (t : Nat) (R : Rows) : cR t (-1) R = 0 := by
  unfold cR
  rw [List.length_eq_zero_iff, List.filter_eq_nil_iff]
  intro x _
  simp
  omega
theorem cR_step {R : Rows} (h : RS R) (t : Nat) (i : Int) (hi : -1 ≤ i) : cR t (i + 1) R = cR t i R + (if (rdue i R).isSome = true ∧ rdI R i ≤ t then 1 else 0) := by
  unfold cR
  rw [split_len i _ h.nd]
  congr 1
  · congr 1
    apply List.filter_congr
    intro x _
    rw [Bool.eq_iff_iff]
    simp
    omega
  · unfold rdI
    rcases hd : rdue i R with _ | d
    · simp
    · simp
      by_cases hdt : d ≤ t
      · rw [if_pos hdt, if_pos ⟨⟨hi, by omega⟩, hdt⟩]
      · rw [if_neg hdt, if_neg (fun hh => hdt hh.2)]
theorem rgot_filter (t : Nat) : ∀ {R : Rows}, RS R → (rgot t R).length = (R.filter (fun x => decide (x.2 ≤ t))).length
  | [], _ => rfl
  | y :: R, h => by
    have ih := rgot_filter t h.tail
    unfold rgot
    by_cases hy : y.2 ≤ t
    · rw [if_pos hy]; simp [List.filter_cons, hy, ih]
    · rw [if_neg hy]
      have : (y :: R).filter (fun x => decide (x.2 ≤ t)) = [] := by
        rw [List.filter_eq_nil_iff]
        intro x hx
        rcases List.mem_cons.1 hx with rfl | hx
        · simpa using hy
        · have := (List.pairwise_cons.1 h.ord).1 x hx
          unfold rlt at this
          simp
          omega
      rw [this]; rfl
/-- Keys: the first n, and one more. -/
def KeysN (n : Nat) (a : Option Int) (R : Rows) : Prop := ∀ x ∈ R, (0 ≤ x.1 ∧ x.1 < n) ∨ a = some x.1
theorem KeysN.count {R : Rows} {n t due : Nat} {a : Int} (h : KeysN n (some a) R) (hr : RS R) (ha : rdue a R = some due) : (rgot t R).length = cR t ((n : Int) + 1) R + (if (a < -1 ∨ (n : Int) < a) ∧ due ≤ t then 1 else 0) := by
  rw [rgot_filter t hr]
  by_cases hout : a < -1 ∨ (n : Int) < a
  · rw [split_len a _ hr.nd, ha]
    unfold cR
    congr 1
    · congr 1
      apply List.filter_congr
      intro x hx
      rw [Bool.eq_iff_iff]
      have := h x hx
      simp only [Option.some.injEq] at this
      simp
      omega
    · by_cases hd : due ≤ t
      · simp [hout, hd]
      · simp [hd]
  · rw [if_neg (fun hh => hout hh.1)]
    unfold cR
    rw [Nat.add_zero]
    congr 1
    apply List.filter_congr
    intro x hx
    rw [Bool.eq_iff_iff]
    have := h x hx
    simp only [Option.some.injEq] at this
    simp
    omega
/-- The wanted ones that are left behind j that were told. -/
structure LeftW (R : Rows) (l : List Int) (L : List Ent) : Prop where
  get : ∀ i, mget i L = if i ∈ l then none else (rdue i R).map (fun d : Nat => Value.int .u64 (d : Int))
  len : L.length + l.length = R.length
theorem Want.left {R : Rows} {L : List Ent} (h : Want R L) : LeftW R [] L := ⟨fun i => by rw [h.get]; simp, h.len⟩
theorem LeftW.del {R : Rows} {l : List Int} {L : List Ent} (h : LeftW R l L) (hn : (L.map Ent.k).Nodup) {x : Int} {d : Nat} (hx : rdue x R = some d) (hl : x ∉ l) : LeftW R (l ++ [x]) (mdel x L) := by
  refine ⟨fun j => ?_, ?_⟩
  · rw [mget_mdel x j L hn, h.get]
    by_cases e : j = x
    · simp [e]
    · simp [e]
  · have hg := h.get x
    rw [if_neg hl, hx] at hg
    have h1 := mdel_len x L (by rw [hg]; rfl)
    have := h.len
    rw [List.length_append, List.length_singleton]
    omega
theorem LeftW.look {w : World} {b clk : Nat} {R : Rows} {l : List Int} {L : List Ent} (h : LeftW R l L) (hm : IMap w b clk L) {x : Int} {d : Nat} (hx : rdue x R = some d) (hl : x ∉ l) : (Instr.lookup 56 (.map (some b)) (.int .i64 x) true).run Tryd.prog w = .ok (.tuple #[.int .u64 (d : Int), .bool true]) w := by
  have := (hm.run_lookup (P := Tryd.prog) (T := 56) (E := 22) (K := 3) Tryd.underlying56 Tryd.underlying3 (z := .int .u64 0) (by kernel_rfl) x).2
  rw [h.get x, if_neg hl, hx] at this
  exact this
theorem RS.got_at {R : Rows} (h : RS R) {t j : Nat} (hj : j < (rgot t R).length) : ∃ d, rdue ((rgot t R).getD j 0) R = some d ∧ d ≤ t ∧ (rgot t R).getD j 0 ∉ (rgot t R).take j ∧ (rgot t R).take (j + 1) = (rgot t R).take j ++ [(rgot t R).getD j 0] := by
  have e : (rgot t R).getD j 0 = (rgot t R)[j] := by simp [hj]
  rw [e]
  obtain ⟨d, hd, hle⟩ := h.mem_got.1 (List.getElem_mem hj)
  refine ⟨d, h.due.2 hd, hle, fun hmem => ?_, List.take_succ_eq_append_getElem hj⟩
  have hord := List.pairwise_iff_getElem.1 (h.got_ord t)
  obtain ⟨i, hi, e2⟩ := List.getElem_of_mem hmem
  rw [List.length_take] at hi
  rw [List.getElem_take] at e2
  have := hord i j (by omega) hj (by omega)
  rw [e2] at this
  omega
set_option maxRecDepth 1000000 in
set_option maxHeartbeats 8000000 in
theorem cancels_walk (A : Option Addr) (c : Nat) (D : List Nat) (cn ag : Int) (due now : Nat) (w : World) (hT : Tab w) (hD : RdU w .u64 A D) (hag : -9223372036854775808 ≤ ag ∧ ag ≤ 9223372036854775807) :
    Calls Tryd.prog 6 #[.slice A D.length c, .int .i64 cn, .int .i64 ag, .int .u64 due, .int .u64 now] w fun e w' => e = .returned (.bool true) ∧ Kp (fun _ => False) w w' := by
  have HT := Lib.hid hT
  have HD := Lib.hid hD
  have hpos := hT.lt
  clear hT hD
  by_cases hl1 : (60 : Int) < (D.length : Int)
  · go_enter Tryd.func6, Tryd.ntmps6
    go_wp2_with fail
    refine (alive13 _ HT.out).mono ?_
    rintro e w1 ⟨rfl, k1⟩
    go_wp2_with fail
    exact bodyPost_ret (results_tmp rfl _ _ _) rfl ⟨rfl, k1⟩
  by_cases hl2 : (4611686018427387904 : Int) < (due : Int)
  · go_enter Tryd.func6, Tryd.ntmps6
    go_wp2_with fail
    refine (alive13 _ HT.out).mono ?_
    rintro e w1 ⟨rfl, k1⟩
    go_wp2_with fail
    exact bodyPost_ret (results_tmp rfl _ _ _) rfl ⟨rfl, k1⟩
  by_cases hl3 : (4611686018427387904 : Int) < (now : Int)
  · go_enter Tryd.func6, Tryd.ntmps6
    go_wp2_with fail
    refine (alive13 _ HT.out).mono ?_
    rintro e w1 ⟨rfl, k1⟩
    go_wp2_with fail
    exact bodyPost_ret (results_tmp rfl _ _ _) rfl ⟨rfl, k1⟩
  have hdue : due ≤ TOP := by unfold TOP; omega
  have hnow : now ≤ TOP := by unfold TOP; omega
  have hmm := @run_makeMap Tryd.prog
  go_enter Tryd.func6, Tryd.ntmps6
  go_wp2_with fail
  refine (alive13 _ HT.out).mono ?_
  rintro e w1 ⟨rfl, k1⟩
  go_wp2_with fail
  refine (xnew 0 w w1 (by decide) (HT.out.kept k1 (fun f => f)) hpos k1).mono ?_
  rintro e w2 ⟨g, rfl, h2, _⟩
  have ha := h2.aside ((Kp.refl (fun _ => False) w2).alloc (.map #[] 0))
  rw [show (w2.alloc (.map #[] 0)).heap.size = w2.heap.size + 1 by simp] at ha
  have XA := Lib.hid ha
  have MA := Lib.hid (IMap.made w2)
  have htb : w.heap.size ≤ w2.heap.size := h2.kp.size
  clear ha h2 k1
  go_wp2_with fail
  generalize hWA : w2.alloc (.map #[] 0) = wa at XA MA ⊢
  generalize htbb : w2.heap.size = tb at *
  clear hWA htbb
  go_loopw [14] (fun v wr => ∃ (i clk : Nat) (R : Rows) (L : List Ent), v = .int .i64 i ∧ i ≤ D.length ∧ Wx w tb (tb + 1) wr g 0 R ∧ IMap wr tb clk L ∧ Want R L ∧ KeysN i none R ∧ R.length ≤ i) (fun v _ => D.length - (intOf v).toNat)
  case atStart => exact ⟨0, 0, [], [], rfl, Nat.zero_le _, XA.out, MA.out, Want.nil, (fun x hx => by cases hx), Nat.le_refl _⟩
  case round =>
    obtain ⟨i, clk, R, L, rfl, hi, hX, hM, hW, hK, hlR⟩ := hrel
    have HX := Lib.hid hX
    have HM := Lib.hid hM
    have HW := Lib.hid hW
    have HK := Lib.hid hK
    have i0 : (0 : Int) ≤ (i : Int) := by omega
    have hrs := hX.rs
    clear hX hM hW hK
    by_cases hlt : i < D.length
    · have i1 : (i : Int) < (D.length : Int) := by omega
      have HDW := Lib.hid (HD.out.at_ hlt)
      obtain ⟨b, o, rfl, e0⟩ := (HD.out.kp HX.out.kp).at_ hlt
      obtain ⟨b', o', hbo, e0'⟩ := HDW.out
      cases hbo
      have Y1 := Lib.hid e0'
      clear HDW e0'
      generalize D.getD i 0 = di at *
      have hfr : rdue (i : Int) R = none := rdue_none.2 (fun x hx e => by
        rcases HK.out x hx with h | h
        · omega
        · cases h)
      by_cases hd : di ≤ TOP
      · have e1 : setE R i di = 0 := by unfold setE; rw [if_neg (by omega), if_neg (by omega)]
        have HST := xset g 0 R i di wr HX.out (by omega)
        have e2 : setR R i di = rset i di R := by unfold setR; rw [e1]; rfl
        rw [e1, e2] at HST
        have HW2 := Lib.hid (fun c => HW.out.set hrs (i : Int) di c)
        have HLN := Lib.hid (show (rset (i : Int) di R).length ≤ i + 1 from Nat.le_trans (rset_len_le ..) (by omega))
        have HK2 := Lib.hid (show KeysN (i + 1) none (rset (i : Int) di R) from fun x hx => by
          rcases mem_rset.1 hx with rfl | ⟨hx, _⟩
          · left; simp only; omega
          · rcases HK.out x hx with h | h
            · left; omega
            · cases h)
        clear e1 e2 hfr hlR hrs
        generalize rset (i : Int) di R = R4 at *
        go_wp2_with fail
        refine HST.mono ?_
        rintro ev w4 ⟨rfl, x4, k4⟩
        have hm4 := HM.out.by_wx k4
        have z4 := kp_kc0 Y1.out x4.kp
        obtain ⟨w5, clk5, hup, hm5, k5⟩ := hm4.run_update (P := Tryd.prog) (T := 56) (E := 22) (K := 3) Tryd.underlying56 Tryd.underlying3 (i : Int) (.int .u64 (di : Int))
        have X5 := Lib.hid (x4.by_map htb k5)
        have M5 := Lib.hid hm5
        clear x4 k4 hm4 hm5 k5 HST
        go_wp2_with fail
        go_roundw
        case rel => exact ⟨i + 1, clk5, R4, _, by go_num, hlt, X5.out, M5.out, HW2.out clk, HK2.out, HLN.out⟩
        case measure => simp [intOf]; omega
      · have e1 : setE R i di = 11 := by unfold setE; rw [if_pos (by omega)]
        have HST := xset g 0 R i di wr HX.out (by omega)
        have e2 : setR R i di = R := by unfold setR; rw [e1]; rfl
        rw [e1, e2] at HST
        clear e1 e2 hfr hrs
        go_wp2_with fail
        refine HST.mono ?_
        rintro ev w4 ⟨rfl, x4, k4⟩
        have X4 := Lib.hid x4
        have M4 := Lib.hid (HM.out.by_wx k4)
        clear x4 k4 HST
        go_wp2_with fail
        go_roundw
        case rel => exact ⟨i + 1, clk, R, L, by go_num, hlt, X4.out, M4.out, HW.out, (fun x hx => by
          rcases HK.out x hx with h | h
          · left; omega
          · cases h), by omega⟩
        case measure => simp [intOf]; omega
    · obtain rfl : i = D.length := by omega
      have hlk := HW.out.look HM.out cn
      have HCN := xcancel g 0 R cn wr HX.out
      have HW1 := Lib.hid (HW.out.del hrs HM.out.keys cn)
      have HR1 := Lib.hid (hrs.del cn)
      have hl1' : (rdel cn R).length ≤ 60 := Nat.le_trans (List.length_filter_le ..) (by omega)
      have HK1 := Lib.hid (show KeysN D.length none (rdel cn R) from fun x hx => HK.out x (mem_rdel.1 hx).1)
      generalize rdel cn R = R1 at *
      generalize (rdue cn R).isSome = E at *
      generalize rdI R cn = d0 at *
      go_wp2_with fail
      refine HCN.mono ?_
      rintro ev w3 ⟨rfl, x3, k3⟩
      obtain ⟨w4, hdel, hm4, k4⟩ := (HM.out.by_wx k3).run_delete (P := Tryd.prog) (T := 56) (E := 22) (K := 3) Tryd.underlying56 Tryd.underlying3 cn 3 0
      have x4 := x3.by_map htb k4
      have HST := xset g 0 R1 ag due w4 x4 hag
      have e1 : setE R1 ag due = 0 := by unfold setE; rw [if_neg (by omega), if_neg (by omega)]
      have e2 : setR R1 ag due = rset ag due R1 := by unfold setR; rw [e1]; rfl
      rw [e1, e2] at HST
      have M4 := Lib.hid hm4
      have HW2 := Lib.hid (fun c => HW1.out.set HR1.out ag due c)
      have HLN : Hid ((rset ag due R1).length ≤ 61) := Lib.hid (Nat.le_trans (rset_len_le ..) (by omega))
      have HK2 := Lib.hid (show KeysN D.length (some ag) (rset ag due R1) from fun x hx => by
          rcases mem_rset.1 hx with rfl | ⟨hx, _⟩
          · exact .inr rfl
          · exact .inl ((HK1.out x hx).resolve_right (by simp)))
      have HDA := Lib.hid (show rdue ag (rset ag due R1) = some due by rw [rdue_rset HR1.out, if_pos rfl])
      have HR2 := Lib.hid (HR1.out.set ag due)
      clear x3 k3 hm4 x4 k4 HCN e1 e2 hlk hrs hlR
      generalize rset ag due R1 = R2 at *
      cases E
      all_goals
        go_wp2_with fail
        refine HST.mono ?_
        rintro ev w5 ⟨rfl, x5, k5⟩
        obtain ⟨w6, clk6, hup, hm6, k6⟩ := (M4.out.by_wx k5).run_update (P := Tryd.prog) (T := 56) (E := 22) (K := 3) Tryd.underlying56 Tryd.underlying3 ag (.int .u64 (due : Int))
        have x6 := x5.by_map htb k6
        have W6 := HW2.out clk
        have hlen := hm6.run_len (P := Tryd.prog) (T := 56) (E := 22) (K := 3) Tryd.underlying56 3
        rw [W6.len] at hlen
        have hll := HLN.out
        have HGO := xgo g 0 now R2 w6 x6 (by omega)
        obtain ⟨g1, g2, g3⟩ := goL_ok (n := 0) (t := now) (Nat.zero_le _) hnow R2
        rw [g1, g2, g3, goE_ok (n := 0) (t := now) (Nat.zero_le _) hnow] at HGO
        have X6 := Lib.hid x6
        have M6 := Lib.hid hm6
        have HW6 := Lib.hid W6
        have HCT := Lib.hid (HK2.out.count HR2.out HDA.out (t := now))
        have HGA := Lib.hid (fun j (hj : j < (rgot now R2).length) => HR2.out.got_at hj)
        have HGL := Lib.hid (rgot_len now R2)
        clear x5 k5 x6 k6 hm6 W6 HST g1 g2 g3
        generalize rgot now R2 = l at *
        generalize rrest now R2 = R3 at *
        go_wp2_with fail
        refine (xlen g 0 R2 _ X6.out).mono ?_
        rintro ev w7 ⟨rfl, rfl⟩
        go_wp2_with fail
        refine HGO.mono ?_
        rintro ev w7 ⟨A7, c7, rfl, r7, _, x7, k7⟩
        have X7 := Lib.hid x7
        have M7 := Lib.hid (M6.out.by_wx k7)
        have R7 := Lib.hid r7
        clear x7 k7 r7 HGO hlen
        go_wp2_with fail
        go_loopw [19, 20] (fun nv iv wr => ∃ i : Int, iv = .int .i64 i ∧ nv = .int .i64 ((cR now i R2 : Nat) : Int) ∧ -1 ≤ i ∧ i ≤ (D.length : Int) + 1 ∧ Kp (fun _ => False) w7 wr) (fun _ iv _ => ((D.length : Int) + 1 - intOf iv).toNat)
        case atStart => exact ⟨-1, rfl, by rw [cR_start]; rfl, by omega, by omega, Kp.refl _ _⟩
        case round =>
          obtain ⟨i, rfl, rfl, hi0, hi1, hk⟩ := hrel
          have HK7 := Lib.hid hk
          clear hk
          by_cases hle : i ≤ (D.length : Int)
          · have hlk := HW6.out.look (M7.out.kept HK7.out (fun f => f)) i
            have HCS := Lib.hid (cR_step HR2.out now i hi0)
            have hcl : cR now i R2 ≤ 61 := Nat.le_trans (List.length_filter_le ..) HLN.out
            have hwi : IntKind.i64.wrap (i + 1) = i + 1 := IntWalk.i64_in _ (by omega)
            have hwc : IntKind.i64.wrap (((cR now i R2 : Nat) : Int) + 1) = ((cR now i R2 + 1 : Nat) : Int) := by
              rw [show (((cR now i R2 : Nat) : Int) + 1) = ((cR now i R2 + 1 : Nat) : Int) by omega]
              exact IntWalk.i64_in _ (by omega)
            by_cases hs : (rdue i R2).isSome = true ∧ rdI R2 i ≤ now
            · have hce := HCS.out
              rw [if_pos hs] at hce
              obtain ⟨hs1, hs2⟩ := hs
              rw [hs1] at hlk
              have HCE := Lib.hid hce
              have hs3 : ((rdI R2 i : Nat) : Int) ≤ (now : Int) := by omega
              clear hce hs1
              generalize rdI R2 i = d1 at *
              generalize cR now i R2 = n1 at *
              go_wp2_with fail
              go_roundw
              case rel => exact ⟨i + 1, rfl, by rw [HCE.out]; rfl, by omega, by omega, HK7.out⟩
              case measure => simp [intOf]; omega
            · have hce := HCS.out
              rw [if_neg hs, Nat.add_zero] at hce
              have HCE := Lib.hid hce
              have hs2 : (rdue i R2).isSome = false ∨ (rdue i R2).isSome = true ∧ ¬ ((rdI R2 i : Nat) : Int) ≤ (now : Int) := by
                rcases hq : (rdue i R2).isSome with _ | _
                · exact .inl rfl
                · exact .inr ⟨rfl, fun h => hs ⟨hq, by omega⟩⟩
              clear hce hs
              generalize rdI R2 i = d1 at *
              generalize cR now i R2 = n1 at *
              rcases hs2 with hs2 | ⟨hs2, hs3⟩
              all_goals
                rw [hs2] at hlk
                clear hs2
                go_wp2_with fail
                go_roundw
                case rel => exact ⟨i + 1, rfl, by rw [HCE.out], by omega, by omega, HK7.out⟩
                case measure => simp [intOf]; omega
          · obtain rfl : i = (D.length : Int) + 1 := by omega
            have hct := HCT.out
            have hcl : cR now ((D.length : Int) + 1) R2 ≤ 61 := Nat.le_trans (List.length_filter_le ..) HLN.out
            generalize cR now ((D.length : Int) + 1) R2 = n1 at *
            have hwc : IntKind.i64.wrap ((n1 : Int) + 1) = ((n1 + 1 : Nat) : Int) := by
              rw [show ((n1 : Int) + 1) = ((n1 + 1 : Nat) : Int) by omega]
              exact IntWalk.i64_in _ (by omega)
            have hcase : (ag < -1 ∧ due ≤ now ∧ l.length = n1 + 1) ∨ (ag < -1 ∧ ¬ due ≤ now ∧ l.length = n1) ∨ (¬ ag < -1 ∧ (D.length : Int) < ag ∧ due ≤ now ∧ l.length = n1 + 1) ∨ (¬ ag < -1 ∧ (D.length : Int) < ag ∧ ¬ due ≤ now ∧ l.length = n1) ∨ (¬ ag < -1 ∧ ¬ (D.length : Int) < ag ∧ l.length = n1) := by
              by_cases q1 : ag < -1 <;> by_cases q2 : (D.length : Int) < ag <;> by_cases q3 : due ≤ now <;> simp [q1, q2, q3] at hct ⊢ <;> omega
            have HTK := Lib.hid (X7.out.none_kept HK7.out)
            have M8 := Lib.hid (M7.out.kept HK7.out (fun f => f))
            have R8 := Lib.hid (R7.out.none_kept HK7.out)
            clear hct hle hi0 hi1
            rcases hcase with ⟨q1, q3, ql⟩ | ⟨q1, q3, ql⟩ | ⟨q1, q2, q3, ql⟩ | ⟨q1, q2, q3, ql⟩ | ⟨q1, q2, ql⟩
            all_goals
              first
                | have q4 : (due : Int) ≤ (now : Int) := by omega
                | have q4 : ¬ (due : Int) ≤ (now : Int) := by omega
                | skip
              rw [ql]
              go_wp2_with fail
              go_loopw [23] (fun jv wr => ∃ (j clk : Nat) (L : List Ent), jv = .int .i64 j ∧ j ≤ l.length ∧ Wx w tb (tb + 1) wr g now R3 ∧ IMap wr tb clk L ∧ LeftW R2 (l.take j) L ∧ RdN wr A7 l) (fun jv _ => l.length - (intOf jv).toNat)
              case atStart => exact ⟨0, clk6, _, rfl, Nat.zero_le _, HTK.out, M8.out, by rw [List.take_zero]; exact HW6.out.left, R8.out⟩
              case round =>
                obtain ⟨j, clk9, L9, rfl, hj, hX9, hM9, hW9, hR9⟩ := hrel
                have HX9 := Lib.hid hX9
                have HM9 := Lib.hid hM9
                have HW9 := Lib.hid hW9
                have HR9 := Lib.hid hR9
                clear hX9 hM9 hW9 hR9
                have j0 : (0 : Int) ≤ (j : Int) := by omega
                by_cases hjl : j < l.length
                · have j1 : (j : Int) < (l.length : Int) := by omega
                  obtain ⟨dx, hdx, hdt, hnin, htk⟩ := HGA.out j hjl
                  obtain ⟨lb, lo, rfl, lc⟩ := HR9.out.at_ hjl
                  have lcj := lc j hjl
                  have hlk := HW9.out.look HM9.out hdx hnin
                  have HNX := Lib.hid (HW9.out.del HM9.out.keys hdx hnin)
                  rw [← htk] at HNX
                  have hdt2 : ¬ (now : Int) < (dx : Int) := by omega
                  clear hdx hnin htk lc
                  generalize l.getD j 0 = x at *
                  obtain ⟨wB, hdel2, hmB, kB⟩ := HM9.out.run_delete (P := Tryd.prog) (T := 56) (E := 22) (K := 3) Tryd.underlying56 Tryd.underlying3 x 3 0
                  have XB := Lib.hid (HX9.out.by_map htb kB)
                  have RB := Lib.hid (HR9.out.by_map HM9.out kB)
                  have MB := Lib.hid hmB
                  clear hmB kB
                  go_wp2_with fail
                  go_roundw
                  case rel => exact ⟨j + 1, clk9, _, by go_num, hjl, XB.out, MB.out, HNX.out, RB.out⟩
                  case measure => simp [intOf]; omega
                · obtain rfl : j = l.length := by omega
                  have hlen9 := HM9.out.run_len (P := Tryd.prog) (T := 56) (E := 22) (K := 3) Tryd.underlying56 3
                  have hl9 : L9.length = R3.length := by
                    have h1 := HW9.out.len
                    rw [List.length_take, Nat.min_self] at h1
                    have h2 := HGL.out
                    omega
                  rw [hl9] at hlen9
                  go_wp2_with fail
                  refine (xlen g now R3 _ HX9.out).mono ?_
                  rintro ev wC ⟨rfl, rfl⟩
                  go_wp2_with fail
                  exact bodyPost_ret (results_tmp rfl _ _ _) rfl ⟨by simp, HX9.out.kp⟩
end Go.Proofs.YtdakkmaahgcjfaaDoor
