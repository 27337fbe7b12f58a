/- Place: the walk of ParseMac. -/
import Derived.Test.YtkafdpidhelfdaaDoorPmh
import Derived.Laws.Tables
import Derived.Laws.Rows
import Derived.LoopTactic
import Derived.Laws.Strings3
set_option linter.unusedVariables false
set_option linter.unusedSimpArgs false
namespace Go.Proofs.YtkafdpidhelfdaaDoor
open Go.RowKit

theorem run_load_row_ {P : Program} (w : World) (g : Nat) (t ty : TypeId) (cs : Array Value) (fr : Nat × Nat) (d : TypeDesc) (hg : w.heap[g]? = some (.cells cs t fr)) (hu : P.underlying ty = some d) (hd : (match d with | .struct _ | .array _ _ => true | _ => false) = true) (hi : (P.info? ty).map (·.size) = some cs.size) : (loadVar ty ⟨g, 0, none⟩).run P w = .ok (.agg cs) w := run_loadVar_row w g t ty cs fr d hg hu hd hi
theorem res_ct {P : Program} {fn : Func} {p u : Tmp} {ty : TypeId} (h : fn.results = #[.cell p ty, .tmp u]) (tmps : Array Value) (w : World) (g : Nat) (t : TypeId) (cs : Array Value) (fr : Nat × Nat) (d : TypeDesc)
    (hp : tmps.getD p undef = .pointer (some ⟨g, 0, none⟩)) (hg : w.heap[g]? = some (.cells cs t fr))
    (hu : P.underlying ty = some d) (hd : (match d with | .struct _ | .array _ _ => true | _ => false) = true) (hi : (P.info? ty).map (·.size) = some cs.size) :
    (results fn tmps).run P w = .ok (.tuple #[.agg cs, tmps.getD u undef]) w := by
  have hp' : tmps[p]?.getD undef = .pointer (some ⟨g, 0, none⟩) := by simpa using hp
  simp [results, h, hp', asAddr, run_load_row_ w g t ty cs fr d hg hu hd hi]
section
variable {P : Program} {ops : Array Oper} {rest : List Oper} {o : Oper} {a : Act} {W : World} {Q : Exit → Act → World → Prop}
theorem at_store {t : TypeId} {p : Tmp} {v : Operand} (_ho : o.op = .store t (.tmp p) v) (h : wpList P ops Q (o :: rest) a W) : wpList P ops Q (o :: rest) a W := h
theorem at_load {t : TypeId} {p : Tmp} (_ho : o.op = .load t (.tmp p)) (h : wpList P ops Q (o :: rest) a W) : wpList P ops Q (o :: rest) a W := h
end
theorem setRow_heap {w : World} {g : Nat} {t : TypeId} {cs cs' : Array Value} (h : Bk w g t cs) : Bk (w.setRow g cs') g t cs' := by
  unfold Bk at h ⊢
  simp [World.setRow, Array.getElem?_modify, h]
theorem setRow_far {w : World} {g k : Nat} {cs : Array Value} (hk : k ≠ g) : (w.setRow g cs).heap[k]? = w.heap[k]? := by
  simp [World.setRow, Array.getElem?_modify, Ne.symm hk]
theorem kp_row {S : Nat → Prop} {a w : World} (h : Kp S a w) {g : Nat} (hg : S g ∨ a.heap.size ≤ g) (cs : Array Value) : Kp S a (w.setRow g cs) :=
  ⟨h.os, h.tape, h.output, by simpa [World.setRow] using h.size, fun k hk hS => (setRow_far (by rintro rfl; rcases hg with hg | hg; exact hS hg; omega)).trans (h.block k hk hS)⟩
/-- What start-up code has laid, with the table of the digits' number. -/
structure Laid2 (w : World) : Prop where
  laid : Laid w
  tz : w.cell? ⟨7, 15, none⟩ = some (.int .u8 4)
theorem Laid2.keep {w w' : World} (h : Laid2 w) (hk : Kp (fun _ => False) w w') : Laid2 w' := ⟨h.laid.keep hk, kp_kc0 h.tz hk⟩
abbrev macC (a b c d e f : Nat) : Array Value := #[.int .u8 (a : Int), .int .u8 (b : Int), .int .u8 (c : Int), .int .u8 (d : Int), .int .u8 (e : Int), .int .u8 (f : Int)]
theorem mac_one (a b c d e f : Nat) : (macC a b c d e f).all (·.oneCell') = true := by simp [Value.oneCell']
theorem info37 : (Tryd.prog.info? 37).map (·.size) = some 6 := by kernel_rfl
theorem six {P : List ByteArray} (h : P.length = 6) : ∃ p0 p1 p2 p3 p4 p5, P = [p0, p1, p2, p3, p4, p5] := by
  match P, h with
  | [p0, p1, p2, p3, p4, p5], _ => exact ⟨p0, p1, p2, p3, p4, p5, rfl⟩
theorem tells_of {s : ByteArray} {P : List ByteArray} (hP : ∀ ns : List Nat, ns.length = 6 → (∀ x ∈ ns, x < 256) → s.data.toList = macL ns → P.map (·.data.toList) = ns.map two) (k : Nat) (hk : k < 6) (p : ByteArray) (hp : P[k]? = some p) : Tells s k (hexv p.data.toList) := by
  intro ns hl hb hs
  have e := hP ns hl hb hs
  have e1 : (P.map (·.data.toList))[k]? = some p.data.toList := by rw [List.getElem?_map, hp]; rfl
  rw [e, List.getElem?_map, List.getElem?_eq_getElem (show k < ns.length by omega), Option.map_some] at e1
  injection e1 with e1
  rw [← e1, hexv_two _ (hb _ (List.getElem_mem _))]
  simp [List.getD, List.getElem?_eq_getElem (show k < ns.length by omega)]
set_option maxRecDepth 1000000 in
set_option maxHeartbeats 8000000 in
theorem parsemac_ (s : ByteArray) (w : World) (hs : s.size ≤ 1000) (hl : Laid2 w) : Calls Tryd.prog 27 #[.string s] w fun ev w' => (∃ v, ev = .returned v ∧ PM s v) ∧ Kp (fun _ => False) w w' := by
  have HL := Lib.hid hl
  clear hl
  have K0 := Lib.hid (((Kp.refl (fun _ => False) w).alloc (.cells (macC 0 0 0 0 0 0) 37)).alloc (.cells (macC 0 0 0 0 0 0) 37))
  have B0 := Lib.hid ((Bk.new w 37 (macC 0 0 0 0 0 0)).alloc (.cells (macC 0 0 0 0 0 0) 37))
  have B1 := Bk.new (w.alloc (.cells (macC 0 0 0 0 0 0) 37)) 37 (macC 0 0 0 0 0 0)
  rw [World.size_alloc] at B1
  have B1 := Lib.hid B1
  have hsz : ((w.alloc (.cells (macC 0 0 0 0 0 0) 37)).alloc (.cells (macC 0 0 0 0 0 0) 37)).heap.size = w.heap.size + 2 := by simp [World.size_alloc]
  obtain ⟨H, hH⟩ : ∃ H, w.heap.size = H := ⟨_, rfl⟩
  go_enter Tryd.func27, Tryd.ntmps27
  go_wp2_with fail
  have hZ : (w.alloc (.cells #[.int .u8 0, .int .u8 0, .int .u8 0, .int .u8 0, .int .u8 0, .int .u8 0] 37)).alloc (.cells #[.int .u8 0, .int .u8 0, .int .u8 0, .int .u8 0, .int .u8 0, .int .u8 0] 37) = (w.alloc (.cells (macC 0 0 0 0 0 0) 37)).alloc (.cells (macC 0 0 0 0 0 0) 37) := rfl
  rw [hZ]
  clear hZ
  generalize (w.alloc (.cells (macC 0 0 0 0 0 0) 37)).alloc (.cells (macC 0 0 0 0 0 0) 37) = wb at *
  rw [hH] at B0 B1 hsz
  have HH := Lib.hid hH
  clear hH
  have HL1 := Lib.hid (HL.out.keep K0.out)
  obtain ⟨m, hm⟩ := HL1.out.laid.max
  have hS := Tryd.strings_Split s ⟨#[58]⟩ m wb (by omega) hm (by decide)
  have hP := fun ns hl hb hs => mac_split (s := s) (ns := ns) hl hb hs
  have hQ := fun p hp => split_size ⟨#[58]⟩ (Lib.countB s ⟨#[58]⟩) s p hp
  have hN := Lib.splitB_all ⟨#[58]⟩ (by decide) 0 _ s rfl
  clear hm
  generalize Lib.splitB ⟨#[58]⟩ 0 (Lib.countB s ⟨#[58]⟩) s = P at *
  generalize Lib.countB s ⟨#[58]⟩ + 1 = N at *
  refine hS.mono ?_
  clear hS
  rintro ev w1 ⟨rfl, hw1⟩
  rw [hsz]
  have hb0 := B0.out.alloc (.cells (P.map Value.string).toArray 9)
  have hb1 := B1.out.alloc (.cells (P.map Value.string).toArray 9)
  have hb2 := Bk.new wb 9 (P.map Value.string).toArray
  have hk1 := K0.out.alloc (.cells (P.map Value.string).toArray 9)
  rw [← hw1] at hb0 hb1 hb2 hk1
  rw [hsz] at hb2
  clear hw1 hsz B0 B1 K0 HL1
  by_cases h6 : N = 6
  · subst h6
    obtain ⟨p0, p1, p2, p3, p4, p5, rfl⟩ := six hN
    have T0 := Lib.hid (tells_of hP 0 (by omega) p0 rfl)
    have z0 : p0.size ≤ 2000 := by have := hQ p0 (by simp); omega
    have T1 := Lib.hid (tells_of hP 1 (by omega) p1 rfl)
    have z1 : p1.size ≤ 2000 := by have := hQ p1 (by simp); omega
    have T2 := Lib.hid (tells_of hP 2 (by omega) p2 rfl)
    have z2 : p2.size ≤ 2000 := by have := hQ p2 (by simp); omega
    have T3 := Lib.hid (tells_of hP 3 (by omega) p3 rfl)
    have z3 : p3.size ≤ 2000 := by have := hQ p3 (by simp); omega
    have T4 := Lib.hid (tells_of hP 4 (by omega) p4 rfl)
    have z4 : p4.size ≤ 2000 := by have := hQ p4 (by simp); omega
    have T5 := Lib.hid (tells_of hP 5 (by omega) p5 rfl)
    have z5 : p5.size ≤ 2000 := by have := hQ p5 (by simp); omega
    clear hP hQ hN
    have K1 := Lib.hid hk1
    have Q0 := Lib.hid hb0
    have Q1 := Lib.hid hb1
    have Q2 := Lib.hid hb2
    clear hk1 hb0 hb1 hb2
    go_wp2_with fail
    go_loopw [18] (fun iv wr => ∃ (k a b c d e f : Nat), k ≤ 6 ∧ iv = .int .i64 (k : Int) ∧ Gd s k [a, b, c, d, e, f] ∧ Bk wr H 37 (macC 0 0 0 0 0 0) ∧ Bk wr (H + 1) 37 (macC a b c d e f) ∧ Bk wr (H + 2) 9 #[.string p0, .string p1, .string p2, .string p3, .string p4, .string p5] ∧ Kp (fun _ => False) w wr) (fun iv _ => (32 - intOf iv).toNat)
    case atStart => exact ⟨0, 0, 0, 0, 0, 0, 0, by omega, rfl, Gd.zero s, Q0.out, Q1.out, Q2.out, K1.out⟩
    case round =>
      obtain ⟨k, a, b, c, d, e, f, hk, rfl, hgd, hb0, hb1, hb2, hkp⟩ := hrel
      clear Q0 Q1 Q2 K1
      have G := Lib.hid hgd
      have HR := Lib.hid hb0
      have HM := Lib.hid hb1
      have HP := Lib.hid hb2
      have HK := Lib.hid hkp
      have HLr := Lib.hid (HL.out.keep hkp)
      clear hgd hb0 hb1 hb2 hkp
      rcases (show k = 0 ∨ k = 1 ∨ k = 2 ∨ k = 3 ∨ k = 4 ∨ k = 5 ∨ k = 6 by omega) with rfl | rfl | rfl | rfl | rfl | rfl | rfl
      · clear hk
        have hc : wr.cell? ⟨H + 2, 0, none⟩ = some (.string p0) := HP.out.cell 0
        cases hx : hexv p0.data.toList with
        | none =>
          have HT := Lib.hid (hx ▸ T0.out : Tells s 0 none).no
          have HC := Lib.hid (pux_err p0 z0 wr HLr.out.laid hx)
          clear hx
          go_wp2_with fail
          refine HC.out.mono ?_
          rintro ev w2 ⟨v, N, rfl, k2⟩
          have HR := Lib.hid (HR.out.kept k2 (fun f => f))
          have K2 := Lib.hid (HK.out.trans' k2)
          clear k2 HC hc
          go_wp2_with
            ((with_reducible refine at_store (t := 37) (p := 2) (v := .tmp 30) rfl ?_)
             go_must (refine wpList_store_row (by rfl) 37 (.tmp 2) (.tmp 30) (by rfl) H (macC 0 0 0 0 0 0) (by rfl) (by rfl) 37 (macC 0 0 0 0 0 0) HR.out info37 rfl (mac_one _ _ _ _ _ _) ?_))
          refine bodyPost_ret (res_ct rfl _ _ H 37 (macC 0 0 0 0 0 0) (0, 0) _ rfl (setRow_heap HR.out) Tryd.underlying37 rfl info37) rfl ?_
          exact ⟨⟨_, rfl, by exact PM.no HT.out⟩, kp_row K2.out (.inr (Nat.le_of_eq HH.out)) _⟩
        | some n =>
          have hn := hexv_le hx
          have HG := Lib.hid (G.out.next (by omega) (hx ▸ T0.out : Tells s 0 (some n)) (by omega))
          have HC := Lib.hid (pux_ok p0 z0 wr n hx)
          clear hx
          have hwn : IntKind.u8.wrap (n : Int) = (n : Int) := by
            show (n : Int) % 256 = _
            omega
          go_wp2_with fail
          refine HC.out.mono ?_
          rintro ev w2 ⟨rfl, k2⟩
          have HR := Lib.hid (HR.out.kept k2 (fun f => f))
          have HM := Lib.hid (HM.out.kept k2 (fun f => f))
          have HP := Lib.hid (HP.out.kept k2 (fun f => f))
          have K2 := Lib.hid (HK.out.trans' k2)
          have c1 : w2.cell? ⟨H + 1, 0, none⟩ = some (.int .u8 (a : Int)) := HM.out.cell 0
          have c2 : w2.frozen? ⟨H + 1, 0, none⟩ = false := HM.out.frozen 0
          clear k2 HC hc
          go_wp2_with fail
          go_roundw
          case rel => exact ⟨1, n, b, c, d, e, f, by omega, rfl, HG.out, HR.out.far (by simp) _, HM.out.put 0 _, HP.out.far (by simp) _, K2.out.setCell (.inr (by have := HH.out; show w.heap.size ≤ H + 1; omega)) _⟩
          case measure => simp [intOf]
      · clear hk
        have hc : wr.cell? ⟨H + 2, 1, none⟩ = some (.string p1) := HP.out.cell 1
        cases hx : hexv p1.data.toList with
        | none =>
          have HT := Lib.hid (hx ▸ T1.out : Tells s 1 none).no
          have HC := Lib.hid (pux_err p1 z1 wr HLr.out.laid hx)
          clear hx
          go_wp2_with fail
          refine HC.out.mono ?_
          rintro ev w2 ⟨v, N, rfl, k2⟩
          have HR := Lib.hid (HR.out.kept k2 (fun f => f))
          have K2 := Lib.hid (HK.out.trans' k2)
          clear k2 HC hc
          go_wp2_with
            ((with_reducible refine at_store (t := 37) (p := 2) (v := .tmp 30) rfl ?_)
             go_must (refine wpList_store_row (by rfl) 37 (.tmp 2) (.tmp 30) (by rfl) H (macC 0 0 0 0 0 0) (by rfl) (by rfl) 37 (macC 0 0 0 0 0 0) HR.out info37 rfl (mac_one _ _ _ _ _ _) ?_))
          refine bodyPost_ret (res_ct rfl _ _ H 37 (macC 0 0 0 0 0 0) (0, 0) _ rfl (setRow_heap HR.out) Tryd.underlying37 rfl info37) rfl ?_
          exact ⟨⟨_, rfl, by exact PM.no HT.out⟩, kp_row K2.out (.inr (Nat.le_of_eq HH.out)) _⟩
        | some n =>
          have hn := hexv_le hx
          have HG := Lib.hid (G.out.next (by omega) (hx ▸ T1.out : Tells s 1 (some n)) (by omega))
          have HC := Lib.hid (pux_ok p1 z1 wr n hx)
          clear hx
          have hwn : IntKind.u8.wrap (n : Int) = (n : Int) := by
            show (n : Int) % 256 = _
            omega
          go_wp2_with fail
          refine HC.out.mono ?_
          rintro ev w2 ⟨rfl, k2⟩
          have HR := Lib.hid (HR.out.kept k2 (fun f => f))
          have HM := Lib.hid (HM.out.kept k2 (fun f => f))
          have HP := Lib.hid (HP.out.kept k2 (fun f => f))
          have K2 := Lib.hid (HK.out.trans' k2)
          have c1 : w2.cell? ⟨H + 1, 1, none⟩ = some (.int .u8 (b : Int)) := HM.out.cell 1
          have c2 : w2.frozen? ⟨H + 1, 1, none⟩ = false := HM.out.frozen 1
          clear k2 HC hc
          go_wp2_with fail
          go_roundw
          case rel => exact ⟨2, a, n, c, d, e, f, by omega, rfl, HG.out, HR.out.far (by simp) _, HM.out.put 1 _, HP.out.far (by simp) _, K2.out.setCell (.inr (by have := HH.out; show w.heap.size ≤ H + 1; omega)) _⟩
          case measure => simp [intOf]
      · clear hk
        have hc : wr.cell? ⟨H + 2, 2, none⟩ = some (.string p2) := HP.out.cell 2
        cases hx : hexv p2.data.toList with
        | none =>
          have HT := Lib.hid (hx ▸ T2.out : Tells s 2 none).no
          have HC := Lib.hid (pux_err p2 z2 wr HLr.out.laid hx)
          clear hx
          go_wp2_with fail
          refine HC.out.mono ?_
          rintro ev w2 ⟨v, N, rfl, k2⟩
          have HR := Lib.hid (HR.out.kept k2 (fun f => f))
          have K2 := Lib.hid (HK.out.trans' k2)
          clear k2 HC hc
          go_wp2_with
            ((with_reducible refine at_store (t := 37) (p := 2) (v := .tmp 30) rfl ?_)
             go_must (refine wpList_store_row (by rfl) 37 (.tmp 2) (.tmp 30) (by rfl) H (macC 0 0 0 0 0 0) (by rfl) (by rfl) 37 (macC 0 0 0 0 0 0) HR.out info37 rfl (mac_one _ _ _ _ _ _) ?_))
          refine bodyPost_ret (res_ct rfl _ _ H 37 (macC 0 0 0 0 0 0) (0, 0) _ rfl (setRow_heap HR.out) Tryd.underlying37 rfl info37) rfl ?_
          exact ⟨⟨_, rfl, by exact PM.no HT.out⟩, kp_row K2.out (.inr (Nat.le_of_eq HH.out)) _⟩
        | some n =>
          have hn := hexv_le hx
          have HG := Lib.hid (G.out.next (by omega) (hx ▸ T2.out : Tells s 2 (some n)) (by omega))
          have HC := Lib.hid (pux_ok p2 z2 wr n hx)
          clear hx
          have hwn : IntKind.u8.wrap (n : Int) = (n : Int) := by
            show (n : Int) % 256 = _
            omega
          go_wp2_with fail
          refine HC.out.mono ?_
          rintro ev w2 ⟨rfl, k2⟩
          have HR := Lib.hid (HR.out.kept k2 (fun f => f))
          have HM := Lib.hid (HM.out.kept k2 (fun f => f))
          have HP := Lib.hid (HP.out.kept k2 (fun f => f))
          have K2 := Lib.hid (HK.out.trans' k2)
          have c1 : w2.cell? ⟨H + 1, 2, none⟩ = some (.int .u8 (c : Int)) := HM.out.cell 2
          have c2 : w2.frozen? ⟨H + 1, 2, none⟩ = false := HM.out.frozen 2
          clear k2 HC hc
          go_wp2_with fail
          go_roundw
          case rel => exact ⟨3, a, b, n, d, e, f, by omega, rfl, HG.out, HR.out.far (by simp) _, HM.out.put 2 _, HP.out.far (by simp) _, K2.out.setCell (.inr (by have := HH.out; show w.heap.size ≤ H + 1; omega)) _⟩
          case measure => simp [intOf]
      · clear hk
        have hc : wr.cell? ⟨H + 2, 3, none⟩ = some (.string p3) := HP.out.cell 3
        cases hx : hexv p3.data.toList with
        | none =>
          have HT := Lib.hid (hx ▸ T3.out : Tells s 3 none).no
          have HC := Lib.hid (pux_err p3 z3 wr HLr.out.laid hx)
          clear hx
          go_wp2_with fail
          refine HC.out.mono ?_
          rintro ev w2 ⟨v, N, rfl, k2⟩
          have HR := Lib.hid (HR.out.kept k2 (fun f => f))
          have K2 := Lib.hid (HK.out.trans' k2)
          clear k2 HC hc
          go_wp2_with
            ((with_reducible refine at_store (t := 37) (p := 2) (v := .tmp 30) rfl ?_)
             go_must (refine wpList_store_row (by rfl) 37 (.tmp 2) (.tmp 30) (by rfl) H (macC 0 0 0 0 0 0) (by rfl) (by rfl) 37 (macC 0 0 0 0 0 0) HR.out info37 rfl (mac_one _ _ _ _ _ _) ?_))
          refine bodyPost_ret (res_ct rfl _ _ H 37 (macC 0 0 0 0 0 0) (0, 0) _ rfl (setRow_heap HR.out) Tryd.underlying37 rfl info37) rfl ?_
          exact ⟨⟨_, rfl, by exact PM.no HT.out⟩, kp_row K2.out (.inr (Nat.le_of_eq HH.out)) _⟩
        | some n =>
          have hn := hexv_le hx
          have HG := Lib.hid (G.out.next (by omega) (hx ▸ T3.out : Tells s 3 (some n)) (by omega))
          have HC := Lib.hid (pux_ok p3 z3 wr n hx)
          clear hx
          have hwn : IntKind.u8.wrap (n : Int) = (n : Int) := by
            show (n : Int) % 256 = _
            omega
          go_wp2_with fail
          refine HC.out.mono ?_
          rintro ev w2 ⟨rfl, k2⟩
          have HR := Lib.hid (HR.out.kept k2 (fun f => f))
          have HM := Lib.hid (HM.out.kept k2 (fun f => f))
          have HP := Lib.hid (HP.out.kept k2 (fun f => f))
          have K2 := Lib.hid (HK.out.trans' k2)
          have c1 : w2.cell? ⟨H + 1, 3, none⟩ = some (.int .u8 (d : Int)) := HM.out.cell 3
          have c2 : w2.frozen? ⟨H + 1, 3, none⟩ = false := HM.out.frozen 3
          clear k2 HC hc
          go_wp2_with fail
          go_roundw
          case rel => exact ⟨4, a, b, c, n, e, f, by omega, rfl, HG.out, HR.out.far (by simp) _, HM.out.put 3 _, HP.out.far (by simp) _, K2.out.setCell (.inr (by have := HH.out; show w.heap.size ≤ H + 1; omega)) _⟩
          case measure => simp [intOf]
      · clear hk
        have hc : wr.cell? ⟨H + 2, 4, none⟩ = some (.string p4) := HP.out.cell 4
        cases hx : hexv p4.data.toList with
        | none =>
          have HT := Lib.hid (hx ▸ T4.out : Tells s 4 none).no
          have HC := Lib.hid (pux_err p4 z4 wr HLr.out.laid hx)
          clear hx
          go_wp2_with fail
          refine HC.out.mono ?_
          rintro ev w2 ⟨v, N, rfl, k2⟩
          have HR := Lib.hid (HR.out.kept k2 (fun f => f))
          have K2 := Lib.hid (HK.out.trans' k2)
          clear k2 HC hc
          go_wp2_with
            ((with_reducible refine at_store (t := 37) (p := 2) (v := .tmp 30) rfl ?_)
             go_must (refine wpList_store_row (by rfl) 37 (.tmp 2) (.tmp 30) (by rfl) H (macC 0 0 0 0 0 0) (by rfl) (by rfl) 37 (macC 0 0 0 0 0 0) HR.out info37 rfl (mac_one _ _ _ _ _ _) ?_))
          refine bodyPost_ret (res_ct rfl _ _ H 37 (macC 0 0 0 0 0 0) (0, 0) _ rfl (setRow_heap HR.out) Tryd.underlying37 rfl info37) rfl ?_
          exact ⟨⟨_, rfl, by exact PM.no HT.out⟩, kp_row K2.out (.inr (Nat.le_of_eq HH.out)) _⟩
        | some n =>
          have hn := hexv_le hx
          have HG := Lib.hid (G.out.next (by omega) (hx ▸ T4.out : Tells s 4 (some n)) (by omega))
          have HC := Lib.hid (pux_ok p4 z4 wr n hx)
          clear hx
          have hwn : IntKind.u8.wrap (n : Int) = (n : Int) := by
            show (n : Int) % 256 = _
            omega
          go_wp2_with fail
          refine HC.out.mono ?_
          rintro ev w2 ⟨rfl, k2⟩
          have HR := Lib.hid (HR.out.kept k2 (fun f => f))
          have HM := Lib.hid (HM.out.kept k2 (fun f => f))
          have HP := Lib.hid (HP.out.kept k2 (fun f => f))
          have K2 := Lib.hid (HK.out.trans' k2)
          have c1 : w2.cell? ⟨H + 1, 4, none⟩ = some (.int .u8 (e : Int)) := HM.out.cell 4
          have c2 : w2.frozen? ⟨H + 1, 4, none⟩ = false := HM.out.frozen 4
          clear k2 HC hc
          go_wp2_with fail
          go_roundw
          case rel => exact ⟨5, a, b, c, d, n, f, by omega, rfl, HG.out, HR.out.far (by simp) _, HM.out.put 4 _, HP.out.far (by simp) _, K2.out.setCell (.inr (by have := HH.out; show w.heap.size ≤ H + 1; omega)) _⟩
          case measure => simp [intOf]
      · clear hk
        have hc : wr.cell? ⟨H + 2, 5, none⟩ = some (.string p5) := HP.out.cell 5
        cases hx : hexv p5.data.toList with
        | none =>
          have HT := Lib.hid (hx ▸ T5.out : Tells s 5 none).no
          have HC := Lib.hid (pux_err p5 z5 wr HLr.out.laid hx)
          clear hx
          go_wp2_with fail
          refine HC.out.mono ?_
          rintro ev w2 ⟨v, N, rfl, k2⟩
          have HR := Lib.hid (HR.out.kept k2 (fun f => f))
          have K2 := Lib.hid (HK.out.trans' k2)
          clear k2 HC hc
          go_wp2_with
            ((with_reducible refine at_store (t := 37) (p := 2) (v := .tmp 30) rfl ?_)
             go_must (refine wpList_store_row (by rfl) 37 (.tmp 2) (.tmp 30) (by rfl) H (macC 0 0 0 0 0 0) (by rfl) (by rfl) 37 (macC 0 0 0 0 0 0) HR.out info37 rfl (mac_one _ _ _ _ _ _) ?_))
          refine bodyPost_ret (res_ct rfl _ _ H 37 (macC 0 0 0 0 0 0) (0, 0) _ rfl (setRow_heap HR.out) Tryd.underlying37 rfl info37) rfl ?_
          exact ⟨⟨_, rfl, by exact PM.no HT.out⟩, kp_row K2.out (.inr (Nat.le_of_eq HH.out)) _⟩
        | some n =>
          have hn := hexv_le hx
          have HG := Lib.hid (G.out.next (by omega) (hx ▸ T5.out : Tells s 5 (some n)) (by omega))
          have HC := Lib.hid (pux_ok p5 z5 wr n hx)
          clear hx
          have hwn : IntKind.u8.wrap (n : Int) = (n : Int) := by
            show (n : Int) % 256 = _
            omega
          go_wp2_with fail
          refine HC.out.mono ?_
          rintro ev w2 ⟨rfl, k2⟩
          have HR := Lib.hid (HR.out.kept k2 (fun f => f))
          have HM := Lib.hid (HM.out.kept k2 (fun f => f))
          have HP := Lib.hid (HP.out.kept k2 (fun f => f))
          have K2 := Lib.hid (HK.out.trans' k2)
          have c1 : w2.cell? ⟨H + 1, 5, none⟩ = some (.int .u8 (f : Int)) := HM.out.cell 5
          have c2 : w2.frozen? ⟨H + 1, 5, none⟩ = false := HM.out.frozen 5
          clear k2 HC hc
          go_wp2_with fail
          go_roundw
          case rel => exact ⟨6, a, b, c, d, e, n, by omega, rfl, HG.out, HR.out.far (by simp) _, HM.out.put 5 _, HP.out.far (by simp) _, K2.out.setCell (.inr (by have := HH.out; show w.heap.size ≤ H + 1; omega)) _⟩
          case measure => simp [intOf]
      · clear hk T0 T1 T2 T3 T4 T5
        have hlt := G.out.lt
        have HT := Lib.hid (mactext_ a b c d e f wr hlt.1 hlt.2.1 hlt.2.2.1 hlt.2.2.2.1 hlt.2.2.2.2.1 hlt.2.2.2.2.2 HLr.out.tz)
        clear hlt
        obtain ⟨T, hT⟩ : ∃ T : ByteArray, T = ⟨(macL [a, b, c, d, e, f]).toArray⟩ := ⟨_, rfl⟩
        have HT : Hid (Calls Tryd.prog 31 #[.agg (macC a b c d e f)] wr fun ev w' => ev = .returned (.string T) ∧ Kp (fun _ => False) wr w') := by rw [hT]; exact HT
        by_cases hTs : T = s
        · have HG := Lib.hid (PM.yes G.out (by rw [← hTs, hT]))
          rw [hTs] at HT
          clear hTs hT
          go_wp2_with
            ((with_reducible refine at_load (t := 37) (p := 4) rfl ?_)
             go_must (refine wpList_load_row (by rfl) 37 (.tmp 4) (by rfl) (H + 1) (by rfl) 37 (macC a b c d e f) (0, 0) _ HM.out Tryd.underlying37 rfl info37 ?_))
          refine HT.out.mono ?_
          rintro ev w2 ⟨rfl, k2⟩
          have HR := Lib.hid (HR.out.kept k2 (fun f => f))
          have HM := Lib.hid (HM.out.kept k2 (fun f => f))
          have K2 := Lib.hid (HK.out.trans' k2)
          clear k2 HT
          go_wp2_with
            first
            | ((with_reducible refine at_load (t := 37) (p := 4) rfl ?_)
               go_must (refine wpList_load_row (by rfl) 37 (.tmp 4) (by rfl) (H + 1) (by rfl) 37 (macC a b c d e f) (0, 0) _ HM.out Tryd.underlying37 rfl info37 ?_))
            | ((with_reducible refine at_store (t := 37) (p := 2) (v := .tmp 41) rfl ?_)
               go_must (refine wpList_store_row (by rfl) 37 (.tmp 2) (.tmp 41) (by rfl) H (macC a b c d e f) (by rfl) (by rfl) 37 (macC 0 0 0 0 0 0) HR.out info37 rfl (mac_one _ _ _ _ _ _) ?_))
          refine bodyPost_ret (res_ct rfl _ _ H 37 (macC a b c d e f) (0, 0) _ rfl (setRow_heap HR.out) Tryd.underlying37 rfl info37) rfl ?_
          exact ⟨⟨_, rfl, by exact HG.out⟩, kp_row K2.out (.inr (Nat.le_of_eq HH.out)) _⟩
        · have hne : (T.toList == s.toList) = false := by
            rw [beq_eq_false_iff_ne, ByteArray.toList_eq, ByteArray.toList_eq]
            exact fun h => hTs (ByteArray.ext (by simpa using h))
          have HG := Lib.hid (PM.no (G.out.full (fun h => hTs (ByteArray.ext (by rw [hT]; show (macL _).toArray = _; rw [h])))))
          clear hT hTs
          go_wp2_with
            ((with_reducible refine at_load (t := 37) (p := 4) rfl ?_)
             go_must (refine wpList_load_row (by rfl) 37 (.tmp 4) (by rfl) (H + 1) (by rfl) 37 (macC a b c d e f) (0, 0) _ HM.out Tryd.underlying37 rfl info37 ?_))
          refine HT.out.mono ?_
          rintro ev w2 ⟨rfl, k2⟩
          have HR := Lib.hid (HR.out.kept k2 (fun f => f))
          have K2 := Lib.hid (HK.out.trans' k2)
          clear k2 HT
          go_wp2_with
            ((with_reducible refine at_store (t := 37) (p := 2) (v := .tmp 40) rfl ?_)
             go_must (refine wpList_store_row (by rfl) 37 (.tmp 2) (.tmp 40) (by rfl) H (macC 0 0 0 0 0 0) (by rfl) (by rfl) 37 (macC 0 0 0 0 0 0) HR.out info37 rfl (mac_one _ _ _ _ _ _) ?_))
          refine bodyPost_ret (res_ct rfl _ _ H 37 (macC 0 0 0 0 0 0) (0, 0) _ rfl (setRow_heap HR.out) Tryd.underlying37 rfl info37) rfl ?_
          exact ⟨⟨_, rfl, by exact HG.out⟩, kp_row K2.out (.inr (Nat.le_of_eq HH.out)) _⟩
  · have h6' : ((N : Int) == 6) = false := by rw [beq_eq_false_iff_ne]; omega
    have HG := Lib.hid (PM.no (s := s) (fun ns hl hb hs => h6 (by
      have e := congrArg List.length (hP ns hl hb hs)
      rw [List.length_map, List.length_map] at e
      omega)))
    have HR := Lib.hid hb0
    have K2 := Lib.hid hk1
    clear hP hQ hN hb0 hb1 hb2 hk1
    go_wp2_with
      ((with_reducible refine at_store (t := 37) (p := 2) (v := .tmp 15) rfl ?_)
       go_must (refine wpList_store_row (by rfl) 37 (.tmp 2) (.tmp 15) (by rfl) H (macC 0 0 0 0 0 0) (by rfl) (by rfl) 37 (macC 0 0 0 0 0 0) HR.out info37 rfl (mac_one _ _ _ _ _ _) ?_))
    refine bodyPost_ret (res_ct rfl _ _ H 37 (macC 0 0 0 0 0 0) (0, 0) _ rfl (setRow_heap HR.out) Tryd.underlying37 rfl info37) rfl ?_
    exact ⟨⟨_, rfl, by exact HG.out⟩, kp_row K2.out (.inr (Nat.le_of_eq HH.out)) _⟩
end Go.Proofs.YtkafdpidhelfdaaDoor
