/- Cache: next, drop, release, Len, Rows. Cache: Find. Cache: the eldest neighbour. Cache: eldest. -/
import Derived.Test.YtgidjgkafbjkpaaGreatDoorCcm
import Derived.Laws.Rows
import Derived.Laws.ResultCell
import Derived.Laws.Tables
import Derived.Test.YtgidjgkafbjkpaaGreatDoorCkb
import Derived.Test.YtgidjgkafbjkpaaGreatDoorWhm
import Derived.Test.YtgidjgkafbjkpaaGreatDoorSi
set_option linter.unusedVariables false
set_option linter.unusedSimpArgs false
namespace Go.Proofs.YtgidjgkafbjkpaaGreatDoor
open Go.RowKit

theorem wrapS {n : Nat} (h : n < 1000000) : wrap64 ((n : Int) + 1) = ((n + 1 : Nat) : Int) := by unfold wrap64; omega
set_option maxRecDepth 1000000 in
set_option maxHeartbeats 8000000 in
/-- next. -/
theorem cnext (g : Nat) (s : CS) (w : World) (h : CM w g s) (hc : s.count < 1000000) :
    Calls Tryz.prog 25 #[.pointer (some ⟨g, 0, none⟩)] w fun ev w' => ev = .returned (.int .i64 ((s.count + 1 : Nat) : Int)) ∧ CM w' g { s with count := s.count + 1 } ∧ Kp (CK g s w) w w' := by
  have z8 : w.cell? ⟨g, 8, none⟩ = some (.int .i64 (s.count : Int)) := (h.bk.cell 8).trans rfl
  have f8 : w.frozen? ⟨g, 8, none⟩ = false := h.bk.frozen _
  have e1 := wrapS hc
  have hb := h.bk.put 8 (.int .i64 ((s.count + 1 : Nat) : Int))
  have POST := Lib.hid (h.counted hb ((Kp.refl (fun j => j = g) w).setCell (p := ⟨g, 8, none⟩) (.inl rfl) _))
  clear h hb
  go_enter Tryz.func25, Tryz.ntmps25
  go_wp2_with fail
  exact bodyPost_ret (results_tmp rfl _ _ _) rfl ⟨rfl, POST.out⟩
set_option maxRecDepth 1000000 in
set_option maxHeartbeats 8000000 in
/-- drop. -/
theorem cdrop (g i : Nat) (s : CS) (w : World) (h : CM w g s) (hi : i < 4294967296) :
    Calls Tryz.prog 23 #[.pointer (some ⟨g, 0, none⟩), .int .u32 (i : Int)] w fun ev w' => ev = .returned (.tuple #[]) ∧ CM w' g (s.drop i) ∧ Kp (CK g s w) w w' := by
  have z4 : w.cell? ⟨g, 4, none⟩ = some (.map (some s.eb)) := (h.bk.cell 4).trans rfl
  obtain ⟨w1, hrun, u1, k1⟩ := h.em.run_delete (P := Tryz.prog) (T := 65) (E := 70) (K := 30) Tryz.underlying65 Tryz.underlying30 (i : Int) 30 0
  have y6 : w1.cell? ⟨g, 6, none⟩ = some (.pointer (some ⟨s.gl, 0, none⟩)) := ((h.bk.kept k1 h.g_ne_e).cell 6).trans rfl
  have l1 : Whl s.F1 w1 s.gl 0 s.R1 := h.lw.kept k1 (fun b _ hb e => h.e1 (by have : b = s.eb := e; rw [← this]; exact hb))
  have e1 : IntKind.i64.wrap (i : Int) = (i : Int) := IntWalk.i64_in _ (by omega)
  have H := Lib.hid h
  have U1 := Lib.hid u1
  have K1 := Lib.hid k1
  have C := Lib.hid (wcancel s.F1 s.gl 0 s.R1 (i : Int) w1 l1)
  clear h u1 k1 l1
  go_enter Tryz.func23, Tryz.ntmps23
  go_wp2_with fail
  refine C.out.mono ?_
  rintro ev w2 ⟨rfl, h2, k2⟩
  have P2 := Lib.hid (H.out.dropped U1.out K1.out h2 k2)
  clear h2 k2
  go_wp2_with fail
  exact bodyPost_end (results_none rfl _ _ _) rfl ⟨rfl, P2.out⟩
set_option maxRecDepth 1000000 in
set_option maxHeartbeats 8000000 in
/-- Len. -/
theorem clen (g : Nat) (s : CS) (w : World) (h : CM w g s) :
    Calls Tryz.prog 13 #[.pointer (some ⟨g, 0, none⟩)] w fun ev w' => ev = .returned (.int .i64 (s.ents.length : Int)) ∧ w' = w := by
  have z4 : w.cell? ⟨g, 4, none⟩ = some (.map (some s.eb)) := (h.bk.cell 4).trans rfl
  have hl := h.em.run_len (P := Tryz.prog) (T := 65) (E := 70) (K := 30) Tryz.underlying65 3
  rw [h.eh.len] at hl
  clear h
  go_enter Tryz.func13, Tryz.ntmps13
  go_wp2_with fail
  exact bodyPost_ret (results_tmp rfl _ _ _) rfl ⟨rfl, rfl⟩
set_option maxRecDepth 1000000 in
set_option maxHeartbeats 8000000 in
/-- Rows. -/
theorem crows (g : Nat) (s : CS) (w : World) (h : CM w g s) :
    Calls Tryz.prog 14 #[.pointer (some ⟨g, 0, none⟩)] w fun ev w' => ev = .returned (.int .i64 (s.rows.length : Int)) ∧ w' = w := by
  have z5 : w.cell? ⟨g, 5, none⟩ = some (.map (some s.rb)) := (h.bk.cell 5).trans rfl
  have hl := h.rm.run_len (P := Tryz.prog) (T := 66) (E := 77) (K := 30) Tryz.underlying66 3
  rw [h.rh.len] at hl
  clear h
  go_enter Tryz.func14, Tryz.ntmps14
  go_wp2_with fail
  exact bodyPost_ret (results_tmp rfl _ _ _) rfl ⟨rfl, rfl⟩
/-- An Ip's tokens as they lie. -/
theorem CM.look_row {w : World} {g : Nat} {s : CS} (h : CM w g s) (i : Nat) : ∃ A c o, (mget (i : Int) s.RL).getD (.agg #[.slice none 0 0, .int .i64 0]) = .agg #[.slice A (tokof s.rows i).length c, .int .i64 (o : Int)] ∧ RdN w A (tokof s.rows i) ∧ (mget (i : Int) s.RL).isSome = (iget i s.rows).isSome ∧ (A = none → c = 0) ∧ ∀ x, iget i s.rows = some x → o = x.ord ∧ tokof s.rows i = x.v := by
  unfold tokof
  cases hg : iget i s.rows with
  | none => exact ⟨none, 0, 0, by rw [h.rh.none_of hg]; rfl, RdN.nil w, by rw [h.rh.none_of hg]; rfl, fun _ => rfl, fun x e => by cases e⟩
  | some x =>
    obtain ⟨v, hv, A, c, e, hr, hn⟩ := h.rh.some_of hg
    subst e
    exact ⟨A, c, x.ord, by rw [hv]; rfl, hr, by rw [hv]; rfl, hn, fun y e => by injection e with e; subst e; exact ⟨rfl, rfl⟩⟩
set_option maxRecDepth 1000000 in
set_option maxHeartbeats 8000000 in
/-- release. -/
theorem crel (g i : Nat) (s : CS) (w : World) (h : CM w g s) (hi : i < 4294967296) :
    Calls Tryz.prog 27 #[.pointer (some ⟨g, 0, none⟩), .int .u32 (i : Int)] w fun ev w' => ∃ A c, ev = .returned (.slice A (tokof s.rows i).length c) ∧ RdN w' A (tokof s.rows i) ∧ CM w' g (s.rel i) ∧ Kp (CK g s w) w w' := by
  have z5 : w.cell? ⟨g, 5, none⟩ = some (.map (some s.rb)) := (h.bk.cell 5).trans rfl
  obtain ⟨A, c, o, hlk, hA, _, _⟩ := h.look_row i
  have hl := (h.rm.run_lookup (P := Tryz.prog) (T := 66) (E := 77) (K := 30) Tryz.underlying66 Tryz.underlying30 (z := .agg #[.slice none 0 0, .int .i64 0]) (by kernel_rfl) (i : Int)).1
  rw [hlk] at hl
  have hfd : ∀ w : World, (Instr.field 77 (.agg #[.slice A (tokof s.rows i).length c, .int .i64 (o : Int)]) 0).run Tryz.prog w = .ok (.slice A (tokof s.rows i).length c) w := fun _ => by kernel_rfl
  obtain ⟨w1, hrun, u1, k1⟩ := h.rm.run_delete (P := Tryz.prog) (T := 66) (E := 77) (K := 30) Tryz.underlying66 Tryz.underlying30 (i : Int) 30 0
  have y7 : w1.cell? ⟨g, 7, none⟩ = some (.pointer (some ⟨s.gw, 0, none⟩)) := ((h.bk.kept k1 h.g_ne_r).cell 7).trans rfl
  have l1 : Whl s.F2 w1 s.gw 0 s.R2 := h.ww.kept k1 (fun b _ hb e => h.r2 (by have : b = s.rb := e; rw [← this]; exact hb))
  have e1 : IntKind.i64.wrap (i : Int) = (i : Int) := IntWalk.i64_in _ (by omega)
  have H := Lib.hid h
  have U1 := Lib.hid u1
  have K1 := Lib.hid k1
  have HA := Lib.hid hA
  have C := Lib.hid (wcancel s.F2 s.gw 0 s.R2 (i : Int) w1 l1)
  generalize (tokof s.rows i).length = n at *
  clear h u1 k1 l1 hA hlk
  go_enter Tryz.func27, Tryz.ntmps27
  go_wp2_with fail
  refine C.out.mono ?_
  rintro ev w2 ⟨rfl, h2, k2⟩
  have P2 := Lib.hid (H.out.released U1.out K1.out h2 k2)
  clear h2 k2
  go_wp2_with fail
  exact bodyPost_ret (results_tmp rfl _ _ _) rfl ⟨A, c, rfl, HA.out.kp P2.out.2 (fun b o cs _ hb => CM.no3 b hb), P2.out⟩
end Go.Proofs.YtgidjgkafbjkpaaGreatDoor
namespace Go.Proofs.YtgidjgkafbjkpaaGreatDoor
open Go.RowKit

def MT : Nat := 2305843009213693952
def macV (m : M6) : Value := .agg #[.int .u8 (m.a : Int), .int .u8 (m.b : Int), .int .u8 (m.c : Int), .int .u8 (m.d : Int), .int .u8 (m.e : Int), .int .u8 (m.f : Int)]
def M0 : M6 := ⟨0, 0, 0, 0, 0, 0⟩
/-- What Find tells. -/
def fnd (l : List En) (i now : Nat) : Option M6 := match iget i l with | some x => if min now MT < x.due then some x.v else none | none => none
theorem CM.look_ent {w : World} {g : Nat} {s : CS} (h : CM w g s) (i : Nat) : ∃ m o, (mget (i : Int) s.EL).getD (.agg #[.int .u8 0, .int .u8 0, .int .u8 0, .int .u8 0, .int .u8 0, .int .u8 0, .int .i64 0]) = entV m o ∧ (mget (i : Int) s.EL).isSome = (iget i s.ents).isSome ∧ rdI s.R1 (i : Int) = ((iget i s.ents).map It.due).getD 0 ∧ ∀ x, iget i s.ents = some x → m = x.v ∧ o = x.ord := by
  have hd : rdI s.R1 (i : Int) = ((iget i s.ents).map It.due).getD 0 := by unfold rdI; rw [h.er.due h.es]
  cases hg : iget i s.ents with
  | none => exact ⟨M0, 0, by rw [h.eh.none_of hg]; rfl, by rw [h.eh.none_of hg]; rfl, by rw [hd, hg], fun x e => by cases e⟩
  | some x =>
    obtain ⟨v, hv, e⟩ := h.eh.some_of hg
    have e : v = entV x.v x.ord := e
    subst e
    exact ⟨x.v, x.ord, by rw [hv]; rfl, by rw [hv]; rfl, by rw [hd, hg], fun y e => by injection e with e; subst e; exact ⟨rfl, rfl⟩⟩
theorem results_row_tmp {P : Program} {fn : Func} {p u : Tmp} {ty : TypeId} (h : fn.results = #[.cell p ty, .tmp u]) (tmps : Array Value) (w : World) (g : Nat) (t : TypeId) (cs : Array Value) (d : TypeDesc)
    (hp : tmps.getD p undef = .pointer (some ⟨g, 0, none⟩)) (hg : Bk w g t cs)
    (hu : P.underlying ty = some d) (hd : (match d with | .struct _ | .array _ _ => true | _ => false) = true) (hi : (P.info? ty).map (·.size) = some cs.size) :
    (results fn tmps).run P w = .ok (.tuple #[.agg cs, tmps.getD u undef]) w := by
  rw [results_cell_tmp h, hp]
  simp [asAddr, run_loadVar_row w g t ty cs (0, 0) d hg hu hd hi, Result.andThen]
section
variable {P : Program} {ops : Array Oper} {rest : List Oper} {o : Oper} {a : Act} {W : World} {Q : Exit → Act → World → Prop}
theorem at_store {t : TypeId} {p : Tmp} {v : Operand} (_ho : o.op = .store t (.tmp p) v) (h : wpList P ops Q (o :: rest) a W) : wpList P ops Q (o :: rest) a W := h
end
theorem setRow_heap {w : World} {g : Nat} {t : TypeId} {cs cs' : Array Value} (h : Bk w g t cs) : Bk (w.setRow g cs') g t cs' := by
  unfold Bk at h ⊢
  simp [World.setRow, Array.getElem?_modify, h]
theorem setRow_far {w : World} {g k : Nat} {cs : Array Value} (hk : k ≠ g) : (w.setRow g cs).heap[k]? = w.heap[k]? := by
  simp [World.setRow, Array.getElem?_modify, Ne.symm hk]
theorem kp_row {S : Nat → Prop} {a w : World} (h : Kp S a w) {g : Nat} (hg : S g ∨ a.heap.size ≤ g) (cs : Array Value) : Kp S a (w.setRow g cs) :=
  ⟨h.os, h.tape, h.output, by simpa [World.setRow] using h.size, fun k hk hS => (setRow_far (by rintro rfl; rcases hg with hg | hg; exact hS hg; omega)).trans (h.block k hk hS)⟩
abbrev macC (a b c d e f : Nat) : Array Value := #[.int .u8 (a : Int), .int .u8 (b : Int), .int .u8 (c : Int), .int .u8 (d : Int), .int .u8 (e : Int), .int .u8 (f : Int)]
theorem mac_one (a b c d e f : Nat) : (macC a b c d e f).all (·.oneCell') = true := by simp [Value.oneCell']
theorem hi32 : (Tryz.prog.info? 32).map (·.size) = some 6 := by kernel_rfl
set_option maxRecDepth 1000000 in
set_option maxHeartbeats 8000000 in
/-- Find. -/
theorem cfind (g i now : Nat) (s : CS) (w : World) (h : CM w g s) (hi : i < 4294967296) :
    Calls Tryz.prog 15 #[.pointer (some ⟨g, 0, none⟩), .int .u32 (i : Int), .int .u64 (now : Int)] w fun ev w' => ev = .returned (.tuple #[macV ((fnd s.ents i now).getD M0), .bool (fnd s.ents i now).isSome]) ∧ Kp (fun _ => False) w w' := by
  have z4 : w.cell? ⟨g, 4, none⟩ = some (.map (some s.eb)) := (h.bk.cell 4).trans rfl
  have z6 : w.cell? ⟨g, 6, none⟩ = some (.pointer (some ⟨s.gl, 0, none⟩)) := (h.bk.cell 6).trans rfl
  have e1 : IntKind.i64.wrap (i : Int) = (i : Int) := IntWalk.i64_in _ (by omega)
  obtain ⟨m, o, hlk, hs, hd, hx⟩ := h.look_ent i
  have hres : ∃ mr br b du, (fnd s.ents i now).getD M0 = mr ∧ (fnd s.ents i now).isSome = br ∧ (iget i s.ents).isSome = b ∧ rdI s.R1 (i : Int) = du ∧ (b = false → mr = M0 ∧ br = false) ∧ (b = true → min now MT < du → mr = m ∧ br = true) ∧ (b = true → ¬ min now MT < du → mr = M0 ∧ br = false) := by
    refine ⟨_, _, _, _, rfl, rfl, rfl, rfl, ?_⟩
    rw [hd]
    unfold fnd
    cases hg : iget i s.ents with
    | none => exact ⟨fun _ => ⟨rfl, rfl⟩, fun h => (by cases h), fun h => (by cases h)⟩
    | some x =>
      obtain ⟨e, _⟩ := hx x hg
      refine ⟨fun h => (by cases h), fun _ hl => ?_, fun _ hl => ?_⟩
      · have hl : min now MT < x.due := hl
        simp only [if_pos hl]
        exact ⟨e.symm, rfl⟩
      · have hl : ¬ min now MT < x.due := hl
        simp only [if_neg hl]
        exact ⟨rfl, rfl⟩
  obtain ⟨mr, br, b, du, hr1, hr2, hb, hdu, q1, q2, q3⟩ := hres
  rw [hr1, hr2]
  rw [hb] at hs
  obtain ⟨m1, m2, m3, m4, m5, m6⟩ := m
  have Q := Lib.hid (And.intro q1 (And.intro q2 q3))
  have gl := h.bk.lt
  clear hx hd hr1 hr2 hb q1 q2 q3
  have HD := Lib.hid hdu
  clear hdu
  have H := Lib.hid h
  have HLK := Lib.hid hlk
  have LK : ∀ w', Kp (fun _ => False) w w' → (Instr.lookup 65 (.map (some s.eb)) (.int .u32 (i : Int)) true).run Tryz.prog w' = .ok (.tuple #[.agg #[.int .u8 (m1 : Int), .int .u8 (m2 : Int), .int .u8 (m3 : Int), .int .u8 (m4 : Int), .int .u8 (m5 : Int), .int .u8 (m6 : Int), .int .i64 (o : Int)],   .bool b]) w' := fun w' k => by
    have := ((H.out.em.kept k (fun f => f)).run_lookup (P := Tryz.prog) (T := 65) (E := 70) (K := 30) Tryz.underlying65 Tryz.underlying30 (z := .agg #[.int .u8 0, .int .u8 0, .int .u8 0, .int .u8 0, .int .u8 0, .int .u8 0, .int .i64 0]) (by kernel_rfl) (i : Int)).2
    rw [HLK.out, hs] at this
    exact this
  have hl1 := LK _ ((Kp.refl (fun _ => False) w).alloc (.cells #[.int .u8 0, .int .u8 0, .int .u8 0, .int .u8 0, .int .u8 0, .int .u8 0] 32))
  clear h hlk LK
  go_enter Tryz.func15, Tryz.ntmps15
  go_wp2_with fail
  have K2 := Lib.hid (((Kp.refl (fun _ => False) w).alloc (.cells #[.int .u8 0, .int .u8 0, .int .u8 0, .int .u8 0, .int .u8 0, .int .u8 0] 32)).alloc (.cells #[.int .u8 (m1 : Int), .int .u8 (m2 : Int), .int .u8 (m3 : Int), .int .u8 (m4 : Int), .int .u8 (m5 : Int), .int .u8 (m6 : Int), .int .i64 (o : Int)] 70))
  have B6 := Lib.hid ((Bk.new w 32 #[.int .u8 0, .int .u8 0, .int .u8 0, .int .u8 0, .int .u8 0, .int .u8 0]).kept ((Kp.refl (fun _ => False) _).alloc (.cells #[.int .u8 (m1 : Int), .int .u8 (m2 : Int), .int .u8 (m3 : Int), .int .u8 (m4 : Int), .int .u8 (m5 : Int), .int .u8 (m6 : Int), .int .i64 (o : Int)] 70)) (fun f => f))
  have B8 := Lib.hid (Bk.new (w.alloc (.cells #[.int .u8 0, .int .u8 0, .int .u8 0, .int .u8 0, .int .u8 0, .int .u8 0] 32)) 70 #[.int .u8 (m1 : Int), .int .u8 (m2 : Int), .int .u8 (m3 : Int), .int .u8 (m4 : Int), .int .u8 (m5 : Int), .int .u8 (m6 : Int), .int .i64 (o : Int)])
  rw [World.size_alloc] at B8
  generalize ((w.alloc (.cells #[.int .u8 0, .int .u8 0, .int .u8 0, .int .u8 0, .int .u8 0, .int .u8 0] 32)).alloc (.cells #[.int .u8 (m1 : Int), .int .u8 (m2 : Int), .int .u8 (m3 : Int), .int .u8 (m4 : Int), .int .u8 (m5 : Int), .int .u8 (m6 : Int), .int .i64 (o : Int)] 70)) = W at *
  have WD := wdue s.F1 s.gl 0 s.R1 (i : Int) W (H.out.lw.none_kept K2.out)
  rw [HD.out] at WD
  refine WD.mono ?_
  rintro ev w2 ⟨rfl, k3⟩
  have K3 := Lib.hid (K2.out.trans' k3)
  have b6 := B6.out.kept k3 (fun f => f)
  have b8 := B8.out.kept k3 (fun f => f)
  have c0 := b8.cell 0
  have c1 := b8.cell 1
  have c2 := b8.cell 2
  have c3 := b8.cell 3
  have c4 := b8.cell 4
  have c5 := b8.cell 5
  have f0 := b6.frozen 0
  have f1 := b6.frozen 1
  have f2 := b6.frozen 2
  have f3 := b6.frozen 3
  have f4 := b6.frozen 4
  have f5 := b6.frozen 5
  have HB6 := Lib.hid b6
  clear b6 b8 k3 K2 B6 B8
  clear WD HD hs
  obtain ⟨q1, q2, q3⟩ := Q.out
  clear Q
  cases b with
  | false =>
      obtain ⟨rfl, rfl⟩ := q1 rfl
      clear q1 q2 q3
      go_wp2_with
        ((with_reducible refine at_store (t := 32) (p := 6) (v := .tmp 39) rfl ?_)
         go_must (refine wpList_store_row (by rfl) 32 (.tmp 6) (.tmp 39) (by rfl) w.heap.size (macC 0 0 0 0 0 0) (by rfl) (by rfl) 32 (macC 0 0 0 0 0 0) HB6.out hi32 rfl (mac_one _ _ _ _ _ _) ?_))
      refine bodyPost_ret (results_row_tmp rfl _ _ w.heap.size 32 (macC 0 0 0 0 0 0) _ rfl (setRow_heap HB6.out) Tryz.underlying32 rfl hi32) rfl ?_
      exact ⟨rfl, kp_row K3.out (.inr (Nat.le_refl _)) _⟩
  | true =>
    have hm0 : (0 : Int) ≤ (now : Int) := by omega
    by_cases hl : min now MT < du
    · obtain ⟨rfl, rfl⟩ := q2 rfl hl
      clear q1 q2 q3
      have hmin : (min (now : Int) 2305843009213693952) = ((min now MT : Nat) : Int) := by unfold MT; omega
      have hlt : ¬ ((du : Int) ≤ ((min now MT : Nat) : Int)) := by omega
      generalize min now MT = mn at *
      go_wp2_with
        ((with_reducible refine at_store (t := 32) (p := 6) (v := .tmp 41) rfl ?_)
         go_must (refine wpList_store_row (by rfl) 32 (.tmp 6) (.tmp 41) (by rfl) w.heap.size (macC m1 m2 m3 m4 m5 m6) (by rfl) (by rfl) 32 (macC 0 0 0 0 0 0) HB6.out hi32 rfl (mac_one _ _ _ _ _ _) ?_))
      refine bodyPost_ret (results_row_tmp rfl _ _ w.heap.size 32 (macC m1 m2 m3 m4 m5 m6) _ rfl (setRow_heap HB6.out) Tryz.underlying32 rfl hi32) rfl ?_
      exact ⟨rfl, kp_row K3.out (.inr (Nat.le_refl _)) _⟩
    · obtain ⟨rfl, rfl⟩ := q3 rfl hl
      clear q1 q2 q3
      have hmin : (min (now : Int) 2305843009213693952) = ((min now MT : Nat) : Int) := by unfold MT; omega
      have hlt : (du : Int) ≤ ((min now MT : Nat) : Int) := by omega
      generalize min now MT = mn at *
      go_wp2_with
        ((with_reducible refine at_store (t := 32) (p := 6) (v := .tmp 39) rfl ?_)
         go_must (refine wpList_store_row (by rfl) 32 (.tmp 6) (.tmp 39) (by rfl) w.heap.size (macC 0 0 0 0 0 0) (by rfl) (by rfl) 32 (macC 0 0 0 0 0 0) HB6.out hi32 rfl (mac_one _ _ _ _ _ _) ?_))
      refine bodyPost_ret (results_row_tmp rfl _ _ w.heap.size 32 (macC 0 0 0 0 0 0) _ rfl (setRow_heap HB6.out) Tryz.underlying32 rfl hi32) rfl ?_
      exact ⟨rfl, kp_row K3.out (.inr (Nat.le_refl _)) _⟩
end Go.Proofs.YtgidjgkafbjkpaaGreatDoor
namespace Go.Proofs.YtgidjgkafbjkpaaGreatDoor
open Go.RowKit

/-- The how manieth, 0 where there is none. -/
def ordI (L : List Ent) (x : Int) : Int :=
  match mget x L with
  | some (.agg cs) => (match (cs[6]? : Option Value) with | some (Value.int _ d) => d | _ => 0)
  | _ => 0
theorem HM.ord {L : List Ent} {l : List En} (h : HM TE L l) {x : En} (hx : x ∈ l) : ordI L (x.ip : Int) = (x.ord : Int) := by
  obtain ⟨v, hv, e⟩ := h.some_ x hx
  have e : v = entV x.v x.ord := e
  unfold ordI
  rw [hv, e]
  rfl
theorem HM.ord_look {L : List Ent} {l : List En} (h : HM TE L l) (x : Int) : ∃ a1 a2 a3 a4 a5 a6 : Int, (mget x L).getD (.agg #[.int .u8 0, .int .u8 0, .int .u8 0, .int .u8 0, .int .u8 0, .int .u8 0, .int .i64 0]) = .agg #[.int .u8 a1, .int .u8 a2, .int .u8 a3, .int .u8 a4, .int .u8 a5, .int .u8 a6, .int .i64 (ordI L x)] := by
  by_cases hx : ∀ y ∈ l, (y.ip : Int) ≠ x
  · have := h.none_ x hx
    refine ⟨0, 0, 0, 0, 0, 0, ?_⟩
    unfold ordI
    rw [this]
    rfl
  · obtain ⟨y, hy⟩ := Classical.not_forall.1 hx
    obtain ⟨hm, he⟩ := Classical.not_imp.1 hy
    have he : (y.ip : Int) = x := Classical.not_not.1 he
    clear hx hy
    subst he
    obtain ⟨v, hv, e⟩ := h.some_ y hm
    have e : v = entV y.v y.ord := e
    rw [h.ord hm, hv, e]
    exact ⟨_, _, _, _, _, _, rfl⟩
set_option maxRecDepth 1000000 in
set_option maxHeartbeats 8000000 in
/-- The closure: who was learned earlier. -/
theorem closE (g X : Nat) (s : CS) (x y : Int) (W : World) (h : CM W g s) (hX : W.cell? ⟨X, 0, none⟩ = some (.pointer (some ⟨g, 0, none⟩))) :
    Calls Tryz.prog 49 #[.int .u32 x, .int .u32 y, .pointer (some ⟨X, 0, none⟩)] W fun ev w' => ev = .returned (.int .i64 (Lib.compareInt (ordI s.EL x) (ordI s.EL y))) ∧ Gr W w' := by
  obtain ⟨a1, a2, a3, a4, a5, a6, e1⟩ := h.eh.ord_look x
  obtain ⟨b1, b2, b3, b4, b5, b6, e2⟩ := h.eh.ord_look y
  have CX := Lib.hid hX
  have C1 := Lib.hid (show W.cell? ⟨g, 4, none⟩ = some (.map (some s.eb)) from (h.bk.cell 4).trans rfl)
  have look : ∀ (z : Int) (w' : World), Gr W w' → (Instr.lookup 65 (.map (some s.eb)) (.int .u32 z) false).run Tryz.prog w' = .ok ((mget z s.EL).getD (.agg #[.int .u8 0, .int .u8 0, .int .u8 0, .int .u8 0, .int .u8 0, .int .u8 0, .int .i64 0])) w' := fun z w' hg =>
    ((h.none_kept hg.kp).em.run_lookup (P := Tryz.prog) (T := 65) (E := 70) (K := 30) Tryz.underlying65 Tryz.underlying30 (z := .agg #[.int .u8 0, .int .u8 0, .int .u8 0, .int .u8 0, .int .u8 0, .int .u8 0, .int .i64 0]) (by kernel_rfl) z).1
  have L1 := Lib.hid (fun (w' : World) (hg : Gr W w') => show (Instr.lookup 65 (.map (some s.eb)) (.int .u32 x) false).run Tryz.prog w' = .ok (.agg #[.int .u8 a1, .int .u8 a2, .int .u8 a3, .int .u8 a4, .int .u8 a5, .int .u8 a6, .int .i64 (ordI s.EL x)]) w' by rw [← e1]; exact look x w' hg)
  have L2 := Lib.hid (fun (w' : World) (hg : Gr W w') => show (Instr.lookup 65 (.map (some s.eb)) (.int .u32 y) false).run Tryz.prog w' = .ok (.agg #[.int .u8 b1, .int .u8 b2, .int .u8 b3, .int .u8 b4, .int .u8 b5, .int .u8 b6, .int .i64 (ordI s.EL y)]) w' by rw [← e2]; exact look y w' hg)
  generalize ordI s.EL x = dx at *
  generalize ordI s.EL y = dy at *
  have hfd1 : ∀ w : World, (Instr.field 70 (.agg #[.int .u8 a1, .int .u8 a2, .int .u8 a3, .int .u8 a4, .int .u8 a5, .int .u8 a6, .int .i64 dx]) 1).run Tryz.prog w = .ok (.int .i64 dx) w := fun _ => by kernel_rfl
  have hfd2 : ∀ w : World, (Instr.field 70 (.agg #[.int .u8 b1, .int .u8 b2, .int .u8 b3, .int .u8 b4, .int .u8 b5, .int .u8 b6, .int .i64 dy]) 1).run Tryz.prog w = .ok (.int .i64 dy) w := fun _ => by kernel_rfl
  clear look h hX e1 e2
  go_enter Tryz.func49, Tryz.ntmps49
  go_wp2_with fail
  refine wp_region_held_drew (S := (fun w' => Gr W w')) (by kernel_rfl) (Gr.refl W).drew (fun hHeld => ?_)
  refine wpAnyH_take (i := 0) (v := ?v0_0) rfl (by kernel_rfl) (by kernel_rfl) (by kernel_rfl) (fun _ _ _ h => h) (Or.inl ⟨by rfl, ?y0_0⟩) (by assumption) ?r0_0
  case y0_0 => (intro w hSw; (try dsimp only at hSw); have d1 := kp_kc0 CX.out hSw.kp; go_simp; first | done | with_reducible rfl)
  try simp only [Act.put, List.getElem_toArray, List.getElem_cons_succ, List.getElem_cons_zero, List.setIfInBounds_toArray, List.set_cons_zero, List.set_cons_succ]
  refine wpAnyH_take (i := 1) (v := ?v1_1) rfl (by kernel_rfl) (by kernel_rfl) (by kernel_rfl) (fun _ _ _ h => h) (Or.inl ⟨by rfl, ?y1_1⟩) (by assumption) ?r1_1
  case y1_1 => (intro w hSw; (try dsimp only at hSw); go_simp; first | done | with_reducible rfl)
  try simp only [Act.put, List.getElem_toArray, List.getElem_cons_succ, List.getElem_cons_zero, List.setIfInBounds_toArray, List.set_cons_zero, List.set_cons_succ]
  refine wpAnyH_take (i := 2) (v := ?v2_2) rfl (by kernel_rfl) (by kernel_rfl) (by kernel_rfl) (fun _ _ _ h => h) (Or.inl ⟨by rfl, ?y2_2⟩) (by assumption) ?r2_2
  case y2_2 => (intro w hSw; (try dsimp only at hSw); go_simp; first | done | with_reducible rfl)
  try simp only [Act.put, List.getElem_toArray, List.getElem_cons_succ, List.getElem_cons_zero, List.setIfInBounds_toArray, List.set_cons_zero, List.set_cons_succ]
  refine wpAnyH_take (i := 3) (v := ?v3_3) rfl (by kernel_rfl) (by kernel_rfl) (by kernel_rfl) (fun _ _ _ h => h) (Or.inl ⟨by rfl, ?y3_3⟩) (by assumption) ?r3_3
  case y3_3 => (intro w hSw; (try dsimp only at hSw); have d1 := kp_kc0 C1.out hSw.kp; go_simp; first | done | with_reducible rfl)
  try simp only [Act.put, List.getElem_toArray, List.getElem_cons_succ, List.getElem_cons_zero, List.setIfInBounds_toArray, List.set_cons_zero, List.set_cons_succ]
  refine wpAnyH_take (i := 4) (v := ?v4_4) rfl (by kernel_rfl) (by kernel_rfl) (by kernel_rfl) (fun _ _ _ h => h) (Or.inl ⟨by rfl, ?y4_4⟩) (by assumption) ?r4_4
  case y4_4 => (intro w hSw; (try dsimp only at hSw); go_simp; first | done | with_reducible rfl)
  try simp only [Act.put, List.getElem_toArray, List.getElem_cons_succ, List.getElem_cons_zero, List.setIfInBounds_toArray, List.set_cons_zero, List.set_cons_succ]
  refine wpAnyH_take (i := 5) (v := ?v5_5) rfl (by kernel_rfl) (by kernel_rfl) (by kernel_rfl) (fun _ _ _ h => h) (Or.inl ⟨by rfl, ?y5_5⟩) (by assumption) ?r5_5
  case y5_5 => (intro w hSw; (try dsimp only at hSw); have d1 := L1.out w hSw; go_simp; first | done | with_reducible rfl)
  try simp only [Act.put, List.getElem_toArray, List.getElem_cons_succ, List.getElem_cons_zero, List.setIfInBounds_toArray, List.set_cons_zero, List.set_cons_succ]
  refine wpAnyH_take (i := 6) (v := ?v6_6) rfl (by kernel_rfl) (by kernel_rfl) (by kernel_rfl) (fun _ _ _ h => h) (Or.inl ⟨by rfl, ?y6_6⟩) (by assumption) ?r6_6
  case y6_6 => (intro w hSw; (try dsimp only at hSw); go_simp; first | done | with_reducible rfl)
  try simp only [Act.put, List.getElem_toArray, List.getElem_cons_succ, List.getElem_cons_zero, List.setIfInBounds_toArray, List.set_cons_zero, List.set_cons_succ]
  refine wpAnyH_take (i := 7) (v := ?v7_7) rfl (by kernel_rfl) (by kernel_rfl) (by kernel_rfl) (fun _ _ _ h => h) (Or.inl ⟨by rfl, ?y7_7⟩) (by assumption) ?r7_7
  case y7_7 => (intro w hSw; (try dsimp only at hSw); have d1 := kp_kc0 CX.out hSw.kp; go_simp; first | done | with_reducible rfl)
  try simp only [Act.put, List.getElem_toArray, List.getElem_cons_succ, List.getElem_cons_zero, List.setIfInBounds_toArray, List.set_cons_zero, List.set_cons_succ]
  refine wpAnyH_take (i := 8) (v := ?v8_8) rfl (by kernel_rfl) (by kernel_rfl) (by kernel_rfl) (fun _ _ _ h => h) (Or.inl ⟨by rfl, ?y8_8⟩) (by assumption) ?r8_8
  case y8_8 => (intro w hSw; (try dsimp only at hSw); go_simp; first | done | with_reducible rfl)
  try simp only [Act.put, List.getElem_toArray, List.getElem_cons_succ, List.getElem_cons_zero, List.setIfInBounds_toArray, List.set_cons_zero, List.set_cons_succ]
  refine wpAnyH_take (i := 9) (v := ?v9_9) rfl (by kernel_rfl) (by kernel_rfl) (by kernel_rfl) (fun _ _ _ h => h) (Or.inl ⟨by rfl, ?y9_9⟩) (by assumption) ?r9_9
  case y9_9 => (intro w hSw; (try dsimp only at hSw); go_simp; first | done | with_reducible rfl)
  try simp only [Act.put, List.getElem_toArray, List.getElem_cons_succ, List.getElem_cons_zero, List.setIfInBounds_toArray, List.set_cons_zero, List.set_cons_succ]
  refine wpAnyH_take (i := 10) (v := ?v10_10) rfl (by kernel_rfl) (by kernel_rfl) (by kernel_rfl) (fun _ _ _ h => h) (Or.inl ⟨by rfl, ?y10_10⟩) (by assumption) ?r10_10
  case y10_10 => (intro w hSw; (try dsimp only at hSw); have d1 := kp_kc0 C1.out hSw.kp; go_simp; first | done | with_reducible rfl)
  try simp only [Act.put, List.getElem_toArray, List.getElem_cons_succ, List.getElem_cons_zero, List.setIfInBounds_toArray, List.set_cons_zero, List.set_cons_succ]
  refine wpAnyH_take (i := 11) (v := ?v11_11) rfl (by kernel_rfl) (by kernel_rfl) (by kernel_rfl) (fun _ _ _ h => h) (Or.inl ⟨by rfl, ?y11_11⟩) (by assumption) ?r11_11
  case y11_11 => (intro w hSw; (try dsimp only at hSw); go_simp; first | done | with_reducible rfl)
  try simp only [Act.put, List.getElem_toArray, List.getElem_cons_succ, List.getElem_cons_zero, List.setIfInBounds_toArray, List.set_cons_zero, List.set_cons_succ]
  refine wpAnyH_take (i := 12) (v := ?v12_12) rfl (by kernel_rfl) (by kernel_rfl) (by kernel_rfl) (fun _ _ _ h => h) (Or.inl ⟨by rfl, ?y12_12⟩) (by assumption) ?r12_12
  case y12_12 => (intro w hSw; (try dsimp only at hSw); have d1 := L2.out w hSw; go_simp; first | done | with_reducible rfl)
  try simp only [Act.put, List.getElem_toArray, List.getElem_cons_succ, List.getElem_cons_zero, List.setIfInBounds_toArray, List.set_cons_zero, List.set_cons_succ]
  refine wpAnyH_take (i := 13) (v := ?v13_13) rfl (by kernel_rfl) (by kernel_rfl) (by kernel_rfl) (fun _ _ _ h => h) (Or.inl ⟨by rfl, ?y13_13⟩) (by assumption) ?r13_13
  case y13_13 => (intro w hSw; (try dsimp only at hSw); go_simp; first | done | with_reducible rfl)
  try simp only [Act.put, List.getElem_toArray, List.getElem_cons_succ, List.getElem_cons_zero, List.setIfInBounds_toArray, List.set_cons_zero, List.set_cons_succ]
  refine wpAnyH_ready (rs := [14]) (by kernel_rfl) (by simp) ?_
  refine AllReadyH.cons rfl (fun K hK => ?_) AllReadyH.nil
  go_simp
  with_reducible refine (cmp_i dx dy _).mono ?_
  rintro ev w1 ⟨rfl, rfl⟩
  try dsimp only
  refine hK.out _ _ (by first | exact (Gr.refl W).drew | exact (Gr.refl W).drewN _) (fun hHeld => ?_)
  clear hK K
  try simp only [Act.put, List.getElem_toArray, List.getElem_cons_succ, List.getElem_cons_zero, List.setIfInBounds_toArray, List.set_cons_zero, List.set_cons_succ]
  refine wpAnyH_take (i := 15) (v := ?v15_14) rfl (by kernel_rfl) (by kernel_rfl) (by kernel_rfl) (fun _ _ _ h => h) (Or.inl ⟨by rfl, ?y15_14⟩) (by assumption) ?r15_14
  case y15_14 => (intro w hSw; (try dsimp only at hSw); go_simp; first | done | with_reducible rfl)
  try simp only [Act.put, List.getElem_toArray, List.getElem_cons_succ, List.getElem_cons_zero, List.setIfInBounds_toArray, List.set_cons_zero, List.set_cons_succ]
  refine wpAnyH_done (by kernel_rfl) ?_ _
  go_wp2_with fail
  exact bodyPost_ret (results_tmp rfl _ _ _) rfl ⟨rfl, (Gr.refl W).drew⟩
theorem getD_mem_ {l : List Int} {k : Nat} (h : k < l.length) : l.getD k 0 ∈ l := by
  rw [List.getD_eq_getElem?_getD, List.getElem?_eq_getElem h]
  exact List.getElem_mem h
set_option maxRecDepth 1000000 in
set_option maxHeartbeats 8000000 in
/-- MinFunc. -/
theorem minU (g X : Nat) (s : CS) (b o c : Nat) (ss : List Int) (w : World) (h : CM w g s) (hX : w.cell? ⟨X, 0, none⟩ = some (.pointer (some ⟨g, 0, none⟩))) (hl : 1 ≤ ss.length) (hl2 : ss.length ≤ 1000000)
    (hc : ∀ j, j < ss.length → w.cell? ⟨b, o + j, none⟩ = some (.int .u32 (ss.getD j 0))) :
    Calls Tryz.prog 47 #[.slice (some ⟨b, o, none⟩) ss.length c, .func (.func 49) #[] #[.pointer (some ⟨X, 0, none⟩)]] w fun ev w' => ∃ m, ev = .returned (.int .u32 m) ∧ m ∈ ss ∧ (∀ y ∈ ss, ordI s.EL m ≤ ordI s.EL y) ∧ Kp (fun _ => False) w w' := by
  have HC := Lib.hid hc
  have H := Lib.hid h
  have HX := Lib.hid hX
  have d0 : w.cell? ⟨b, o, none⟩ = some (.int .u32 (ss.getD 0 0)) := hc 0 (by omega)
  have hge : ¬ ((ss.length : Int) < 1) := by omega
  have hgt : (0 : Int) < (ss.length : Int) := by omega
  have HM0 := Lib.hid (show ss.getD 0 0 ∈ ss from getD_mem_ (by omega))
  have HG0 := Lib.hid (show ∃ m0, ss.getD 0 0 = m0 from ⟨_, rfl⟩)
  obtain ⟨m0, hm0⟩ := HG0.out
  rw [hm0] at d0 HM0
  have HE := Lib.hid hm0
  clear hc h hX HG0 hm0
  go_enter Tryz.func47, Tryz.ntmps47
  go_wp2_with fail
  go_loopw [5, 6] (fun v5 v6 wr => ∃ (k : Nat) (m : Int), v5 = .int .u32 m ∧ v6 = .int .i64 (k : Int) ∧ 1 ≤ k ∧ k ≤ ss.length ∧ m ∈ ss ∧ (∀ j, j < k → ordI s.EL m ≤ ordI s.EL (ss.getD j 0)) ∧ Kp (fun _ => False) w wr) (fun _ v6 _ => ss.length - (intOf v6).toNat)
  case atStart => exact ⟨1, m0, rfl, rfl, by omega, by omega, HM0.out, fun j hj => by rw [show j = 0 by omega, HE.out]; exact Int.le_refl _, Kp.refl _ _⟩
  case round =>
    obtain ⟨k, m, rfl, rfl, hk1, hk2, hm, hmin, kp⟩ := hrel
    have HMM := Lib.hid (And.intro hm (And.intro hmin kp))
    clear hm hmin
    by_cases hlt : k < ss.length
    · have dk := kp_kc' (HC.out k hlt) kp (fun f => f)
      have k0 : (0 : Int) ≤ (k : Int) := by omega
      have k1 : (k : Int) < (ss.length : Int) := by omega
      have CE := closE g X s (ss.getD k 0) m wr (H.out.none_kept kp) (kp_kc0 HX.out kp)
      obtain ⟨x, hx⟩ : ∃ x, ss.getD k 0 = x := ⟨_, rfl⟩
      rw [hx] at dk CE
      have HX2 := Lib.hid hx
      have HCE := Lib.hid CE
      clear kp CE hx
      go_wp2_with fail
      refine HCE.out.mono ?_
      rintro ev w3 ⟨rfl, hgr⟩
      have K3 := Lib.hid (HMM.out.2.2.trans' hgr.kp)
      have dk3 := kp_kc' (HC.out k hlt) K3.out (fun f => f)
      rw [HX2.out] at dk3
      clear hgr HCE
      by_cases hcmp : ordI s.EL x < ordI s.EL m
      · have hneg : Lib.compareInt (ordI s.EL x) (ordI s.EL m) < 0 := by
          rcases cmp_cases (ordI s.EL x) (ordI s.EL m) with ⟨_, e⟩ | ⟨_, _⟩ | ⟨_, _⟩ <;> omega
        have HCM := Lib.hid hcmp
        clear hcmp
        go_wp2_with fail
        go_roundw
        case rel =>
          refine ⟨k + 1, x, rfl, by go_num, by omega, by omega, by rw [← HX2.out]; exact getD_mem_ hlt, fun j hj => ?_, K3.out⟩
          by_cases hjk : j < k
          · have := HMM.out.2.1 j hjk
            have := HCM.out
            omega
          · rw [show j = k by omega, HX2.out]; exact Int.le_refl _
        case measure => simp [intOf]; omega
      · have hneg : ¬ Lib.compareInt (ordI s.EL x) (ordI s.EL m) < 0 := by
          rcases cmp_cases (ordI s.EL x) (ordI s.EL m) with ⟨_, e⟩ | ⟨_, _⟩ | ⟨_, _⟩ <;> omega
        have HCM := Lib.hid hcmp
        clear hcmp
        go_wp2_with fail
        go_roundw
        case rel =>
          refine ⟨k + 1, m, rfl, by go_num, by omega, by omega, HMM.out.1, fun j hj => ?_, K3.out⟩
          by_cases hjk : j < k
          · exact HMM.out.2.1 j hjk
          · rw [show j = k by omega, HX2.out]
            have := HCM.out
            omega
        case measure => simp [intOf]; omega
    · have k1 : ¬ ((k : Int) < (ss.length : Int)) := by omega
      go_wp2_with fail
      refine bodyPost_ret (results_tmp rfl _ _ _) rfl ⟨m, rfl, HMM.out.1, fun y hy => ?_, HMM.out.2.2⟩
      obtain ⟨j, hj, rfl⟩ := List.getElem_of_mem hy
      have := HMM.out.2.1 j (by omega)
      rw [List.getD_eq_getElem?_getD, List.getElem?_eq_getElem hj] at this
      exact this
end Go.Proofs.YtgidjgkafbjkpaaGreatDoor
namespace Go.Proofs.YtgidjgkafbjkpaaGreatDoor
open Go.RowKit

theorem HM.key {β : Type} {T : It β → Value → Prop} {L : List Ent} {l : List (It β)} (h : HM T L l) (i : Int) : i ∈ L.map Ent.k ↔ ∃ x ∈ l, (x.ip : Int) = i := by
  constructor
  · intro hi
    by_cases hx : ∀ y ∈ l, (y.ip : Int) ≠ i
    · have h0 := mget_none.1 (h.none_ i hx)
      obtain ⟨e, he, rfl⟩ := List.mem_map.1 hi
      exact absurd rfl (h0 e he)
    · obtain ⟨y, hy⟩ := Classical.not_forall.1 hx
      obtain ⟨hm, he⟩ := Classical.not_imp.1 hy
      exact ⟨y, hm, Classical.not_not.1 he⟩
  · rintro ⟨x, hx, rfl⟩
    obtain ⟨v, hv, _⟩ := h.some_ x hx
    by_cases hk : (x.ip : Int) ∈ L.map Ent.k
    · exact hk
    · have : mget (x.ip : Int) L = none := mget_none.2 (fun e he e' => hk (List.mem_map.2 ⟨e, he, e'⟩))
      rw [this] at hv
      cases hv
theorem least_first {n : Nat} {L : List Ent} {x : En} {l : List En} {m : Int} {ss : List Int} (h : HM TE L (x :: l)) (hs : IS n (x :: l)) (hp : ss.Perm (L.map Ent.k)) (hm : m ∈ ss) (hl : ∀ y ∈ ss, ordI L m ≤ ordI L y) : m = (x.ip : Int) := by
  obtain ⟨y, hy, e⟩ := (h.key m).1 (hp.mem_iff.1 hm)
  have hx : (x.ip : Int) ∈ ss := hp.mem_iff.2 ((h.key _).2 ⟨x, List.mem_cons_self, rfl⟩)
  have h1 := hl _ hx
  rw [← e, h.ord hy, h.ord List.mem_cons_self] at h1
  by_cases hne : y.ip = x.ip
  · rw [← e, hne]
  · have := hs.head_lt hy hne
    omega
set_option maxRecDepth 1000000 in
set_option maxHeartbeats 8000000 in
/-- eldest. -/
theorem celdest (g : Nat) (s : CS) (x : En) (l : List En) (w : World) (h : CM w g s) (hs : s.ents = x :: l) (hl : s.ents.length ≤ 1000000) :
    Calls Tryz.prog 24 #[.pointer (some ⟨g, 0, none⟩)] w fun ev w' => ev = .returned (.int .u32 (x.ip : Int)) ∧ Kp (fun _ => False) w w' := by
  have k1 : Kp (fun _ => False) w (w.alloc (.cells #[.pointer (some ⟨g, 0, none⟩)] 25)) := (Kp.refl _ w).alloc _
  have z4 : (w.alloc (.cells #[.pointer (some ⟨g, 0, none⟩)] 25)).cell? ⟨g, 4, none⟩ = some (.map (some s.eb)) := ((h.none_kept k1).bk.cell 4).trans rfl
  have xc := (Bk.new w 25 #[.pointer (some ⟨g, 0, none⟩)]).cell 0
  have xc : (w.alloc (.cells #[.pointer (some ⟨g, 0, none⟩)] 25)).cell? ⟨w.heap.size, 0, none⟩ = some (.pointer (some ⟨g, 0, none⟩)) := xc
  have H := Lib.hid h
  have HS := Lib.hid hs
  have HL := Lib.hid hl
  have K1 := Lib.hid k1
  have XC := Lib.hid xc
  clear h hs hl k1
  go_enter Tryz.func24, Tryz.ntmps24
  go_wp2_with fail
  generalize w.alloc (.cells #[.pointer (some ⟨g, 0, none⟩)] 25) = w1 at *
  refine ((callsIn_wide (n := 1)).1 (keysU 1 (some s.eb) w1)).mono ?_
  rintro ev w2 ⟨rfl, rfl⟩
  go_wp2_with fail
  have k2 : Kp (fun _ => False) w1 (w1.alloc (.cells #[.map (some s.eb)] 65)) := (Kp.refl _ w1).alloc _
  have bm : (w1.alloc (.cells #[.map (some s.eb)] 65)).cell? ⟨w1.heap.size, 0, none⟩ = some (.map (some s.eb)) := (Bk.new w1 65 #[.map (some s.eb)]).cell 0
  have X2 := Lib.hid (kp_kc0 XC.out k2)
  have K2 := Lib.hid (K1.out.trans' k2)
  have hq := keysU_stops 1 (by omega) w1.heap.size s.eb s.ec s.EL _ bm (H.out.none_kept K2.out).em
  have hlen : s.EL.length ≤ 1000000 := by rw [H.out.eh.len]; exact HL.out
  have CO := Lib.hid ((callsIn_wide (n := 3)).1 (collectU 3 (by omega) 63 #[.pointer (some ⟨w1.heap.size, 0, none⟩)] (enters_of Tryz.func63 (by kernel_rfl) rfl) _ _ _ hlen _ hq))
  clear k2 bm hq hlen XC K1
  generalize w1.alloc (.cells #[.map (some s.eb)] 65) = w2 at *
  refine CO.out.mono ?_
  rintro ev w3 ⟨v, ss, rfl, hp, hrow, hnil, hb⟩
  have k3 : Kp (fun _ => False) w2 w3 := Kp.of_below hb _
  have X3 := Lib.hid (kp_kc0 X2.out k3)
  have K3 := Lib.hid (K2.out.trans' k3)
  obtain ⟨A, c, rfl, hn, hr, _⟩ := RdI.of_own (k := .u32) (xs := ss) hrow
  have hlen : ss.length = s.ents.length := by rw [hp.length_eq, List.length_map, H.out.eh.len]
  have hpos : 1 ≤ ss.length := by rw [hlen, HS.out]; simp
  have hle : ss.length ≤ 1000000 := by rw [hlen]; exact HL.out
  obtain ⟨b, o, rfl, hc⟩ : ∃ b o, A = some ⟨b, o, none⟩ ∧ ∀ j, j < ss.length → w3.cell? ⟨b, o + j, none⟩ = some (.int .u32 (ss.getD j 0)) := by
    rcases hr.2 with h | h
    · omega
    · exact h
  have MN := Lib.hid (minU g w.heap.size s b o c ss w3 (H.out.none_kept K3.out) X3.out hpos hle hc)
  have HP := Lib.hid hp
  clear hp hrow hnil hb k3 hr hlen hpos hle hc CO
  go_wp2_with fail
  refine MN.out.mono ?_
  rintro ev w4 ⟨m, rfl, hm, hmin, k4⟩
  have he := H.out.eh
  have hi := H.out.es
  rw [HS.out] at he hi
  obtain rfl := least_first he hi HP.out hm hmin
  have K4 := Lib.hid (K3.out.trans' k4)
  clear hm hmin k4 he hi
  go_wp2_with fail
  exact bodyPost_ret (results_tmp rfl _ _ _) rfl ⟨rfl, K4.out⟩
end Go.Proofs.YtgidjgkafbjkpaaGreatDoor
