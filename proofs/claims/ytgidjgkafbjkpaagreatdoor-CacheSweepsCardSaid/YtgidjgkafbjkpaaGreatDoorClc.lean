/- Cache's rows: arguments that are slices of calls. -/
import Derived.Test.YtgidjgkafbjkpaaGreatDoorClo
import Derived.Test.YtgidjgkafbjkpaaGreatDoorCqp
set_option linter.unusedVariables false
set_option linter.unusedSimpArgs false
namespace Go.Proofs.YtgidjgkafbjkpaaGreatDoor
open Go.ChangeShapes Go.WideShapes Go.ChangeAt Go.RowKit Go.Deep Go.Joins

theorem spot_none {w : World} {a : Addr} {v : Value} (h : w.cell? a = some v) : a.spot = none := by
  cases hs : a.spot with
  | none => rfl
  | some q => simp [World.cell?, hs] at h; split at h <;> cases h
theorem add_plain' {a : Addr} (h : a.spot = none) (j : Nat) : a.add j = ⟨a.block, a.off + j, none⟩ := by
  obtain ⟨b, o, s⟩ := a
  simp at h
  subst h
  unfold Addr.add
  split <;> simp_all
theorem cells34 : Tryz.prog.cellsOf 34 = 10 := by kernel_rfl
theorem cells3o : Tryz.prog.cellsOf 3 = 1 := by kernel_rfl
theorem cells30o : Tryz.prog.cellsOf 30 = 1 := by kernel_rfl
theorem cells22o : Tryz.prog.cellsOf 22 = 1 := by kernel_rfl
section
variable {H : Type} {enc : TypeId × Value → H} {w : World} {base : Nat} {spare : Nat → Bool} {held : Bool} {fuel : Nat}
set_option maxRecDepth 100000 in
theorem trod_call {cs : List Value} {x : DataW H × List MemPlace} (hsz : cs.length = 10) (h : DataW.trod enc Tryz.prog w base spare held fuel 34 cs = some x) :
    ∃ c : Cl, cs = (clC c).toList ∧ c.ip < 4294967296 := by
  obtain ⟨ys, n, rfl, _, hl, hys, hi⟩ := DataW.trod_struct Tryz.underlying34 h
  have h0 := hi 0 _ rfl
  have h1 := hi 1 _ rfl
  have h2 := hi 2 _ rfl
  have h3 := hi 3 _ rfl
  have h4 := hi 4 _ rfl
  match ys, hys with
  | [y0, y1, y2, y3, y4], _ =>
    match cs, hsz with
    | [c0, c1, c2, c3, c4, c5, c6, c7, c8, c9], _ =>
      obtain ⟨wh, e0, _, _⟩ := DataW.trod_int (x := y0) Tryz.underlying3 (by simpa [cells3o] using h0)
      obtain ⟨tk, e1, _, _⟩ := DataW.trod_int (x := y1) Tryz.underlying3 (by simpa [cells3o] using h1)
      obtain ⟨ii, e2, _, w2⟩ := DataW.trod_int (x := y2) Tryz.underlying30 (by simpa [cells30o] using h2)
      obtain ⟨a, b, c, d, e, f, e3, _⟩ := trod_mac_ (x := y3) (by simpa [cells32] using h3)
      obtain ⟨nn, e4, _, w4⟩ := DataW.trod_int (x := y4) Tryz.underlying22 (by simpa [cells22o] using h4)
      have b2 := bounds_u32 w2
      have b4 := bounds_u64 w4
      refine ⟨⟨wh, tk, ii.toNat, ⟨a, b, c, d, e, f⟩, nn.toNat⟩, ?_, ?_⟩
      · have hk : ((ii.toNat : Nat) : Int) = ii := by omega
        have hk2 : ((nn.toNat : Nat) : Int) = nn := by omega
        have e0' : [c0] = [Value.int .i64 wh] := e0
        have e1' : [c1] = [Value.int .i64 tk] := e1
        have e2' : [c2] = [Value.int .u32 ii] := e2
        have e3' : [c3, c4, c5, c6, c7, c8] = (macC a b c d e f).toList := e3
        have e4' : [c9] = [Value.int .u64 nn] := e4
        show [c0] ++ [c1] ++ [c2] ++ [c3, c4, c5, c6, c7, c8] ++ [c9] = _
        rw [e0', e1', e2', e3', e4']
        simp only [clC, hk, hk2]
        rfl
      · show ii.toNat < 4294967296
        omega
end
section
variable {H : Type} {enc : TypeId × Value → H}
set_option maxRecDepth 100000 in
theorem open_calls {W : World} {b0 : Nat} {v : Value} {d : DataW H} {p : List MemPlace} (hv : Value.okWide Tryz.prog W .any b0 23 v) (h : DataW.Trod enc Tryz.prog W 0 (fun _ => true) true 23 v d p) :
    ∃ A xs c, v = .slice A xs.length c ∧ RdK W A xs ∧ ∀ x ∈ xs, x.ip < 4294967296 := by
  obtain ⟨a0, len, cap, rfl⟩ := okWide_slice Tryz.underlying23 hv
  obtain ⟨fuel, hf⟩ := h
  rcases open_slice Tryz.underlying23 hf with ⟨hcs, hx⟩ | ⟨a, len', cap', m, n, D, Pl, hcs, _, hl, hm, hmm, hx, hat⟩
  · simp [Value.cells] at hcs
    obtain ⟨rfl, rfl, rfl⟩ := hcs
    exact ⟨none, [], 0, rfl, ⟨by simp, .inl rfl⟩, fun x hx => by cases hx⟩
  · simp [Value.cells] at hcs
    obtain ⟨rfl, rfl, rfl⟩ := hcs
    simp at hmm
    subst hmm
    have hget : ∀ i, i < len → ∃ c : Cl, c.ip < 4294967296 ∧ ∀ k, k < 10 → W.cell? (a.add (i * 10 + k)) = (clC c)[k]? := by
      intro i hi
      obtain ⟨cs', h1, h2⟩ := hat i (by omega)
      rw [cells34] at h1
      obtain ⟨_, hlen, hcell⟩ := World.cells?_some h1
      obtain ⟨c, hc, hip⟩ := trod_call hlen h2
      refine ⟨c, hip, fun k hk => ?_⟩
      have e0 := hcell k hk
      rw [add_add] at e0
      rw [e0, ← Array.getElem?_toList, ← hc]
    obtain ⟨X, hX⟩ : ∃ X : Nat → Cl, ∀ i, i < len → (X i).ip < 4294967296 ∧ ∀ k, k < 10 → W.cell? (a.add (i * 10 + k)) = (clC (X i))[k]? := by
      refine ⟨fun i => if hi : i < len then (hget i hi).choose else default, fun i hi => ?_⟩
      simp only [hi, dif_pos]
      exact (hget i hi).choose_spec
    have hlen : ((List.range len).map X).length = len := by simp
    refine ⟨some a, (List.range len).map X, m, by rw [hlen], ⟨by rw [hlen]; unfold maxLen at hm; omega, ?_⟩, fun x hx => ?_⟩
    · by_cases h0 : len = 0
      · exact .inl (by rw [hlen]; exact h0)
      · right
        have hsp : a.spot = none := by
          have h1 := (hX 0 (by omega)).2 0 (by omega)
          have h2 : (clC (X 0))[0]? = some (.int .i64 (X 0).what) := rfl
          rw [h2] at h1
          have := spot_none h1
          simpa [Addr.add] using this
        refine ⟨a.block, a.off, by obtain ⟨b, o, s⟩ := a; simp at hsp; subst hsp; rfl, fun j hj k hk => ?_⟩
        rw [hlen] at hj
        have g1 := (hX j hj).2 k hk
        rw [add_plain' hsp] at g1
        have e : ((List.range len).map X).getD j default = X j := by simp [hj]
        rw [e, ← g1, Nat.add_assoc]
    · obtain ⟨j, hj, rfl⟩ := List.mem_map.1 hx
      exact (hX j (List.mem_range.1 hj)).1
end
end Go.Proofs.YtgidjgkafbjkpaaGreatDoor
