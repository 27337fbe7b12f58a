/- Wheel: plain part of WheelOnce; rows of numbers and maps beside a wheel. -/
import Derived.Test.YtdakkmaahgcjfaaDoorWrc
import Derived.BigQuiet
set_option linter.unusedVariables false
set_option linter.unusedSimpArgs false
namespace Go.Proofs.YtdakkmaahgcjfaaDoor
open Go.RowKit

/-- Rows of the first i times of D that are at least n. -/
def SetD (D : List Nat) (i n : Nat) (R : Rows) : Prop := ∀ x, x ∈ R ↔ ∃ k : Nat, k < i ∧ x = ((k : Int), D.getD k 0) ∧ D.getD k 0 ≤ TOP ∧ n ≤ D.getD k 0
theorem SetD.nil (D : List Nat) : SetD D 0 0 [] := fun x => ⟨fun h => (by cases h), fun ⟨k, h, _⟩ => by omega⟩
theorem SetD.fresh {D : List Nat} {i n : Nat} {R : Rows} (h : SetD D i n R) : rdue (i : Int) R = none := rdue_none.2 (fun x hx e => by
  obtain ⟨k, hk, rfl, _⟩ := (h x).1 hx
  simp only at e
  omega)
theorem SetD.set {D : List Nat} {i : Nat} {R : Rows} (h : SetD D i 0 R) (hd : D.getD i 0 ≤ TOP) : SetD D (i + 1) 0 (rset i (D.getD i 0) R) := by
  intro x
  rw [mem_rset, h x]
  constructor
  · rintro (rfl | ⟨⟨k, hk, e, h1, h2⟩, _⟩)
    · exact ⟨i, by omega, rfl, hd, Nat.zero_le _⟩
    · exact ⟨k, by omega, e, h1, h2⟩
  · rintro ⟨k, hk, rfl, h1, h2⟩
    by_cases hki : k = i
    · subst hki; exact .inl rfl
    · exact .inr ⟨⟨k, by omega, rfl, h1, h2⟩, by simp only; omega⟩
theorem SetD.skip {D : List Nat} {i : Nat} {R : Rows} (h : SetD D i 0 R) (hd : ¬ D.getD i 0 ≤ TOP) : SetD D (i + 1) 0 R := by
  intro x
  rw [h x]
  constructor
  · rintro ⟨k, hk, e, h1, h2⟩
    exact ⟨k, by omega, e, h1, h2⟩
  · rintro ⟨k, hk, rfl, h1, h2⟩
    by_cases hki : k = i
    · subst hki; exact absurd h1 hd
    · exact ⟨k, by omega, rfl, h1, h2⟩
theorem SetD.rest {D : List Nat} {i n t : Nat} {R : Rows} (h : SetD D i n R) (hr : RS R) (hn : n ≤ t + 1) : SetD D i (t + 1) (rrest t R) := by
  intro x
  rw [hr.mem_rest, h x]
  constructor
  · rintro ⟨⟨k, hk, rfl, h1, h2⟩, h3⟩
    exact ⟨k, hk, rfl, h1, h3⟩
  · rintro ⟨k, hk, rfl, h1, h2⟩
    exact ⟨⟨k, hk, rfl, h1, by omega⟩, h2⟩
theorem SetD.got {D : List Nat} {i n t : Nat} {R : Rows} (h : SetD D i n R) (hr : RS R) (ht : t ≤ TOP) (x : Int) : x ∈ rgot t R ↔ ∃ k : Nat, k < i ∧ x = (k : Int) ∧ n ≤ D.getD k 0 ∧ D.getD k 0 ≤ t := by
  rw [hr.mem_got]
  constructor
  · rintro ⟨d, hd, hle⟩
    obtain ⟨k, hk, e, h1, h2⟩ := (h _).1 hd
    cases e
    exact ⟨k, hk, rfl, h2, hle⟩
  · rintro ⟨k, hk, rfl, h1, h2⟩
    exact ⟨_, (h _).2 ⟨k, hk, rfl, by omega, h1⟩, h2⟩
theorem SetD.due {D : List Nat} {i n k : Nat} {R : Rows} (h : SetD D i n R) (hr : RS R) (hk : k < i) (h1 : n ≤ D.getD k 0) (h2 : D.getD k 0 ≤ TOP) : rdI R (k : Int) = D.getD k 0 := by
  unfold rdI
  rw [hr.due.2 ((h _).2 ⟨k, hk, rfl, h2, h1⟩)]
  rfl
/-- Was a timer told, where those before n were? -/
def toldB (D : List Nat) (n : Nat) (k : Int) : Bool := decide (0 ≤ k) && decide (k.toNat < D.length) && decide (D.getD k.toNat 0 < n)
theorem toldB_nat (D : List Nat) (n k : Nat) (hk : k < D.length) : toldB D n (k : Int) = decide (D.getD k 0 < n) := by simp [toldB, hk]
/-- The map of those told: those before n, and these. -/
def Told (D : List Nat) (n : Nat) (l : List Int) (L : List Ent) : Prop := ∀ k : Int, (mget k L).getD (.bool false) = .bool (toldB D n k || decide (k ∈ l))
theorem Told.nil (D : List Nat) : Told D 0 [] [] := fun k => by simp [mget, toldB]
theorem Told.put {D : List Nat} {n c : Nat} {l : List Int} {L : List Ent} (h : Told D n l L) (x : Int) : Told D n (l ++ [x]) (mput x (.bool true) c L) := by
  intro k
  rw [mget_mput]
  by_cases e : k = x
  · subst e; simp
  · rw [if_neg e, h k]; simp [e]
theorem Told.all {D : List Nat} {n t : Nat} {R : Rows} {L : List Ent} (h : Told D n (rgot t R) L) (hs : SetD D D.length n R) (hr : RS R) (ht : t ≤ TOP) (hn : n ≤ t + 1) : Told D (t + 1) [] L := by
  intro k
  rw [h k]
  congr 1
  rw [Bool.eq_iff_iff]
  simp only [Bool.or_eq_true, decide_eq_true_eq, List.not_mem_nil, or_false]
  unfold toldB
  simp only [Bool.and_eq_true, decide_eq_true_eq]
  rw [hs.got hr ht]
  constructor
  · rintro (⟨⟨h1, h2⟩, h3⟩ | ⟨j, hj, rfl, h1, h2⟩)
    · exact ⟨⟨h1, h2⟩, by omega⟩
    · rw [Int.toNat_natCast]
      exact ⟨⟨by omega, hj⟩, by omega⟩
  · rintro ⟨⟨h1, h2⟩, h3⟩
    by_cases hlt : D.getD k.toNat 0 < n
    · exact .inl ⟨⟨h1, h2⟩, hlt⟩
    · exact .inr ⟨k.toNat, h2, by omega, by omega, by omega⟩
theorem Told.look {w : World} {b clk n : Nat} {D : List Nat} {l : List Int} {L : List Ent} (h : Told D n l L) (hm : IMap w b clk L) (k : Int) : (Instr.lookup 45 (.map (some b)) (.int .i64 k) false).run Tryd.prog w = .ok (.bool (toldB D n k || decide (k ∈ l))) w := by
  have := (hm.run_lookup (P := Tryd.prog) (T := 45) (E := 4) (K := 3) Tryd.underlying45 Tryd.underlying3 (z := .bool false) (by kernel_rfl) k).1
  rw [h k] at this
  exact this
/-- What is told at place j, beside what was told ahead. -/
theorem SetD.told_at {D : List Nat} {n t : Nat} {R : Rows} (h : SetD D D.length n R) (hr : RS R) (ht : t ≤ TOP) {j : Nat} (hj : j < (rgot t R).length) :
    ∃ k : Nat, k < D.length ∧ (rgot t R).getD j 0 = (k : Int) ∧ D.getD k 0 ≤ t ∧ (toldB D n (k : Int) || decide ((k : Int) ∈ (rgot t R).take j)) = false ∧
      ∀ i, i + 1 = j → ∃ p : Nat, p < D.length ∧ (rgot t R).getD i 0 = (p : Int) ∧ (D.getD p 0 < D.getD k 0 ∨ D.getD p 0 = D.getD k 0 ∧ p < k) := by
  have hord := List.pairwise_iff_getElem.1 (hr.got_ord t)
  have hm : ∀ i (hi : i < (rgot t R).length), ∃ k : Nat, k < D.length ∧ (rgot t R)[i] = (k : Int) ∧ n ≤ D.getD k 0 ∧ D.getD k 0 ≤ t := fun i hi => (h.got hr ht _).1 (List.getElem_mem hi)
  have hd : ∀ i (hi : i < (rgot t R).length) (k : Nat), k < D.length → (rgot t R)[i] = (k : Int) → n ≤ D.getD k 0 → D.getD k 0 ≤ t → rdI R (rgot t R)[i] = D.getD k 0 := fun i hi k hk e h1 h2 => by rw [e]; exact h.due hr hk h1 (by omega)
  obtain ⟨k, hk, e, h1, h2⟩ := hm j hj
  have ek := hd j hj k hk e h1 h2
  refine ⟨k, hk, by simp [hj, e], h2, ?_, ?_⟩
  · rw [toldB_nat D n k hk]
    have hno : ¬ ((k : Int) ∈ (rgot t R).take j) := by
      intro hmem
      obtain ⟨i, hi, e2⟩ := List.getElem_of_mem hmem
      rw [List.length_take] at hi
      rw [List.getElem_take] at e2
      have := hord i j (by omega) hj (by omega)
      rw [e2, ← e] at this
      omega
    rw [decide_eq_false hno, Bool.or_false, decide_eq_false_iff_not]
    omega
  · intro i hi
    obtain ⟨p, hp, e2, p1, p2⟩ := hm i (by omega)
    have ep := hd i (by omega) p hp e2 p1 p2
    have := hord i j (by omega) hj (by omega)
    rw [ek, ep, e, e2] at this
    refine ⟨p, hp, by simp [show i < (rgot t R).length by omega, e2], ?_⟩
    omega
theorem goE_ok {n t : Nat} (h1 : n ≤ t) (h2 : t ≤ TOP) : goE n t = 0 := by unfold goE; rw [if_neg (by omega), if_neg (by omega)]
theorem goL_ok {n t : Nat} (h1 : n ≤ t) (h2 : t ≤ TOP) (R : Rows) : goL n t R = rgot t R ∧ goN n t = t ∧ goR n t R = rrest t R := by
  have e := goE_ok h1 h2
  unfold goL goN goR
  rw [if_pos e, if_pos e, if_pos e]
  exact ⟨rfl, rfl, rfl⟩
theorem RdN.by_map {w w' : World} {A : Option Addr} {l : List Int} {tb clk : Nat} {L : List Ent} (h : RdN w A l) (hm : IMap w tb clk L) (hk : Kp (fun b => b = tb) w w') : RdN w' A l := h.kp hk (fun b o cs _ hb e => hm.ne_bk hb e.symm)
theorem RdN.at_ {w : World} {A : Option Addr} {l : List Int} (h : RdN w A l) {j : Nat} (hj : j < l.length) : ∃ b o, A = some ⟨b, o, none⟩ ∧ ∀ i, i < l.length → w.cell? ⟨b, o + i, none⟩ = some (.int .i64 (l.getD i 0)) := by
  rcases h.1.2 with h | ⟨b, o, rfl, hc⟩
  · omega
  · exact ⟨b, o, rfl, hc⟩
theorem IMap.by_wx {w0 w w' : World} {tb clk : Nat} {L : List Ent} (h : IMap w tb clk L) (hk : Kp (FW w0 tb (tb + 1) w) w w') : IMap w' tb clk L := h.kept hk (fun hf => hf.1.2 ⟨Nat.le_refl _, Nat.lt_succ_self _⟩)
theorem Wx.by_map {w0 w w' : World} {tb g now : Nat} {R : Rows} (h : Wx w0 tb (tb + 1) w g now R) (h0 : w0.heap.size ≤ tb) (hk : Kp (fun b => b = tb) w w') : Wx w0 tb (tb + 1) w' g now R :=
  h.beside hk (fun b _ e => by omega) (fun b e => by omega)
theorem Wx.old {w0 w w' : World} {s1 s2 g now : Nat} {R : Rows} (h : Wx w0 s1 s2 w g now R) (hk : Kp (FW w0 s1 s2 w) w w') : Kp (fun _ => False) w0 w' := h.kp.trans hk (fun b hb hf => by have := hf.1.1; omega)
end Go.Proofs.YtdakkmaahgcjfaaDoor
