/- Cache: tokens told, plain; rows of calls as they lie. -/
import Derived.Test.YtgidjgkafbjkpaaGreatDoorCap
set_option linter.unusedVariables false
set_option linter.unusedSimpArgs false
namespace Go.Proofs.YtgidjgkafbjkpaaGreatDoor
open Go.RowKit

/-- A call. -/
structure Cl where
  (what tok : Int) (ip : Nat) (m : M6) (now : Nat)
instance : Inhabited Cl := ⟨⟨0, 0, 0, M0, 0⟩⟩
def clC (x : Cl) : Array Value := #[.int .i64 x.what, .int .i64 x.tok, .int .u32 (x.ip : Int), .int .u8 (x.m.a : Int), .int .u8 (x.m.b : Int), .int .u8 (x.m.c : Int), .int .u8 (x.m.d : Int), .int .u8 (x.m.e : Int), .int .u8 (x.m.f : Int), .int .u64 (x.now : Int)]
/-- A slice's cells are these calls. -/
def RdK (w : World) (A : Option Addr) (xs : List Cl) : Prop := xs.length ≤ 9223372036854775807 ∧ (xs.length = 0 ∨ ∃ b o, A = some ⟨b, o, none⟩ ∧ ∀ j, j < xs.length → ∀ k, k < 10 → w.cell? ⟨b, o + j * 10 + k, none⟩ = (clC (xs.getD j default))[k]?)
theorem RdK.at_ {w : World} {A : Option Addr} {xs : List Cl} (h : RdK w A xs) {j : Nat} (hj : j < xs.length) : ∃ b o, A = some ⟨b, o, none⟩ ∧ ∀ W, Kp (fun _ => False) w W → ∀ k, k < 10 → W.cell? ⟨b, o + j * 10 + k, none⟩ = (clC xs[j])[k]? := by
  rcases h.2 with h | ⟨b, o, e, hc⟩
  · omega
  · refine ⟨b, o, e, fun W hW k hk => ?_⟩
    have h1 := hc j hj k hk
    have e1 : xs.getD j default = xs[j] := by simp [hj]
    rw [e1] at h1
    have hlt : k < (clC xs[j]).size := hk
    rw [Array.getElem?_eq_getElem hlt] at h1 ⊢
    exact kp_kc0 h1 hW
theorem tokof_nd {l : List Rw} (hn : (toks l).Nodup) (i : Nat) : (tokof l i).Nodup := by
  unfold tokof
  cases hg : iget i l with
  | none => exact List.nodup_nil
  | some x =>
    have hs : x.v.Sublist (toks l) := by
      unfold toks
      rw [List.flatMap_def]
      exact List.sublist_flatten_of_mem (List.mem_map_of_mem (iget_mem hg).1)
    exact hs.nodup hn
theorem outs_nd {n : Nat} {l : List Rw} (hs : IS n l) (hn : (toks l).Nodup) : ∀ {L : List Nat}, L.Nodup → (outs L l).Nodup
  | [], _ => List.nodup_nil
  | i :: L, hL => by
    have e : outs (i :: L) l = tokof l i ++ outs L l := by simp [outs]
    rw [e, List.nodup_append]
    refine ⟨tokof_nd hn i, outs_nd hs hn (List.nodup_cons.1 hL).2, fun a ha b hb => ?_⟩
    rintro rfl
    obtain ⟨j, hj, ht⟩ := List.mem_flatMap.1 hb
    have := prs_uniq hn (tokof_sub hs ha) (tokof_sub hs ht)
    subst this
    exact (List.nodup_cons.1 hL).1 hj
/-- What is told, of these pairs; what is left. -/
structure Told (rows : List Rw) (T : List Int) (P : List (Int × Nat)) (ip : Option Nat) : Prop where
  nd : T.Nodup
  mem : ∀ (k : Nat) (h : k < T.length), ∃ i, (T[k], i) ∈ P ∧ (∀ j, ip = some j → i = j)
  fin : lessk T T.length P = prs rows
theorem Told.none_ (rows : List Rw) : Told rows [] (prs rows) none := ⟨List.nodup_nil, fun k h => absurd h (Nat.not_lt_zero _), lessk_zero _ _⟩
theorem Told.learn {n ip : Nat} {l : List Rw} (hs : IS n l) (hn : (toks l).Nodup) : Told (idel ip l) (tokof l ip) (prs l) (some ip) :=
  ⟨tokof_nd hn ip, fun k h => ⟨ip, tokof_sub hs (List.getElem_mem h), fun j e => by injection e⟩, (prs_learn hs hn).symm⟩
theorem Told.sweep {n t : Nat} {l : List Rw} {L : List Nat} (hs : IS n l) (hn : (toks l).Nodup) (hg : Got t l L) : Told (lft t l) (outs L l) (prs l) none := by
  obtain ⟨R, hR, hL⟩ := hg
  have hLn : L.Nodup := by
    have h1 := got_nd hR.rs t
    rw [← hL] at h1
    exact List.Pairwise.of_map (fun i : Nat => (i : Int)) (fun a b hne e => hne (by rw [e])) h1
  refine ⟨outs_nd hs hn hLn, fun k h => ?_, (prs_sweep hR hs hn hL).symm⟩
  obtain ⟨r, hr, hv, _⟩ := (mem_outs hR hs hL).1 (List.getElem_mem h)
  exact ⟨r.ip, mem_prs.2 ⟨r, hr, rfl, hv⟩, fun j e => by cases e⟩
theorem lessk_sub {T : List Int} {k : Nat} {P : List (Int × Nat)} {p : Int × Nat} (h : p ∈ lessk T k P) : p ∈ P := (List.mem_filter.1 h).1
theorem TW.nd_toks {WL : List Ent} {l : List Rw} (h : TW WL (prs l)) : (toks l).Nodup := by
  have := h.nd
  rwa [prs_toks] at this
theorem mem_toks_prs {l : List Rw} {t : Int} (h : t ∈ toks l) : ∃ i, (t, i) ∈ prs l := by
  obtain ⟨r, hr, ht⟩ := List.mem_flatMap.1 h
  exact ⟨r.ip, mem_prs.2 ⟨r, hr, rfl, ht⟩⟩
/-- Waiting, plain. -/
theorem wait_tw {v : CV} (h : VOK v) {ip now : Nat} {t : Int} {WL : List Ent} (ht : TW WL (prs v.rows)) (hn : ∀ p ∈ prs v.rows, p.1 ≠ t) :
    ((v.wait_ ip t now).2.2 = 18 ∧ (v.wait_ ip t now).1 = v) ∨
    ((v.wait_ ip t now).2.2 = 0 ∧ (v.wait_ ip t now).1.room = v.room ∧ (v.wait_ ip t now).1.wait = v.wait ∧ (v.wait_ ip t now).1.count ≤ v.count + 1 ∧ (∀ c, TW (mput t (.int .u32 (ip : Int)) c WL) (prs (v.wait_ ip t now).1.rows)) ∧ ∀ p ∈ prs (v.wait_ ip t now).1.rows, p ∈ prs v.rows ∨ p = (t, ip)) := by
  have hnt : t ∉ (prs v.rows).map Prod.fst := fun hm => by
    obtain ⟨p, hp, e⟩ := List.mem_map.1 hm
    exact hn p hp e
  unfold CV.wait_
  cases hg : iget ip v.rows with
  | some x =>
    dsimp only
    by_cases hl : v.wait ≤ x.v.length
    · rw [if_pos hl]; exact .inl ⟨rfl, rfl⟩
    · rw [if_neg hl]
      have hp := prs_iset h.rs hg t
      refine .inr ⟨rfl, rfl, rfl, Nat.le_succ _, fun c => (ht.put hnt ip c).perm hp.symm, fun p hp2 => ?_⟩
      rcases List.mem_append.1 (hp.mem_iff.1 hp2) with h1 | h1
      · exact .inl h1
      · rw [List.mem_singleton] at h1; exact .inr h1
  | none =>
    dsimp only
    by_cases hl : v.room ≤ v.rows.length
    · rw [if_pos hl]; exact .inl ⟨rfl, rfl⟩
    · rw [if_neg hl]
      have hp : prs (v.rows ++ [⟨ip, [t], v.count + 1, min now MT + v.pat⟩]) = prs v.rows ++ [(t, ip)] := by rw [prs_add]; rfl
      refine .inr ⟨rfl, rfl, rfl, Nat.le_refl _, fun c => ?_, fun p hp2 => ?_⟩
      · show TW _ (prs (v.rows ++ [⟨ip, [t], v.count + 1, min now MT + v.pat⟩]))
        rw [hp]
        exact ht.put hnt ip c
      · have hp2 : p ∈ prs (v.rows ++ [⟨ip, [t], v.count + 1, min now MT + v.pat⟩]) := hp2
        rw [hp] at hp2
        rcases List.mem_append.1 hp2 with h1 | h1
        · exact .inl h1
        · rw [List.mem_singleton] at h1; exact .inr h1
theorem toks_le_rw {v : CV} (h : VOK v) : (toks v.rows).length ≤ v.room * v.wait := by
  have h1 := toks_le (m := v.wait) (l := v.rows) h.vlen
  exact Nat.le_trans h1 (Nat.mul_le_mul_right _ h.rlen)
end Go.Proofs.YtgidjgkafbjkpaaGreatDoor
