/- Place: strings.SplitSeq at one byte. -/
import Derived.Test.YtkafdpidhelfdaaDoorRfb
import Derived.Test.YtkafdpidhelfdaaDoorLda
import Derived.RangeFuncKeeps
import Derived.RangeFuncLeaves
import Derived.RangeFuncNested
import Derived.Shelf.Abstract
import Derived.WalkKit
import Derived.OwnWalkIn
import Derived.TacticsInMore
import Derived.LoopNIn
import Derived.LoopIn
set_option linter.unusedVariables false
set_option linter.unusedSimpArgs false
namespace Go.Proofs.YtkafdpidhelfdaaDoor
open Go.RowKit Go.Shelf
attribute [local go_sem] Oper.semAt_some

/-- A text's parts between its dots. -/
def dots : List UInt8 → List (List UInt8)
  | [] => [[]]
  | c :: r => if c = 46 then [] :: dots r else match dots r with | p :: ps => (c :: p) :: ps | [] => [[c]]
theorem dots_ne : ∀ l, dots l ≠ []
  | [] => by simp [dots]
  | c :: r => by
    unfold dots
    by_cases h : c = 46
    · rw [if_pos h]; simp
    · rw [if_neg h]; cases dots r <;> simp
theorem idx_ge (c : UInt8) : ∀ l, Lib.indexByte l c = -1 ∨ 0 ≤ Lib.indexByte l c
  | [] => .inl rfl
  | x :: r => by
    unfold Lib.indexByte
    rcases idx_ge c r with h | h
    all_goals
      by_cases hx : x = c
      all_goals simp [hx, h]
      all_goals (try omega)
/-- No dot. -/
theorem dots_none : ∀ l, Lib.indexByte l 46 < 0 → dots l = [l]
  | [], _ => rfl
  | x :: r, h => by
    have g := idx_ge 46 r
    unfold Lib.indexByte at h
    by_cases hx : x = 46
    · simp [hx] at h
    · rw [if_neg (by simpa using hx)] at h
      have hr : Lib.indexByte r 46 < 0 := by
        by_cases e : Lib.indexByte r 46 = -1
        · omega
        · rw [if_neg (by simpa using e)] at h; omega
      unfold dots
      rw [if_neg hx, dots_none r hr]
/-- The first dot. -/
theorem dots_at : ∀ l (i : Nat), Lib.indexByte l 46 = (i : Int) → i < l.length ∧ dots l = l.take i :: dots (l.drop (i + 1))
  | [], i, h => by
    unfold Lib.indexByte at h
    omega
  | x :: r, i, h => by
    have g := idx_ge 46 r
    unfold Lib.indexByte at h
    by_cases hx : x = 46
    · rw [if_pos (by simpa using hx)] at h
      obtain rfl : i = 0 := by omega
      refine ⟨by simp, ?_⟩
      rw [dots, if_pos hx]
      rfl
    · rw [if_neg (by simpa using hx)] at h
      by_cases e : Lib.indexByte r 46 = -1
      · rw [if_pos (by simpa using e)] at h; omega
      · rw [if_neg (by simpa using e)] at h
        cases i with
        | zero => omega
        | succ i =>
          obtain ⟨h1, h2⟩ := dots_at r i (by omega)
          refine ⟨by simpa using h1, ?_⟩
          rw [dots, if_neg hx, h2]
          rfl
theorem ext0 (l : List UInt8) (i : Nat) : (⟨l.toArray⟩ : ByteArray).extract 0 i = ⟨(l.take i).toArray⟩ := by
  apply ByteArray.ext
  simp
theorem ext1 (l : List UInt8) (i : Nat) : (⟨l.toArray⟩ : ByteArray).extract i l.length = ⟨(l.drop i).toArray⟩ := by
  apply ByteArray.ext
  simp
  exact List.take_of_length_le (by simp)
def strOf (w : World) (Bs : Nat) : Nat := match w.cell? ⟨Bs, 0, none⟩ with | some (.string s) => s.size | _ => 0
theorem strOf_eq {w : World} {Bs : Nat} {s : ByteArray} (h : w.cell? ⟨Bs, 0, none⟩ = some (.string s)) : strOf w Bs = s.size := by unfold strOf; rw [h]
/-- A part: a string within the bound. -/
abbrev PB := { x : ByteArray // x.size ≤ 2000 }
def mkP (p : List UInt8) : PB := if h : p.length ≤ 2000 then ⟨⟨p.toArray⟩, h⟩ else ⟨⟨#[]⟩, by decide⟩
theorem mkP_eq {p : List UInt8} {b : ByteArray} (hb : b = ⟨p.toArray⟩) (h : b.size ≤ 2000) : mkP p = ⟨b, h⟩ := by
  subst hb
  unfold mkP
  rw [dif_pos (show p.length ≤ 2000 from h)]
abbrev partsB (s : ByteArray) : List PB := (dots s.data.toList).map mkP
theorem kb_cell {Bs k : Nat} {A B : World} (h : KB Bs A B) (h1 : Bs ≤ k) (h2 : k < Bs + 3) {i : Nat} {v : Value} (hc : A.cell? ⟨k, i, none⟩ = some v) : B.cell? ⟨k, i, none⟩ = some v := (World.cell?_of_block (h k h1 h2)).trans hc
theorem kb_fr {Bs k : Nat} {A B : World} (h : KB Bs A B) (h1 : Bs ≤ k) (h2 : k < Bs + 3) {i : Nat} : B.frozen? ⟨k, i, none⟩ = A.frozen? ⟨k, i, none⟩ := World.frozen?_of_block (h k h1 h2)
set_option maxRecDepth 1000000 in
set_option maxHeartbeats 8000000 in
theorem split_box (n : Nat) (hn : 1 ≤ n) (Bs : Nat) (s : ByteArray) (w : World) (hs : s.size ≤ 2000) (hlt : Bs + 2 < w.heap.size)
    (c0 : w.cell? ⟨Bs, 0, none⟩ = some (.string s)) (f0 : w.frozen? ⟨Bs, 0, none⟩ = false) (c1 : w.cell? ⟨Bs + 1, 0, none⟩ = some (.string ⟨#[46]⟩)) (c2 : w.cell? ⟨Bs + 2, 0, none⟩ = some (.int .i64 0)) :
    SeqBox Fence.wide n Tryd.prog 55 #[.pointer (some ⟨Bs + 1, 0, none⟩), .pointer (some ⟨Bs, 0, none⟩), .pointer (some ⟨Bs + 2, 0, none⟩)] (fun x : PB => #[Value.string x.1]) Bs (fun xs => xs = partsB s) (fun pre => pre <+: partsB s) (partsB s).length w := by
  intro l J Jx W hW hJs hY h0
  have d0 := (hW.cell (p := ⟨Bs, 0, none⟩) (by show Bs < _; omega)).trans c0
  have e0 := (hW.frozen (p := ⟨Bs, 0, none⟩) (by show Bs < _; omega)).trans f0
  have d1 := (hW.cell (p := ⟨Bs + 1, 0, none⟩) (by show Bs + 1 < _; omega)).trans c1
  have d2 := (hW.cell (p := ⟨Bs + 2, 0, none⟩) (by show Bs + 2 < _; omega)).trans c2
  clear c0 c1 c2 f0 hW
  refine callsIn_of_wp Tryd.func55 rfl trivial ?_ rfl
  simp only [Tryd.ntmps55, List.size_toArray, List.length_cons, List.length_nil, Nat.reduceAdd, Nat.reduceSub, Array.replicate_succ, Array.replicate_zero, List.push_toArray, List.append_toArray, List.nil_append, List.cons_append]
  gi_wp2
  gi_loopw [7] (fun _ wr => ∃ (pre : List PB) (rest : List UInt8), partsB s = pre ++ (dots rest).map mkP ∧ rest.length ≤ 2000 ∧ wr.cell? ⟨Bs, 0, none⟩ = some (.string ⟨rest.toArray⟩) ∧ wr.frozen? ⟨Bs, 0, none⟩ = false ∧ wr.cell? ⟨Bs + 1, 0, none⟩ = some (.string ⟨#[46]⟩) ∧ wr.cell? ⟨Bs + 2, 0, none⟩ = some (.int .i64 0) ∧ J pre wr) (fun _ wr => strOf wr Bs)
  case atStart => exact ⟨[], s.data.toList, rfl, hs, d0, e0, d1, d2, h0⟩
  case round =>
    obtain ⟨pre, rest, hp, hl, g0, gf, g1, g2, hJ⟩ := hrel
    have HI := Lib.hid (callsIn_wide (n := n - 1).2 (Tryd.strings_Index_one ⟨rest.toArray⟩ 46 wr))
    clear d0 e0 d1 d2 h0
    rcases Int.lt_or_le (Lib.indexByte rest 46) 0 with hi | hi
    · have hd := dots_none rest hi
      rw [hd, List.map_cons, List.map_nil, mkP_eq (p := rest) (b := ⟨rest.toArray⟩) rfl hl] at hp
      obtain ⟨fn, tmps, assign, body, hy, hR⟩ := hY pre ⟨⟨rest.toArray⟩, hl⟩ wr hJ (by rw [hp]; simp)
      have HI : Hid (CallsIn Fence.wide (n - 1) Tryd.prog 57 #[.string ⟨rest.toArray⟩, .string ⟨#[46]⟩] wr fun e w' => e = .returned (.int .i64 (Lib.indexByte rest 46)) ∧ w' = wr) := HI
      generalize Lib.indexByte rest 46 = ix at *
      gi_wp2
      refine ⟨trivial, HI.out.mono ?_⟩
      rintro ev w1 ⟨rfl, hw1⟩
      obtain rfl : w1 = wr := hw1
      gi_wp2
      refine hR.mono ?_
      rintro e W3 (⟨rfl, hJ3, hk3⟩ | ⟨rfl, hJx3⟩)
      · gi_wp2
        go_end0
        exact ⟨⟨_, rfl⟩, .inl ⟨_, hp.symm ▸ rfl, hJ3⟩⟩
      · gi_wp2
        go_end0
        exact ⟨⟨_, rfl⟩, .inr ⟨_, ⟨[], by rw [hp]; simp⟩, hJx3⟩⟩
    · obtain ⟨i, hix⟩ : ∃ i : Nat, Lib.indexByte rest 46 = (i : Int) := ⟨(Lib.indexByte rest 46).toNat, by omega⟩
      obtain ⟨h1, hd⟩ := dots_at rest i hix
      have hx : ((⟨rest.toArray⟩ : ByteArray).extract 0 i).size ≤ 2000 := by
        rw [ext0]
        show (rest.take i).toArray.size ≤ 2000
        rw [List.size_toArray, List.length_take]
        omega
      rw [hd, List.map_cons, mkP_eq (p := rest.take i) (ext0 rest i) hx] at hp
      obtain ⟨fn, tmps, assign, body, hy, hR⟩ := hY pre ⟨(⟨rest.toArray⟩ : ByteArray).extract 0 i, hx⟩ wr hJ (by rw [hp]; simp)
      have wi : wrap64 (i : Int) = (i : Int) := IntWalk.wrap64_in _ (by omega)
      have wi1 : wrap64 ((i : Int) + 1) = (i : Int) + 1 := IntWalk.wrap64_in _ (by omega)
      have n1 : ¬ (i : Int) < 0 := by omega
      have n2 : (i : Int) ≤ (rest.length : Int) := by omega
      have n3 : (i : Int) + 1 ≤ (rest.length : Int) := by omega
      have HI : Hid (CallsIn Fence.wide (n - 1) Tryd.prog 57 #[.string ⟨rest.toArray⟩, .string ⟨#[46]⟩] wr fun e w' => e = .returned (.int .i64 (i : Int)) ∧ w' = wr) := by rw [← hix]; exact HI
      gi_wp2
      refine ⟨trivial, HI.out.mono ?_⟩
      rintro ev w1 ⟨rfl, hw1⟩
      obtain rfl : w1 = wr := hw1
      gi_wp2
      refine hR.mono ?_
      rintro e W3 (⟨rfl, hJ3, hk3⟩ | ⟨rfl, hJx3⟩)
      · have k0 := kb_cell hk3 (Nat.le_refl _) (by omega) g0
        have k1 := kb_cell hk3 (by omega) (by omega) g1
        have k2 := kb_cell hk3 (by omega) (by omega) g2
        have kf := (kb_fr hk3 (Nat.le_refl _) (by omega) (i := 0)).trans gf
        gi_wp2
        go_roundw
        case rel => exact ⟨pre ++ [_], rest.drop (i + 1), by rw [hp, List.append_assoc]; rfl, by rw [List.length_drop]; omega, by rw [World.cell?_setCell_same' _ _ _ (by rw [k0]; rfl)]; rw [← ext1], by rw [World.frozen?_setCell]; exact kf, (World.cell?_setCell_far _ _ _ _ (by simp)).trans k1, (World.cell?_setCell_far _ _ _ _ (by simp)).trans k2, hJs _ _ _ hJ3⟩
        case measure =>
          rw [strOf_eq (World.cell?_setCell_same' _ _ _ (by rw [k0]; rfl)), strOf_eq g0, ext1]
          show (rest.drop (i + 1)).toArray.size < rest.toArray.size
          rw [List.size_toArray, List.size_toArray, List.length_drop]
          omega
      · gi_wp2
        refine bodyPost_ret (results_none rfl _ _ _) rfl ?_
        exact ⟨⟨_, rfl⟩, .inr ⟨_, ⟨(dots (rest.drop (i + 1))).map mkP, by rw [hp, List.append_assoc]; rfl⟩, hJx3⟩⟩
end Go.Proofs.YtkafdpidhelfdaaDoor
