/- Numbers of words. -/
import Derived.Test.YtconpcnmccmbiaaDoorWm
import Derived.Test.YtconpcnmccmbiaaDoorPWhyWordsx1
import Derived.IntWalk
namespace Go.Proofs.YtconpcnmccmbiaaDoor
open Go.RowKit Go.Proofs.YtconpcnmccmbiaaDoorW.PrintWords

/-- The words. -/
def wordsW : List ByteArray := (PWhyChains.why_words.f).getD []
theorem wordsW_len : wordsW.length = 20 := by decide +kernel
theorem words_f : PWhyChains.why_words.f = some wordsW := rfl
theorem rwords_f : PWhyWords.vizardref02_words.f = some wordsW := rfl
/-- The first word from the j-th on, of d, that is x; -1: none. -/
def firstW (x : List UInt8) : Nat → Nat → Int
  | _, 0 => -1
  | j, d + 1 => if (rdOf ByteArray.empty wordsW (j : Int)).toList = x then (j : Int) else firstW x (j + 1) d
theorem firstW_ge (x : List UInt8) : ∀ d j, firstW x j d = -1 ∨ (j : Int) ≤ firstW x j d
  | 0, _ => .inl rfl
  | d + 1, j => by
    unfold firstW
    split
    · exact .inr (Int.le_refl _)
    · rcases firstW_ge x d (j + 1) with h | h
      · exact .inl h
      · exact .inr (by omega)
theorem wrap64_small {j : Nat} (h : j ≤ 30) : wrap64 ((j : Int) + 1) = ((j + 1 : Nat) : Int) := by
  unfold wrap64
  omega
theorem index_f (a : ByteArray) : ∀ (d j k : Nat), j + d = 20 → d < k → PWhyChains.slices_Index_string_string.l0 k wordsW a 20 (j : Int) = some (firstW a.toList j d)
  | 0, j, k + 1, h, _ => by
    unfold PWhyChains.slices_Index_string_string.l0
    rw [if_neg (by omega)]
    rfl
  | d + 1, j, k + 1, h, hk => by
    unfold PWhyChains.slices_Index_string_string.l0
    rw [if_pos (by omega), if_pos (by omega), if_pos (by rw [wordsW_len]; omega), wrap64_small (by omega), index_f a d (j + 1) k (by omega) (by omega)]
    show _ = some (if _ then _ else _)
    by_cases hx : a.toList = (rdOf ByteArray.empty wordsW (j : Int)).toList
    · rw [if_pos hx, if_pos hx.symm]
    · rw [if_neg hx, if_neg (fun hh => hx hh.symm)]
theorem rnumber_f (a : ByteArray) : ∀ (d j k : Nat), 1 ≤ j → j + d = 20 → d < k → PWhyWords.vizardref02_Number.l0 k a (j : Int) = some (if firstW a.toList j d < 1 then (0, false) else (firstW a.toList j d, true))
  | 0, j, k + 1, h1, h, _ => by
    unfold PWhyWords.vizardref02_Number.l0
    rw [if_neg (by omega)]
    rfl
  | d + 1, j, k + 1, h1, h, hk => by
    unfold PWhyWords.vizardref02_Number.l0
    rw [if_pos (by omega), rwords_f]
    show (if _ then _ else _) = _
    rw [if_pos (show (j : Int) < (wordsW.length : Int) by rw [wordsW_len]; omega), wrap64_small (by omega), rnumber_f a d (j + 1) k (by omega) (by omega) (by omega)]
    by_cases hx : (rdOf ByteArray.empty wordsW (j : Int)).toList = a.toList
    · have : firstW a.toList j (d + 1) = (j : Int) := by unfold firstW; rw [if_pos hx]
      rw [if_pos hx, this, if_neg (by omega)]
    · have : firstW a.toList j (d + 1) = firstW a.toList (j + 1) d := by rw [firstW, if_neg hx]
      rw [if_neg hx, this]
/-- What both say of a word. -/
def numW (a : ByteArray) : Int × Bool := if firstW a.toList 1 19 < 1 then (0, false) else (firstW a.toList 1 19, true)
theorem number_f (a : ByteArray) : PWhyChains.why_Number.f 100 a = some (numW a) := by
  unfold PWhyChains.why_Number.f PWhyChains.slices_Index_string_string.f
  rw [words_f]
  show (PWhyChains.slices_Index_string_string.l0 100 wordsW a (wordsW.length : Int) 0).bind _ = _
  rw [wordsW_len]
  have h := index_f a 20 0 100 rfl (by omega)
  rw [show (((20 : Nat) : Int)) = 20 from rfl]
  rw [show ((0 : Nat) : Int) = 0 from rfl] at h
  rw [h]
  show (if firstW a.toList 0 20 < 1 then some (0, false) else some (firstW a.toList 0 20, true)) = _
  unfold numW
  by_cases hx : (rdOf ByteArray.empty wordsW ((0 : Nat) : Int)).toList = a.toList
  · have h0 : a.toList = [] := by rw [← hx]; decide +kernel
    rw [h0]
    decide +kernel
  · have : firstW a.toList 0 20 = firstW a.toList 1 19 := by rw [firstW, if_neg hx]
    rw [this]
    split <;> rfl
theorem rnum_f (a : ByteArray) : PWhyWords.vizardref02_Number.f 100 a = some (numW a) := by
  have h := rnumber_f a 19 1 100 (by omega) rfl (by omega)
  exact h
theorem numW_known {r : Int} (h : knownR r = true) : numW (wordB r) = (r, true) := by
  rcases known_cases h with rfl | rfl | rfl | rfl | rfl | rfl | rfl | rfl | rfl | rfl | rfl | rfl | rfl | rfl | rfl | rfl | rfl | rfl | rfl <;> decide +kernel
theorem numW_none : numW ⟨#[]⟩ = (0, false) := by decide +kernel
theorem num_any (a : ByteArray) (w : World) : Calls Tryd.prog 37 #[.string a] w fun ev w' => ev = .returned (.tuple #[.int .i64 (numW a).1, .bool (numW a).2]) ∧ Kp (fun _ => False) w w' :=
  number_any a (numW a).1 (numW a).2 w (number_f a)
theorem rnum_any (a : ByteArray) (w : World) : Calls Tryd.prog 38 #[.string a] w fun ev w' => ev = .returned (.tuple #[.int .i64 (numW a).1, .bool (numW a).2]) ∧ Kp (fun _ => False) w w' :=
  (PWhyWords.vizardref02_Number.calls 100 a (numW a).1 (numW a).2 w (rnum_f a)).mono fun _ _ ⟨h1, h2⟩ => ⟨h1, Kp.of_below h2 _⟩
theorem rword_any (r : Int) (w : World) : Calls Tryd.prog 42 #[.int .i64 r] w fun ev w' => ev = .returned (.string (wordB r)) ∧ Kp (fun _ => False) w w' :=
  (PWhyChains.vizardref02_Word.calls r (wordB r) w (rword_f r)).mono fun _ _ ⟨h1, h2⟩ => ⟨h1, Kp.of_below h2 _⟩
theorem rof_any (e : Int) (w : World) : Calls Tryd.prog 40 #[.int .i64 e] w fun ev w' => ev = .returned (.int .i64 (ofE e)) ∧ Kp (fun _ => False) w w' :=
  (PWhyChains.vizardref02_Of.calls e (ofE e) w (rof_f e)).mono fun _ _ ⟨h1, h2⟩ => ⟨h1, by obtain ⟨n, rfl⟩ := h2; exact (Kp.refl _ _).drewN n⟩

set_option maxRecDepth 100000 in
set_option maxHeartbeats 8000000 in
theorem words_walk (e r : Int) (s : ByteArray) (w : World) (hE : Et w) :
    Calls Tryd.prog 8 #[.int .i64 e, .int .i64 r, .string s] w fun ev w' => ev = .returned (.bool true) ∧ Kp (fun _ => False) w w' := by
  have HE := Lib.hid hE
  clear hE
  by_cases hs : (1000 : Int) < (s.size : Int)
  · go_enter Tryd.func8, Tryd.ntmps8
    go_wp2_with fail
    refine (alive02 _ HE.out).mono ?_
    rintro ev w1 ⟨rfl, k1⟩
    go_wp2_with fail
    go_ret
    exact ⟨rfl, k1⟩
  have hn1 := number_f (wordB r)
  obtain ⟨n, m, hnm⟩ : ∃ n m, numW s = (n, m) := ⟨_, _, rfl⟩
  have hcase : numW (wordB r) = (r, true) ∧ (wordB r).toList.isEmpty = false ∧ ¬ (wordB r).toList = [] ∨ wordB r = ⟨#[]⟩ := by
    cases h : knownR r with
    | true => exact .inl ⟨numW_known h, by cases hh : (wordB r).toList with | nil => exact absurd hh (wordB_known h) | cons a l => rfl, wordB_known h⟩
    | false => exact .inr (wordB_none h)
  generalize hW : wordB r = W at hcase
  generalize hO : ofE e = O
  have HW := Lib.hid hW
  have HO := Lib.hid hO
  have Hnm := Lib.hid hnm
  have Hcase := Lib.hid hcase
  clear hn1 hnm hcase hW hO
  go_enter Tryd.func8, Tryd.ntmps8
  go_wp2_with fail
  refine (alive02 _ HE.out).mono ?_
  rintro ev w1 ⟨rfl, k1⟩
  have K1 := Lib.hid k1
  clear k1
  go_wp2_with fail
  refine (num_any s _).mono ?_
  rw [Hnm.out]
  rintro ev w2 ⟨rfl, k2⟩
  have K2 := Lib.hid (K1.out.trans' k2)
  clear k2
  go_wp2_with fail
  refine (rnum_any s _).mono ?_
  rw [Hnm.out]
  rintro ev w3 ⟨rfl, k3⟩
  have K3 := Lib.hid (K2.out.trans' k3)
  clear k3
  go_wp2_with fail
  refine (of_any e _).mono ?_
  rw [HO.out]
  rintro ev w4 ⟨rfl, k4⟩
  have K4 := Lib.hid (K3.out.trans' k4)
  clear k4
  go_wp2_with fail
  refine (rof_any e _).mono ?_
  rw [HO.out]
  rintro ev w5 ⟨rfl, k5⟩
  have K5 := Lib.hid (K4.out.trans' k5)
  clear k5
  go_wp2_with fail
  refine (word_any r _).mono ?_
  rw [HW.out]
  rintro ev w6 ⟨rfl, k6⟩
  have K6 := Lib.hid (K5.out.trans' k6)
  clear k6
  go_wp2_with fail
  refine (rword_any r _).mono ?_
  rw [HW.out]
  rintro ev w7 ⟨rfl, k7⟩
  have K7 := Lib.hid (K6.out.trans' k7)
  clear k7
  go_wp2_with fail
  refine (word_any r _).mono ?_
  rw [HW.out]
  rintro ev w8 ⟨rfl, k8⟩
  have K8 := Lib.hid (K7.out.trans' k8)
  clear k8
  rcases Hcase.out with ⟨hw, hne, hne2⟩ | rfl
  · have Hw := Lib.hid hw
    have Hne2 := Lib.hid hne2
    clear hw hne hne2
    go_wp2_with fail
    refine (num_any W _).mono ?_
    rw [Hw.out]
    rintro ev w9 ⟨rfl, k9⟩
    have K9 := Lib.hid (K8.out.trans' k9)
    clear k9
    have hq : (W.toList == ([] : List UInt8)) = false := beq_eq_false_iff_ne.2 Hne2.out
    have hq2 : (W.toList != ([] : List UInt8)) = true := bne_iff_ne.2 Hne2.out
    have hq3 := Hne2.out
    have hq4 : W.toList.isEmpty = false := by cases hh : W.toList with | nil => exact absurd hh hq3 | cons a l => rfl
    go_wp2_with fail
    refine (word_any r _).mono ?_
    rw [HW.out]
    rintro ev w10 ⟨rfl, k10⟩
    have K10 := Lib.hid (K9.out.trans' k10)
    clear k10
    go_wp2_with fail
    go_ret
    exact ⟨ret_bool (by simp), K10.out⟩
  · go_wp2_with fail
    refine (num_any _ _).mono ?_
    rw [numW_none]
    rintro ev w9 ⟨rfl, k9⟩
    have K9 := Lib.hid (K8.out.trans' k9)
    clear k9
    go_wp2_with fail
    refine (word_any r _).mono ?_
    rw [HW.out]
    rintro ev w10 ⟨rfl, k10⟩
    have K10 := Lib.hid (K9.out.trans' k10)
    clear k10
    go_wp2_with fail
    go_ret
    exact ⟨rfl, K10.out⟩
end Go.Proofs.YtconpcnmccmbiaaDoor
