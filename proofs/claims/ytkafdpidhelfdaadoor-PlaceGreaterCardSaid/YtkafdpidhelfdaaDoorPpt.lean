/- Place: both Parses answer alike, plain. -/
import Derived.Test.YtkafdpidhelfdaaDoorPnv
import Derived.Test.YtkafdpidhelfdaaDoorPsr
set_option linter.unusedVariables false
set_option linter.unusedSimpArgs false
namespace Go.Proofs.YtkafdpidhelfdaaDoor
open Go.RowKit

theorem dec_nodot : ∀ n < 256, (46 : UInt8) ∉ Lib.decDigits n := by decide +kernel
theorem dec_part : ∀ n < 256, part8 (Lib.decDigits n) = some n := by decide +kernel
def dval (l : List UInt8) (p : Nat) : Nat := l.foldl (fun p c => (p * 10 + (c.toNat - 48)) % 4294967296) p
theorem dec_val : ∀ n < 256, dval (Lib.decDigits n) 0 = n := by decide +kernel
theorem dec_dig : ∀ n < 256, ∀ c ∈ Lib.decDigits n, ¬ (c.toNat < 48 ∨ 57 < c.toNat) ∧ c ≠ 46 := by decide +kernel
theorem dots_one : ∀ a : List UInt8, (46 : UInt8) ∉ a → dots a = [a]
  | [], _ => rfl
  | c :: r, h => by
    rw [List.mem_cons, not_or] at h
    unfold dots
    rw [if_neg (fun e => h.1 e.symm), dots_one r h.2]
theorem dots_cut : ∀ (a b : List UInt8), (46 : UInt8) ∉ a → dots (a ++ 46 :: b) = a :: dots b
  | [], b, _ => by
    show dots (46 :: b) = _
    rw [dots, if_pos rfl]
  | c :: r, b, h => by
    rw [List.mem_cons, not_or] at h
    rw [List.cons_append, dots, if_neg (fun e => h.1 e.symm), dots_cut r b h.2]
theorem text_eq (ip : Nat) : textL ip = Lib.decDigits (ip / 16777216 % 256) ++ 46 :: (Lib.decDigits (ip / 65536 % 256) ++ 46 :: (Lib.decDigits (ip / 256 % 256) ++ 46 :: Lib.decDigits (ip % 256))) := by
  unfold textL ds Lib.join
  simp [List.intercalate, List.intersperse]
theorem text_dots (ip : Nat) : dots (textL ip) = [Lib.decDigits (ip / 16777216 % 256), Lib.decDigits (ip / 65536 % 256), Lib.decDigits (ip / 256 % 256), Lib.decDigits (ip % 256)] := by
  rw [text_eq, dots_cut _ _ (dec_nodot _ (Nat.mod_lt _ (by omega))), dots_cut _ _ (dec_nodot _ (Nat.mod_lt _ (by omega))), dots_cut _ _ (dec_nodot _ (Nat.mod_lt _ (by omega))), dots_one _ (dec_nodot _ (Nat.mod_lt _ (by omega)))]
theorem mkP_list {p : List UInt8} (h : p.length ≤ 2000) : (mkP p).1.data.toList = p := by
  unfold mkP
  rw [dif_pos h]
theorem or_lt {a n : Nat} (h : n < 256) : a * 256 ||| n = a * 256 + n := by
  have := Nat.two_pow_add_eq_or_of_lt (i := 8) (show n < 2 ^ 8 from h) a
  rw [Nat.mul_comm a 256]
  exact this.symm
theorem pstep_dec {ip n : Nat} (h : n < 256) : pstep (some ip) (mkP (Lib.decDigits n)) = some (ip * 256 % 4294967296 ||| n) := by
  unfold pstep
  rw [mkP_list (Nat.le_trans (dec_len n h) (by omega)), dec_part n h]
theorem text_pfold {ip : Nat} (hip : ip < 4294967296) {s : ByteArray} (hs : s.data.toList = textL ip) : pfold (partsB s) = some ip := by
  unfold partsB
  rw [hs, text_dots]
  have h0 : ip / 16777216 % 256 < 256 := Nat.mod_lt _ (by omega)
  have h1 : ip / 65536 % 256 < 256 := Nat.mod_lt _ (by omega)
  have h2 : ip / 256 % 256 < 256 := Nat.mod_lt _ (by omega)
  have h3 : ip % 256 < 256 := Nat.mod_lt _ (by omega)
  have e : (ip / 16777216 % 256) = ip / 16777216 := by omega
  have key : ∀ a b c d : Nat, a < 256 → b < 256 → c < 256 → d < 256 → (((0 * 256 % 4294967296 ||| a) * 256 % 4294967296 ||| b) * 256 % 4294967296 ||| c) * 256 % 4294967296 ||| d = ((a * 256 + b) * 256 + c) * 256 + d := by
    intro a b c d ha hb hc hd
    rw [show 0 * 256 % 4294967296 = 0 * 256 by rfl, or_lt ha]
    rw [show (0 * 256 + a) * 256 % 4294967296 = a * 256 by omega, or_lt hb]
    rw [show (a * 256 + b) * 256 % 4294967296 = (a * 256 + b) * 256 by omega, or_lt hc]
    rw [show ((a * 256 + b) * 256 + c) * 256 % 4294967296 = ((a * 256 + b) * 256 + c) * 256 by omega, or_lt hd]
  unfold pfold
  simp only [List.map_cons, List.map_nil, List.foldl_cons, List.foldl_nil]
  rw [pstep_dec h0, pstep_dec h1, pstep_dec h2, pstep_dec h3, key _ _ _ _ h0 h1 h2 h3]
  refine congrArg some ?_
  omega
theorem fold_dig (m : Nat) : ∀ (l : List UInt8) (p : Nat), (∀ c ∈ l, ¬ (c.toNat < 48 ∨ 57 < c.toNat) ∧ c ≠ 46) → l.foldl rstep (some (m, p)) = some (m, dval l p)
  | [], p, _ => rfl
  | c :: r, p, h => by
    obtain ⟨h1, h2⟩ := h c (List.mem_cons_self ..)
    rw [List.foldl_cons, show rstep (some (m, p)) c = some (m, (p * 10 + (c.toNat - 48)) % 4294967296) from (if_neg h2).trans (if_neg h1)]
    exact fold_dig m r _ (fun c hc => h c (List.mem_cons_of_mem _ hc))
theorem fold_dec (m n : Nat) (h : n < 256) (r : List UInt8) : (Lib.decDigits n ++ r).foldl rstep (some (m, 0)) = r.foldl rstep (some (m, n)) := by
  rw [List.foldl_append, fold_dig m _ 0 (dec_dig n h), dec_val n h]
theorem fold_dot (m n : Nat) (r : List UInt8) : (46 :: r).foldl rstep (some (m, n)) = r.foldl rstep (some ((m * 256 + n) % 4294967296, 0)) := by
  rw [List.foldl_cons]
  congr 1
theorem text_rfold {ip : Nat} (hip : ip < 4294967296) : ∃ n p, rfold ((textL ip).take 15) = some (n, p) ∧ (n * 256 + p) % 4294967296 = ip := by
  rw [List.take_of_length_le (text_len ip), text_eq]
  have h0 : ip / 16777216 % 256 < 256 := Nat.mod_lt _ (by omega)
  have h1 : ip / 65536 % 256 < 256 := Nat.mod_lt _ (by omega)
  have h2 : ip / 256 % 256 < 256 := Nat.mod_lt _ (by omega)
  have h3 : ip % 256 < 256 := Nat.mod_lt _ (by omega)
  unfold rfold
  rw [fold_dec _ _ h0, fold_dot, fold_dec _ _ h1, fold_dot, fold_dec _ _ h2, fold_dot, fold_dig _ _ _ (dec_dig _ h3), dec_val _ h3]
  exact ⟨_, _, rfl, by omega⟩
theorem pfold_lt {l : List PB} {v : Nat} (h : pfold l = some v) : v < 4294967296 := by
  rcases List.eq_nil_or_concat l with rfl | ⟨pre, x, rfl⟩
  · injection h with h; omega
  · rw [List.concat_eq_append, pfold_snoc] at h
    unfold pstep at h
    split at h
    · rename_i ip n _ hn
      injection h with h
      have := step_lt (ip := ip) (part8_lt hn)
      omega
    · cases h
/-- What both answer: the Ip whose text it is, if there is one. -/
theorem parseV_yes {ip : Nat} (hip : ip < 4294967296) {s : ByteArray} (hs : s.data.toList = textL ip) : parseV s = .tuple #[.int .u32 (ip : Int), .int .i64 0] := by
  unfold parseV
  rw [text_pfold hip hs]
  exact if_pos hs.symm
theorem parseV_no {s : ByteArray} (h : ∀ ip, ip < 4294967296 → s.data.toList ≠ textL ip) : parseV s = .tuple #[.int .u32 0, .int .i64 10] := by
  unfold parseV
  cases hp : pfold (partsB s) with
  | none => rfl
  | some ip => exact if_neg (fun e => h ip (pfold_lt hp) e.symm)
theorem rparseV_yes {ip : Nat} (hip : ip < 4294967296) {s : ByteArray} (hs : s.data.toList = textL ip) : rparseV s = .tuple #[.int .u32 (ip : Int), .int .i64 0] := by
  obtain ⟨n, p, h1, h2⟩ := text_rfold hip
  unfold rparseV
  rw [hs, h1]
  show (if textL ((n * 256 + p) % 4294967296) = textL ip then _ else _) = _
  rw [h2, if_pos rfl]
theorem rparseV_no {s : ByteArray} (h : ∀ ip, ip < 4294967296 → s.data.toList ≠ textL ip) : rparseV s = .tuple #[.int .u32 0, .int .i64 10] := by
  unfold rparseV
  cases hp : rfold (s.data.toList.take 15) with
  | none => rfl
  | some x => exact if_neg (fun e => h _ (Nat.mod_lt _ (by omega)) e.symm)
theorem parse_alike (s : ByteArray) : parseV s = rparseV s := by
  by_cases h : ∃ ip, ip < 4294967296 ∧ s.data.toList = textL ip
  · obtain ⟨ip, h1, h2⟩ := h
    rw [parseV_yes h1 h2, rparseV_yes h1 h2]
  · have h' : ∀ ip, ip < 4294967296 → s.data.toList ≠ textL ip := fun ip h1 h2 => h ⟨ip, h1, h2⟩
    rw [parseV_no h', rparseV_no h']
end Go.Proofs.YtkafdpidhelfdaaDoor
