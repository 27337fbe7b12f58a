/- Place: a Mac's text and its parts, plain. -/
import Derived.Test.YtkafdpidhelfdaaDoorPmf
import Derived.Lib.SplitLaws
import Derived.Lib.Join
import Derived.Lib.IndexBytes
set_option linter.unusedVariables false
set_option linter.unusedSimpArgs false
namespace Go.Proofs.YtkafdpidhelfdaaDoor
open Go.RowKit

theorem idx_none (c : UInt8) : ∀ a : List UInt8, c ∉ a → Lib.index a [c] = -1
  | [], _ => rfl
  | x :: r, h => by
    rw [List.mem_cons, not_or] at h
    have hp : ([c] : List UInt8).isPrefixOf (x :: r) = false := by simp [List.isPrefixOf, h.1]
    rw [Lib.index, hp, idx_none c r h.2]
    rfl
theorem idx_at (c : UInt8) (b : List UInt8) : ∀ a : List UInt8, c ∉ a → Lib.index (a ++ c :: b) [c] = (a.length : Int)
  | [], _ => by
    rw [List.nil_append, Lib.index]
    simp [List.isPrefixOf]
  | x :: r, h => by
    rw [List.mem_cons, not_or] at h
    have hp : ([c] : List UInt8).isPrefixOf (x :: (r ++ c :: b)) = false := by simp [List.isPrefixOf, h.1]
    rw [List.cons_append, Lib.index, hp, idx_at c b r h.2]
    have : (((r.length : Int)) == -1) = false := by rw [beq_eq_false_iff_ne]; omega
    simp [this]
theorem join_two (a b : List UInt8) (r : List (List UInt8)) (c : UInt8) : Lib.join (a :: b :: r) [c] = a ++ c :: Lib.join (b :: r) [c] := by
  unfold Lib.join
  simp [List.intercalate, List.intersperse]
/-- Cut at all signs: the parts that were joined. -/
theorem split_join (c : UInt8) : ∀ L : List (List UInt8), L ≠ [] → (∀ a ∈ L, c ∉ a) → Lib.splitK [c] 0 (Lib.count (Lib.join L [c]) [c]) (Lib.join L [c]) = L
  | [], h, _ => absurd rfl h
  | [a], _, h => by
    have e : Lib.join [a] [c] = a := by unfold Lib.join; simp [List.intercalate, List.intersperse]
    have hi := idx_none c a (h a (List.mem_singleton.2 rfl))
    rw [e, Lib.count_miss hi]
    rfl
  | a :: b :: r, _, h => by
    have hi := idx_at c (Lib.join (b :: r) [c]) a (h a (List.mem_cons_self ..))
    have ih := split_join c (b :: r) (by simp) (fun x hx => h x (List.mem_cons_of_mem _ hx))
    rw [join_two, Lib.count_hit (by simp) hi]
    have hd : (a ++ c :: Lib.join (b :: r) [c]).drop (a.length + [c].length) = Lib.join (b :: r) [c] := by
      rw [← List.drop_drop, List.drop_left]
      rfl
    have ht : (a ++ c :: Lib.join (b :: r) [c]).take (a.length + 0) = a := by simp
    rw [hd, show 1 + Lib.count (Lib.join (b :: r) [c]) [c] = Lib.count (Lib.join (b :: r) [c]) [c] + 1 by omega, Lib.splitK, if_neg (by rw [hi]; simp), hi]
    rw [Int.toNat_natCast, hd, ht, ih]
theorem two_58 : ∀ u < 256, (58 : UInt8) ∉ two u := by decide +kernel
/-- The parts of a Mac's text. -/
theorem mac_split {s : ByteArray} {ns : List Nat} (hl : ns.length = 6) (hn : ∀ x ∈ ns, x < 256) (hs : s.data.toList = macL ns) : (Lib.splitB ⟨#[58]⟩ 0 (Lib.countB s ⟨#[58]⟩) s).map (·.data.toList) = ns.map two := by
  rw [Lib.splitB_data]
  show Lib.splitK [58] 0 (Lib.count s.data.toList [58]) s.data.toList = _
  rw [hs]
  exact split_join 58 (ns.map two) (by cases ns with | nil => cases hl | cons => simp) (fun a ha => by
    obtain ⟨u, hu, rfl⟩ := List.mem_map.1 ha
    exact two_58 u (hn u hu))
theorem split_size (sep : ByteArray) : ∀ (k : Nat) (s : ByteArray) (p : ByteArray), p ∈ Lib.splitB sep 0 k s → p.size ≤ s.size
  | 0, s, p, h => by rcases List.mem_singleton.1 h with rfl; exact Nat.le_refl _
  | k + 1, s, p, h => by
    unfold Lib.splitB at h
    split at h
    · rcases List.mem_singleton.1 h with rfl; exact Nat.le_refl _
    · rcases List.mem_cons.1 h with rfl | h
      · rw [ByteArray.size_extract]; omega
      · have := split_size sep k _ p h
        rw [ByteArray.size_extract] at this
        omega
/-- The first k bytes are those of the text, if it is one. -/
def Gd (s : ByteArray) (k : Nat) (ms : List Nat) : Prop := ms.length = 6 ∧ (∀ x ∈ ms, x < 256) ∧ ∀ ns : List Nat, ns.length = 6 → (∀ x ∈ ns, x < 256) → s.data.toList = macL ns → ms.take k = ns.take k
/-- No Mac's text. -/
def NoMac (s : ByteArray) : Prop := ∀ ns : List Nat, ns.length = 6 → (∀ x ∈ ns, x < 256) → s.data.toList ≠ macL ns
/-- What ParseMac answers. -/
def PM (s : ByteArray) (v : Value) : Prop := (∃ a b c d e f : Nat, (a < 256 ∧ b < 256 ∧ c < 256 ∧ d < 256 ∧ e < 256 ∧ f < 256) ∧ s.data.toList = macL [a, b, c, d, e, f] ∧ v = .tuple #[macV a b c d e f, .int .i64 0]) ∨ (NoMac s ∧ v = .tuple #[macV 0 0 0 0 0 0, .int .i64 10])
theorem Gd.zero (s : ByteArray) : Gd s 0 [0, 0, 0, 0, 0, 0] := ⟨rfl, by simp, fun _ _ _ _ => rfl⟩
/-- Each part of the text tells its byte. -/
def Tells (s : ByteArray) (k : Nat) (o : Option Nat) : Prop := ∀ ns : List Nat, (hl : ns.length = 6) → (∀ x ∈ ns, x < 256) → s.data.toList = macL ns → o = some (ns.getD k 0)
theorem Gd.next {s : ByteArray} {k n : Nat} {ms : List Nat} (h : Gd s k ms) (hk : k < 6) (ht : Tells s k (some n)) (hn : n < 256) : Gd s (k + 1) (ms.set k n) := by
  obtain ⟨h1, h2, h3⟩ := h
  refine ⟨by rw [List.length_set]; exact h1, fun x hx => ?_, fun ns hl hb hs => ?_⟩
  · rcases List.mem_or_eq_of_mem_set hx with hx | rfl
    · exact h2 x hx
    · exact hn
  · have e := ht ns hl hb hs
    injection e with e
    rw [List.take_succ_eq_append_getElem (by rw [List.length_set]; omega), List.take_succ_eq_append_getElem (show k < ns.length by omega), List.take_set_of_le (Nat.le_refl _), h3 ns hl hb hs, List.getElem_set_self]
    rw [e]
    simp [List.getD, List.getElem?_eq_getElem (show k < ns.length by omega)]
theorem Tells.no {s : ByteArray} {k : Nat} (h : Tells s k none) : NoMac s := fun ns hl hb hs => by cases h ns hl hb hs
theorem Gd.full {s : ByteArray} {ms : List Nat} (h : Gd s 6 ms) (hne : macL ms ≠ s.data.toList) : NoMac s := fun ns hl hb hs => by
  have := h.2.2 ns hl hb hs
  rw [List.take_of_length_le (by rw [h.1]; omega), List.take_of_length_le (by omega)] at this
  subst this
  exact hne hs.symm
theorem Gd.lt {s : ByteArray} {k a b c d e f : Nat} (h : Gd s k [a, b, c, d, e, f]) : a < 256 ∧ b < 256 ∧ c < 256 ∧ d < 256 ∧ e < 256 ∧ f < 256 := by
  have := h.2.1
  simp only [List.mem_cons, List.not_mem_nil, or_false, forall_eq_or_imp, forall_eq] at this
  exact this
theorem PM.no {s : ByteArray} (h : NoMac s) : PM s (.tuple #[macV 0 0 0 0 0 0, .int .i64 10]) := .inr ⟨h, rfl⟩
theorem PM.yes {s : ByteArray} {k a b c d e f : Nat} (h : Gd s k [a, b, c, d, e, f]) (hs : s.data.toList = macL [a, b, c, d, e, f]) : PM s (.tuple #[macV a b c d e f, .int .i64 0]) := .inl ⟨a, b, c, d, e, f, h.lt, hs, rfl⟩
theorem mac_inj {ns ms : List Nat} (hl : ns.length = 6) (hb : ∀ x ∈ ns, x < 256) (kl : ms.length = 6) (kb : ∀ x ∈ ms, x < 256) (h : macL ns = macL ms) : ns = ms := by
  have e1 := mac_split (s := ⟨(macL ns).toArray⟩) hl hb rfl
  have e2 := mac_split (s := ⟨(macL ns).toArray⟩) kl kb h
  rw [e1] at e2
  have key : ∀ (l1 bs : List Nat), (∀ x ∈ l1, x < 256) → (∀ x ∈ bs, x < 256) → l1.map two = bs.map two → l1 = bs := by
    intro l1
    induction l1 with
    | nil => intro bs _ _ h; cases bs with | nil => rfl | cons => cases h
    | cons a r ih =>
      intro bs ha hb h
      cases bs with
      | nil => cases h
      | cons b t =>
        rw [List.map_cons, List.map_cons] at h
        injection h with h1 h2
        have q := hexv_two a (ha a (List.mem_cons_self ..))
        rw [h1, hexv_two b (hb b (List.mem_cons_self ..))] at q
        injection q with q
        rw [q, ih t (fun x hx => ha x (List.mem_cons_of_mem _ hx)) (fun x hx => hb x (List.mem_cons_of_mem _ hx)) h2]
  exact key ns ms hb kb e2
/-- Both answers are alike. -/
theorem PM.det {s : ByteArray} {v u : Value} (h : PM s v) (h' : PM s u) : v = u := by
  rcases h with ⟨a, b, c, d, e, f, hb, hs, rfl⟩ | ⟨hn, rfl⟩
  · rcases h' with ⟨a', b', c', d', e', f', hb', hs', rfl⟩ | ⟨hn', rfl⟩
    · have := mac_inj (ns := [a, b, c, d, e, f]) (ms := [a', b', c', d', e', f']) rfl (by simpa using hb) rfl (by simpa using hb') (hs.symm.trans hs')
      injection this with h0 this
      injection this with h1 this
      injection this with h2 this
      injection this with h3 this
      injection this with h4 this
      injection this with h5 this
      subst h0 h1 h2 h3 h4 h5
      rfl
    · exact absurd hs (hn' _ rfl (by simpa using hb))
  · rcases h' with ⟨a', b', c', d', e', f', hb', hs', rfl⟩ | ⟨hn', rfl⟩
    · exact absurd hs' (hn _ rfl (by simpa using hb'))
    · rfl
theorem PM.of {s : ByteArray} {v : Value} {a b c d e f : Nat} (h : PM s v) (hb : a < 256 ∧ b < 256 ∧ c < 256 ∧ d < 256 ∧ e < 256 ∧ f < 256) (hs : s.data.toList = macL [a, b, c, d, e, f]) : v = .tuple #[macV a b c d e f, .int .i64 0] :=
  h.det (.inl ⟨a, b, c, d, e, f, hb, hs, rfl⟩)
end Go.Proofs.YtkafdpidhelfdaaDoor
