/- Place: what start-up code has laid, and the texts' own words. -/
import Derived.Test.YtkafdpidhelfdaaDoorPnd
import Derived.Test.YtkafdpidhelfdaaDoorPsi
import Derived.Sort.Grow
set_option linter.unusedVariables false
set_option linter.unusedSimpArgs false
namespace Go.Proofs.YtkafdpidhelfdaaDoor
open Go.RowKit

/-- What start-up code has laid, as far as the texts read it. -/
structure Laid (w : World) : Prop where
  syn : ∃ ev, w.cell? ⟨0, 0, none⟩ = some ev ∧ (ev = .nilIface ∨ ∃ te pe, ev = .iface te pe)
  rng : ∃ ev, w.cell? ⟨1, 0, none⟩ = some ev ∧ (ev = .nilIface ∨ ∃ te pe, ev = .iface te pe)
  max : ∃ m : Int, w.cell? ⟨5, 0, none⟩ = some (.int .i64 m)
  pow : Lib.TabIs Tryd.prog w "internal/strconv.uint64pow10" .u64 Lib.pow10Tab
theorem tab_kp {w w' : World} {n : String} {k : IntKind} {zs : List Int} (h : Lib.TabIs Tryd.prog w n k zs) (hk : Kp (fun _ => False) w w') : Lib.TabIs Tryd.prog w' n k zs := by
  unfold Lib.TabIs World.var? at h ⊢
  cases hg : Tryd.prog.globalNamed n with
  | none => rw [hg] at h; cases h
  | some g =>
    rw [hg] at h
    simp only [Option.bind_some] at h ⊢
    by_cases hlt : g < w.heap.size
    · rw [hk.block g hlt (fun f => f)]; exact h
    · rw [Array.getElem?_eq_none (by omega)] at h; cases h
theorem Laid.keep {w w' : World} (h : Laid w) (hk : Kp (fun _ => False) w w') : Laid w' := by
  obtain ⟨⟨e0, h0, h0'⟩, ⟨e1, h1, h1'⟩, ⟨m, hm⟩, hp⟩ := h
  exact ⟨⟨e0, kp_kc0 h0 hk, h0'⟩, ⟨e1, kp_kc0 h1 hk, h1'⟩, ⟨m, kp_kc0 hm hk⟩, tab_kp hp hk⟩
theorem kp_grow (w : World) (q : Nat) (os : Array Obj) : Kp (fun _ => False) w (Sort.grow (w.drewN q) os) := by
  refine ⟨rfl, rfl, rfl, ?_, fun k hk _ => ?_⟩
  · show w.heap.size ≤ (w.heap ++ os).size
    rw [Array.size_append]; omega
  · show (w.heap ++ os)[k]? = w.heap[k]?
    rw [Array.getElem?_append_left hk]
/-- An Ip's four bytes. -/
def ds (ip : Nat) : List Nat := [ip / 16777216 % 256, ip / 65536 % 256, ip / 256 % 256, ip % 256]
/-- An Ip's text. -/
def textL (ip : Nat) : List UInt8 := Lib.join ((ds ip).map Lib.decDigits) [46]
abbrev strV (l : List UInt8) : Value := .string ⟨l.toArray⟩
theorem ds_lt {ip k : Nat} (h : k < 4) : (ds ip).getD k 0 < 256 := by
  rcases (show k = 0 ∨ k = 1 ∨ k = 2 ∨ k = 3 by omega) with rfl | rfl | rfl | rfl
  all_goals
    show _ % 256 < 256
    omega
theorem dec_len : ∀ n < 256, (Lib.decDigits n).length ≤ 3 := by decide +kernel
theorem text_len (ip : Nat) : (textL ip).length ≤ 15 := by
  have h0 := dec_len _ (Nat.mod_lt (ip / 16777216) (show 256 > 0 by omega))
  have h1 := dec_len _ (Nat.mod_lt (ip / 65536) (show 256 > 0 by omega))
  have h2 := dec_len _ (Nat.mod_lt (ip / 256) (show 256 > 0 by omega))
  have h3 := dec_len _ (Nat.mod_lt ip (show 256 > 0 by omega))
  unfold textL ds Lib.join
  simp only [List.map_cons, List.map_nil, List.intercalate, List.intersperse, List.flatten_cons, List.flatten_nil, List.length_append, List.length_cons, List.length_nil]
  omega
end Go.Proofs.YtkafdpidhelfdaaDoor
