/- The reference's Give. -/
import Derived.Test.YtconpcnmccmbiaaDoorQd
import Derived.Deep.RegionHeld3
import Derived.Deep.DrawnRows
namespace Go.Proofs.YtconpcnmccmbiaaDoor
open Go.RowKit

/-- append to a row of the call's own, as a step of a region that draws. -/
theorem step_app {P : Program} {w : World} {ops : Array Oper} {o : Oper} {a : Act} {K : Act → World → Prop} {Q : Exit → Act → World → Prop} {E : Prop} (hgd : o.guard = none) (s x : Operand) (t : TypeId)
    (ho : o.op = .call { callee := .builtin .append, args := #[s, x], argTypes := #[t, t] })
    (base : Nat) (e : TypeId) (i : TypeInfo) (z : Value) (size bytes : Nat) (ht : P.underlying t = some (.slice e)) (hi : P.info? e = some i) (hz : i.zero = some z)
    (hsize : i.size = size) (hby : i.bytes = bytes) (hzs : z.cells.size = size) (hsz : 0 < size)
    (v : Value) (n : Nat) (xs : List Value) (hs : a.eval s = v) (hown : w.ownsRow base e size v n xs)
    (ad : Addr) (m c : Nat) (news : List Value) (hx : a.eval x = .slice (some ad) m c) (hl : news.length = m * size) (hnews : ∀ j u, news[j]? = some u → w.cell? (ad.add j) = some u) (h1 : ∀ u ∈ news, u.oneCell' = true)
    (h63 : n + m ≤ maxLen) (hbytes : (n + m) * bytes ≤ 140737488355328) (hbase : base ≤ w.heap.size)
    (h : ∀ v' w', w'.ownsRow base e size v' (n + m) (xs ++ news) → w.grownBy w' v.ownBlock → (v' = .slice none 0 0 ↔ v = .slice none 0 0 ∧ m = 0) → K (a.put o.dst v') w') :
    if Region.wanted o (yielded ops a.tmps) = true then Oper.wp P o a w K Q else E := by
  have hw : Region.wanted o (yielded ops a.tmps) = true := by simp [Region.wanted, hgd]
  rw [if_pos hw]
  exact wp_append_own w s x t ho base e i z size bytes ht hi hz hsize hby hzs hsz v n xs hs hown ad m c news hx hl hnews h1 h63 hbytes hbase h

theorem own_form {w : World} {base : Nat} {e : TypeId} {size : Nat} {v : Value} {n : Nat} {xs : List Value} (h : w.ownsRow base e size v n xs) (hn : v ≠ .slice none 0 0) : ∃ g cap, v = .slice (some ⟨g, 0, none⟩) n cap ∧ base ≤ g := by
  rcases h.2 with ⟨h0, _⟩ | ⟨g, cap, cur, hv, hb, _⟩
  · exact absurd h0 hn
  · exact ⟨g, cap, hv, hb⟩
theorem takenL_nodup (T : Nat → Bool) (l m : Nat) : (takenL T l m).Nodup := by
  unfold takenL
  refine List.Pairwise.map _ (fun a b (h : a ≠ b) => ?_) (List.Pairwise.filter _ List.nodup_range)
  omega
theorem takenL_give (T : Nat → Bool) (l m k : Nat) : takenL (upd T k false) l m = (takenL T l m).filter (fun x => x != (k : Int) + l) := by
  unfold takenL
  rw [List.filter_map, List.filter_filter]
  congr 1
  apply List.filter_congr
  intro x _
  unfold upd
  by_cases h : x = k
  · subst h; simp
  · have : ¬ ((x : Int) + l = (k : Int) + l) := by omega
    simp [h, this]
theorem cut_filter (xs : List Int) (a : Int) (i : Nat) (hi : i < xs.length) (hx : xs.getD i 0 = a) (hn : xs.Nodup) : xs.take i ++ xs.drop (i + 1) = xs.filter (fun x => x != a) := by
  have e : xs = xs.take i ++ a :: xs.drop (i + 1) := by
    have h1 : xs.getD i 0 = xs[i] := by simp [hi]
    rw [← hx, h1, List.getElem_cons_drop, List.take_append_drop]
  generalize xs.take i = p at e ⊢
  generalize xs.drop (i + 1) = q at e ⊢
  subst e
  rw [List.nodup_append] at hn
  obtain ⟨n1, n2, n3⟩ := hn
  rw [List.nodup_cons] at n2
  rw [List.filter_append, List.filter_cons]
  simp only [bne_self_eq_false, Bool.false_eq_true, if_false]
  rw [List.filter_eq_self.2 (fun x hx => by simpa using n3 x hx a (List.mem_cons_self ..)), List.filter_eq_self.2 (fun x hx => by
    have : x ≠ a := fun h => n2.1 (h ▸ hx)
    simpa using this)]
end Go.Proofs.YtconpcnmccmbiaaDoor
