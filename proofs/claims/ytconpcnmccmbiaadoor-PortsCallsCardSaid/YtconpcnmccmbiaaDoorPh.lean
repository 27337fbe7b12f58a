/- A range's Clone. -/
import Derived.Test.YtconpcnmccmbiaaDoorPg
import Derived.Deep.AppendLies
namespace Go.Proofs.YtconpcnmccmbiaaDoor
open Go.RowKit

def wordsL (ws : Nat → Nat) (n : Nat) : List Value := (List.range n).map fun j => .int .u64 (ws j)
theorem wordsL_len (ws : Nat → Nat) (n : Nat) : (wordsL ws n).length = n := by simp [wordsL]
theorem wordsL_at (ws : Nat → Nat) (n j : Nat) (h : j < n) : (wordsL ws n)[j]? = some (.int .u64 (ws j)) := by simp [wordsL, h]
theorem wordsL_one (ws : Nat → Nat) (n : Nat) : ∀ u ∈ wordsL ws n, u.oneCell' = true := by
  intro u hu
  simp only [wordsL, List.mem_map] at hu
  obtain ⟨j, _, rfl⟩ := hu
  rfl
theorem add_at (g j : Nat) : (⟨g, 0, none⟩ : Addr).add j = ⟨g, j, none⟩ := by unfold Addr.add; split <;> simp_all
/-- A range's words are cells. -/
theorem Raw.news {w : World} {g gw l m mk lf : Nat} {ws : Nat → Nat} (h : Raw w g gw l m mk lf ws) {n : Nat} (hn : (m + 63) / 64 = n) : ∀ j u, (wordsL ws n)[j]? = some u → w.cell? ((⟨gw, 0, none⟩ : Addr).add j) = some u := by
  obtain ⟨n', c, cs, a1, a2, a3, a4, a5, a6, a7, a8⟩ := h
  obtain rfl : n = n' := by omega
  intro j u hu
  have hj : j < n := by
    have := (List.getElem?_eq_some_iff.1 hu).1
    rwa [wordsL_len] at this
  rw [wordsL_at ws n j hj] at hu
  rw [add_at, a2.cell j, a4 j hj]
  exact hu
theorem Raw.of_parts {w : World} {g gw l m mk lf n c : Nat} {ws : Nat → Nat} (hn : (m + 63) / 64 = n) (hg : Bk w g 100 #[.int .i64 l, .int .i64 m, .int .i64 mk, .int .i64 lf, .slice (some ⟨gw, 0, none⟩) n c])
    (hw : w.ownsRow 0 117 1 (.slice (some ⟨gw, 0, none⟩) n c) n (wordsL ws n)) {w0 : World} {g0 gw0 : Nat} (h0 : Raw w0 g0 gw0 l m mk lf ws) : Raw w g gw l m mk lf ws := by
  obtain ⟨n', c', cs, a1, a2, a3, a4, a5, a6, a7, a8⟩ := h0
  rcases hw.2 with ⟨hv, _⟩ | ⟨g', cap, cur, hv, _, hh, h1, h2, h3, h4⟩
  · cases hv
  · injection hv with e1 e2 e3
    injection e1 with e1
    injection e1 with e1
    subst e1 e3
    refine ⟨n, _, cur, hg, hh, by omega, fun j hj => ?_, a5, by omega, by omega, a8⟩
    have := wordsL_at ws n j hj
    rw [← h4, List.getElem?_take_of_lt (by omega)] at this
    simpa using this
theorem own_mono {w : World} {base base' : Nat} {e : TypeId} {size n : Nat} {v : Value} {xs : List Value} (h : w.ownsRow base e size v n xs) (hb : base' ≤ base) : w.ownsRow base' e size v n xs := by
  refine ⟨h.1, ?_⟩
  rcases h.2 with h | ⟨g, cap, cur, hv, hg, r⟩
  · exact .inl h
  · exact .inr ⟨g, cap, cur, hv, by omega, r⟩

set_option maxRecDepth 100000 in
set_option maxHeartbeats 1000000 in
theorem clone_any (g gw l m mk : Nat) (T : Nat → Bool) (w : World) (h : Rng w g gw l m mk T) :
    Calls Tryd.prog 22 #[.pointer (some ⟨g, 0, none⟩)] w fun e w' => ∃ g2 gw2, e = .returned (.pointer (some ⟨g2, 0, none⟩)) ∧ Rng w' g2 gw2 l m mk T ∧ w.heap.size ≤ g2 ∧ w.heap.size ≤ gw2 ∧ Kp (fun _ => False) w w' := by
  obtain ⟨ws, hr, h3, h4, h5, h6, h7, h8⟩ := h
  obtain ⟨c0, c1, c2, c3, f2, f3, b1, b2, b3, b4, b5⟩ := hr.cells
  obtain ⟨c, c4⟩ := hr.cell4 rfl
  have hlt := hr.lt
  have h6' := h6.lt
  obtain ⟨i0, hi0, hz0, hz1, hz2⟩ := info_parts u64Info
  generalize hn : (m + 63) / 64 = n at *
  obtain ⟨S, hS⟩ : ∃ S, S = Obj.cells #[.int .i64 l, .int .i64 m, .int .i64 mk, .int .i64 (cnt (bit ws) m), .slice (some ⟨gw, 0, none⟩) n c] 100 := ⟨_, rfl⟩
  have hown0 : ((w.alloc S).alloc (.cells #[] 117)).ownsRow w.heap.size 117 1 (.slice (some ⟨w.heap.size + 1, 0, none⟩) 0 0) 0 [] := by
    have := World.ownsRow_made (w.alloc S) (base := w.heap.size) (e := 117) (size := 1) #[] 0 (by simp) (by unfold maxLen; omega) rfl
    simpa using this
  have hnews : ∀ j u, (wordsL ws n)[j]? = some u → ((w.alloc S).alloc (.cells #[] 117)).cell? ((⟨gw, 0, none⟩ : Addr).add j) = some u := by
    intro j u hu
    have h1 := hr.news hn j u hu
    rw [add_at] at h1 ⊢
    rw [World.cell?_alloc_lt _ _ _ (by simp; omega), World.cell?_alloc_lt _ _ _ hlt.2]
    exact h1
  have hS0 : Bk ((w.alloc S).alloc (.cells #[] 117)) w.heap.size 100 #[.int .i64 l, .int .i64 m, .int .i64 mk, .int .i64 (cnt (bit ws) m), .slice (some ⟨gw, 0, none⟩) n c] := by
    rw [hS]; exact (Bk.new w 100 _).alloc _
  have hk0 : Kp (fun _ => False) w ((w.alloc S).alloc (.cells #[] 117)) := ((Kp.refl _ _).alloc _).alloc _
  subst hS
  have Hown0 := Lib.hid hown0
  have Hnews := Lib.hid hnews
  have HS0 := Lib.hid hS0
  have Hk0 := Lib.hid hk0
  have Hr := Lib.hid hr
  have H4 := Lib.hid h4
  have H5 := Lib.hid h5
  have Hn := Lib.hid hn
  have Hlen := Lib.hid (wordsL_len ws n)
  clear hr h4 h5 hn hown0 hnews hS0 hk0
  go_enter Tryd.func22, Tryd.ntmps22
  go_wp2_with
    (at_builtin
     go_must (
     refine wpList_append_own _ rfl (.tmp 7) (.tmp 11) _ rfl w.heap.size 117 i0 _ 1 8 Tryd.underlying98 hi0 hz0 hz1 hz2 rfl (by omega) (.slice (some ⟨w.heap.size + 1, 0, none⟩) 0 0) 0 [] rfl Hown0.out ⟨gw, 0, none⟩ n c (wordsL ws n) rfl (by have := Hlen.out; omega) Hnews.out (wordsL_one ws n) (by unfold maxLen; have := Hn.out; omega) (by have := Hn.out; omega) (by simp; omega) ?_
     intro v1 w1 hown1 hgrow1 _
     obtain ⟨g', cap, hv, hb', hl'⟩ := hown1.form (by have := Hn.out; omega)
     rw [hv] at hown1 ⊢
     have hk1 := Hk0.out.grown hgrow1 (fun k hk => .inr (Hown0.out.lt k hk).1)
     have hS1 : Bk w1 w.heap.size 100 _ := (hgrow1.block w.heap.size (by simp; omega) (by simp [Value.ownBlock])).trans HS0.out
     have e4 := hS1.cell 4
     have e5 := hS1.frozen 4
     simp at e4
     have Hk1 := Lib.hid hk1
     have Hown1 := Lib.hid hown1
     have HS1 := Lib.hid hS1
     clear hk1 hS1 hown1 hgrow1 hv))
  go_ret
  have Hown2 := Lib.hid (show w1.ownsRow w.heap.size 117 1 (.slice (some ⟨g', 0, none⟩) n cap) n (wordsL ws n) from by simpa using Hown1.out)
  have hne : w.heap.size ≠ g' := by
    rcases Hown2.out.2 with ⟨hv, _⟩ | ⟨g'', cap, cur, hv, _, hh, _⟩
    · cases hv
    · injection hv with e1 e2 e3
      injection e1 with e1
      injection e1 with e1
      subst e1
      exact HS1.out.ne_of (t' := 117) hh (by decide)
  have hk2 := Kp.setCell Hk1.out (p := ⟨w.heap.size, 4, none⟩) (.inr (Nat.le_refl _)) (.slice (some ⟨g', 0, none⟩) n cap)
  refine ⟨w.heap.size, g', rfl, ⟨ws, Raw.of_parts (c := cap) Hn.out ?_ ?_ Hr.out, h3, ?_, ?_, h6.kept hk2 (fun f => f), by omega, by omega⟩, Nat.le_refl _, hb', hk2⟩
  · have := HS1.out.put 4 (.slice (some ⟨g', 0, none⟩) n cap)
    simpa using this
  · have := own_kp Hown2.out (Kp.setCell (Kp.refl (fun b => b = w.heap.size) w1) (p := ⟨w.heap.size, 4, none⟩) (.inl rfl) (.slice (some ⟨g', 0, none⟩) n cap)) (fun k hk => by
      have : g' = k := by simpa [Value.ownBlock] using hk
      omega)
    exact own_mono this (Nat.zero_le _)
  · exact H4.out
  · rw [Hn.out]; exact H5.out
end Go.Proofs.YtconpcnmccmbiaaDoor
