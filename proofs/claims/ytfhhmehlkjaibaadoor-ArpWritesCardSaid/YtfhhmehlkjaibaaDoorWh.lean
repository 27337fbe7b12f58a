/- why's All. -/
import Derived.Test.YtfhhmehlkjaibaaDoorWg
namespace Go.Proofs.YtfhhmehlkjaibaaDoor
open Go.RowKit

theorem own_grown {w1 w2 : World} {v : Value} (o : Obj) (hg : (w1.alloc o).grownBy w2 v.ownBlock) : Kp (fun b => v.ownBlock = some b) w1 w2 :=
  ((Kp.refl (fun b => v.ownBlock = some b) w1).alloc o).grown hg (fun _ hk => .inl hk)
theorem own_type {w : World} {base n : Nat} {v : Value} {xs : List Value} (hown : w.ownsRow base 3 1 v n xs) {k : Nat} {t : TypeId} {cs : Array Value} (hb : Bk w k t cs) (ht : 3 ≠ t) : ¬ (v.ownBlock = some k) := by
  intro hk
  rcases hown.2 with ⟨rfl, _⟩ | ⟨gg, cap, cur, rfl, _, hh, _⟩
  · cases hk
  · have : gg = k := by simpa [Value.ownBlock] using hk
    subst this
    exact Bk.ne_of (t := 3) hh hb ht rfl

set_option maxRecDepth 100000 in
set_option maxHeartbeats 8000000 in
theorem wall_any (rs : List Int) (e : Int) (v : Value) (w : World) (hE : Et w) (hc : Chain w e rs v) (hl : rs.length ≤ 1000) :
    Calls Tryd.prog 12 #[v] w fun ev w' => ∃ u, ev = .returned u ∧ w'.ownsRow w.heap.size 3 1 u rs.length (ints rs) ∧ Kp (fun _ => False) w w' := by
  obtain ⟨i0, hi0, hz0, hz1, hz2⟩ := info_parts intInfo
  have hlt := hE.lt
  have kA := (Kp.refl (fun _ => False) w).alloc (.cells #[.pointer none] 73)
  have HE := Lib.hid hE
  have HC := Lib.hid (hc.none_kept kA)
  have HC0 := Lib.hid hc
  have HB := Lib.hid (Bk.new w 73 #[.pointer none])
  have HK := Lib.hid kA
  clear hE hc kA
  go_enter Tryd.func12, Tryd.ntmps12
  go_wp2_with fail
  go_loopw [0, 3, 4] (fun u out p wr => ∃ (fb : Nat) (old : Value) (xs rs' : List Int), p = .pointer (some ⟨fb, 0, none⟩) ∧ w.heap.size ≤ fb ∧ Bk wr fb 73 #[old] ∧ Chain wr e rs' u ∧ xs ++ rs' = rs ∧ wr.ownsRow w.heap.size 3 1 out xs.length (ints xs) ∧ Kp (fun _ => False) w wr) (fun u _ _ wr => depth wr u)
  case atStart => exact ⟨w.heap.size, .pointer none, [], rs, rfl, Nat.le_refl _, by simpa using HB.out, by simpa using HC.out, rfl, by simpa [ints] using World.ownsRow_nil _ w.heap.size 3 1, by simpa using HK.out⟩
  case round =>
    obtain ⟨fb, old, xs, rs', rfl, hfb, hbk, hch, hxs, hown, hkp⟩ := hrel
    have hxl : xs.length ≤ 1000 := by have := congrArg List.length hxs; simp at this; omega
    have hfl := hbk.lt
    have Hd0 := Lib.hid hch.depth
    have Hbk := Lib.hid hbk
    have Hxs := Lib.hid hxs
    have Hown := Lib.hid hown
    have Hkp := Lib.hid hkp
    clear hbk hxs hown hkp
    have HEr := Lib.hid (HE.out.kept Hkp.out (fun f => f))
    cases rs' with
    | nil =>
      obtain rfl := hch
      go_wp2_with fail
      refine (asFault_no fb e _ HEr.out).mono ?_
      rintro ev w1 ⟨rfl, k1⟩
      have K1 := Lib.hid k1
      clear k1
      go_wp2_with fail
      go_ret
      refine ⟨_, rfl, ?_, Hkp.out.trans K1.out (fun _ _ f => f)⟩
      have h1 : xs = rs := by simpa using Hxs.out
      rw [← h1]
      exact own_kp Hown.out K1.out (fun _ _ f => f)
    | cons r rs' =>
      obtain ⟨g, v', rfl, hb, hc'⟩ := hch
      have Hb := Lib.hid hb
      have Hc' := Lib.hid hc'
      clear hb hc'
      go_wp2_with fail
      refine (asFault_hit g fb old _ HEr.out Hbk.out).mono ?_
      rintro ev w1 ⟨rfl, b1, k1⟩
      have c1 := b1.cell 0
      have hb1 := Hb.out.kept k1 (fun h => by subst h; exact Bk.ne_of Hb.out Hbk.out (by decide) rfl)
      have d0 := hb1.cell 0
      have d1 := hb1.cell 1
      have hown1 := own_kp Hown.out k1 (fun k hk h => by
        subst h
        rcases Hown.out.2 with ⟨rfl, _⟩ | ⟨gg, cap, cur, rfl, _, hh, _⟩
        · cases hk
        · have : gg = k := by simpa [Value.ownBlock] using hk
          subst this
          exact Bk.ne_of (t := 3) hh Hbk.out (by decide) rfl)
      have Hc1 := Lib.hid (Hc'.out.kept k1 (fun k cs h1 h2 => by subst h2; exact Bk.ne_of h1 Hbk.out (by decide) rfl))
      have Hown1 := Lib.hid hown1
      have Hb1 := Lib.hid b1
      have Hbb1 := Lib.hid hb1
      have Hk1 := Lib.hid (Hkp.out.trans k1 (fun k hk h => by omega))
      have hs1 := Hk1.out.size
      clear k1 b1 hb1 hown1
      go_wp2_with
        (at_builtin
         go_must (refine wpList_append_own _ rfl (.tmp 12) (.tmp 17) _ rfl w.heap.size 3 i0 _ 1 8 Tryd.underlying23 hi0 hz0 hz1 hz2 rfl (by omega) _ _ _ rfl (Hown1.out.alloc _) ⟨w1.heap.size, 0, none⟩ 1 1 [.int .i64 r] rfl rfl (cell_one_new _ _ _) (fun x hx => by simp at hx; subst hx; rfl) (by unfold maxLen; omega) (by omega) (by simp; omega) ?_)
         intro v2 w2 hown2 hgrow2 _
         have k2 := own_grown _ hgrow2
         have hb2 := Hb1.out.kept k2 (own_type Hown1.out Hb1.out (by decide))
         have hbb2 := Hbb1.out.kept k2 (own_type Hown1.out Hbb1.out (by decide))
         have e0 := hb2.cell 0
         have g1 := hbb2.cell 1
         have Hc2 := Lib.hid (Hc1.out.kept k2 (fun k cs h1 => own_type Hown1.out h1 (by decide)))
         have Hown2 := Lib.hid hown2
         have Hk2 := Lib.hid ((Hk1.out.alloc _).grown hgrow2 (fun j hj => .inr (Hown1.out.lt j hj).1))
         have g2 := (hbb2.alloc (.cells #[.pointer (some ⟨g, 0, none⟩)] 73)).cell 1
         have Hbb2 := Lib.hid hbb2
         clear k2 hb2 hbb2 hown2 hgrow2)
      have hd1 : depth wr (.iface 73 (.pointer (some ⟨g, 0, none⟩))) = rs'.length + 1 := Hd0.out
      have k3 := (Kp.refl (fun _ => False) w2).alloc (.cells #[.pointer (some ⟨g, 0, none⟩)] 73)
      have Hc3 := Lib.hid (Hc2.out.none_kept k3)
      have Hd1 := Lib.hid hd1
      have hs2 := Hk2.out.size
      go_roundw
      case rel =>
        refine ⟨w2.heap.size, _, xs ++ [r], rs', rfl, hs2, Bk.new w2 73 _, Hc3.out, ?_, ?_, Hk2.out.alloc _⟩
        · rw [← Hxs.out]; simp
        · have := own_kp Hown2.out k3 (fun _ _ f => f)
          simpa [ints] using this
      case measure =>
        rw [Hc3.out.depth, Hd1.out]
        omega
end Go.Proofs.YtfhhmehlkjaibaaDoor
