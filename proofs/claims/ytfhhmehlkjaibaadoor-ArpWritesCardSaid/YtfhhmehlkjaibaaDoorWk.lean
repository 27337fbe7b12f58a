/- The law's chain: an error and the reference's fault, wrapped alike. -/
import Derived.Test.YtfhhmehlkjaibaaDoorWj
import Derived.Deep.RegionLaw
import Derived.Deep.RegionHeld3
import Derived.StillTailTactics
namespace Go.Proofs.YtfhhmehlkjaibaaDoor
open Go.RowKit Go.Proofs.YtfhhmehlkjaibaaDoorW.PrintWords

/-- An error and the reference's fault that are alike. -/
def Alike2 (w : World) (base : Nat) (v u : Value) (l : List Int) (f : Int) (n : Nat) : Prop :=
  Rs w base u l ∧ l.length ≤ n ∧ (f = 0 ∧ v = .nilIface ∧ l = [] ∨ f ≠ 0 ∧ Chain w f l v)

set_option maxRecDepth 100000 in
set_option maxHeartbeats 4000000 in
theorem chain_bare0 (A : Option Addr) (c n : Nat) (w : World) :
    Calls Tryd.prog 9 #[.int .i64 0, .slice A n c, .bool true] w fun ev w' => ∃ v u l f, ev = .returned (.tuple #[v, .agg #[u, .int .i64 f]]) ∧ Alike2 w' w.heap.size v u l f n ∧ Kp (fun _ => False) w w' := by
  go_enter Tryd.func9, Tryd.ntmps9
  go_wp2_with fail
  refine bodyPost_ret (results_tc rfl _ _ w.heap.size 28 #[.slice none 0 0, .int .i64 0] (0, 0) _ rfl (Bk.new w 28 _) Tryd.underlying28 rfl (by kernel_rfl)) rfl ?_
  exact ⟨_, _, [], _, rfl, ⟨Rs.nil _ _, Nat.zero_le _, .inl ⟨rfl, rfl, rfl⟩⟩, (Kp.refl _ _).alloc _⟩

set_option maxRecDepth 100000 in
set_option maxHeartbeats 8000000 in
theorem chain_bare (e : Int) (A : Option Addr) (c : Nat) (rs : List Int) (w : World) (hx : RdI w .i64 A rs) (he : (e == 0) = false) (hl : rs.length ≤ 50) :
    Calls Tryd.prog 9 #[.int .i64 e, .slice A rs.length c, .bool true] w fun ev w' => ∃ v u l f, ev = .returned (.tuple #[v, .agg #[u, .int .i64 f]]) ∧ Alike2 w' w.heap.size v u l f rs.length ∧ Kp (fun _ => False) w w' := by
  have hne : e ≠ 0 := by simpa using he
  have HN := Lib.hid hne
  have Hx := Lib.hid hx
  clear hne hx
  have kA := ((Kp.refl (fun _ => False) w).alloc (.cells #[.slice none 0 0, .int .i64 0] 28)).alloc (.cells #[.slice none 0 0, .int .i64 e] 28)
  have hbA := (Bk.new w 28 #[.slice none 0 0, .int .i64 0]).alloc (.cells #[.slice none 0 0, .int .i64 e] 28)
  have hbB := Bk.new (w.alloc (.cells #[.slice none 0 0, .int .i64 0] 28)) 28 #[.slice none 0 0, .int .i64 e]
  rw [show (w.alloc (.cells #[.slice none 0 0, .int .i64 0] 28)).heap.size = w.heap.size + 1 by simp] at hbB
  have HbA := Lib.hid hbA
  have HbB := Lib.hid hbB
  have HkA := Lib.hid kA
  clear hbA hbB kA
  go_enter Tryd.func9, Tryd.ntmps9
  go_wp2_with fail
  go_loopw [8, 10] (fun x j wr => ∃ (i : Nat) (u : Value) (l : List Int), j = .int .i64 i ∧ i ≤ rs.length ∧ Bk wr (w.heap.size + 1) 28 #[u, .int .i64 e] ∧ Bk wr w.heap.size 28 #[.slice none 0 0, .int .i64 0] ∧ Rs wr w.heap.size u l ∧ l.length ≤ i ∧ Chain wr e l x ∧ Kp (fun _ => False) w wr) (fun _ j _ => rs.length - (intOf j).toNat)
  case atStart => exact ⟨0, .slice none 0 0, [], rfl, Nat.zero_le _, by simpa using HbB.out, by simpa using HbA.out, Rs.nil _ _, Nat.le_refl _, rfl, by simpa using HkA.out⟩
  case round =>
    obtain ⟨i, u, l, rfl, hi, hb1, hb2, hR, hll, hch, hk⟩ := hrel
    have Hb1 := Lib.hid hb1
    have Hb2 := Lib.hid hb2
    have HR := Lib.hid hR
    have Hch := Lib.hid hch
    have Hk := Lib.hid hk
    have hsr := hk.size
    clear hb1 hb2 hR hch hk
    by_cases hlt : i < rs.length
    · have hrd := Hx.out.kp Hk.out (fun _ _ _ f => f)
      obtain ⟨cb, co, rfl, hcc⟩ : ∃ b o, A = some ⟨b, o, none⟩ ∧ ∀ j, j < rs.length → wr.cell? ⟨b, o + j, none⟩ = some (.int .i64 (rs.getD j 0)) := by
        rcases hrd.2 with h | h
        · omega
        · exact h
      have hci := hcc i hlt
      have hcl : cb < wr.heap.size := World.block_lt_of_cell? wr _ hci
      generalize hr : rs.getD i 0 = r at hci
      clear hcc hrd hr
      go_wp2_with fail
      refine (wrap_any r l e _ _ Hch.out).mono ?_
      rintro ev w3 ⟨v3, rfl, ch3, k3⟩
      have b13 := Hb1.out.kept k3 (fun f => f)
      have c0 := b13.cell 0
      have c1 := b13.cell 1
      have hci3 := (k3.cell (p := ⟨cb, co + i, none⟩) hcl (fun f => f)).trans hci
      have Hb13 := Lib.hid b13
      have Hb23 := Lib.hid (Hb2.out.kept k3 (fun f => f))
      have HR3 := Lib.hid (HR.out.kept k3 (fun _ _ f => f))
      have Hch3 := Lib.hid ch3
      have Hk3 := Lib.hid (Hk.out.trans k3 (fun _ _ f => f))
      clear b13 ch3 k3
      go_wp2_with fail
      go_still_tail 5, (by kernel_rfl)
      change wpList _ _ _ _ _ w3.drew
      go_wp2_with fail
      refine (fwrap_any u l e r w w3.drew (by exact Hk3.out.drew) (by exact HR3.out) HN.out (by omega)).mono ?_
      rintro ev w4 ⟨u4, rfl, r4, k4⟩
      have k4 := Kp.undrewN (n := 1) k4
      obtain ⟨A4, c4, rfl, _⟩ := r4.read
      have b14 := Hb13.out.kept k4 (HR3.out.ne Hb13.out (by decide))
      have e0 := b14.cell 0
      have e1 := b14.cell 1
      have g0 := b14.frozen 0
      have g1 := b14.frozen 1
      have Hb14 := Lib.hid b14
      have Hb24 := Lib.hid (Hb23.out.kept k4 (HR3.out.ne Hb23.out (by decide)))
      have Hch4 := Lib.hid (Hch3.out.kept k4 (fun k cs h1 => HR3.out.ne h1 (by decide)))
      have Hk4 := Lib.hid (Hk3.out.trans k4 (fun k hk h => by have := (HR3.out.base h).1; omega))
      have Hr4 := Lib.hid r4
      have hs4 := Hk4.out.size
      clear b14 k4 r4
      go_wp2_with fail
      have kS := Kp.setCell (S := fun b => b = w.heap.size + 1) (Kp.setCell (S := fun b => b = w.heap.size + 1) (Kp.refl (fun b => b = w.heap.size + 1) w4) (p := ⟨w.heap.size + 1, 0, none⟩) (.inl rfl) (.slice A4 (wrapR r l).length c4)) (p := ⟨w.heap.size + 1, 1, none⟩) (.inl rfl) (.int .i64 e)
      have hb5 := (Hb14.out.put 0 (.slice A4 (wrapR r l).length c4)).put 1 (.int .i64 e)
      have HS := Lib.hid kS
      have Hb5 := Lib.hid hb5
      clear kS hb5
      go_roundw
      case rel =>
        refine ⟨i + 1, .slice A4 (wrapR r l).length c4, wrapR r l, by go_num, by omega, by simpa using Hb5.out, Hb24.out.kept HS.out (by omega), Hr4.out.kept HS.out (fun k hk h => Hr4.out.ne Hb14.out (by decide) (h ▸ hk)), ?_, Hch4.out.kept HS.out (fun k cs h1 h2 => by subst h2; exact Bk.ne_of h1 Hb14.out (by decide) rfl), Hk4.out.trans HS.out (fun k hk h => by omega)⟩
        unfold wrapR
        split
        · have : (r :: l).length = l.length + 1 := rfl
          omega
        · omega
      case measure => simp [intOf]; omega
    · obtain ⟨A4, c4, rfl, _⟩ := HR.out.read
      have c0 := Hb1.out.cell 0
      have c1 := Hb1.out.cell 1
      have g0 := Hb2.out.cell 0
      have g1 := Hb2.out.cell 1
      have f0 := Hb2.out.frozen 0
      have f1 := Hb2.out.frozen 1
      have kS := Kp.setCell (S := fun b => b = w.heap.size) (Kp.setCell (S := fun b => b = w.heap.size) (Kp.refl (fun b => b = w.heap.size) wr) (p := ⟨w.heap.size, 0, none⟩) (.inl rfl) (.slice A4 l.length c4)) (p := ⟨w.heap.size, 1, none⟩) (.inl rfl) (.int .i64 e)
      have hb5 : Bk ((wr.setCell ⟨w.heap.size, 0, none⟩ (.slice A4 l.length c4)).setCell ⟨w.heap.size, 1, none⟩ (.int .i64 e)) w.heap.size 28 #[.slice A4 l.length c4, .int .i64 e] := by simpa using (Hb2.out.put 0 (.slice A4 l.length c4)).put 1 (.int .i64 e)
      have HS := Lib.hid kS
      have Hb5 := Lib.hid hb5
      clear kS hb5
      go_wp2_with fail
      go_region
      all_goals
        go_wp2_with fail
        refine bodyPost_ret (results_tc rfl _ _ w.heap.size 28 #[.slice A4 l.length c4, .int .i64 e] (0, 0) _ rfl Hb5.out Tryd.underlying28 rfl (by kernel_rfl)) rfl ?_
        exact ⟨_, _, l, _, rfl, ⟨HR.out.kept HS.out.drew (fun k hk h => HR.out.ne Hb2.out (by decide) (h ▸ hk)), by omega, .inr ⟨HN.out, Hch.out.kept HS.out.drew (fun k cs h1 h2 => by subst h2; exact Bk.ne_of h1 Hb2.out (by decide) rfl)⟩⟩, (Hk.out.trans HS.out (fun k hk h => by omega)).drew⟩
end Go.Proofs.YtfhhmehlkjaibaaDoor
