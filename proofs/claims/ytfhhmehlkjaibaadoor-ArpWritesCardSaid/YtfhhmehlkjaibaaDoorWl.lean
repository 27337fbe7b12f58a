/- The law's chain, its first error a fault. -/
import Derived.Test.YtfhhmehlkjaibaaDoorWk
namespace Go.Proofs.YtfhhmehlkjaibaaDoor
open Go.RowKit Go.Proofs.YtfhhmehlkjaibaaDoorW.PrintWords

/-- An error's value: nil, or a chain. -/
def Vl (w : World) (f : Int) (l : List Int) (v : Value) : Prop := f = 0 ∧ v = .nilIface ∧ l = [] ∨ f ≠ 0 ∧ Chain w f l v
theorem Vl.kept {w w' : World} {f : Int} {l : List Int} {v : Value} {S : Nat → Prop} (h : Vl w f l v) (hk : Kp S w w') (hS : ∀ k cs, Bk w k 76 cs → ¬ S k) : Vl w' f l v := by
  rcases h with h | ⟨h1, h2⟩
  · exact .inl h
  · exact .inr ⟨h1, h2.kept hk hS⟩
/-- What a wrapping leaves. -/
def wrapF (f r : Int) (l : List Int) : List Int := if f = 0 then l else wrapR r l
theorem wrapF_len (f r : Int) (l : List Int) : (wrapF f r l).length ≤ l.length + 1 := by
  unfold wrapF wrapR
  split
  · omega
  · split
    · exact Nat.le_refl _
    · omega
theorem vwrap (f r : Int) (l : List Int) (v : Value) (w : World) (h : Vl w f l v) :
    Calls Tryd.prog 30 #[v, .int .i64 r] w fun ev w' => ∃ v', ev = .returned v' ∧ Vl w' f (wrapF f r l) v' ∧ Kp (fun _ => False) w w' := by
  rcases h with ⟨rfl, rfl, rfl⟩ | ⟨h1, h2⟩
  · refine (wrap_nil r w).mono ?_
    rintro ev w' ⟨rfl, hk⟩
    exact ⟨_, rfl, .inl ⟨rfl, rfl, rfl⟩, hk⟩
  · refine (wrap_any r l f v w h2).mono ?_
    rintro ev w' ⟨v', rfl, hc, hk⟩
    exact ⟨v', rfl, .inr ⟨h1, by unfold wrapF; rw [if_neg h1]; exact hc⟩, hk⟩
theorem fwrap2 (u : Value) (l : List Int) (f r : Int) (w0 w : World) (hB : Kp (fun _ => False) w0 w) (hR : Rs w w0.heap.size u l) (hl : l.length ≤ 1000) :
    Calls Tryd.prog 33 #[.agg #[u, .int .i64 f], .int .i64 r] w fun ev w' => ∃ u', ev = .returned (.agg #[u', .int .i64 f]) ∧ Rs w' w0.heap.size u' (wrapF f r l) ∧ Kp (fun k => u.ownBlock = some k) w w' := by
  by_cases h : f = 0
  · subst h
    refine (PWhyChains.vizardref02_Wrap.calls _ u l 0 r l 0 w0 w hB.below hR.tight (if_pos rfl)).mono ?_
    rintro ev w' ⟨u', h1, h2, h3, h4⟩
    exact ⟨u', h1, Rs.of h2, kp_of_kept hB.below h3 h4⟩
  · unfold wrapF
    rw [if_neg h]
    exact fwrap_any u l f r w0 w hB hR h hl
theorem vl_of {w w2 : World} {base : Nat} {r e : Int} {v u : Value} {l : List Int} {f : Int} (h1 : FaultIs w r e v) (h2 : NewIs w2 base r e u l f) : Vl w f l v := by
  rcases h1 with ⟨a1, rfl⟩ | ⟨a1, a2, a3⟩ <;> rcases h2.2 with ⟨b1, rfl, rfl⟩ | ⟨b1, b2, rfl, rfl⟩
  · exact .inl ⟨rfl, rfl, rfl⟩
  · rcases a1 with a1 | a1
    · exact absurd a1 b1
    · rw [b2] at a1; cases a1
  · rcases b1 with b1 | b1
    · exact absurd b1 a1
    · rw [a2] at b1; cases b1
  · exact .inr ⟨a1, a3⟩
theorem NewIs.len {w : World} {base : Nat} {r e : Int} {u : Value} {l : List Int} {f : Int} (h : NewIs w base r e u l f) : l.length ≤ 1 := by
  rcases h.2 with ⟨_, rfl, _⟩ | ⟨_, _, rfl, _⟩ <;> simp

set_option maxRecDepth 100000 in
set_option maxHeartbeats 4000000 in
theorem chain_none (e : Int) (A : Option Addr) (c : Nat) (w : World) :
    Calls Tryd.prog 9 #[.int .i64 e, .slice A 0 c, .bool false] w fun ev w' => ∃ v u l f, ev = .returned (.tuple #[v, .agg #[u, .int .i64 f]]) ∧ Alike2 w' w.heap.size v u l f 0 ∧ Kp (fun _ => False) w w' := by
  go_enter Tryd.func9, Tryd.ntmps9
  go_wp2_with fail
  refine bodyPost_ret (results_tc rfl _ _ w.heap.size 28 #[.slice none 0 0, .int .i64 0] (0, 0) _ rfl (Bk.new w 28 _) Tryd.underlying28 rfl (by kernel_rfl)) rfl ?_
  exact ⟨_, _, [], _, rfl, ⟨Rs.nil _ _, Nat.zero_le _, .inl ⟨rfl, rfl, rfl⟩⟩, (Kp.refl _ _).alloc _⟩

set_option maxRecDepth 100000 in
set_option maxHeartbeats 8000000 in
theorem chain_full (e : Int) (A : Option Addr) (c : Nat) (rs : List Int) (w : World) (hx : RdI w .i64 A rs) (hp : 1 ≤ rs.length) (hl : rs.length ≤ 50) :
    Calls Tryd.prog 9 #[.int .i64 e, .slice A rs.length c, .bool false] w fun ev w' => ∃ v u l f, ev = .returned (.tuple #[v, .agg #[u, .int .i64 f]]) ∧ Alike2 w' w.heap.size v u l f rs.length ∧ Kp (fun _ => False) w w' := by
  have Hx := Lib.hid hx
  obtain ⟨cb, co, rfl, hcc⟩ : ∃ b o, A = some ⟨b, o, none⟩ ∧ ∀ j, j < rs.length → w.cell? ⟨b, o + j, none⟩ = some (.int .i64 (rs.getD j 0)) := by
    rcases hx.2 with h | h
    · omega
    · exact h
  have hci0 := hcc 0 (by omega)
  have hcl0 : cb < w.heap.size := World.block_lt_of_cell? w _ hci0
  have kA := (Kp.refl (fun _ => False) w).alloc (.cells #[.slice none 0 0, .int .i64 0] 28)
  have hbA := Bk.new w 28 #[.slice none 0 0, .int .i64 0]
  have hci := (kA.cell (p := ⟨cb, co + 0, none⟩) hcl0 (fun f => f)).trans hci0
  generalize hr0 : rs.getD 0 0 = r0 at hci
  rw [Nat.add_zero] at hci
  have HbA := Lib.hid hbA
  have HkA := Lib.hid kA
  have hsA := kA.size
  have hbl := hbA.lt
  clear hbA kA hcc hci0 hr0 hx
  have hne0 : ((rs.length : Int) == 0) = false := by rw [beq_eq_false_iff_ne]; omega
  go_enter Tryd.func9, Tryd.ntmps9
  go_wp2_with fail
  refine (fault_any r0 e _).mono ?_
  rintro ev w1 ⟨v1, rfl, fi1, k1⟩
  have hci1 := (k1.cell (p := ⟨cb, co, none⟩) (by show cb < _; omega) (fun f => f)).trans hci
  have Hb1 := Lib.hid (HbA.out.kept k1 (fun f => f))
  have Hf1 := Lib.hid fi1
  have Hk1 := Lib.hid (HkA.out.trans k1 (fun _ _ f => f))
  have hs1 := Hk1.out.size
  clear fi1 k1 hci
  go_wp2_with fail
  refine (fnew_any r0 e _).mono ?_
  rintro ev w2 ⟨u2, l2, f2, rfl, ni2, k2⟩
  have hv2 := (vl_of Hf1.out ni2).kept k2 (fun _ _ _ f => f)
  have hll2 := ni2.len
  have hr2 : Rs w2 w.heap.size u2 l2 := Kd.R_lower ni2.1 hs1
  have hbox := Bk.new w2 28 #[u2, .int .i64 f2]
  have kB := (Kp.refl (fun _ => False) w2).alloc (.cells #[u2, .int .i64 f2] 28)
  have hbx0 := hbox.cell 0
  obtain ⟨A2, c2, rfl, _⟩ := hr2.read
  have Hv2 := Lib.hid (hv2.kept kB (fun _ _ _ f => f))
  have Hr2 := Lib.hid (hr2.kept kB (fun _ _ f => f))
  have Hbox := Lib.hid hbox
  have Hb2 := Lib.hid ((Hb1.out.kept k2 (fun f => f)).kept kB (fun f => f))
  have Hk2 := Lib.hid ((Hk1.out.trans k2 (fun _ _ f => f)).trans kB (fun _ _ f => f))
  have hs2 := k2.size
  have hb2l := (Hb1.out.kept k2 (fun f => f)).lt
  clear hv2 hr2 hbox kB hbx0 k2 ni2
  go_wp2_with fail
  go_loopw [11, 13] (fun x j wr => ∃ (i : Nat) (u : Value) (l : List Int), j = .int .i64 i ∧ 1 ≤ i ∧ i ≤ rs.length ∧ Bk wr w2.heap.size 28 #[u, .int .i64 f2] ∧ Bk wr w.heap.size 28 #[.slice none 0 0, .int .i64 0] ∧ Rs wr w.heap.size u l ∧ l.length ≤ i ∧ Vl wr f2 l x ∧ Kp (fun _ => False) w wr) (fun _ j _ => rs.length - (intOf j).toNat)
  case atStart => exact ⟨1, .slice A2 l2.length c2, l2, rfl, Nat.le_refl _, hp, by simpa using Hbox.out, by simpa using Hb2.out, by simpa using Hr2.out, hll2, by simpa using Hv2.out, by simpa using Hk2.out⟩
  case round =>
    obtain ⟨i, u, l, rfl, hi1, hi, hb1, hb2, hR, hll, hch, hk⟩ := hrel
    have Hb1' := Lib.hid hb1
    have Hb2' := Lib.hid hb2
    have HR := Lib.hid hR
    have Hch := Lib.hid hch
    have Hk := Lib.hid hk
    have hsr := hk.size
    clear hb1 hb2 hR hch hk
    by_cases hlt : i < rs.length
    · have hrd := Hx.out.kp Hk.out (fun _ _ _ f => f)
      have hcc : ∀ j, j < rs.length → wr.cell? ⟨cb, co + j, none⟩ = some (.int .i64 (rs.getD j 0)) := by
        rcases hrd.2 with h | ⟨b, o, hA, h⟩
        · omega
        · cases hA
          exact h
      have hci := hcc i hlt
      have hcl : cb < wr.heap.size := World.block_lt_of_cell? wr _ hci
      generalize hr : rs.getD i 0 = r at hci
      clear hcc hrd hr
      go_wp2_with fail
      refine (vwrap f2 r l _ _ Hch.out).mono ?_
      rintro ev w3 ⟨v3, rfl, ch3, k3⟩
      have b13 := Hb1'.out.kept k3 (fun f => f)
      have c0 := b13.cell 0
      have c1 := b13.cell 1
      have hci3 := (k3.cell (p := ⟨cb, co + i, none⟩) hcl (fun f => f)).trans hci
      have Hb13 := Lib.hid b13
      have Hb23 := Lib.hid (Hb2'.out.kept k3 (fun f => f))
      have HR3 := Lib.hid (HR.out.kept k3 (fun _ _ f => f))
      have Hch3 := Lib.hid ch3
      have Hk3 := Lib.hid (Hk.out.trans k3 (fun _ _ f => f))
      clear b13 ch3 k3
      go_wp2_with fail
      go_still_tail 5, (by kernel_rfl)
      change wpList _ _ _ _ _ w3.drew
      go_wp2_with fail
      refine (fwrap2 u l f2 r w w3.drew (by exact Hk3.out.drew) (by exact HR3.out) (by omega)).mono ?_
      rintro ev w4 ⟨u4, rfl, r4, k4⟩
      have k4 := Kp.undrewN (n := 1) k4
      obtain ⟨A4, c4, rfl, _⟩ := r4.read
      have b14 := Hb13.out.kept k4 (HR3.out.ne Hb13.out (by decide))
      have e0 := b14.cell 0
      have e1 := b14.cell 1
      have g0 := b14.frozen 0
      have g1 := b14.frozen 1
      have Hb14 := Lib.hid b14
      have Hb24 := Lib.hid (Hb23.out.kept k4 (HR3.out.ne Hb23.out (by decide)))
      have Hch4 := Lib.hid (Hch3.out.kept k4 (fun k cs h1 => HR3.out.ne h1 (by decide)))
      have Hk4 := Lib.hid (Hk3.out.trans k4 (fun k hk h => by have := (HR3.out.base h).1; omega))
      have Hr4 := Lib.hid r4
      have hs4 := Hk4.out.size
      have hwl := wrapF_len f2 r l
      clear b14 k4 r4
      generalize hwf : wrapF f2 r l = lw at Hr4 Hch4 hwl
      clear hwf
      go_wp2_with fail
      have kS := Kp.setCell (S := fun b => b = w2.heap.size) (Kp.setCell (S := fun b => b = w2.heap.size) (Kp.refl (fun b => b = w2.heap.size) w4) (p := ⟨w2.heap.size, 0, none⟩) (.inl rfl) (.slice A4 lw.length c4)) (p := ⟨w2.heap.size, 1, none⟩) (.inl rfl) (.int .i64 f2)
      have hb5 := (Hb14.out.put 0 (.slice A4 lw.length c4)).put 1 (.int .i64 f2)
      have HS := Lib.hid kS
      have Hb5 := Lib.hid hb5
      clear kS hb5
      go_roundw
      case rel =>
        exact ⟨i + 1, .slice A4 lw.length c4, lw, by go_num, by omega, by omega, by simpa using Hb5.out, Hb24.out.kept HS.out (by omega), Hr4.out.kept HS.out (fun k hk h => Hr4.out.ne Hb14.out (by decide) (h ▸ hk)), by omega, Hch4.out.kept HS.out (fun k cs h1 h2 => by subst h2; exact Bk.ne_of h1 Hb14.out (by decide) rfl), Hk4.out.trans HS.out (fun k hk h => by omega)⟩
      case measure => simp [intOf]; omega
    · obtain ⟨A4, c4, rfl, _⟩ := HR.out.read
      have c0 := Hb1'.out.cell 0
      have c1 := Hb1'.out.cell 1
      have g0 := Hb2'.out.cell 0
      have g1 := Hb2'.out.cell 1
      have f0 := Hb2'.out.frozen 0
      have f1 := Hb2'.out.frozen 1
      have kS := Kp.setCell (S := fun b => b = w.heap.size) (Kp.setCell (S := fun b => b = w.heap.size) (Kp.refl (fun b => b = w.heap.size) wr) (p := ⟨w.heap.size, 0, none⟩) (.inl rfl) (.slice A4 l.length c4)) (p := ⟨w.heap.size, 1, none⟩) (.inl rfl) (.int .i64 f2)
      have hb5 : Bk ((wr.setCell ⟨w.heap.size, 0, none⟩ (.slice A4 l.length c4)).setCell ⟨w.heap.size, 1, none⟩ (.int .i64 f2)) w.heap.size 28 #[.slice A4 l.length c4, .int .i64 f2] := by simpa using (Hb2'.out.put 0 (.slice A4 l.length c4)).put 1 (.int .i64 f2)
      have HS := Lib.hid kS
      have Hb5 := Lib.hid hb5
      clear kS hb5
      go_wp2_with fail
      go_region
      all_goals
        go_wp2_with fail
        refine bodyPost_ret (results_tc rfl _ _ w.heap.size 28 #[.slice A4 l.length c4, .int .i64 f2] (0, 0) _ rfl Hb5.out Tryd.underlying28 rfl (by kernel_rfl)) rfl ?_
        exact ⟨_, _, l, _, rfl, ⟨HR.out.kept HS.out.drew (fun k hk h => HR.out.ne Hb2'.out (by decide) (h ▸ hk)), by omega, Hch.out.kept HS.out.drew (fun k cs h1 h2 => by subst h2; exact Bk.ne_of h1 Hb2'.out (by decide) rfl)⟩, (Hk.out.trans HS.out (fun k hk h => by omega)).drew⟩
end Go.Proofs.YtfhhmehlkjaibaaDoor
