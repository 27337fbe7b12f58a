/- Cache: right, New. Cache: New. Cache: Wait, told once. Cache: over: the Ips whose timers are over. Cache: Sweep. -/
import Derived.Test.YtgidjgkafbjkpaaGreatDoorCwk
import Derived.Laws.AppendOwnNone
set_option linter.unusedVariables false
set_option linter.unusedSimpArgs false
namespace Go.Proofs.YtgidjgkafbjkpaaGreatDoor
open Go.RowKit

def Rgt (room wait : Int) (life pat : Nat) : Prop := 1 ≤ room ∧ room ≤ 256 ∧ 1 ≤ wait ∧ wait ≤ 64 ∧ 1 ≤ min life pat ∧ max life pat ≤ 4294967296
set_option maxRecDepth 1000000 in
set_option maxHeartbeats 16000000 in
/-- right. -/
theorem cright (room wait : Int) (life pat : Nat) (w : World) (b : Bool) (hb : b = true ↔ Rgt room wait life pat) :
    Calls Tryz.prog 21 #[.agg #[.int .i64 room, .int .i64 wait, .int .u64 (life : Int), .int .u64 (pat : Int)]] w fun ev w' => ev = .returned (.bool b) ∧ Kp (fun _ => False) w w' := by
  have bk := Bk.new w 61 #[.int .i64 room, .int .i64 wait, .int .u64 (life : Int), .int .u64 (pat : Int)]
  have c0 : (w.alloc (.cells #[.int .i64 room, .int .i64 wait, .int .u64 (life : Int), .int .u64 (pat : Int)] 61)).cell? ⟨w.heap.size, 0, none⟩ = some (.int .i64 room) := bk.cell 0
  have c1 : (w.alloc (.cells #[.int .i64 room, .int .i64 wait, .int .u64 (life : Int), .int .u64 (pat : Int)] 61)).cell? ⟨w.heap.size, 1, none⟩ = some (.int .i64 wait) := bk.cell 1
  have c2 : (w.alloc (.cells #[.int .i64 room, .int .i64 wait, .int .u64 (life : Int), .int .u64 (pat : Int)] 61)).cell? ⟨w.heap.size, 2, none⟩ = some (.int .u64 (life : Int)) := bk.cell 2
  have c3 : (w.alloc (.cells #[.int .i64 room, .int .i64 wait, .int .u64 (life : Int), .int .u64 (pat : Int)] 61)).cell? ⟨w.heap.size, 3, none⟩ = some (.int .u64 (pat : Int)) := bk.cell 3
  have KA := Lib.hid ((Kp.refl (fun _ => False) w).alloc (.cells #[.int .i64 room, .int .i64 wait, .int .u64 (life : Int), .int .u64 (pat : Int)] 61))
  obtain ⟨mn, hmn⟩ : ∃ mn, min life pat = mn := ⟨_, rfl⟩
  obtain ⟨mx, hmx⟩ : ∃ mx, max life pat = mx := ⟨_, rfl⟩
  have hmin : min (life : Int) (pat : Int) = (mn : Int) := by rw [← hmn]; omega
  have hmax : max (life : Int) (pat : Int) = (mx : Int) := by rw [← hmx]; omega
  unfold Rgt at hb
  rw [hmn, hmx] at hb
  have HB := Lib.hid hb
  clear hb bk hmn hmx
  by_cases h1 : (1 : Int) ≤ room
  · by_cases h2 : room ≤ 256
    · by_cases h3 : (1 : Int) ≤ wait
      · by_cases h4 : wait ≤ 64
        · by_cases h5 : (1 : Int) ≤ (mn : Int)
          · by_cases h6 : (mx : Int) ≤ 4294967296
            · obtain rfl : b = true := HB.out.2 ⟨h1, h2, h3, h4, by omega, by omega⟩
              (go_enter Tryz.func21, Tryz.ntmps21; go_wp2_with fail; exact bodyPost_ret (results_tmp rfl _ _ _) rfl ⟨rfl, KA.out⟩)
            · obtain rfl : b = false := Bool.eq_false_iff.2 (fun e => by have := HB.out.1 e; omega)
              (go_enter Tryz.func21, Tryz.ntmps21; go_wp2_with fail; exact bodyPost_ret (results_tmp rfl _ _ _) rfl ⟨rfl, KA.out⟩)
          · obtain rfl : b = false := Bool.eq_false_iff.2 (fun e => by have := HB.out.1 e; omega)
            (go_enter Tryz.func21, Tryz.ntmps21; go_wp2_with fail; exact bodyPost_ret (results_tmp rfl _ _ _) rfl ⟨rfl, KA.out⟩)
        · obtain rfl : b = false := Bool.eq_false_iff.2 (fun e => by have := HB.out.1 e; omega)
          (go_enter Tryz.func21, Tryz.ntmps21; go_wp2_with fail; exact bodyPost_ret (results_tmp rfl _ _ _) rfl ⟨rfl, KA.out⟩)
      · obtain rfl : b = false := Bool.eq_false_iff.2 (fun e => by have := HB.out.1 e; omega)
        (go_enter Tryz.func21, Tryz.ntmps21; go_wp2_with fail; exact bodyPost_ret (results_tmp rfl _ _ _) rfl ⟨rfl, KA.out⟩)
    · obtain rfl : b = false := Bool.eq_false_iff.2 (fun e => by have := HB.out.1 e; omega)
      (go_enter Tryz.func21, Tryz.ntmps21; go_wp2_with fail; exact bodyPost_ret (results_tmp rfl _ _ _) rfl ⟨rfl, KA.out⟩)
  · obtain rfl : b = false := Bool.eq_false_iff.2 (fun e => by have := HB.out.1 e; omega)
    (go_enter Tryz.func21, Tryz.ntmps21; go_wp2_with fail; exact bodyPost_ret (results_tmp rfl _ _ _) rfl ⟨rfl, KA.out⟩)
end Go.Proofs.YtgidjgkafbjkpaaGreatDoor
namespace Go.Proofs.YtgidjgkafbjkpaaGreatDoor
open Go.RowKit

def CNewPost (room wait life pat : Nat) (w w' : World) (ev : Ending) : Prop :=
  ∃ g s, ev = .returned (.tuple #[.pointer (some ⟨g, 0, none⟩), .int .i64 0]) ∧ CM w' g s ∧ s.room = room ∧ s.wait = wait ∧ s.life = life ∧ s.pat = pat ∧ s.count = 0 ∧ s.ents = [] ∧ s.rows = [] ∧ (∀ b, cfp g s b → w.heap.size ≤ b) ∧ Kp (fun _ => False) w w'
theorem made_cm {w2 w3 w4 : World} {room wait life pat g1 g2 : Nat} (h1 : Whl (fun b => w2.heap.size ≤ b) w3 g1 0 []) (k2 : Kp (fun _ => False) w2 w3) (h2 : Whl (fun b => w3.heap.size ≤ b) w4 g2 0 []) (k3 : Kp (fun _ => False) w3 w4) (cs : Array Value)
    (hcs : cs = CC ⟨room, wait, life, pat, 0, w4.heap.size, 0, w4.heap.size + 1, 0, g1, g2, [], [], [], [], [], [], fun b => w2.heap.size ≤ b ∧ b < w3.heap.size, fun b => w3.heap.size ≤ b ∧ b < w4.heap.size⟩) :
    CM (((w4.alloc (.map #[] 0)).alloc (.map #[] 0)).alloc (.cells cs 68)) (w4.heap.size + 2) ⟨room, wait, life, pat, 0, w4.heap.size, 0, w4.heap.size + 1, 0, g1, g2, [], [], [], [], [], [], fun b => w2.heap.size ≤ b ∧ b < w3.heap.size, fun b => w3.heap.size ≤ b ∧ b < w4.heap.size⟩ := by
  have ka : Kp (fun _ => False) w4 (w4.alloc (.map #[] 0)) := (Kp.refl _ w4).alloc _
  have kb : Kp (fun _ => False) (w4.alloc (.map #[] 0)) ((w4.alloc (.map #[] 0)).alloc (.map #[] 0)) := (Kp.refl _ _).alloc _
  have kc : Kp (fun _ => False) ((w4.alloc (.map #[] 0)).alloc (.map #[] 0)) (((w4.alloc (.map #[] 0)).alloc (.map #[] 0)).alloc (.cells cs 68)) := (Kp.refl _ _).alloc _
  have s2 := k2.size
  have s3 := k3.size
  have ub := UMap.made (w4.alloc (.map #[] 0))
  rw [World.size_alloc] at ub
  have bg := Bk.new ((w4.alloc (.map #[] 0)).alloc (.map #[] 0)) 68 cs
  rw [World.size_alloc, World.size_alloc] at bg
  subst hcs
  have l1 : Whl (fun b => w2.heap.size ≤ b ∧ b < w3.heap.size) w3 g1 0 [] := h1.mono (fun b hb hf => ⟨hf, hb⟩)
  have l2 : Whl (fun b => w3.heap.size ≤ b ∧ b < w4.heap.size) w4 g2 0 [] := h2.mono (fun b hb hf => ⟨hf, hb⟩)
  refine ⟨bg, (((UMap.made w4).kept kb (fun f => f)).kept kc (fun f => f)), ub.kept kc (fun f => f), HM.nil, HM.nil, (((l1.none_kept k3).none_kept ka).none_kept kb).none_kept kc, ((l2.none_kept ka).none_kept kb).none_kept kc, IS.nil _, IS.nil _, WR.nil, WR.nil, fun b hb => ?_, fun b hb => ?_, fun b hb h => ?_, fun h => ?_, fun h => ?_, fun h => ?_, fun h => ?_, fun h => ?_, fun h => ?_, fun h => ?_⟩
  · have := hb.2; simp only [World.size_alloc]; omega
  · have := hb.2; simp only [World.size_alloc]; omega
  · have := hb.2; have := h.1; omega
  · have : w4.heap.size < w3.heap.size := h.2; omega
  · have : w4.heap.size < w4.heap.size := h.2; omega
  · have : w4.heap.size + 1 < w3.heap.size := h.2; omega
  · have : w4.heap.size + 1 < w4.heap.size := h.2; omega
  · have : w4.heap.size = w4.heap.size + 1 := h; omega
  · have : w4.heap.size + 2 < w3.heap.size := h.2; omega
  · have : w4.heap.size + 2 < w4.heap.size := h.2; omega
set_option maxRecDepth 1000000 in
set_option maxHeartbeats 16000000 in
/-- New. -/
theorem cnew (room wait life pat : Nat) (w : World) (hr : Rgt (room : Int) (wait : Int) life pat) :
    Calls Tryz.prog 8 #[.int .i64 (room : Int), .int .i64 (wait : Int), .int .u64 (life : Int), .int .u64 (pat : Int)] w fun ev w' => CNewPost room wait life pat w w' ev := by
  have HR := Lib.hid hr
  have k1 := Lib.hid ((Kp.refl (fun _ => False) w).alloc (.cells #[.int .i64 (room : Int), .int .i64 (wait : Int), .int .u64 (life : Int), .int .u64 (pat : Int)] 61))
  have b1 := Lib.hid (Bk.new w 61 #[.int .i64 (room : Int), .int .i64 (wait : Int), .int .u64 (life : Int), .int .u64 (pat : Int)])
  have d0 := b1.out.cell 0
  have d1 := b1.out.cell 1
  have d2 := b1.out.cell 2
  have d3 := b1.out.cell 3
  clear hr
  go_enter Tryz.func8, Tryz.ntmps8
  go_wp2_with fail
  clear d0 d1 d2 d3
  generalize w.alloc (.cells #[.int .i64 (room : Int), .int .i64 (wait : Int), .int .u64 (life : Int), .int .u64 (pat : Int)] 61) = w1 at *
  refine (cright (room : Int) (wait : Int) life pat w1 true ⟨fun _ => HR.out, fun _ => rfl⟩).mono ?_
  rintro ev w2 ⟨rfl, k2⟩
  have K2 := Lib.hid (k1.out.trans' k2)
  have B2 := Lib.hid (b1.out.kept k2 (fun f => f))
  clear k2 k1 b1
  go_wp2_with fail
  refine (wnew 0 w2 (by unfold TOP; omega)).mono ?_
  rintro ev w3 ⟨g1, rfl, l1, k3⟩
  have L1 := Lib.hid l1
  have K23 := Lib.hid k3
  have B3 := Lib.hid (B2.out.kept k3 (fun f => f))
  clear l1 k3 B2
  go_wp2_with fail
  refine (wnew 0 w3 (by unfold TOP; omega)).mono ?_
  rintro ev w4 ⟨g2, rfl, l2, k4⟩
  have L2 := Lib.hid l2
  have K34 := Lib.hid k4
  have b4 := B3.out.kept k4 (fun f => f)
  have d0 := b4.cell 0
  have d1 := b4.cell 1
  have d2 := b4.cell 2
  have d3 := b4.cell 3
  clear l2 k4 B3 b4
  have hmm := @run_makeMap Tryz.prog
  go_wp2_with fail
  refine bodyPost_ret (results_tmp2 rfl _ _ _) rfl ⟨w4.heap.size + 2, _, rfl, made_cm (room := room) (wait := wait) (life := life) (pat := pat) L1.out K23.out L2.out K34.out _ rfl, rfl, rfl, rfl, rfl, rfl, rfl, rfl, fun b hb => ?_, (((K2.out.trans' K23.out).trans' K34.out).alloc _).alloc _ |>.alloc _⟩
  have s2 := K2.out.size
  have s3 := K23.out.size
  have s4 := K34.out.size
  rcases hb with hb | hb | hb | hb | hb
  · omega
  · have hb : b = w4.heap.size := hb; omega
  · have hb : b = w4.heap.size + 1 := hb; omega
  · have := hb.1; omega
  · have := hb.1; omega
set_option maxRecDepth 1000000 in
set_option maxHeartbeats 16000000 in
/-- New, of wrong bounds. -/
theorem cnew_bad (room wait : Int) (life pat : Nat) (w : World) (hr : ¬ Rgt room wait life pat) :
    Calls Tryz.prog 8 #[.int .i64 room, .int .i64 wait, .int .u64 (life : Int), .int .u64 (pat : Int)] w fun ev w' => ev = .returned (.tuple #[.pointer none, .int .i64 11]) ∧ Kp (fun _ => False) w w' := by
  have HR := Lib.hid hr
  have k1 := Lib.hid ((Kp.refl (fun _ => False) w).alloc (.cells #[.int .i64 room, .int .i64 wait, .int .u64 (life : Int), .int .u64 (pat : Int)] 61))
  have b1 := Bk.new w 61 #[.int .i64 room, .int .i64 wait, .int .u64 (life : Int), .int .u64 (pat : Int)]
  have d0 := b1.cell 0
  have d1 := b1.cell 1
  have d2 := b1.cell 2
  have d3 := b1.cell 3
  clear hr b1
  go_enter Tryz.func8, Tryz.ntmps8
  go_wp2_with fail
  clear d0 d1 d2 d3
  generalize w.alloc (.cells #[.int .i64 room, .int .i64 wait, .int .u64 (life : Int), .int .u64 (pat : Int)] 61) = w1 at *
  refine (cright room wait life pat w1 false ⟨fun h => (by cases h), fun h => absurd h HR.out⟩).mono ?_
  rintro ev w2 ⟨rfl, k2⟩
  have K2 := Lib.hid (k1.out.trans' k2)
  clear k2 k1
  go_wp2_with fail
  exact bodyPost_ret (results_tmp2 rfl _ _ _) rfl ⟨rfl, K2.out⟩
end Go.Proofs.YtgidjgkafbjkpaaGreatDoor
namespace Go.Proofs.YtgidjgkafbjkpaaGreatDoor
open Go.RowKit

/-- What Wait leaves. -/
def WPost (g i now : Nat) (t : Int) (s : CS) (w w' : World) (ev : Ending) : Prop :=
  (((∃ x, iget i s.rows = some x ∧ s.wait ≤ x.v.length) ∨ (iget i s.rows = none ∧ s.room ≤ s.rows.length)) ∧ ev = .returned (.tuple #[.bool false, .int .i64 18]) ∧ Kp (fun _ => False) w w') ∨
  (∃ x, iget i s.rows = some x ∧ x.v.length < s.wait ∧ ev = .returned (.tuple #[.bool false, .int .i64 0]) ∧ ∃ A c c1, CM w' g (s.join i (x.v ++ [t]) (rowV A (x.v ++ [t]).length c x.ord) c1) ∧ (∀ b o, A = some ⟨b, o, none⟩ → w.heap.size ≤ b) ∧ Kp (CK g s w) w w') ∨
  (iget i s.rows = none ∧ s.rows.length < s.room ∧ ev = .returned (.tuple #[.bool true, .int .i64 0]) ∧ ∃ s', CM w' g s' ∧ Wbg s i now t s' ∧ Kp (CK g s w) w w' ∧ (∀ b, cfp g s' b → cfp g s b ∨ w.heap.size ≤ b) ∧ ∃ A c c0, s'.RL = mput (i : Int) (rowV A 1 c (s.count + 1)) c0 s.RL ∧ ∀ b o, A = some ⟨b, o, none⟩ → w.heap.size ≤ b)
theorem cwait (g i now : Nat) (t : Int) (s : CS) (w : World) (h : CM w g s) (hi : i < 4294967296) (hc : s.count < 1000000) (hr : s.room ≤ 1000) (hw : s.wait ≤ 1000) (hp : s.pat ≤ 4294967296) :
    Calls Tryz.prog 10 #[.pointer (some ⟨g, 0, none⟩), .int .u32 (i : Int), .int .i64 t, .int .u64 (now : Int)] w fun ev w' => WPost g i now t s w w' ev := by
  cases hx : iget i s.rows with
  | some x =>
    rcases Nat.lt_or_ge x.v.length s.wait with hl | hl
    · exact (wait_j g i now t s w h hi hc x hx hl hw).mono (fun ev w' q => .inr (.inl ⟨x, hx, hl, q.1, q.2⟩))
    · exact (wait_e1 g i now t s w h hi hc x hx hl).mono (fun ev w' q => .inl ⟨.inl ⟨x, hx, hl⟩, q.1, q.2⟩)
  | none =>
    rcases Nat.lt_or_ge s.rows.length s.room with hl | hl
    · exact (wait_b g i now t s w h hi hc hx hl hr hp).mono (fun ev w' q => .inr (.inr ⟨hx, hl, q.1, q.2⟩))
    · exact (wait_e2 g i now t s w h hi hc hx hl).mono (fun ev w' q => .inl ⟨.inr ⟨hx, hl⟩, q.1, q.2⟩)
end Go.Proofs.YtgidjgkafbjkpaaGreatDoor
namespace Go.Proofs.YtgidjgkafbjkpaaGreatDoor
open Go.RowKit

theorem due_of_got {R : Rows} (h : RS R) {t : Nat} {i : Int} (hi : i ∈ rgot t R) : rdI R i ≤ t := by
  obtain ⟨d, h1, h2⟩ := h.mem_got.1 hi
  have : rdue i R = some d := h.due.2 h1
  unfold rdI
  rw [this]
  exact h2
set_option maxRecDepth 1000000 in
set_option maxHeartbeats 16000000 in
/-- over: what is due by then, in order; the wheel stays as it is. -/
theorem cover (F : Nat → Prop) (g now : Nat) (R : Rows) (w : World) (h : Whl F w g 0 R) (hT : Tab w) (hl : R.length ≤ 1000000) (hk : ∀ x ∈ R, 0 ≤ x.1 ∧ x.1 < 4294967296) :
    Calls Tryz.prog 29 #[.pointer (some ⟨g, 0, none⟩), .int .u64 (now : Int)] w fun ev w' => ∃ v, ev = .returned v ∧ w'.ownsRow w.heap.size 30 1 v (rgot (min now MT) R).length ((rgot (min now MT) R).map encU) ∧ Kp (fun _ => False) w w' := by
  have H := Lib.hid h
  have HT := Lib.hid hT
  have HL := Lib.hid hl
  have HK := Lib.hid hk
  have hs0 : 1 ≤ w.heap.size := by
    have := hT.lt
    omega
  have HS0 := Lib.hid hs0
  clear h hT hl hk hs0
  obtain ⟨i0, hi0, hz0, hz1, hz2⟩ := info_parts (show (Tryz.prog.info? 30).map (fun i => (i.zero, i.size, i.bytes)) = some (some (.int .u32 0), 1, 4) by kernel_rfl)
  have hmx : (1000000 : Nat) < maxLen := by decide
  obtain ⟨mn, hmn⟩ : ∃ mn, min now MT = mn := ⟨_, rfl⟩
  have hmin : (min (now : Int) 2305843009213693952) = (mn : Int) := by unfold MT at hmn; omega
  have hmax : (max (mn : Int) 0) = (mn : Int) := by omega
  have hmT : mn ≤ TOP := by unfold TOP; unfold MT at hmn; omega
  rw [hmn]
  clear hmn
  obtain ⟨l, hll⟩ : ∃ l, rgot mn R = l := ⟨_, rfl⟩
  have HLL := Lib.hid hll
  rw [hll]
  clear hll
  go_enter Tryz.func29, Tryz.ntmps29
  go_wp2_with fail
  refine (wclone F g 0 R w H.out).mono ?_
  rintro ev w1 ⟨g2, rfl, hw1, k1⟩
  have W1 := Lib.hid hw1
  have K1 := Lib.hid k1
  clear hw1 k1
  go_wp2_with fail
  refine (wnow _ g2 0 R w1 W1.out).mono ?_
  rintro ev w2 ⟨rfl, rfl⟩
  go_wp2_with fail
  refine (wgo (fun b => w.heap.size ≤ b) g2 0 mn R w2 W1.out (HT.out.kept K1.out (fun f => f)) (by have := HS0.out; omega) hmT (Nat.zero_le _) HL.out).mono ?_
  rintro ev w3 ⟨v3, rfl, own3, hw3, k3⟩
  have K3 := Lib.hid (K1.out.trans k3 (fun b hb hf => absurd hf.1 (Nat.not_le.2 hb)))
  have hll := HLL.out
  rw [hll] at own3
  have hlen : l.length ≤ 1000000 := by
    have := rgot_len mn R
    rw [hll] at this
    have := HL.out; omega
  have hin : ∀ x ∈ l, rdI R x ≤ mn ∧ 0 ≤ x ∧ x < 4294967296 := fun x hx => by
    rw [← hll] at hx
    refine ⟨due_of_got H.out.rs hx, ?_⟩
    obtain ⟨d, h1, _⟩ := H.out.rs.mem_got.1 hx
    exact HK.out _ h1
  have HIN := Lib.hid hin
  obtain ⟨A, c, rfl, _, hrd, _⟩ := RdI.of_own (k := .i64) (xs := l) own3
  have RD := Lib.hid hrd
  have H3 := Lib.hid (H.out.none_kept K3.out)
  clear own3 hw3 k3 hll hin hrd W1 K1
  have l0 : (0 : Int) ≤ (l.length : Int) := by omega
  go_wp2_with fail
  go_loopw [8, 27] (fun v8 v27 wr => ∃ k : Nat, v27 = .int .i64 (k : Int) ∧ k ≤ l.length ∧ wr.ownsRow w3.heap.size 30 1 v8 k ((l.take k).map encU) ∧ Kp (fun _ => False) w3 wr) (fun _ v _ => l.length - (intOf v).toNat)
  case atStart => exact ⟨0, rfl, Nat.zero_le _, World.ownsRow_nil _ _ _ _, Kp.refl _ _⟩
  case round =>
    obtain ⟨k, rfl, hk, hown, hkp⟩ := hrel
    have k0 : (0 : Int) ≤ (k : Int) := by omega
    by_cases hlt : k < l.length
    · have k1 : (k : Int) < (l.length : Int) := by omega
      obtain ⟨b, o, hA, hc⟩ : ∃ b o, A = some ⟨b, o, none⟩ ∧ wr.cell? ⟨b, o + k, none⟩ = some (.int .i64 (l.getD k 0)) := by
        rcases RD.out.2 with h | ⟨b, o, e, hc⟩
        · omega
        · exact ⟨b, o, e, kp_kc0 (hc k hlt) hkp⟩
      subst hA
      obtain ⟨x, hx⟩ : ∃ x, l.getD k 0 = x := ⟨_, rfl⟩
      have hxm : x ∈ l := by
        rw [← hx, List.getD_eq_getElem?_getD, List.getElem?_eq_getElem hlt]
        exact List.getElem_mem hlt
      obtain ⟨hd, hx0, hx1⟩ := HIN.out x hxm
      rw [hx] at hc
      have WD := wdue F g 0 R x wr (H3.out.none_kept hkp)
      have HX := Lib.hid hx
      have OWN := Lib.hid hown
      have HKP := Lib.hid hkp
      generalize rdI R x = du at *
      generalize (rdue x R).isSome = bb at *
      have HWD := Lib.hid WD
      clear WD hown hkp hx hxm
      go_wp2_with fail
      refine HWD.out.mono ?_
      rintro ev w4 ⟨rfl, k4⟩
      have K4 := Lib.hid (HKP.out.trans' k4)
      have O4 := Lib.hid (own_kp OWN.out k4 (fun _ _ f => f))
      clear HWD k4
      have hle : (du : Int) ≤ (mn : Int) := by omega
      have hw32 : IntKind.u32.wrap x = x := IntWalk.u32_in _ (by omega)
      go_wp2_with
        (at_builtin
         go_must (
           refine wpList_append_own _ rfl (.tmp 41) (.tmp 44) 44 rfl w3.heap.size 30 i0 _ 1 4 Tryz.underlying44 hi0 hz0 hz1 hz2 rfl (by omega) _ k ((l.take k).map encU) rfl (O4.out.alloc _) ⟨w4.heap.size, 0, none⟩ 1 1 [.int .u32 x] rfl rfl (cell_one_new _ _ _) (by simp [Value.oneCell']) (by omega) (by omega) (by have := K4.out.size; simp; omega) ?_
           intro v5 w5 own5 hgrow5 _
           have K5 := Lib.hid ((K4.out.alloc (.cells #[.int .u32 x] 30)).grown hgrow5 (fun q hq => .inr (O4.out.lt q hq).1))
           have O5 := Lib.hid own5
           clear own5 hgrow5))
      go_roundw
      case rel =>
        refine ⟨k + 1, by go_num, by omega, ?_, K5.out⟩
        have e : (l.take (k + 1)).map encU = (l.take k).map encU ++ [.int .u32 x] := by
          rw [List.take_add_one, List.getElem?_eq_getElem hlt, List.map_append]
          have := HX.out
          rw [List.getD_eq_getElem?_getD, List.getElem?_eq_getElem hlt] at this
          have this : l[k] = x := this
          rw [this]
          rfl
        rw [e]
        exact O5.out
      case measure => simp [intOf]; omega
    · have k1 : ¬ ((k : Int) < (l.length : Int)) := by omega
      obtain rfl : k = l.length := by omega
      rw [List.take_length] at hown
      have OWN := Lib.hid hown
      have HKP := Lib.hid hkp
      clear hown hkp
      go_wp2_with fail
      exact bodyPost_ret (results_tmp rfl _ _ _) rfl ⟨_, rfl, Go.Proofs.ownsRow_base_a OWN.out K3.out.size, K3.out.trans' HKP.out⟩
end Go.Proofs.YtgidjgkafbjkpaaGreatDoor
namespace Go.Proofs.YtgidjgkafbjkpaaGreatDoor
open Go.RowKit

theorem own_ck {w w' : World} {base e n size g : Nat} {v : Value} {xs : List Value} {s : CS} (ho : w.ownsRow base e size v n xs) (hk : Kp (CK g s w) w w') (h1 : e ≠ 68) (h2 : e ≠ 113) : w'.ownsRow base e size v n xs :=
  own_kp ho hk (fun k hv hc => by
    rcases ho.2 with ⟨rfl, _⟩ | ⟨gb, cap, cur, rfl, _, hgb, _⟩
    · cases hv
    · obtain rfl : gb = k := Option.some.inj hv
      rcases hc.2 e cur hgb with h | h
      · exact h1 h
      · exact h2 h)
/-- What dropping many leaves. -/
def CS.drops (L : List Nat) (s : CS) : CS := { s with EL := L.foldl (fun M (i : Nat) => mdel (i : Int) M) s.EL, ents := idels L s.ents, R1 := L.foldl (fun R (i : Nat) => rdel (i : Int) R) s.R1 }
theorem CS.drops_nil (s : CS) : s.drops [] = s := rfl
theorem CS.drops_snoc (L : List Nat) (i : Nat) (s : CS) : s.drops (L ++ [i]) = (s.drops L).drop i := by
  unfold CS.drops CS.drop
  simp only [List.foldl_append, List.foldl_cons, List.foldl_nil, idels_snoc]
/-- What releasing many leaves. -/
def CS.rels (L : List Nat) (s : CS) : CS := { s with RL := L.foldl (fun M (i : Nat) => mdel (i : Int) M) s.RL, rows := idels L s.rows, R2 := L.foldl (fun R (i : Nat) => rdel (i : Int) R) s.R2 }
theorem CS.rels_nil (s : CS) : s.rels [] = s := rfl
theorem CS.rels_snoc (L : List Nat) (i : Nat) (s : CS) : s.rels (L ++ [i]) = (s.rels L).rel i := by
  unfold CS.rels CS.rel
  simp only [List.foldl_append, List.foldl_cons, List.foldl_nil, idels_snoc]
theorem nats_of {l : List Int} (h : ∀ i ∈ l, 0 ≤ i) : ∃ A : List Nat, A.map (fun i : Nat => (i : Int)) = l := by
  refine ⟨l.map Int.toNat, ?_⟩
  rw [List.map_map]
  conv => rhs; rw [← List.map_id l]
  refine List.map_congr_left (fun i hi => ?_)
  have := h i hi
  simp only [Function.comp, id]
  omega
theorem outs_snoc (L : List Nat) (i : Nat) (l : List Rw) : outs (L ++ [i]) l = outs L l ++ tokof l i := by simp [outs]
theorem outs_le {m : Nat} {l : List Rw} (h : ∀ r ∈ l, r.v.length ≤ m) : ∀ L : List Nat, (outs L l).length ≤ L.length * m
  | [] => by simp [outs]
  | i :: L => by
    have ih := outs_le h L
    have h1 : (tokof l i).length ≤ m := by
      unfold tokof
      cases hg : iget i l with
      | none => exact Nat.zero_le _
      | some x => exact h x (iget_mem hg).1
    have e : outs (i :: L) l = tokof l i ++ outs L l := by simp [outs]
    rw [e, List.length_append, List.length_cons, Nat.succ_mul]
    omega
theorem WR.keys {β : Type} {R : Rows} {l : List (It β)} (h : WR R l) (hi : ∀ x ∈ l, x.ip < 4294967296) : ∀ x ∈ R, 0 ≤ x.1 ∧ x.1 < 4294967296 := fun x hx => by
  obtain ⟨y, hy, e, _⟩ := (h.mem x.1 x.2).1 hx
  have := hi y hy
  omega
theorem got_nd {R : Rows} (h : RS R) (t : Nat) : (rgot t R).Nodup := (h.got_ord t).imp (fun {a b} hab e => by subst e; omega)
set_option maxRecDepth 1000000 in
set_option maxHeartbeats 8000000 in
/-- release, with what is known of a nil slice. -/
theorem crel2 (g i : Nat) (s : CS) (w : World) (h : CM w g s) (hi : i < 4294967296) :
    Calls Tryz.prog 27 #[.pointer (some ⟨g, 0, none⟩), .int .u32 (i : Int)] w fun ev w' => ∃ A c, ev = .returned (.slice A (tokof s.rows i).length c) ∧ RdN w' A (tokof s.rows i) ∧ (A = none → c = 0) ∧ CM w' g (s.rel i) ∧ Kp (CK g s w) w w' := by
  have z5 : w.cell? ⟨g, 5, none⟩ = some (.map (some s.rb)) := (h.bk.cell 5).trans rfl
  obtain ⟨A, c, o, hlk, hA, _, hN, _⟩ := h.look_row i
  have hl := (h.rm.run_lookup (P := Tryz.prog) (T := 66) (E := 77) (K := 30) Tryz.underlying66 Tryz.underlying30 (z := .agg #[.slice none 0 0, .int .i64 0]) (by kernel_rfl) (i : Int)).1
  rw [hlk] at hl
  have hfd : ∀ w : World, (Instr.field 77 (.agg #[.slice A (tokof s.rows i).length c, .int .i64 (o : Int)]) 0).run Tryz.prog w = .ok (.slice A (tokof s.rows i).length c) w := fun _ => by kernel_rfl
  obtain ⟨w1, hrun, u1, k1⟩ := h.rm.run_delete (P := Tryz.prog) (T := 66) (E := 77) (K := 30) Tryz.underlying66 Tryz.underlying30 (i : Int) 30 0
  have y7 : w1.cell? ⟨g, 7, none⟩ = some (.pointer (some ⟨s.gw, 0, none⟩)) := ((h.bk.kept k1 h.g_ne_r).cell 7).trans rfl
  have l1 : Whl s.F2 w1 s.gw 0 s.R2 := h.ww.kept k1 (fun b _ hb e => h.r2 (by have : b = s.rb := e; rw [← this]; exact hb))
  have e1 : IntKind.i64.wrap (i : Int) = (i : Int) := IntWalk.i64_in _ (by omega)
  have H := Lib.hid h
  have U1 := Lib.hid u1
  have K1 := Lib.hid k1
  have HA := Lib.hid hA
  have HN := Lib.hid hN
  have C := Lib.hid (wcancel s.F2 s.gw 0 s.R2 (i : Int) w1 l1)
  generalize (tokof s.rows i).length = n at *
  clear h u1 k1 l1 hA hlk hN
  go_enter Tryz.func27, Tryz.ntmps27
  go_wp2_with fail
  refine C.out.mono ?_
  rintro ev w2 ⟨rfl, h2, k2⟩
  have P2 := Lib.hid (H.out.released U1.out K1.out h2 k2)
  clear h2 k2
  go_wp2_with fail
  exact bodyPost_ret (results_tmp rfl _ _ _) rfl ⟨A, c, rfl, HA.out.kp P2.out.2 (fun b o cs _ hb => CM.no3 b hb), HN.out, P2.out⟩
/-- All rows' tokens lie below. -/
def RBl (B : Nat) (s : CS) : Prop := HM (fun (x : Rw) v => ∀ A c, v = rowV A x.v.length c x.ord → ∀ b o, A = some ⟨b, o, none⟩ → b < B) s.RL s.rows
theorem CM.rb {w : World} {g : Nat} {s : CS} (h : CM w g s) : RBl w.heap.size s := h.rh.mono (fun x _ v hv A c e b o hA => by
  obtain ⟨A', c', e', hr, _⟩ := hv
  rw [e'] at e
  unfold rowV at e
  injection e with e
  simp at e
  obtain ⟨cs, hb⟩ := hr.2 b o (by rw [e.1]; exact hA)
  exact hb.lt)
theorem RBl.rel {B n i : Nat} {s : CS} (h : RBl B s) (hs : IS n s.rows) (hk : (s.RL.map Ent.k).Nodup) : RBl B (s.rel i) := HM.del h hs hk
theorem CM.kept_rb {S : Nat → Prop} {w w' : World} {g B : Nat} {s : CS} (h : CM w g s) (hr : RBl B s) (hk : Kp S w w') (hS : ∀ b, cfp g s b → ¬ S b) (h3 : ∀ b, b < B → ¬ S b) : CM w' g s :=
  ⟨h.bk.kept hk (hS _ (.inl rfl)), h.em.kept hk (hS _ (.inr (.inl rfl))), h.rm.kept hk (hS _ (.inr (.inr (.inl rfl)))), h.eh,
    ⟨fun x hx => by
      obtain ⟨v, hv, A, c, e, hr1, hn⟩ := h.rh.some_ x hx
      obtain ⟨v', hv', hb⟩ := hr.some_ x hx
      obtain rfl : v = v' := by rw [hv] at hv'; exact Option.some.inj hv'
      exact ⟨v, hv, A, c, e, hr1.kp hk (fun b o cs hA _ => h3 b (hb A c e b o hA)), hn⟩, h.rh.none_, h.rh.len⟩,
    h.lw.kept hk (fun b _ hb => hS _ (.inr (.inr (.inr (.inl hb))))), h.ww.kept hk (fun b _ hb => hS _ (.inr (.inr (.inr (.inr hb))))), h.es, h.rs, h.er, h.rr,
    fun b hb => Nat.lt_of_lt_of_le (h.f1lt b hb) hk.size, fun b hb => Nat.lt_of_lt_of_le (h.f2lt b hb) hk.size, h.dj, h.e1, h.e2, h.r1, h.r2, h.ne, h.g1, h.g2⟩
theorem RdN.cells {w : World} {a : Addr} {l : List Int} (h : RdN w (some a) l) : ∀ j u, (intsK .i64 l)[j]? = some u → w.cell? (a.add j) = some u := by
  intro j u hj
  have hjl : j < l.length := by
    rcases Nat.lt_or_ge j l.length with h | h
    · exact h
    · rw [List.getElem?_eq_none (by simpa [intsK] using h)] at hj; cases hj
  rcases h.1.2 with h | ⟨b, o, e, hcl⟩
  · omega
  · injection e with e
    subst e
    have h2 : u = .int .i64 (l.getD j 0) := by
      simp [intsK, hjl] at hj
      rw [← hj]
      simp [hjl]
    rw [h2]
    exact (show (⟨b, o, none⟩ : Addr).add j = ⟨b, o + j, none⟩ by simp [Addr.add]) ▸ hcl j hjl
theorem intsK_one (l : List Int) : ∀ u ∈ intsK .i64 l, u.oneCell' = true := by
  intro u hu
  simp only [intsK, List.mem_map] at hu
  obtain ⟨x, _, rfl⟩ := hu
  rfl
theorem intsK_len (l : List Int) : (intsK .i64 l).length = l.length := by simp [intsK]
theorem intsK_app (a b : List Int) : intsK .i64 (a ++ b) = intsK .i64 a ++ intsK .i64 b := by simp [intsK]
/-- What Sweep leaves. -/
def SwPost (g now : Nat) (s : CS) (w w' : World) (ev : Ending) : Prop :=
  ∃ v A1 A2, ev = .returned v ∧ A1.map (fun i : Nat => (i : Int)) = rgot (min now MT) s.R1 ∧ A2.map (fun i : Nat => (i : Int)) = rgot (min now MT) s.R2 ∧
    w'.ownsRow w.heap.size 3 1 v (outs A2 s.rows).length (intsK .i64 (outs A2 s.rows)) ∧ CM w' g ((s.drops A1).rels A2) ∧ Kp (CK g s w) w w'
set_option maxRecDepth 1000000 in
set_option maxHeartbeats 16000000 in
/-- Sweep. -/
theorem csweep (g now : Nat) (s : CS) (w : World) (h : CM w g s) (hT : Tab w) (h0 : ¬ cfp g s 0) (hle : s.ents.length ≤ 1000) (hlr : s.rows.length ≤ 1000) (hlv : ∀ r ∈ s.rows, r.v.length ≤ 1000) (hie : ∀ x ∈ s.ents, x.ip < 4294967296) (hir : ∀ x ∈ s.rows, x.ip < 4294967296) :
    Calls Tryz.prog 11 #[.pointer (some ⟨g, 0, none⟩), .int .u64 (now : Int)] w fun ev w' => SwPost g now s w w' ev := by
  have z6 : w.cell? ⟨g, 6, none⟩ = some (.pointer (some ⟨s.gl, 0, none⟩)) := (h.bk.cell 6).trans rfl
  have hl1 : s.R1.length ≤ 1000000 := by have := h.er.len h.es; omega
  have hl2 : s.R2.length ≤ 1000000 := by have := h.rr.len h.rs; omega
  obtain ⟨A1, hA1⟩ : ∃ A : List Nat, A.map (fun i : Nat => (i : Int)) = rgot (min now MT) s.R1 := nats_of (fun i hi => by
    obtain ⟨d, h1, _⟩ := h.lw.rs.mem_got.1 hi
    exact (h.er.keys hie _ h1).1)
  obtain ⟨A2, hA2⟩ : ∃ A : List Nat, A.map (fun i : Nat => (i : Int)) = rgot (min now MT) s.R2 := nats_of (fun i hi => by
    obtain ⟨d, h1, _⟩ := h.ww.rs.mem_got.1 hi
    exact (h.rr.keys hir _ h1).1)
  have hI1 : ∀ i ∈ A1, i < 4294967296 := fun i hi => by
    have h1 : (i : Int) ∈ rgot (min now MT) s.R1 := by rw [← hA1]; exact List.mem_map_of_mem hi
    obtain ⟨d, h1, _⟩ := h.lw.rs.mem_got.1 h1
    have := (h.er.keys hie _ h1).2
    simp only at this
    omega
  have hI2 : ∀ i ∈ A2, i < 4294967296 := fun i hi => by
    have h1 : (i : Int) ∈ rgot (min now MT) s.R2 := by rw [← hA2]; exact List.mem_map_of_mem hi
    obtain ⟨d, h1, _⟩ := h.ww.rs.mem_got.1 h1
    have := (h.rr.keys hir _ h1).2
    simp only at this
    omega
  have hN2 : A2.Nodup := by
    have h1 := got_nd h.ww.rs (min now MT)
    rw [← hA2] at h1
    exact List.Pairwise.of_map (fun i : Nat => (i : Int)) (fun a b hne e => hne (by rw [e])) h1
  have hlA1 : A1.length ≤ 1000000 := by
    have h1 := congrArg List.length hA1
    have h2 := rgot_len (min now MT) s.R1
    rw [List.length_map] at h1
    omega
  have hlA2 : A2.length ≤ 1000 := by
    have h1 := congrArg List.length hA2
    have h2 := rgot_len (min now MT) s.R2
    have h3 := h.rr.len h.rs
    rw [List.length_map] at h1
    omega
  have hlo : ∀ k, (outs (A2.take k) s.rows).length + 1000 ≤ 2000000 := fun k => by
    have h1 := outs_le hlv (A2.take k)
    have h2 : (A2.take k).length ≤ 1000 := by rw [List.length_take]; omega
    have h3 : (A2.take k).length * 1000 ≤ 1000 * 1000 := Nat.mul_le_mul_right _ h2
    omega
  have CO := cover s.F1 s.gl now s.R1 w h.lw hT hl1 (h.er.keys hie)
  have CO2 := Lib.hid (fun (W : World) (hM : CM W g (s.drops A1)) (hk : Kp (CK g s w) w W) => cover s.F2 s.gw now s.R2 W hM.ww (hT.kept hk (fun hc => h0 hc.1)) hl2 (h.rr.keys hir))
  rw [← hA1, List.length_map, List.map_map] at CO
  obtain ⟨E1, hE1⟩ : ∃ E1 : List Int, E1 = A1.map (fun i : Nat => (i : Int)) := ⟨_, rfl⟩
  have COH := Lib.hid CO
  have H := Lib.hid h
  have HA1 := Lib.hid hA1
  have HA2 := Lib.hid hA2
  have HI1 := Lib.hid hI1
  have HI2 := Lib.hid hI2
  have HN2 := Lib.hid hN2
  have HLO := Lib.hid hlo
  have HLV := Lib.hid hlv
  clear h hT h0 hle hlr hlv hie hir hl1 hl2 hA1 hA2 hI1 hI2 hN2 hlo hE1 CO
  obtain ⟨i0, hi0, hz0, hz1, hz2⟩ := info_parts (show (Tryz.prog.info? 3).map (fun i => (i.zero, i.size, i.bytes)) = some (some (.int .i64 0), 1, 8) by kernel_rfl)
  have hmx : (2000000 : Nat) < maxLen := by decide
  go_enter Tryz.func11, Tryz.ntmps11
  go_wp2_with fail
  refine COH.out.mono ?_
  rintro ev w1 ⟨v1, rfl, own1, k1⟩
  obtain ⟨B1, c1, rfl, hq1, hq2, hq3⟩ := RdI.of_own (v := v1) (w := w1) (base := w.heap.size) (e := 30) (n := A1.length) (k := .u32) (xs := A1.map (fun i : Nat => (i : Int))) (by rw [show intsK .u32 (A1.map (fun i : Nat => (i : Int))) = A1.map (encU ∘ fun i : Nat => (i : Int)) by simp [intsK, encU]]; exact own1)
  clear hq1 hq2 hq3
  have OWN1 := Lib.hid own1
  have M1 := Lib.hid (show CM w1 g (s.drops (A1.take 0)) ∧ Kp (CK g s w) w w1 from ⟨H.out.none_kept k1, k1.mono (fun _ f => f.elim)⟩)
  have l0 : (0 : Int) ≤ (A1.length : Int) := by omega
  clear own1 k1 COH z6
  go_wp2_with fail
  go_loopw [17] (fun v17 wr => ∃ k : Nat, v17 = .int .i64 (k : Int) ∧ k ≤ A1.length ∧ CM wr g (s.drops (A1.take k)) ∧ Kp (CK g s w) w wr ∧ wr.ownsRow w.heap.size 30 1 (.slice B1 A1.length c1) A1.length (A1.map (encU ∘ fun i : Nat => (i : Int)))) (fun v _ => A1.length - (intOf v).toNat)
  case atStart => exact ⟨0, rfl, Nat.zero_le _, M1.out.1, M1.out.2, OWN1.out⟩
  case round =>
    obtain ⟨k, rfl, hk, hM, hK, hO⟩ := hrel
    have k0 : (0 : Int) ≤ (k : Int) := by omega
    by_cases hlt : k < A1.length
    · have k1 : (k : Int) < (A1.length : Int) := by omega
      obtain ⟨b, hB, hc⟩ : ∃ b, B1 = some ⟨b, 0, none⟩ ∧ wr.cell? ⟨b, k, none⟩ = some (.int .u32 ((A1[k] : Nat) : Int)) := by
        rcases hO.2 with ⟨_, hl⟩ | ⟨gb, cap', cur, e, hb, hgb, r1, r2, r3, r4⟩
        · omega
        · injection e with e1 e2 e3
          refine ⟨gb, e1, ?_⟩
          have hbk : Bk wr gb 30 cur := hgb
          rw [hbk.cell k]
          have h1 : (cur.toList.take (A1.length * 1))[k]? = (A1.map (encU ∘ fun i : Nat => (i : Int)))[k]? := by rw [r4]
          rw [List.getElem?_take_of_lt (by omega), Array.getElem?_toList] at h1
          rw [h1]
          simp [hlt, encU]
      subst hB
      obtain ⟨x, hx⟩ : ∃ x, A1[k] = x := ⟨_, rfl⟩
      have hxl : x < 4294967296 := by rw [← hx]; exact HI1.out _ (List.getElem_mem hlt)
      rw [hx] at hc
      have CD := Lib.hid (cdrop g x (s.drops (A1.take k)) wr hM hxl)
      have NXT := Lib.hid (fun (w' : World) (hM' : CM w' g ((s.drops (A1.take k)).drop x)) (hk' : Kp (CK g (s.drops (A1.take k)) wr) wr w') => show CM w' g (s.drops (A1.take (k + 1))) ∧ Kp (CK g s w) w w' ∧ w'.ownsRow w.heap.size 30 1 (.slice (some ⟨b, 0, none⟩) A1.length c1) A1.length (A1.map (encU ∘ fun i : Nat => (i : Int))) from by
        refine ⟨?_, H.out.back hK (fun b hb => .inl hb) hk', own_ck hO hk' (by decide) (by decide)⟩
        rw [List.take_add_one, List.getElem?_eq_getElem hlt, hx]
        show CM w' g (s.drops (A1.take k ++ [x]))
        rw [CS.drops_snoc]
        exact hM')
      clear hM hK hO hx
      go_wp2_with fail
      refine CD.out.mono ?_
      rintro ev w2 ⟨rfl, hp⟩
      have P := Lib.hid (NXT.out w2 hp.1 hp.2)
      clear hp NXT CD
      go_wp2_with fail
      refine ⟨⟨k + 1, by go_num, by omega, P.out⟩, ?_⟩
      simp [intOf]; omega
    · have k1 : ¬ ((k : Int) < (A1.length : Int)) := by omega
      obtain rfl : k = A1.length := by omega
      rw [List.take_length] at hM
      have z7 : wr.cell? ⟨g, 7, none⟩ = some (.pointer (some ⟨s.gw, 0, none⟩)) := (hM.bk.cell 7).trans rfl
      have CO3 := CO2.out wr hM hK
      rw [← HA2.out, List.length_map, List.map_map] at CO3
      have COH3 := Lib.hid CO3
      have HM := Lib.hid hM
      have HK := Lib.hid hK
      clear hM hK hO CO2 OWN1 M1 CO3
      go_wp2_with fail
      refine COH3.out.mono ?_
      rintro ev w2 ⟨v2, rfl, own2, k2⟩
      obtain ⟨B2, c2, rfl, hq1, hq2, hq3⟩ := RdI.of_own (v := v2) (w := w2) (base := wr.heap.size) (e := 30) (n := A2.length) (k := .u32) (xs := A2.map (fun i : Nat => (i : Int))) (by rw [show intsK .u32 (A2.map (fun i : Nat => (i : Int))) = A2.map (encU ∘ fun i : Nat => (i : Int)) by simp [intsK, encU]]; exact own2)
      clear hq1 hq2 hq3
      have OWN2 := Lib.hid (Go.Proofs.ownsRow_base_a own2 HK.out.size)
      have M2 := Lib.hid (show CM w2 g ((s.drops A1).rels (A2.take 0)) ∧ Kp (CK g s w) w w2 from ⟨HM.out.none_kept k2, HK.out.trans k2 (fun _ _ f => f.elim)⟩)
      have l02 : (0 : Int) ≤ (A2.length : Int) := by omega
      clear own2 k2 COH3 z7 l0 k0 k1 hlt hk
      go_wp2_with fail
      go_loopw [7, 32] (fun v7 v32 wx => ∃ k : Nat, v32 = .int .i64 (k : Int) ∧ k ≤ A2.length ∧ CM wx g ((s.drops A1).rels (A2.take k)) ∧ Kp (CK g s w) w wx ∧ wx.ownsRow w.heap.size 30 1 (.slice B2 A2.length c2) A2.length (A2.map (encU ∘ fun i : Nat => (i : Int))) ∧ wx.ownsRow w.heap.size 3 1 v7 (outs (A2.take k) s.rows).length (intsK .i64 (outs (A2.take k) s.rows)) ∧ RBl w.heap.size ((s.drops A1).rels (A2.take k))) (fun _ v _ => A2.length - (intOf v).toNat)
      case atStart => exact ⟨0, rfl, Nat.zero_le _, M2.out.1, M2.out.2, OWN2.out, World.ownsRow_nil _ _ _ _, H.out.rb⟩
      case round =>
        obtain ⟨k, rfl, hk, hM, hK, hO, hR, hRB⟩ := hrel
        have k0 : (0 : Int) ≤ (k : Int) := by omega
        by_cases hlt : k < A2.length
        · have k1 : (k : Int) < (A2.length : Int) := by omega
          obtain ⟨b, hB, hc⟩ : ∃ b, B2 = some ⟨b, 0, none⟩ ∧ wr.cell? ⟨b, k, none⟩ = some (.int .u32 ((A2[k] : Nat) : Int)) := by
            rcases hO.2 with ⟨_, hl⟩ | ⟨gb, cap', cur, e, hb, hgb, r1, r2, r3, r4⟩
            · omega
            · injection e with e1 e2 e3
              refine ⟨gb, e1, ?_⟩
              have hbk : Bk wr gb 30 cur := hgb
              rw [hbk.cell k]
              have h1 : (cur.toList.take (A2.length * 1))[k]? = (A2.map (encU ∘ fun i : Nat => (i : Int)))[k]? := by rw [r4]
              rw [List.getElem?_take_of_lt (by omega), Array.getElem?_toList] at h1
              rw [h1]
              simp [hlt, encU]
          subst hB
          obtain ⟨x, hx⟩ : ∃ x, A2[k] = x := ⟨_, rfl⟩
          have hxl : x < 4294967296 := by rw [← hx]; exact HI2.out _ (List.getElem_mem hlt)
          rw [hx] at hc
          have hnx : x ∉ A2.take k := fun hm => by
            obtain ⟨j, hj, e⟩ := List.getElem_of_mem hm
            have hj2 : j < k := by rw [List.length_take] at hj; omega
            rw [List.getElem_take] at e
            exact (List.pairwise_iff_getElem.1 HN2.out) j k (by omega) hlt hj2 (by rw [hx]; exact e)
          have htk : tokof ((s.drops A1).rels (A2.take k)).rows x = tokof s.rows x := by
            show tokof (idels (A2.take k) s.rows) x = _
            unfold tokof
            rw [iget_idels hnx]
          have CD := crel2 g x ((s.drops A1).rels (A2.take k)) wr hM hxl
          rw [htk] at CD
          have eout : outs (A2.take (k + 1)) s.rows = outs (A2.take k) s.rows ++ tokof s.rows x := by
            rw [List.take_add_one, List.getElem?_eq_getElem hlt, hx]
            exact outs_snoc _ _ _
          have hlo := HLO.out k
          have htl : (tokof s.rows x).length ≤ 1000 := by
            unfold tokof
            cases hg : iget x s.rows with
            | none => exact Nat.zero_le _
            | some y => exact HLV.out y (iget_mem hg).1
          have CDH := Lib.hid CD
          have NXT := Lib.hid (fun (w' w'' : World) (v' : Value) (hM' : CM w' g (((s.drops A1).rels (A2.take k)).rel x)) (hk' : Kp (CK g ((s.drops A1).rels (A2.take k)) wr) wr w') (hgr : w'.grownBy w'' u7.ownBlock) (hv' : w''.ownsRow w.heap.size 3 1 v' ((outs (A2.take k) s.rows).length + (tokof s.rows x).length) (intsK .i64 (outs (A2.take k) s.rows) ++ intsK .i64 (tokof s.rows x))) => show CM w'' g ((s.drops A1).rels (A2.take (k + 1))) ∧ Kp (CK g s w) w w'' ∧ w''.ownsRow w.heap.size 30 1 (.slice (some ⟨b, 0, none⟩) A2.length c2) A2.length (A2.map (encU ∘ fun i : Nat => (i : Int))) ∧ w''.ownsRow w.heap.size 3 1 v' (outs (A2.take (k + 1)) s.rows).length (intsK .i64 (outs (A2.take (k + 1)) s.rows)) ∧ RBl w.heap.size ((s.drops A1).rels (A2.take (k + 1))) from by
            have hR' := own_ck hR hk' (by decide) (by decide)
            have hO' := own_ck hO hk' (by decide) (by decide)
            have hkg : Kp (fun b => u7.ownBlock = some b) w' w'' := (Kp.refl _ w').grown hgr (fun q hq => .inl hq)
            have hrb := hRB.rel (i := x) hM.rs hM.rm.keys
            have e1 : ((s.drops A1).rels (A2.take (k + 1))) = ((s.drops A1).rels (A2.take k)).rel x := by
              rw [List.take_add_one, List.getElem?_eq_getElem hlt, hx]
              show (s.drops A1).rels (A2.take k ++ [x]) = _
              rw [CS.rels_snoc]
            have hge : ∀ q, u7.ownBlock = some q → w.heap.size ≤ q := fun q hq => (hR'.lt q hq).1
            rw [eout, e1, intsK_app, List.length_append]
            refine ⟨hM'.kept_rb hrb hkg (fun q hq hs => ?_) (fun q hq hs => ?_), (H.out.back hK (fun b hb => .inl hb) hk').grown hgr (fun q hq => .inr (hge q hq)), own_kp hO' hkg (fun q hq hs => ?_), hv', hrb⟩
            · have h1 := H.out.lt (show cfp g s q from hq)
              have h2 := hge q hs
              omega
            · have h2 := hge q hs
              omega
            · rcases hO'.2 with ⟨e, _⟩ | ⟨gb, cap', cur, e, _, hgb, _⟩
              · cases e
              · rcases hR'.2 with ⟨e3, _⟩ | ⟨gb3, cap3, cur3, e3, _, hgb3, _⟩
                · rw [e3] at hs; cases hs
                · rw [e] at hq
                  rw [e3] at hs
                  obtain rfl : gb = q := Option.some.inj hq
                  obtain rfl : gb3 = gb := Option.some.inj hs
                  rw [hgb] at hgb3
                  injection hgb3 with hgb3
                  injection hgb3 with _ h3
                  exact absurd h3 (by decide))
          have KEEPR := Lib.hid (fun (w' : World) (hk' : Kp (CK g ((s.drops A1).rels (A2.take k)) wr) wr w') => show w'.ownsRow w.heap.size 3 1 u7 (outs (A2.take k) s.rows).length (intsK .i64 (outs (A2.take k) s.rows)) ∧ w.heap.size ≤ w'.heap.size from ⟨own_ck hR hk' (by decide) (by decide), Nat.le_trans hK.size hk'.size⟩)
          clear hM hK hO hR hRB hx htk hnx eout CD
          generalize htl0 : (tokof s.rows x).length = m at *
          generalize hol : (outs (A2.take k) s.rows).length = q at *
          go_wp2_with fail
          refine CDH.out.mono ?_
          rintro ev w3 ⟨A, c3, rfl, hA, hN, hM', hk'⟩
          have HKP := Lib.hid hk'
          have HMP := Lib.hid hM'
          have HAP := Lib.hid hA
          have HTL := Lib.hid htl0
          have KR := Lib.hid (KEEPR.out w3 hk')
          clear hM' hk' hA CDH htl0 hol
          cases A with
          | none =>
            obtain rfl : c3 = 0 := hN rfl
            have hm0 : m = 0 := by
              rw [← HTL.out]
              rcases HAP.out.1.2 with h | ⟨_, _, h, _⟩
              · exact h
              · cases h
            subst hm0
            clear hN
            have FIN := Lib.hid (NXT.out w3 w3 u7 HMP.out HKP.out ⟨rfl, rfl, rfl, Nat.le_refl _, fun _ _ _ => rfl⟩ (by
              have ht0 : tokof s.rows x = [] := List.eq_nil_of_length_eq_zero HTL.out
              rw [ht0]
              simpa [intsK] using KR.out.1))
            go_wp2_with
              (at_builtin
               go_must (refine wpList_append_own_none rfl (.tmp 36) (.tmp 39) 35 rfl w.heap.size 3 i0 1 Tryz.underlying35 hi0 u7 q (intsK .i64 (outs (A2.take k) s.rows)) rfl KR.out.1 rfl ?_))
            refine ⟨⟨k + 1, by go_num, by omega, FIN.out⟩, ?_⟩
            simp [intOf]; omega
          | some a =>
            have HCL := Lib.hid HAP.out.cells
            have hml : m ≤ 1000 := htl
            go_wp2_with
              (at_builtin
               go_must (
                 refine wpList_append_own _ rfl (.tmp 36) (.tmp 39) 35 rfl w.heap.size 3 i0 _ 1 8 Tryz.underlying35 hi0 hz0 hz1 hz2 rfl (by omega) u7 q (intsK .i64 (outs (A2.take k) s.rows)) rfl KR.out.1 a m c3 (intsK .i64 (tokof s.rows x)) rfl (by rw [intsK_len, HTL.out, Nat.mul_one]) HCL.out (intsK_one _) (by omega) (by omega) KR.out.2 ?_
                 intro v4 w4 own4 hgrow4 _
                 have FIN := Lib.hid (NXT.out w3 w4 v4 HMP.out HKP.out hgrow4 own4)
                 clear own4 hgrow4))
            refine ⟨⟨k + 1, by go_num, by omega, FIN.out⟩, ?_⟩
            simp [intOf]; omega
        · have k1 : ¬ ((k : Int) < (A2.length : Int)) := by omega
          obtain rfl : k = A2.length := by omega
          rw [List.take_length] at hM hR
          have P := Lib.hid (And.intro hM (And.intro hK hR))
          clear hM hK hO hR hRB
          go_wp2_with fail
          exact bodyPost_ret (results_tmp rfl _ _ _) rfl ⟨u7, A1, A2, rfl, HA1.out, HA2.out, P.out.2.2, P.out.1, P.out.2.1⟩
end Go.Proofs.YtgidjgkafbjkpaaGreatDoor
