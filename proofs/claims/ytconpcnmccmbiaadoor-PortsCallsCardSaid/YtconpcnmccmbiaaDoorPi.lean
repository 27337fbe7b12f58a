/- The ports' alive: three ports. -/
import Derived.Test.YtconpcnmccmbiaaDoorPh
import Derived.Test.YtconpcnmccmbiaaDoorSi
namespace Go.Proofs.YtconpcnmccmbiaaDoor
open Go.RowKit

theorem Rng.far {w w' : World} {g gw l m mk g' gw' : Nat} {T : Nat → Bool} (h : Rng w g gw l m mk T) (hk : Kp (fun b => b = g' ∨ b = gw') w w') (h1 : g ≠ g') (h2 : g ≠ gw') (h3 : gw ≠ g') (h4 : gw ≠ gw') (h5 : 2 ≤ g') (h6 : 2 ≤ gw') : Rng w' g gw l m mk T :=
  h.kept hk (by rintro (h | h) <;> omega) (by rintro (h | h) <;> omega) (by rintro (h | h) <;> omega)

def alT1 : Nat → Bool := upd (fun _ => false) 1 true
def alT2 : Nat → Bool := upd alT1 0 true
def alT3 : Nat → Bool := upd alT2 2 true
def alT4 : Nat → Bool := upd alT3 1 false
def alT5 : Nat → Bool := upd alT4 1 true
theorem alN2 : Next alT1 0 3 0 := .inl ⟨by omega, by omega, by decide, fun j _ h => by omega⟩
theorem alN3 : Next alT2 1 3 2 := .inl ⟨by omega, by omega, by decide, fun j h1 h2 => by
  obtain rfl : j = 1 := by omega
  decide⟩
theorem alF3 : ∀ k, k < 3 → alT3 k = true := by decide
theorem alN5 : Next alT4 0 3 1 := .inl ⟨by omega, by omega, by decide, fun j h1 h2 => by
  obtain rfl : j = 0 := by omega
  decide⟩

set_option maxRecDepth 100000 in
set_option maxHeartbeats 4000000 in
theorem alive18 (w : World) (hT : Tab w) :
    Calls Tryd.prog 15 #[] w fun e w' => e = .returned (.bool true) ∧ Kp (fun _ => False) w w' := by
  have HT := Lib.hid hT
  have hlt := hT.lt
  clear hT
  go_enter Tryd.func15, Tryd.ntmps15
  go_wp2_with fail
  refine (new_ok 12 10 3 _ (by omega) (by omega) (by omega) (by omega) HT.out).mono ?_
  rintro e w1 ⟨g, gw, rfl, r1, q1, q2, k1⟩
  have z1 := r1.lt
  go_wp2_with fail
  refine (new_bad 0 12 _ (.inl (by omega))).mono ?_
  rintro e w2 ⟨rfl, rfl⟩
  go_wp2_with fail
  refine (take_wish g gw 10 3 0 _ 11 _ r1 (by omega) (by omega) rfl).mono ?_
  rintro e w2 ⟨rfl, r2, k2⟩
  replace r2 : Rng w2 g gw 10 3 0 alT1 := r2
  go_wp2_with fail
  refine (take_next g gw 10 3 0 _ 11 0 _ r2 (by omega) (by omega) (.inr ⟨⟨by omega, by omega⟩, rfl⟩) alN2).mono ?_
  rintro e w3 ⟨rfl, r3, k3⟩
  replace r3 : Rng w3 g gw 10 3 1 alT2 := r3
  go_wp2_with fail
  refine (take_next g gw 10 3 1 _ 0 2 _ r3 (by omega) (by omega) (.inl (by omega)) alN3).mono ?_
  rintro e w4 ⟨rfl, r4, k4⟩
  replace r4 : Rng w4 g gw 10 3 0 alT3 := r4
  go_wp2_with fail
  refine (take_full g gw 10 3 0 _ 10 _ r4 alF3).mono ?_
  rintro e w5 ⟨rfl, rfl⟩
  go_wp2_with fail
  refine (clone_any g gw 10 3 0 _ _ r4).mono ?_
  rintro e w5 ⟨g2, gw2, rfl, x5, y1, y2, k5⟩
  have z4 := r4.lt
  have r5 := r4.kept k5 (fun f => f) (fun f => f) (fun f => f)
  have b5 := r5.bounds
  go_wp2_with fail
  refine (give_taken g gw 10 3 0 _ 11 _ r5 rfl rfl).mono ?_
  rintro e w6 ⟨rfl, r6, k6⟩
  replace r6 : Rng w6 g gw 10 3 0 alT4 := r6
  have x6 := x5.far k6 (by omega) (by omega) (by omega) (by omega) (by omega) (by omega)
  go_wp2_with fail
  refine (give_free g gw 10 3 0 _ 11 _ r6 rfl rfl).mono ?_
  rintro e w7 ⟨rfl, n7, rfl⟩
  go_wp2_with fail
  refine (give_out g gw 10 3 0 _ 13 _ (r6.drewN n7) (by omega) (by omega) rfl).mono ?_
  rintro e w7 ⟨rfl, n8, rfl⟩
  go_wp2_with fail
  refine (take_next g gw 10 3 0 _ 99 1 _ (r6.drewN (n7 + n8)) (by omega) (by omega) (.inl (by omega)) alN5).mono ?_
  rintro e w8 ⟨rfl, r8, k8⟩
  replace r8 : Rng w8 g gw 10 3 2 alT5 := r8
  have x8 := (x6.drewN (n7 + n8)).far k8 (by omega) (by omega) (by omega) (by omega) (by omega) (by omega)
  go_wp2_with fail
  refine (taken_pub g gw 10 3 2 _ 11 _ r8 (by omega) (by omega)).mono ?_
  rintro e w9 ⟨rfl, n9, rfl⟩
  rw [show isTaken 10 3 alT5 11 = true from rfl]
  go_wp2_with fail
  refine (taken_pub g gw 10 3 2 _ 13 _ (r8.drewN n9) (by omega) (by omega)).mono ?_
  rintro e w9 ⟨rfl, n10, rfl⟩
  rw [show isTaken 10 3 alT5 13 = false from rfl]
  go_wp2_with fail
  refine (left_any g gw 10 3 2 _ _ (r8.drewN (n9 + n10))).mono ?_
  rintro e w9 ⟨rfl, rfl⟩
  rw [show cnt alT5 3 = 0 from rfl]
  go_wp2_with fail
  refine (many_any g gw 10 3 2 _ _ (r8.drewN (n9 + n10))).mono ?_
  rintro e w9 ⟨rfl, rfl⟩
  go_wp2_with fail
  refine (all_any g2 gw2 10 3 0 _ _ (x8.drewN (n9 + n10))).mono ?_
  rintro e w9 ⟨v, rfl, hown, k9⟩
  obtain ⟨A, c, rfl, _, hrd, _⟩ := RdI.of_own (k := .i64) (xs := takenL alT3 10 3) hown
  have ha : takenL alT3 10 3 = [10, 11, 12] := rfl
  rw [ha] at hrd
  rw [ha]
  clear ha hown
  go_wp2_with fail
  refine (sameInts_any A (some ⟨w9.heap.size, 0, none⟩) c 3 [10, 11, 12] [10, 11, 12] _ (hrd.alloc _) (RdI.new w9 .i64 3 [10, 11, 12] (by simp))).mono ?_
  rintro e w10 ⟨rfl, n11, rfl⟩
  rw [show ([10, 11, 12] == ([10, 11, 12] : List Int)) = true from by decide]
  go_wp2_with fail
  go_ret
  have K2 := k1.trans k2 (fun k _ hk => by rcases hk with rfl | rfl <;> omega)
  have K3 := K2.trans k3 (fun k _ hk => by rcases hk with rfl | rfl <;> omega)
  have K4 := K3.trans k4 (fun k _ hk => by rcases hk with rfl | rfl <;> omega)
  have K5 := K4.trans k5 (fun k _ hk => hk)
  have K6 := K5.trans k6 (fun k _ hk => by rcases hk with rfl | rfl <;> omega)
  have K8 := (K6.drewN (n7 + n8)).trans k8 (fun k _ hk => by rcases hk with rfl | rfl <;> omega)
  have K9 := (K8.drewN (n9 + n10)).trans k9 (fun k _ hk => hk)
  exact ⟨rfl, (K9.alloc _).drewN _⟩
end Go.Proofs.YtconpcnmccmbiaaDoor
