/- The walk of PortsRound. -/
import Derived.Test.YtconpcnmccmbiaaDoorPi
namespace Go.Proofs.YtconpcnmccmbiaaDoor
open Go.RowKit

theorem first_here {T : Nat → Bool} {m k : Nat} (hk : k < m) (h : T k = false) : First T k m k := ⟨Nat.le_refl _, hk, h, fun j h1 h2 => by omega⟩
theorem succ_mod (i n : Nat) : (i % n + 1) % n = (i + 1) % n := by simp

set_option maxRecDepth 100000 in
set_option maxHeartbeats 4000000 in
theorem round_walk (a mn tm : Int) (w : World) (hT : Tab w) (h1 : 0 ≤ mn) (h2 : mn ≤ 255) (h3 : 0 ≤ tm) (h4 : tm ≤ 255) :
    Calls Tryd.prog 6 #[.int .i64 a, .int .u8 mn, .int .u8 tm] w fun e w' => e = .returned (.bool true) ∧ Kp (fun _ => False) w w' := by
  have HT := Lib.hid hT
  have hlt := hT.lt
  clear hT
  by_cases ha : a < 1
  · go_enter Tryd.func6, Tryd.ntmps6
    go_wp2_with fail
    refine (alive18 _ HT.out).mono ?_
    rintro e w1 ⟨rfl, k1⟩
    go_wp2_with fail
    go_ret
    exact ⟨rfl, k1⟩
  by_cases hb : 65000 < a
  · go_enter Tryd.func6, Tryd.ntmps6
    go_wp2_with fail
    refine (alive18 _ HT.out).mono ?_
    rintro e w1 ⟨rfl, k1⟩
    go_wp2_with fail
    go_ret
    exact ⟨rfl, k1⟩
  obtain ⟨l, rfl⟩ := Int.eq_ofNat_of_zero_le (show 0 ≤ a by omega)
  obtain ⟨n, hn⟩ : ∃ n : Nat, mn % 20 + 1 = n := ⟨(mn % 20 + 1).toNat, by omega⟩
  have hn1 : 1 ≤ n := by omega
  have hn2 : n ≤ 20 := by omega
  go_enter Tryd.func6, Tryd.ntmps6
  go_wp2_with fail
  refine (alive18 _ HT.out).mono ?_
  rintro e w1 ⟨rfl, k1⟩
  go_wp2_with fail
  refine (new_ok (l + n - 1) l n _ (by omega) hn1 (by omega) rfl (HT.out.kept k1 (fun f => f))).mono ?_
  rintro e w2 ⟨g, gw, rfl, r2, q1, q2, k2⟩
  have hs1 := k1.size
  go_wp2_with fail
  have hn0 : (1 : Int) ≤ (n : Int) := by omega
  go_loopw [10] (fun v wr => ∃ (i : Nat) (T : Nat → Bool), v = .int .i64 i ∧ (i : Int) ≤ tm ∧ Rng wr g gw l n (i % n) T ∧ (∀ k, k < n → T k = false) ∧ Kp (fun _ => False) w wr) (fun v _ => 255 - (intOf v).toNat)
  case atStart => exact ⟨0, fun _ => false, rfl, by omega, by simpa using r2, fun _ _ => rfl, k1.trans k2 (fun _ _ f => f)⟩
  case round =>
    obtain ⟨i, T, rfl, hi, hr, hF, hk⟩ := hrel
    have HF := Lib.hid hF
    have hmod : i % n < n := Nat.mod_lt _ (by omega)
    have Hnx : Hid (Next T (i % n) n (i % n)) := .inl (first_here hmod (hF _ hmod))
    clear hF
    by_cases hlt : (i : Int) < tm
    · go_wp2_with fail
      refine (take_next g gw l n (i % n) T 0 (i % n) _ hr (by omega) (by omega) (.inl (by omega)) Hnx.out).mono ?_
      rintro e w3 ⟨rfl, r3, k3⟩
      have e1 : ((i % n : Nat) : Int) + (l : Int) = (l : Int) + ((i % n : Nat) : Int) := by omega
      have hcm : cnt (upd T (i % n) true) n + 1 = n := by
        rw [cnt_lay T _ n hmod (HF.out _ hmod)]
        exact cnt_none _ _ HF.out
      have hcm2 : ((cnt (upd T (i % n) true) n : Nat) : Int) = (n : Int) - 1 := by omega
      clear hcm
      go_wp2_with fail
      refine (left_any g gw l n _ _ _ r3).mono ?_
      rintro e w4 ⟨rfl, rfl⟩
      go_wp2_with fail
      have hto : (((l : Int) + (i : Int) % (n : Int)) - (l : Int)).toNat = i % n := by
        have : (i : Int) % (n : Int) = ((i % n : Nat) : Int) := by simp
        omega
      have hp : isPort l n ((l : Int) + (i : Int) % (n : Int)) = true := by
        have : (i : Int) % (n : Int) = ((i % n : Nat) : Int) := by simp
        unfold isPort
        exact decide_eq_true (by omega)
      refine (give_taken g gw l n _ _ _ _ r3 hp (by rw [hto]; simp [upd])).mono ?_
      rintro e w4 ⟨rfl, r4, k4⟩
      rw [hto] at r4
      have Hto := Lib.hid hto
      have Hr4 := Lib.hid r4
      clear hto hp r4 hcm2 e1
      go_wp2_with fail
      go_roundw
      case rel =>
        refine ⟨i + 1, _, by go_num, by omega, by rw [← succ_mod i n]; exact Hr4.out, ?_, (hk.trans k3 (fun k _ hk => by rcases hk with rfl | rfl <;> omega)).trans k4 (fun k _ hk => by rcases hk with rfl | rfl <;> omega)⟩
        intro k hk
        unfold upd
        split
        · rfl
        · exact HF.out k hk
      case measure => simp [intOf]; omega
    · have hcn : cnt T n = n := cnt_none _ _ HF.out
      have Hcn := Lib.hid hcn
      clear hcn
      go_wp2_with fail
      refine (left_any g gw l n _ _ _ hr).mono ?_
      rintro e w4 ⟨rfl, rfl⟩
      rw [Hcn.out]
      go_wp2_with fail
      go_ret
      exact ⟨ret_bool (by simp), hk⟩
end Go.Proofs.YtconpcnmccmbiaaDoor
