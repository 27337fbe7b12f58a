/- Take, whatever is wished for; the walk of PortsAll. -/
import Derived.Test.YtconpcnmccmbiaaDoorPj
namespace Go.Proofs.YtconpcnmccmbiaaDoor
open Go.RowKit

/-- Which port is taken, and where the mark is then. -/
def TakeIs (l m mk : Nat) (T : Nat → Bool) (a : Int) (k mk' : Nat) : Prop :=
  isPort l m a = true ∧ T (a - l).toNat = false ∧ k = (a - l).toNat ∧ mk' = mk ∨ (isPort l m a = false ∨ T (a - l).toNat = true) ∧ Next T mk m k ∧ mk' = (k + 1) % m
theorem TakeIs.lt {l m mk : Nat} {T : Nat → Bool} {a : Int} {k mk' : Nat} (h : TakeIs l m mk T a k mk') : k < m := by
  rcases h with ⟨h, _, rfl, _⟩ | ⟨_, h, _⟩
  · have := isPort_yes h; omega
  · exact h.lt
theorem TakeIs.free {l m mk : Nat} {T : Nat → Bool} {a : Int} {k mk' : Nat} (h : TakeIs l m mk T a k mk') : T k = false := by
  rcases h with ⟨_, h, rfl, _⟩ | ⟨_, h, _⟩
  · exact h
  · exact h.free

theorem take_any (g gw l m mk : Nat) (T : Nat → Bool) (a : Int) (w : World) (h : Rng w g gw l m mk T) (b1' : -9223372036854775808 ≤ a) (b2' : a ≤ 9223372036854775807) (hc : cnt T m ≠ 0) :
    Calls Tryd.prog 24 #[.pointer (some ⟨g, 0, none⟩), .int .i64 a] w fun e w' => ∃ k mk', TakeIs l m mk T a k mk' ∧ e = .returned (.tuple #[.int .i64 ((k : Int) + l), .int .i64 0]) ∧ Rng w' g gw l m mk' (upd T k true) ∧ Kp (fun b => b = g ∨ b = gw) w w' := by
  cases hp : isPort l m a with
  | true =>
    obtain ⟨h1, h2⟩ := isPort_yes hp
    cases hT : T (a - l).toNat with
    | false =>
      refine (take_wish g gw l m mk T a w h h1 h2 hT).mono ?_
      rintro e w' ⟨rfl, hr, hk⟩
      exact ⟨(a - l).toNat, mk, .inl ⟨hp, hT, rfl, rfl⟩, ret_two (by omega) rfl, hr, hk⟩
    | true =>
      obtain ⟨k, hk⟩ := next_or T mk m hc
      refine (take_next g gw l m mk T a k w h b1' b2' (.inr ⟨⟨h1, h2⟩, hT⟩) hk).mono ?_
      rintro e w' ⟨rfl, hr, hk'⟩
      exact ⟨k, _, .inr ⟨.inr hT, hk, rfl⟩, rfl, hr, hk'⟩
  | false =>
    obtain ⟨k, hk⟩ := next_or T mk m hc
    refine (take_next g gw l m mk T a k w h b1' b2' (.inl (isPort_no hp)) hk).mono ?_
    rintro e w' ⟨rfl, hr, hk'⟩
    exact ⟨k, _, .inr ⟨.inl hp, hk, rfl⟩, rfl, hr, hk'⟩

theorem takenL_all (T : Nat → Bool) (l m : Nat) : (∀ k, k < m → T k = true) → takenL T l m = (List.range m).map fun (k : Nat) => (k : Int) + (l : Int) := by
  intro h
  unfold takenL
  congr 1
  exact List.filter_eq_self.2 (fun k hk => h k (by simpa using hk))
theorem takenL_none (T : Nat → Bool) (l m : Nat) : (∀ k, k < m → T k = false) → takenL T l m = [] := by
  intro h
  unfold takenL
  rw [List.filter_eq_nil_iff.2 (fun k hk => by rw [h k (by simpa using hk)]; simp)]
  rfl
theorem allL_getD (l m j : Nat) (h : j < m) : ((List.range m).map fun (k : Nat) => (k : Int) + (l : Int)).getD j 0 = (j : Int) + l := by
  simp [h]

set_option maxRecDepth 100000 in
set_option maxHeartbeats 8000000 in
theorem all_walk (a mn : Int) (A : Option Addr) (c : Nat) (xs : List Int) (w : World) (hT : Tab w) (h1 : 0 ≤ mn) (h2 : mn ≤ 255) (hx : RdI w .i64 A xs) (hb : ∀ j, -9223372036854775808 ≤ xs.getD j 0 ∧ xs.getD j 0 ≤ 9223372036854775807) :
    Calls Tryd.prog 5 #[.int .i64 a, .int .u8 mn, .slice A xs.length c] w fun e w' => e = .returned (.bool true) ∧ Kp (fun _ => False) w w' := by
  have HT := Lib.hid hT
  have hlt := hT.lt
  have Hb := Lib.hid hb
  have Hx := Lib.hid hx
  have hxl := hx.1
  clear hT hb hx
  by_cases ha : a < 1
  · go_enter Tryd.func5, Tryd.ntmps5
    go_wp2_with fail
    refine (alive18 _ HT.out).mono ?_
    rintro e w1 ⟨rfl, k1⟩
    go_wp2_with fail
    go_ret
    exact ⟨rfl, k1⟩
  by_cases ha2 : 65000 < a
  · go_enter Tryd.func5, Tryd.ntmps5
    go_wp2_with fail
    refine (alive18 _ HT.out).mono ?_
    rintro e w1 ⟨rfl, k1⟩
    go_wp2_with fail
    go_ret
    exact ⟨rfl, k1⟩
  by_cases hl3 : (300 : Int) < (xs.length : Int)
  · go_enter Tryd.func5, Tryd.ntmps5
    go_wp2_with fail
    refine (alive18 _ HT.out).mono ?_
    rintro e w1 ⟨rfl, k1⟩
    go_wp2_with fail
    go_ret
    exact ⟨rfl, k1⟩
  obtain ⟨l, rfl⟩ := Int.eq_ofNat_of_zero_le (show 0 ≤ a by omega)
  obtain ⟨n, hn⟩ : ∃ n : Nat, mn % 60 + 1 = n := ⟨(mn % 60 + 1).toNat, by omega⟩
  have hn1 : 1 ≤ n := by omega
  have hn2 : n ≤ 60 := by omega
  go_enter Tryd.func5, Tryd.ntmps5
  go_wp2_with fail
  refine (alive18 _ HT.out).mono ?_
  rintro e w1 ⟨rfl, k1⟩
  go_wp2_with fail
  refine (new_ok (l + n - 1) l n _ (by omega) hn1 (by omega) rfl (HT.out.kept k1 (fun f => f))).mono ?_
  rintro e w2 ⟨g, gw, rfl, r2, q1, q2, k2⟩
  have hs1 := k1.size
  have K2 := k1.trans k2 (fun _ _ f => f)
  clear k1 k2
  go_wp2_with fail
  go_loopw [10] (fun v wr => ∃ (i mk : Nat) (T : Nat → Bool), v = .int .i64 i ∧ i ≤ n ∧ Rng wr g gw l n mk T ∧ cnt T n + i = n ∧ Kp (fun _ => False) w wr) (fun v _ => n - (intOf v).toNat)
  case atStart => exact ⟨0, 0, fun _ => false, rfl, by omega, r2, cnt_none _ _ (fun _ _ => rfl), K2⟩
  case round =>
    obtain ⟨i, mk, T, rfl, hi, hr, hcn, hk⟩ := hrel
    have Hcn := Lib.hid hcn
    have Hk := Lib.hid hk
    have Hr := Lib.hid hr
    clear hcn hk hr
    by_cases hlt : i < n
    · have hw : ∃ y : Int, -9223372036854775808 ≤ y ∧ y ≤ 9223372036854775807 := ⟨0, by omega, by omega⟩
      by_cases hiw : i < xs.length
      · have hy := Hb.out i
        obtain ⟨b, o, rfl, hc⟩ : ∃ b o, A = some ⟨b, o, none⟩ ∧ ∀ j, j < xs.length → wr.cell? ⟨b, o + j, none⟩ = some (.int .i64 (xs.getD j 0)) := by
          rcases (Hx.out.kp Hk.out (fun _ _ _ f => f)).2 with h | h
          · omega
          · exact h
        have hci := hc i hiw
        generalize xs.getD i 0 = y at hci hy
        have hiw1 : (0 : Int) ≤ (i : Int) := by omega
        have hiw2 : (i : Int) < (xs.length : Int) := by omega
        have hy1 := hy.1
        have hy2 := hy.2
        clear hc
        go_wp2_with fail
        refine (take_any g gw l n mk T y _ Hr.out hy1 hy2 (by have := Hcn.out; omega)).mono ?_
        rintro e w3 ⟨k, mk', ht, rfl, r3, k3⟩
        have Ht := Lib.hid ht
        have Hr3 := Lib.hid r3
        clear ht r3
        go_wp2_with fail
        go_roundw
        case rel => exact ⟨i + 1, mk', _, by go_num, by omega, Hr3.out, by have q1 := Hcn.out; have q2 := cnt_lay T k n Ht.out.lt Ht.out.free; omega, Hk.out.trans k3 (fun k _ hk => by rcases hk with rfl | rfl <;> omega)⟩
        case measure => simp [intOf]; omega
      · have hiw2 : ¬ ((i : Int) < (xs.length : Int)) := by omega
        go_wp2_with fail
        refine (take_any g gw l n mk T 0 _ Hr.out (by omega) (by omega) (by have := Hcn.out; omega)).mono ?_
        rintro e w3 ⟨k, mk', ht, rfl, r3, k3⟩
        have Ht := Lib.hid ht
        have Hr3 := Lib.hid r3
        clear ht r3
        go_wp2_with fail
        go_roundw
        case rel => exact ⟨i + 1, mk', _, by go_num, by omega, Hr3.out, by have q1 := Hcn.out; have q2 := cnt_lay T k n Ht.out.lt Ht.out.free; omega, Hk.out.trans k3 (fun k _ hk => by rcases hk with rfl | rfl <;> omega)⟩
        case measure => simp [intOf]; omega
    · have hall := cnt_zero T n (by have := Hcn.out; omega)
      have Hall := Lib.hid hall
      clear hall
      go_wp2_with fail
      refine (all_any g gw l n mk T _ Hr.out).mono ?_
      rintro e w3 ⟨v, rfl, hown, k3⟩
      obtain ⟨B, d, rfl, hlen, hrd, hB⟩ := RdI.of_own (k := .i64) (xs := takenL T l n) hown
      have hz3 := Hr.out.lt
      rw [takenL_all T l n Hall.out] at hrd
      have hlen2 : (takenL T l n).length = n := by rw [takenL_all T l n Hall.out]; simp
      rw [hlen2]
      have Hrd := Lib.hid hrd
      have HB := Lib.hid hB
      have Hr3 := Lib.hid (Hr.out.kept k3 (fun f => f) (fun f => f) (fun f => f))
      have Hk3 := Lib.hid (Hk.out.trans k3 (fun _ _ f => f))
      have hs3 := Hk.out.size
      clear hlen hlen2 hrd hB hown k3
      go_wp2_with fail
      refine (take_full g gw l n mk T l _ Hr3.out Hall.out).mono ?_
      rintro e w4 ⟨rfl, rfl⟩
      go_wp2_with fail
      refine (left_any g gw l n mk T _ Hr3.out).mono ?_
      rintro e w4 ⟨rfl, rfl⟩
      rw [cnt_all T n Hall.out]
      go_wp2_with fail
      obtain ⟨b, o, rfl, hc⟩ : ∃ b o, B = some ⟨b, o, none⟩ ∧ ∀ j, j < n → w3.cell? ⟨b, o + j, none⟩ = some (.int .i64 ((j : Int) + l)) := by
        rcases Hrd.out.2 with h | ⟨b, o, hB, hc⟩
        · simp at h; omega
        · exact ⟨b, o, hB, fun j hj => (hc j (by simpa using hj)).trans (by rw [allL_getD l n j hj])⟩
      have hbge := HB.out b o rfl
      have Hc := Lib.hid hc
      clear hc
      have hgne : b ≠ g ∧ b ≠ gw := by omega
      have hz4 := Hr3.out.lt
      go_loopw [17] (fun v wr => ∃ (j : Nat) (mk : Nat) (U : Nat → Bool), v = .int .i64 j ∧ j ≤ n ∧ Rng wr g gw l n mk U ∧ (∀ k, k < n → U k = decide (j ≤ k)) ∧ Kp (fun _ => False) w wr ∧ Kp (fun k => k = g ∨ k = gw) w3 wr) (fun v _ => n - (intOf v).toNat)
      case atStart => exact ⟨0, mk, T, rfl, by omega, Hr3.out, fun k hk => by rw [Hall.out k hk]; simp, Hk3.out, Kp.refl _ _⟩
      case round =>
        obtain ⟨j, mk2, U, rfl, hj, hr4, hU, hk4, hk5⟩ := hrel
        have HU := Lib.hid hU
        have Hr4 := Lib.hid hr4
        have Hk4 := Lib.hid hk4
        have Hk5 := Lib.hid hk5
        by_cases hjn : j < n
        · have hcj := (hk5.cell (p := ⟨b, o + j, none⟩) (World.block_lt_of_cell? _ _ (Hc.out j hjn)) (show ¬ (b = g ∨ b = gw) by omega)).trans (Hc.out j hjn)
          have hj1 : (0 : Int) ≤ (j : Int) := by omega
          have hj2 : (j : Int) < (n : Int) := by omega
          have hto : (((j : Int) + (l : Int)) - (l : Int)).toNat = j := by omega
          have hp : isPort l n ((j : Int) + (l : Int)) = true := decide_eq_true (by omega)
          have hUj : U (((j : Int) + (l : Int)) - (l : Int)).toNat = true := by rw [hto, hU j hjn]; simp
          have Hto := Lib.hid hto
          have Hp := Lib.hid hp
          have HUj := Lib.hid hUj
          have hcm : ((j : Int) + (l : Int) != (l : Int) + (j : Int)) = false := by simp; omega
          clear hto hp hUj hU hr4 hk4 hk5
          go_wp2_with fail
          refine (give_taken g gw l n mk2 U ((j : Int) + l) _ Hr4.out Hp.out HUj.out).mono ?_
          rintro e w5 ⟨rfl, r5, k5⟩
          rw [Hto.out] at r5
          have Hr5 := Lib.hid r5
          clear r5
          go_wp2_with fail
          go_roundw
          case rel => exact ⟨j + 1, mk2, _, by go_num, by omega, Hr5.out, fun k hk => by
            unfold upd
            by_cases he : k = j
            · rw [if_pos he]; symm; simp; omega
            · rw [if_neg he, HU.out k hk, decide_eq_decide]; omega, Hk4.out.trans k5 (fun k _ hk => by rcases hk with rfl | rfl <;> omega), Hk5.out.trans' k5⟩
          case measure => simp [intOf]; omega
        · have hnone : ∀ k, k < n → U k = false := fun k hk => by rw [hU k hk]; simp; omega
          have Hnone := Lib.hid hnone
          clear hnone hU hr4 hk4 hk5
          go_wp2_with fail
          refine (left_any g gw l n mk2 U _ Hr4.out).mono ?_
          rintro e w5 ⟨rfl, rfl⟩
          rw [cnt_none U n Hnone.out]
          go_wp2_with fail
          refine (all_any g gw l n mk2 U _ Hr4.out).mono ?_
          rintro e w5 ⟨v5, rfl, hown5, k5⟩
          rw [takenL_none U l n Hnone.out] at hown5
          obtain ⟨B5, d5, rfl, hlen5, _⟩ := RdI.of_own (k := .i64) (xs := []) hown5
          rw [show ([] : List Int).length = 0 from rfl]
          go_wp2_with fail
          go_ret
          exact ⟨rfl, Hk4.out.trans k5 (fun _ _ f => f)⟩
end Go.Proofs.YtconpcnmccmbiaaDoor
