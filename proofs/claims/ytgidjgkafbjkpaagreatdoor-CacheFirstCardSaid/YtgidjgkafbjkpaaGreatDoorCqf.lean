/- Cache: CacheFirst's walk. -/
import Derived.Test.YtgidjgkafbjkpaaGreatDoorCao
import Derived.Test.YtgidjgkafbjkpaaGreatDoorCap
set_option linter.unusedVariables false
set_option linter.unusedSimpArgs false
namespace Go.Proofs.YtgidjgkafbjkpaaGreatDoor
open Go.RowKit

/-- One row of tokens, i of which have come. -/
def fv (room wait ip due : Nat) (ts : List Int) (E : List En) (c i : Nat) : CV :=
  ⟨room, wait, 10, 10, if i = 0 then c else c + 1, E, if i = 0 then [] else [⟨ip, ts.take (min i wait), c + 1, due⟩]⟩
theorem iget_self (ip : Nat) (v : List Int) (o d : Nat) : iget ip [(⟨ip, v, o, d⟩ : Rw)] = some ⟨ip, v, o, d⟩ := by simp [iget]
theorem fv_step {room wait ip now : Nat} {ts : List Int} {E : List En} {c i : Nat} (hr : 1 ≤ room) (hw : 1 ≤ wait) (hi : i < ts.length) :
    (fv room wait ip (min now MT + 10) ts E c i).wait_ ip ts[i] now = (fv room wait ip (min now MT + 10) ts E c (i + 1), decide (i = 0), if i < wait then 0 else 18) := by
  by_cases h0 : i = 0
  · subst h0
    have e : ts.take (min 1 wait) = [ts[0]] := by
      rw [Nat.min_eq_left hw, List.take_one, List.head?_eq_getElem?, List.getElem?_eq_getElem hi]
      rfl
    unfold CV.wait_
    simp only [fv, if_true, iget, List.length_nil, Nat.zero_add, e]
    rw [if_neg (by omega)]
    simp
    omega
  · have hl : (ts.take (min i wait)).length = min i wait := by rw [List.length_take]; omega
    unfold CV.wait_
    by_cases hle : wait ≤ i
    · have e1 : min i wait = wait := Nat.min_eq_right hle
      have e2 : min (i + 1) wait = wait := Nat.min_eq_right (by omega)
      rw [e1] at hl
      have hn : ¬ i < wait := by omega
      simp only [fv, if_neg h0, if_neg (Nat.succ_ne_zero i), iget_self, e1, e2, hl, Nat.le_refl, if_true, hn, if_false]
      simp [h0]
    · have e1 : min i wait = i := Nat.min_eq_left (by omega)
      have e2 : min (i + 1) wait = i + 1 := Nat.min_eq_left (by omega)
      rw [e1] at hl
      have hn : i < wait := by omega
      simp only [fv, if_neg h0, if_neg (Nat.succ_ne_zero i), iget_self, e1, e2, hl, if_neg hle, if_pos hn, iset, List.map_cons, List.map_nil, if_true]
      rw [List.take_add_one, List.getElem?_eq_getElem hi]
      simp [h0]
theorem fv_toks (room wait ip due : Nat) (ts : List Int) (E : List En) (c : Nat) : toks (fv room wait ip due ts E c ts.length).rows = ts.take (min ts.length wait) := by
  unfold fv
  by_cases h0 : ts.length = 0
  · simp [h0, toks]
  · simp [h0, toks]
theorem fv_tokof (room wait ip due : Nat) (ts : List Int) (E : List En) (c : Nat) : tokof (fv room wait ip due ts E c ts.length).rows ip = ts.take (min ts.length wait) := by
  unfold fv tokof
  by_cases h0 : ts.length = 0
  · simp [h0, iget]
  · simp only [if_neg h0, iget_self]
    rfl
def fE (ip : Nat) (m : M6) (due r : Nat) (E : List En) : Prop := (r = 0 ∧ E = []) ∨ (1 ≤ r ∧ ∃ k, E = [⟨ip, m, k, due⟩])
theorem fv_learn {room wait ip now r : Nat} {m : M6} {ts : List Int} {E : List En} {c : Nat} (hr : 1 ≤ room) (hE : fE ip m (min now MT + 10) r E) :
    ∃ c', c' ≤ c + 2 ∧ (fv room wait ip (min now MT + 10) ts E c ts.length).learn ip m now = fv room wait ip (min now MT + 10) ts [⟨ip, m, c', min now MT + 10⟩] c' 0 := by
  refine ⟨(fv room wait ip (min now MT + 10) ts E c ts.length).count + 1, ?_, ?_⟩
  · unfold fv
    by_cases h0 : ts.length = 0
    · simp [h0]
    · simp [h0]
  · have hb : base room ip E = [] := by
      unfold base
      rcases hE with ⟨_, rfl⟩ | ⟨_, k, rfl⟩
      · simp [iget]
      · simp [iget, idel]
    have hd : idel ip (fv room wait ip (min now MT + 10) ts E c ts.length).rows = [] := by
      unfold fv
      by_cases h0 : ts.length = 0
      · simp [h0, idel]
      · simp [h0, idel]
    unfold CV.learn
    rw [hd]
    simp only [fv, hb, if_true, List.nil_append]
set_option maxRecDepth 1000000 in
set_option maxHeartbeats 16000000 in
theorem first_walk (room wait : Int) (ip : Nat) (m : M6) (A : Option Addr) (c : Nat) (ts : List Int) (now : Nat) (w : World) (hT : Tab w) (hA : RdI w .i64 A ts) (hip : ip < 4294967296) :
    Calls Tryz.prog 5 #[.int .i64 room, .int .i64 wait, .int .u32 (ip : Int), macV m, .slice A ts.length c, .int .u64 (now : Int)] w fun ev w' => ev = .returned (.bool true) ∧ Kp (fun _ => False) w w' := by
  obtain ⟨m1, m2, m3, m4, m5, m6⟩ := m
  have K1 := Lib.hid ((Kp.refl (fun _ => False) w).alloc (.cells (macC m1 m2 m3 m4 m5 m6) 32))
  have B1 := Lib.hid (Bk.new w 32 (macC m1 m2 m3 m4 m5 m6))
  have HA := Lib.hid hA
  have T1 := Lib.hid (hT.kept K1.out (fun f => f))
  obtain ⟨mb, hmb⟩ : ∃ mb, mb = w.heap.size := ⟨_, rfl⟩
  have HMB := Lib.hid hmb
  clear hT hA
  go_enter Tryz.func5, Tryz.ntmps5
  simp only [macV, macC] at *
  rw [← hmb] at B1
  go_wp2_with fail
  rw [← hmb]
  clear hmb
  generalize w.alloc (.cells #[.int .u8 (m1 : Int), .int .u8 (m2 : Int), .int .u8 (m3 : Int), .int .u8 (m4 : Int), .int .u8 (m5 : Int), .int .u8 (m6 : Int)] 32) = w1 at *
  refine (alive14 w1 T1.out).mono ?_
  rintro ev w2 ⟨rfl, k⟩
  have K2 := Lib.hid (K1.out.trans' k)
  have B2 := Lib.hid (B1.out.kept k (fun f => f))
  clear k K1 B1 T1
  by_cases hlen : ts.length ≤ 100
  · have hl1 : ¬ (100 : Int) < (ts.length : Int) := by omega
    by_cases hr : Rgt room wait 10 10
    · obtain ⟨r0, rfl⟩ := Int.eq_ofNat_of_zero_le (show 0 ≤ room by have := hr.1; omega)
      obtain ⟨t0, rfl⟩ := Int.eq_ofNat_of_zero_le (show 0 ≤ wait by have := hr.2.2.1; omega)
      have HR := Lib.hid hr
      have NW := Lib.hid (show Calls Tryz.prog 8 #[.int .i64 (r0 : Int), .int .i64 (t0 : Int), .int .u64 10, .int .u64 10] w2 _ from unew (fun _ => True) r0 t0 10 10 w2 hr)
      clear hr
      go_wp2_with fail
      refine NW.out.mono ?_
      rintro ev w3 ⟨g, rfl, hc, k⟩
      have A3 := Lib.hid (AT.made K2.out hc (VOK.empty HR.out) k)
      have B3 := Lib.hid (B2.out.kept k (fun f => f))
      have V3 := Lib.hid (VOK.empty HR.out)
      clear NW hc k B2
      go_wp2_with fail
      have hr1 : 1 ≤ r0 := V3.out.room.1
      have hw1 : 1 ≤ t0 := V3.out.wait.1
      have hw2 : t0 ≤ 64 := V3.out.wait.2
      obtain ⟨D, hD⟩ : ∃ D, D = min now MT + 10 := ⟨_, rfl⟩
      have HD := Lib.hid hD
      clear hD
      obtain ⟨i0, hi0, hz0, hz1, hz2⟩ := info_parts (show (Tryz.prog.info? 3).map (fun i => (i.zero, i.size, i.bytes)) = some (some (.int .i64 0), 1, 8) by kernel_rfl)
      have hmx : (1000000 : Nat) < maxLen := by decide
      go_loopw [15] (fun v15 wr => ∃ (r : Nat) (E : List En) (c0 : Nat), v15 = .int .i64 (r : Int) ∧ r ≤ 2 ∧ c0 ≤ 2 * r ∧ fE ip ⟨m1, m2, m3, m4, m5, m6⟩ D r E ∧ AT w (fun b => w2.heap.size ≤ b) (fun _ => True) g (fv r0 t0 ip D ts E c0 0) wr ∧ Bk wr mb 32 #[.int .u8 (m1 : Int), .int .u8 (m2 : Int), .int .u8 (m3 : Int), .int .u8 (m4 : Int), .int .u8 (m5 : Int), .int .u8 (m6 : Int)]) (fun v _ => 2 - (intOf v).toNat)
      case atStart => exact ⟨0, [], 0, rfl, by omega, by omega, .inl ⟨rfl, rfl⟩, A3.out, B3.out⟩
      case round =>
        obtain ⟨r, E, c0, rfl, hr2, hc0, hE, hAS, hB⟩ := hrel
        have HAS := Lib.hid hAS
        have HB := Lib.hid hB
        have HE := Lib.hid hE
        clear hAS hB hE
        by_cases hlt : r < 2
        · have hrl : (r : Int) < 2 := by omega
          have ka := (Kp.refl (fun _ => False) wr).alloc (.cells #[] 3)
          have O4 := Lib.hid (World.ownsRow_made (base := w.heap.size) (e := 3) (size := 1) wr #[] 0 HAS.out.kp.size (by omega) rfl)
          have A4 := Lib.hid ((HAS.out.mono (G' := fun b => (Value.slice (some ⟨wr.heap.size, 0, none⟩) 0 0).ownBlock ≠ some b) (fun b hb _ e => by
            have e : wr.heap.size = b := Option.some.inj e
            omega)).none ka)
          have B4 := Lib.hid (HB.out.kept ka (fun f => f))
          clear ka
          go_wp2_with fail
          go_loopw [16, 17] (fun v16 v17 wx => ∃ i : Nat, v17 = .int .i64 (i : Int) ∧ i ≤ ts.length ∧ AT w (fun b => w2.heap.size ≤ b) (fun b => v16.ownBlock ≠ some b) g (fv r0 t0 ip D ts E c0 i) wx ∧ Bk wx mb 32 #[.int .u8 (m1 : Int), .int .u8 (m2 : Int), .int .u8 (m3 : Int), .int .u8 (m4 : Int), .int .u8 (m5 : Int), .int .u8 (m6 : Int)] ∧ wx.ownsRow w.heap.size 3 1 v16 (ts.take (min i t0)).length (intsK .i64 (ts.take (min i t0)))) (fun _ v _ => ts.length - (intOf v).toNat)
          case atStart => exact ⟨0, rfl, Nat.zero_le _, A4.out, B4.out, by rw [Nat.zero_min]; exact O4.out⟩
          case round =>
            obtain ⟨i, rfl, hi, hAS, hB, hO⟩ := hrel
            have hq : (ts.take (min i t0)).length = min i t0 := by rw [List.length_take]; omega
            rw [hq] at hO
            obtain ⟨q, hqe⟩ : ∃ q, q = min i t0 := ⟨_, rfl⟩
            rw [← hqe] at hO
            have HQ := Lib.hid hqe
            have hk0 := hAS.kp.size
            obtain ⟨B6, c6, hv6⟩ : ∃ B c, u16 = .slice B q c := by
              rcases hO.2 with ⟨e, h0⟩ | ⟨gb, cap, cur, e, _⟩
              · exact ⟨none, 0, by rw [e, h0]⟩
              · exact ⟨_, cap, e⟩
            subst hv6
            have HAS2 := Lib.hid hAS
            have HB2 := Lib.hid hB
            have HO2 := Lib.hid hO
            clear hB hO hq hqe
            by_cases hlt2 : i < ts.length
            · have hil : (i : Int) < (ts.length : Int) := by omega
              have hi0' : (0 : Int) ≤ (i : Int) := by omega
              obtain ⟨b, o, hAe, hc⟩ : ∃ b o, A = some ⟨b, o, none⟩ ∧ ∀ W, Kp (fun _ => False) w W → W.cell? ⟨b, o + i, none⟩ = some (.int .i64 (ts[i])) := by
                rcases HA.out.2 with h | ⟨b, o, e, hc⟩
                · omega
                · refine ⟨b, o, e, fun W hW => ?_⟩
                  have := kp_kc0 (hc i hlt2) hW
                  rw [this, List.getD_eq_getElem?_getD, List.getElem?_eq_getElem hlt2]
                  rfl
              subst hAe
              have TW := uwait (fun b => w2.heap.size ≤ b) _ g ip now ts[i] _ wr hAS.c hAS.ok hAS.new (fun b hb e => by have := (HO2.out.lt b e).2; omega) hip (show (fv r0 t0 ip D ts E c0 i).count < 1000000 from by unfold fv; split <;> simp <;> omega)
              have hV2 := hAS.ok.wait_ hip ts[i] now
              rw [show D = min now MT + 10 from HD.out, fv_step hr1 hw1 hlt2, ← HD.out] at TW hV2
              have HV2 := Lib.hid hV2
              obtain ⟨x, hx⟩ : ∃ x, ts[i] = x := ⟨_, rfl⟩
              have HX := Lib.hid hx
              rw [hx] at TW hc
              have HC := Lib.hid hc
              have hcr := hc wr hAS.kp
              clear hAS hx hV2 hc
              by_cases hiw : i < t0
              · rw [if_pos hiw] at TW
                have hqi : q = i := by rw [HQ.out]; omega
                subst hqi
                by_cases hin : q = 0
                · rw [decide_eq_true hin] at TW
                  subst hin
                  have hcr : wr.cell? ⟨b, o, none⟩ = some (.int .i64 x) := hcr
                  have TWH := Lib.hid TW
                  have hqt : (0 : Int) < (t0 : Int) := by omega
                  clear TW
                  go_wp2_with fail
                  refine TWH.out.mono ?_
                  rintro ev w4 ⟨rfl, hc4, k4⟩
                  have A5 := Lib.hid (HAS2.out.step hc4 HV2.out k4)
                  have B5 := Lib.hid (HB2.out.kept k4 (FC.not HB2.out (by decide) (by decide)))
                  have O5 := Lib.hid (own_fc HO2.out k4 (by decide) (by decide))
                  have hc5 : w4.cell? ⟨b, o, none⟩ = some (.int .i64 x) := HC.out w4 A5.out.kp
                  have SZ5 := Lib.hid A5.out.kp.size
                  clear TWH hc4 k4 hcr
                  go_wp2_with
                    (at_builtin
                     go_must (
                       refine wpList_append_at _ rfl (.tmp 78) (.tmp 83) 35 rfl w.heap.size 3 i0 _ 1 8 Tryz.underlying35 hi0 hz0 hz1 hz2 rfl (by omega) (.slice B6 0 c6) 0 (intsK .i64 (ts.take 0)) rfl (O5.out.alloc _) ⟨w4.heap.size, 0, none⟩ 1 1 [.int .i64 x] rfl rfl (cell_one_new _ _ _) (by simp [Value.oneCell']) (by omega) (by omega) (by have := SZ5.out; simp; omega) ?_
                       intro v6 w6 own6 hgrow6 hat6
                       have O6 := Lib.hid own6
                       have GR6 := Lib.hid hgrow6
                       have AT6 := Lib.hid hat6
                       clear own6 hgrow6 hat6))
                  have ka := (Kp.refl (fun _ => False) w4).alloc (.cells #[.int .i64 x] 3)
                  have A6 := Lib.hid (A5.out.grows (G' := fun b => v6.ownBlock ≠ some b) ka O5.out GR6.out (fun b hb => hb) AT6.out (fun b _ _ h => h))
                  have B6' := Lib.hid ((B5.out.kept ka (fun f => f)).kept ((Kp.refl (fun b => (Value.slice B6 0 c6).ownBlock = some b) _).grown GR6.out (fun j hj => .inl hj)) (fun e => by
                    obtain ⟨cs, hcs⟩ := own_block_bk O5.out e
                    exact B5.out.ne_of hcs (by decide) rfl))
                  refine ⟨⟨1, by go_num, by omega, A6.out, B6'.out, ?_⟩, ?_⟩
                  · have e : min 1 t0 = 1 := by omega
                    have e2 : ts.take 1 = ts.take 0 ++ [x] := by rw [List.take_add_one, List.getElem?_eq_getElem hlt2, HX.out]; rfl
                    rw [e, e2, intsK_app, List.length_append, List.length_take, Nat.min_eq_left (by omega)]
                    exact O6.out
                  · simp [intOf]; omega
                · have hin2 : ¬ (q : Int) = 0 := by omega
                  rw [decide_eq_false hin] at TW
                  have TWH := Lib.hid TW
                  have hqt : (q : Int) < (t0 : Int) := by omega
                  clear TW
                  go_wp2_with fail
                  refine TWH.out.mono ?_
                  rintro ev w4 ⟨rfl, hc4, k4⟩
                  have A5 := Lib.hid (HAS2.out.step hc4 HV2.out k4)
                  have B5 := Lib.hid (HB2.out.kept k4 (FC.not HB2.out (by decide) (by decide)))
                  have O5 := Lib.hid (own_fc HO2.out k4 (by decide) (by decide))
                  have hc5 := HC.out w4 A5.out.kp
                  have SZ5 := Lib.hid A5.out.kp.size
                  clear TWH hc4 k4 hcr
                  go_wp2_with
                    (at_builtin
                     go_must (
                       refine wpList_append_at _ rfl (.tmp 78) (.tmp 83) 35 rfl w.heap.size 3 i0 _ 1 8 Tryz.underlying35 hi0 hz0 hz1 hz2 rfl (by omega) (.slice B6 q c6) q (intsK .i64 (ts.take q)) rfl (O5.out.alloc _) ⟨w4.heap.size, 0, none⟩ 1 1 [.int .i64 x] rfl rfl (cell_one_new _ _ _) (by simp [Value.oneCell']) (by omega) (by omega) (by have := SZ5.out; simp; omega) ?_
                       intro v6 w6 own6 hgrow6 hat6
                       have O6 := Lib.hid own6
                       have GR6 := Lib.hid hgrow6
                       have AT6 := Lib.hid hat6
                       clear own6 hgrow6 hat6))
                  have ka := (Kp.refl (fun _ => False) w4).alloc (.cells #[.int .i64 x] 3)
                  have A6 := Lib.hid (A5.out.grows (G' := fun b => v6.ownBlock ≠ some b) ka O5.out GR6.out (fun b hb => hb) AT6.out (fun b _ _ h => h))
                  have B6' := Lib.hid ((B5.out.kept ka (fun f => f)).kept ((Kp.refl (fun b => (Value.slice B6 q c6).ownBlock = some b) _).grown GR6.out (fun j hj => .inl hj)) (fun e => by
                    obtain ⟨cs, hcs⟩ := own_block_bk O5.out e
                    exact B5.out.ne_of hcs (by decide) rfl))
                  refine ⟨⟨q + 1, by go_num, by omega, A6.out, B6'.out, ?_⟩, ?_⟩
                  · have e : min (q + 1) t0 = q + 1 := by omega
                    have e2 : ts.take (q + 1) = ts.take q ++ [x] := by rw [List.take_add_one, List.getElem?_eq_getElem hlt2, HX.out]; rfl
                    rw [e, e2, intsK_app, List.length_append, List.length_take, Nat.min_eq_left (by omega)]
                    exact O6.out
                  · simp [intOf]; omega
              · have hin : ¬ i = 0 := by omega
                have hin2 : ¬ (i : Int) = 0 := by omega
                rw [if_neg hiw, decide_eq_false hin] at TW
                have TWH := Lib.hid TW
                have hqi : q = t0 := by rw [HQ.out]; omega
                subst hqi
                clear TW
                go_wp2_with fail
                refine TWH.out.mono ?_
                rintro ev w4 ⟨rfl, hc4, k4⟩
                have A5 := Lib.hid (HAS2.out.step hc4 HV2.out k4)
                have B5 := Lib.hid (HB2.out.kept k4 (FC.not HB2.out (by decide) (by decide)))
                have O5 := Lib.hid (own_fc HO2.out k4 (by decide) (by decide))
                clear TWH hc4 k4 hcr
                go_wp2_with fail
                refine ⟨⟨i + 1, by go_num, by omega, A5.out, B5.out, ?_⟩, ?_⟩
                · have e : min (i + 1) q = q := by omega
                  rw [e, List.length_take, Nat.min_eq_left (by omega)]
                  exact O5.out
                · simp [intOf]; omega
            · have hil : ¬ (i : Int) < (ts.length : Int) := by omega
              obtain rfl : i = ts.length := by omega
              obtain ⟨IN, hIN⟩ : ∃ IN, IN = ts.take (min ts.length t0) := ⟨_, rfl⟩
              have hql : q = IN.length := by rw [hIN, List.length_take, HQ.out]; omega
              have TT := ttokens _ g _ wr HAS2.out.c.cch HAS2.out.ok
              rw [fv_toks, ← hIN] at TT
              have TTH := Lib.hid TT
              have hO3 := HO2.out
              rw [show (ts.take q) = IN by rw [hIN, HQ.out]] at hO3
              have HO3 := Lib.hid hO3
              subst hql
              have HIN := Lib.hid hIN
              have hIl := HIN.out ▸ (show (ts.take (min ts.length t0)).length ≤ 100 by rw [List.length_take]; omega)
              clear TT hO3 HO2 hIN hAS
              go_wp2_with fail
              refine TTH.out.mono ?_
              rintro ev w4 ⟨u, rfl, ho4, k4⟩
              obtain ⟨A7, c7, rfl, hq7, hr7, hb7⟩ := RdI.of_own (k := .i64) (xs := IN) ho4
              have hr8 := (RdI.of_own (k := .i64) (xs := IN) (own_kp HO3.out k4 (fun _ _ f => f)))
              obtain ⟨A8, c8, e8, _, hr8, _⟩ := hr8
              injection e8 with e81 e82 e83
              subst e81 e83
              have C := sameInts_any A7 B6 c7 c6 IN IN w4 hr7 hr8
              rw [beq_self_eq_true] at C
              have CH := Lib.hid C
              have A4' := Lib.hid (HAS2.out.none k4)
              have B4' := Lib.hid (HB2.out.kept k4 (fun f => f))
              have HR8 := Lib.hid (own_kp HO3.out k4 (fun _ _ f => f))
              clear TTH ho4 k4 hq7 hr7 hb7 hr8 e82 C HAS2 HB2 HO3
              go_wp2_with fail
              refine CH.out.mono ?_
              rintro ev w5 ⟨rfl, nn, rfl⟩
              have kb := (Kp.refl (fun _ => False) w4).drewN nn
              have A5 := Lib.hid (A4'.out.none kb)
              have B5 := Lib.hid (B4'.out.kept kb (fun f => f))
              have R5 := Lib.hid (own_kp HR8.out kb (fun _ _ f => f))
              generalize w4.drewN nn = w5 at *
              have d0 := B5.out.cell 0
              have d1 := B5.out.cell 1
              have d2 := B5.out.cell 2
              have d3 := B5.out.cell 3
              have d4 := B5.out.cell 4
              have d5 := B5.out.cell 5
              obtain ⟨cc, hcc, hfl⟩ := fv_learn (c := c0) (ts := ts) (wait := t0) (now := now) hr1 (HD.out ▸ HE.out)
              have TL := ulearn _ _ g ip now ⟨m1, m2, m3, m4, m5, m6⟩ _ w5 A5.out.c A5.out.ok A5.out.new hip (show (fv r0 t0 ip D ts E c0 ts.length).count < 1000000 from by unfold fv; split <;> simp <;> omega)
              have hV2 := A5.out.ok.learn hip ⟨m1, m2, m3, m4, m5, m6⟩ now
              rw [HD.out] at TL hV2
              rw [hfl, fv_tokof, ← HIN.out] at TL
              rw [hfl] at hV2
              simp only [← HD.out] at TL hV2
              have TLH := Lib.hid TL
              have HV2 := Lib.hid hV2
              clear CH kb A4' B4' HR8 TL hV2 hfl
              go_wp2_with fail
              refine TLH.out.mono ?_
              rintro ev w6 ⟨A9, c9, rfl, hr9, hc6, k6⟩
              have A6 := Lib.hid (show AT w _ _ g _ w6 from A5.out.step hc6 HV2.out k6)
              have B6' := Lib.hid (B5.out.kept k6 (FC.not B5.out (by decide) (by decide)))
              have hr8 := (RdI.of_own (k := .i64) (xs := IN) (own_fc R5.out k6 (by decide) (by decide)))
              obtain ⟨A8, c8, e8, _, hr8, _⟩ := hr8
              injection e8 with e81 e82 e83
              subst e81 e83
              have C := sameInts_any A9 B6 c9 c6 IN IN w6 hr9.1 hr8
              rw [beq_self_eq_true] at C
              have CH := Lib.hid C
              clear TLH hr9 hc6 k6 hr8 e82 C A5 B5 R5 d0 d1 d2 d3 d4 d5 HV2
              go_wp2_with fail
              refine CH.out.mono ?_
              rintro ev w7 ⟨rfl, nn2, rfl⟩
              have kb := (Kp.refl (fun _ => False) w6).drewN nn2
              have A7' := Lib.hid (A6.out.none kb)
              have B7' := Lib.hid (B6'.out.kept kb (fun f => f))
              generalize w6.drewN nn2 = w7 at *
              have C : Calls Tryz.prog 14 #[.pointer (some ⟨g, 0, none⟩)] w7 (fun ev w' => ev = .returned (.int .i64 0) ∧ w' = w7) := trows _ g _ w7 A7'.out.c.cch
              have CH2 := Lib.hid C
              clear CH kb A6 B6' C
              go_wp2_with fail
              refine CH2.out.mono ?_
              rintro ev w8 ⟨rfl, rfl⟩
              clear CH2
              go_wp2_with fail
              refine ⟨⟨r + 1, _, cc, by go_num, by omega, by omega, .inr ⟨by omega, _, rfl⟩, A7'.out.mono (fun _ _ _ => trivial), B7'.out⟩, ?_⟩
              simp [intOf]; omega
        · have hrl : ¬ (r : Int) < 2 := by omega
          obtain ⟨k1, hEk⟩ : ∃ k, E = [⟨ip, ⟨m1, m2, m3, m4, m5, m6⟩, k, D⟩] := by
            rcases HE.out with ⟨h, _⟩ | ⟨_, h⟩
            · omega
            · exact h
          subst hEk
          have TF := tfind _ g ip now _ wr HAS.out.c.cch hip
          have hf : fnd (fv r0 t0 ip D ts [⟨ip, ⟨m1, m2, m3, m4, m5, m6⟩, k1, D⟩] c0 0).ents ip now = some ⟨m1, m2, m3, m4, m5, m6⟩ := by
            unfold fnd
            simp only [fv, iget, if_true]
            rw [if_pos (by rw [HD.out]; omega)]
          rw [hf] at TF
          simp only [Option.getD_some, Option.isSome_some, macV] at TF
          have TFH := Lib.hid TF
          clear TF hf
          go_wp2_with fail
          refine TFH.out.mono ?_
          rintro ev w4 ⟨rfl, k4⟩
          have ka := k4.alloc (.cells #[.int .u8 (m1 : Int), .int .u8 (m2 : Int), .int .u8 (m3 : Int), .int .u8 (m4 : Int), .int .u8 (m5 : Int), .int .u8 (m6 : Int)] 32)
          have A4' := Lib.hid (HAS.out.none ka)
          clear TFH k4 ka
          go_wp2_with fail
          generalize w4.alloc (.cells #[.int .u8 (m1 : Int), .int .u8 (m2 : Int), .int .u8 (m3 : Int), .int .u8 (m4 : Int), .int .u8 (m5 : Int), .int .u8 (m6 : Int)] 32) = w5 at *
          have C : Calls Tryz.prog 13 #[.pointer (some ⟨g, 0, none⟩)] w5 (fun ev w' => ev = .returned (.int .i64 1) ∧ w' = w5) := tlen _ g _ w5 A4'.out.c.cch
          refine C.mono ?_
          rintro ev w6 ⟨rfl, rfl⟩
          clear C
          go_wp2_with fail
          exact bodyPost_ret (results_tmp rfl _ _ _) rfl ⟨rfl, A4'.out.kp⟩
    · have NW := Lib.hid (show Calls Tryz.prog 8 #[.int .i64 room, .int .i64 wait, .int .u64 10, .int .u64 10] w2 _ from cnew_bad room wait 10 10 w2 hr)
      clear hr
      go_wp2_with fail
      refine NW.out.mono ?_
      rintro ev w3 ⟨rfl, k⟩
      have K3 := Lib.hid (K2.out.trans' k)
      clear NW k
      go_wp2_with fail
      exact bodyPost_ret (results_tmp rfl _ _ _) rfl ⟨rfl, K3.out⟩
  · have hl1 : (100 : Int) < (ts.length : Int) := by omega
    go_wp2_with fail
    exact bodyPost_ret (results_tmp rfl _ _ _) rfl ⟨rfl, K2.out⟩
end Go.Proofs.YtgidjgkafbjkpaaGreatDoor
