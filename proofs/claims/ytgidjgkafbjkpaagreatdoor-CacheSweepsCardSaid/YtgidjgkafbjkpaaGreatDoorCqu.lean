/- Cache: CacheSweeps' walk. -/
import Derived.Test.YtgidjgkafbjkpaaGreatDoorCao
import Derived.Test.YtgidjgkafbjkpaaGreatDoorCdo
import Derived.Test.YtgidjgkafbjkpaaGreatDoorCqa
set_option linter.unusedVariables false
set_option linter.unusedSimpArgs false
namespace Go.Proofs.YtgidjgkafbjkpaaGreatDoor
open Go.RowKit

theorem AT.apart {w W W' : World} {F G : Nat → Prop} {g gr t : Nat} {cs : Array Value} {v : CV} (h : AT w F G g v W) (k : Kp (fun _ => False) W W') (hge : W.heap.size ≤ gr) (hb : Bk W' gr t cs) : AT w (fun b => F b ∧ b ≠ gr) G g v W' :=
  ⟨h.kp.trans' k, (h.c.mono (F' := fun b => F b ∧ b ≠ gr) (fun b hb hf => ⟨hf, by omega⟩) (fun _ _ x => x)).none_kept k, h.ok, fun b hb hf => h.old b hb hf.1, fun b hb' => ⟨h.new b (Nat.le_trans k.size hb'), by have := hb.lt; omega⟩⟩
theorem RdI.at8 {w : World} {A : Option Addr} {l : List Int} (h : RdI w .u8 A l) {k : Nat} (hk : k < l.length) : ∃ b o, A = some ⟨b, o, none⟩ ∧ w.cell? ⟨b, o + k, none⟩ = some (.int .u8 l[k]) := by
  rcases h.2 with h | ⟨b, o, e, hc⟩
  · omega
  · refine ⟨b, o, e, ?_⟩
    rw [hc k hk, List.getD_eq_getElem?_getD, List.getElem?_eq_getElem hk]
    rfl
set_option maxRecDepth 1000000 in
set_option maxHeartbeats 32000000 in
theorem sweeps_walk (room wait : Int) (life pat : Nat) (A : Option Addr) (c : Nat) (xs : List Cl) (B : Option Addr) (d : Nat) (ss : List Int) (w : World) (hT : Tab w) (hA : RdK w A xs) (hxs : ∀ x ∈ xs, x.ip < 4294967296) (hB : RdI w .u8 B ss) (hss : ∀ x ∈ ss, 0 ≤ x ∧ x < 256) :
    Calls Tryz.prog 6 #[.int .i64 room, .int .i64 wait, .int .u64 (life : Int), .int .u64 (pat : Int), .slice A xs.length c, .slice B ss.length d] w fun ev w' => ev = .returned (.bool true) ∧ Kp (fun _ => False) w w' := by
  have HA := Lib.hid hA
  have HB := Lib.hid hB
  have HT := Lib.hid hT
  have HXS := Lib.hid hxs
  have HSS := Lib.hid hss
  clear hA hxs hB hss
  go_enter Tryz.func6, Tryz.ntmps6
  go_wp2_with fail
  refine (alive14 w hT).mono ?_
  rintro ev w2 ⟨rfl, k⟩
  have K2 := Lib.hid k
  clear k hT
  by_cases hb1 : xs.length ≤ 100
  · have hl1 : ¬ (100 : Int) < (xs.length : Int) := by omega
    by_cases hb2 : ss.length ≤ 30
    · have hl2 : ¬ (30 : Int) < (ss.length : Int) := by omega
      by_cases hb3 : 1 ≤ ss.length
      · have hl3 : ¬ (ss.length : Int) < 1 := by omega
        by_cases hr : Rgt room wait life pat
        · obtain ⟨r0, rfl⟩ := Int.eq_ofNat_of_zero_le (show 0 ≤ room by have := hr.1; omega)
          obtain ⟨t0, rfl⟩ := Int.eq_ofNat_of_zero_le (show 0 ≤ wait by have := hr.2.2.1; omega)
          have HR := Lib.hid hr
          have NW := Lib.hid (unew (fun _ => True) r0 t0 life pat w2 hr)
          have h1r : 1 ≤ r0 := by have := hr.1; omega
          clear hr
          go_wp2_with fail
          refine NW.out.mono ?_
          rintro ev w3 ⟨g, rfl, hc, k⟩
          have A3 := Lib.hid (AT.made K2.out hc (VOK.empty HR.out) k)
          clear NW hc k
          go_wp2_with fail
          go_loopw [15] (fun v15 wr => ∃ (i : Nat) (v : CV) (F : Nat → Prop), v15 = .int .i64 (i : Int) ∧ i ≤ xs.length ∧ AT w F (fun _ => True) g v wr ∧ v.count ≤ i) (fun vm _ => xs.length - (intOf vm).toNat)
          case atStart => exact ⟨0, _, _, rfl, Nat.zero_le _, A3.out, Nat.le_refl _⟩
          case round =>
            obtain ⟨i, v, F, rfl, hi, hAT, hvc⟩ := hrel
            have HAT := Lib.hid hAT
            clear hAT
            by_cases hlt : i < xs.length
            · have hil : (i : Int) < (xs.length : Int) := by omega
              have hi0' : (0 : Int) ≤ (i : Int) := by omega
              have RN := Lib.hid (rnew0 r0 t0 life pat wr HR.out)
              go_wp2_with fail
              refine RN.out.mono ?_
              rintro ev w5 ⟨gr, rfl, hrc, hge, k5⟩
              have A5 := Lib.hid (HAT.out.apart k5 hge hrc)
              have RC := Lib.hid hrc
              have hwr : w.heap.size ≤ gr := Nat.le_trans HAT.out.kp.size hge
              obtain ⟨b, o, hAe, hc⟩ := HA.out.at_ hlt
              subst hAe
              have hipx := HXS.out _ (List.getElem_mem hlt)
              obtain ⟨x, hx⟩ : ∃ x, xs[i] = x := ⟨_, rfl⟩
              rw [hx] at hc hipx
              clear hx
              obtain ⟨wh, tk, ip, ⟨m1, m2, m3, m4, m5, m6⟩, now⟩ := x
              have hc := hc w5 A5.out.kp
              have q0 : w5.cell? ⟨b, o + i * 10, none⟩ = some (.int .i64 wh) := hc 0 (by omega)
              have q1 : w5.cell? ⟨b, o + i * 10 + 1, none⟩ = some (.int .i64 tk) := hc 1 (by omega)
              have q2 : w5.cell? ⟨b, o + i * 10 + 2, none⟩ = some (.int .u32 (ip : Int)) := hc 2 (by omega)
              have q3 : w5.cell? ⟨b, o + i * 10 + 3, none⟩ = some (.int .u8 (m1 : Int)) := hc 3 (by omega)
              have q4 : w5.cell? ⟨b, o + i * 10 + 4, none⟩ = some (.int .u8 (m2 : Int)) := hc 4 (by omega)
              have q5 : w5.cell? ⟨b, o + i * 10 + 5, none⟩ = some (.int .u8 (m3 : Int)) := hc 5 (by omega)
              have q6 : w5.cell? ⟨b, o + i * 10 + 6, none⟩ = some (.int .u8 (m4 : Int)) := hc 6 (by omega)
              have q7 : w5.cell? ⟨b, o + i * 10 + 7, none⟩ = some (.int .u8 (m5 : Int)) := hc 7 (by omega)
              have q8 : w5.cell? ⟨b, o + i * 10 + 8, none⟩ = some (.int .u8 (m6 : Int)) := hc 8 (by omega)
              have q9 : w5.cell? ⟨b, o + i * 10 + 9, none⟩ = some (.int .u64 (now : Int)) := hc 9 (by omega)
              have hip : ip < 4294967296 := hipx
              have DO := Lib.hid (do_ w w5 _ g gr r0 t0 life pat v wh tk ip m1 m2 m3 m4 m5 m6 now HT.out A5.out RC.out h1r (fun h => h.2 rfl) hwr hip (by omega))
              clear hc hipx k5 hge hrc RN HAT
              go_wp2_with fail
              refine DO.out.mono ?_
              clear DO
              rintro ev w6 ⟨⟨rb, rfl⟩, v6, hA6, hc6⟩
              have A6 := Lib.hid hA6
              clear hA6
              go_wp2_with fail
              refine ⟨⟨i + 1, v6, _, by go_num, by omega, A6.out, by omega⟩, ?_⟩
              simp [intOf]; omega
            · have hil : ¬ (i : Int) < (xs.length : Int) := by omega
              have UC := Lib.hid (uclone F (fun _ => True) g v wr HAT.out.c)
              go_wp2_with fail
              refine UC.out.mono ?_
              rintro ev w7 ⟨gx, rfl, hcx, kx⟩
              have AC := Lib.hid (HAT.out.cloned hcx kx)
              clear UC hcx kx
              go_wp2_with fail
              obtain ⟨i0, hi0, hz0, hz1, hz2⟩ := info_parts (show (Tryz.prog.info? 3).map (fun i => (i.zero, i.size, i.bytes)) = some (some (.int .i64 0), 1, 8) by kernel_rfl)
              obtain ⟨Fc, Fx, hAc, hXc, hdis, hlow⟩ : ∃ Fc Fx : Nat → Prop, AT w Fc (fun _ => True) g v w7 ∧ Tch Fx (fun _ => True) w7 gx v ∧ (∀ b, Fx b → ¬ Fc b) ∧ (∀ b, Fx b → w.heap.size ≤ b) := ⟨_, _, AC.out.1, AC.out.2, fun b hx hf => hf.2 hx, fun b hx => Nat.le_trans HAT.out.kp.size hx.1⟩
              have SZ7 := Lib.hid hAc.kp.size
              have VV := Lib.hid hAc.ok
              have h0c : ¬ Fc 0 := hAc.old 0 HT.out.lt
              have h0x : ¬ Fx 0 := fun hx => by have h1 := hlow 0 hx; have h2 := HT.out.lt; omega
              have O8 := Lib.hid (World.ownsRow_made w7 (base := w.heap.size) (e := 3) (size := 1) #[] 0 SZ7.out (by unfold maxLen; omega) rfl)
              have A8 := Lib.hid ((hAc.mono (G' := fun b => (Value.slice (some ⟨w7.heap.size, 0, none⟩) 0 0).ownBlock ≠ some b) (fun b hb _ e => by have : w7.heap.size = b := Option.some.inj e; omega)).none ((Kp.refl (fun _ => False) w7).alloc (.cells #[] 3)))
              have X8 := Lib.hid ((hXc.mono (F' := Fx) (G' := fun b => (Value.slice (some ⟨w7.heap.size, 0, none⟩) 0 0).ownBlock ≠ some b) (fun _ _ x => x) (fun b hb _ e => by have : w7.heap.size = b := Option.some.inj e; omega)).none_kept ((Kp.refl (fun _ => False) w7).alloc (.cells #[] 3)))
              have HDIS := Lib.hid hdis
              have HLOW := Lib.hid hlow
              clear hAc hXc hdis hlow AC HAT
              go_loopw [19, 20, 21] (fun v19 v20 v21 wy => ∃ (k t : Nat) (vi : CV) (u : Value) (T : List Int), v19 = .int .u64 (t : Int) ∧ v20 = u ∧ v21 = .int .i64 (k : Int) ∧ k ≤ ss.length ∧ t ≤ 255 * k ∧ AT w Fc (fun b => u.ownBlock ≠ some b) g vi wy ∧ Tch Fx (fun b => u.ownBlock ≠ some b) wy gx v ∧ wy.ownsRow w.heap.size 3 1 u T.length (intsK .i64 T) ∧ Swp v k t vi T) (fun _ _ vm _ => ss.length - (intOf vm).toNat)
              case atStart => exact ⟨0, 0, v, _, [], rfl, rfl, rfl, Nat.zero_le _, Nat.zero_le _, A8.out, X8.out, O8.out, .inl ⟨rfl, rfl, rfl⟩⟩
              case round =>
                obtain ⟨k, t, vi, u, T, rfl, hu, rfl, hk, ht, hAT, hX, ho, hS⟩ := hrel
                obtain rfl := hu.symm
                have HAT := Lib.hid hAT
                have HX := Lib.hid hX
                have HO := Lib.hid ho
                have HS := Lib.hid hS
                have hTl := HS.out.len VV.out
                clear hAT hX ho hS O8 A8 X8
                by_cases hltk : k < ss.length
                · have hkl : (k : Int) < (ss.length : Int) := by omega
                  have hk0 : (0 : Int) ≤ (k : Int) := by omega
                  obtain ⟨b, o, hBe, hq⟩ := HB.out.at8 hltk
                  subst hBe
                  obtain ⟨h0s, h1s⟩ := HSS.out _ (List.getElem_mem hltk)
                  obtain ⟨sv, hsv⟩ := Int.eq_ofNat_of_zero_le h0s
                  rw [hsv] at hq h1s
                  have hq5 : wr.cell? ⟨b, o + k, none⟩ = some (.int .u8 (sv : Int)) := kp_kc0 hq HAT.out.kp
                  have hsb : sv < 256 := by omega
                  clear hsv hq h0s h1s
                  have hwr1 : IntKind.u64.wrap (sv : Int) = (sv : Int) := by show (sv : Int) % 18446744073709551616 = _; omega
                  obtain ⟨t2, ht2⟩ : ∃ t2 : Nat, t + sv = t2 := ⟨_, rfl⟩
                  have hwr2 : IntKind.u64.wrap ((t : Int) + (sv : Int)) = (t2 : Int) := by show ((t : Int) + (sv : Int)) % 18446744073709551616 = _; omega
                  have hmin : min t2 MT = t2 := by unfold MT; omega
                  have htle : t ≤ t2 := by omega
                  have ht2l : t2 ≤ 255 * (k + 1) := by omega
                  have HT2 := Lib.hid (And.intro hmin (And.intro htle ht2l))
                  have US := Lib.hid (usweep Fc _ g t2 vi wr HAT.out.c HAT.out.ok (HAT.out.tab HT.out) h0c)
                  clear ht2 hmin htle ht2l
                  go_wp2_with fail
                  refine US.out.mono ?_
                  clear US
                  rintro ev w5 ⟨u5, L5, rfl, hg5, ho5, hc5, k5⟩
                  rw [HT2.out.1] at hg5 hc5
                  have A5 := Lib.hid (HAT.out.step hc5 (HAT.out.ok.left _) k5)
                  have X5 := Lib.hid (HX.out.aside (G := fun _ => True) HDIS.out k5)
                  have OT5 := Lib.hid (own_fc HO.out k5 (by decide) (by decide))
                  have S5 := Lib.hid (HS.out.step VV.out HT2.out.2.1 hg5)
                  have hol := hg5.told_le HAT.out.ok
                  obtain ⟨AA, cc, rfl, hr5, hb5⟩ := RdN.of_own ho5
                  have hcc : AA = none → cc = 0 := fun e => by
                    subst e
                    rcases ho5.2 with ⟨e, _⟩ | ⟨_, _, _, e, _⟩
                    · injection e with e1 e2 e3
                    · cases e
                  have HR5 := Lib.hid hr5
                  have SZ5 := Lib.hid A5.out.kp.size
                  obtain ⟨OO, hOO⟩ : ∃ OO, OO = outs L5 vi.rows := ⟨_, rfl⟩
                  rw [← hOO] at HR5 S5 hol ⊢
                  clear hg5 ho5 hc5 k5 hr5 hb5 hOO
                  cases AA with
                  | none =>
                    obtain rfl : cc = 0 := hcc rfl
                    have hm0 : OO = [] := by
                      rcases HR5.out.1.2 with h | ⟨_, _, h, _⟩
                      · exact List.eq_nil_of_length_eq_zero h
                      · cases h
                    subst hm0
                    clear hcc
                    go_wp2_with
                      (at_builtin
                       go_must (refine wpList_append_own_none rfl (.tmp 92) (.tmp 95) 35 rfl w.heap.size 3 i0 1 Tryz.underlying35 hi0 u T.length (intsK .i64 T) rfl OT5.out rfl ?_))
                    refine ⟨⟨k + 1, t2, _, u, T, rfl, rfl, by go_num, by omega, HT2.out.2.2, A5.out, X5.out, OT5.out, by have := S5.out; rwa [List.append_nil] at this⟩, ?_⟩
                    simp [intOf]; omega
                  | some a =>
                    have HCL := Lib.hid HR5.out.cells
                    generalize hml : OO.length = m at *
                    generalize htl : T.length = n at *
                    go_wp2_with
                      (at_builtin
                       go_must (
                         refine wpList_append_at _ rfl (.tmp 92) (.tmp 95) 35 rfl w.heap.size 3 i0 _ 1 8 Tryz.underlying35 hi0 hz0 hz1 hz2 rfl (by omega) u n (intsK .i64 T) rfl OT5.out a m cc (intsK .i64 OO) rfl (by rw [intsK_len, hml, Nat.mul_one]) HCL.out (intsK_one _) (by unfold maxLen; omega) (by omega) SZ5.out ?_
                         intro v8 w8 own8 grow8 at8
                         have A9 := Lib.hid (A5.out.grows (G' := fun b => v8.ownBlock ≠ some b) (Kp.refl _ _) OT5.out grow8 (fun b hb => hb) at8 (fun b _ _ h => h))
                         have X9 := Lib.hid (X5.out.grows OT5.out grow8 (fun b hb => hb) at8)
                         have O9 := Lib.hid (show w8.ownsRow w.heap.size 3 1 v8 (T ++ OO).length (intsK .i64 (T ++ OO)) from by
                           rw [List.length_append, hml, htl]
                           simpa [intsK] using own8)
                         clear own8 grow8 at8))
                    refine ⟨⟨k + 1, t2, _, v8, T ++ OO, rfl, rfl, by go_num, by omega, HT2.out.2.2, A9.out, X9.out, O9.out, S5.out⟩, ?_⟩
                    simp [intOf]; omega
                · have hkl : ¬ (k : Int) < (ss.length : Int) := by omega
                  obtain rfl : k = ss.length := by omega
                  obtain ⟨LA, hvi, hgA, hTA⟩ : ∃ LA, vi = v.left t ∧ Got t v.rows LA ∧ T = outs LA v.rows := by
                    rcases HS.out with ⟨h, _⟩ | ⟨_, h1, LA, h2, h3⟩
                    · omega
                    · exact ⟨LA, h1, h2, h3⟩
                  subst hvi
                  have hmin : min t MT = t := by unfold MT; omega
                  have HGA := Lib.hid hgA
                  have HTA := Lib.hid hTA
                  obtain ⟨BB, dd, hu2, hrT, _⟩ := RdN.of_own HO.out
                  subst hu2
                  have US := Lib.hid (usweep Fx _ gx t v wr HX.out VV.out (HAT.out.tab HT.out) h0x)
                  have hol := hgA.told_le VV.out
                  clear hgA hTA hrT HS
                  go_wp2_with fail
                  refine US.out.mono ?_
                  clear US
                  rintro ev w9 ⟨u9, L9, rfl, hg9, ho9, hc9, k9⟩
                  rw [hmin] at hg9 hc9
                  obtain rfl : L9 = LA := hg9.uniq HGA.out
                  have C9 := Lib.hid (HAT.out.c.aside (F := Fx) (G := fun _ => True) (fun b hb hx => HDIS.out b hx hb) k9)
                  have X9 := Lib.hid hc9
                  have OK9 := Lib.hid (VV.out.left t)
                  have K9 := Lib.hid (HAT.out.kp.trans k9 (fun b hb hf => by have := HLOW.out b hf.1; omega))
                  have OT9 := Lib.hid (own_fc HO.out k9 (by decide) (by decide))
                  rw [HTA.out] at OT9 ⊢
                  obtain ⟨AA, cc, rfl, hr9, _⟩ := RdN.of_own ho9
                  obtain ⟨B2, d2, e2, hrT, _⟩ := RdN.of_own OT9.out
                  have C16 := Lib.hid (show Calls Tryz.prog 16 #[.slice AA (outs L9 v.rows).length cc, .slice BB (outs L9 v.rows).length dd] w9 (fun ev w' => ev = .returned (.bool true) ∧ ∃ n, w' = w9.drewN n) from by
                    injection e2 with e3 e4 e5
                    subst e3
                    have h := sameInts_any AA BB cc dd (outs L9 v.rows) (outs L9 v.rows) w9 hr9.1 hrT.1
                    rw [show (outs L9 v.rows == outs L9 v.rows) = true from by simp] at h
                    exact h)
                  clear hg9 ho9 hc9 k9 hr9 hrT e2 OT9 HO HGA HTA HX HAT
                  generalize outs L9 v.rows = OO at *
                  go_wp2_with fail
                  refine C16.out.mono ?_
                  rintro ev w10 ⟨rfl, n10, rfl⟩
                  have K10 := Lib.hid (K9.out.drewN n10)
                  have C10 := Lib.hid (C9.out.none_kept ((Kp.refl (fun _ => False) w9).drewN n10))
                  have X10 := Lib.hid (X9.out.none_kept ((Kp.refl (fun _ => False) w9).drewN n10))
                  clear C16 K9 C9 X9
                  generalize w9.drewN n10 = w10 at *
                  generalize v.left t = vL at *
                  have TL1 := Lib.hid (tlen Fc g vL w10 C10.out.cch)
                  have TL2 := Lib.hid (tlen Fx gx vL w10 X10.out.cch)
                  have TT1 := Lib.hid (ttokens Fc g vL w10 C10.out.cch OK9.out)
                  generalize vL.ents.length = el at *
                  go_wp2_with fail
                  refine TL1.out.mono ?_
                  rintro ev w11 ⟨rfl, hw11⟩
                  obtain rfl := hw11.symm
                  go_wp2_with fail
                  refine TL2.out.mono ?_
                  rintro ev w12 ⟨rfl, hw12⟩
                  obtain rfl := hw12.symm
                  go_wp2_with fail
                  refine TT1.out.mono ?_
                  rintro ev w13 ⟨u13, rfl, ho13, k13⟩
                  have X13 := Lib.hid (X10.out.none_kept k13)
                  have TT2 := Lib.hid (ttokens Fx gx vL w13 X13.out.cch OK9.out)
                  have O13 := Lib.hid ho13
                  have K13 := Lib.hid (K10.out.trans' k13)
                  clear ho13 k13 TL1 TL2 TT1 X10 C10
                  go_wp2_with fail
                  refine TT2.out.mono ?_
                  rintro ev w14 ⟨u14, rfl, ho14, k14⟩
                  have K14 := Lib.hid (K13.out.trans' k14)
                  have ho13 := own_kp O13.out k14 (fun _ _ f => f)
                  obtain ⟨A3', c3, rfl, hr3, _⟩ := RdN.of_own ho13
                  obtain ⟨A4', c4, rfl, hr4, _⟩ := RdN.of_own ho14
                  have C16 := Lib.hid (show Calls Tryz.prog 16 #[.slice A3' (toks vL.rows).length c3, .slice A4' (toks vL.rows).length c4] w14 (fun ev w' => ev = .returned (.bool true) ∧ ∃ n, w' = w14.drewN n) from by
                    have h := sameInts_any A3' A4' c3 c4 (toks vL.rows) (toks vL.rows) w14 hr3.1 hr4.1
                    rw [show (toks vL.rows == toks vL.rows) = true from by simp] at h
                    exact h)
                  clear ho13 ho14 hr3 hr4 k14 TT2 O13 X13
                  generalize (toks vL.rows).length = tl at *
                  go_wp2_with fail
                  refine C16.out.mono ?_
                  rintro ev w15 ⟨rfl, n15, rfl⟩
                  have K15 := Lib.hid (K14.out.drewN n15)
                  generalize w14.drewN n15 = w15 at *
                  go_wp2_with fail
                  exact bodyPost_ret (results_tmp rfl _ _ _) rfl ⟨rfl, K15.out⟩
        · have NW := Lib.hid (cnew_bad room wait life pat w2 hr)
          clear hr
          go_wp2_with fail
          refine NW.out.mono ?_
          rintro ev w3 ⟨rfl, k⟩
          have K3 := Lib.hid (K2.out.trans' k)
          clear NW k
          go_wp2_with fail
          exact bodyPost_ret (results_tmp rfl _ _ _) rfl ⟨rfl, K3.out⟩
      · have hl3 : (ss.length : Int) < 1 := by omega
        go_wp2_with fail
        exact bodyPost_ret (results_tmp rfl _ _ _) rfl ⟨rfl, K2.out⟩
    · have hl2 : (30 : Int) < (ss.length : Int) := by omega
      go_wp2_with fail
      exact bodyPost_ret (results_tmp rfl _ _ _) rfl ⟨rfl, K2.out⟩
  · have hl1 : (100 : Int) < (xs.length : Int) := by omega
    go_wp2_with fail
    exact bodyPost_ret (results_tmp rfl _ _ _) rfl ⟨rfl, K2.out⟩
end Go.Proofs.YtgidjgkafbjkpaaGreatDoor
