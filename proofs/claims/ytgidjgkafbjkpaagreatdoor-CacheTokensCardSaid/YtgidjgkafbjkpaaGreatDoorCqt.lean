/- Cache: CacheTokens' walk. -/
import Derived.Test.YtgidjgkafbjkpaaGreatDoorCao
import Derived.Test.YtgidjgkafbjkpaaGreatDoorCqp
import Derived.Test.YtgidjgkafbjkpaaGreatDoorCqd
set_option linter.unusedVariables false
set_option linter.unusedSimpArgs false
namespace Go.Proofs.YtgidjgkafbjkpaaGreatDoor
open Go.RowKit

theorem RdN.at_ {w : World} {A : Option Addr} {l : List Int} (h : RdN w A l) {k : Nat} (hk : k < l.length) : ∃ b o, A = some ⟨b, o, none⟩ ∧ w.cell? ⟨b, o + k, none⟩ = some (.int .i64 l[k]) := by
  rcases h.1.2 with h | ⟨b, o, e, hc⟩
  · omega
  · refine ⟨b, o, e, ?_⟩
    rw [hc k hk, List.getD_eq_getElem?_getD, List.getElem?_eq_getElem hk]
    rfl
theorem imap_not_bk {w : World} {b t c : Nat} {cs : Array Value} {L : List Ent} (h : IMap w b c L) (hb : Bk w b t cs) : False := h.ne_bk hb rfl
set_option maxRecDepth 1000000 in
set_option maxHeartbeats 32000000 in
theorem tokens_walk (room wait : Int) (life pat : Nat) (A : Option Addr) (c : Nat) (xs : List Cl) (w : World) (hT : Tab w) (hA : RdK w A xs) (hxs : ∀ x ∈ xs, x.ip < 4294967296) :
    Calls Tryz.prog 3 #[.int .i64 room, .int .i64 wait, .int .u64 (life : Int), .int .u64 (pat : Int), .slice A xs.length c] w fun ev w' => ev = .returned (.bool true) ∧ Kp (fun _ => False) w w' := by
  have HA := Lib.hid hA
  have HT := Lib.hid hT
  have HXS := Lib.hid hxs
  clear hA hxs
  go_enter Tryz.func3, Tryz.ntmps3
  go_wp2_with fail
  refine (alive14 w hT).mono ?_
  rintro ev w2 ⟨rfl, k⟩
  have K2 := Lib.hid k
  clear k hT
  by_cases hb : xs.length ≤ 100
  · have hl1 : ¬ (100 : Int) < (xs.length : Int) := by omega
    by_cases hr : Rgt room wait life pat
    · obtain ⟨r0, rfl⟩ := Int.eq_ofNat_of_zero_le (show 0 ≤ room by have := hr.1; omega)
      obtain ⟨t0, rfl⟩ := Int.eq_ofNat_of_zero_le (show 0 ≤ wait by have := hr.2.2.1; omega)
      have HR := Lib.hid hr
      have NW := Lib.hid (unew (fun _ => True) r0 t0 life pat w2 hr)
      clear hr
      go_wp2_with fail
      refine NW.out.mono ?_
      rintro ev w3 ⟨g, rfl, hc, k⟩
      have A3 := Lib.hid (AT.made K2.out hc (VOK.empty HR.out) k)
      have hr2 : r0 ≤ 256 := A3.out.ok.room.2
      have ht2 : t0 ≤ 64 := A3.out.ok.wait.2
      clear NW hc k
      have hmm := @run_makeMap Tryz.prog
      go_wp2_with fail
      have IM0 := Lib.hid (IMap.made w3)
      have A4 := Lib.hid (A3.out.beside (.map #[] 0))
      have SZM := Lib.hid A3.out.kp.size
      obtain ⟨M, hM⟩ : ∃ M, M = w3.heap.size := ⟨_, rfl⟩
      rw [← hM] at IM0 A4 SZM ⊢
      clear hM hmm
      generalize w3.alloc (.map #[] 0) = w4 at *
      obtain ⟨pq, hpq⟩ : ∃ pq : Nat, r0 * t0 = pq := ⟨_, rfl⟩
      have hpq2 : pq ≤ 16384 := by
        have := Nat.mul_le_mul hr2 ht2
        omega
      have hpi : ((r0 : Int) * (t0 : Int)) = (pq : Int) := by rw [← hpq]; exact (Int.natCast_mul r0 t0).symm
      have hmu1 : IntKind.i64.wrap ((r0 : Int) * (t0 : Int)) = (pq : Int) := by rw [hpi]; exact IntWalk.i64_in _ (by omega)
      have hmu2 : wrap64 ((r0 : Int) * (t0 : Int)) = (pq : Int) := by rw [hpi]; exact IntWalk.wrap64_in _ (by omega)
      have HPQ := Lib.hid hpq
      clear hpi hpq
      go_loopw [14] (fun v14 wr => ∃ (i : Nat) (v : CV) (WL : List Ent) (cm : Nat), v14 = .int .i64 (i : Int) ∧ i ≤ xs.length ∧ AT w (fun b => w2.heap.size ≤ b ∧ b ≠ M) (fun _ => True) g v wr ∧ IMap wr M cm WL ∧ TW WL (prs v.rows) ∧ (∀ p ∈ prs v.rows, p.1 < (i : Int)) ∧ v.room = r0 ∧ v.wait = t0 ∧ v.count ≤ i) (fun v _ => xs.length - (intOf v).toNat)
      case atStart => exact ⟨0, _, [], 0, rfl, Nat.zero_le _, A4.out, IM0.out, TW.nil, fun p hp => (by cases hp), rfl, rfl, Nat.le_refl _⟩
      case round =>
        obtain ⟨i, v, WL, cm, rfl, hi, hAT, hIM, hTW, hbd, hvr, hvt, hvc⟩ := hrel
        have HAT := Lib.hid hAT
        have HIM := Lib.hid hIM
        have HTW := Lib.hid hTW
        have HBD := Lib.hid hbd
        have HVR := Lib.hid hvr
        have HVT := Lib.hid hvt
        clear hAT hIM hTW hbd hvr hvt
        by_cases hlt : i < xs.length
        · have hil : (i : Int) < (xs.length : Int) := by omega
          have hi0' : (0 : Int) ≤ (i : Int) := by omega
          obtain ⟨b, o, hAe, hc⟩ := HA.out.at_ hlt
          subst hAe
          have hipx := HXS.out _ (List.getElem_mem hlt)
          obtain ⟨x, hx⟩ : ∃ x, xs[i] = x := ⟨_, rfl⟩
          rw [hx] at hc hipx
          clear hx
          obtain ⟨wh, tk, ip, ⟨m1, m2, m3, m4, m5, m6⟩, now⟩ := x
          have hc := hc wr HAT.out.kp
          have q0 : wr.cell? ⟨b, o + i * 10, none⟩ = some (.int .i64 wh) := hc 0 (by omega)
          have q1 : wr.cell? ⟨b, o + i * 10 + 1, none⟩ = some (.int .i64 tk) := hc 1 (by omega)
          have q2 : wr.cell? ⟨b, o + i * 10 + 2, none⟩ = some (.int .u32 (ip : Int)) := hc 2 (by omega)
          have q3 : wr.cell? ⟨b, o + i * 10 + 3, none⟩ = some (.int .u8 (m1 : Int)) := hc 3 (by omega)
          have q4 : wr.cell? ⟨b, o + i * 10 + 4, none⟩ = some (.int .u8 (m2 : Int)) := hc 4 (by omega)
          have q5 : wr.cell? ⟨b, o + i * 10 + 5, none⟩ = some (.int .u8 (m3 : Int)) := hc 5 (by omega)
          have q6 : wr.cell? ⟨b, o + i * 10 + 6, none⟩ = some (.int .u8 (m4 : Int)) := hc 6 (by omega)
          have q7 : wr.cell? ⟨b, o + i * 10 + 7, none⟩ = some (.int .u8 (m5 : Int)) := hc 7 (by omega)
          have q8 : wr.cell? ⟨b, o + i * 10 + 8, none⟩ = some (.int .u8 (m6 : Int)) := hc 8 (by omega)
          have q9 : wr.cell? ⟨b, o + i * 10 + 9, none⟩ = some (.int .u64 (now : Int)) := hc 9 (by omega)
          have hip : ip < 4294967296 := hipx
          clear hc hipx
          have ka := ((Kp.refl (fun _ => False) wr).alloc (.cells #[.int .i64 wh, .int .i64 tk, .int .u32 (ip : Int), .int .u8 (m1 : Int), .int .u8 (m2 : Int), .int .u8 (m3 : Int), .int .u8 (m4 : Int), .int .u8 (m5 : Int), .int .u8 (m6 : Int), .int .u64 (now : Int)] 34)).alloc (.cells #[] 3)
          have BX := Lib.hid ((Bk.new wr 34 #[.int .i64 wh, .int .i64 tk, .int .u32 (ip : Int), .int .u8 (m1 : Int), .int .u8 (m2 : Int), .int .u8 (m3 : Int), .int .u8 (m4 : Int), .int .u8 (m5 : Int), .int .u8 (m6 : Int), .int .u64 (now : Int)]).kept ((Kp.refl (fun _ => False) (wr.alloc (.cells #[.int .i64 wh, .int .i64 tk, .int .u32 (ip : Int), .int .u8 (m1 : Int), .int .u8 (m2 : Int), .int .u8 (m3 : Int), .int .u8 (m4 : Int), .int .u8 (m5 : Int), .int .u8 (m6 : Int), .int .u64 (now : Int)] 34))).alloc (.cells #[] 3)) (fun f => f))
          have A2 := Lib.hid (HAT.out.none ka)
          have IM2 := Lib.hid (HIM.out.kept ka (fun f => f))
          have e0 : ((wr.alloc (.cells #[.int .i64 wh, .int .i64 tk, .int .u32 (ip : Int), .int .u8 (m1 : Int), .int .u8 (m2 : Int), .int .u8 (m3 : Int), .int .u8 (m4 : Int), .int .u8 (m5 : Int), .int .u8 (m6 : Int), .int .u64 (now : Int)] 34)).alloc (.cells #[] 3)).cell? ⟨wr.heap.size, 0, none⟩ = some (.int .i64 wh) := BX.out.cell 0
          have e1 : ((wr.alloc (.cells #[.int .i64 wh, .int .i64 tk, .int .u32 (ip : Int), .int .u8 (m1 : Int), .int .u8 (m2 : Int), .int .u8 (m3 : Int), .int .u8 (m4 : Int), .int .u8 (m5 : Int), .int .u8 (m6 : Int), .int .u64 (now : Int)] 34)).alloc (.cells #[] 3)).cell? ⟨wr.heap.size, 1, none⟩ = some (.int .i64 tk) := BX.out.cell 1
          have e2 : ((wr.alloc (.cells #[.int .i64 wh, .int .i64 tk, .int .u32 (ip : Int), .int .u8 (m1 : Int), .int .u8 (m2 : Int), .int .u8 (m3 : Int), .int .u8 (m4 : Int), .int .u8 (m5 : Int), .int .u8 (m6 : Int), .int .u64 (now : Int)] 34)).alloc (.cells #[] 3)).cell? ⟨wr.heap.size, 2, none⟩ = some (.int .u32 (ip : Int)) := BX.out.cell 2
          have e3 : ((wr.alloc (.cells #[.int .i64 wh, .int .i64 tk, .int .u32 (ip : Int), .int .u8 (m1 : Int), .int .u8 (m2 : Int), .int .u8 (m3 : Int), .int .u8 (m4 : Int), .int .u8 (m5 : Int), .int .u8 (m6 : Int), .int .u64 (now : Int)] 34)).alloc (.cells #[] 3)).cell? ⟨wr.heap.size, 3, none⟩ = some (.int .u8 (m1 : Int)) := BX.out.cell 3
          have e4 : ((wr.alloc (.cells #[.int .i64 wh, .int .i64 tk, .int .u32 (ip : Int), .int .u8 (m1 : Int), .int .u8 (m2 : Int), .int .u8 (m3 : Int), .int .u8 (m4 : Int), .int .u8 (m5 : Int), .int .u8 (m6 : Int), .int .u64 (now : Int)] 34)).alloc (.cells #[] 3)).cell? ⟨wr.heap.size, 4, none⟩ = some (.int .u8 (m2 : Int)) := BX.out.cell 4
          have e5 : ((wr.alloc (.cells #[.int .i64 wh, .int .i64 tk, .int .u32 (ip : Int), .int .u8 (m1 : Int), .int .u8 (m2 : Int), .int .u8 (m3 : Int), .int .u8 (m4 : Int), .int .u8 (m5 : Int), .int .u8 (m6 : Int), .int .u64 (now : Int)] 34)).alloc (.cells #[] 3)).cell? ⟨wr.heap.size, 5, none⟩ = some (.int .u8 (m3 : Int)) := BX.out.cell 5
          have e6 : ((wr.alloc (.cells #[.int .i64 wh, .int .i64 tk, .int .u32 (ip : Int), .int .u8 (m1 : Int), .int .u8 (m2 : Int), .int .u8 (m3 : Int), .int .u8 (m4 : Int), .int .u8 (m5 : Int), .int .u8 (m6 : Int), .int .u64 (now : Int)] 34)).alloc (.cells #[] 3)).cell? ⟨wr.heap.size, 6, none⟩ = some (.int .u8 (m4 : Int)) := BX.out.cell 6
          have e7 : ((wr.alloc (.cells #[.int .i64 wh, .int .i64 tk, .int .u32 (ip : Int), .int .u8 (m1 : Int), .int .u8 (m2 : Int), .int .u8 (m3 : Int), .int .u8 (m4 : Int), .int .u8 (m5 : Int), .int .u8 (m6 : Int), .int .u64 (now : Int)] 34)).alloc (.cells #[] 3)).cell? ⟨wr.heap.size, 7, none⟩ = some (.int .u8 (m5 : Int)) := BX.out.cell 7
          have e8 : ((wr.alloc (.cells #[.int .i64 wh, .int .i64 tk, .int .u32 (ip : Int), .int .u8 (m1 : Int), .int .u8 (m2 : Int), .int .u8 (m3 : Int), .int .u8 (m4 : Int), .int .u8 (m5 : Int), .int .u8 (m6 : Int), .int .u64 (now : Int)] 34)).alloc (.cells #[] 3)).cell? ⟨wr.heap.size, 8, none⟩ = some (.int .u8 (m6 : Int)) := BX.out.cell 8
          have e9 : ((wr.alloc (.cells #[.int .i64 wh, .int .i64 tk, .int .u32 (ip : Int), .int .u8 (m1 : Int), .int .u8 (m2 : Int), .int .u8 (m3 : Int), .int .u8 (m4 : Int), .int .u8 (m5 : Int), .int .u8 (m6 : Int), .int .u64 (now : Int)] 34)).alloc (.cells #[] 3)).cell? ⟨wr.heap.size, 9, none⟩ = some (.int .u64 (now : Int)) := BX.out.cell 9
          clear ka
          by_cases hw0 : wh = 0
          · subst hw0
            have UL := Lib.hid (show Calls Tryz.prog 9 #[.pointer (some ⟨g, 0, none⟩), .int .u32 (ip : Int), .agg #[.int .u8 (m1 : Int), .int .u8 (m2 : Int), .int .u8 (m3 : Int), .int .u8 (m4 : Int), .int .u8 (m5 : Int), .int .u8 (m6 : Int)], .int .u64 (now : Int)] ((wr.alloc (.cells #[.int .i64 0, .int .i64 tk, .int .u32 (ip : Int), .int .u8 (m1 : Int), .int .u8 (m2 : Int), .int .u8 (m3 : Int), .int .u8 (m4 : Int), .int .u8 (m5 : Int), .int .u8 (m6 : Int), .int .u64 (now : Int)] 34)).alloc (.cells #[] 3)) _ from ulearn _ _ g ip now ⟨m1, m2, m3, m4, m5, m6⟩ v _ A2.out.c A2.out.ok A2.out.new hip (by omega))
            go_wp2_with fail
            refine UL.out.mono ?_
            clear UL
            clear q0 e0 q1 e1 q2 e2 q3 e3 q4 e4 q5 e5 q6 e6 q7 e7 q8 e8 q9 e9
            generalize hbx : wr.heap.size = bx at *
            clear hbx
            generalize ((wr.alloc (.cells #[.int .i64 0, .int .i64 tk, .int .u32 (ip : Int), .int .u8 (m1 : Int), .int .u8 (m2 : Int), .int .u8 (m3 : Int), .int .u8 (m4 : Int), .int .u8 (m5 : Int), .int .u8 (m6 : Int), .int .u64 (now : Int)] 34)).alloc (.cells #[] 3)) = W2 at *
            rintro ev w5 ⟨AA, cc, rfl, hr5, hc5, k5⟩
            have A5 := Lib.hid (A2.out.step hc5 (A2.out.ok.learn hip ⟨m1, m2, m3, m4, m5, m6⟩ now) k5)
            have IM5 := Lib.hid (IM2.out.kept k5 (fun hf => hf.1.2 rfl))
            have BX5 := Lib.hid (BX.out.kept k5 (FC.not BX.out (by decide) (by decide)))
            have R5 := Lib.hid hr5
            have TOLD := Lib.hid (show Told (v.learn ip ⟨m1, m2, m3, m4, m5, m6⟩ now).rows (tokof v.rows ip) (prs v.rows) (some ip) from Told.learn A2.out.ok.rs HTW.out.nd_toks)
            have VR6 := Lib.hid (show (v.learn ip ⟨m1, m2, m3, m4, m5, m6⟩ now).room = r0 from HVR.out)
            have VT6 := Lib.hid (show (v.learn ip ⟨m1, m2, m3, m4, m5, m6⟩ now).wait = t0 from HVT.out)
            have VC6 := Lib.hid (show (v.learn ip ⟨m1, m2, m3, m4, m5, m6⟩ now).count ≤ i + 1 from Nat.succ_le_succ hvc)
            have TLE := Lib.hid (show (tokof v.rows ip).length ≤ 1000 from by
              unfold tokof
              cases hg : iget ip v.rows with
              | none => exact Nat.zero_le _
              | some y => have h1 := A2.out.ok.vlen y (iget_mem hg).1; have h2 := A2.out.ok.wait.2; exact (by omega : y.v.length ≤ 1000))
            clear hr5 hc5 k5 A2 IM2 BX
            have hTl : (tokof v.rows ip).length ≤ 1000000 := by
              have h1 := TLE.out
              omega
            go_wp2_with fail
            go_loopw [19] (fun v19 wy => ∃ (k : Nat) (WM : List Ent) (cm6 : Nat), v19 = .int .i64 (k : Int) ∧ k ≤ (tokof v.rows ip).length ∧ IMap wy M cm6 WM ∧ TW WM (lessk (tokof v.rows ip) k (prs v.rows)) ∧ Kp (fun b => b = M) w5 wy) (fun vm _ => (tokof v.rows ip).length - (intOf vm).toNat)
            case atStart => exact ⟨0, WL, cm, rfl, Nat.zero_le _, IM5.out, by rw [lessk_zero]; exact HTW.out, Kp.refl _ _⟩
            case round =>
              obtain ⟨k, WM, cm6, rfl, hk, hI, hTWk, hK⟩ := hrel
              have HI6 := Lib.hid hI
              have HTWk := Lib.hid hTWk
              have HK6 := Lib.hid hK
              clear hI hTWk hK
              by_cases hltk : k < (tokof v.rows ip).length
              · have hkl : (k : Int) < (((tokof v.rows ip).length : Nat) : Int) := by omega
                have hk0 : (0 : Int) ≤ (k : Int) := by omega
                obtain ⟨b8, o8, e8, hc8⟩ := (R5.out.kp HK6.out (fun b o cs _ hb e => imap_not_bk IM5.out (show Bk w5 M 3 cs from by have e : b = M := e; rw [← e]; exact hb))).at_ hltk
                subst e8
                obtain ⟨ip8, hm8, hj8⟩ := TOLD.out.mem k hltk
                have hmk := lessk_mem hltk TOLD.out.nd hm8
                have hlk8 := (HI6.out.run_lookup (P := Tryz.prog) (T := 29) (E := 30) (K := 3) Tryz.underlying29 Tryz.underlying3 (z := .int .u32 0) (by kernel_rfl) (tokof v.rows ip)[k]).2
                rw [HTWk.out.some_ hmk] at hlk8
                have hlk9 : (Instr.lookup 29 (.map (some M)) (.int .i64 (tokof v.rows ip)[k]) true).run Tryz.prog wr = .ok (.tuple #[.int .u32 (ip8 : Int), .bool true]) wr := hlk8
                obtain ⟨w9, hrun9, him9, hk9⟩ := HI6.out.run_delete (P := Tryz.prog) (T := 29) (E := 30) (K := 3) Tryz.underlying29 Tryz.underlying3 (tokof v.rows ip)[k] 3 0
                have I9 := Lib.hid him9
                have T9 := Lib.hid (show TW (mdel (tokof v.rows ip)[k] WM) (lessk (tokof v.rows ip) (k + 1) (prs v.rows)) from by rw [lessk_succ hltk]; exact HTWk.out.del HI6.out.keys hmk)
                have K9 := Lib.hid (HK6.out.trans' hk9)
                have hbx8 := BX5.out.kept HK6.out (fun e => imap_not_bk IM5.out (show Bk w5 M 34 _ from by have e : bx = M := e; rw [← e]; exact BX5.out))
                have x0 := hbx8.cell 0
                have x2 := hbx8.cell 2
                have hip8 : ip = ip8 := (hj8 ip rfl).symm
                subst hip8
                clear hlk8 him9 hk9 hmk hm8 hbx8
                generalize (tokof v.rows ip)[k] = t8 at *
                go_wp2_with fail
                refine ⟨⟨k + 1, _, _, by go_num, by omega, I9.out, T9.out, K9.out⟩, ?_⟩
                simp [intOf]; omega
              · have hkl : ¬ (k : Int) < (((tokof v.rows ip).length : Nat) : Int) := by omega
                obtain rfl : k = (tokof v.rows ip).length := by omega
                have AT6 := Lib.hid (A5.out.mapped IM5.out.at_ (fun hf => hf.2 rfl) SZM.out HK6.out)
                have IM6 := Lib.hid HI6.out
                have TW6 := Lib.hid (show TW WM (prs (v.learn ip ⟨m1, m2, m3, m4, m5, m6⟩ now).rows) from by rw [← TOLD.out.fin]; exact HTWk.out)
                have BD6 := Lib.hid (show ∀ p ∈ prs (v.learn ip ⟨m1, m2, m3, m4, m5, m6⟩ now).rows, p.1 < ((i + 1 : Nat) : Int) from fun p hp => by
                  rw [← TOLD.out.fin] at hp
                  have := HBD.out p (lessk_sub hp)
                  omega)
                clear HTWk
                have TT := Lib.hid (ttokens _ g (v.learn ip ⟨m1, m2, m3, m4, m5, m6⟩ now) wr AT6.out.c.cch AT6.out.ok)
                have hn1 := toks_le_rw AT6.out.ok
                rw [VR6.out, VT6.out, HPQ.out] at hn1
                have hWl : WM.length = (toks (v.learn ip ⟨m1, m2, m3, m4, m5, m6⟩ now).rows).length := by rw [TW6.out.len, prs_len]
                obtain ⟨nt, hnt⟩ : ∃ nt, nt = (toks (v.learn ip ⟨m1, m2, m3, m4, m5, m6⟩ now).rows).length := ⟨_, rfl⟩
                have HNT := Lib.hid hnt
                rw [← hnt] at TT hn1 hWl
                have HWL := Lib.hid hWl
                clear hnt hWl
                go_wp2_with fail
                refine TT.out.mono ?_
                rintro ev w6 ⟨u6, rfl, ho6, k6⟩
                rw [HNT.out] at ho6
                obtain ⟨A6, c6, rfl, hr6, hb6⟩ := RdN.of_own ho6
                rw [← HNT.out]
                have AT7 := Lib.hid (AT6.out.none k6)
                have IM7 := Lib.hid (IM6.out.kept k6 (fun f => f))
                have hlen := IM7.out.run_len (P := Tryz.prog) (T := 29) (E := 30) (K := 3) Tryz.underlying29 3
                rw [HWL.out] at hlen
                have R6 := Lib.hid hr6
                have TL := Lib.hid (tlen _ g (v.learn ip ⟨m1, m2, m3, m4, m5, m6⟩ now) w6 AT7.out.c.cch)
                have TR := Lib.hid (trows _ g (v.learn ip ⟨m1, m2, m3, m4, m5, m6⟩ now) w6 AT7.out.c.cch)
                have hEl : ¬ (r0 : Int) < (((v.learn ip ⟨m1, m2, m3, m4, m5, m6⟩ now).ents.length : Nat) : Int) := by have := AT7.out.ok.elen; rw [VR6.out] at this; omega
                have hRl : ¬ (r0 : Int) < (((v.learn ip ⟨m1, m2, m3, m4, m5, m6⟩ now).rows.length : Nat) : Int) := by have := AT7.out.ok.rlen; rw [VR6.out] at this; omega
                have hNl : ¬ (pq : Int) < (nt : Int) := by omega
                clear ho6 hr6 hb6 k6 TT
                generalize (v.learn ip ⟨m1, m2, m3, m4, m5, m6⟩ now).ents.length = el at *
                generalize (v.learn ip ⟨m1, m2, m3, m4, m5, m6⟩ now).rows.length = rl at *
                go_wp2_with fail
                refine TL.out.mono ?_
                rintro ev w7 ⟨rfl, rfl⟩
                go_wp2_with fail
                refine TR.out.mono ?_
                rintro ev w8 ⟨rfl, rfl⟩
                clear TL TR
                go_wp2_with fail
                go_loopw [23] (fun v23 wy => ∃ k : Nat, v23 = .int .i64 (k : Int) ∧ k ≤ nt ∧ Kp (fun _ => False) w8 wy) (fun vm _ => nt - (intOf vm).toNat)
                case atStart => exact ⟨0, rfl, Nat.zero_le _, Kp.refl _ _⟩
                case round =>
                  obtain ⟨k3, rfl, hk3, hK3⟩ := hrel
                  by_cases hlt3 : k3 < nt
                  · have hkl3 : (k3 : Int) < (nt : Int) := by omega
                    have hk30 : (0 : Int) ≤ (k3 : Int) := by omega
                    have hlt4 : k3 < (toks (v.learn ip ⟨m1, m2, m3, m4, m5, m6⟩ now).rows).length := by rw [← HNT.out]; exact hlt3
                    obtain ⟨b8, o8, e8, hc8⟩ := (R6.out.none_kept hK3).at_ hlt4
                    subst e8
                    have hlk8 := ((IM7.out.kept hK3 (fun f => f)).run_lookup (P := Tryz.prog) (T := 29) (E := 30) (K := 3) Tryz.underlying29 Tryz.underlying3 (z := .int .u32 0) (by kernel_rfl) (toks (v.learn ip ⟨m1, m2, m3, m4, m5, m6⟩ now).rows)[k3]).2
                    obtain ⟨j8, hj8⟩ := mem_toks_prs (List.getElem_mem hlt4)
                    rw [TW6.out.some_ hj8] at hlk8
                    have HK3 := Lib.hid hK3
                    generalize (toks (v.learn ip ⟨m1, m2, m3, m4, m5, m6⟩ now).rows)[k3] = t8 at *
                    have hlk9 : (Instr.lookup 29 (.map (some M)) (.int .i64 t8) true).run Tryz.prog wr = .ok (.tuple #[.int .u32 (j8 : Int), .bool true]) wr := hlk8
                    clear hlk8 hj8 hK3 hlen
                    go_wp2_with fail
                    refine ⟨⟨k3 + 1, by go_num, by omega, HK3.out⟩, ?_⟩
                    simp [intOf]; omega
                  · have hkl3 : ¬ (k3 : Int) < (nt : Int) := by omega
                    have A9 := Lib.hid (AT7.out.none hK3)
                    have I9 := Lib.hid (IM7.out.kept hK3 (fun f => f))
                    clear hK3 hlen
                    go_wp2_with fail
                    refine ⟨⟨i + 1, _, WM, _, by go_num, by omega, A9.out, I9.out, TW6.out, BD6.out, VR6.out, VT6.out, VC6.out⟩, ?_⟩
                    simp [intOf]; omega
          · by_cases hw2 : wh = 2
            · subst hw2
              have UW := uwait _ _ g ip now (i : Int) v ((wr.alloc (.cells #[.int .i64 2, .int .i64 tk, .int .u32 (ip : Int), .int .u8 (m1 : Int), .int .u8 (m2 : Int), .int .u8 (m3 : Int), .int .u8 (m4 : Int), .int .u8 (m5 : Int), .int .u8 (m6 : Int), .int .u64 (now : Int)] 34)).alloc (.cells #[] 3)) A2.out.c A2.out.ok A2.out.new (fun _ _ => trivial) hip (by omega)
              have hV2 := A2.out.ok.wait_ hip (i : Int) now
              have hwt := wait_tw A2.out.ok (ip := ip) (now := now) (t := (i : Int)) HTW.out (fun p hp => by have := HBD.out p hp; omega)
              obtain ⟨⟨v1, fb, fe⟩, hvv⟩ : ∃ r, v.wait_ ip (i : Int) now = r := ⟨_, rfl⟩
              rw [hvv] at UW hV2 hwt
              simp only at UW hV2 hwt
              clear hvv
              have UWH := Lib.hid UW
              have HV2 := Lib.hid hV2
              clear UW hV2
              rcases hwt with ⟨rfl, rfl⟩ | ⟨rfl, hw1, hw2, hw3, hw4, hw5⟩
              · go_wp2_with fail
                refine UWH.out.mono ?_
                clear UWH
                clear q0 e0 q1 e1 q2 e2 q3 e3 q4 e4 q5 e5 q6 e6 q7 e7 q8 e8 q9 e9
                generalize hbx : wr.heap.size = bx at *
                clear hbx
                generalize ((wr.alloc (.cells #[.int .i64 2, .int .i64 tk, .int .u32 (ip : Int), .int .u8 (m1 : Int), .int .u8 (m2 : Int), .int .u8 (m3 : Int), .int .u8 (m4 : Int), .int .u8 (m5 : Int), .int .u8 (m6 : Int), .int .u64 (now : Int)] 34)).alloc (.cells #[] 3)) = W2 at *
                rintro ev w5 ⟨rfl, hc5, k5⟩
                have AT6 := Lib.hid (A2.out.step hc5 HV2.out k5)
                have IM6 := Lib.hid (IM2.out.kept k5 (fun hf => hf.1.2 rfl))
                obtain ⟨WM, hWM⟩ : ∃ WM, WM = WL := ⟨_, rfl⟩
                subst hWM
                have TW6 := Lib.hid HTW.out
                have BD6 := Lib.hid (show ∀ p ∈ prs v1.rows, p.1 < ((i + 1 : Nat) : Int) from fun p hp => by have := HBD.out p hp; omega)
                have VR6 := Lib.hid HVR.out
                have VT6 := Lib.hid HVT.out
                have VC6 := Lib.hid (show v1.count ≤ i + 1 from Nat.le_succ_of_le hvc)
                clear hc5 k5 A2 IM2 BX
                go_wp2_with fail
                go_loopw [19] (fun v19 wy => v19 = .int .i64 0 ∧ wy = w5) (fun _ _ => 0)
                case atStart => exact ⟨rfl, rfl⟩
                case round =>
                  obtain ⟨rfl, hwe⟩ := hrel
                  subst hwe
                  have TT := Lib.hid (ttokens _ g (v1) wr AT6.out.c.cch AT6.out.ok)
                  have hn1 := toks_le_rw AT6.out.ok
                  rw [VR6.out, VT6.out, HPQ.out] at hn1
                  have hWl : WM.length = (toks (v1).rows).length := by rw [TW6.out.len, prs_len]
                  obtain ⟨nt, hnt⟩ : ∃ nt, nt = (toks (v1).rows).length := ⟨_, rfl⟩
                  have HNT := Lib.hid hnt
                  rw [← hnt] at TT hn1 hWl
                  have HWL := Lib.hid hWl
                  clear hnt hWl
                  go_wp2_with fail
                  refine TT.out.mono ?_
                  rintro ev w6 ⟨u6, rfl, ho6, k6⟩
                  rw [HNT.out] at ho6
                  obtain ⟨A6, c6, rfl, hr6, hb6⟩ := RdN.of_own ho6
                  rw [← HNT.out]
                  have AT7 := Lib.hid (AT6.out.none k6)
                  have IM7 := Lib.hid (IM6.out.kept k6 (fun f => f))
                  have hlen := IM7.out.run_len (P := Tryz.prog) (T := 29) (E := 30) (K := 3) Tryz.underlying29 3
                  rw [HWL.out] at hlen
                  have R6 := Lib.hid hr6
                  have TL := Lib.hid (tlen _ g (v1) w6 AT7.out.c.cch)
                  have TR := Lib.hid (trows _ g (v1) w6 AT7.out.c.cch)
                  have hEl : ¬ (r0 : Int) < (((v1).ents.length : Nat) : Int) := by have := AT7.out.ok.elen; rw [VR6.out] at this; omega
                  have hRl : ¬ (r0 : Int) < (((v1).rows.length : Nat) : Int) := by have := AT7.out.ok.rlen; rw [VR6.out] at this; omega
                  have hNl : ¬ (pq : Int) < (nt : Int) := by omega
                  clear ho6 hr6 hb6 k6 TT
                  generalize (v1).ents.length = el at *
                  generalize (v1).rows.length = rl at *
                  go_wp2_with fail
                  refine TL.out.mono ?_
                  rintro ev w7 ⟨rfl, rfl⟩
                  go_wp2_with fail
                  refine TR.out.mono ?_
                  rintro ev w8 ⟨rfl, rfl⟩
                  clear TL TR
                  go_wp2_with fail
                  go_loopw [23] (fun v23 wy => ∃ k : Nat, v23 = .int .i64 (k : Int) ∧ k ≤ nt ∧ Kp (fun _ => False) w8 wy) (fun vm _ => nt - (intOf vm).toNat)
                  case atStart => exact ⟨0, rfl, Nat.zero_le _, Kp.refl _ _⟩
                  case round =>
                    obtain ⟨k3, rfl, hk3, hK3⟩ := hrel
                    by_cases hlt3 : k3 < nt
                    · have hkl3 : (k3 : Int) < (nt : Int) := by omega
                      have hk30 : (0 : Int) ≤ (k3 : Int) := by omega
                      have hlt4 : k3 < (toks (v1).rows).length := by rw [← HNT.out]; exact hlt3
                      obtain ⟨b8, o8, e8, hc8⟩ := (R6.out.none_kept hK3).at_ hlt4
                      subst e8
                      have hlk8 := ((IM7.out.kept hK3 (fun f => f)).run_lookup (P := Tryz.prog) (T := 29) (E := 30) (K := 3) Tryz.underlying29 Tryz.underlying3 (z := .int .u32 0) (by kernel_rfl) (toks (v1).rows)[k3]).2
                      obtain ⟨j8, hj8⟩ := mem_toks_prs (List.getElem_mem hlt4)
                      rw [TW6.out.some_ hj8] at hlk8
                      have HK3 := Lib.hid hK3
                      generalize (toks (v1).rows)[k3] = t8 at *
                      have hlk9 : (Instr.lookup 29 (.map (some M)) (.int .i64 t8) true).run Tryz.prog wr = .ok (.tuple #[.int .u32 (j8 : Int), .bool true]) wr := hlk8
                      clear hlk8 hj8 hK3 hlen
                      go_wp2_with fail
                      refine ⟨⟨k3 + 1, by go_num, by omega, HK3.out⟩, ?_⟩
                      simp [intOf]; omega
                    · have hkl3 : ¬ (k3 : Int) < (nt : Int) := by omega
                      have A9 := Lib.hid (AT7.out.none hK3)
                      have I9 := Lib.hid (IM7.out.kept hK3 (fun f => f))
                      clear hK3 hlen
                      go_wp2_with fail
                      refine ⟨⟨i + 1, _, WM, _, by go_num, by omega, A9.out, I9.out, TW6.out, BD6.out, VR6.out, VT6.out, VC6.out⟩, ?_⟩
                      simp [intOf]; omega
              · have HW := Lib.hid (And.intro hw1 (And.intro hw2 (And.intro hw3 (And.intro hw4 hw5))))
                clear hw1 hw2 hw3 hw4 hw5
                go_wp2_with fail
                refine UWH.out.mono ?_
                clear UWH
                clear q0 e0 q1 e1 q2 e2 q3 e3 q4 e4 q5 e5 q6 e6 q7 e7 q8 e8 q9 e9
                generalize hbx : wr.heap.size = bx at *
                clear hbx
                generalize ((wr.alloc (.cells #[.int .i64 2, .int .i64 tk, .int .u32 (ip : Int), .int .u8 (m1 : Int), .int .u8 (m2 : Int), .int .u8 (m3 : Int), .int .u8 (m4 : Int), .int .u8 (m5 : Int), .int .u8 (m6 : Int), .int .u64 (now : Int)] 34)).alloc (.cells #[] 3)) = W2 at *
                rintro ev w5 ⟨rfl, hc5, k5⟩
                have A5 := Lib.hid (A2.out.step hc5 HV2.out k5)
                have IM5 := Lib.hid (IM2.out.kept k5 (fun hf => hf.1.2 rfl))
                have BX5 := Lib.hid (BX.out.kept k5 (FC.not BX.out (by decide) (by decide)))
                have x2 := BX5.out.cell 2
                obtain ⟨w9, c9, hrun9, u9, k9⟩ := IM5.out.run_update (P := Tryz.prog) (T := 29) (E := 30) (K := 3) Tryz.underlying29 Tryz.underlying3 (i : Int) (.int .u32 (ip : Int))
                have AT6 := Lib.hid (A5.out.mapped IM5.out.at_ (fun hf => hf.2 rfl) SZM.out k9)
                have IM6 := Lib.hid u9
                obtain ⟨WM, hWM⟩ : ∃ WM, WM = mput (i : Int) (.int .u32 (ip : Int)) cm WL := ⟨_, rfl⟩
                have TW6 := Lib.hid (show TW WM (prs v1.rows) from by rw [hWM]; exact HW.out.2.2.2.1 cm)
                rw [← hWM] at IM6
                have BD6 := Lib.hid (show ∀ p ∈ prs v1.rows, p.1 < ((i + 1 : Nat) : Int) from fun p hp => by
                  rcases HW.out.2.2.2.2 p hp with h1 | h1
                  · have := HBD.out p h1; omega
                  · rw [h1]; show (i : Int) < _; omega)
                have VR6 := Lib.hid (HW.out.1.trans HVR.out)
                have VT6 := Lib.hid (HW.out.2.1.trans HVT.out)
                have VC6 := Lib.hid (show v1.count ≤ i + 1 from Nat.le_trans HW.out.2.2.1 (Nat.succ_le_succ hvc))
                clear hc5 k5 A2 IM2 BX u9 k9 hWM
                go_wp2_with fail
                go_loopw [19] (fun v19 wy => v19 = .int .i64 0 ∧ wy = w9) (fun _ _ => 0)
                case atStart => exact ⟨rfl, rfl⟩
                case round =>
                  obtain ⟨rfl, hwe⟩ := hrel
                  subst hwe
                  have TT := Lib.hid (ttokens _ g (v1) wr AT6.out.c.cch AT6.out.ok)
                  have hn1 := toks_le_rw AT6.out.ok
                  rw [VR6.out, VT6.out, HPQ.out] at hn1
                  have hWl : WM.length = (toks (v1).rows).length := by rw [TW6.out.len, prs_len]
                  obtain ⟨nt, hnt⟩ : ∃ nt, nt = (toks (v1).rows).length := ⟨_, rfl⟩
                  have HNT := Lib.hid hnt
                  rw [← hnt] at TT hn1 hWl
                  have HWL := Lib.hid hWl
                  clear hnt hWl
                  go_wp2_with fail
                  refine TT.out.mono ?_
                  rintro ev w6 ⟨u6, rfl, ho6, k6⟩
                  rw [HNT.out] at ho6
                  obtain ⟨A6, c6, rfl, hr6, hb6⟩ := RdN.of_own ho6
                  rw [← HNT.out]
                  have AT7 := Lib.hid (AT6.out.none k6)
                  have IM7 := Lib.hid (IM6.out.kept k6 (fun f => f))
                  have hlen := IM7.out.run_len (P := Tryz.prog) (T := 29) (E := 30) (K := 3) Tryz.underlying29 3
                  rw [HWL.out] at hlen
                  have R6 := Lib.hid hr6
                  have TL := Lib.hid (tlen _ g (v1) w6 AT7.out.c.cch)
                  have TR := Lib.hid (trows _ g (v1) w6 AT7.out.c.cch)
                  have hEl : ¬ (r0 : Int) < (((v1).ents.length : Nat) : Int) := by have := AT7.out.ok.elen; rw [VR6.out] at this; omega
                  have hRl : ¬ (r0 : Int) < (((v1).rows.length : Nat) : Int) := by have := AT7.out.ok.rlen; rw [VR6.out] at this; omega
                  have hNl : ¬ (pq : Int) < (nt : Int) := by omega
                  clear ho6 hr6 hb6 k6 TT
                  generalize (v1).ents.length = el at *
                  generalize (v1).rows.length = rl at *
                  go_wp2_with fail
                  refine TL.out.mono ?_
                  rintro ev w7 ⟨rfl, rfl⟩
                  go_wp2_with fail
                  refine TR.out.mono ?_
                  rintro ev w8 ⟨rfl, rfl⟩
                  clear TL TR
                  go_wp2_with fail
                  go_loopw [23] (fun v23 wy => ∃ k : Nat, v23 = .int .i64 (k : Int) ∧ k ≤ nt ∧ Kp (fun _ => False) w8 wy) (fun vm _ => nt - (intOf vm).toNat)
                  case atStart => exact ⟨0, rfl, Nat.zero_le _, Kp.refl _ _⟩
                  case round =>
                    obtain ⟨k3, rfl, hk3, hK3⟩ := hrel
                    by_cases hlt3 : k3 < nt
                    · have hkl3 : (k3 : Int) < (nt : Int) := by omega
                      have hk30 : (0 : Int) ≤ (k3 : Int) := by omega
                      have hlt4 : k3 < (toks (v1).rows).length := by rw [← HNT.out]; exact hlt3
                      obtain ⟨b8, o8, e8, hc8⟩ := (R6.out.none_kept hK3).at_ hlt4
                      subst e8
                      have hlk8 := ((IM7.out.kept hK3 (fun f => f)).run_lookup (P := Tryz.prog) (T := 29) (E := 30) (K := 3) Tryz.underlying29 Tryz.underlying3 (z := .int .u32 0) (by kernel_rfl) (toks (v1).rows)[k3]).2
                      obtain ⟨j8, hj8⟩ := mem_toks_prs (List.getElem_mem hlt4)
                      rw [TW6.out.some_ hj8] at hlk8
                      have HK3 := Lib.hid hK3
                      generalize (toks (v1).rows)[k3] = t8 at *
                      have hlk9 : (Instr.lookup 29 (.map (some M)) (.int .i64 t8) true).run Tryz.prog wr = .ok (.tuple #[.int .u32 (j8 : Int), .bool true]) wr := hlk8
                      clear hlk8 hj8 hK3 hlen
                      go_wp2_with fail
                      refine ⟨⟨k3 + 1, by go_num, by omega, HK3.out⟩, ?_⟩
                      simp [intOf]; omega
                    · have hkl3 : ¬ (k3 : Int) < (nt : Int) := by omega
                      have A9 := Lib.hid (AT7.out.none hK3)
                      have I9 := Lib.hid (IM7.out.kept hK3 (fun f => f))
                      clear hK3 hlen
                      go_wp2_with fail
                      refine ⟨⟨i + 1, _, WM, _, by go_num, by omega, A9.out, I9.out, TW6.out, BD6.out, VR6.out, VT6.out, VC6.out⟩, ?_⟩
                      simp [intOf]; omega
            · by_cases hw3 : wh = 3
              · subst hw3
                have US := Lib.hid (usweep _ _ g now v ((wr.alloc (.cells #[.int .i64 3, .int .i64 tk, .int .u32 (ip : Int), .int .u8 (m1 : Int), .int .u8 (m2 : Int), .int .u8 (m3 : Int), .int .u8 (m4 : Int), .int .u8 (m5 : Int), .int .u8 (m6 : Int), .int .u64 (now : Int)] 34)).alloc (.cells #[] 3)) A2.out.c A2.out.ok (A2.out.tab HT.out) (fun hf => by have h1 := hf.1; have h2 := K2.out.size; have h3 := HT.out.lt; omega))
                go_wp2_with fail
                refine US.out.mono ?_
                clear US
                clear q0 e0 q1 e1 q2 e2 q3 e3 q4 e4 q5 e5 q6 e6 q7 e7 q8 e8 q9 e9
                generalize hbx : wr.heap.size = bx at *
                clear hbx
                generalize ((wr.alloc (.cells #[.int .i64 3, .int .i64 tk, .int .u32 (ip : Int), .int .u8 (m1 : Int), .int .u8 (m2 : Int), .int .u8 (m3 : Int), .int .u8 (m4 : Int), .int .u8 (m5 : Int), .int .u8 (m6 : Int), .int .u64 (now : Int)] 34)).alloc (.cells #[] 3)) = W2 at *
                rintro ev w5 ⟨u5, L5, rfl, hg5, ho5, hc5, k5⟩
                obtain ⟨AA, cc, rfl, hr5, hb5⟩ := RdN.of_own ho5
                have A5 := Lib.hid (A2.out.step hc5 (A2.out.ok.left _) k5)
                have IM5 := Lib.hid (IM2.out.kept k5 (fun hf => hf.1.2 rfl))
                have BX5 := Lib.hid (BX.out.kept k5 (FC.not BX.out (by decide) (by decide)))
                have R5 := Lib.hid hr5
                have TOLD := Lib.hid (show Told (v.left (min now MT)).rows (outs L5 v.rows) (prs v.rows) none from Told.sweep A2.out.ok.rs HTW.out.nd_toks hg5)
                have VR6 := Lib.hid (show (v.left (min now MT)).room = r0 from HVR.out)
                have VT6 := Lib.hid (show (v.left (min now MT)).wait = t0 from HVT.out)
                have VC6 := Lib.hid (show (v.left (min now MT)).count ≤ i + 1 from Nat.le_succ_of_le hvc)
                have TLE := Lib.hid (show (outs L5 v.rows).length ≤ 100000 from by
                  obtain ⟨R, hR, hL⟩ := hg5
                  have h1 := outs_le A2.out.ok.vlen L5
                  have h2 := congrArg List.length hL
                  have h3 := rgot_len (min now MT) R
                  have h4 := hR.len A2.out.ok.rs
                  have h5 := A2.out.ok.rlen
                  have h6 := A2.out.ok.room.2
                  have h7 := A2.out.ok.wait.2
                  rw [List.length_map] at h2
                  have h8 : L5.length * v.wait ≤ 256 * 64 := Nat.mul_le_mul (by omega) h7
                  omega)
                clear hr5 hc5 k5 A2 IM2 BX hg5 ho5 hb5
                have hTl : (outs L5 v.rows).length ≤ 1000000 := by
                  have h1 := TLE.out
                  omega
                go_wp2_with fail
                go_loopw [19] (fun v19 wy => ∃ (k : Nat) (WM : List Ent) (cm6 : Nat), v19 = .int .i64 (k : Int) ∧ k ≤ (outs L5 v.rows).length ∧ IMap wy M cm6 WM ∧ TW WM (lessk (outs L5 v.rows) k (prs v.rows)) ∧ Kp (fun b => b = M) w5 wy) (fun vm _ => (outs L5 v.rows).length - (intOf vm).toNat)
                case atStart => exact ⟨0, WL, cm, rfl, Nat.zero_le _, IM5.out, by rw [lessk_zero]; exact HTW.out, Kp.refl _ _⟩
                case round =>
                  obtain ⟨k, WM, cm6, rfl, hk, hI, hTWk, hK⟩ := hrel
                  have HI6 := Lib.hid hI
                  have HTWk := Lib.hid hTWk
                  have HK6 := Lib.hid hK
                  clear hI hTWk hK
                  by_cases hltk : k < (outs L5 v.rows).length
                  · have hkl : (k : Int) < (((outs L5 v.rows).length : Nat) : Int) := by omega
                    have hk0 : (0 : Int) ≤ (k : Int) := by omega
                    obtain ⟨b8, o8, e8, hc8⟩ := (R5.out.kp HK6.out (fun b o cs _ hb e => imap_not_bk IM5.out (show Bk w5 M 3 cs from by have e : b = M := e; rw [← e]; exact hb))).at_ hltk
                    subst e8
                    obtain ⟨ip8, hm8, hj8⟩ := TOLD.out.mem k hltk
                    have hmk := lessk_mem hltk TOLD.out.nd hm8
                    have hlk8 := (HI6.out.run_lookup (P := Tryz.prog) (T := 29) (E := 30) (K := 3) Tryz.underlying29 Tryz.underlying3 (z := .int .u32 0) (by kernel_rfl) (outs L5 v.rows)[k]).2
                    rw [HTWk.out.some_ hmk] at hlk8
                    have hlk9 : (Instr.lookup 29 (.map (some M)) (.int .i64 (outs L5 v.rows)[k]) true).run Tryz.prog wr = .ok (.tuple #[.int .u32 (ip8 : Int), .bool true]) wr := hlk8
                    obtain ⟨w9, hrun9, him9, hk9⟩ := HI6.out.run_delete (P := Tryz.prog) (T := 29) (E := 30) (K := 3) Tryz.underlying29 Tryz.underlying3 (outs L5 v.rows)[k] 3 0
                    have I9 := Lib.hid him9
                    have T9 := Lib.hid (show TW (mdel (outs L5 v.rows)[k] WM) (lessk (outs L5 v.rows) (k + 1) (prs v.rows)) from by rw [lessk_succ hltk]; exact HTWk.out.del HI6.out.keys hmk)
                    have K9 := Lib.hid (HK6.out.trans' hk9)
                    have hbx8 := BX5.out.kept HK6.out (fun e => imap_not_bk IM5.out (show Bk w5 M 34 _ from by have e : bx = M := e; rw [← e]; exact BX5.out))
                    have x0 := hbx8.cell 0
                    have x2 := hbx8.cell 2
                    clear hj8
                    skip
                    clear hlk8 him9 hk9 hmk hm8 hbx8
                    generalize (outs L5 v.rows)[k] = t8 at *
                    go_wp2_with fail
                    refine ⟨⟨k + 1, _, _, by go_num, by omega, I9.out, T9.out, K9.out⟩, ?_⟩
                    simp [intOf]; omega
                  · have hkl : ¬ (k : Int) < (((outs L5 v.rows).length : Nat) : Int) := by omega
                    obtain rfl : k = (outs L5 v.rows).length := by omega
                    have AT6 := Lib.hid (A5.out.mapped IM5.out.at_ (fun hf => hf.2 rfl) SZM.out HK6.out)
                    have IM6 := Lib.hid HI6.out
                    have TW6 := Lib.hid (show TW WM (prs (v.left (min now MT)).rows) from by rw [← TOLD.out.fin]; exact HTWk.out)
                    have BD6 := Lib.hid (show ∀ p ∈ prs (v.left (min now MT)).rows, p.1 < ((i + 1 : Nat) : Int) from fun p hp => by
                      rw [← TOLD.out.fin] at hp
                      have := HBD.out p (lessk_sub hp)
                      omega)
                    clear HTWk
                    have TT := Lib.hid (ttokens _ g (v.left (min now MT)) wr AT6.out.c.cch AT6.out.ok)
                    have hn1 := toks_le_rw AT6.out.ok
                    rw [VR6.out, VT6.out, HPQ.out] at hn1
                    have hWl : WM.length = (toks (v.left (min now MT)).rows).length := by rw [TW6.out.len, prs_len]
                    obtain ⟨nt, hnt⟩ : ∃ nt, nt = (toks (v.left (min now MT)).rows).length := ⟨_, rfl⟩
                    have HNT := Lib.hid hnt
                    rw [← hnt] at TT hn1 hWl
                    have HWL := Lib.hid hWl
                    clear hnt hWl
                    go_wp2_with fail
                    refine TT.out.mono ?_
                    rintro ev w6 ⟨u6, rfl, ho6, k6⟩
                    rw [HNT.out] at ho6
                    obtain ⟨A6, c6, rfl, hr6, hb6⟩ := RdN.of_own ho6
                    rw [← HNT.out]
                    have AT7 := Lib.hid (AT6.out.none k6)
                    have IM7 := Lib.hid (IM6.out.kept k6 (fun f => f))
                    have hlen := IM7.out.run_len (P := Tryz.prog) (T := 29) (E := 30) (K := 3) Tryz.underlying29 3
                    rw [HWL.out] at hlen
                    have R6 := Lib.hid hr6
                    have TL := Lib.hid (tlen _ g (v.left (min now MT)) w6 AT7.out.c.cch)
                    have TR := Lib.hid (trows _ g (v.left (min now MT)) w6 AT7.out.c.cch)
                    have hEl : ¬ (r0 : Int) < (((v.left (min now MT)).ents.length : Nat) : Int) := by have := AT7.out.ok.elen; rw [VR6.out] at this; omega
                    have hRl : ¬ (r0 : Int) < (((v.left (min now MT)).rows.length : Nat) : Int) := by have := AT7.out.ok.rlen; rw [VR6.out] at this; omega
                    have hNl : ¬ (pq : Int) < (nt : Int) := by omega
                    clear ho6 hr6 hb6 k6 TT
                    generalize (v.left (min now MT)).ents.length = el at *
                    generalize (v.left (min now MT)).rows.length = rl at *
                    go_wp2_with fail
                    refine TL.out.mono ?_
                    rintro ev w7 ⟨rfl, rfl⟩
                    go_wp2_with fail
                    refine TR.out.mono ?_
                    rintro ev w8 ⟨rfl, rfl⟩
                    clear TL TR
                    go_wp2_with fail
                    go_loopw [23] (fun v23 wy => ∃ k : Nat, v23 = .int .i64 (k : Int) ∧ k ≤ nt ∧ Kp (fun _ => False) w8 wy) (fun vm _ => nt - (intOf vm).toNat)
                    case atStart => exact ⟨0, rfl, Nat.zero_le _, Kp.refl _ _⟩
                    case round =>
                      obtain ⟨k3, rfl, hk3, hK3⟩ := hrel
                      by_cases hlt3 : k3 < nt
                      · have hkl3 : (k3 : Int) < (nt : Int) := by omega
                        have hk30 : (0 : Int) ≤ (k3 : Int) := by omega
                        have hlt4 : k3 < (toks (v.left (min now MT)).rows).length := by rw [← HNT.out]; exact hlt3
                        obtain ⟨b8, o8, e8, hc8⟩ := (R6.out.none_kept hK3).at_ hlt4
                        subst e8
                        have hlk8 := ((IM7.out.kept hK3 (fun f => f)).run_lookup (P := Tryz.prog) (T := 29) (E := 30) (K := 3) Tryz.underlying29 Tryz.underlying3 (z := .int .u32 0) (by kernel_rfl) (toks (v.left (min now MT)).rows)[k3]).2
                        obtain ⟨j8, hj8⟩ := mem_toks_prs (List.getElem_mem hlt4)
                        rw [TW6.out.some_ hj8] at hlk8
                        have HK3 := Lib.hid hK3
                        generalize (toks (v.left (min now MT)).rows)[k3] = t8 at *
                        have hlk9 : (Instr.lookup 29 (.map (some M)) (.int .i64 t8) true).run Tryz.prog wr = .ok (.tuple #[.int .u32 (j8 : Int), .bool true]) wr := hlk8
                        clear hlk8 hj8 hK3 hlen
                        go_wp2_with fail
                        refine ⟨⟨k3 + 1, by go_num, by omega, HK3.out⟩, ?_⟩
                        simp [intOf]; omega
                      · have hkl3 : ¬ (k3 : Int) < (nt : Int) := by omega
                        have A9 := Lib.hid (AT7.out.none hK3)
                        have I9 := Lib.hid (IM7.out.kept hK3 (fun f => f))
                        clear hK3 hlen
                        go_wp2_with fail
                        refine ⟨⟨i + 1, _, WM, _, by go_num, by omega, A9.out, I9.out, TW6.out, BD6.out, VR6.out, VT6.out, VC6.out⟩, ?_⟩
                        simp [intOf]; omega
              · have hw0' : ¬ wh = 0 := hw0
                have AT6 := Lib.hid A2.out
                have IM6 := Lib.hid IM2.out
                obtain ⟨WM, hWM⟩ : ∃ WM, WM = WL := ⟨_, rfl⟩
                subst hWM
                have TW6 := Lib.hid HTW.out
                have BD6 := Lib.hid (show ∀ p ∈ prs v.rows, p.1 < ((i + 1 : Nat) : Int) from fun p hp => by have := HBD.out p hp; omega)
                have VR6 := Lib.hid HVR.out
                have VT6 := Lib.hid HVT.out
                have VC6 := Lib.hid (show v.count ≤ i + 1 from Nat.le_succ_of_le hvc)
                go_wp2_with fail
                clear q0 e0 q1 e1 q2 e2 q3 e3 q4 e4 q5 e5 q6 e6 q7 e7 q8 e8 q9 e9
                generalize hbx : wr.heap.size = bx at *
                clear hbx
                generalize ((wr.alloc (.cells #[.int .i64 wh, .int .i64 tk, .int .u32 (ip : Int), .int .u8 (m1 : Int), .int .u8 (m2 : Int), .int .u8 (m3 : Int), .int .u8 (m4 : Int), .int .u8 (m5 : Int), .int .u8 (m6 : Int), .int .u64 (now : Int)] 34)).alloc (.cells #[] 3)) = W2 at *
                go_loopw [19] (fun v19 wy => v19 = .int .i64 0 ∧ wy = W2) (fun _ _ => 0)
                case atStart => exact ⟨rfl, rfl⟩
                case round =>
                  obtain ⟨rfl, hwe⟩ := hrel
                  subst hwe
                  have TT := Lib.hid (ttokens _ g (v) wr AT6.out.c.cch AT6.out.ok)
                  have hn1 := toks_le_rw AT6.out.ok
                  rw [VR6.out, VT6.out, HPQ.out] at hn1
                  have hWl : WM.length = (toks (v).rows).length := by rw [TW6.out.len, prs_len]
                  obtain ⟨nt, hnt⟩ : ∃ nt, nt = (toks (v).rows).length := ⟨_, rfl⟩
                  have HNT := Lib.hid hnt
                  rw [← hnt] at TT hn1 hWl
                  have HWL := Lib.hid hWl
                  clear hnt hWl
                  go_wp2_with fail
                  refine TT.out.mono ?_
                  rintro ev w6 ⟨u6, rfl, ho6, k6⟩
                  rw [HNT.out] at ho6
                  obtain ⟨A6, c6, rfl, hr6, hb6⟩ := RdN.of_own ho6
                  rw [← HNT.out]
                  have AT7 := Lib.hid (AT6.out.none k6)
                  have IM7 := Lib.hid (IM6.out.kept k6 (fun f => f))
                  have hlen := IM7.out.run_len (P := Tryz.prog) (T := 29) (E := 30) (K := 3) Tryz.underlying29 3
                  rw [HWL.out] at hlen
                  have R6 := Lib.hid hr6
                  have TL := Lib.hid (tlen _ g (v) w6 AT7.out.c.cch)
                  have TR := Lib.hid (trows _ g (v) w6 AT7.out.c.cch)
                  have hEl : ¬ (r0 : Int) < (((v).ents.length : Nat) : Int) := by have := AT7.out.ok.elen; rw [VR6.out] at this; omega
                  have hRl : ¬ (r0 : Int) < (((v).rows.length : Nat) : Int) := by have := AT7.out.ok.rlen; rw [VR6.out] at this; omega
                  have hNl : ¬ (pq : Int) < (nt : Int) := by omega
                  clear ho6 hr6 hb6 k6 TT
                  generalize (v).ents.length = el at *
                  generalize (v).rows.length = rl at *
                  go_wp2_with fail
                  refine TL.out.mono ?_
                  rintro ev w7 ⟨rfl, rfl⟩
                  go_wp2_with fail
                  refine TR.out.mono ?_
                  rintro ev w8 ⟨rfl, rfl⟩
                  clear TL TR
                  go_wp2_with fail
                  go_loopw [23] (fun v23 wy => ∃ k : Nat, v23 = .int .i64 (k : Int) ∧ k ≤ nt ∧ Kp (fun _ => False) w8 wy) (fun vm _ => nt - (intOf vm).toNat)
                  case atStart => exact ⟨0, rfl, Nat.zero_le _, Kp.refl _ _⟩
                  case round =>
                    obtain ⟨k3, rfl, hk3, hK3⟩ := hrel
                    by_cases hlt3 : k3 < nt
                    · have hkl3 : (k3 : Int) < (nt : Int) := by omega
                      have hk30 : (0 : Int) ≤ (k3 : Int) := by omega
                      have hlt4 : k3 < (toks (v).rows).length := by rw [← HNT.out]; exact hlt3
                      obtain ⟨b8, o8, e8, hc8⟩ := (R6.out.none_kept hK3).at_ hlt4
                      subst e8
                      have hlk8 := ((IM7.out.kept hK3 (fun f => f)).run_lookup (P := Tryz.prog) (T := 29) (E := 30) (K := 3) Tryz.underlying29 Tryz.underlying3 (z := .int .u32 0) (by kernel_rfl) (toks (v).rows)[k3]).2
                      obtain ⟨j8, hj8⟩ := mem_toks_prs (List.getElem_mem hlt4)
                      rw [TW6.out.some_ hj8] at hlk8
                      have HK3 := Lib.hid hK3
                      generalize (toks (v).rows)[k3] = t8 at *
                      have hlk9 : (Instr.lookup 29 (.map (some M)) (.int .i64 t8) true).run Tryz.prog wr = .ok (.tuple #[.int .u32 (j8 : Int), .bool true]) wr := hlk8
                      clear hlk8 hj8 hK3 hlen
                      go_wp2_with fail
                      refine ⟨⟨k3 + 1, by go_num, by omega, HK3.out⟩, ?_⟩
                      simp [intOf]; omega
                    · have hkl3 : ¬ (k3 : Int) < (nt : Int) := by omega
                      have A9 := Lib.hid (AT7.out.none hK3)
                      have I9 := Lib.hid (IM7.out.kept hK3 (fun f => f))
                      clear hK3 hlen
                      go_wp2_with fail
                      refine ⟨⟨i + 1, _, WM, _, by go_num, by omega, A9.out, I9.out, TW6.out, BD6.out, VR6.out, VT6.out, VC6.out⟩, ?_⟩
                      simp [intOf]; omega
        · have hil : ¬ (i : Int) < (xs.length : Int) := by omega
          go_wp2_with fail
          exact bodyPost_ret (results_tmp rfl _ _ _) rfl ⟨rfl, HAT.out.kp⟩
    · have NW := Lib.hid (cnew_bad room wait life pat w2 hr)
      clear hr
      go_wp2_with fail
      refine NW.out.mono ?_
      rintro ev w3 ⟨rfl, k⟩
      have K3 := Lib.hid (K2.out.trans' k)
      clear NW k
      go_wp2_with fail
      exact bodyPost_ret (results_tmp rfl _ _ _) rfl ⟨rfl, K3.out⟩
  · have hl1 : (100 : Int) < (xs.length : Int) := by omega
    go_wp2_with fail
    exact bodyPost_ret (results_tmp rfl _ _ _) rfl ⟨rfl, K2.out⟩
end Go.Proofs.YtgidjgkafbjkpaaGreatDoor
