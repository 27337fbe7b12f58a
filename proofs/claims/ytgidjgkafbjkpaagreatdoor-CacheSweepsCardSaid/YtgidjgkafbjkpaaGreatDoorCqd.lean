/- Cache: CacheFinds' walk. -/
import Derived.Test.YtgidjgkafbjkpaaGreatDoorCao
import Derived.Test.YtgidjgkafbjkpaaGreatDoorCap
import Derived.Test.YtgidjgkafbjkpaaGreatDoorCpe
set_option linter.unusedVariables false
set_option linter.unusedSimpArgs false
namespace Go.Proofs.YtgidjgkafbjkpaaGreatDoor
open Go.RowKit

/-- A map of the law's own is made: the cache leaves it alone. -/
theorem AT.beside {w W : World} {F G : Nat → Prop} {g : Nat} {v : CV} (h : AT w F G g v W) (o : Obj) : AT w (fun b => F b ∧ b ≠ W.heap.size) G g v (W.alloc o) := by
  have ka := (Kp.refl (fun _ => False) W).alloc o
  refine ⟨h.kp.trans' ka, (h.c.mono (F' := fun b => F b ∧ b ≠ W.heap.size) (fun b hb hf => ⟨hf, by omega⟩) (fun _ _ x => x)).none_kept ka, h.ok, fun b hb hf => h.old b hb hf.1, fun b hb => ?_⟩
  rw [World.size_alloc] at hb
  exact ⟨h.new b (by omega), by omega⟩
/-- A map of the law's own turns. -/
theorem AT.mapped {w W W' : World} {F G : Nat → Prop} {g M clock : Nat} {es : Array MapEntry} {v : CV} (h : AT w F G g v W) (hM : W.heap[M]? = some (.map es clock)) (hF : ¬ F M) (hw : w.heap.size ≤ M) (k : Kp (fun b => b = M) W W') : AT w F G g v W' :=
  ⟨h.kp.trans k (fun b hb e => by have e : b = M := e; omega), h.c.kept k (fun b _ hf e => hF (by have e : b = M := e; rw [← e]; exact hf)) (fun b cs hb e => by
    have e : b = M := e
    rw [e] at hb
    unfold Bk at hb
    rw [hM] at hb
    cases hb), h.ok, h.old, fun b hb => h.new b (Nat.le_trans k.size hb)⟩
/-- A map by Ips that holds just these. -/
structure SM (L : List Ent) (S : List Nat) : Prop where
  get : ∀ i : Nat, mget (i : Int) L = if i ∈ S then some (.bool true) else none
  len : L.length = S.length
theorem SM.nil : SM [] [] := ⟨fun i => by simp [mget], rfl⟩
theorem SM.put {L : List Ent} {S : List Nat} (h : SM L S) {i : Nat} (hi : i ∉ S) (c : Nat) : SM (mput (i : Int) (.bool true) c L) (S ++ [i]) := by
  have hn : mget (i : Int) L = none := by rw [h.get, if_neg hi]
  refine ⟨fun j => ?_, ?_⟩
  · rw [mget_mput, h.get]
    by_cases e : j = i
    · subst e; simp
    · rw [if_neg (by omega)]
      simp [e]
  · rw [mput_len_new hn, h.len, List.length_append, List.length_singleton]
def fms (i : Nat) : M6 := ⟨2 * i, 0, 0, 0, 0, 0⟩
def fnV (room life due : Nat) (l : List En) (c : Nat) : CV := ⟨room, 1, life, 1, c, l, []⟩
theorem fn_learn (room life now : Nat) (l : List En) (c i k : Nat) : (fnV room life (min now MT + life) l c).learn i (fms k) now = fnV room life (min now MT + life) (base room i l ++ [⟨i, fms k, c + 1, min now MT + life⟩]) (c + 1) := by
  simp [CV.learn, fnV, idel]
theorem FS.fnd {room due n t : Nat} {L : List Nat} {l : List En} (h : FS room due fms L l) (hl : IS n l) {i : Nat} (hi : i < L.length) (hn : L[i] ∉ L.drop (i + 1)) :
    fnd l L[i] t = if (recs (L.drop (i + 1))).length < room ∧ min t MT < due then some (fms i) else none := by
  have h1 := h.there hl hi hn
  unfold Go.Proofs.YtgidjgkafbjkpaaGreatDoor.fnd
  by_cases h2 : (recs (L.drop (i + 1))).length < room
  · rw [if_pos h2] at h1
    obtain ⟨x, hx, hv, hd⟩ := h1
    rw [hx]
    simp only [hv, hd, h2, true_and]
  · rw [if_neg h2] at h1
    rw [h1, if_neg (fun hh => h2 hh.1)]
theorem FS.left_all {room due t : Nat} {L : List Nat} {l : List En} (h : FS room due fms L l) (ht : t < due) : lft t l = l := filter_none (fun x hx => by have := (h.val x hx).1; simp; omega)
theorem FS.left_none {room due t : Nat} {L : List Nat} {l : List En} (h : FS room due fms L l) (ht : due ≤ t) : lft t l = [] := by
  unfold lft
  rw [List.filter_eq_nil_iff]
  intro x hx
  have := (h.val x hx).1
  simp
  omega
/-- A Mac's cells. -/
def mac (m : Nat → Int) : Array Value := #[.int .u8 (m 0), .int .u8 (m 1), .int .u8 (m 2), .int .u8 (m 3), .int .u8 (m 4), .int .u8 (m 5)]
/-- Are two Macs the same? -/
def macEq (m n : Nat → Int) : Bool := (List.range 6).all fun i => m i == n i
theorem run_equalIn_mac (w : World) (d : Nat) (m n : Nat → Int) : (Op.equalIn (d + 2) 32 (.agg (mac m)) (.agg (mac n))).run Tryz.prog w = .ok (macEq m n) w := by
  have hsz : ∀ w, (sizeOf 5).run Tryz.prog w = .ok 1 w := fun w => by kernel_rfl
  have ht : Tryz.prog.underlying 32 = some (.array 6 5) := Tryz.underlying32
  have he : Tryz.prog.underlying 5 = some (.int .u8) := Tryz.underlying5
  unfold macEq
  rw [List.range_eq_range', Op.equalIn]
  simp only [Sem.run_bind, run_underlying ht, Result.andThen_ok, hsz, Std.Legacy.Range.forIn_eq_forIn_range', Std.Legacy.Range.size, Nat.sub_zero, Nat.add_sub_cancel, Nat.div_one]
  have hl : ∀ i ∈ List.range' 0 6 1, i < 6 := fun i hi => by simpa using (List.mem_range'_1.1 hi).2
  generalize List.range' 0 6 1 = l at hl ⊢
  induction l with
  | nil => simp
  | cons i l ih =>
    have hi : i < 6 := hl i (by simp)
    have hcell : ∀ (m : Nat → Int), (part 5 (mac m) (i * 1)).run Tryz.prog w = .ok (.int .u8 (m i)) w := fun m => by
      have h6 : i = 0 ∨ i = 1 ∨ i = 2 ∨ i = 3 ∨ i = 4 ∨ i = 5 := by omega
      rcases h6 with rfl | rfl | rfl | rfl | rfl | rfl <;> simp [part, isAgg, run_underlying he, mac]
    have pe : (Op.equalIn (d + 1) 5 (.int .u8 (m i)) (.int .u8 (n i))).run Tryz.prog w = .ok (m i == n i) w := by
      rw [run_equalIn_int w d 5 .u8 .u8 _ _ he]
    simp only [List.forIn_cons, Sem.run_bind, hcell m, hcell n, pe, Result.andThen_ok, List.all_cons]
    cases hb : (m i == n i)
    · simp
    · simp only [Bool.not_true, Bool.false_eq_true, if_false, Sem.run_pure, Result.andThen_ok, Bool.true_and]
      exact ih fun j hj => hl j (by simp [hj])
theorem run_neq_mac_self (w : World) (a b c d e f : Int) : (binOp .neq 32 (.agg #[.int .u8 a, .int .u8 b, .int .u8 c, .int .u8 d, .int .u8 e, .int .u8 f]) (.agg #[.int .u8 a, .int .u8 b, .int .u8 c, .int .u8 d, .int .u8 e, .int .u8 f])).run Tryz.prog w = .ok (.bool false) w := by
  have h := run_equalIn_mac w 9998 (fun i => if i = 0 then a else if i = 1 then b else if i = 2 then c else if i = 3 then d else if i = 4 then e else f) (fun i => if i = 0 then a else if i = 1 then b else if i = 2 then c else if i = 3 then d else if i = 4 then e else f)
  have h2 : ∀ m : Nat → Int, macEq m m = true := fun m => by simp [macEq]
  rw [h2] at h
  have h3 : (Op.equal 32 (.agg #[.int .u8 a, .int .u8 b, .int .u8 c, .int .u8 d, .int .u8 e, .int .u8 f]) (.agg #[.int .u8 a, .int .u8 b, .int .u8 c, .int .u8 d, .int .u8 e, .int .u8 f])).run Tryz.prog w = .ok true w := h
  simp only [binOp]
  simp [h3]
set_option maxRecDepth 1000000 in
set_option maxHeartbeats 16000000 in
theorem finds_walk (room : Int) (life now later : Nat) (A : Option Addr) (c : Nat) (ips : List Nat) (w : World) (hT : Tab w) (hA : RdI w .u32 A (ips.map fun i : Nat => (i : Int))) (hip : ∀ i ∈ ips, i < 4294967296) :
    Calls Tryz.prog 4 #[.int .i64 room, .int .u64 (life : Int), .slice A ips.length c, .int .u64 (now : Int), .int .u64 (later : Int)] w fun ev w' => ev = .returned (.bool true) ∧ Kp (fun _ => False) w w' := by
  have HA := Lib.hid hA
  have HT := Lib.hid hT
  have HIP := Lib.hid hip
  clear hA hip
  go_enter Tryz.func4, Tryz.ntmps4
  go_wp2_with fail
  refine (alive14 w hT).mono ?_
  rintro ev w2 ⟨rfl, k⟩
  have K2 := Lib.hid k
  clear k hT
  by_cases hb : ips.length ≤ 60 ∧ now ≤ 1152921504606846976 ∧ later ≤ 17179869184
  · obtain ⟨hb1, hb2, hb3⟩ := hb
    have hl1 : ¬ (60 : Int) < (ips.length : Int) := by omega
    have hl2 : ¬ (1152921504606846976 : Int) < (now : Int) := by omega
    have hl3 : ¬ (17179869184 : Int) < (later : Int) := by omega
    by_cases hr : Rgt room 1 life 1
    · obtain ⟨r0, rfl⟩ := Int.eq_ofNat_of_zero_le (show 0 ≤ room by have := hr.1; omega)
      have HR := Lib.hid hr
      have NW := Lib.hid (show Calls Tryz.prog 8 #[.int .i64 (r0 : Int), .int .i64 1, .int .u64 (life : Int), .int .u64 1] w2 _ from unew (fun _ => True) r0 1 life 1 w2 hr)
      clear hr
      go_wp2_with fail
      refine NW.out.mono ?_
      rintro ev w3 ⟨g, rfl, hc, k⟩
      have A3 := Lib.hid (AT.made K2.out hc (VOK.empty HR.out) k)
      have hr1 : 1 ≤ r0 := A3.out.ok.room.1
      have hr2 : r0 ≤ 256 := A3.out.ok.room.2
      have hlf : life ≤ 4294967296 := A3.out.ok.life
      clear NW hc k
      obtain ⟨D, hD⟩ : ∃ D, D = min now MT + life := ⟨_, rfl⟩
      have HD := Lib.hid hD
      clear hD
      go_wp2_with fail
      go_loopw [13] (fun v13 wr => ∃ (i : Nat) (l : List En), v13 = .int .i64 (i : Int) ∧ i ≤ ips.length ∧ FS r0 D fms (ips.take i) l ∧ AT w (fun b => w2.heap.size ≤ b) (fun _ => True) g (fnV r0 life D l i) wr) (fun v _ => ips.length - (intOf v).toNat)
      case atStart => exact ⟨0, [], rfl, Nat.zero_le _, FS.nil _ _ _, A3.out⟩
      case round =>
        obtain ⟨i, l, rfl, hi, hFS, hAT⟩ := hrel
        have HAT := Lib.hid hAT
        have HFS := Lib.hid hFS
        by_cases hlt : i < ips.length
        · have hil : (i : Int) < (ips.length : Int) := by omega
          have hi0' : (0 : Int) ≤ (i : Int) := by omega
          obtain ⟨b, o, hAe, hcr⟩ : ∃ b o, A = some ⟨b, o, none⟩ ∧ wr.cell? ⟨b, o + i, none⟩ = some (.int .u32 ((ips[i] : Nat) : Int)) := by
            rcases HA.out.2 with h | ⟨b, o, e, hc⟩
            · rw [List.length_map] at h; omega
            · refine ⟨b, o, e, ?_⟩
              have := kp_kc0 (hc i (by rw [List.length_map]; exact hlt)) hAT.kp
              rw [this, List.getD_eq_getElem?_getD, List.getElem?_eq_getElem (by rw [List.length_map]; exact hlt)]
              simp
          subst hAe
          have hm : IntKind.u8.wrap (2 * (i : Int)) = 2 * (i : Int) := IntWalk.u8_in _ (by omega)
          have TL := ulearn _ _ g ips[i] now (fms i) _ wr hAT.c hAT.ok hAT.new (HIP.out _ (List.getElem_mem hlt)) (show i < 1000000 by omega)
          have hV2 := hAT.ok.learn (HIP.out _ (List.getElem_mem hlt)) (fms i) now
          have hfs2 := hFS.step hAT.ok.es hr1 ips[i]
          rw [List.length_take, Nat.min_eq_left hi, ← (show ips.take (i + 1) = ips.take i ++ [ips[i]] by rw [List.take_add_one, List.getElem?_eq_getElem hlt]; rfl)] at hfs2
          rw [HD.out, fn_learn, ← HD.out] at TL hV2
          rw [show macV (fms i) = .agg #[.int .u8 (2 * (i : Int)), .int .u8 0, .int .u8 0, .int .u8 0, .int .u8 0, .int .u8 0] by simp [macV, fms]] at TL
          have HFS2 := Lib.hid hfs2
          have HV2 := Lib.hid hV2
          obtain ⟨x, hx⟩ : ∃ x, ips[i] = x := ⟨_, rfl⟩
          rw [hx] at TL hcr HFS2 HV2
          have TLH := Lib.hid TL
          clear TL hfs2 hV2 hx hAT hFS
          go_wp2_with fail
          refine TLH.out.mono ?_
          rintro ev w4 ⟨AA, cc, rfl, _, hc4, k4⟩
          have A4 := Lib.hid (HAT.out.step hc4 HV2.out k4)
          clear TLH hc4 k4 hcr
          go_wp2_with fail
          refine ⟨⟨i + 1, _, by go_num, by omega, HFS2.out, A4.out⟩, ?_⟩
          simp [intOf]; omega
        · have hil : ¬ (i : Int) < (ips.length : Int) := by omega
          obtain rfl : i = ips.length := by omega
          rw [List.take_length] at hFS
          have HFS := Lib.hid hFS
          clear hFS hAT
          have hmm := @run_makeMap Tryz.prog
          go_wp2_with fail
          have UM0 := Lib.hid (UMap.made wr)
          have A4 := Lib.hid (HAT.out.beside (.map #[] 0))
          have SZM := Lib.hid HAT.out.kp.size
          obtain ⟨M, hM⟩ : ∃ M, M = wr.heap.size := ⟨_, rfl⟩
          rw [← hM] at UM0 A4 SZM ⊢
          clear hM
          generalize wr.alloc (.map #[] 0) = w4 at *
          have hw : IntKind.u64.wrap ((now : Int) + (later : Int)) = ((now + later : Nat) : Int) := IntWalk.u64_in _ (by omega)
          have hmt : min (now + later) MT = now + later := by unfold MT; omega
          have hmn : min now MT = now := by unfold MT; omega
          have HW := Lib.hid hmt
          have hDn : D = now + life := by rw [HD.out, hmn]
          have HDN := Lib.hid hDn
          have hneq := run_neq_mac_self
          have HNQ := Lib.hid hneq
          clear hmt hmn hDn hmm hneq
          go_loopw [15] (fun v15 wx => ∃ (k : Nat) (L : List Ent) (cm : Nat), v15 = .int .i64 ((k : Int) - 1) ∧ k ≤ ips.length ∧ UMap wx M cm L ∧ SM L (recs (ips.drop k)) ∧ AT w (fun b => w2.heap.size ≤ b ∧ b ≠ M) (fun _ => True) g (fnV r0 life D l ips.length) wx) (fun v _ => (intOf v + 1).toNat)
          case atStart => exact ⟨ips.length, [], 0, rfl, Nat.le_refl _, UM0.out, by rw [List.drop_length]; exact SM.nil, A4.out⟩
          case round =>
            obtain ⟨k, L, cm, rfl, hk, hU, hS, hAT⟩ := hrel
            have HU := Lib.hid hU
            have HS := Lib.hid hS
            have HA4 := Lib.hid hAT
            clear hU hS hAT
            rcases k with _ | i
            · have e0 : (((0 : Nat) : Int) - 1) = -1 := by omega
              simp only [e0]
              have hS0 := HS.out.len
              rw [List.drop_zero] at hS0
              have TS := usweep _ _ g (now + later) _ wr HA4.out.c HA4.out.ok (HA4.out.tab HT.out) (fun hf => by have h1 := hf.1; have h2 := K2.out.size; have h3 := HT.out.lt; omega)
              have TSH := Lib.hid TS
              have HL0 := Lib.hid hS0
              clear TS hS0
              have hgeq : ¬ (0 : Int) ≤ -1 := by omega
              by_cases hc2 : later < life
              · have hc2i : (later : Int) < (life : Int) := by omega
                have hc2j : ¬ (life : Int) ≤ (later : Int) := by omega
                go_wp2_with fail
                refine TSH.out.mono ?_
                rintro ev w5 ⟨u, AA, rfl, _, _, hc5, k5⟩
                have A5 := Lib.hid (HA4.out.step hc5 (HA4.out.ok.left _) k5)
                have U5 := HU.out.kept k5 (fun hf => hf.1.2 rfl)
                have hlen := U5.run_len (P := Tryz.prog) (T := 45) (E := 4) (K := 30) Tryz.underlying45 3
                have TL := tlen _ g _ w5 A5.out.c.cch
                rw [show ((fnV r0 life D l ips.length).left (min (now + later) MT)).ents = l from HFS.out.left_all (by rw [HW.out, HDN.out]; omega)] at TL
                have hfin : (l.length : Int) = min ((L.length : Nat) : Int) (r0 : Int) := by
                  have h1 := HFS.out.len
                  have h2 := HL0.out
                  omega
                rw [hfin] at TL
                have TLH := Lib.hid TL
                clear hc5 k5 U5 TSH TL hfin
                go_wp2_with fail
                refine TLH.out.mono ?_
                rintro ev w6 ⟨rfl, rfl⟩
                go_wp2_with fail
                exact bodyPost_ret (results_tmp rfl _ _ _) rfl ⟨rfl, A5.out.kp⟩
              · have hc2i : ¬ (later : Int) < (life : Int) := by omega
                have hc2j : (life : Int) ≤ (later : Int) := by omega
                go_wp2_with fail
                refine TSH.out.mono ?_
                rintro ev w5 ⟨u, AA, rfl, _, _, hc5, k5⟩
                have A5 := Lib.hid (HA4.out.step hc5 (HA4.out.ok.left _) k5)
                have TL := tlen _ g _ w5 A5.out.c.cch
                rw [show ((fnV r0 life D l ips.length).left (min (now + later) MT)).ents = [] from HFS.out.left_none (by rw [HW.out, HDN.out]; omega)] at TL
                have TLH := Lib.hid (show Calls Tryz.prog 13 #[.pointer (some ⟨g, 0, none⟩)] w5 (fun ev w' => ev = .returned (.int .i64 0) ∧ w' = w5) from TL)
                clear hc5 k5 TSH TL
                go_wp2_with fail
                refine TLH.out.mono ?_
                rintro ev w6 ⟨rfl, rfl⟩
                go_wp2_with fail
                exact bodyPost_ret (results_tmp rfl _ _ _) rfl ⟨rfl, A5.out.kp⟩
            · have e0 : (((i + 1 : Nat) : Int) - 1) = (i : Int) := by omega
              simp only [e0]
              have hlt : i < ips.length := hk
              have hil : (i : Int) < (ips.length : Int) := by omega
              have hi0' : (0 : Int) ≤ (i : Int) := by omega
              obtain ⟨b, o, hAe, hc⟩ : ∃ b o, A = some ⟨b, o, none⟩ ∧ ∀ W, Kp (fun _ => False) w W → W.cell? ⟨b, o + i, none⟩ = some (.int .u32 ((ips[i] : Nat) : Int)) := by
                rcases HA.out.2 with h | ⟨b, o, e, hc⟩
                · rw [List.length_map] at h; omega
                · refine ⟨b, o, e, fun W hW => ?_⟩
                  have := kp_kc0 (hc i (by rw [List.length_map]; exact hlt)) hW
                  rw [this, List.getD_eq_getElem?_getD, List.getElem?_eq_getElem (by rw [List.length_map]; exact hlt)]
                  simp
              subst hAe
              have hcr := hc wr HA4.out.kp
              have HC := Lib.hid hc
              have hlk := (HU.out.run_lookup (P := Tryz.prog) (T := 45) (E := 4) (K := 30) Tryz.underlying45 Tryz.underlying30 (z := .bool false) (by kernel_rfl) ((ips[i] : Nat) : Int)).1
              rw [HS.out.get] at hlk
              have hseen := recs_seen hlt
              by_cases hin : ips[i] ∈ ips.drop (i + 1)
              · rw [if_pos (mem_recs.2 hin)] at hlk
                rw [if_pos hin] at hseen
                have hlk2 : (Instr.lookup 45 (.map (some M)) (.int .u32 ((ips[i] : Nat) : Int)) false).run Tryz.prog wr = .ok (.bool true) wr := hlk
                have HSE := Lib.hid hseen
                obtain ⟨x, hx⟩ : ∃ x, ips[i] = x := ⟨_, rfl⟩
                rw [hx] at hcr hlk2
                clear hlk hc hseen hin hx
                go_wp2_with fail
                refine ⟨⟨i, L, cm, by go_num, by omega, HU.out, by rw [HSE.out]; exact HS.out, HA4.out⟩, ?_⟩
                simp [intOf]
              · rw [if_neg (fun h => hin (mem_recs.1 h))] at hlk
                rw [if_neg hin] at hseen
                have hlk2 : (Instr.lookup 45 (.map (some M)) (.int .u32 ((ips[i] : Nat) : Int)) false).run Tryz.prog wr = .ok (.bool false) wr := hlk
                have HSE := Lib.hid hseen
                have TF := tfind _ g ips[i] (now + later) _ wr HA4.out.c.cch (HIP.out _ (List.getElem_mem hlt))
                have hf := HFS.out.fnd (t := now + later) HA4.out.ok.es hlt hin
                have hLl := HS.out.len
                by_cases hc1 : (recs (ips.drop (i + 1))).length < r0
                · have hc1i : ((L.length : Nat) : Int) < (r0 : Int) := by omega
                  by_cases hc2 : later < life
                  · have hc2i : (later : Int) < (life : Int) := by omega
                    rw [if_pos ⟨hc1, by rw [HW.out, HDN.out]; omega⟩] at hf
                    rw [show fnd (fnV r0 life D l ips.length).ents ips[i] (now + later) = _ from hf] at TF
                    have TFH := Lib.hid (show Calls Tryz.prog 15 #[.pointer (some ⟨g, 0, none⟩), .int .u32 ((ips[i] : Nat) : Int), .int .u64 ((now + later : Nat) : Int)] wr (fun ev w' => ev = .returned (.tuple #[.agg #[.int .u8 (2 * (i : Int)), .int .u8 0, .int .u8 0, .int .u8 0, .int .u8 0, .int .u8 0], .bool true]) ∧ Kp (fun _ => False) wr w') from TF)
                    have HIN := Lib.hid hin
                    obtain ⟨x, hx⟩ : ∃ x, ips[i] = x := ⟨_, rfl⟩
                    rw [hx] at hcr hlk2 TFH HIN
                    simp only [hx] at HC
                    have HX := Lib.hid hx
                    clear hlk hc hseen hin TF hf hx
                    go_wp2_with fail
                    refine TFH.out.mono ?_
                    rintro ev w5 ⟨rfl, k5⟩
                    have ka := k5.alloc (.cells #[.int .u8 (2 * (i : Int)), .int .u8 0, .int .u8 0, .int .u8 0, .int .u8 0, .int .u8 0] 32)
                    have hcr5 := HC.out _ (HA4.out.kp.trans' ka)
                    have BM := Bk.new w5 32 #[.int .u8 (2 * (i : Int)), .int .u8 0, .int .u8 0, .int .u8 0, .int .u8 0, .int .u8 0]
                    have d0 := BM.cell 0
                    have d1 := BM.cell 1
                    have d2 := BM.cell 2
                    have d3 := BM.cell 3
                    have d4 := BM.cell 4
                    have d5 := BM.cell 5
                    have U6 := HU.out.kept ka (fun f => f)
                    have hlen := U6.run_len (P := Tryz.prog) (T := 45) (E := 4) (K := 30) Tryz.underlying45 3
                    obtain ⟨w7, c7, hrun7, u7, k7⟩ := U6.run_update (P := Tryz.prog) (T := 45) (E := 4) (K := 30) Tryz.underlying45 Tryz.underlying30 (x : Int) (.bool true)
                    have A7 := Lib.hid ((HA4.out.none ka).mapped U6.at_ (fun hf => hf.2 rfl) SZM.out k7)
                    have U7 := Lib.hid u7
                    have hm8 : IntKind.u8.wrap (2 * (i : Int)) = 2 * (i : Int) := IntWalk.u8_in _ (by omega)
                    have hneq := HNQ.out
                    clear ka U6 u7 k7 k5 TFH BM hcr hlk2
                    go_wp2_with fail
                    have S7 := HS.out.put (i := x) (fun h => HIN.out (mem_recs.1 h)) cm
                    rw [← HX.out, ← HSE.out, HX.out] at S7
                    refine ⟨⟨i, _, c7, by go_num, by omega, U7.out, S7, A7.out⟩, ?_⟩
                    simp [intOf]
                  · have hc2i : ¬ (later : Int) < (life : Int) := by omega
                    rw [if_neg (fun hh => by have := hh.2; rw [HW.out, HDN.out] at this; omega)] at hf
                    rw [show fnd (fnV r0 life D l ips.length).ents ips[i] (now + later) = _ from hf] at TF
                    have TFH := Lib.hid (show Calls Tryz.prog 15 #[.pointer (some ⟨g, 0, none⟩), .int .u32 ((ips[i] : Nat) : Int), .int .u64 ((now + later : Nat) : Int)] wr (fun ev w' => ev = .returned (.tuple #[.agg #[.int .u8 (0), .int .u8 0, .int .u8 0, .int .u8 0, .int .u8 0, .int .u8 0], .bool false]) ∧ Kp (fun _ => False) wr w') from TF)
                    have HIN := Lib.hid hin
                    obtain ⟨x, hx⟩ : ∃ x, ips[i] = x := ⟨_, rfl⟩
                    rw [hx] at hcr hlk2 TFH HIN
                    simp only [hx] at HC
                    have HX := Lib.hid hx
                    clear hlk hc hseen hin TF hf hx
                    go_wp2_with fail
                    refine TFH.out.mono ?_
                    rintro ev w5 ⟨rfl, k5⟩
                    have ka := k5.alloc (.cells #[.int .u8 (0), .int .u8 0, .int .u8 0, .int .u8 0, .int .u8 0, .int .u8 0] 32)
                    have hcr5 := HC.out _ (HA4.out.kp.trans' ka)
                    have BM := Bk.new w5 32 #[.int .u8 (0), .int .u8 0, .int .u8 0, .int .u8 0, .int .u8 0, .int .u8 0]
                    have d0 := BM.cell 0
                    have d1 := BM.cell 1
                    have d2 := BM.cell 2
                    have d3 := BM.cell 3
                    have d4 := BM.cell 4
                    have d5 := BM.cell 5
                    have U6 := HU.out.kept ka (fun f => f)
                    have hlen := U6.run_len (P := Tryz.prog) (T := 45) (E := 4) (K := 30) Tryz.underlying45 3
                    obtain ⟨w7, c7, hrun7, u7, k7⟩ := U6.run_update (P := Tryz.prog) (T := 45) (E := 4) (K := 30) Tryz.underlying45 Tryz.underlying30 (x : Int) (.bool true)
                    have A7 := Lib.hid ((HA4.out.none ka).mapped U6.at_ (fun hf => hf.2 rfl) SZM.out k7)
                    have U7 := Lib.hid u7
                    have hm8 : IntKind.u8.wrap (2 * (i : Int)) = 2 * (i : Int) := IntWalk.u8_in _ (by omega)
                    have hneq := HNQ.out
                    clear ka U6 u7 k7 k5 TFH BM hcr hlk2
                    go_wp2_with fail
                    have S7 := HS.out.put (i := x) (fun h => HIN.out (mem_recs.1 h)) cm
                    rw [← HX.out, ← HSE.out, HX.out] at S7
                    refine ⟨⟨i, _, c7, by go_num, by omega, U7.out, S7, A7.out⟩, ?_⟩
                    simp [intOf]
                · have hc1i : ¬ ((L.length : Nat) : Int) < (r0 : Int) := by omega
                  rw [if_neg (fun hh => hc1 hh.1)] at hf
                  rw [show fnd (fnV r0 life D l ips.length).ents ips[i] (now + later) = _ from hf] at TF
                  have TFH := Lib.hid (show Calls Tryz.prog 15 #[.pointer (some ⟨g, 0, none⟩), .int .u32 ((ips[i] : Nat) : Int), .int .u64 ((now + later : Nat) : Int)] wr (fun ev w' => ev = .returned (.tuple #[.agg #[.int .u8 (0), .int .u8 0, .int .u8 0, .int .u8 0, .int .u8 0, .int .u8 0], .bool false]) ∧ Kp (fun _ => False) wr w') from TF)
                  have HIN := Lib.hid hin
                  obtain ⟨x, hx⟩ : ∃ x, ips[i] = x := ⟨_, rfl⟩
                  rw [hx] at hcr hlk2 TFH HIN
                  simp only [hx] at HC
                  have HX := Lib.hid hx
                  clear hlk hc hseen hin TF hf hx
                  go_wp2_with fail
                  refine TFH.out.mono ?_
                  rintro ev w5 ⟨rfl, k5⟩
                  have ka := k5.alloc (.cells #[.int .u8 (0), .int .u8 0, .int .u8 0, .int .u8 0, .int .u8 0, .int .u8 0] 32)
                  have hcr5 := HC.out _ (HA4.out.kp.trans' ka)
                  have BM := Bk.new w5 32 #[.int .u8 (0), .int .u8 0, .int .u8 0, .int .u8 0, .int .u8 0, .int .u8 0]
                  have d0 := BM.cell 0
                  have d1 := BM.cell 1
                  have d2 := BM.cell 2
                  have d3 := BM.cell 3
                  have d4 := BM.cell 4
                  have d5 := BM.cell 5
                  have U6 := HU.out.kept ka (fun f => f)
                  have hlen := U6.run_len (P := Tryz.prog) (T := 45) (E := 4) (K := 30) Tryz.underlying45 3
                  obtain ⟨w7, c7, hrun7, u7, k7⟩ := U6.run_update (P := Tryz.prog) (T := 45) (E := 4) (K := 30) Tryz.underlying45 Tryz.underlying30 (x : Int) (.bool true)
                  have A7 := Lib.hid ((HA4.out.none ka).mapped U6.at_ (fun hf => hf.2 rfl) SZM.out k7)
                  have U7 := Lib.hid u7
                  have hm8 : IntKind.u8.wrap (2 * (i : Int)) = 2 * (i : Int) := IntWalk.u8_in _ (by omega)
                  have hneq := HNQ.out
                  clear ka U6 u7 k7 k5 TFH BM hcr hlk2
                  go_wp2_with fail
                  have S7 := HS.out.put (i := x) (fun h => HIN.out (mem_recs.1 h)) cm
                  rw [← HX.out, ← HSE.out, HX.out] at S7
                  refine ⟨⟨i, _, c7, by go_num, by omega, U7.out, S7, A7.out⟩, ?_⟩
                  simp [intOf]
    · have NW := Lib.hid (show Calls Tryz.prog 8 #[.int .i64 room, .int .i64 1, .int .u64 (life : Int), .int .u64 1] w2 _ from cnew_bad room 1 life 1 w2 hr)
      clear hr
      go_wp2_with fail
      refine NW.out.mono ?_
      rintro ev w3 ⟨rfl, k⟩
      have K3 := Lib.hid (K2.out.trans' k)
      clear NW k
      go_wp2_with fail
      exact bodyPost_ret (results_tmp rfl _ _ _) rfl ⟨rfl, K3.out⟩
  · by_cases hb1 : ips.length ≤ 60
    · have hl1 : ¬ (60 : Int) < (ips.length : Int) := by omega
      by_cases hb2 : now ≤ 1152921504606846976
      · have hl2 : ¬ (1152921504606846976 : Int) < (now : Int) := by omega
        have hl3 : (17179869184 : Int) < (later : Int) := by omega
        clear hb
        go_wp2_with fail
        exact bodyPost_ret (results_tmp rfl _ _ _) rfl ⟨rfl, K2.out⟩
      · have hl2 : (1152921504606846976 : Int) < (now : Int) := by omega
        clear hb
        go_wp2_with fail
        exact bodyPost_ret (results_tmp rfl _ _ _) rfl ⟨rfl, K2.out⟩
    · have hl1 : (60 : Int) < (ips.length : Int) := by omega
      clear hb
      go_wp2_with fail
      exact bodyPost_ret (results_tmp rfl _ _ _) rfl ⟨rfl, K2.out⟩
end Go.Proofs.YtgidjgkafbjkpaaGreatDoor
