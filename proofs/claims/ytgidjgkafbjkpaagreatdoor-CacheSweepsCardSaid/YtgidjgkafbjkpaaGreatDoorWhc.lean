/- Wheel: Set, Len, Now. -/
import Derived.Test.YtgidjgkafbjkpaaGreatDoorWhb
set_option linter.unusedVariables false
set_option linter.unusedSimpArgs false
namespace Go.Proofs.YtgidjgkafbjkpaaGreatDoor
open Go.RowKit

theorem hang (g now : Nat) (s : WS) (X : Int → Prop) (i : Int) (d : Nat) (w : World) (h : WM w g now s) (inv : Inv now s.tm.L s.ov.L s.sls s.full X) (hi : X i ∨ mget i s.tm.L = none) (hd : d ≤ TOP) :
    Calls Tryz.prog 50 #[.pointer (some ⟨g, 0, none⟩), .int .i64 i, .int .u64 d] w fun ev w' => ev = .returned (.tuple #[]) ∧ HangPost g now s X i d w w' := by
  rcases Hangs.ex inv.now_le hd with hle | ⟨k, j, hk, hj, ha⟩
  · exact hang_over g now s X i d w h inv hi hd hle
  · exact hang_slot g now s X i d k j w h inv hi hd ha
/-- What Set leaves. -/
def SetPost (g now : Nat) (s : WS) (i : Int) (d : Nat) (w w' : World) : Prop :=
  ∃ s' p c, WM w' g now s' ∧ Inv now s'.tm.L s'.ov.L s'.sls s'.full (fun _ => False) ∧ s'.tm.L = mput i (spotV d p) c (mdel i s.tm.L) ∧ s'.tm.b = s.tm.b ∧ s'.ov.b = s.ov.b ∧ Kp (fp g s) w w' ∧ ∀ b, fp g s' b → fp g s b ∨ w.heap.size ≤ b
theorem set_ends {g now : Nat} {s s2 : WS} {i : Int} {d : Nat} {w w1 w2 w3 : World} (k1 : Kp (fun _ => False) w w1) (hk2 : Kp (fp g s) w1 w2) (hL : s2.tm.L = mdel i s.tm.L) (e1 : s2.tm.b = s.tm.b) (e2 : s2.ov.b = s.ov.b)
    (hf2 : ∀ b, fp g s2 b → fp g s b) (h3 : HangPost g now s2 (fun _ => False) i d w2 w3) : SetPost g now s i d w w3 := by
  obtain ⟨s3, p, c, hm, hI, hL3, e3, e4, k3, f3⟩ := h3
  refine ⟨s3, p, c, hm, hI.congr (fun x => ⟨fun h => h.1.elim, fun h => h.elim⟩), by rw [hL3, hL], e3.trans e1, e4.trans e2, ?_, ?_⟩
  · exact ((k1.mono (T := fp g s) (fun _ f => f.elim)).trans' hk2).trans' (k3.mono hf2)
  · intro b hb
    rcases f3 b hb with h | h
    · exact .inl (hf2 b h)
    · exact .inr (Nat.le_trans k1.size (Nat.le_trans hk2.size h))
set_option maxRecDepth 1000000 in
set_option maxHeartbeats 8000000 in
theorem set_far_none (g now : Nat) (s : WS) (i : Int) (d : Nat) (w : World) (h : WM w g now s) (inv : Inv now s.tm.L s.ov.L s.sls s.full (fun _ => False)) (hg : mget i s.tm.L = none) (hd : ¬ d ≤ TOP) :
    Calls Tryz.prog 26 #[.pointer (some ⟨g, 0, none⟩), .int .i64 i, .int .u64 d] w fun ev w' => ev = .returned (.int .i64 11) ∧ Kp (fun _ => False) w w' := by
  have I := Lib.hid inv
  have C1 := Lib.hid ((h.bk.cell 1).trans (WC_tm ..))
  have z1 := C1.out
  have kA0 := (Kp.refl (fun _ => False) w)
  have d0 : (0 : Int) ≤ (d : Int) := by omega
  have hl0 := (h.tm.run_lookup (P := Tryz.prog) (T := 106) (E := 118) (K := 3) Tryz.underlying106 Tryz.underlying3 (z := .agg #[.int .u64 0, .int .i64 0, .int .i64 0]) (by kernel_rfl) i).2
  rw [hg] at hl0
  have hl : (Instr.lookup 106 (.map (some s.tm.b)) (.int .i64 i) true).run Tryz.prog w = .ok (.tuple #[.agg #[.int .u64 0, .int .i64 0, .int .i64 0], .bool false]) w := hl0
  clear hl0
  have kA := kA0.alloc (.cells #[.int .u64 0, .int .i64 0, .int .i64 0] 118)
  have h1 := h.none_kept kA
  have z2 := kp_kc0 z1 kA
  have hlen := h1.tm.run_len (P := Tryz.prog) (T := 106) (E := 118) (K := 3) Tryz.underlying106 3
  have H1 := Lib.hid h1
  have KA := Lib.hid kA
  have hdd : (4611686018427387904 : Int) < (d : Int) := by unfold TOP at hd; omega
  have hdl : ¬ ((d : Int) ≤ 4611686018427387904) := by omega
  clear h inv hg kA h1
  go_enter Tryz.func26, Tryz.ntmps26
  go_wp2_with fail
  exact bodyPost_ret (results_tmp rfl _ _ _) rfl ⟨rfl, KA.out⟩
set_option maxRecDepth 1000000 in
set_option maxHeartbeats 8000000 in
theorem set_far_some (g now : Nat) (s : WS) (i : Int) (d : Nat) (d' : Nat) (a b : Int) (w : World) (h : WM w g now s) (inv : Inv now s.tm.L s.ov.L s.sls s.full (fun _ => False)) (hg : mget i s.tm.L = some (.agg #[.int .u64 d', .int .i64 a, .int .i64 b])) (hd : ¬ d ≤ TOP) :
    Calls Tryz.prog 26 #[.pointer (some ⟨g, 0, none⟩), .int .i64 i, .int .u64 d] w fun ev w' => ev = .returned (.int .i64 11) ∧ Kp (fun _ => False) w w' := by
  have I := Lib.hid inv
  have C1 := Lib.hid ((h.bk.cell 1).trans (WC_tm ..))
  have z1 := C1.out
  have kA0 := (Kp.refl (fun _ => False) w)
  have d0 : (0 : Int) ≤ (d : Int) := by omega
  have hl0 := (h.tm.run_lookup (P := Tryz.prog) (T := 106) (E := 118) (K := 3) Tryz.underlying106 Tryz.underlying3 (z := .agg #[.int .u64 0, .int .i64 0, .int .i64 0]) (by kernel_rfl) i).2
  rw [hg] at hl0
  have hl : (Instr.lookup 106 (.map (some s.tm.b)) (.int .i64 i) true).run Tryz.prog w = .ok (.tuple #[.agg #[.int .u64 d', .int .i64 a, .int .i64 b], .bool true]) w := hl0
  clear hl0
  have kA := kA0.alloc (.cells #[.int .u64 d', .int .i64 a, .int .i64 b] 118)
  have h1 := h.none_kept kA
  have z2 := kp_kc0 z1 kA
  have hlen := h1.tm.run_len (P := Tryz.prog) (T := 106) (E := 118) (K := 3) Tryz.underlying106 3
  have H1 := Lib.hid h1
  have KA := Lib.hid kA
  have hdd : (4611686018427387904 : Int) < (d : Int) := by unfold TOP at hd; omega
  have hdl : ¬ ((d : Int) ≤ 4611686018427387904) := by omega
  clear h inv hg kA h1
  go_enter Tryz.func26, Tryz.ntmps26
  go_wp2_with fail
  exact bodyPost_ret (results_tmp rfl _ _ _) rfl ⟨rfl, KA.out⟩
set_option maxRecDepth 1000000 in
set_option maxHeartbeats 8000000 in
theorem set_full (g now : Nat) (s : WS) (i : Int) (d : Nat) (w : World) (h : WM w g now s) (inv : Inv now s.tm.L s.ov.L s.sls s.full (fun _ => False)) (hg : mget i s.tm.L = none) (hd : d ≤ TOP) (hn : 16384 ≤ s.tm.L.length) :
    Calls Tryz.prog 26 #[.pointer (some ⟨g, 0, none⟩), .int .i64 i, .int .u64 d] w fun ev w' => ev = .returned (.int .i64 18) ∧ Kp (fun _ => False) w w' := by
  have I := Lib.hid inv
  have C1 := Lib.hid ((h.bk.cell 1).trans (WC_tm ..))
  have z1 := C1.out
  have kA0 := (Kp.refl (fun _ => False) w)
  have d0 : (0 : Int) ≤ (d : Int) := by omega
  have hl0 := (h.tm.run_lookup (P := Tryz.prog) (T := 106) (E := 118) (K := 3) Tryz.underlying106 Tryz.underlying3 (z := .agg #[.int .u64 0, .int .i64 0, .int .i64 0]) (by kernel_rfl) i).2
  rw [hg] at hl0
  have hl : (Instr.lookup 106 (.map (some s.tm.b)) (.int .i64 i) true).run Tryz.prog w = .ok (.tuple #[.agg #[.int .u64 0, .int .i64 0, .int .i64 0], .bool false]) w := hl0
  clear hl0
  have kA := kA0.alloc (.cells #[.int .u64 0, .int .i64 0, .int .i64 0] 118)
  have h1 := h.none_kept kA
  have z2 := kp_kc0 z1 kA
  have hlen := h1.tm.run_len (P := Tryz.prog) (T := 106) (E := 118) (K := 3) Tryz.underlying106 3
  have H1 := Lib.hid h1
  have KA := Lib.hid kA
  have hdl : ((d : Int) ≤ 4611686018427387904) := by unfold TOP at hd; omega
  have hnn : (16384 : Int) ≤ (s.tm.L.length : Int) := by omega
  clear h inv hg kA h1
  go_enter Tryz.func26, Tryz.ntmps26
  go_wp2_with fail
  exact bodyPost_ret (results_tmp rfl _ _ _) rfl ⟨rfl, KA.out⟩
set_option maxRecDepth 1000000 in
set_option maxHeartbeats 8000000 in
theorem set_new (g now : Nat) (s : WS) (i : Int) (d : Nat) (w : World) (h : WM w g now s) (inv : Inv now s.tm.L s.ov.L s.sls s.full (fun _ => False)) (hg : mget i s.tm.L = none) (hd : d ≤ TOP) (hn : s.tm.L.length < 16384) :
    Calls Tryz.prog 26 #[.pointer (some ⟨g, 0, none⟩), .int .i64 i, .int .u64 d] w fun ev w' => ev = .returned (.int .i64 0) ∧ SetPost g now s i d w w' := by
  have I := Lib.hid inv
  have C1 := Lib.hid ((h.bk.cell 1).trans (WC_tm ..))
  have z1 := C1.out
  have kA0 := (Kp.refl (fun _ => False) w)
  have d0 : (0 : Int) ≤ (d : Int) := by omega
  have hl0 := (h.tm.run_lookup (P := Tryz.prog) (T := 106) (E := 118) (K := 3) Tryz.underlying106 Tryz.underlying3 (z := .agg #[.int .u64 0, .int .i64 0, .int .i64 0]) (by kernel_rfl) i).2
  rw [hg] at hl0
  have hl : (Instr.lookup 106 (.map (some s.tm.b)) (.int .i64 i) true).run Tryz.prog w = .ok (.tuple #[.agg #[.int .u64 0, .int .i64 0, .int .i64 0], .bool false]) w := hl0
  clear hl0
  have kA := kA0.alloc (.cells #[.int .u64 0, .int .i64 0, .int .i64 0] 118)
  have h1 := h.none_kept kA
  have z2 := kp_kc0 z1 kA
  have hlen := h1.tm.run_len (P := Tryz.prog) (T := 106) (E := 118) (K := 3) Tryz.underlying106 3
  have H1 := Lib.hid h1
  have KA := Lib.hid kA
  have HD := Lib.hid hd
  have hdl : ((d : Int) ≤ 4611686018427387904) := by unfold TOP at hd; omega
  have hdn : ¬ (4611686018427387904 : Int) < (d : Int) := by omega
  have hnn : ¬ ((16384 : Int) ≤ (s.tm.L.length : Int)) := by omega
  clear h inv hg kA h1
  go_enter Tryz.func26, Tryz.ntmps26
  go_wp2_with fail
  refine (cancel g now s i _ H1.out I.out).mono ?_
  rintro ev w2 ⟨rfl, s2, h2, inv2, hL, e1, e2, hk2, hf2⟩
  have hnone : mget i s2.tm.L = none := by rw [hL, mget_mdel i i _ H1.out.tm.keys, if_pos rfl]
  have K2 := Lib.hid hk2
  have F2 := Lib.hid hf2
  clear hk2 hf2
  go_wp2_with fail
  refine (hang g now s2 (fun _ => False) i d _ h2 inv2 (.inr hnone) HD.out).mono ?_
  rintro ev w3 ⟨rfl, h3⟩
  have PST := Lib.hid (set_ends KA.out K2.out hL e1 e2 F2.out h3)
  go_wp2_with fail
  exact bodyPost_ret (results_tmp rfl _ _ _) rfl ⟨rfl, PST.out⟩
set_option maxRecDepth 1000000 in
set_option maxHeartbeats 8000000 in
theorem set_old (g now : Nat) (s : WS) (i : Int) (d : Nat) (d' : Nat) (a b : Int) (w : World) (h : WM w g now s) (inv : Inv now s.tm.L s.ov.L s.sls s.full (fun _ => False)) (hg : mget i s.tm.L = some (.agg #[.int .u64 d', .int .i64 a, .int .i64 b])) (hd : d ≤ TOP) :
    Calls Tryz.prog 26 #[.pointer (some ⟨g, 0, none⟩), .int .i64 i, .int .u64 d] w fun ev w' => ev = .returned (.int .i64 0) ∧ SetPost g now s i d w w' := by
  have I := Lib.hid inv
  have C1 := Lib.hid ((h.bk.cell 1).trans (WC_tm ..))
  have z1 := C1.out
  have kA0 := (Kp.refl (fun _ => False) w)
  have d0 : (0 : Int) ≤ (d : Int) := by omega
  have hl0 := (h.tm.run_lookup (P := Tryz.prog) (T := 106) (E := 118) (K := 3) Tryz.underlying106 Tryz.underlying3 (z := .agg #[.int .u64 0, .int .i64 0, .int .i64 0]) (by kernel_rfl) i).2
  rw [hg] at hl0
  have hl : (Instr.lookup 106 (.map (some s.tm.b)) (.int .i64 i) true).run Tryz.prog w = .ok (.tuple #[.agg #[.int .u64 d', .int .i64 a, .int .i64 b], .bool true]) w := hl0
  clear hl0
  have kA := kA0.alloc (.cells #[.int .u64 d', .int .i64 a, .int .i64 b] 118)
  have h1 := h.none_kept kA
  have z2 := kp_kc0 z1 kA
  have hlen := h1.tm.run_len (P := Tryz.prog) (T := 106) (E := 118) (K := 3) Tryz.underlying106 3
  have H1 := Lib.hid h1
  have KA := Lib.hid kA
  have HD := Lib.hid hd
  have hdl : ((d : Int) ≤ 4611686018427387904) := by unfold TOP at hd; omega
  have hdn : ¬ (4611686018427387904 : Int) < (d : Int) := by omega
  clear h inv hg kA h1
  go_enter Tryz.func26, Tryz.ntmps26
  go_wp2_with fail
  refine (cancel g now s i _ H1.out I.out).mono ?_
  rintro ev w2 ⟨rfl, s2, h2, inv2, hL, e1, e2, hk2, hf2⟩
  have hnone : mget i s2.tm.L = none := by rw [hL, mget_mdel i i _ H1.out.tm.keys, if_pos rfl]
  have K2 := Lib.hid hk2
  have F2 := Lib.hid hf2
  clear hk2 hf2
  go_wp2_with fail
  refine (hang g now s2 (fun _ => False) i d _ h2 inv2 (.inr hnone) HD.out).mono ?_
  rintro ev w3 ⟨rfl, h3⟩
  have PST := Lib.hid (set_ends KA.out K2.out hL e1 e2 F2.out h3)
  go_wp2_with fail
  exact bodyPost_ret (results_tmp rfl _ _ _) rfl ⟨rfl, PST.out⟩
/-- What Set answers. -/
def setErr (s : WS) (i : Int) (d : Nat) : Nat := if TOP < d then 11 else if mget i s.tm.L = none ∧ 16384 ≤ s.tm.L.length then 18 else 0
/-- Set. -/
theorem set_ (g now : Nat) (s : WS) (i : Int) (d : Nat) (w : World) (h : WM w g now s) (inv : Inv now s.tm.L s.ov.L s.sls s.full (fun _ => False)) :
    Calls Tryz.prog 26 #[.pointer (some ⟨g, 0, none⟩), .int .i64 i, .int .u64 d] w fun ev w' => ev = .returned (.int .i64 ((setErr s i d : Nat) : Int)) ∧
      if setErr s i d = 0 then SetPost g now s i d w w' else Kp (fun _ => False) w w' := by
  have hv : ∀ v, mget i s.tm.L = some v → ∃ d' a b, v = .agg #[.int .u64 ((d' : Nat) : Int), .int .i64 a, .int .i64 b] := by
    intro v hv
    obtain ⟨d', p, rfl, _, _⟩ := inv.spot i v hv
    rcases p with _ | ⟨k, j⟩
    · exact ⟨d', _, _, rfl⟩
    · exact ⟨d', _, _, rfl⟩
  by_cases hd : d ≤ TOP
  · have hd' : ¬ TOP < d := by omega
    rcases hg : mget i s.tm.L with _ | v
    · by_cases hn : s.tm.L.length < 16384
      · have e : setErr s i d = 0 := by unfold setErr; rw [if_neg hd', if_neg (fun h => by omega)]
        rw [e]
        exact set_new g now s i d w h inv hg hd hn
      · have e : setErr s i d = 18 := by unfold setErr; rw [if_neg hd', if_pos ⟨hg, by omega⟩]
        rw [e]
        exact set_full g now s i d w h inv hg hd (by omega)
    · have e : setErr s i d = 0 := by unfold setErr; rw [if_neg hd', if_neg (fun h => by rw [hg] at h; cases h.1)]
      rw [e]
      obtain ⟨d', a, b, rfl⟩ := hv v hg
      exact set_old g now s i d d' a b w h inv hg hd
  · have e : setErr s i d = 11 := by unfold setErr; rw [if_pos (by omega)]
    rw [e]
    rcases hg : mget i s.tm.L with _ | v
    · exact set_far_none g now s i d w h inv hg hd
    · obtain ⟨d', a, b, rfl⟩ := hv v hg
      exact set_far_some g now s i d d' a b w h inv hg hd
set_option maxRecDepth 1000000 in
set_option maxHeartbeats 8000000 in
/-- Now. -/
theorem now_ (g now : Nat) (s : WS) (w : World) (h : WM w g now s) : Calls Tryz.prog 52 #[.pointer (some ⟨g, 0, none⟩)] w fun ev w' => ev = .returned (.int .u64 now) ∧ w' = w := by
  have z1 := (h.bk.cell 0).trans (WC_now ..)
  clear h
  go_enter Tryz.func52, Tryz.ntmps52
  go_wp2_with fail
  exact bodyPost_ret (results_tmp rfl _ _ _) rfl ⟨rfl, rfl⟩
end Go.Proofs.YtgidjgkafbjkpaaGreatDoor
