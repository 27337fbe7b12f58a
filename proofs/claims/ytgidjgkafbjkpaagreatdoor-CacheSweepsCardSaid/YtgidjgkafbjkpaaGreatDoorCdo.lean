/- Cache: Do, on a cache and a new one of the reference. -/
import Derived.Test.YtgidjgkafbjkpaaGreatDoorCqs
import Derived.Test.YtgidjgkafbjkpaaGreatDoorCqd
set_option linter.unusedVariables false
set_option linter.unusedSimpArgs false
namespace Go.Proofs.YtgidjgkafbjkpaaGreatDoor
open Go.RowKit

theorem AT.refd {w W W' : World} {F G : Nat → Prop} {g gr : Nat} {v : CV} {cs : Array Value} (h : AT w F G g v W) (hb : Bk W gr 93 cs) (hF : ¬ F gr) (hw : w.heap.size ≤ gr) (k : Kp (fun b => b = gr) W W') : AT w F G g v W' :=
  ⟨h.kp.trans k (fun b hb e => by have e : b = gr := e; omega), h.c.kept k (fun b _ hf e => hF (by have e : b = gr := e; rw [← e]; exact hf)) (fun b cs' hb' e => by
    have e : b = gr := e
    subst e
    exact hb.ne_of hb' (by decide) rfl), h.ok, h.old, fun b hb => h.new b (Nat.le_trans k.size hb)⟩
theorem wait_count (v : CV) (ip : Nat) (t : Int) (now : Nat) : (v.wait_ ip t now).1.count ≤ v.count + 1 := by
  unfold CV.wait_
  cases iget ip v.rows with
  | some x =>
    dsimp only
    split
    · exact Nat.le_succ _
    · exact Nat.le_succ _
  | none =>
    dsimp only
    split
    · exact Nat.le_succ _
    · exact Nat.le_refl _
theorem RdN.refd {w W : World} {A : Option Addr} {l : List Int} {gr : Nat} {cs : Array Value} (h : RdN w A l) (hb : Bk w gr 93 cs) (k : Kp (fun b => b = gr) w W) : RdN W A l :=
  h.kp k (fun b o cs' _ hb' e => by
    have e : b = gr := e
    subst e
    exact hb.ne_of (show Bk w b 3 cs' from hb') (by decide) rfl)
theorem RdN.rdi {w : World} {A : Option Addr} {l : List Int} (h : RdN w A l) : RdI w .i64 A l := h.1
theorem rdi_nil (w : World) (A : Option Addr) : RdI w .i64 A [] := ⟨by simp, .inl rfl⟩
theorem same_nil (A B : Option Addr) (c d : Nat) (xs : List Int) (w : World) (h : RdN w A xs) : Calls Tryz.prog 16 #[.slice A xs.length c, .slice B 0 d] w fun ev w' => ev = .returned (.bool (xs == [])) ∧ ∃ n, w' = w.drewN n :=
  sameInts_any A B c d xs [] w h.1 (rdi_nil _ _)
theorem run_eql_mac (w : World) (a b c d e f a' b' c' d' e' f' : Int) : ∃ r, (Op.equalIn 10000 32 (.agg #[.int .u8 a, .int .u8 b, .int .u8 c, .int .u8 d, .int .u8 e, .int .u8 f]) (.agg #[.int .u8 a', .int .u8 b', .int .u8 c', .int .u8 d', .int .u8 e', .int .u8 f'])).run Tryz.prog w = .ok r w :=
  ⟨_, run_equalIn_mac w 9998 (fun i => if i = 0 then a else if i = 1 then b else if i = 2 then c else if i = 3 then d else if i = 4 then e else f) (fun i => if i = 0 then a' else if i = 1 then b' else if i = 2 then c' else if i = 3 then d' else if i = 4 then e' else f')⟩
set_option maxRecDepth 1000000 in
set_option maxHeartbeats 32000000 in
theorem do_ (w W : World) (F : Nat → Prop) (gc gr room wait life pat : Nat) (v : CV) (wh tk : Int) (ip m1 m2 m3 m4 m5 m6 now : Nat) (hT : Tab w) (hA : AT w F (fun _ => True) gc v W) (hr : RC0 W gr room wait life pat) (hroom : 1 ≤ room) (hFr : ¬ F gr) (hwr : w.heap.size ≤ gr) (hip : ip < 4294967296) (hc : v.count < 1000000) :
    Calls Tryz.prog 18 #[.pointer (some ⟨gc, 0, none⟩), .pointer (some ⟨gr, 0, none⟩), .agg #[.int .i64 wh, .int .i64 tk, .int .u32 (ip : Int), .int .u8 (m1 : Int), .int .u8 (m2 : Int), .int .u8 (m3 : Int), .int .u8 (m4 : Int), .int .u8 (m5 : Int), .int .u8 (m6 : Int), .int .u64 (now : Int)]] W fun ev w' => (∃ b, ev = .returned (.bool b)) ∧ ∃ v', AT w F (fun _ => True) gc v' w' ∧ v'.count ≤ v.count + 1 := by
  have ka := (Kp.refl (fun _ => False) W).alloc (.cells #[.int .i64 wh, .int .i64 tk, .int .u32 (ip : Int), .int .u8 (m1 : Int), .int .u8 (m2 : Int), .int .u8 (m3 : Int), .int .u8 (m4 : Int), .int .u8 (m5 : Int), .int .u8 (m6 : Int), .int .u64 (now : Int)] 34)
  have BX := Lib.hid (Bk.new W 34 #[.int .i64 wh, .int .i64 tk, .int .u32 (ip : Int), .int .u8 (m1 : Int), .int .u8 (m2 : Int), .int .u8 (m3 : Int), .int .u8 (m4 : Int), .int .u8 (m5 : Int), .int .u8 (m6 : Int), .int .u64 (now : Int)])
  have A1 := Lib.hid (hA.none ka)
  have R1 := Lib.hid (show RC0 (W.alloc (.cells #[.int .i64 wh, .int .i64 tk, .int .u32 (ip : Int), .int .u8 (m1 : Int), .int .u8 (m2 : Int), .int .u8 (m3 : Int), .int .u8 (m4 : Int), .int .u8 (m5 : Int), .int .u8 (m6 : Int), .int .u64 (now : Int)] 34)) gr room wait life pat from Bk.kept hr ka (fun f => f))
  have h0 : ¬ F 0 := hA.old 0 hT.lt
  have HT := Lib.hid hT
  have e0 : (W.alloc (.cells #[.int .i64 wh, .int .i64 tk, .int .u32 (ip : Int), .int .u8 (m1 : Int), .int .u8 (m2 : Int), .int .u8 (m3 : Int), .int .u8 (m4 : Int), .int .u8 (m5 : Int), .int .u8 (m6 : Int), .int .u64 (now : Int)] 34)).cell? ⟨W.heap.size, 0, none⟩ = some (.int .i64 wh) := BX.out.cell 0
  have e1 : (W.alloc (.cells #[.int .i64 wh, .int .i64 tk, .int .u32 (ip : Int), .int .u8 (m1 : Int), .int .u8 (m2 : Int), .int .u8 (m3 : Int), .int .u8 (m4 : Int), .int .u8 (m5 : Int), .int .u8 (m6 : Int), .int .u64 (now : Int)] 34)).cell? ⟨W.heap.size, 1, none⟩ = some (.int .i64 tk) := BX.out.cell 1
  have e2 : (W.alloc (.cells #[.int .i64 wh, .int .i64 tk, .int .u32 (ip : Int), .int .u8 (m1 : Int), .int .u8 (m2 : Int), .int .u8 (m3 : Int), .int .u8 (m4 : Int), .int .u8 (m5 : Int), .int .u8 (m6 : Int), .int .u64 (now : Int)] 34)).cell? ⟨W.heap.size, 2, none⟩ = some (.int .u32 (ip : Int)) := BX.out.cell 2
  have e3 : (W.alloc (.cells #[.int .i64 wh, .int .i64 tk, .int .u32 (ip : Int), .int .u8 (m1 : Int), .int .u8 (m2 : Int), .int .u8 (m3 : Int), .int .u8 (m4 : Int), .int .u8 (m5 : Int), .int .u8 (m6 : Int), .int .u64 (now : Int)] 34)).cell? ⟨W.heap.size, 3, none⟩ = some (.int .u8 (m1 : Int)) := BX.out.cell 3
  have e4 : (W.alloc (.cells #[.int .i64 wh, .int .i64 tk, .int .u32 (ip : Int), .int .u8 (m1 : Int), .int .u8 (m2 : Int), .int .u8 (m3 : Int), .int .u8 (m4 : Int), .int .u8 (m5 : Int), .int .u8 (m6 : Int), .int .u64 (now : Int)] 34)).cell? ⟨W.heap.size, 4, none⟩ = some (.int .u8 (m2 : Int)) := BX.out.cell 4
  have e5 : (W.alloc (.cells #[.int .i64 wh, .int .i64 tk, .int .u32 (ip : Int), .int .u8 (m1 : Int), .int .u8 (m2 : Int), .int .u8 (m3 : Int), .int .u8 (m4 : Int), .int .u8 (m5 : Int), .int .u8 (m6 : Int), .int .u64 (now : Int)] 34)).cell? ⟨W.heap.size, 5, none⟩ = some (.int .u8 (m3 : Int)) := BX.out.cell 5
  have e6 : (W.alloc (.cells #[.int .i64 wh, .int .i64 tk, .int .u32 (ip : Int), .int .u8 (m1 : Int), .int .u8 (m2 : Int), .int .u8 (m3 : Int), .int .u8 (m4 : Int), .int .u8 (m5 : Int), .int .u8 (m6 : Int), .int .u64 (now : Int)] 34)).cell? ⟨W.heap.size, 6, none⟩ = some (.int .u8 (m4 : Int)) := BX.out.cell 6
  have e7 : (W.alloc (.cells #[.int .i64 wh, .int .i64 tk, .int .u32 (ip : Int), .int .u8 (m1 : Int), .int .u8 (m2 : Int), .int .u8 (m3 : Int), .int .u8 (m4 : Int), .int .u8 (m5 : Int), .int .u8 (m6 : Int), .int .u64 (now : Int)] 34)).cell? ⟨W.heap.size, 7, none⟩ = some (.int .u8 (m5 : Int)) := BX.out.cell 7
  have e8 : (W.alloc (.cells #[.int .i64 wh, .int .i64 tk, .int .u32 (ip : Int), .int .u8 (m1 : Int), .int .u8 (m2 : Int), .int .u8 (m3 : Int), .int .u8 (m4 : Int), .int .u8 (m5 : Int), .int .u8 (m6 : Int), .int .u64 (now : Int)] 34)).cell? ⟨W.heap.size, 8, none⟩ = some (.int .u8 (m6 : Int)) := BX.out.cell 8
  have e9 : (W.alloc (.cells #[.int .i64 wh, .int .i64 tk, .int .u32 (ip : Int), .int .u8 (m1 : Int), .int .u8 (m2 : Int), .int .u8 (m3 : Int), .int .u8 (m4 : Int), .int .u8 (m5 : Int), .int .u8 (m6 : Int), .int .u64 (now : Int)] 34)).cell? ⟨W.heap.size, 9, none⟩ = some (.int .u64 (now : Int)) := BX.out.cell 9
  clear hA hr ka hT
  by_cases hw0 : wh = 0
  · subst hw0
    go_enter Tryz.func18, Tryz.ntmps18
    go_wp2_with fail
    generalize W.heap.size = bx at *
    generalize W.alloc (.cells #[.int .i64 0, .int .i64 tk, .int .u32 (ip : Int), .int .u8 (m1 : Int), .int .u8 (m2 : Int), .int .u8 (m3 : Int), .int .u8 (m4 : Int), .int .u8 (m5 : Int), .int .u8 (m6 : Int), .int .u64 (now : Int)] 34) = W1 at *
    have A2 := Lib.hid (A1.out.none ((Kp.refl (fun _ => False) W1).drew))
    have R2 := Lib.hid (show RC0 W1.drew gr room wait life pat from Bk.kept R1.out ((Kp.refl (fun _ => False) W1).drew) (fun f => f))
    have BX := Lib.hid (show Bk W1.drew bx 34 #[.int .i64 0, .int .i64 tk, .int .u32 (ip : Int), .int .u8 (m1 : Int), .int .u8 (m2 : Int), .int .u8 (m3 : Int), .int .u8 (m4 : Int), .int .u8 (m5 : Int), .int .u8 (m6 : Int), .int .u64 (now : Int)] from BX.out)
    clear e0 e1 e2 e3 e4 e5 e6 e7 e8 e9 A1 R1
    refine wp_region_held_drew (S := (fun w' => Bk w' bx 34 #[.int .i64 0, .int .i64 tk, .int .u32 (ip : Int), .int .u8 (m1 : Int), .int .u8 (m2 : Int), .int .u8 (m3 : Int), .int .u8 (m4 : Int), .int .u8 (m5 : Int), .int .u8 (m6 : Int), .int .u64 (now : Int)])) (by kernel_rfl) BX.out (fun hHeld => ?_)
    generalize W1.drew = W2 at *
    have UL := Lib.hid (show Calls Tryz.prog 9 #[.pointer (some ⟨gc, 0, none⟩), .int .u32 (ip : Int), .agg #[.int .u8 (m1 : Int), .int .u8 (m2 : Int), .int .u8 (m3 : Int), .int .u8 (m4 : Int), .int .u8 (m5 : Int), .int .u8 (m6 : Int)], .int .u64 (now : Int)] W2 _ from ulearn F (fun _ => True) gc ip now ⟨m1, m2, m3, m4, m5, m6⟩ v _ A2.out.c A2.out.ok A2.out.new hip hc)
    refine wpAnyH_take (i := 0) (v := ?v0_0) rfl (by kernel_rfl) (by kernel_rfl) (by kernel_rfl) (fun _ _ _ h => h) (Or.inl ⟨by rfl, ?y0_0⟩) (by assumption) ?r0_0
    case y0_0 => (intro w hSw; (try dsimp only at hSw); go_simp; first | done | with_reducible rfl)
    try simp only [Act.put, List.getElem_toArray, List.getElem_cons_succ, List.getElem_cons_zero, List.setIfInBounds_toArray, List.set_cons_zero, List.set_cons_succ]
    refine wpAnyH_take (i := 1) (v := ?v1_1) rfl (by kernel_rfl) (by kernel_rfl) (by kernel_rfl) (fun _ _ _ h => h) (Or.inl ⟨by rfl, ?y1_1⟩) (by assumption) ?r1_1
    case y1_1 => (intro w hSw; (try dsimp only at hSw); go_simp; first | done | with_reducible rfl)
    try simp only [Act.put, List.getElem_toArray, List.getElem_cons_succ, List.getElem_cons_zero, List.setIfInBounds_toArray, List.set_cons_zero, List.set_cons_succ]
    refine wpAnyH_take (i := 2) (v := ?v2_2) rfl (by kernel_rfl) (by kernel_rfl) (by kernel_rfl) (fun _ _ _ h => h) (Or.inl ⟨by rfl, ?y2_2⟩) (by assumption) ?r2_2
    case y2_2 => (intro w hSw; (try dsimp only at hSw); have d2 := hSw.cell 2; go_simp; first | done | with_reducible rfl)
    try simp only [Act.put, List.getElem_toArray, List.getElem_cons_succ, List.getElem_cons_zero, List.setIfInBounds_toArray, List.set_cons_zero, List.set_cons_succ]
    refine wpAnyH_take (i := 3) (v := ?v3_3) rfl (by kernel_rfl) (by kernel_rfl) (by kernel_rfl) (fun _ _ _ h => h) (Or.inl ⟨by rfl, ?y3_3⟩) (by assumption) ?r3_3
    case y3_3 => (intro w hSw; (try dsimp only at hSw); go_simp; first | done | with_reducible rfl)
    try simp only [Act.put, List.getElem_toArray, List.getElem_cons_succ, List.getElem_cons_zero, List.setIfInBounds_toArray, List.set_cons_zero, List.set_cons_succ]
    refine wpAnyH_take (i := 4) (v := ?v4_4) rfl (by kernel_rfl) (by kernel_rfl) (by kernel_rfl) (fun _ _ _ h => h) (Or.inl ⟨by rfl, ?y4_4⟩) (by assumption) ?r4_4
    case y4_4 => (intro w hSw; (try dsimp only at hSw); have d3 := hSw.cell 3; have d4 := hSw.cell 4; have d5 := hSw.cell 5; have d6 := hSw.cell 6; have d7 := hSw.cell 7; have d8 := hSw.cell 8; go_simp; first | done | with_reducible rfl)
    try simp only [Act.put, List.getElem_toArray, List.getElem_cons_succ, List.getElem_cons_zero, List.setIfInBounds_toArray, List.set_cons_zero, List.set_cons_succ]
    refine wpAnyH_take (i := 5) (v := ?v5_5) rfl (by kernel_rfl) (by kernel_rfl) (by kernel_rfl) (fun _ _ _ h => h) (Or.inl ⟨by rfl, ?y5_5⟩) (by assumption) ?r5_5
    case y5_5 => (intro w hSw; (try dsimp only at hSw); go_simp; first | done | with_reducible rfl)
    try simp only [Act.put, List.getElem_toArray, List.getElem_cons_succ, List.getElem_cons_zero, List.setIfInBounds_toArray, List.set_cons_zero, List.set_cons_succ]
    refine wpAnyH_take (i := 6) (v := ?v6_6) rfl (by kernel_rfl) (by kernel_rfl) (by kernel_rfl) (fun _ _ _ h => h) (Or.inl ⟨by rfl, ?y6_6⟩) (by assumption) ?r6_6
    case y6_6 => (intro w hSw; (try dsimp only at hSw); have d9 := hSw.cell 9; go_simp; first | done | with_reducible rfl)
    try simp only [Act.put, List.getElem_toArray, List.getElem_cons_succ, List.getElem_cons_zero, List.setIfInBounds_toArray, List.set_cons_zero, List.set_cons_succ]
    refine wpAnyH_take (i := 8) (v := ?v8_7) rfl (by kernel_rfl) (by kernel_rfl) (by kernel_rfl) (fun _ _ _ h => h) (Or.inl ⟨by rfl, ?y8_7⟩) (by assumption) ?r8_7
    case y8_7 => (intro w hSw; (try dsimp only at hSw); go_simp; first | done | with_reducible rfl)
    try simp only [Act.put, List.getElem_toArray, List.getElem_cons_succ, List.getElem_cons_zero, List.setIfInBounds_toArray, List.set_cons_zero, List.set_cons_succ]
    refine wpAnyH_take (i := 9) (v := ?v9_8) rfl (by kernel_rfl) (by kernel_rfl) (by kernel_rfl) (fun _ _ _ h => h) (Or.inl ⟨by rfl, ?y9_8⟩) (by assumption) ?r9_8
    case y9_8 => (intro w hSw; (try dsimp only at hSw); go_simp; first | done | with_reducible rfl)
    try simp only [Act.put, List.getElem_toArray, List.getElem_cons_succ, List.getElem_cons_zero, List.setIfInBounds_toArray, List.set_cons_zero, List.set_cons_succ]
    refine wpAnyH_take (i := 10) (v := ?v10_9) rfl (by kernel_rfl) (by kernel_rfl) (by kernel_rfl) (fun _ _ _ h => h) (Or.inl ⟨by rfl, ?y10_9⟩) (by assumption) ?r10_9
    case y10_9 => (intro w hSw; (try dsimp only at hSw); have d2 := hSw.cell 2; go_simp; first | done | with_reducible rfl)
    try simp only [Act.put, List.getElem_toArray, List.getElem_cons_succ, List.getElem_cons_zero, List.setIfInBounds_toArray, List.set_cons_zero, List.set_cons_succ]
    refine wpAnyH_take (i := 11) (v := ?v11_10) rfl (by kernel_rfl) (by kernel_rfl) (by kernel_rfl) (fun _ _ _ h => h) (Or.inl ⟨by rfl, ?y11_10⟩) (by assumption) ?r11_10
    case y11_10 => (intro w hSw; (try dsimp only at hSw); go_simp; first | done | with_reducible rfl)
    try simp only [Act.put, List.getElem_toArray, List.getElem_cons_succ, List.getElem_cons_zero, List.setIfInBounds_toArray, List.set_cons_zero, List.set_cons_succ]
    refine wpAnyH_take (i := 12) (v := ?v12_11) rfl (by kernel_rfl) (by kernel_rfl) (by kernel_rfl) (fun _ _ _ h => h) (Or.inl ⟨by rfl, ?y12_11⟩) (by assumption) ?r12_11
    case y12_11 => (intro w hSw; (try dsimp only at hSw); have d3 := hSw.cell 3; have d4 := hSw.cell 4; have d5 := hSw.cell 5; have d6 := hSw.cell 6; have d7 := hSw.cell 7; have d8 := hSw.cell 8; go_simp; first | done | with_reducible rfl)
    try simp only [Act.put, List.getElem_toArray, List.getElem_cons_succ, List.getElem_cons_zero, List.setIfInBounds_toArray, List.set_cons_zero, List.set_cons_succ]
    refine wpAnyH_take (i := 13) (v := ?v13_12) rfl (by kernel_rfl) (by kernel_rfl) (by kernel_rfl) (fun _ _ _ h => h) (Or.inl ⟨by rfl, ?y13_12⟩) (by assumption) ?r13_12
    case y13_12 => (intro w hSw; (try dsimp only at hSw); go_simp; first | done | with_reducible rfl)
    try simp only [Act.put, List.getElem_toArray, List.getElem_cons_succ, List.getElem_cons_zero, List.setIfInBounds_toArray, List.set_cons_zero, List.set_cons_succ]
    refine wpAnyH_take (i := 14) (v := ?v14_13) rfl (by kernel_rfl) (by kernel_rfl) (by kernel_rfl) (fun _ _ _ h => h) (Or.inl ⟨by rfl, ?y14_13⟩) (by assumption) ?r14_13
    case y14_13 => (intro w hSw; (try dsimp only at hSw); have d9 := hSw.cell 9; go_simp; first | done | with_reducible rfl)
    try simp only [Act.put, List.getElem_toArray, List.getElem_cons_succ, List.getElem_cons_zero, List.setIfInBounds_toArray, List.set_cons_zero, List.set_cons_succ]
    refine wpAnyH_ready (rs := [7]) (by kernel_rfl) (by simp) ?_
    refine AllReadyH.cons rfl (fun K hK => ?_) AllReadyH.nil
    go_simp
    with_reducible refine (UL.out).mono ?_
    rintro ev w5 ⟨AA, cc, rfl, hr5, hc5, k5⟩
    have A5 := Lib.hid (A2.out.step hc5 (A2.out.ok.learn hip ⟨m1, m2, m3, m4, m5, m6⟩ now) k5)
    have BX := Lib.hid (BX.out.kept k5 (FC.not BX.out (by decide) (by decide)))
    have R5 := Lib.hid (show RC0 w5 gr room wait life pat from Bk.kept R2.out k5 (fun hf => hFr hf.1))
    have O5 := Lib.hid hr5
    clear hr5 hc5 k5
    try dsimp only
    refine hK.out _ _ (BX.out) (fun hHeld => ?_)
    clear hK K
    try simp only [Act.put, List.getElem_toArray, List.getElem_cons_succ, List.getElem_cons_zero, List.setIfInBounds_toArray, List.set_cons_zero, List.set_cons_succ]
    refine wpAnyH_ready (rs := [15]) (by kernel_rfl) (by simp) ?_
    refine AllReadyH.cons rfl (fun K hK => ?_) AllReadyH.nil
    go_simp
    with_reducible refine (rlearn_ gr room wait life pat ip now m1 m2 m3 m4 m5 m6 _ R5.out hroom).mono ?_
    rintro ev w6 ⟨rfl, k6⟩
    have A6 := Lib.hid (A5.out.refd R5.out hFr hwr k6)
    have BX := Lib.hid (BX.out.kept k6 (fun e => BX.out.ne_of R5.out (by decide) e))
    have O6 := Lib.hid (O5.out.refd R5.out k6)
    clear k6
    try dsimp only
    refine hK.out _ _ (BX.out) (fun hHeld => ?_)
    clear hK K
    try simp only [Act.put, List.getElem_toArray, List.getElem_cons_succ, List.getElem_cons_zero, List.setIfInBounds_toArray, List.set_cons_zero, List.set_cons_succ]
    refine wpAnyH_ready (rs := [16]) (by kernel_rfl) (by simp) ?_
    refine AllReadyH.cons rfl (fun K hK => ?_) AllReadyH.nil
    go_simp
    with_reducible refine (show Calls Tryz.prog 16 #[.slice AA (tokof v.rows ip).length cc, .slice none 0 0] w6 (fun ev w' => ev = .returned (.bool (tokof v.rows ip == [])) ∧ ∃ n, w' = w6.drewN n) from same_nil AA none cc 0 (tokof v.rows ip) w6 O6.out).mono ?_
    rintro ev w7 ⟨rfl, n7, rfl⟩
    have A7 := Lib.hid (A6.out.none ((Kp.refl (fun _ => False) w6).drewN n7))
    have BX := Lib.hid (show Bk (w6.drewN n7) bx 34 _ from BX.out)
    generalize w6.drewN n7 = w7 at *
    try dsimp only
    refine hK.out _ _ (BX.out) (fun hHeld => ?_)
    clear hK K
    try simp only [Act.put, List.getElem_toArray, List.getElem_cons_succ, List.getElem_cons_zero, List.setIfInBounds_toArray, List.set_cons_zero, List.set_cons_succ]
    refine wpAnyH_take (i := 17) (v := ?v17_14) rfl (by kernel_rfl) (by kernel_rfl) (by kernel_rfl) (fun _ _ _ h => h) (Or.inl ⟨by rfl, ?y17_14⟩) (by assumption) ?r17_14
    case y17_14 => (intro w hSw; (try dsimp only at hSw); go_simp; first | done | with_reducible rfl)
    try simp only [Act.put, List.getElem_toArray, List.getElem_cons_succ, List.getElem_cons_zero, List.setIfInBounds_toArray, List.set_cons_zero, List.set_cons_succ]
    refine wpAnyH_done (by kernel_rfl) ?_ _
    go_wp2_with fail
    exact bodyPost_ret (results_tmp rfl _ _ _) rfl ⟨⟨_, rfl⟩, _, A7.out, Nat.le_refl _⟩
  · by_cases hw1 : wh = 1
    · subst hw1
      go_enter Tryz.func18, Tryz.ntmps18
      go_wp2_with fail
      generalize W.heap.size = bx at *
      generalize W.alloc (.cells #[.int .i64 1, .int .i64 tk, .int .u32 (ip : Int), .int .u8 (m1 : Int), .int .u8 (m2 : Int), .int .u8 (m3 : Int), .int .u8 (m4 : Int), .int .u8 (m5 : Int), .int .u8 (m6 : Int), .int .u64 (now : Int)] 34) = W1 at *
      have CF := tfind F gc ip now v W1 A1.out.c.cch hip
      obtain ⟨M, hM⟩ : ∃ M, M = (fnd v.ents ip now).getD M0 := ⟨_, rfl⟩
      obtain ⟨fb, hfb⟩ : ∃ fb, fb = (fnd v.ents ip now).isSome := ⟨_, rfl⟩
      rw [← hM, ← hfb] at CF
      clear hM hfb
      obtain ⟨q1, q2, q3, q4, q5, q6⟩ := M
      refine CF.mono ?_
      clear CF
      rintro ev w5 ⟨rfl, k5⟩
      have A5 := Lib.hid (A1.out.none k5)
      have BX5 := BX.out.kept k5 (fun f => f)
      have R5 := Lib.hid (show RC0 w5 gr room wait life pat from Bk.kept R1.out k5 (fun f => f))
      have hbl := BX5.lt
      have ka := (Kp.refl (fun _ => False) w5).alloc (.cells #[.int .u8 (q1 : Int), .int .u8 (q2 : Int), .int .u8 (q3 : Int), .int .u8 (q4 : Int), .int .u8 (q5 : Int), .int .u8 (q6 : Int)] 32)
      have BA := Lib.hid (Bk.new w5 32 #[.int .u8 (q1 : Int), .int .u8 (q2 : Int), .int .u8 (q3 : Int), .int .u8 (q4 : Int), .int .u8 (q5 : Int), .int .u8 (q6 : Int)])
      have A6 := Lib.hid (A5.out.none ka)
      have R6 := Lib.hid (show RC0 (w5.alloc (.cells #[.int .u8 (q1 : Int), .int .u8 (q2 : Int), .int .u8 (q3 : Int), .int .u8 (q4 : Int), .int .u8 (q5 : Int), .int .u8 (q6 : Int)] 32)) gr room wait life pat from Bk.kept R5.out ka (fun f => f))
      have BX6 := BX5.kept ka (fun f => f)
      have y2 := BX6.cell 2
      have y9 := BX6.cell 9
      have x2 := BX5.cell 2
      have x9 := BX5.cell 9
      have zm : ∀ M : M6, macV M = .agg #[.int .u8 (M.a : Int), .int .u8 (M.b : Int), .int .u8 (M.c : Int), .int .u8 (M.d : Int), .int .u8 (M.e : Int), .int .u8 (M.f : Int)] := fun _ => rfl
      clear e0 e1 e2 e3 e4 e5 e6 e7 e8 e9 A1 R1 BX k5 ka BX5 BX6 R5 A5
      rw [zm]
      clear zm
      go_wp2_with fail
      generalize w5.heap.size = ba at *
      generalize w5.alloc (.cells #[.int .u8 (q1 : Int), .int .u8 (q2 : Int), .int .u8 (q3 : Int), .int .u8 (q4 : Int), .int .u8 (q5 : Int), .int .u8 (q6 : Int)] 32) = w6 at *
      refine (rfind_ gr room wait life pat ip now w6 R6.out).mono ?_
      rintro ev w7 ⟨rfl, k7⟩
      have A7 := Lib.hid (A6.out.none (k7.alloc (.cells #[.int .u8 0, .int .u8 0, .int .u8 0, .int .u8 0, .int .u8 0, .int .u8 0] 31)))
      have BA7 := BA.out.kept (k7.alloc (.cells #[.int .u8 0, .int .u8 0, .int .u8 0, .int .u8 0, .int .u8 0, .int .u8 0] 31)) (fun f => f)
      have BB7 := Bk.new w7 31 #[.int .u8 0, .int .u8 0, .int .u8 0, .int .u8 0, .int .u8 0, .int .u8 0]
      have z0 := BA7.cell 0
      have z1 := BA7.cell 1
      have z2 := BA7.cell 2
      have z3 := BA7.cell 3
      have z4 := BA7.cell 4
      have z5 := BA7.cell 5
      have u0 := BB7.cell 0
      have u1 := BB7.cell 1
      have u2 := BB7.cell 2
      have u3 := BB7.cell 3
      have u4 := BB7.cell 4
      have u5 := BB7.cell 5
      clear k7 BA7 BB7 y2 y9 x2 x9 hbl
      obtain ⟨rr, hrr⟩ := run_eql_mac (w7.alloc (.cells #[.int .u8 0, .int .u8 0, .int .u8 0, .int .u8 0, .int .u8 0, .int .u8 0] 31)) q1 q2 q3 q4 q5 q6 0 0 0 0 0 0
      cases rr <;> cases fb
      all_goals
        go_wp2_with fail
        exact bodyPost_ret (results_tmp rfl _ _ _) rfl ⟨⟨_, rfl⟩, _, A7.out, Nat.le_succ _⟩
    · by_cases hw2 : wh = 2
      · subst hw2
        go_enter Tryz.func18, Tryz.ntmps18
        go_wp2_with fail
        generalize W.heap.size = bx at *
        generalize W.alloc (.cells #[.int .i64 2, .int .i64 tk, .int .u32 (ip : Int), .int .u8 (m1 : Int), .int .u8 (m2 : Int), .int .u8 (m3 : Int), .int .u8 (m4 : Int), .int .u8 (m5 : Int), .int .u8 (m6 : Int), .int .u64 (now : Int)] 34) = W1 at *
        have UW := uwait F (fun _ => True) gc ip now tk v W1 A1.out.c A1.out.ok A1.out.new (fun _ _ => trivial) hip hc
        have hV2 := Lib.hid (A1.out.ok.wait_ hip tk now)
        have hwc := wait_count v ip tk now
        obtain ⟨⟨v1, fb, fe⟩, hvv⟩ : ∃ r, v.wait_ ip tk now = r := ⟨_, rfl⟩
        rw [hvv] at UW hV2 hwc
        simp only at UW hV2 hwc
        clear hvv
        refine UW.mono ?_
        clear UW
        rintro ev w5 ⟨rfl, hc5, k5⟩
        have A5 := Lib.hid (A1.out.step hc5 hV2.out k5)
        have BX5 := Lib.hid (BX.out.kept k5 (FC.not BX.out (by decide) (by decide)))
        have R5 := Lib.hid (show RC0 w5 gr room wait life pat from Bk.kept R1.out k5 (fun hf => hFr hf.1))
        have x1 := BX5.out.cell 1
        have x2 := BX5.out.cell 2
        have x9 := BX5.out.cell 9
        clear hc5 k5 e0 e1 e2 e3 e4 e5 e6 e7 e8 e9 A1 R1 BX
        go_wp2_with fail
        refine (rwait_ gr room wait life pat ip now tk _ R5.out hroom).mono ?_
        rintro ev w6 ⟨rfl, k6⟩
        have A7 := Lib.hid (A5.out.refd R5.out hFr hwr k6)
        clear k6
        cases fb
        · go_wp2_with fail
          exact bodyPost_ret (results_tmp rfl _ _ _) rfl ⟨⟨_, rfl⟩, _, A7.out, hwc⟩
        · go_wp2_with fail
          all_goals exact bodyPost_ret (results_tmp rfl _ _ _) rfl ⟨⟨_, rfl⟩, _, A7.out, hwc⟩
      · by_cases hw3 : wh = 3
        · subst hw3
          go_enter Tryz.func18, Tryz.ntmps18
          go_wp2_with fail
          generalize W.heap.size = bx at *
          generalize W.alloc (.cells #[.int .i64 3, .int .i64 tk, .int .u32 (ip : Int), .int .u8 (m1 : Int), .int .u8 (m2 : Int), .int .u8 (m3 : Int), .int .u8 (m4 : Int), .int .u8 (m5 : Int), .int .u8 (m6 : Int), .int .u64 (now : Int)] 34) = W1 at *
          have A2 := Lib.hid (A1.out.none ((Kp.refl (fun _ => False) W1).drew))
          have R2 := Lib.hid (show RC0 W1.drew gr room wait life pat from Bk.kept R1.out ((Kp.refl (fun _ => False) W1).drew) (fun f => f))
          have BX := Lib.hid (show Bk W1.drew bx 34 #[.int .i64 3, .int .i64 tk, .int .u32 (ip : Int), .int .u8 (m1 : Int), .int .u8 (m2 : Int), .int .u8 (m3 : Int), .int .u8 (m4 : Int), .int .u8 (m5 : Int), .int .u8 (m6 : Int), .int .u64 (now : Int)] from BX.out)
          clear e0 e1 e2 e3 e4 e5 e6 e7 e8 e9 A1 R1
          refine wp_region_held_drew (S := (fun w' => Bk w' bx 34 #[.int .i64 3, .int .i64 tk, .int .u32 (ip : Int), .int .u8 (m1 : Int), .int .u8 (m2 : Int), .int .u8 (m3 : Int), .int .u8 (m4 : Int), .int .u8 (m5 : Int), .int .u8 (m6 : Int), .int .u64 (now : Int)])) (by kernel_rfl) BX.out (fun hHeld => ?_)
          generalize W1.drew = W2 at *
          have US := Lib.hid (usweep F (fun _ => True) gc now v _ A2.out.c A2.out.ok (A2.out.tab HT.out) h0)
          refine wpAnyH_take (i := 0) (v := ?v0_15) rfl (by kernel_rfl) (by kernel_rfl) (by kernel_rfl) (fun _ _ _ h => h) (Or.inl ⟨by rfl, ?y0_15⟩) (by assumption) ?r0_15
          case y0_15 => (intro w hSw; (try dsimp only at hSw); go_simp; first | done | with_reducible rfl)
          try simp only [Act.put, List.getElem_toArray, List.getElem_cons_succ, List.getElem_cons_zero, List.setIfInBounds_toArray, List.set_cons_zero, List.set_cons_succ]
          refine wpAnyH_take (i := 1) (v := ?v1_16) rfl (by kernel_rfl) (by kernel_rfl) (by kernel_rfl) (fun _ _ _ h => h) (Or.inl ⟨by rfl, ?y1_16⟩) (by assumption) ?r1_16
          case y1_16 => (intro w hSw; (try dsimp only at hSw); go_simp; first | done | with_reducible rfl)
          try simp only [Act.put, List.getElem_toArray, List.getElem_cons_succ, List.getElem_cons_zero, List.setIfInBounds_toArray, List.set_cons_zero, List.set_cons_succ]
          refine wpAnyH_take (i := 2) (v := ?v2_17) rfl (by kernel_rfl) (by kernel_rfl) (by kernel_rfl) (fun _ _ _ h => h) (Or.inl ⟨by rfl, ?y2_17⟩) (by assumption) ?r2_17
          case y2_17 => (intro w hSw; (try dsimp only at hSw); have d9 := hSw.cell 9; go_simp; first | done | with_reducible rfl)
          try simp only [Act.put, List.getElem_toArray, List.getElem_cons_succ, List.getElem_cons_zero, List.setIfInBounds_toArray, List.set_cons_zero, List.set_cons_succ]
          refine wpAnyH_take (i := 4) (v := ?v4_18) rfl (by kernel_rfl) (by kernel_rfl) (by kernel_rfl) (fun _ _ _ h => h) (Or.inl ⟨by rfl, ?y4_18⟩) (by assumption) ?r4_18
          case y4_18 => (intro w hSw; (try dsimp only at hSw); go_simp; first | done | with_reducible rfl)
          try simp only [Act.put, List.getElem_toArray, List.getElem_cons_succ, List.getElem_cons_zero, List.setIfInBounds_toArray, List.set_cons_zero, List.set_cons_succ]
          refine wpAnyH_take (i := 5) (v := ?v5_19) rfl (by kernel_rfl) (by kernel_rfl) (by kernel_rfl) (fun _ _ _ h => h) (Or.inl ⟨by rfl, ?y5_19⟩) (by assumption) ?r5_19
          case y5_19 => (intro w hSw; (try dsimp only at hSw); go_simp; first | done | with_reducible rfl)
          try simp only [Act.put, List.getElem_toArray, List.getElem_cons_succ, List.getElem_cons_zero, List.setIfInBounds_toArray, List.set_cons_zero, List.set_cons_succ]
          refine wpAnyH_take (i := 6) (v := ?v6_20) rfl (by kernel_rfl) (by kernel_rfl) (by kernel_rfl) (fun _ _ _ h => h) (Or.inl ⟨by rfl, ?y6_20⟩) (by assumption) ?r6_20
          case y6_20 => (intro w hSw; (try dsimp only at hSw); have d9 := hSw.cell 9; go_simp; first | done | with_reducible rfl)
          try simp only [Act.put, List.getElem_toArray, List.getElem_cons_succ, List.getElem_cons_zero, List.setIfInBounds_toArray, List.set_cons_zero, List.set_cons_succ]
          refine wpAnyH_ready (rs := [3]) (by kernel_rfl) (by simp) ?_
          refine AllReadyH.cons rfl (fun K hK => ?_) AllReadyH.nil
          go_simp
          with_reducible refine (US.out).mono ?_
          rintro ev w5 ⟨u5, L5, rfl, hg5, ho5, hc5, k5⟩
          obtain ⟨AA, cc, rfl, hr5, hb5⟩ := RdN.of_own ho5
          have A5 := Lib.hid (A2.out.step hc5 (A2.out.ok.left _) k5)
          have BX := Lib.hid (BX.out.kept k5 (FC.not BX.out (by decide) (by decide)))
          have R5 := Lib.hid (show RC0 w5 gr room wait life pat from Bk.kept R2.out k5 (fun hf => hFr hf.1))
          have O5 := Lib.hid hr5
          clear hr5 hc5 k5 ho5 hb5 hg5
          try dsimp only
          refine hK.out _ _ (BX.out) (fun hHeld => ?_)
          clear hK K
          try simp only [Act.put, List.getElem_toArray, List.getElem_cons_succ, List.getElem_cons_zero, List.setIfInBounds_toArray, List.set_cons_zero, List.set_cons_succ]
          refine wpAnyH_ready (rs := [7]) (by kernel_rfl) (by simp) ?_
          refine AllReadyH.cons rfl (fun K hK => ?_) AllReadyH.nil
          go_simp
          with_reducible refine (rsweep_ gr room wait life pat now _ R5.out).mono ?_
          rintro ev w6 ⟨b6, rfl, k6⟩
          have A6 := Lib.hid (A5.out.refd R5.out hFr hwr k6)
          have BX := Lib.hid (BX.out.kept k6 (fun e => BX.out.ne_of R5.out (by decide) e))
          have O6 := Lib.hid (O5.out.refd R5.out k6)
          clear k6
          try dsimp only
          refine hK.out _ _ (BX.out) (fun hHeld => ?_)
          clear hK K
          try simp only [Act.put, List.getElem_toArray, List.getElem_cons_succ, List.getElem_cons_zero, List.setIfInBounds_toArray, List.set_cons_zero, List.set_cons_succ]
          refine wpAnyH_ready (rs := [8]) (by kernel_rfl) (by simp) ?_
          refine AllReadyH.cons rfl (fun K hK => ?_) AllReadyH.nil
          go_simp
          with_reducible refine (show Calls Tryz.prog 16 #[.slice AA (outs L5 v.rows).length cc, .slice (some ⟨b6, 0, none⟩) 0 0] w6 (fun ev w' => ev = .returned (.bool (outs L5 v.rows == [])) ∧ ∃ n, w' = w6.drewN n) from same_nil AA (some ⟨b6, 0, none⟩) cc 0 (outs L5 v.rows) w6 O6.out).mono ?_
          rintro ev w7 ⟨rfl, n7, rfl⟩
          have A7 := Lib.hid (A6.out.none ((Kp.refl (fun _ => False) w6).drewN n7))
          have BX := Lib.hid (show Bk (w6.drewN n7) bx 34 _ from BX.out)
          generalize w6.drewN n7 = w7 at *
          try dsimp only
          refine hK.out _ _ (BX.out) (fun hHeld => ?_)
          clear hK K
          try simp only [Act.put, List.getElem_toArray, List.getElem_cons_succ, List.getElem_cons_zero, List.setIfInBounds_toArray, List.set_cons_zero, List.set_cons_succ]
          refine wpAnyH_take (i := 9) (v := ?v9_21) rfl (by kernel_rfl) (by kernel_rfl) (by kernel_rfl) (fun _ _ _ h => h) (Or.inl ⟨by rfl, ?y9_21⟩) (by assumption) ?r9_21
          case y9_21 => (intro w hSw; (try dsimp only at hSw); go_simp; first | done | with_reducible rfl)
          try simp only [Act.put, List.getElem_toArray, List.getElem_cons_succ, List.getElem_cons_zero, List.setIfInBounds_toArray, List.set_cons_zero, List.set_cons_succ]
          refine wpAnyH_done (by kernel_rfl) ?_ _
          go_wp2_with fail
          exact bodyPost_ret (results_tmp rfl _ _ _) rfl ⟨⟨_, rfl⟩, _, A7.out, Nat.le_succ _⟩
        · skip
          go_enter Tryz.func18, Tryz.ntmps18
          go_wp2_with fail
          exact bodyPost_ret (results_tmp rfl _ _ _) rfl ⟨⟨_, rfl⟩, _, A1.out, Nat.le_succ _⟩
end Go.Proofs.YtgidjgkafbjkpaaGreatDoor
