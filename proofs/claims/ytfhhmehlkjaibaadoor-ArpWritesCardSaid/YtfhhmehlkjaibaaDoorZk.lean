/- Arp: Parse. -/
import Derived.Test.YtfhhmehlkjaibaaDoorGa
import Derived.Test.YtfhhmehlkjaibaaDoorGb
import Derived.Test.YtfhhmehlkjaibaaDoorWm
import Derived.Laws.Cover3
set_option linter.unusedVariables false
set_option linter.unusedSimpArgs false
namespace Go.Proofs.YtfhhmehlkjaibaaDoor
open Go.RowKit Go.Proofs.YtfhhmehlkjaibaaDoorW.PrintWords

theorem hi44' : (Tryd.prog.info? 44).map (·.size) = some 15 := by kernel_rfl
theorem pkt_one (op : Int) (m t : Nat → Int) (ip tip : Nat) : (pkt op m ip t tip).all (·.oneCell') = true := by simp [pkt, Value.oneCell']
/-- Numbers of bytes. -/
def n2 (y : Nat → Nat) (i : Nat) : Int := (y i : Int) * 256 + y (i + 1)
def n4 (y : Nat → Nat) (i : Nat) : Nat := ((y i * 256 + y (i + 1)) * 256 + y (i + 2)) * 256 + y (i + 3)
theorem n2_lt {y : Nat → Nat} (h : ∀ j, y j < 256) (i : Nat) : 0 ≤ n2 y i ∧ n2 y i < 65536 := by have := h i; have := h (i + 1); unfold n2; omega
theorem n4_lt {y : Nat → Nat} (h : ∀ j, y j < 256) (i : Nat) : n4 y i < 4294967296 := by have := h i; have := h (i + 1); have := h (i + 2); have := h (i + 3); unfold n4; omega
/-- A list's bytes as numbers. -/
def nat (xs : List Int) (j : Nat) : Nat := (xs.getD j 0).toNat
theorem nat_lt {xs : List Int} (h : Byt xs) (j : Nat) : nat xs j < 256 := by have := h j; unfold nat; omega
theorem nat_val {xs : List Int} (h : Byt xs) (j : Nat) : xs.getD j 0 = nat xs j := by have := h j; unfold nat; omega
/-- The packet of bytes. -/
def pktOf (y : Nat → Nat) : Array Value := pkt (n2 y 6) (fun i => y (8 + i)) (n4 y 14) (fun i => y (18 + i)) (n4 y 24)

set_option maxRecDepth 100000 in
set_option maxHeartbeats 2000000 in
theorem parse_short (A : Option Addr) (c n : Nat) (w : World) (h : n < 28) :
    Calls Tryd.prog 18 #[.slice A n c] w fun ev w' => ∃ v, ev = .returned (.tuple #[(.agg (pkt 0 (fun _ => 0) 0 (fun _ => 0) 0)), v]) ∧ Chain w' 12 [1] v ∧ Kp (fun _ => False) w w' := by
  have h1 : (n : Int) < 28 := by omega
  have hb := Bk.new w 44 (pkt 0 (fun _ => 0) 0 (fun _ => 0) 0)
  have kA := (Kp.refl (fun _ => False) w).alloc (.cells (pkt 0 (fun _ => 0) 0 (fun _ => 0) 0) 44)
  have Hb := Lib.hid hb
  have HK := Lib.hid kA
  clear hb kA
  go_enter Tryd.func18, Tryd.ntmps18
  go_wp2_with fail
  refine (fault_yes 1 12 _ (by decide) (by decide)).mono ?_
  rintro ev w1 ⟨v, rfl, c1, k1⟩
  have hb1 := Hb.out.kept k1 (fun f => f)
  go_wp2_with
    ((with_reducible refine gate_store (t := 44) (p := 2) (v := .tmp 8) rfl ?_)
     go_must (refine wpList_store_row (by rfl) 44 (.tmp 2) (.tmp 8) (by rfl) w.heap.size (pkt 0 (fun _ => 0) 0 (fun _ => 0) 0) (by rfl) (by rfl) 44 (pkt 0 (fun _ => 0) 0 (fun _ => 0) 0) hb1 hi44' rfl (pkt_one _ _ _ _ _) ?_))
  refine bodyPost_ret (results_ct rfl _ _ w.heap.size 44 (pkt 0 (fun _ => 0) 0 (fun _ => 0) 0) (0, 0) _ rfl (hb1.setRow (pkt 0 (fun _ => 0) 0 (fun _ => 0) 0)) Tryd.underlying44 rfl hi44') rfl ?_
  have kS := Kp.setRow (S := fun b => b = w.heap.size) (Kp.refl _ w1) (.inl rfl) (pkt 0 (fun _ => 0) 0 (fun _ => 0) 0)
  exact ⟨v, rfl, c1.kept kS (fun k cs h2 h3 => by subst h3; exact Bk.ne_of h2 hb1 (by decide) rfl), (HK.out.trans' k1).setRow (.inr (Nat.le_refl _)) (pkt 0 (fun _ => 0) 0 (fun _ => 0) 0)⟩

/-- What stands behind the packet's region. -/
def PMid (w1 : World) (cs : Array Value) (s4 : Value) (wx : World) : Prop := ∃ g, s4 = .pointer (some ⟨g, 0, none⟩) ∧ w1.heap.size ≤ g ∧ Bk wx g 44 cs ∧ Kp (fun _ => False) w1 wx
/-- What Parse answers of twenty-eight bytes and more. -/
def badOf (xs : List Int) : Bool := !(xs.take 6 == [0, 1, 8, 0, 6, 4]) || (n2 (nat xs) 6 != 1 && n2 (nat xs) 6 != 2)
def PPost (xs : List Int) (w : World) (ev : Ending) (w' : World) : Prop :=
  (badOf xs = true ∧ (∃ v, ev = .returned (.tuple #[(.agg (pkt 0 (fun _ => 0) 0 (fun _ => 0) 0)), v]) ∧ Chain w' 14 [16] v) ∧ Kp (fun _ => False) w w') ∨
  (badOf xs = false ∧ (xs.getD 8 0 % 2 != 0) = true ∧ (∃ v, ev = .returned (.tuple #[(.agg (pkt 0 (fun _ => 0) 0 (fun _ => 0) 0)), v]) ∧ Chain w' 10 [1] v) ∧ Kp (fun _ => False) w w') ∨
  (badOf xs = false ∧ (xs.getD 8 0 % 2 != 0) = false ∧ ev = .returned (.tuple #[.agg (pktOf (nat xs)), .nilIface]) ∧ Kp (fun _ => False) w w')

set_option maxRecDepth 100000 in
set_option maxHeartbeats 40000000 in
theorem parse_any (b o c n : Nat) (xs : List Int) (w : World) (hx : RdI w .u8 (some ⟨b, o, none⟩) xs) (hb : Byt xs) (hn : xs.length = n) (h1 : 28 ≤ n) (h2 : n ≤ 100000) (hc : n ≤ c) :
    Calls Tryd.prog 18 #[.slice (some ⟨b, o, none⟩) n c] w fun ev w' => PPost xs w ev w' := by
  obtain ⟨y, hy⟩ : ∃ y, nat xs = y := ⟨_, rfl⟩
  have hlt : ∀ j, y j < 256 := fun j => by rw [← hy]; exact nat_lt hb j
  have hcc : ∀ j, j < n → w.cell? ⟨b, o + j, none⟩ = some (.int .u8 (y j)) := by
    rcases hx.2 with h | ⟨b', o', hA, h⟩
    · omega
    · cases hA
      intro j hj
      rw [h j (by omega), nat_val hb j, hy]
  have hbl : b < w.heap.size := World.block_lt_of_cell? w _ (hcc 0 (by omega))
  have kA := (Kp.refl (fun _ => False) w).alloc (.cells #[.int .i64 0, .int .u8 0, .int .u8 0, .int .u8 0, .int .u8 0, .int .u8 0, .int .u8 0, .int .u32 0, .int .u8 0, .int .u8 0, .int .u8 0, .int .u8 0, .int .u8 0, .int .u8 0, .int .u32 0] 44)
  have HbA := Lib.hid (Bk.new w 44 #[.int .i64 0, .int .u8 0, .int .u8 0, .int .u8 0, .int .u8 0, .int .u8 0, .int .u8 0, .int .u32 0, .int .u8 0, .int .u8 0, .int .u8 0, .int .u8 0, .int .u8 0, .int .u8 0, .int .u32 0])
  have hcc1 : ∀ j, j < n → (w.alloc (.cells #[.int .i64 0, .int .u8 0, .int .u8 0, .int .u8 0, .int .u8 0, .int .u8 0, .int .u8 0, .int .u32 0, .int .u8 0, .int .u8 0, .int .u8 0, .int .u8 0, .int .u8 0, .int .u8 0, .int .u32 0] 44)).cell? ⟨b, o + j, none⟩ = some (.int .u8 (y j)) := fun j hj => (kA.cell (p := ⟨b, o + j, none⟩) hbl (fun f => f)).trans (hcc j hj)
  have HX := Lib.hid (hx.kp kA (fun _ _ _ f => f))
  have HkA := Lib.hid kA
  have HY := Lib.hid hy
  have HB := Lib.hid hb
  have HN := Lib.hid hn
  have g1 : ¬ ((n : Int) < 28) := by omega
  clear hx hb hcc kA hy hn hbl
  obtain ⟨POST, hPOST⟩ : ∃ Q, PPost xs w = Q := ⟨_, rfl⟩
  have HPOST := Lib.hid hPOST
  rw [hPOST]
  clear hPOST
  go_enter Tryd.func18, Tryd.ntmps18
  go_upto_region 3 with fail
  have HSZ := Lib.hid (show w.heap.size < (w.alloc (.cells #[.int .i64 0, .int .u8 0, .int .u8 0, .int .u8 0, .int .u8 0, .int .u8 0, .int .u8 0, .int .u32 0, .int .u8 0, .int .u8 0, .int .u8 0, .int .u8 0, .int .u8 0, .int .u8 0, .int .u32 0] 44)).heap.size by simp)
  obtain ⟨op, hop⟩ : ∃ op, n2 y 6 = op := ⟨_, rfl⟩
  obtain ⟨ip, hip⟩ : ∃ ip, n4 y 14 = ip := ⟨_, rfl⟩
  obtain ⟨tip, htip⟩ : ∃ tip, n4 y 24 = tip := ⟨_, rfl⟩
  have hw0 : 0 ≤ op := by rw [← hop]; exact (n2_lt hlt 6).1
  have hw2 : op < 65536 := by rw [← hop]; exact (n2_lt hlt 6).2
  have hw3 : ip < 4294967296 := by rw [← hip]; exact n4_lt hlt 14
  have hw4 : tip < 4294967296 := by rw [← htip]; exact n4_lt hlt 24
  go_cut [4] (fun s4 wx => PMid (w.alloc (.cells #[.int .i64 0, .int .u8 0, .int .u8 0, .int .u8 0, .int .u8 0, .int .u8 0, .int .u8 0, .int .u32 0, .int .u8 0, .int .u8 0, .int .u8 0, .int .u8 0, .int .u8 0, .int .u8 0, .int .u32 0] 44)) #[.int .i64 op, .int .u8 (y 8), .int .u8 (y 9), .int .u8 (y 10), .int .u8 (y 11), .int .u8 (y 12), .int .u8 (y 13), .int .u32 ip, .int .u8 (y 18), .int .u8 (y 19), .int .u8 (y 20), .int .u8 (y 21), .int .u8 (y 22), .int .u8 (y 23), .int .u32 tip] s4 wx)
  case first =>
    generalize w.alloc (.cells #[.int .i64 0, .int .u8 0, .int .u8 0, .int .u8 0, .int .u8 0, .int .u8 0, .int .u8 0, .int .u32 0, .int .u8 0, .int .u8 0, .int .u8 0, .int .u8 0, .int .u8 0, .int .u8 0, .int .u32 0] 44) = w1 at *
    have c8 := hcc1 8 (by omega)
    have c9 := hcc1 9 (by omega)
    have c10 := hcc1 10 (by omega)
    have c11 := hcc1 11 (by omega)
    have c12 := hcc1 12 (by omega)
    have c13 := hcc1 13 (by omega)
    have c18 := hcc1 18 (by omega)
    have c19 := hcc1 19 (by omega)
    have c20 := hcc1 20 (by omega)
    have c21 := hcc1 21 (by omega)
    have c22 := hcc1 22 (by omega)
    have c23 := hcc1 23 (by omega)
    have q8 : ¬ (c = 8) := by omega
    have q18 : ¬ (c = 18) := by omega
    have q8a : (8 : Int) ≤ (c : Int) := by omega
    have q18a : (18 : Int) ≤ (c : Int) := by omega
    have q8b : (8 : Int) ≤ (n : Int) := by omega
    have q18b : (18 : Int) ≤ (n : Int) := by omega
    have q8c : 8 ≤ n := by omega
    have q18c : 18 ≤ n := by omega
    have q8d : 6 ≤ n - 8 := by omega
    have q18d : 6 ≤ n - 18 := by omega
    have hat1 : ∀ w, (Instr.arrayAt 41 (.slice (some ⟨b, o + 8, none⟩) (n - 8) (c - 8))).run Tryd.prog w = .ok (.pointer (some ⟨b, o + 8, none⟩)) w := fun w => run_arrayAt w 41 5 6 _ _ _ Tryd.underlying41 (by omega)
    have hat2 : ∀ w, (Instr.arrayAt 41 (.slice (some ⟨b, o + 18, none⟩) (n - 18) (c - 18))).run Tryd.prog w = .ok (.pointer (some ⟨b, o + 18, none⟩)) w := fun w => run_arrayAt w 41 5 6 _ _ _ Tryd.underlying41 (by omega)
    have wr2 : IntKind.i64.wrap op = op := IntWalk.i64_in _ (by omega)
    have wr3 : IntKind.u32.wrap (ip : Int) = ip := by rw [IntKind.wrap_u32']; omega
    have wr4 : IntKind.u32.wrap (tip : Int) = tip := by rw [IntKind.wrap_u32']; omega
    have hn1 : ∀ w', Kp (fun _ => False) w1 w' → Calls Tryd.prog 39 #[.slice (some ⟨b, o, none⟩) n c, .int .i64 6, .int .i64 2] w' fun ev w'' => ev = .returned (.int .u64 op) ∧ Kp (fun _ => False) w' w'' := fun w' hk => by
      rw [← hop]
      exact num2 b o 6 n c (y 6) (y 7) w' (by omega) h2 hc (kp_kc (hcc1 6 (by omega)) hk) (kp_kc (hcc1 7 (by omega)) hk) (hlt 6) (hlt 7)
    have hn8 : ∀ w', Kp (fun _ => False) w1 w' → Calls Tryd.prog 39 #[.slice (some ⟨b, o, none⟩) n c, .int .i64 14, .int .i64 4] w' fun ev w'' => ev = .returned (.int .u64 ip) ∧ Kp (fun _ => False) w' w'' := fun w' hk => by
      rw [← hip]
      exact num4 b o 14 n c (y 14) (y 15) (y 16) (y 17) w' (by omega) h2 hc (kp_kc (hcc1 14 (by omega)) hk) (kp_kc (hcc1 15 (by omega)) hk) (kp_kc (hcc1 16 (by omega)) hk) (kp_kc (hcc1 17 (by omega)) hk) (hlt 14) (hlt 15) (hlt 16) (hlt 17)
    have hn15 : ∀ w', Kp (fun _ => False) w1 w' → Calls Tryd.prog 39 #[.slice (some ⟨b, o, none⟩) n c, .int .i64 24, .int .i64 4] w' fun ev w'' => ev = .returned (.int .u64 tip) ∧ Kp (fun _ => False) w' w'' := fun w' hk => by
      rw [← htip]
      exact num4 b o 24 n c (y 24) (y 25) (y 26) (y 27) w' (by omega) h2 hc (kp_kc (hcc1 24 (by omega)) hk) (kp_kc (hcc1 25 (by omega)) hk) (kp_kc (hcc1 26 (by omega)) hk) (kp_kc (hcc1 27 (by omega)) hk) (hlt 24) (hlt 25) (hlt 26) (hlt 27)
    have HN1 := Lib.hid hn1
    have HN8 := Lib.hid hn8
    have HN15 := Lib.hid hn15
    clear hn1 hn8 hn15 hop hip htip hcc1 hlt
    have KC := Lib.hid ((Kp.refl (fun _ => False) w1).drew)
    refine wp_region_held_drew (S := (fun w' => Kp (fun _ => False) w1 w')) (by kernel_rfl) (KC.out) (fun hHeld => ?_)
    refine wpAnyH_take (i := 0) (v := ?v0_0) rfl (by kernel_rfl) (by kernel_rfl) (by kernel_rfl) (fun _ _ _ h => h) (Or.inl ⟨by rfl, ?y0_0⟩) (by assumption) ?r0_0
    case y0_0 => (intro w hSw; (try dsimp only at hSw); go_simp; first | done | with_reducible rfl)
    try simp only [Act.put, List.getElem_toArray, List.getElem_cons_succ, List.getElem_cons_zero, List.setIfInBounds_toArray, List.set_cons_zero, List.set_cons_succ]
    refine wpAnyH_take (i := 3) (v := ?v3_1) rfl (by kernel_rfl) (by kernel_rfl) (by kernel_rfl) (fun _ _ _ h => h) (Or.inl ⟨by rfl, ?y3_1⟩) (by assumption) ?r3_1
    case y3_1 => (intro w hSw; (try dsimp only at hSw); go_simp; first | done | with_reducible rfl)
    try simp only [Act.put, List.getElem_toArray, List.getElem_cons_succ, List.getElem_cons_zero, List.setIfInBounds_toArray, List.set_cons_zero, List.set_cons_succ]
    refine wpAnyH_take (i := 4) (v := ?v4_2) rfl (by kernel_rfl) (by kernel_rfl) (by kernel_rfl) (fun _ _ _ h => h) (Or.inl ⟨by rfl, ?y4_2⟩) (by assumption) ?r4_2
    case y4_2 => (intro w hSw; (try dsimp only at hSw); go_simp; first | done | with_reducible rfl)
    try simp only [Act.put, List.getElem_toArray, List.getElem_cons_succ, List.getElem_cons_zero, List.setIfInBounds_toArray, List.set_cons_zero, List.set_cons_succ]
    refine wpAnyH_take (i := 5) (v := ?v5_3) rfl (by kernel_rfl) (by kernel_rfl) (by kernel_rfl) (fun _ _ _ h => h) (Or.inl ⟨by rfl, ?y5_3⟩) (by assumption) ?r5_3
    case y5_3 => (intro w hSw; (try dsimp only at hSw); go_simp; first | done | with_reducible rfl)
    try simp only [Act.put, List.getElem_toArray, List.getElem_cons_succ, List.getElem_cons_zero, List.setIfInBounds_toArray, List.set_cons_zero, List.set_cons_succ]
    refine wpAnyH_take (i := 6) (v := ?v6_4) rfl (by kernel_rfl) (by kernel_rfl) (by kernel_rfl) (fun _ _ _ h => h) (Or.inl ⟨by rfl, ?y6_4⟩) (by assumption) ?r6_4
    case y6_4 => (intro w hSw; (try dsimp only at hSw); have d8 := kp_kc c8 hSw; have d9 := kp_kc c9 hSw; have d10 := kp_kc c10 hSw; have d11 := kp_kc c11 hSw; have d12 := kp_kc c12 hSw; have d13 := kp_kc c13 hSw; go_simp; first | done | with_reducible rfl)
    try simp only [Act.put, List.getElem_toArray, List.getElem_cons_succ, List.getElem_cons_zero, List.setIfInBounds_toArray, List.set_cons_zero, List.set_cons_succ]
    refine wpAnyH_take (i := 7) (v := ?v7_5) rfl (by kernel_rfl) (by kernel_rfl) (by kernel_rfl) (fun _ _ _ h => h) (Or.inl ⟨by rfl, ?y7_5⟩) (by assumption) ?r7_5
    case y7_5 => (intro w hSw; (try dsimp only at hSw); go_simp; first | done | with_reducible rfl)
    try simp only [Act.put, List.getElem_toArray, List.getElem_cons_succ, List.getElem_cons_zero, List.setIfInBounds_toArray, List.set_cons_zero, List.set_cons_succ]
    refine wpAnyH_take (i := 10) (v := ?v10_6) rfl (by kernel_rfl) (by kernel_rfl) (by kernel_rfl) (fun _ _ _ h => h) (Or.inl ⟨by rfl, ?y10_6⟩) (by assumption) ?r10_6
    case y10_6 => (intro w hSw; (try dsimp only at hSw); go_simp; first | done | with_reducible rfl)
    try simp only [Act.put, List.getElem_toArray, List.getElem_cons_succ, List.getElem_cons_zero, List.setIfInBounds_toArray, List.set_cons_zero, List.set_cons_succ]
    refine wpAnyH_take (i := 11) (v := ?v11_7) rfl (by kernel_rfl) (by kernel_rfl) (by kernel_rfl) (fun _ _ _ h => h) (Or.inl ⟨by rfl, ?y11_7⟩) (by assumption) ?r11_7
    case y11_7 => (intro w hSw; (try dsimp only at hSw); go_simp; first | done | with_reducible rfl)
    try simp only [Act.put, List.getElem_toArray, List.getElem_cons_succ, List.getElem_cons_zero, List.setIfInBounds_toArray, List.set_cons_zero, List.set_cons_succ]
    refine wpAnyH_take (i := 12) (v := ?v12_8) rfl (by kernel_rfl) (by kernel_rfl) (by kernel_rfl) (fun _ _ _ h => h) (Or.inl ⟨by rfl, ?y12_8⟩) (by assumption) ?r12_8
    case y12_8 => (intro w hSw; (try dsimp only at hSw); go_simp; first | done | with_reducible rfl)
    try simp only [Act.put, List.getElem_toArray, List.getElem_cons_succ, List.getElem_cons_zero, List.setIfInBounds_toArray, List.set_cons_zero, List.set_cons_succ]
    refine wpAnyH_take (i := 13) (v := ?v13_9) rfl (by kernel_rfl) (by kernel_rfl) (by kernel_rfl) (fun _ _ _ h => h) (Or.inl ⟨by rfl, ?y13_9⟩) (by assumption) ?r13_9
    case y13_9 => (intro w hSw; (try dsimp only at hSw); have d18 := kp_kc c18 hSw; have d19 := kp_kc c19 hSw; have d20 := kp_kc c20 hSw; have d21 := kp_kc c21 hSw; have d22 := kp_kc c22 hSw; have d23 := kp_kc c23 hSw; go_simp; first | done | with_reducible rfl)
    try simp only [Act.put, List.getElem_toArray, List.getElem_cons_succ, List.getElem_cons_zero, List.setIfInBounds_toArray, List.set_cons_zero, List.set_cons_succ]
    refine wpAnyH_take (i := 14) (v := ?v14_10) rfl (by kernel_rfl) (by kernel_rfl) (by kernel_rfl) (fun _ _ _ h => h) (Or.inl ⟨by rfl, ?y14_10⟩) (by assumption) ?r14_10
    case y14_10 => (intro w hSw; (try dsimp only at hSw); go_simp; first | done | with_reducible rfl)
    try simp only [Act.put, List.getElem_toArray, List.getElem_cons_succ, List.getElem_cons_zero, List.setIfInBounds_toArray, List.set_cons_zero, List.set_cons_succ]
    refine wpAnyH_ready (rs := [1, 18]) (by kernel_rfl) (by simp) ?_
    refine AllReadyH.cons rfl (fun K hK => ?_) ?_
    · go_simp
      with_reducible refine (HN1.out _ (by exact KC.out)).mono ?_
      rintro ev x1 ⟨rfl, k9⟩
      have KC := Lib.hid (KC.out.trans' k9)
      clear k9
      try dsimp only
      refine hK.out _ _ (KC.out) (fun hHeld => ?_)
      clear hK K
      try simp only [Act.put, List.getElem_toArray, List.getElem_cons_succ, List.getElem_cons_zero, List.setIfInBounds_toArray, List.set_cons_zero, List.set_cons_succ]
      refine wpAnyH_take (i := 2) (v := ?v2_11) rfl (by kernel_rfl) (by kernel_rfl) (by kernel_rfl) (fun _ _ _ h => h) (Or.inl ⟨by rfl, ?y2_11⟩) (by assumption) ?r2_11
      case y2_11 => (intro w hSw; (try dsimp only at hSw); go_simp; first | done | with_reducible rfl)
      try simp only [Act.put, List.getElem_toArray, List.getElem_cons_succ, List.getElem_cons_zero, List.setIfInBounds_toArray, List.set_cons_zero, List.set_cons_succ]
      refine wpAnyH_ready (rs := [8, 18]) (by kernel_rfl) (by simp) ?_
      refine AllReadyH.cons rfl (fun K hK => ?_) ?_
      · go_simp
        with_reducible refine (HN8.out _ (by exact KC.out)).mono ?_
        rintro ev x8 ⟨rfl, k9⟩
        have KC := Lib.hid (KC.out.trans' k9)
        clear k9
        try dsimp only
        refine hK.out _ _ (KC.out) (fun hHeld => ?_)
        clear hK K
        try simp only [Act.put, List.getElem_toArray, List.getElem_cons_succ, List.getElem_cons_zero, List.setIfInBounds_toArray, List.set_cons_zero, List.set_cons_succ]
        refine wpAnyH_take (i := 9) (v := ?v9_12) rfl (by kernel_rfl) (by kernel_rfl) (by kernel_rfl) (fun _ _ _ h => h) (Or.inl ⟨by rfl, ?y9_12⟩) (by assumption) ?r9_12
        case y9_12 => (intro w hSw; (try dsimp only at hSw); go_simp; first | done | with_reducible rfl)
        try simp only [Act.put, List.getElem_toArray, List.getElem_cons_succ, List.getElem_cons_zero, List.setIfInBounds_toArray, List.set_cons_zero, List.set_cons_succ]
        refine wpAnyH_ready (rs := [15, 18]) (by kernel_rfl) (by simp) ?_
        refine AllReadyH.cons rfl (fun K hK => ?_) ?_
        · go_simp
          with_reducible refine (HN15.out _ (by exact KC.out)).mono ?_
          rintro ev x15 ⟨rfl, k9⟩
          have KC := Lib.hid (KC.out.trans' k9)
          clear k9
          try dsimp only
          refine hK.out _ _ (KC.out) (fun hHeld => ?_)
          clear hK K
          try simp only [Act.put, List.getElem_toArray, List.getElem_cons_succ, List.getElem_cons_zero, List.setIfInBounds_toArray, List.set_cons_zero, List.set_cons_succ]
          refine wpAnyH_take (i := 16) (v := ?v16_13) rfl (by kernel_rfl) (by kernel_rfl) (by kernel_rfl) (fun _ _ _ h => h) (Or.inl ⟨by rfl, ?y16_13⟩) (by assumption) ?r16_13
          case y16_13 => (intro w hSw; (try dsimp only at hSw); go_simp; first | done | with_reducible rfl)
          try simp only [Act.put, List.getElem_toArray, List.getElem_cons_succ, List.getElem_cons_zero, List.setIfInBounds_toArray, List.set_cons_zero, List.set_cons_succ]
          refine wpAnyH_take (i := 17) (v := ?v17_14) rfl (by kernel_rfl) (by kernel_rfl) (by kernel_rfl) (fun _ _ _ h => h) (Or.inl ⟨by rfl, ?y17_14⟩) (by assumption) ?r17_14
          case y17_14 => (intro w hSw; (try dsimp only at hSw); go_simp; first | done | with_reducible rfl)
          try simp only [Act.put, List.getElem_toArray, List.getElem_cons_succ, List.getElem_cons_zero, List.setIfInBounds_toArray, List.set_cons_zero, List.set_cons_succ]
          refine wpAnyH_ready (rs := [18]) (by kernel_rfl) (by simp) ?_
          refine AllReadyH.cons rfl (fun K hK => ?_) AllReadyH.nil
          go_simp
          have HG := Lib.hid KC.out.size
          have HA := Lib.hid (Bk.new x15 44 #[.int .i64 0, .int .u8 0, .int .u8 0, .int .u8 0, .int .u8 0, .int .u8 0, .int .u8 0, .int .u32 0, .int .u8 0, .int .u8 0, .int .u8 0, .int .u8 0, .int .u8 0, .int .u8 0, .int .u32 0])
          have KC := Lib.hid (KC.out.alloc (.cells #[.int .i64 0, .int .u8 0, .int .u8 0, .int .u8 0, .int .u8 0, .int .u8 0, .int .u8 0, .int .u32 0, .int .u8 0, .int .u8 0, .int .u8 0, .int .u8 0, .int .u8 0, .int .u8 0, .int .u32 0] 44))
          refine hK.out _ _ (KC.out) (fun hHeld => ?_)
          clear hK K
          try simp only [Act.put, List.getElem_toArray, List.getElem_cons_succ, List.getElem_cons_zero, List.setIfInBounds_toArray, List.set_cons_zero, List.set_cons_succ]
          refine wpAnyH_ready (rs := [19]) (by kernel_rfl) (by simp) ?_
          refine AllReadyH.cons rfl (fun K hK => ?_) AllReadyH.nil
          rw [if_pos (by rfl)]
          refine wp_store_row 44 (.tmp 4) (.tmp 27) (by rfl) (x15.heap.size) #[.int .i64 op, .int .u8 (y 8), .int .u8 (y 9), .int .u8 (y 10), .int .u8 (y 11), .int .u8 (y 12), .int .u8 (y 13), .int .u32 ip, .int .u8 (y 18), .int .u8 (y 19), .int .u8 (y 20), .int .u8 (y 21), .int .u8 (y 22), .int .u8 (y 23), .int .u32 tip] (by rfl) (by rfl) 44 #[.int .i64 0, .int .u8 0, .int .u8 0, .int .u8 0, .int .u8 0, .int .u8 0, .int .u8 0, .int .u32 0, .int .u8 0, .int .u8 0, .int .u8 0, .int .u8 0, .int .u8 0, .int .u8 0, .int .u32 0] HA.out hi44' rfl (by simp [Value.oneCell']) ?_
          have KC := Lib.hid (KC.out.setRow (.inr HG.out) #[.int .i64 op, .int .u8 (y 8), .int .u8 (y 9), .int .u8 (y 10), .int .u8 (y 11), .int .u8 (y 12), .int .u8 (y 13), .int .u32 ip, .int .u8 (y 18), .int .u8 (y 19), .int .u8 (y 20), .int .u8 (y 21), .int .u8 (y 22), .int .u8 (y 23), .int .u32 tip])
          refine hK.out _ _ (KC.out) (fun hHeld => ?_)
          clear hK K
          try simp only [Act.put, List.getElem_toArray, List.getElem_cons_succ, List.getElem_cons_zero, List.setIfInBounds_toArray, List.set_cons_zero, List.set_cons_succ]
          refine wpAnyH_done (by kernel_rfl) ?_ _
          go_wp2_with fail
          go_meet
          exact ⟨x15.heap.size, rfl, HG.out, HA.out.setRow _, KC.out⟩
        refine AllReadyH.cons rfl (fun K hK => ?_) AllReadyH.nil
        go_simp
        have HG := Lib.hid KC.out.size
        have HA := Lib.hid (Bk.new x8 44 #[.int .i64 0, .int .u8 0, .int .u8 0, .int .u8 0, .int .u8 0, .int .u8 0, .int .u8 0, .int .u32 0, .int .u8 0, .int .u8 0, .int .u8 0, .int .u8 0, .int .u8 0, .int .u8 0, .int .u32 0])
        have KC := Lib.hid (KC.out.alloc (.cells #[.int .i64 0, .int .u8 0, .int .u8 0, .int .u8 0, .int .u8 0, .int .u8 0, .int .u8 0, .int .u32 0, .int .u8 0, .int .u8 0, .int .u8 0, .int .u8 0, .int .u8 0, .int .u8 0, .int .u32 0] 44))
        refine hK.out _ _ (KC.out) (fun hHeld => ?_)
        clear hK K
        try simp only [Act.put, List.getElem_toArray, List.getElem_cons_succ, List.getElem_cons_zero, List.setIfInBounds_toArray, List.set_cons_zero, List.set_cons_succ]
        refine wpAnyH_ready (rs := [15]) (by kernel_rfl) (by simp) ?_
        refine AllReadyH.cons rfl (fun K hK => ?_) AllReadyH.nil
        go_simp
        with_reducible refine (HN15.out _ (by exact KC.out)).mono ?_
        rintro ev x15 ⟨rfl, k9⟩
        have KC := Lib.hid (KC.out.trans' k9)
        have HA := Lib.hid (HA.out.kept k9 (fun f => f))
        clear k9
        try dsimp only
        refine hK.out _ _ (KC.out) (fun hHeld => ?_)
        clear hK K
        try simp only [Act.put, List.getElem_toArray, List.getElem_cons_succ, List.getElem_cons_zero, List.setIfInBounds_toArray, List.set_cons_zero, List.set_cons_succ]
        refine wpAnyH_take (i := 16) (v := ?v16_15) rfl (by kernel_rfl) (by kernel_rfl) (by kernel_rfl) (fun _ _ _ h => h) (Or.inl ⟨by rfl, ?y16_15⟩) (by assumption) ?r16_15
        case y16_15 => (intro w hSw; (try dsimp only at hSw); go_simp; first | done | with_reducible rfl)
        try simp only [Act.put, List.getElem_toArray, List.getElem_cons_succ, List.getElem_cons_zero, List.setIfInBounds_toArray, List.set_cons_zero, List.set_cons_succ]
        refine wpAnyH_take (i := 17) (v := ?v17_16) rfl (by kernel_rfl) (by kernel_rfl) (by kernel_rfl) (fun _ _ _ h => h) (Or.inl ⟨by rfl, ?y17_16⟩) (by assumption) ?r17_16
        case y17_16 => (intro w hSw; (try dsimp only at hSw); go_simp; first | done | with_reducible rfl)
        try simp only [Act.put, List.getElem_toArray, List.getElem_cons_succ, List.getElem_cons_zero, List.setIfInBounds_toArray, List.set_cons_zero, List.set_cons_succ]
        refine wpAnyH_ready (rs := [19]) (by kernel_rfl) (by simp) ?_
        refine AllReadyH.cons rfl (fun K hK => ?_) AllReadyH.nil
        rw [if_pos (by rfl)]
        refine wp_store_row 44 (.tmp 4) (.tmp 27) (by rfl) (x8.heap.size) #[.int .i64 op, .int .u8 (y 8), .int .u8 (y 9), .int .u8 (y 10), .int .u8 (y 11), .int .u8 (y 12), .int .u8 (y 13), .int .u32 ip, .int .u8 (y 18), .int .u8 (y 19), .int .u8 (y 20), .int .u8 (y 21), .int .u8 (y 22), .int .u8 (y 23), .int .u32 tip] (by rfl) (by rfl) 44 #[.int .i64 0, .int .u8 0, .int .u8 0, .int .u8 0, .int .u8 0, .int .u8 0, .int .u8 0, .int .u32 0, .int .u8 0, .int .u8 0, .int .u8 0, .int .u8 0, .int .u8 0, .int .u8 0, .int .u32 0] HA.out hi44' rfl (by simp [Value.oneCell']) ?_
        have KC := Lib.hid (KC.out.setRow (.inr HG.out) #[.int .i64 op, .int .u8 (y 8), .int .u8 (y 9), .int .u8 (y 10), .int .u8 (y 11), .int .u8 (y 12), .int .u8 (y 13), .int .u32 ip, .int .u8 (y 18), .int .u8 (y 19), .int .u8 (y 20), .int .u8 (y 21), .int .u8 (y 22), .int .u8 (y 23), .int .u32 tip])
        refine hK.out _ _ (KC.out) (fun hHeld => ?_)
        clear hK K
        try simp only [Act.put, List.getElem_toArray, List.getElem_cons_succ, List.getElem_cons_zero, List.setIfInBounds_toArray, List.set_cons_zero, List.set_cons_succ]
        refine wpAnyH_done (by kernel_rfl) ?_ _
        go_wp2_with fail
        go_meet
        exact ⟨x8.heap.size, rfl, HG.out, HA.out.setRow _, KC.out⟩
      refine AllReadyH.cons rfl (fun K hK => ?_) AllReadyH.nil
      go_simp
      have HG := Lib.hid KC.out.size
      have HA := Lib.hid (Bk.new x1 44 #[.int .i64 0, .int .u8 0, .int .u8 0, .int .u8 0, .int .u8 0, .int .u8 0, .int .u8 0, .int .u32 0, .int .u8 0, .int .u8 0, .int .u8 0, .int .u8 0, .int .u8 0, .int .u8 0, .int .u32 0])
      have KC := Lib.hid (KC.out.alloc (.cells #[.int .i64 0, .int .u8 0, .int .u8 0, .int .u8 0, .int .u8 0, .int .u8 0, .int .u8 0, .int .u32 0, .int .u8 0, .int .u8 0, .int .u8 0, .int .u8 0, .int .u8 0, .int .u8 0, .int .u32 0] 44))
      refine hK.out _ _ (KC.out) (fun hHeld => ?_)
      clear hK K
      try simp only [Act.put, List.getElem_toArray, List.getElem_cons_succ, List.getElem_cons_zero, List.setIfInBounds_toArray, List.set_cons_zero, List.set_cons_succ]
      refine wpAnyH_ready (rs := [8]) (by kernel_rfl) (by simp) ?_
      refine AllReadyH.cons rfl (fun K hK => ?_) AllReadyH.nil
      go_simp
      with_reducible refine (HN8.out _ (by exact KC.out)).mono ?_
      rintro ev x8 ⟨rfl, k9⟩
      have KC := Lib.hid (KC.out.trans' k9)
      have HA := Lib.hid (HA.out.kept k9 (fun f => f))
      clear k9
      try dsimp only
      refine hK.out _ _ (KC.out) (fun hHeld => ?_)
      clear hK K
      try simp only [Act.put, List.getElem_toArray, List.getElem_cons_succ, List.getElem_cons_zero, List.setIfInBounds_toArray, List.set_cons_zero, List.set_cons_succ]
      refine wpAnyH_take (i := 9) (v := ?v9_17) rfl (by kernel_rfl) (by kernel_rfl) (by kernel_rfl) (fun _ _ _ h => h) (Or.inl ⟨by rfl, ?y9_17⟩) (by assumption) ?r9_17
      case y9_17 => (intro w hSw; (try dsimp only at hSw); go_simp; first | done | with_reducible rfl)
      try simp only [Act.put, List.getElem_toArray, List.getElem_cons_succ, List.getElem_cons_zero, List.setIfInBounds_toArray, List.set_cons_zero, List.set_cons_succ]
      refine wpAnyH_ready (rs := [15]) (by kernel_rfl) (by simp) ?_
      refine AllReadyH.cons rfl (fun K hK => ?_) AllReadyH.nil
      go_simp
      with_reducible refine (HN15.out _ (by exact KC.out)).mono ?_
      rintro ev x15 ⟨rfl, k9⟩
      have KC := Lib.hid (KC.out.trans' k9)
      have HA := Lib.hid (HA.out.kept k9 (fun f => f))
      clear k9
      try dsimp only
      refine hK.out _ _ (KC.out) (fun hHeld => ?_)
      clear hK K
      try simp only [Act.put, List.getElem_toArray, List.getElem_cons_succ, List.getElem_cons_zero, List.setIfInBounds_toArray, List.set_cons_zero, List.set_cons_succ]
      refine wpAnyH_take (i := 16) (v := ?v16_18) rfl (by kernel_rfl) (by kernel_rfl) (by kernel_rfl) (fun _ _ _ h => h) (Or.inl ⟨by rfl, ?y16_18⟩) (by assumption) ?r16_18
      case y16_18 => (intro w hSw; (try dsimp only at hSw); go_simp; first | done | with_reducible rfl)
      try simp only [Act.put, List.getElem_toArray, List.getElem_cons_succ, List.getElem_cons_zero, List.setIfInBounds_toArray, List.set_cons_zero, List.set_cons_succ]
      refine wpAnyH_take (i := 17) (v := ?v17_19) rfl (by kernel_rfl) (by kernel_rfl) (by kernel_rfl) (fun _ _ _ h => h) (Or.inl ⟨by rfl, ?y17_19⟩) (by assumption) ?r17_19
      case y17_19 => (intro w hSw; (try dsimp only at hSw); go_simp; first | done | with_reducible rfl)
      try simp only [Act.put, List.getElem_toArray, List.getElem_cons_succ, List.getElem_cons_zero, List.setIfInBounds_toArray, List.set_cons_zero, List.set_cons_succ]
      refine wpAnyH_ready (rs := [19]) (by kernel_rfl) (by simp) ?_
      refine AllReadyH.cons rfl (fun K hK => ?_) AllReadyH.nil
      rw [if_pos (by rfl)]
      refine wp_store_row 44 (.tmp 4) (.tmp 27) (by rfl) (x1.heap.size) #[.int .i64 op, .int .u8 (y 8), .int .u8 (y 9), .int .u8 (y 10), .int .u8 (y 11), .int .u8 (y 12), .int .u8 (y 13), .int .u32 ip, .int .u8 (y 18), .int .u8 (y 19), .int .u8 (y 20), .int .u8 (y 21), .int .u8 (y 22), .int .u8 (y 23), .int .u32 tip] (by rfl) (by rfl) 44 #[.int .i64 0, .int .u8 0, .int .u8 0, .int .u8 0, .int .u8 0, .int .u8 0, .int .u8 0, .int .u32 0, .int .u8 0, .int .u8 0, .int .u8 0, .int .u8 0, .int .u8 0, .int .u8 0, .int .u32 0] HA.out hi44' rfl (by simp [Value.oneCell']) ?_
      have KC := Lib.hid (KC.out.setRow (.inr HG.out) #[.int .i64 op, .int .u8 (y 8), .int .u8 (y 9), .int .u8 (y 10), .int .u8 (y 11), .int .u8 (y 12), .int .u8 (y 13), .int .u32 ip, .int .u8 (y 18), .int .u8 (y 19), .int .u8 (y 20), .int .u8 (y 21), .int .u8 (y 22), .int .u8 (y 23), .int .u32 tip])
      refine hK.out _ _ (KC.out) (fun hHeld => ?_)
      clear hK K
      try simp only [Act.put, List.getElem_toArray, List.getElem_cons_succ, List.getElem_cons_zero, List.setIfInBounds_toArray, List.set_cons_zero, List.set_cons_succ]
      refine wpAnyH_done (by kernel_rfl) ?_ _
      go_wp2_with fail
      go_meet
      exact ⟨x1.heap.size, rfl, HG.out, HA.out.setRow _, KC.out⟩
    refine AllReadyH.cons rfl (fun K hK => ?_) AllReadyH.nil
    go_simp
    have HG := Lib.hid KC.out.size
    have HA := Lib.hid (Bk.new w1 44 #[.int .i64 0, .int .u8 0, .int .u8 0, .int .u8 0, .int .u8 0, .int .u8 0, .int .u8 0, .int .u32 0, .int .u8 0, .int .u8 0, .int .u8 0, .int .u8 0, .int .u8 0, .int .u8 0, .int .u32 0]).drew
    have KC := Lib.hid (((Kp.refl (fun _ => False) w1).alloc (.cells #[.int .i64 0, .int .u8 0, .int .u8 0, .int .u8 0, .int .u8 0, .int .u8 0, .int .u8 0, .int .u32 0, .int .u8 0, .int .u8 0, .int .u8 0, .int .u8 0, .int .u8 0, .int .u8 0, .int .u32 0] 44)).drew)
    refine hK.out _ _ (KC.out) (fun hHeld => ?_)
    clear hK K
    try simp only [Act.put, List.getElem_toArray, List.getElem_cons_succ, List.getElem_cons_zero, List.setIfInBounds_toArray, List.set_cons_zero, List.set_cons_succ]
    refine wpAnyH_ready (rs := [1]) (by kernel_rfl) (by simp) ?_
    refine AllReadyH.cons rfl (fun K hK => ?_) AllReadyH.nil
    go_simp
    with_reducible refine (HN1.out _ (by exact KC.out)).mono ?_
    rintro ev x1 ⟨rfl, k9⟩
    have KC := Lib.hid (KC.out.trans' k9)
    have HA := Lib.hid (HA.out.kept k9 (fun f => f))
    clear k9
    try dsimp only
    refine hK.out _ _ (KC.out) (fun hHeld => ?_)
    clear hK K
    try simp only [Act.put, List.getElem_toArray, List.getElem_cons_succ, List.getElem_cons_zero, List.setIfInBounds_toArray, List.set_cons_zero, List.set_cons_succ]
    refine wpAnyH_take (i := 2) (v := ?v2_20) rfl (by kernel_rfl) (by kernel_rfl) (by kernel_rfl) (fun _ _ _ h => h) (Or.inl ⟨by rfl, ?y2_20⟩) (by assumption) ?r2_20
    case y2_20 => (intro w hSw; (try dsimp only at hSw); go_simp; first | done | with_reducible rfl)
    try simp only [Act.put, List.getElem_toArray, List.getElem_cons_succ, List.getElem_cons_zero, List.setIfInBounds_toArray, List.set_cons_zero, List.set_cons_succ]
    refine wpAnyH_ready (rs := [8]) (by kernel_rfl) (by simp) ?_
    refine AllReadyH.cons rfl (fun K hK => ?_) AllReadyH.nil
    go_simp
    with_reducible refine (HN8.out _ (by exact KC.out)).mono ?_
    rintro ev x8 ⟨rfl, k9⟩
    have KC := Lib.hid (KC.out.trans' k9)
    have HA := Lib.hid (HA.out.kept k9 (fun f => f))
    clear k9
    try dsimp only
    refine hK.out _ _ (KC.out) (fun hHeld => ?_)
    clear hK K
    try simp only [Act.put, List.getElem_toArray, List.getElem_cons_succ, List.getElem_cons_zero, List.setIfInBounds_toArray, List.set_cons_zero, List.set_cons_succ]
    refine wpAnyH_take (i := 9) (v := ?v9_21) rfl (by kernel_rfl) (by kernel_rfl) (by kernel_rfl) (fun _ _ _ h => h) (Or.inl ⟨by rfl, ?y9_21⟩) (by assumption) ?r9_21
    case y9_21 => (intro w hSw; (try dsimp only at hSw); go_simp; first | done | with_reducible rfl)
    try simp only [Act.put, List.getElem_toArray, List.getElem_cons_succ, List.getElem_cons_zero, List.setIfInBounds_toArray, List.set_cons_zero, List.set_cons_succ]
    refine wpAnyH_ready (rs := [15]) (by kernel_rfl) (by simp) ?_
    refine AllReadyH.cons rfl (fun K hK => ?_) AllReadyH.nil
    go_simp
    with_reducible refine (HN15.out _ (by exact KC.out)).mono ?_
    rintro ev x15 ⟨rfl, k9⟩
    have KC := Lib.hid (KC.out.trans' k9)
    have HA := Lib.hid (HA.out.kept k9 (fun f => f))
    clear k9
    try dsimp only
    refine hK.out _ _ (KC.out) (fun hHeld => ?_)
    clear hK K
    try simp only [Act.put, List.getElem_toArray, List.getElem_cons_succ, List.getElem_cons_zero, List.setIfInBounds_toArray, List.set_cons_zero, List.set_cons_succ]
    refine wpAnyH_take (i := 16) (v := ?v16_22) rfl (by kernel_rfl) (by kernel_rfl) (by kernel_rfl) (fun _ _ _ h => h) (Or.inl ⟨by rfl, ?y16_22⟩) (by assumption) ?r16_22
    case y16_22 => (intro w hSw; (try dsimp only at hSw); go_simp; first | done | with_reducible rfl)
    try simp only [Act.put, List.getElem_toArray, List.getElem_cons_succ, List.getElem_cons_zero, List.setIfInBounds_toArray, List.set_cons_zero, List.set_cons_succ]
    refine wpAnyH_take (i := 17) (v := ?v17_23) rfl (by kernel_rfl) (by kernel_rfl) (by kernel_rfl) (fun _ _ _ h => h) (Or.inl ⟨by rfl, ?y17_23⟩) (by assumption) ?r17_23
    case y17_23 => (intro w hSw; (try dsimp only at hSw); go_simp; first | done | with_reducible rfl)
    try simp only [Act.put, List.getElem_toArray, List.getElem_cons_succ, List.getElem_cons_zero, List.setIfInBounds_toArray, List.set_cons_zero, List.set_cons_succ]
    refine wpAnyH_ready (rs := [19]) (by kernel_rfl) (by simp) ?_
    refine AllReadyH.cons rfl (fun K hK => ?_) AllReadyH.nil
    rw [if_pos (by rfl)]
    refine wp_store_row 44 (.tmp 4) (.tmp 27) (by rfl) (w1.heap.size) #[.int .i64 op, .int .u8 (y 8), .int .u8 (y 9), .int .u8 (y 10), .int .u8 (y 11), .int .u8 (y 12), .int .u8 (y 13), .int .u32 ip, .int .u8 (y 18), .int .u8 (y 19), .int .u8 (y 20), .int .u8 (y 21), .int .u8 (y 22), .int .u8 (y 23), .int .u32 tip] (by rfl) (by rfl) 44 #[.int .i64 0, .int .u8 0, .int .u8 0, .int .u8 0, .int .u8 0, .int .u8 0, .int .u8 0, .int .u32 0, .int .u8 0, .int .u8 0, .int .u8 0, .int .u8 0, .int .u8 0, .int .u8 0, .int .u32 0] HA.out hi44' rfl (by simp [Value.oneCell']) ?_
    have KC := Lib.hid (KC.out.setRow (.inr HG.out) #[.int .i64 op, .int .u8 (y 8), .int .u8 (y 9), .int .u8 (y 10), .int .u8 (y 11), .int .u8 (y 12), .int .u8 (y 13), .int .u32 ip, .int .u8 (y 18), .int .u8 (y 19), .int .u8 (y 20), .int .u8 (y 21), .int .u8 (y 22), .int .u8 (y 23), .int .u32 tip])
    refine hK.out _ _ (KC.out) (fun hHeld => ?_)
    clear hK K
    try simp only [Act.put, List.getElem_toArray, List.getElem_cons_succ, List.getElem_cons_zero, List.setIfInBounds_toArray, List.set_cons_zero, List.set_cons_succ]
    refine wpAnyH_done (by kernel_rfl) ?_ _
    go_wp2_with fail
    go_meet
    exact ⟨w1.heap.size, rfl, HG.out, HA.out.setRow _, KC.out⟩
  case rest =>
    obtain ⟨g, rfl, hg, hbg, hkw⟩ := hcut
    generalize w.alloc (.cells #[.int .i64 0, .int .u8 0, .int .u8 0, .int .u8 0, .int .u8 0, .int .u8 0, .int .u8 0, .int .u32 0, .int .u8 0, .int .u8 0, .int .u8 0, .int .u8 0, .int .u8 0, .int .u8 0, .int .u32 0] 44) = w1 at *
    have kc := fun (w : World) => Lib.run_convert_bytes_const (P := Tryd.prog) w 38 5 #[.int .u8 0, .int .u8 1, .int .u8 8, .int .u8 0, .int .u8 6, .int .u8 4] 6 6 Tryd.underlying38 Tryd.underlying5
    have HG := Lib.hid hbg
    have HKW := Lib.hid hkw
    have HOP := Lib.hid hop
    have HIP := Lib.hid hip
    have HTIP := Lib.hid htip
    have HLT := Lib.hid hlt
    clear hbg hkw hop hip htip hcc1 hlt
    go_wp2_with fail
    have kH := (Kp.refl (fun _ => False) wc).alloc (.cells #[.int .u8 0, .int .u8 1, .int .u8 8, .int .u8 0, .int .u8 6, .int .u8 4] 5 (6, 7))
    have hH : RdI (wc.alloc (.cells #[.int .u8 0, .int .u8 1, .int .u8 8, .int .u8 0, .int .u8 6, .int .u8 4] 5 (6, 7))) .u8 (some ⟨wc.heap.size, 0, none⟩) [0, 1, 8, 0, 6, 4] := by
      refine ⟨by decide, .inr ⟨wc.heap.size, 0, rfl, fun j hj => ?_⟩⟩
      rw [cell_of_row _ _ _ #[.int .u8 0, .int .u8 1, .int .u8 8, .int .u8 0, .int .u8 6, .int .u8 4] 5 (6, 7) (heap_alloc_new _ _)]
      have hj6 : j < 6 := hj
      have h6 : j = 0 ∨ j = 1 ∨ j = 2 ∨ j = 3 ∨ j = 4 ∨ j = 5 := by omega
      rcases h6 with rfl | rfl | rfl | rfl | rfl | rfl <;> rfl
    refine (prefix_any b o n c 6 6 _ xs [0, 1, 8, 0, 6, 4] _ ((HX.out.kp HKW.out (fun _ _ _ f => f)).kp kH (fun _ _ _ f => f)) hH HN.out rfl HB.out (byt_of _ (by decide)) (by omega) hc h2).mono ?_
    rintro ev w3 ⟨rfl, k3⟩
    have kB := kH.trans' k3
    have K3 := Lib.hid (HKW.out.trans' kB)
    have G3 := Lib.hid (HG.out.kept kB (fun f => f))
    have q0 : _ = some (Value.int .i64 op) := (HG.out.kept kB (fun f => f)).cell 0
    have R3 := Lib.hid (HbA.out.kept (HKW.out.trans' kB) (fun f => f))
    obtain ⟨p, hp⟩ : ∃ p, (xs.take 6 == [0, 1, 8, 0, 6, 4]) = p := ⟨_, rfl⟩
    obtain ⟨p1, hp1⟩ : ∃ p, (op != 1) = p := ⟨_, rfl⟩
    obtain ⟨p2, hp2⟩ : ∃ p, (op != 2) = p := ⟨_, rfl⟩
    have HBAD := Lib.hid (show badOf xs = (!p || (p1 && p2)) by unfold badOf; rw [HY.out, HOP.out, hp, hp1, hp2])
    have HP := Lib.hid hp
    rw [hp]
    clear kH hH k3 kB kc hp
    by_cases hbad : (!p || (p1 && p2)) = true
    · have e3 : p = false ∨ (p = true ∧ p1 = true ∧ p2 = true) := by revert hbad; cases p <;> cases p1 <;> cases p2 <;> decide
      have HBD := Lib.hid hbad
      clear hbad
      rcases e3 with rfl | ⟨rfl, rfl, rfl⟩
      all_goals
        go_wp2_with fail
        refine (fault_yes 16 14 _ (by decide) (by decide)).mono ?_
        rintro ev w4 ⟨v, rfl, c1, k4⟩
        have hb1 := R3.out.kept k4 (fun f => f)
        go_wp2_with
          ((with_reducible refine gate_store (t := 44) (p := 2) (v := .tmp 44) rfl ?_)
           go_must (refine wpList_store_row (by rfl) 44 (.tmp 2) (.tmp 44) (by rfl) w.heap.size (pkt 0 (fun _ => 0) 0 (fun _ => 0) 0) (by rfl) (by rfl) 44 (pkt 0 (fun _ => 0) 0 (fun _ => 0) 0) hb1 hi44' rfl (pkt_one _ _ _ _ _) ?_))
        refine bodyPost_ret (results_ct rfl _ _ w.heap.size 44 (pkt 0 (fun _ => 0) 0 (fun _ => 0) 0) (0, 0) _ rfl (hb1.setRow (pkt 0 (fun _ => 0) 0 (fun _ => 0) 0)) Tryd.underlying44 rfl hi44') rfl ?_
        rw [← HPOST.out]
        have kS := Kp.setRow (S := fun b => b = w.heap.size) (Kp.refl _ w4) (.inl rfl) (pkt 0 (fun _ => 0) 0 (fun _ => 0) 0)
        exact .inl ⟨HBAD.out.trans HBD.out, ⟨v, rfl, c1.kept kS (fun k cs h2 h3 => by subst h3; exact Bk.ne_of h2 hb1 (by decide) rfl)⟩, (HkA.out.trans' (K3.out.trans' k4)).setRow (.inr (Nat.le_refl _)) (pkt 0 (fun _ => 0) 0 (fun _ => 0) 0)⟩
    · have e3 : p = true ∧ ((p1 = false) ∨ (p1 = true ∧ p2 = false)) := by revert hbad; cases p <;> cases p1 <;> cases p2 <;> decide
      have HBD := Lib.hid (show badOf xs = false by rw [HBAD.out]; simpa using hbad)
      have hm : 0 ≤ (y 8 : Int) ∧ (y 8 : Int) < 256 := by have := HLT.out 8; omega
      obtain ⟨r, hr⟩ : ∃ r, ((y 8 : Int) % 2 != 0) = r := ⟨_, rfl⟩
      have hgr : ∀ w, Calls Tryd.prog 41 #[.agg (mac fun i => y (8 + i))] w fun ev w' => ev = .returned (.bool r) ∧ Kp (fun _ => False) w w' := fun w => by
        rw [← hr]
        exact group_any (fun i => y (8 + i)) w hm
      have HGR := Lib.hid hgr
      have HR := Lib.hid (show (xs.getD 8 0 % 2 != 0) = r by rw [nat_val HB.out, HY.out]; exact hr)
      have q1 : w3.cell? ⟨g, 1, none⟩ = some (.int .u8 (y 8)) := G3.out.cell 1
      have q2 : w3.cell? ⟨g, 2, none⟩ = some (.int .u8 (y 9)) := G3.out.cell 2
      have q3 : w3.cell? ⟨g, 3, none⟩ = some (.int .u8 (y 10)) := G3.out.cell 3
      have q4 : w3.cell? ⟨g, 4, none⟩ = some (.int .u8 (y 11)) := G3.out.cell 4
      have q5 : w3.cell? ⟨g, 5, none⟩ = some (.int .u8 (y 12)) := G3.out.cell 5
      have q6 : w3.cell? ⟨g, 6, none⟩ = some (.int .u8 (y 13)) := G3.out.cell 6
      clear hbad hm hgr hr
      obtain ⟨rfl, e3⟩ := e3
      rcases e3 with rfl | ⟨rfl, rfl⟩
      all_goals
        go_wp2_with fail
        refine (HGR.out _).mono ?_
        rintro ev w4 ⟨rfl, k4⟩
        have g4 := G3.out.kept k4 (fun f => f)
        have r4 := R3.out.kept k4 (fun f => f)
        have K4 := Lib.hid (K3.out.trans' k4)
        clear q0 q1 q2 q3 q4 q5 q6 k4
        cases r
        · have s0 : w4.cell? ⟨g, 0, none⟩ = _ := g4.cell 0; have s1 : w4.cell? ⟨g, 1, none⟩ = _ := g4.cell 1; have s2 : w4.cell? ⟨g, 2, none⟩ = _ := g4.cell 2; have s3 : w4.cell? ⟨g, 3, none⟩ = _ := g4.cell 3; have s4 : w4.cell? ⟨g, 4, none⟩ = _ := g4.cell 4; have s5 : w4.cell? ⟨g, 5, none⟩ = _ := g4.cell 5; have s6 : w4.cell? ⟨g, 6, none⟩ = _ := g4.cell 6; have s7 : w4.cell? ⟨g, 7, none⟩ = _ := g4.cell 7; have s8 : w4.cell? ⟨g, 8, none⟩ = _ := g4.cell 8; have s9 : w4.cell? ⟨g, 9, none⟩ = _ := g4.cell 9; have s10 : w4.cell? ⟨g, 10, none⟩ = _ := g4.cell 10; have s11 : w4.cell? ⟨g, 11, none⟩ = _ := g4.cell 11; have s12 : w4.cell? ⟨g, 12, none⟩ = _ := g4.cell 12; have s13 : w4.cell? ⟨g, 13, none⟩ = _ := g4.cell 13; have s14 : w4.cell? ⟨g, 14, none⟩ = _ := g4.cell 14
          have HG4 := Lib.hid g4
          clear g4
          go_wp2_with
            ((with_reducible refine gate_store (t := 44) (p := 2) (v := .tmp 52) rfl ?_)
             go_must (refine wpList_store_row (by rfl) 44 (.tmp 2) (.tmp 52) (by rfl) w.heap.size #[.int .i64 op, .int .u8 (y 8), .int .u8 (y 9), .int .u8 (y 10), .int .u8 (y 11), .int .u8 (y 12), .int .u8 (y 13), .int .u32 ip, .int .u8 (y 18), .int .u8 (y 19), .int .u8 (y 20), .int .u8 (y 21), .int .u8 (y 22), .int .u8 (y 23), .int .u32 tip] (by rfl) (by rfl) 44 #[.int .i64 0, .int .u8 0, .int .u8 0, .int .u8 0, .int .u8 0, .int .u8 0, .int .u8 0, .int .u32 0, .int .u8 0, .int .u8 0, .int .u8 0, .int .u8 0, .int .u8 0, .int .u8 0, .int .u32 0] r4 hi44' rfl (by simp [Value.oneCell']) ?_))
          refine bodyPost_ret (results_ct rfl _ _ w.heap.size 44 #[.int .i64 op, .int .u8 (y 8), .int .u8 (y 9), .int .u8 (y 10), .int .u8 (y 11), .int .u8 (y 12), .int .u8 (y 13), .int .u32 ip, .int .u8 (y 18), .int .u8 (y 19), .int .u8 (y 20), .int .u8 (y 21), .int .u8 (y 22), .int .u8 (y 23), .int .u32 tip] (0, 0) _ rfl (r4.setRow _) Tryd.underlying44 rfl hi44') rfl ?_
          rw [← HPOST.out]
          refine .inr (.inr ⟨HBD.out, HR.out, ?_, (HkA.out.trans' K4.out).setRow (.inr (Nat.le_refl _)) _⟩)
          unfold pktOf
          rw [HY.out, HOP.out, HIP.out, HTIP.out]
          rfl
        · have R3 := Lib.hid r4
          have K3 := K4
          go_wp2_with fail
          refine (fault_yes 1 10 _ (by decide) (by decide)).mono ?_
          rintro ev w5 ⟨v, rfl, c1, k4⟩
          have hb1 := R3.out.kept k4 (fun f => f)
          go_wp2_with
            ((with_reducible refine gate_store (t := 44) (p := 2) (v := .tmp 50) rfl ?_)
             go_must (refine wpList_store_row (by rfl) 44 (.tmp 2) (.tmp 50) (by rfl) w.heap.size (pkt 0 (fun _ => 0) 0 (fun _ => 0) 0) (by rfl) (by rfl) 44 (pkt 0 (fun _ => 0) 0 (fun _ => 0) 0) hb1 hi44' rfl (pkt_one _ _ _ _ _) ?_))
          refine bodyPost_ret (results_ct rfl _ _ w.heap.size 44 (pkt 0 (fun _ => 0) 0 (fun _ => 0) 0) (0, 0) _ rfl (hb1.setRow (pkt 0 (fun _ => 0) 0 (fun _ => 0) 0)) Tryd.underlying44 rfl hi44') rfl ?_
          rw [← HPOST.out]
          have kS := Kp.setRow (S := fun b => b = w.heap.size) (Kp.refl _ w5) (.inl rfl) (pkt 0 (fun _ => 0) 0 (fun _ => 0) 0)
          exact .inr (.inl ⟨HBD.out, HR.out, ⟨v, rfl, c1.kept kS (fun k cs h2 h3 => by subst h3; exact Bk.ne_of h2 hb1 (by decide) rfl)⟩, (HkA.out.trans' (K3.out.trans' k4)).setRow (.inr (Nat.le_refl _)) (pkt 0 (fun _ => 0) 0 (fun _ => 0) 0)⟩)
end Go.Proofs.YtfhhmehlkjaibaaDoor
