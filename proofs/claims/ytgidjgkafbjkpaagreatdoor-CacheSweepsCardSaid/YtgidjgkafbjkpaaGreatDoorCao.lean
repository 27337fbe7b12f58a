/- Cache: a neighbour for which tokens wait. -/
import Derived.Test.YtgidjgkafbjkpaaGreatDoorCap
set_option linter.unusedVariables false
set_option linter.unusedSimpArgs false
namespace Go.Proofs.YtgidjgkafbjkpaaGreatDoor
open Go.RowKit Go.Shelf
attribute [local go_sem] Oper.semAt_some

def av0 : CV := CV.empty 1 2 10 3
def ar1 : Rw := ⟨2, [71], 1, 103⟩
def ar2 : Rw := ⟨2, [71, 72], 1, 103⟩
def am4 : M6 := ⟨4, 0, 0, 0, 0, 0⟩
def am6 : M6 := ⟨6, 0, 0, 0, 0, 0⟩
def av1 : CV := ⟨1, 2, 10, 3, 1, [], [ar1]⟩
def av2 : CV := ⟨1, 2, 10, 3, 1, [], [ar2]⟩
def av3 : CV := ⟨1, 2, 10, 3, 2, [⟨2, am4, 2, 112⟩], []⟩
def av4 : CV := ⟨1, 2, 10, 3, 3, [⟨3, am6, 3, 113⟩], []⟩
def av5 : CV := ⟨1, 2, 10, 3, 1, [], []⟩
theorem ae1 : av0.wait_ 2 71 100 = (av1, true, 0) := by kernel_rfl
theorem ae2 : av1.wait_ 2 72 101 = (av2, false, 0) := by kernel_rfl
theorem ae3 : av2.wait_ 2 73 101 = (av2, false, 18) := by kernel_rfl
theorem ae4 : av2.wait_ 3 74 101 = (av2, false, 18) := by kernel_rfl
theorem ae5 : av2.learn 2 am4 102 = av3 := by kernel_rfl
theorem ae6 : av3.learn 3 am6 103 = av4 := by kernel_rfl
theorem ae7 : av2.left (min 102 MT) = av2 := by kernel_rfl
theorem ae8 : av2.left (min 103 MT) = av5 := by kernel_rfl
theorem rgt_a : Rgt ((1 : Nat) : Int) ((2 : Nat) : Int) 10 3 := by unfold Rgt; omega
theorem aok0 : VOK av0 := VOK.empty rgt_a
theorem aok1 : VOK av1 := by have := aok0.wait_ (i := 2) (by omega) 71 100; rw [ae1] at this; exact this
theorem aok2 : VOK av2 := by have := aok1.wait_ (i := 2) (by omega) 72 101; rw [ae2] at this; exact this
theorem aok3 : VOK av3 := by have := aok2.learn (i := 2) (by omega) am4 102; rw [ae5] at this; exact this
theorem aok4 : VOK av4 := by have := aok3.learn (i := 3) (by omega) am6 103; rw [ae6] at this; exact this
theorem got_a (t : Nat) : ∃ R, WR R [ar2] ∧ R = [(2, 103)] := ⟨_, WR.nil.set ar2, rfl⟩
theorem got_102 {A : List Nat} (h : Got (min 102 MT) av2.rows A) : A = [] := by
  obtain ⟨R, h1, e⟩ := got_a 0
  subst e
  exact h.uniq ⟨_, h1, rfl⟩
theorem got_103 {A : List Nat} (h : Got (min 103 MT) av2.rows A) : A = [2] := by
  obtain ⟨R, h1, e⟩ := got_a 0
  subst e
  exact h.uniq ⟨_, h1, rfl⟩
theorem KA.setCell {B : Nat} {W : World} {p : Addr} (hp : p.block < B) (u : Value) : KA B W (W.setCell p u) :=
  ⟨(KeepsWalks.setCell W p u).size, (KeepsWalks.setCell W p u).same, fun k o hB hk _ => (Below.heap_setCell W p u k (by omega)).trans hk⟩
theorem results_cell_one {fn : Func} {p : Tmp} {ty : TypeId} (h : fn.results = #[.cell p ty]) (tmps : Array Value) (P : Program) (w : World) (a : Addr) (v : Value) (hp : tmps.getD p undef = .pointer (some a)) (hl : (loadVar ty a).run P w = .ok v w) :
    (results fn tmps).run P w = .ok v w := by
  have hp' : tmps[p]?.getD undef = .pointer (some a) := by simpa using hp
  simp [results, h, hp', asAddr, hl, Sem.run_bind, Result.andThen]
theorem FC.not {F : Nat → Prop} {w : World} {b t : Nat} {cs : Array Value} (hb : Bk w b t cs) (h1 : t ≠ 68) (h2 : t ≠ 113) : ¬ FC F w b := fun h => by
  rcases h.2 t cs hb with e | e
  · exact h1 e
  · exact h2 e
/-- How it stands while a cache is told things: what was there in w is as it was. -/
structure AS (w : World) (F : Nat → Prop) (g : Nat) (v : CV) (W : World) : Prop where
  kp : Kp (fun _ => False) w W
  c : Cch F W g v
  old : ∀ b, b < w.heap.size → ¬ F b
  new : ∀ b, W.heap.size ≤ b → F b
theorem AS.step {w W W' : World} {F : Nat → Prop} {g : Nat} {v v' : CV} (h : AS w F g v W) (hc : Cch F W' g v') (k : Kp (FC F W) W W') : AS w F g v' W' :=
  ⟨h.kp.trans k (fun b hb hf => h.old b hb hf.1), hc, h.old, fun b hb => h.new b (Nat.le_trans k.size hb)⟩
theorem AS.none {w W W' : World} {F : Nat → Prop} {g : Nat} {v : CV} (h : AS w F g v W) (k : Kp (fun _ => False) W W') : AS w F g v W' :=
  ⟨h.kp.trans' k, h.c.none_kept k, h.old, fun b hb => h.new b (Nat.le_trans k.size hb)⟩
theorem AS.tab {w W : World} {F : Nat → Prop} {g : Nat} {v : CV} (h : AS w F g v W) (hT : Tab w) : Tab W := hT.kept h.kp (fun f => f)
theorem AS.aside {w W W' : World} {F G : Nat → Prop} {g gd : Nat} {v vd : CV} (h : AS w F g v W) (hd : Cch G W gd vd) (hG : ∀ b, G b → ¬ F b) (k : Kp (FC F W) W W') : Cch G W' gd vd :=
  hd.kept k (fun b _ hb hf => hG b hb hf.1) FC.no3
/-- A clone is made: each on its own. -/
theorem AS.cloned {w W W' : World} {F : Nat → Prop} {g g' : Nat} {v : CV} (h : AS w F g v W) (hc : Cch (fun b => W.heap.size ≤ b) W' g' v) (k : Kp (fun _ => False) W W') :
    AS w (fun b => F b ∧ ¬ (W.heap.size ≤ b ∧ b < W'.heap.size)) g v W' ∧ Cch (fun b => W.heap.size ≤ b ∧ b < W'.heap.size) W' g' v :=
  ⟨⟨h.kp.trans' k, (h.c.mono (fun b hb hf => ⟨hf, fun hh => by omega⟩)).none_kept k, fun b hb hf => h.old b hb hf.1, fun b hb => ⟨h.new b (Nat.le_trans k.size hb), fun hh => by omega⟩⟩, hc.mono (fun b hb hf => ⟨hf, hb⟩)⟩
theorem AS.made {w W W' : World} {g : Nat} {v : CV} (hk : Kp (fun _ => False) w W) (hc : Cch (fun b => W.heap.size ≤ b) W' g v) (k : Kp (fun _ => False) W W') : AS w (fun b => W.heap.size ≤ b) g v W' :=
  ⟨hk.trans' k, hc, fun b hb hf => by have := hk.size; omega, fun b hb => Nat.le_trans k.size hb⟩
set_option maxRecDepth 1000000 in
set_option maxHeartbeats 16000000 in
theorem alive14 (w : World) (hT : Tab w) : Calls Tryz.prog 7 #[] w fun ev w' => ev = .returned (.bool true) ∧ Kp (fun _ => False) w w' := by
  have HT := Lib.hid hT
  have HL0 := Lib.hid hT.lt
  have K1 := Lib.hid ((Kp.refl (fun _ => False) w).alloc (.cells #[.bool false] 4))
  have B1 := Lib.hid (Bk.new w 4 #[.bool false])
  have hf7 : ∀ n, Fence.wide.fn n := fun _ => trivial
  clear hT
  refine (callsIn_wide (n := 20)).1 ?_
  refine callsIn_of_wp_marks Tryz.func7 rfl trivial ?_ rfl
  simp only [Tryz.ntmps7, List.size_toArray, List.length_cons, List.length_nil, Nat.reduceAdd, Nat.reduceSub, Array.replicate_succ, Array.replicate_zero, List.push_toArray, List.append_toArray, List.nil_append, List.cons_append]
  gi_wp2_with fail
  have QB := Lib.hid (Nat.le_refl w.heap.size)
  obtain ⟨rb, hrb⟩ : ∃ rb, rb = w.heap.size := ⟨_, rfl⟩
  rw [← hrb] at B1 ⊢
  have HRB := Lib.hid hrb
  clear hrb QB
  generalize w.alloc (.cells #[.bool false] 4) = w1 at *
  have C : Calls Tryz.prog 8 #[.int .i64 1, .int .i64 2, .int .u64 10, .int .u64 3] w1 _ := tnew 1 2 10 3 w1 rgt_a
  refine (callsIn_wide.2 C).mono ?_
  rintro ev w2 ⟨g, rfl, hc, k⟩
  have A2 := Lib.hid (AS.made K1.out hc k)
  have B2 := Lib.hid (B1.out.kept k (fun f => f))
  clear C hc k B1
  gi_wp2_with fail
  have C : Calls Tryz.prog 8 #[.int .i64 0, .int .i64 2, .int .u64 10, .int .u64 3] w2 _ := cnew_bad 0 2 10 3 w2 (by unfold Rgt; omega)
  refine (callsIn_wide.2 C).mono ?_
  rintro ev w3 ⟨rfl, k⟩
  have A3 := Lib.hid (A2.out.none k)
  have B3 := Lib.hid (B2.out.kept k (fun f => f))
  clear C k A2 B2
  gi_wp2_with fail
  have C0 := twait _ g 2 100 71 av0 w3 A3.out.c aok0 A3.out.new (by omega) (by decide)
  rw [ae1] at C0
  have C : Calls Tryz.prog 10 #[.pointer (some ⟨g, 0, none⟩), .int .u32 2, .int .i64 71, .int .u64 100] w3 (fun ev w' => ev = .returned (.tuple #[.bool true, .int .i64 0]) ∧ Cch (fun b => w1.heap.size ≤ b) w' g av1 ∧ Kp (FC (fun b => w1.heap.size ≤ b) w3) w3 w') := C0
  refine (callsIn_wide.2 C).mono ?_
  rintro ev w4 ⟨rfl, hc, k⟩
  have A4 := Lib.hid (A3.out.step hc k)
  have B4 := Lib.hid (B3.out.kept k (FC.not B3.out (by decide) (by decide)))
  clear C C0 hc k A3 B3
  gi_wp2_with fail
  have C0 := twait _ g 2 101 72 av1 w4 A4.out.c aok1 A4.out.new (by omega) (by decide)
  rw [ae2] at C0
  have C : Calls Tryz.prog 10 #[.pointer (some ⟨g, 0, none⟩), .int .u32 2, .int .i64 72, .int .u64 101] w4 (fun ev w' => ev = .returned (.tuple #[.bool false, .int .i64 0]) ∧ Cch (fun b => w1.heap.size ≤ b) w' g av2 ∧ Kp (FC (fun b => w1.heap.size ≤ b) w4) w4 w') := C0
  refine (callsIn_wide.2 C).mono ?_
  rintro ev w5 ⟨rfl, hc, k⟩
  have A5 := Lib.hid (A4.out.step hc k)
  have B5 := Lib.hid (B4.out.kept k (FC.not B4.out (by decide) (by decide)))
  clear C C0 hc k A4 B4
  gi_wp2_with fail
  have C0 := twait _ g 2 101 73 av2 w5 A5.out.c aok2 A5.out.new (by omega) (by decide)
  rw [ae3] at C0
  have C : Calls Tryz.prog 10 #[.pointer (some ⟨g, 0, none⟩), .int .u32 2, .int .i64 73, .int .u64 101] w5 (fun ev w' => ev = .returned (.tuple #[.bool false, .int .i64 18]) ∧ Cch (fun b => w1.heap.size ≤ b) w' g av2 ∧ Kp (FC (fun b => w1.heap.size ≤ b) w5) w5 w') := C0
  refine (callsIn_wide.2 C).mono ?_
  rintro ev w6 ⟨rfl, hc, k⟩
  have A6 := Lib.hid (A5.out.step hc k)
  have B6 := Lib.hid (B5.out.kept k (FC.not B5.out (by decide) (by decide)))
  clear C C0 hc k A5 B5
  gi_wp2_with fail
  have C0 := twait _ g 3 101 74 av2 w6 A6.out.c aok2 A6.out.new (by omega) (by decide)
  rw [ae4] at C0
  have C : Calls Tryz.prog 10 #[.pointer (some ⟨g, 0, none⟩), .int .u32 3, .int .i64 74, .int .u64 101] w6 (fun ev w' => ev = .returned (.tuple #[.bool false, .int .i64 18]) ∧ Cch (fun b => w1.heap.size ≤ b) w' g av2 ∧ Kp (FC (fun b => w1.heap.size ≤ b) w6) w6 w') := C0
  refine (callsIn_wide.2 C).mono ?_
  rintro ev w7 ⟨rfl, hc, k⟩
  have A7 := Lib.hid (A6.out.step hc k)
  have B7 := Lib.hid (B6.out.kept k (FC.not B6.out (by decide) (by decide)))
  clear C C0 hc k A6 B6
  gi_wp2_with fail
  have C := tclone _ g av2 w7 A7.out.c
  refine (callsIn_wide.2 C).mono ?_
  rintro ev w8 ⟨gd, rfl, hc, k⟩
  have P := A7.out.cloned hc k
  have X70 := Lib.hid (show w1.heap.size ≤ w7.heap.size from A7.out.new w7.heap.size (Nat.le_refl _))
  obtain ⟨Fc, hFd⟩ : ∃ Fc : Nat → Prop, Fc = (fun b => w1.heap.size ≤ b ∧ ¬ (w7.heap.size ≤ b ∧ b < w8.heap.size)) := ⟨_, rfl⟩
  rw [← hFd] at P
  have X78 := Lib.hid (show ∀ b, w7.heap.size ≤ b ∧ b < w8.heap.size → ¬ Fc b from fun b hb hf => by rw [hFd] at hf; exact hf.2 hb)
  have A8 := Lib.hid P.1
  have D8 := Lib.hid P.2
  have B8 := Lib.hid (B7.out.kept k (fun f => f))
  have S78 := Lib.hid (show w7.heap.size < w8.heap.size from by
    obtain ⟨s, _, _, hf⟩ := P.2
    have := hf gd (.inl rfl)
    omega)
  clear C hc k A7 B7 P hFd
  gi_wp2_with fail
  have C : Calls Tryz.prog 9 #[.pointer (some ⟨g, 0, none⟩), .int .u32 2, .agg #[.int .u8 4, .int .u8 0, .int .u8 0, .int .u8 0, .int .u8 0, .int .u8 0], .int .u64 102] w8 (fun ev w' => ∃ A c, ev = .returned (.slice A 2 c) ∧ RdN w' A [71, 72] ∧ Cch Fc w' g av3 ∧ Kp (FC Fc w8) w8 w') := tlearn _ g 2 102 am4 av2 w8 A8.out.c aok2 A8.out.new (by omega) (by decide)
  refine (callsIn_wide.2 C).mono ?_
  rintro ev w9 ⟨AL, cL, rfl, hr, hc, k⟩
  have A9 := Lib.hid (A8.out.step hc k)
  have D9 := Lib.hid (A8.out.aside D8.out X78.out k)
  have B9 := Lib.hid (B8.out.kept k (FC.not B8.out (by decide) (by decide)))
  have L9 := Lib.hid hr
  clear C hc k A8 B8 hr D8
  gi_wp2_with fail
  have C : Calls Tryz.prog 15 #[.pointer (some ⟨g, 0, none⟩), .int .u32 2, .int .u64 111] w9 (fun ev w' => ev = .returned (.tuple #[.agg #[.int .u8 4, .int .u8 0, .int .u8 0, .int .u8 0, .int .u8 0, .int .u8 0], .bool true]) ∧ Kp (fun _ => False) w9 w') := tfind Fc g 2 111 av3 w9 A9.out.c (by omega)
  refine (callsIn_wide.2 C).mono ?_
  rintro ev w10 ⟨rfl, k⟩
  have ka := k.alloc (.cells #[.int .u8 4, .int .u8 0, .int .u8 0, .int .u8 0, .int .u8 0, .int .u8 0] 32)
  have M10 := Lib.hid (Bk.new w10 32 #[.int .u8 4, .int .u8 0, .int .u8 0, .int .u8 0, .int .u8 0, .int .u8 0])
  gi_wp2_with fail
  generalize w10.heap.size = m1 at *
  generalize w10.alloc (.cells #[.int .u8 4, .int .u8 0, .int .u8 0, .int .u8 0, .int .u8 0, .int .u8 0] 32) = w11 at *
  have A11 := Lib.hid (A9.out.none ka)
  have D11 := Lib.hid (D9.out.none_kept ka)
  have B11 := Lib.hid (B9.out.kept ka (fun f => f))
  have L11 := Lib.hid (L9.out.none_kept ka)
  clear C k ka A9 D9 B9 L9
  have C : Calls Tryz.prog 15 #[.pointer (some ⟨g, 0, none⟩), .int .u32 2, .int .u64 112] w11 (fun ev w' => ev = .returned (.tuple #[.agg #[.int .u8 0, .int .u8 0, .int .u8 0, .int .u8 0, .int .u8 0, .int .u8 0], .bool false]) ∧ Kp (fun _ => False) w11 w') := tfind Fc g 2 112 av3 w11 A11.out.c (by omega)
  refine (callsIn_wide.2 C).mono ?_
  rintro ev w12 ⟨rfl, k⟩
  have ka := k.alloc (.cells #[.int .u8 0, .int .u8 0, .int .u8 0, .int .u8 0, .int .u8 0, .int .u8 0] 32)
  gi_wp2_with fail
  generalize w12.heap.size = m2 at *
  generalize w12.alloc (.cells #[.int .u8 0, .int .u8 0, .int .u8 0, .int .u8 0, .int .u8 0, .int .u8 0] 32) = w13 at *
  have A13 := Lib.hid (A11.out.none ka)
  have D13 := Lib.hid (D11.out.none_kept ka)
  have B13 := Lib.hid (B11.out.kept ka (fun f => f))
  have L13 := Lib.hid (L11.out.none_kept ka)
  have M13 := Lib.hid (M10.out.kept ka (fun f => f))
  clear C k ka A11 D11 B11 L11 M10
  have C : Calls Tryz.prog 9 #[.pointer (some ⟨g, 0, none⟩), .int .u32 3, .agg #[.int .u8 6, .int .u8 0, .int .u8 0, .int .u8 0, .int .u8 0, .int .u8 0], .int .u64 103] w13 (fun ev w' => ∃ A c, ev = .returned (.slice A 0 c) ∧ RdN w' A [] ∧ Cch Fc w' g av4 ∧ Kp (FC Fc w13) w13 w') := tlearn _ g 3 103 am6 av3 w13 A13.out.c aok3 A13.out.new (by omega) (by decide)
  refine (callsIn_wide.2 C).mono ?_
  rintro ev w14 ⟨AL2, cL2, rfl, hr, hc, k⟩
  have A14 := Lib.hid (A13.out.step hc k)
  have D14 := Lib.hid (A13.out.aside D13.out X78.out k)
  have B14 := Lib.hid (B13.out.kept k (FC.not B13.out (by decide) (by decide)))
  have L14 := Lib.hid (L13.out.kp k (fun b o cs _ hb => FC.no3 b cs hb))
  have M14 := Lib.hid (M13.out.kept k (FC.not M13.out (by decide) (by decide)))
  clear C hc k A13 B13 hr D13 L13 M13
  gi_wp2_with fail
  have QM := Lib.hid (And.intro M14.out.lt B14.out.lt)
  have X814 := Lib.hid (show w8.heap.size ≤ w14.heap.size from by
    rcases Nat.lt_or_ge w14.heap.size w8.heap.size with hh | hh
    · have h1 := S78.out
      exact absurd (A14.out.new (w8.heap.size - 1) (by omega)) (X78.out _ ⟨by omega, by omega⟩)
    · exact hh)
  have N15 := Lib.hid (Boxed.new w14 3 (.int .i64 0))
  have K15 := Lib.hid ((Kp.refl (fun _ => False) w14).alloc (.cells #[.int .i64 0] 3))
  obtain ⟨nb, hnb⟩ : ∃ nb, nb = w14.heap.size := ⟨_, rfl⟩
  have SZ15 := Lib.hid (show nb < (w14.alloc (.cells #[.int .i64 0] 3)).heap.size by rw [hnb]; simp)
  have HNB := Lib.hid hnb
  rw [← hnb] at QM N15 ⊢
  clear hnb
  generalize w14.alloc (.cells #[.int .i64 0] 3) = w15 at *
  have C := call_all g w15
  refine (callsIn_wide.2 C).mono ?_
  rintro ev w16 ⟨rfl, rfl⟩
  clear C
  have K16 := Lib.hid (K15.out.alloc (.cells #[.pointer (some ⟨g, 0, none⟩)] 25))
  have BC := Lib.hid (((Bk.new w15 25 #[.pointer (some ⟨g, 0, none⟩)]).cell 0).trans rfl)
  have N16 := Lib.hid (N15.out.alloc (.cells #[.pointer (some ⟨g, 0, none⟩)] 25))
  have SZ16 := Lib.hid (Nat.lt_of_lt_of_le SZ15.out ((Kp.refl (fun _ => False) w15).alloc (.cells #[.pointer (some ⟨g, 0, none⟩)] 25)).size)
  generalize w15.heap.size = bc at *
  generalize w15.alloc (.cells #[.pointer (some ⟨g, 0, none⟩)] 25) = w17 at *
  obtain ⟨s, hm, hsv, hsf⟩ := A14.out.c
  have hse : s.ents = [⟨3, am6, 3, 113⟩] := by
    have : s.tv.ents = av4.ents := by rw [hsv]
    exact this
  have ALLS := Lib.hid (allE_stops 19 (by omega) bc g s w17 BC.out (hm.none_kept K16.out) (by rw [hse]; simp))
  have HSE := Lib.hid hse
  clear hm hsv hsf hse
  gi_wp2_with fail
  refine wpIn_rangeFunc_ownH rfl (by omega) (gf := 42) (lb := #[.pointer (some ⟨bc, 0, none⟩)]) rfl trivial (enters_of Tryz.func42 (by kernel_rfl) rfl) ALLS.out (ka_t _) (ka_b _ _) (Below.refl _ _) (fun _ => rfl)
    (fun pre W => Boxed W nb 3 (.int .i64 (pre.length : Int)) ∧ Below nb w14 W)
    (fun _ _ _ => False)
    (OwnFrom.and (Own.from (boxed_own nb 3 (fun pre : List {x : En // x ∈ s.ents} => Value.int .i64 (pre.length : Int))) _) (ownFrom_below (by rw [HNB.out]; exact Nat.le_refl _) (Nat.le_of_lt SZ16.out)))
    (fun _ _ _ _ _ hs _ _ => hs)
    ⟨N16.out, by rw [HNB.out]; exact K16.out.below⟩
    (fun x a' W => ∃ Bx, nb < Bx ∧ Bk W Bx 32 (macC x.1.v.a x.1.v.b x.1.v.c x.1.v.d x.1.v.e x.1.v.f) ∧ a' = { tmps := #[.pointer (some ⟨rb, 0, none⟩), .pointer (some ⟨g, 0, none⟩), .int .i64 0, .pointer none, .int .i64 11, .bool true, .int .i64 0, .bool false, .int .i64 0, .bool false, .int .i64 18, .bool false, .int .i64 18, .pointer (some ⟨gd, 0, none⟩), .slice AL 2 cL, .pointer (some ⟨m1, 0, none⟩), .bool true, .pointer (some ⟨m2, 0, none⟩), .bool false, .pointer (some ⟨nb, 0, none⟩), .int .u32 (x.1.ip : Int), .pointer (some ⟨Bx, 0, none⟩), .tuple #[.pointer (some ⟨g, 0, none⟩), .int .i64 0], .tuple #[.pointer (some ⟨g, 0, none⟩), .int .i64 0], .pointer (some ⟨g, 0, none⟩), .int .i64 0, .tuple #[.pointer none, .int .i64 11], .tuple #[.pointer none, .int .i64 11], .pointer none, .int .i64 11, .pointer (some ⟨g, 0, none⟩), .bool false, .bool false, .int .i64 0, .bool false, .bool false, .bool false, .int .i64 11, .bool false, .bool false, .tuple #[.bool true, .int .i64 0], .pointer (some ⟨g, 0, none⟩), .tuple #[.bool true, .int .i64 0], .bool true, .int .i64 0, .tuple #[.bool false, .int .i64 0], .pointer (some ⟨g, 0, none⟩), .tuple #[.bool false, .int .i64 0], .bool false, .int .i64 0, .tuple #[.bool false, .int .i64 18], .pointer (some ⟨g, 0, none⟩), .tuple #[.bool false, .int .i64 18], .bool false, .int .i64 18, .tuple #[.bool false, .int .i64 18], .pointer (some ⟨g, 0, none⟩), .tuple #[.bool false, .int .i64 18], .bool false, .int .i64 18, .pointer (some ⟨g, 0, none⟩), .pointer (some ⟨gd, 0, none⟩), .pointer (some ⟨g, 0, none⟩), .agg #[.int .u8 4, .int .u8 0, .int .u8 0, .int .u8 0, .int .u8 0, .int .u8 0], .slice AL 2 cL, .tuple #[.agg #[.int .u8 4, .int .u8 0, .int .u8 0, .int .u8 0, .int .u8 0, .int .u8 0], .bool true], .pointer (some ⟨g, 0, none⟩), .tuple #[.agg #[.int .u8 4, .int .u8 0, .int .u8 0, .int .u8 0, .int .u8 0, .int .u8 0], .bool true], .agg #[.int .u8 4, .int .u8 0, .int .u8 0, .int .u8 0, .int .u8 0, .int .u8 0], .bool true, .tuple #[.agg #[.int .u8 0, .int .u8 0, .int .u8 0, .int .u8 0, .int .u8 0, .int .u8 0], .bool false], .pointer (some ⟨g, 0, none⟩), .tuple #[.agg #[.int .u8 0, .int .u8 0, .int .u8 0, .int .u8 0, .int .u8 0, .int .u8 0], .bool false], .agg #[.int .u8 0, .int .u8 0, .int .u8 0, .int .u8 0, .int .u8 0, .int .u8 0], .bool false, .pointer (some ⟨g, 0, none⟩), .agg #[.int .u8 6, .int .u8 0, .int .u8 0, .int .u8 0, .int .u8 0, .int .u8 0], .slice AL2 0 cL2, .pointer (some ⟨gd, 0, none⟩), .bool false, .pointer (some ⟨g, 0, none⟩), .func (Fn.func 42) #[] #[.pointer (some ⟨bc, 0, none⟩)], .int .u32 (x.1.ip : Int), macV x.1.v, undef, undef, undef, undef, undef, undef, undef, undef, undef, undef, undef, undef, undef, undef, undef, undef, undef, undef, undef, undef, undef, undef, undef, undef, undef, undef, undef, undef, undef, undef, undef, undef, undef, undef, undef, undef, undef, undef, undef, undef, undef, undef, undef, undef, undef, undef, undef, undef, undef, undef, undef, undef, undef, undef, undef, undef, undef, undef, undef, undef, undef, undef, undef, undef, undef, undef, undef, undef, undef, undef, undef, undef, undef, undef, undef, undef, undef, undef, undef, undef, undef, undef, undef, undef], defers := [] })
    (fun x a' _ X Y row hs hg hr => by
      obtain ⟨Bx, h1, h2, h3⟩ := hs
      refine ⟨Bx, h1, ?_, h3⟩
      unfold Bk at h2 ⊢
      refine (hg.block Bx (Array.getElem?_eq_some_iff.1 h2).1 (fun e => ?_)).trans h2
      obtain ⟨_, o, ho, hc⟩ := hr Bx e.symm
      rw [h2] at ho
      cases ho
      cases hc)
    ?assign ?body ?done ?stop
  case assign =>
    rintro l pre ⟨⟨ip, ⟨c1, c2, c3, c4, c5, c6⟩, od, du⟩, hxm⟩ W K ⟨hN, hB⟩ hK
    have hlt := hN.lt
    simp only [macV] at hK ⊢
    gi_wp2_with fail
    exact hK _ _ ((KeepsOthers.alloc _ _).from _) (KA.of_kp ((Kp.refl _ _).alloc _)) ⟨hN.alloc _, hB.alloc (Nat.le_of_lt hlt) _⟩ ⟨W.heap.size, hlt, Bk.new W 32 _, rfl⟩
  case body =>
    rintro l pre ⟨x, hxm⟩ a' W hl hr ⟨hN, hB⟩ ⟨Bx, hBx, hbk, rfl⟩ hlt
    have hx : x = ⟨3, am6, 3, 113⟩ := by rw [HSE.out] at hxm; simpa using hxm
    subst hx
    have hl1 : s.ents.length = 1 := by rw [HSE.out]; rfl
    have hp0 : pre.length = 0 := by omega
    clear hl1
    have hp1 : pre = [] := List.eq_nil_of_length_eq_zero hp0
    subst hp1
    have c0 := hN.cell
    have f0 := hN.frozen
    have d0 := hbk.cell 0
    have d1 := hbk.cell 1
    have d2 := hbk.cell 2
    have d3 := hbk.cell 3
    have d4 := hbk.cell 4
    have d5 := hbk.cell 5
    simp only [am6, macC] at d0 d1 d2 d3 d4 d5
    have hneq : ∀ w, (binOp .neq 32 (.agg #[.int .u8 6, .int .u8 0, .int .u8 0, .int .u8 0, .int .u8 0, .int .u8 0]) (.agg #[.int .u8 6, .int .u8 0, .int .u8 0, .int .u8 0, .int .u8 0, .int .u8 0])).run Tryz.prog w = .ok (.bool false) w := fun _ => by kernel_rfl
    have HN := Lib.hid hN
    have HB := Lib.hid hB
    clear hN hB hbk hl hr hlt
    simp only [macV, am6]
    gi_wp2_with fail
    exact ⟨(KeepsOthers.setCell _ _ _).from _, KA.setCell SZ16.out _, HN.out.set (.int .i64 1), HB.out.setCell (Nat.le_refl _) _⟩
  case done =>
    rintro D ys W hD hS ⟨hN, hB⟩ hK
    have hl1 : ys.length = 1 := by rw [hS, List.length_attach, HSE.out]; rfl
    rw [hl1] at hN
    have KD := Lib.hid (show Kp (fun _ => False) w14 W from Kp.of_below (by rw [← HNB.out]; exact hB) _)
    have HD := Lib.hid (And.intro hK (show w14.heap.size ≤ D from by rw [← HNB.out]; have := SZ16.out; omega))
    have A20 := Lib.hid (A14.out.none KD.out)
    have D20 := Lib.hid (D14.out.none_kept KD.out)
    have B20 := Lib.hid (B14.out.kept KD.out (fun f => f))
    have L20 := Lib.hid (L14.out.none_kept KD.out)
    have M20 := Lib.hid (M14.out.kept KD.out (fun f => f))
    have cn := hN.cell
    have cm0 := M20.out.cell 0
    have cm1 := M20.out.cell 1
    have cm2 := M20.out.cell 2
    have cm3 := M20.out.cell 3
    have cm4 := M20.out.cell 4
    have cm5 := M20.out.cell 5
    have heql : ∀ w, (binOp .eql 32 (.agg #[.int .u8 4, .int .u8 0, .int .u8 0, .int .u8 0, .int .u8 0, .int .u8 0]) (.agg #[.int .u8 4, .int .u8 0, .int .u8 0, .int .u8 0, .int .u8 0, .int .u8 0])).run Tryz.prog w = .ok (.bool true) w := fun _ => by kernel_rfl
    have HN := Lib.hid hN
    clear hN hB hK hS hD hl1 A14 D14 B14 L14 M14 ALLS N16 K16 BC
    gi_wp2_with fail
    have ka := (Kp.refl (fun _ => False) W).alloc (.cells #[.int .i64 71, .int .i64 72] 3)
    have C : Calls Tryz.prog 16 #[.slice AL 2 cL, .slice (some ⟨W.heap.size, 0, none⟩) 2 2] (W.alloc (.cells #[.int .i64 71, .int .i64 72] 3)) (fun ev w' => ev = .returned (.bool true) ∧ ∃ n, w' = (W.alloc (.cells #[.int .i64 71, .int .i64 72] 3)).drewN n) := sameInts_any AL (some ⟨W.heap.size, 0, none⟩) cL 2 [71, 72] [71, 72] _ (L20.out.none_kept ka).1 (RdI.new W .i64 3 [71, 72] (by decide))
    refine (callsIn_wide.2 C).mono ?_
    rintro ev w21 ⟨rfl, nn, rfl⟩
    have kb := ka.drewN nn
    have hDl : D < W.heap.size := (Array.getElem?_eq_some_iff.1 HD.out.1).1
    have HK21 := Lib.hid ((kb.block D hDl (fun f => f)).trans HD.out.1)
    generalize (W.alloc (.cells #[.int .i64 71, .int .i64 72] 3)).drewN nn = w21 at *
    have A21 := Lib.hid (A20.out.none kb)
    have D21 := Lib.hid (D20.out.none_kept kb)
    have B21 := Lib.hid (B20.out.kept kb (fun f => f))
    have M21 := Lib.hid (M20.out.kept kb (fun f => f))
    have cn := (kb.cell (p := ⟨nb, 0, none⟩) HN.out.lt (fun f => f)).trans HN.out.cell
    have cm0 := M21.out.cell 0
    have cm1 := M21.out.cell 1
    have cm2 := M21.out.cell 2
    have cm3 := M21.out.cell 3
    have cm4 := M21.out.cell 4
    have cm5 := M21.out.cell 5
    clear C ka kb hDl A20 D20 B20 M20 L20 HN
    gi_wp2_with fail
    have C : Calls Tryz.prog 13 #[.pointer (some ⟨g, 0, none⟩)] w21 (fun ev w' => ev = .returned (.int .i64 1) ∧ w' = w21) := tlen Fc g av4 w21 A21.out.c
    refine (callsIn_wide.2 C).mono ?_
    rintro ev w22 ⟨rfl, rfl⟩
    clear C cn cm0 cm1 cm2 cm3 cm4 cm5
    gi_wp2_with fail
    have C : Calls Tryz.prog 14 #[.pointer (some ⟨g, 0, none⟩)] w22 (fun ev w' => ev = .returned (.int .i64 0) ∧ w' = w22) := trows Fc g av4 w22 A21.out.c
    refine (callsIn_wide.2 C).mono ?_
    rintro ev w23 ⟨rfl, rfl⟩
    clear C
    gi_wp2_with fail
    have C : Calls Tryz.prog 12 #[.pointer (some ⟨gd, 0, none⟩)] w23 (fun ev w' => ∃ u, ev = .returned u ∧ w'.ownsRow w23.heap.size 3 1 u 2 (intsK .i64 [71, 72]) ∧ Kp (fun _ => False) w23 w') := ttokens _ gd av2 w23 D21.out aok2
    refine (callsIn_wide.2 C).mono ?_
    rintro ev w24 ⟨u, rfl, ho, k⟩
    obtain ⟨A1, c1, rfl, hq1, hr1, hq2⟩ := RdI.of_own (k := .i64) (xs := [71, 72]) ho
    have ka := k.alloc (.cells #[.int .i64 71, .int .i64 72] 3)
    have HR1 := Lib.hid (hr1.alloc (.cells #[.int .i64 71, .int .i64 72] 3))
    clear hq1 hq2 hr1 ho C
    gi_wp2_with fail
    have C : Calls Tryz.prog 16 #[.slice A1 2 c1, .slice (some ⟨w24.heap.size, 0, none⟩) 2 2] (w24.alloc (.cells #[.int .i64 71, .int .i64 72] 3)) (fun ev w' => ev = .returned (.bool true) ∧ ∃ n, w' = (w24.alloc (.cells #[.int .i64 71, .int .i64 72] 3)).drewN n) := sameInts_any A1 (some ⟨w24.heap.size, 0, none⟩) c1 2 [71, 72] [71, 72] _ HR1.out (RdI.new w24 .i64 3 [71, 72] (by decide))
    refine (callsIn_wide.2 C).mono ?_
    rintro ev w25 ⟨rfl, nn2, rfl⟩
    have kb := ka.drewN nn2
    have hDl : D < w23.heap.size := (Array.getElem?_eq_some_iff.1 HK21.out).1
    have HK25 := Lib.hid ((kb.block D hDl (fun f => f)).trans HK21.out)
    clear HR1 C
    generalize (w24.alloc (.cells #[.int .i64 71, .int .i64 72] 3)).drewN nn2 = w25 at *
    have A25 := Lib.hid (A21.out.none kb)
    have D25 := Lib.hid (D21.out.none_kept kb)
    have B25 := Lib.hid (B21.out.kept kb (fun f => f))
    have T25 := Lib.hid (A25.out.tab HT.out)
    have X0 := Lib.hid (show ¬ (w7.heap.size ≤ 0 ∧ 0 < w8.heap.size) from fun hh => by have h1 := hh.1; have h2 := X70.out; have h3 := K1.out.size; have h4 := HL0.out; omega)
    clear ka kb hDl A21 D21 B21 M21 HK21 k
    gi_wp2_with fail
    have C0 := tsweep _ gd 102 av2 w25 D25.out aok2 T25.out X0.out
    rw [ae7] at C0
    have C : Calls Tryz.prog 11 #[.pointer (some ⟨gd, 0, none⟩), .int .u64 102] w25 (fun ev w' => ∃ u A, ev = .returned u ∧ Got (min 102 MT) av2.rows A ∧ w'.ownsRow w25.heap.size 3 1 u (outs A av2.rows).length (intsK .i64 (outs A av2.rows)) ∧ Cch (fun b => w7.heap.size ≤ b ∧ b < w8.heap.size) w' gd av2 ∧ Kp (FC (fun b => w7.heap.size ≤ b ∧ b < w8.heap.size) w25) w25 w') := C0
    refine (callsIn_wide.2 C).mono ?_
    rintro ev w26 ⟨u, A, rfl, hg, ho, hc, k⟩
    obtain rfl := got_102 hg
    obtain ⟨A1, c1, rfl, hq1, hr1, hq2⟩ := RdI.of_own (k := .i64) (xs := []) (n := 0) ho
    have hDl : D < w25.heap.size := (Array.getElem?_eq_some_iff.1 HK25.out).1
    have XD := Lib.hid (show ¬ (w7.heap.size ≤ D ∧ D < w8.heap.size) from fun hh => by
      have h1 := hh.2
      have h2 := HD.out.2
      have h3 := X814.out
      omega)
    have HK26 := Lib.hid ((k.block D hDl (fun f => XD.out f.1)).trans HK25.out)
    have D26 := Lib.hid hc
    have B26 := Lib.hid (B25.out.kept k (FC.not B25.out (by decide) (by decide)))
    have KW26 := Lib.hid (A25.out.kp.trans k (fun q hq hf => by have h1 := hf.1.1; have h2 := X70.out; have h3 := K1.out.size; omega))
    have T26 := Lib.hid (HT.out.kept KW26.out (fun f => f))
    clear hq1 hq2 hr1 ho C C0 hc k hDl hg A25 D25 B25 HK25 T25
    gi_wp2_with fail
    have C0 := tsweep _ gd 103 av2 w26 D26.out aok2 T26.out X0.out
    rw [ae8] at C0
    have C : Calls Tryz.prog 11 #[.pointer (some ⟨gd, 0, none⟩), .int .u64 103] w26 (fun ev w' => ∃ u A, ev = .returned u ∧ Got (min 103 MT) av2.rows A ∧ w'.ownsRow w26.heap.size 3 1 u (outs A av2.rows).length (intsK .i64 (outs A av2.rows)) ∧ Cch (fun b => w7.heap.size ≤ b ∧ b < w8.heap.size) w' gd av5 ∧ Kp (FC (fun b => w7.heap.size ≤ b ∧ b < w8.heap.size) w26) w26 w') := C0
    refine (callsIn_wide.2 C).mono ?_
    rintro ev w27 ⟨u, A, rfl, hg, ho, hc, k⟩
    obtain rfl := got_103 hg
    obtain ⟨A1, c1, rfl, hq1, hr1, hq2⟩ := RdI.of_own (k := .i64) (xs := [71, 72]) (n := 2) ho
    have hDl : D < w26.heap.size := (Array.getElem?_eq_some_iff.1 HK26.out).1
    have HK27 := Lib.hid ((k.block D hDl (fun f => XD.out f.1)).trans HK26.out)
    have D27 := Lib.hid hc
    have B27 := Lib.hid (B26.out.kept k (FC.not B26.out (by decide) (by decide)))
    have KW27 := Lib.hid (KW26.out.trans k (fun q hq hf => by have h1 := hf.1.1; have h2 := X70.out; have h3 := K1.out.size; omega))
    have ka := (Kp.refl (fun _ => False) w27).alloc (.cells #[.int .i64 71, .int .i64 72] 3)
    have HR1 := Lib.hid (hr1.alloc (.cells #[.int .i64 71, .int .i64 72] 3))
    clear hq1 hq2 hr1 ho C C0 hc k hDl hg D26 B26 HK26 T26 KW26
    gi_wp2_with fail
    have C : Calls Tryz.prog 16 #[.slice A1 2 c1, .slice (some ⟨w27.heap.size, 0, none⟩) 2 2] (w27.alloc (.cells #[.int .i64 71, .int .i64 72] 3)) (fun ev w' => ev = .returned (.bool true) ∧ ∃ n, w' = (w27.alloc (.cells #[.int .i64 71, .int .i64 72] 3)).drewN n) := sameInts_any A1 (some ⟨w27.heap.size, 0, none⟩) c1 2 [71, 72] [71, 72] _ HR1.out (RdI.new w27 .i64 3 [71, 72] (by decide))
    refine (callsIn_wide.2 C).mono ?_
    rintro ev w28 ⟨rfl, nn3, rfl⟩
    have kb := ka.drewN nn3
    have hDl : D < w27.heap.size := (Array.getElem?_eq_some_iff.1 HK27.out).1
    have HK28 := Lib.hid ((kb.block D hDl (fun f => f)).trans HK27.out)
    clear HR1 C
    generalize (w27.alloc (.cells #[.int .i64 71, .int .i64 72] 3)).drewN nn3 = w28 at *
    have D28 := Lib.hid (D27.out.none_kept kb)
    have B28 := Lib.hid (B27.out.kept kb (fun f => f))
    have KW28 := Lib.hid (KW27.out.trans' kb)
    clear ka kb hDl D27 B27 HK27 KW27
    gi_wp2_with fail
    have C : Calls Tryz.prog 14 #[.pointer (some ⟨gd, 0, none⟩)] w28 (fun ev w' => ev = .returned (.int .i64 0) ∧ w' = w28) := trows _ gd av5 w28 D28.out
    refine (callsIn_wide.2 C).mono ?_
    rintro ev w29 ⟨rfl, rfl⟩
    clear C
    have cb := B28.out.cell 0
    have fb := B28.out.frozen 0
    gi_wp2_with fail
    have hB9 : Boxed w29 rb 4 (.bool false) := B28.out
    have hK3 := (KeepsOthers.setCell w29 ⟨rb, 0, none⟩ (.bool true)).same D _ HK28.out rfl
    have hc0 := cell_kept ((hB9.set (.bool true))).cell (grownBy_putObj' _ D (.deferred none)) (fun r e => by cases e; exact ⟨_, hK3, rfl⟩)
    have KF := (KW28.out.setCell (p := ⟨rb, 0, none⟩) (.inr (by rw [← HRB.out]; exact Nat.le_refl _)) (.bool true)).grown (grownBy_putObj' _ D (.deferred none)) (fun q e => .inr (by
      have e : D = q := Option.some.inj e
      have h1 := HD.out.2
      have h2 := X814.out
      have h3 := S78.out
      have h4 := X70.out
      have h5 := K1.out.size
      omega))
    refine ⟨by simp, .inl ⟨_, _, rfl, run_takeDeferred hK3, ?_⟩⟩
    refine ⟨.bool true, results_cell_one rfl _ _ _ _ _ rfl ?_, rfl, KF⟩
    simp [go_sem, hc0]
  case stop =>
    rintro D c pre W _ _ h _
    exact h.elim
end Go.Proofs.YtgidjgkafbjkpaaGreatDoor
