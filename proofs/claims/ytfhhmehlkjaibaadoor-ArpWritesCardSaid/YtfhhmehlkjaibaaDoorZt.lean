/- Arp: plain facts: equality of the references' packets; a packet's bytes parsed; bytes parsed and written. -/
import Derived.Test.YtfhhmehlkjaibaaDoorZq
import Derived.Test.YtfhhmehlkjaibaaDoorZl
set_option linter.unusedVariables false
set_option linter.unusedSimpArgs false
namespace Go.Proofs.YtfhhmehlkjaibaaDoor
open Go.RowKit

theorem run_equalIn_mac40 (w : World) (d : Nat) (m n : Nat → Int) : (Op.equalIn (d + 2) 40 (.agg (mac m)) (.agg (mac n))).run Tryd.prog w = .ok (macEq m n) w := by
  have hsz : ∀ w, (sizeOf 5).run Tryd.prog w = .ok 1 w := fun w => by kernel_rfl
  have ht : Tryd.prog.underlying 40 = some (.array 6 5) := Tryd.underlying40
  have he : Tryd.prog.underlying 5 = some (.int .u8) := Tryd.underlying5
  unfold macEq
  rw [List.range_eq_range', Op.equalIn]
  simp only [Sem.run_bind, run_underlying ht, Result.andThen_ok, hsz, Std.Legacy.Range.forIn_eq_forIn_range', Std.Legacy.Range.size, Nat.sub_zero, Nat.add_sub_cancel, Nat.div_one]
  have hl : ∀ i ∈ List.range' 0 6 1, i < 6 := fun i hi => by simpa using (List.mem_range'_1.1 hi).2
  generalize List.range' 0 6 1 = l at hl ⊢
  induction l with
  | nil => simp
  | cons i l ih =>
    have hi : i < 6 := hl i (by simp)
    have hcell : ∀ (m : Nat → Int), (part 5 (mac m) (i * 1)).run Tryd.prog w = .ok (.int .u8 (m i)) w := fun m => by
      have h6 : i = 0 ∨ i = 1 ∨ i = 2 ∨ i = 3 ∨ i = 4 ∨ i = 5 := by omega
      rcases h6 with rfl | rfl | rfl | rfl | rfl | rfl <;> simp [part, isAgg, run_underlying he, mac]
    have pe : (Op.equalIn (d + 1) 5 (.int .u8 (m i)) (.int .u8 (n i))).run Tryd.prog w = .ok (m i == n i) w := by
      rw [run_equalIn_int w d 5 .u8 .u8 _ _ he]
    simp only [List.forIn_cons, Sem.run_bind, hcell m, hcell n, pe, Result.andThen_ok, List.all_cons]
    cases hb : (m i == n i)
    · simp
    · simp only [Bool.not_true, Bool.false_eq_true, if_false, Sem.run_pure, Result.andThen_ok, Bool.true_and]
      exact ih fun j hj => hl j (by simp [hj])
theorem fields48 : (Tryd.prog.fieldsOf 48).toList.map (fun f => (f.name, f.type, f.offset)) = [("Op", 3, 0), ("Mac", 40, 1), ("Ip", 42, 7), ("ToMac", 40, 8), ("ToIp", 42, 14)] := by kernel_rfl
set_option maxRecDepth 100000 in
theorem run_equalIn_pkt48 (w : World) (d : Nat) (a : Int) (m : Nat → Int) (ip : Nat) (t : Nat → Int) (tip : Nat) (a' : Int) (m' : Nat → Int) (ip' : Nat) (t' : Nat → Int) (tip' : Nat) :
    (Op.equalIn (d + 3) 48 (.agg (pkt a m ip t tip)) (.agg (pkt a' m' ip' t' tip'))).run Tryd.prog w = .ok (pktEq a m ip t tip a' m' ip' t' tip') w := by
  rw [run_equalIn_struct w (d + 2) 48 _ _ (by kernel_rfl) (by kernel_rfl)]
  have p0 : ∀ (a : Int) (m : Nat → Int) (ip : Nat) (t : Nat → Int) (tip : Nat) w, (part 3 (pkt a m ip t tip) 0).run Tryd.prog w = .ok (.int .i64 a) w := fun a m ip t tip w => by simp [part, isAgg, run_underlying Tryd.underlying3, pkt]
  have p1 : ∀ (a : Int) (m : Nat → Int) (ip : Nat) (t : Nat → Int) (tip : Nat) w, (part 40 (pkt a m ip t tip) 1).run Tryd.prog w = .ok (.agg (mac m)) w := fun a m ip t tip w => by kernel_rfl
  have p7 : ∀ (a : Int) (m : Nat → Int) (ip : Nat) (t : Nat → Int) (tip : Nat) w, (part 42 (pkt a m ip t tip) 7).run Tryd.prog w = .ok (.int .u32 ip) w := fun a m ip t tip w => by simp [part, isAgg, run_underlying Tryd.underlying42, pkt]
  have p8 : ∀ (a : Int) (m : Nat → Int) (ip : Nat) (t : Nat → Int) (tip : Nat) w, (part 40 (pkt a m ip t tip) 8).run Tryd.prog w = .ok (.agg (mac t)) w := fun a m ip t tip w => by kernel_rfl
  have p14 : ∀ (a : Int) (m : Nat → Int) (ip : Nat) (t : Nat → Int) (tip : Nat) w, (part 42 (pkt a m ip t tip) 14).run Tryd.prog w = .ok (.int .u32 tip) w := fun a m ip t tip w => by simp [part, isAgg, run_underlying Tryd.underlying42, pkt]
  have hf := fields48
  generalize (Tryd.prog.fieldsOf 48).toList = fs at hf
  have hlen : fs.length = 5 := by simpa using congrArg List.length hf
  obtain ⟨f0, f1, f2, f3, f4, rfl⟩ : ∃ f0 f1 f2 f3 f4, fs = [f0, f1, f2, f3, f4] := by
    match fs, hlen with
    | [a, b, c, d, e], _ => exact ⟨a, b, c, d, e, rfl⟩
  simp only [List.map_cons, List.map_nil, List.cons.injEq, Prod.mk.injEq, and_true] at hf
  obtain ⟨⟨n0, t0, o0⟩, ⟨n1, t1, o1⟩, ⟨n2, t2, o2⟩, ⟨n3, t3, o3⟩, ⟨n4, t4, o4⟩⟩ := hf
  simp only [Op.eqFields, n0, n1, n2, n3, n4, t0, t1, t2, t3, t4, o0, o1, o2, o3, o4, Sem.run_bind, Sem.run_ite, p0, p1, p7, p8, p14, Result.andThen_ok, run_equalIn_mac40 w d, run_equalIn_int w (d + 1) 3 .i64 .i64 _ _ Tryd.underlying3, run_equalIn_int w (d + 1) 42 .u32 .u32 _ _ Tryd.underlying42]
  unfold pktEq
  cases (a == a') <;> cases macEq m m' <;> cases ((ip : Int) == ip') <;> cases macEq t t' <;> cases ((tip : Int) == tip') <;> simp
theorem pbytes_list (op : Int) (m t : Nat → Int) (ip tip : Nat) : pbytes op m ip t tip = [0, 1, 8, 0, 6, 4, op % 65536 / 256, op % 65536 % 256, m 0, m 1, m 2, m 3, m 4, m 5, (ip : Int) / 16777216, (ip : Int) / 65536 % 256, (ip : Int) / 256 % 256, (ip : Int) % 256, t 0, t 1, t 2, t 3, t 4, t 5, (tip : Int) / 16777216, (tip : Int) / 65536 % 256, (tip : Int) / 256 % 256, (tip : Int) % 256] := rfl
theorem nat_pbytes (op : Int) (m t : Nat → Int) (ip tip : Nat) : nat (pbytes op m ip t tip) = fun j => (([0, 1, 8, 0, 6, 4, op % 65536 / 256, op % 65536 % 256, m 0, m 1, m 2, m 3, m 4, m 5, (ip : Int) / 16777216, (ip : Int) / 65536 % 256, (ip : Int) / 256 % 256, (ip : Int) % 256, t 0, t 1, t 2, t 3, t 4, t 5, (tip : Int) / 16777216, (tip : Int) / 65536 % 256, (tip : Int) / 256 % 256, (tip : Int) % 256] : List Int).getD j 0).toNat := rfl
theorem bad_pbytes {op : Int} {m t : Nat → Int} {ip tip : Nat} (h : op = 1 ∨ op = 2) : badOf (pbytes op m ip t tip) = false := by
  have e : n2 (nat (pbytes op m ip t tip)) 6 = op := by
    rw [nat_pbytes]
    unfold n2
    simp only [List.getD_cons_succ, List.getD_cons_zero]
    omega
  unfold badOf
  rw [e, show (pbytes op m ip t tip).take 6 = [0, 1, 8, 0, 6, 4] from rfl]
  rcases h with rfl | rfl <;> rfl
theorem getD_pbytes (op : Int) (m t : Nat → Int) (ip tip : Nat) : (pbytes op m ip t tip).getD 8 0 = m 0 := rfl
theorem pktOf_pbytes {op : Int} {m t : Nat → Int} {ip tip : Nat} (h : op = 1 ∨ op = 2) (hm : Oct m) (ht : Oct t) (hi : ip < 4294967296) (hj : tip < 4294967296) : pktOf (nat (pbytes op m ip t tip)) = pkt op m ip t tip := by
  rw [nat_pbytes]
  unfold pktOf
  have e0 : n2 (fun j => (([0, 1, 8, 0, 6, 4, op % 65536 / 256, op % 65536 % 256, m 0, m 1, m 2, m 3, m 4, m 5, (ip : Int) / 16777216, (ip : Int) / 65536 % 256, (ip : Int) / 256 % 256, (ip : Int) % 256, t 0, t 1, t 2, t 3, t 4, t 5, (tip : Int) / 16777216, (tip : Int) / 65536 % 256, (tip : Int) / 256 % 256, (tip : Int) % 256] : List Int).getD j 0).toNat) 6 = op := by
    unfold n2
    simp only [List.getD_cons_succ, List.getD_cons_zero]
    omega
  have e1 : n4 (fun j => (([0, 1, 8, 0, 6, 4, op % 65536 / 256, op % 65536 % 256, m 0, m 1, m 2, m 3, m 4, m 5, (ip : Int) / 16777216, (ip : Int) / 65536 % 256, (ip : Int) / 256 % 256, (ip : Int) % 256, t 0, t 1, t 2, t 3, t 4, t 5, (tip : Int) / 16777216, (tip : Int) / 65536 % 256, (tip : Int) / 256 % 256, (tip : Int) % 256] : List Int).getD j 0).toNat) 14 = ip := by
    unfold n4
    simp only [List.getD_cons_succ, List.getD_cons_zero]
    omega
  have e2 : n4 (fun j => (([0, 1, 8, 0, 6, 4, op % 65536 / 256, op % 65536 % 256, m 0, m 1, m 2, m 3, m 4, m 5, (ip : Int) / 16777216, (ip : Int) / 65536 % 256, (ip : Int) / 256 % 256, (ip : Int) % 256, t 0, t 1, t 2, t 3, t 4, t 5, (tip : Int) / 16777216, (tip : Int) / 65536 % 256, (tip : Int) / 256 % 256, (tip : Int) % 256] : List Int).getD j 0).toNat) 24 = tip := by
    unfold n4
    simp only [List.getD_cons_succ, List.getD_cons_zero]
    omega
  rw [e0, e1, e2]
  unfold pkt
  have a0 : ((m 0).toNat : Int) = m 0 := by have := hm 0; omega
  have b0 : ((t 0).toNat : Int) = t 0 := by have := ht 0; omega
  have a1 : ((m 1).toNat : Int) = m 1 := by have := hm 1; omega
  have b1 : ((t 1).toNat : Int) = t 1 := by have := ht 1; omega
  have a2 : ((m 2).toNat : Int) = m 2 := by have := hm 2; omega
  have b2 : ((t 2).toNat : Int) = t 2 := by have := ht 2; omega
  have a3 : ((m 3).toNat : Int) = m 3 := by have := hm 3; omega
  have b3 : ((t 3).toNat : Int) = t 3 := by have := ht 3; omega
  have a4 : ((m 4).toNat : Int) = m 4 := by have := hm 4; omega
  have b4 : ((t 4).toNat : Int) = t 4 := by have := ht 4; omega
  have a5 : ((m 5).toNat : Int) = m 5 := by have := hm 5; omega
  have b5 : ((t 5).toNat : Int) = t 5 := by have := ht 5; omega
  simp only [List.getD_cons_succ, List.getD_cons_zero, Nat.reduceAdd, a0, b0, a1, b1, a2, b2, a3, b3, a4, b4, a5, b5]
theorem take28 (xs : List Int) (h : 28 ≤ xs.length) : xs.take 28 = [xs.getD 0 0, xs.getD 1 0, xs.getD 2 0, xs.getD 3 0, xs.getD 4 0, xs.getD 5 0, xs.getD 6 0, xs.getD 7 0, xs.getD 8 0, xs.getD 9 0, xs.getD 10 0, xs.getD 11 0, xs.getD 12 0, xs.getD 13 0, xs.getD 14 0, xs.getD 15 0, xs.getD 16 0, xs.getD 17 0, xs.getD 18 0, xs.getD 19 0, xs.getD 20 0, xs.getD 21 0, xs.getD 22 0, xs.getD 23 0, xs.getD 24 0, xs.getD 25 0, xs.getD 26 0, xs.getD 27 0] := by
  rcases xs with _ | ⟨x0, xs⟩
  · exact absurd h (by simp)
  rcases xs with _ | ⟨x1, xs⟩
  · exact absurd h (by simp)
  rcases xs with _ | ⟨x2, xs⟩
  · exact absurd h (by simp)
  rcases xs with _ | ⟨x3, xs⟩
  · exact absurd h (by simp)
  rcases xs with _ | ⟨x4, xs⟩
  · exact absurd h (by simp)
  rcases xs with _ | ⟨x5, xs⟩
  · exact absurd h (by simp)
  rcases xs with _ | ⟨x6, xs⟩
  · exact absurd h (by simp)
  rcases xs with _ | ⟨x7, xs⟩
  · exact absurd h (by simp)
  rcases xs with _ | ⟨x8, xs⟩
  · exact absurd h (by simp)
  rcases xs with _ | ⟨x9, xs⟩
  · exact absurd h (by simp)
  rcases xs with _ | ⟨x10, xs⟩
  · exact absurd h (by simp)
  rcases xs with _ | ⟨x11, xs⟩
  · exact absurd h (by simp)
  rcases xs with _ | ⟨x12, xs⟩
  · exact absurd h (by simp)
  rcases xs with _ | ⟨x13, xs⟩
  · exact absurd h (by simp)
  rcases xs with _ | ⟨x14, xs⟩
  · exact absurd h (by simp)
  rcases xs with _ | ⟨x15, xs⟩
  · exact absurd h (by simp)
  rcases xs with _ | ⟨x16, xs⟩
  · exact absurd h (by simp)
  rcases xs with _ | ⟨x17, xs⟩
  · exact absurd h (by simp)
  rcases xs with _ | ⟨x18, xs⟩
  · exact absurd h (by simp)
  rcases xs with _ | ⟨x19, xs⟩
  · exact absurd h (by simp)
  rcases xs with _ | ⟨x20, xs⟩
  · exact absurd h (by simp)
  rcases xs with _ | ⟨x21, xs⟩
  · exact absurd h (by simp)
  rcases xs with _ | ⟨x22, xs⟩
  · exact absurd h (by simp)
  rcases xs with _ | ⟨x23, xs⟩
  · exact absurd h (by simp)
  rcases xs with _ | ⟨x24, xs⟩
  · exact absurd h (by simp)
  rcases xs with _ | ⟨x25, xs⟩
  · exact absurd h (by simp)
  rcases xs with _ | ⟨x26, xs⟩
  · exact absurd h (by simp)
  rcases xs with _ | ⟨x27, xs⟩
  · exact absurd h (by simp)
  rfl
theorem pbytes_pktOf (xs : List Int) (hb : Byt xs) (h : 28 ≤ xs.length) (he : badOf xs = false) :
    pbytes (n2 (nat xs) 6) (fun i => nat xs (8 + i)) (n4 (nat xs) 14) (fun i => nat xs (18 + i)) (n4 (nat xs) 24) = xs.take 28 := by
  have h6 : xs.take 6 = [0, 1, 8, 0, 6, 4] := by
    unfold badOf at he
    simp at he
    exact he.1
  have t6 := congrArg (List.take 6) (take28 xs h)
  rw [List.take_take, show min 6 28 = 6 from rfl, h6] at t6
  simp only [List.take_succ_cons, List.take_zero, List.cons.injEq, and_true] at t6
  obtain ⟨t0, t1, t2, t3, t4, t5⟩ := t6
  rw [take28 xs h, ← t0, ← t1, ← t2, ← t3, ← t4, ← t5, pbytes_list]
  have l6 := nat_lt hb 6
  rw [nat_val hb 6]
  have l7 := nat_lt hb 7
  rw [nat_val hb 7]
  have l8 := nat_lt hb 8
  rw [nat_val hb 8]
  have l9 := nat_lt hb 9
  rw [nat_val hb 9]
  have l10 := nat_lt hb 10
  rw [nat_val hb 10]
  have l11 := nat_lt hb 11
  rw [nat_val hb 11]
  have l12 := nat_lt hb 12
  rw [nat_val hb 12]
  have l13 := nat_lt hb 13
  rw [nat_val hb 13]
  have l14 := nat_lt hb 14
  rw [nat_val hb 14]
  have l15 := nat_lt hb 15
  rw [nat_val hb 15]
  have l16 := nat_lt hb 16
  rw [nat_val hb 16]
  have l17 := nat_lt hb 17
  rw [nat_val hb 17]
  have l18 := nat_lt hb 18
  rw [nat_val hb 18]
  have l19 := nat_lt hb 19
  rw [nat_val hb 19]
  have l20 := nat_lt hb 20
  rw [nat_val hb 20]
  have l21 := nat_lt hb 21
  rw [nat_val hb 21]
  have l22 := nat_lt hb 22
  rw [nat_val hb 22]
  have l23 := nat_lt hb 23
  rw [nat_val hb 23]
  have l24 := nat_lt hb 24
  rw [nat_val hb 24]
  have l25 := nat_lt hb 25
  rw [nat_val hb 25]
  have l26 := nat_lt hb 26
  rw [nat_val hb 26]
  have l27 := nat_lt hb 27
  rw [nat_val hb 27]
  unfold n2 n4
  simp only [Nat.reduceAdd, List.cons.injEq, true_and, and_true]
  repeat' apply And.intro
  all_goals omega
theorem run_neq_pkt48_refl (w : World) (a : Int) (m : Nat → Int) (ip : Nat) (t : Nat → Int) (tip : Nat) : (binOp .neq 48 (.agg (pkt a m ip t tip)) (.agg (pkt a m ip t tip))).run Tryd.prog w = .ok (.bool false) w := by
  rw [run_neq_struct, run_equalIn_pkt48 w 9997]
  simp [pktEq, macEq_refl]
theorem run_eql_pkt_refl (w : World) (a : Int) (m : Nat → Int) (ip : Nat) (t : Nat → Int) (tip : Nat) : (binOp .eql 44 (.agg (pkt a m ip t tip)) (.agg (pkt a m ip t tip))).run Tryd.prog w = .ok (.bool true) w := by
  rw [run_eql_pkt]
  simp [pktEq, macEq_refl]
/-- The reference's Parse where it is none. -/
theorem rparse_bad (b o c n : Nat) (xs : List Int) (w : World) (hx : RdI w .u8 (some ⟨b, o, none⟩) xs) (hb : Byt xs) (hn : xs.length = n) (h1 : 28 ≤ n) (h2 : n ≤ 100000) (hc : n ≤ c) (h : badOf xs = true) :
    Calls Tryd.prog 19 #[.slice (some ⟨b, o, none⟩) n c] w fun ev w' => ∃ A2 c2, ev = .returned (.tuple #[.agg (pkt 0 (fun _ => 0) 0 (fun _ => 0) 0), .agg #[.slice A2 1 c2, .int .i64 14]]) ∧ RdI w' .i64 A2 [16] ∧ 1 ≤ c2 ∧ Kp (fun _ => False) w w' := by
  by_cases hp : (xs.take 6 == [0, 1, 8, 0, 6, 4]) = true
  · by_cases h3 : n2 (nat xs) 6 < 1
    · exact rparse_bad2 b o c n xs w hx hb hn h1 h2 hc hp h3
    · by_cases h4 : 2 < n2 (nat xs) 6
      · exact rparse_bad3 b o c n xs w hx hb hn h1 h2 hc hp h3 h4
      · have h5 : n2 (nat xs) 6 = 1 ∨ n2 (nat xs) 6 = 2 := by omega
        unfold badOf at h
        rw [hp] at h
        rcases h5 with h5 | h5 <;> rw [h5] at h <;> cases h
  · exact rparse_bad1 b o c n xs w hx hb hn h1 h2 hc (by simpa using hp)
theorem good_of {xs : List Int} (h : badOf xs = false) : (xs.take 6 == [0, 1, 8, 0, 6, 4]) = true ∧ ¬ n2 (nat xs) 6 < 1 ∧ ¬ 2 < n2 (nat xs) 6 := by
  unfold badOf at h
  simp at h
  obtain ⟨h1, h2⟩ := h
  have h5 : n2 (nat xs) 6 = 1 ∨ n2 (nat xs) 6 = 2 := by
    by_cases h3 : n2 (nat xs) 6 = 1
    · exact .inl h3
    · exact .inr (h2 h3)
  refine ⟨by simp [h1], by omega, by omega⟩
end Go.Proofs.YtfhhmehlkjaibaaDoor
