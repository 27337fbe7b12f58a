/- Place: the plain law of subnets, in whole numbers. -/
namespace Go.Proofs.YtkafdpidhelfdaaDoor

/-- Are the bits bounded? -/
def bnd (b : Int) : Bool := decide (8 ≤ b) && decide (b ≤ 30)
/-- How many Ips a subnet has. -/
def nsz (b : Int) : Nat := 2 ^ (32 - b.toNat)
theorem bnd_nsz {b : Int} (h : bnd b = true) : ∃ s : Nat, 2 ≤ s ∧ s ≤ 24 ∧ b = 32 - (s : Int) ∧ nsz b = 2 ^ s := by
  unfold bnd at h
  simp only [Bool.and_eq_true, decide_eq_true_eq] at h
  refine ⟨32 - b.toNat, by omega, by omega, by omega, rfl⟩
def nmask (b : Int) : Nat := if bnd b then 4294967296 - nsz b else 0
def nbase (ip : Nat) (b : Int) : Nat := if bnd b then ip / nsz b * nsz b else 0
def nlast (ip : Nat) (b : Int) : Nat := if bnd b then ip / nsz b * nsz b + nsz b - 1 else 0
def nhas (ip : Nat) (b : Int) (x : Nat) : Bool := bnd b && decide (x / nsz b = ip / nsz b)
def nhost (ip : Nat) (b : Int) (x : Nat) : Bool := nhas ip b x && decide (x ≠ nbase ip b) && decide (x ≠ nlast ip b)
def single (ip : Nat) : Bool := decide (1 ≤ ip / 16777216) && decide (ip / 16777216 ≤ 223) && decide (ip / 16777216 ≠ 127)
def nright (ip : Nat) (b : Int) : Bool := nhost ip b ip && single ip
def napart (i : Nat) (a : Int) (j : Nat) (b : Int) : Bool := nright i a && nright j b && !nhas i a (nbase j b) && !nhas j b (nbase i a)
theorem nsz_pos (b : Int) : 0 < nsz b := Nat.pow_pos (by omega)
theorem pow_le32 {s : Nat} (h : s ≤ 32) : 2 ^ s ≤ 4294967296 := by
  have := Nat.pow_le_pow_right (n := 2) (by omega) h
  simpa using this
/-- x & mask. -/
theorem and_mask {x s : Nat} (hx : x < 4294967296) (hs : s ≤ 32) : x &&& (4294967296 - 2 ^ s) = x / 2 ^ s * 2 ^ s := by
  have e : 4294967296 - 2 ^ s = (2 ^ (32 - s) - 1) * 2 ^ s := by
    rw [Nat.sub_mul, ← Nat.pow_add, show 32 - s + s = 32 by omega]; simp
  apply Nat.eq_of_testBit_eq
  intro i
  rw [e, Nat.testBit_and, Nat.testBit_mul_two_pow, Nat.testBit_mul_two_pow, Nat.testBit_two_pow_sub_one, ← Nat.shiftRight_eq_div_pow, Nat.testBit_shiftRight]
  by_cases h : s ≤ i
  · simp only [h, decide_true, Bool.true_and]
    rw [show s + (i - s) = i by omega]
    by_cases h2 : i < 32
    · simp [show i - s < 32 - s by omega]
    · have : x.testBit i = false := Nat.testBit_lt_two_pow (Nat.lt_of_lt_of_le hx (by
        have := Nat.pow_le_pow_right (n := 2) (by omega) (show 32 ≤ i by omega)
        simpa using this))
      simp [this]
  · simp [h]
/-- x | the rest of the mask. -/
theorem or_rest (x s : Nat) : x ||| (2 ^ s - 1) = x / 2 ^ s * 2 ^ s + 2 ^ s - 1 := by
  have hp : 0 < 2 ^ s := Nat.pow_pos (by omega)
  have e : x / 2 ^ s * 2 ^ s + 2 ^ s - 1 = 2 ^ s * (x / 2 ^ s) + (2 ^ s - 1) := by rw [Nat.mul_comm]; omega
  rw [e]
  apply Nat.eq_of_testBit_eq
  intro i
  rw [Nat.testBit_or, Nat.testBit_two_pow_sub_one, Nat.testBit_two_pow_mul_add _ (by omega), Nat.testBit_two_pow_sub_one]
  by_cases h : i < s
  · simp [h]
  · simp only [h, decide_false, Bool.or_false, if_false]
    rw [← Nat.shiftRight_eq_div_pow, Nat.testBit_shiftRight, show s + (i - s) = i by omega]
theorem div_mul_div {x n : Nat} (h : 0 < n) : x / n * n / n = x / n := Nat.mul_div_cancel _ h
theorem base_div (ip : Nat) {b : Int} (h : bnd b = true) : nbase ip b / nsz b = ip / nsz b := by unfold nbase; rw [if_pos h]; exact div_mul_div (nsz_pos b)
theorem last_div (ip : Nat) {b : Int} (h : bnd b = true) : nlast ip b / nsz b = ip / nsz b := by
  unfold nlast
  rw [if_pos h]
  have hp := nsz_pos b
  rw [show ip / nsz b * nsz b + nsz b - 1 = nsz b - 1 + ip / nsz b * nsz b by omega, Nat.add_mul_div_right _ _ hp, Nat.div_eq_of_lt (by omega)]
  omega
/-- Of the subnet: just between its base and its last. -/
theorem has_iff {ip x : Nat} {b : Int} (h : bnd b = true) : x / nsz b = ip / nsz b ↔ nbase ip b ≤ x ∧ x ≤ nlast ip b := by
  have hp := nsz_pos b
  unfold nbase nlast
  rw [if_pos h, if_pos h]
  generalize nsz b = n at *
  have e := Nat.div_add_mod x n
  have l := Nat.mod_lt x hp
  rw [Nat.mul_comm] at e
  constructor
  · intro hh
    rw [hh] at e
    omega
  · rintro ⟨h1, h2⟩
    rw [Nat.div_eq_iff hp]
    omega
theorem nhas_iff {ip x : Nat} {b : Int} : nhas ip b x = true ↔ bnd b = true ∧ nbase ip b ≤ x ∧ x ≤ nlast ip b := by
  unfold nhas
  rw [Bool.and_eq_true, decide_eq_true_eq]
  exact ⟨fun ⟨h1, h2⟩ => ⟨h1, (has_iff h1).1 h2⟩, fun ⟨h1, h2⟩ => ⟨h1, (has_iff h1).2 h2⟩⟩
theorem base_le_last {ip : Nat} {b : Int} (h : bnd b = true) : nbase ip b ≤ nlast ip b := by
  unfold nbase nlast
  rw [if_pos h, if_pos h]
  have := nsz_pos b
  omega
theorem nright_bnd {ip : Nat} {b : Int} (h : nright ip b = true) : bnd b = true := by
  unfold nright nhost at h
  simp only [Bool.and_eq_true] at h
  exact (nhas_iff.1 h.1.1.1).1
/-- Two that have something in common: one's base is of the other. -/
theorem meet {i j x : Nat} {a b : Int} (h1 : nhas i a x = true) (h2 : nhas j b x = true) : nhas i a (nbase j b) = true ∨ nhas j b (nbase i a) = true := by
  obtain ⟨p1, p2, p3⟩ := nhas_iff.1 h1
  obtain ⟨q1, q2, q3⟩ := nhas_iff.1 h2
  rcases Nat.le_total (nbase i a) (nbase j b) with h | h
  · exact .inl (nhas_iff.2 ⟨p1, h, by omega⟩)
  · exact .inr (nhas_iff.2 ⟨q1, h, by omega⟩)
theorem napart_iff {i j : Nat} {a b : Int} : napart i a j b = true ↔ nright i a = true ∧ nright j b = true ∧ nhas i a (nbase j b) = false ∧ nhas j b (nbase i a) = false := by
  unfold napart
  simp only [Bool.and_eq_true, Bool.not_eq_true']
  exact ⟨fun ⟨⟨⟨h1, h2⟩, h3⟩, h4⟩ => ⟨h1, h2, h3, h4⟩, fun ⟨h1, h2, h3, h4⟩ => ⟨⟨⟨h1, h2⟩, h3⟩, h4⟩⟩
theorem napart_comm (i : Nat) (a : Int) (j : Nat) (b : Int) : napart i a j b = napart j b i a := by
  rw [Bool.eq_iff_iff, napart_iff, napart_iff]
  exact ⟨fun ⟨h1, h2, h3, h4⟩ => ⟨h2, h1, h4, h3⟩, fun ⟨h1, h2, h3, h4⟩ => ⟨h2, h1, h4, h3⟩⟩
/-- Apart: nothing in common. -/
theorem napart_none {i j x : Nat} {a b : Int} (h : napart i a j b = true) : ¬ (nhas i a x = true ∧ nhas j b x = true) := by
  rintro ⟨h1, h2⟩
  obtain ⟨_, _, h3, h4⟩ := napart_iff.1 h
  rcases meet h1 h2 with h5 | h5
  · rw [h3] at h5; cases h5
  · rw [h4] at h5; cases h5
/-- The document's apart: one ends ahead of the other. -/
theorem napart_ref {i j : Nat} {a b : Int} (h1 : nright i a = true) (h2 : nright j b = true) : napart i a j b = (decide (nlast i a < nbase j b) || decide (nlast j b < nbase i a)) := by
  have b1 := nright_bnd h1
  have b2 := nright_bnd h2
  have l1 := base_le_last (ip := i) b1
  have l2 := base_le_last (ip := j) b2
  rw [Bool.eq_iff_iff, napart_iff, Bool.or_eq_true, decide_eq_true_eq, decide_eq_true_eq, ← Bool.not_eq_true, ← Bool.not_eq_true, nhas_iff, nhas_iff]
  constructor
  · rintro ⟨_, _, h3, h4⟩
    apply Classical.byContradiction
    intro hh
    rcases Nat.le_total (nbase i a) (nbase j b) with h | h
    · exact h3 ⟨b1, h, by omega⟩
    · exact h4 ⟨b2, h, by omega⟩
  · intro hh
    exact ⟨h1, h2, fun ⟨_, q1, q2⟩ => by omega, fun ⟨_, q1, q2⟩ => by omega⟩
theorem self_has {ip : Nat} {b : Int} (h : bnd b = true) : nhas ip b ip = true := by unfold nhas; simp [h]
theorem base_has {ip : Nat} {b : Int} (h : bnd b = true) : nhas ip b (nbase ip b) = true := nhas_iff.2 ⟨h, Nat.le_refl _, base_le_last h⟩
theorem last_has {ip : Nat} {b : Int} (h : bnd b = true) : nhas ip b (nlast ip b) = true := nhas_iff.2 ⟨h, base_le_last h, Nat.le_refl _⟩
theorem base_host (ip : Nat) (b : Int) : nhost ip b (nbase ip b) = false := by unfold nhost; simp
theorem last_host (ip : Nat) (b : Int) : nhost ip b (nlast ip b) = false := by unfold nhost; simp
theorem nright_host {ip : Nat} {b : Int} (h : nright ip b = true) : nhost ip b ip = true := by
  unfold nright at h
  rw [Bool.and_eq_true] at h
  exact h.1
/-- Sizes of a subnet with more bits. -/
theorem nsz_more {b c : Int} (hb : bnd b = true) (hc : bnd c = true) (h : b ≤ c) : ∃ m, 0 < m ∧ nsz b = nsz c * m := by
  obtain ⟨s, h1, h2, rfl, e1⟩ := bnd_nsz hb
  obtain ⟨t, h3, h4, rfl, e2⟩ := bnd_nsz hc
  refine ⟨2 ^ (s - t), Nat.pow_pos (by omega), ?_⟩
  rw [e1, e2, ← Nat.pow_add, show t + (s - t) = s by omega]
theorem has_more {ip x : Nat} {b c : Int} (hb : bnd b = true) (h : b ≤ c) (hx : nhas ip c x = true) : nhas ip b x = true := by
  have hc := (nhas_iff.1 hx).1
  obtain ⟨m, hm, e⟩ := nsz_more hb hc h
  unfold nhas at hx ⊢
  simp only [Bool.and_eq_true, decide_eq_true_eq] at hx ⊢
  refine ⟨hb, ?_⟩
  rw [e, ← Nat.div_div_eq_div_mul, ← Nat.div_div_eq_div_mul, hx.2]
theorem base_more {ip : Nat} {b c : Int} (hb : bnd b = true) (hc : bnd c = true) (h : b ≤ c) : nbase ip b ≤ nbase ip c := (nhas_iff.1 (has_more hb h (base_has (ip := ip) hc))).2.1
theorem last_more {ip : Nat} {b c : Int} (hb : bnd b = true) (hc : bnd c = true) (h : b ≤ c) : nlast ip c ≤ nlast ip b := (nhas_iff.1 (has_more hb h (last_has (ip := ip) hc))).2.2
theorem mask_more {b c : Int} (hb : bnd b = true) (hc : bnd c = true) (h : b ≤ c) : nmask c &&& nmask b = nmask b := by
  unfold nmask
  rw [if_pos hb, if_pos hc]
  obtain ⟨s, h1, h2, rfl, e1⟩ := bnd_nsz hb
  obtain ⟨t, h3, h4, rfl, e2⟩ := bnd_nsz hc
  rw [e1, e2]
  have hts : t ≤ s := by omega
  have p1 : 2 ^ t ≤ 2 ^ s := Nat.pow_le_pow_right (by omega) hts
  have p2 : 2 ^ s ≤ 4294967296 := pow_le32 (by omega)
  have p3 : 0 < 2 ^ t := Nat.pow_pos (by omega)
  have p4 : 0 < 2 ^ s := Nat.pow_pos (by omega)
  rw [and_mask (by omega) (by omega)]
  have e : 4294967296 = 2 ^ (32 - s) * 2 ^ s := by rw [← Nat.pow_add, show 32 - s + s = 32 by omega]
  have p5 : 0 < 2 ^ (32 - s) := Nat.pow_pos (by omega)
  generalize 2 ^ (32 - s) = q at *
  generalize 2 ^ s = n at *
  generalize 2 ^ t = m at *
  have hq : (4294967296 - m) / n = q - 1 := by
    rw [Nat.div_eq_iff p4, e, Nat.sub_mul]
    omega
  rw [hq, e, Nat.sub_mul]
  omega
theorem apart_more {ip j : Nat} {b c d : Int} (hm : nright ip c = true) (h : b ≤ c) (ha : napart ip b j d = true) : napart ip c j d = true := by
  obtain ⟨h1, h2, h3, h4⟩ := napart_iff.1 ha
  have hb := nright_bnd h1
  have hc := nright_bnd hm
  have hd := nright_bnd h2
  refine napart_iff.2 ⟨hm, h2, ?_, ?_⟩
  · rw [← Bool.not_eq_true]
    intro hh
    have := has_more hb h hh
    rw [h3] at this; cases this
  · rw [← Bool.not_eq_true]
    intro hh
    exact napart_none ha ⟨has_more hb h (base_has (ip := ip) hc), hh⟩
theorem nlast_lt {ip : Nat} {b : Int} (hip : ip < 4294967296) : nlast ip b < 4294967296 := by
  unfold nlast
  split
  · rename_i hb
    obtain ⟨s, h1, h2, rfl, e1⟩ := bnd_nsz hb
    rw [e1]
    have e : 4294967296 = 2 ^ (32 - s) * 2 ^ s := by rw [← Nat.pow_add, show 32 - s + s = 32 by omega]
    have p4 : 0 < 2 ^ s := Nat.pow_pos (by omega)
    have : ip / 2 ^ s < 2 ^ (32 - s) := by rw [Nat.div_lt_iff_lt_mul p4, ← e]; exact hip
    have h5 : (ip / 2 ^ s + 1) * 2 ^ s ≤ 2 ^ (32 - s) * 2 ^ s := Nat.mul_le_mul_right _ this
    rw [Nat.add_mul, ← e] at h5
    omega
  · omega
theorem nbase_le (ip : Nat) (b : Int) : nbase ip b ≤ ip := by
  unfold nbase
  split
  · exact Nat.div_mul_le_self ..
  · omega
theorem last_base {ip : Nat} {b : Int} (h : bnd b = true) : nlast ip b - nbase ip b = nsz b - 1 := by
  unfold nbase nlast
  rw [if_pos h, if_pos h]
  have := nsz_pos b
  omega
end Go.Proofs.YtkafdpidhelfdaaDoor
