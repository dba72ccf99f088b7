/- Floats by their bits: how the model orders them. Conditions: none. -/
import Derived.Test.YtlphhmgfjdecjaaAgoData
import Derived.Test.YtlphhmgfjdecjaaAgo30
set_option maxRecDepth 100000
set_option linter.unusedSimpArgs false
set_option linter.unusedVariables false
namespace Go.Ago
def fMag (b : Nat) : Nat := b % 9223372036854775808
def fNeg (b : Nat) : Bool := decide (9223372036854775808 ≤ b)
def fNaN (b : Nat) : Bool := decide (9218868437227405312 < fMag b)
def fKey (b : Nat) : Int := if fNeg b then -(fMag b : Int) else fMag b
def fRank (b : Nat) : Nat := if fNaN b then 0 else if fNeg b then 18446744073709551615 - b else b + 9223372036854775808

theorem f_sw : Ieee.double.signWeight = 9223372036854775808 := rfl
theorem f_bin : Ieee.double.binade = 4503599627370496 := rfl
theorem f_inf : Ieee.double.infRung = 9218868437227405312 := rfl
theorem f_neg {b : Nat} (hb : b < 18446744073709551616) : (b / 9223372036854775808 % 2 == 1) = fNeg b := by
  unfold fNeg
  by_cases h : 9223372036854775808 ≤ b
  · have : b / 9223372036854775808 = 1 := by omega
    simp [this, h]
  · have : b / 9223372036854775808 = 0 := by omega
    simp [this, h]

theorem read_num {b : Nat} (hb : b < 18446744073709551616) (hr : fMag b < 9218868437227405312) :
    ∃ m e : Nat, Ieee.double.read b = .number (fNeg b) m (Ieee.double.leastPlace + (e : Int)) ∧ fMag b = e * 4503599627370496 + m ∧ m < 9007199254740992 ∧ (e = 0 ∨ 4503599627370496 ≤ m) := by
  unfold Ieee.Format.read
  simp only [f_sw, f_bin, f_inf, f_neg hb]
  change fMag b < _ at hr
  unfold fMag at hr ⊢
  by_cases h : b % 9223372036854775808 < 4503599627370496
  · refine ⟨b % 9223372036854775808, 0, by simp [h], by omega, by omega, .inl rfl⟩
  · refine ⟨4503599627370496 + b % 9223372036854775808 % 4503599627370496, b % 9223372036854775808 / 4503599627370496 - 1, by rw [if_neg h, if_pos hr], by omega, by omega, .inr (by omega)⟩
theorem read_inf {b : Nat} (hb : b < 18446744073709551616) (hr : fMag b = 9218868437227405312) : Ieee.double.read b = .infinity (fNeg b) := by
  unfold Ieee.Format.read
  simp only [f_sw, f_bin, f_inf, f_neg hb]
  unfold fMag at hr
  rw [hr]; simp
theorem read_nan {b : Nat} (hb : b < 18446744073709551616) (hr : 9218868437227405312 < fMag b) : ∃ n, Ieee.double.read b = .nan (fNeg b) n := by
  unfold Ieee.Format.read
  simp only [f_sw, f_bin, f_inf, f_neg hb]
  unfold fMag at hr
  exact ⟨_, by rw [if_neg (by omega), if_neg (by omega), if_neg (by omega)]⟩

theorem cmp_lt {a b : Int} (h : a < b) : compare a b = .lt := by
  show compareOfLessAndEq a b = _
  unfold compareOfLessAndEq
  rw [if_pos h]
theorem cmp_gt {a b : Int} (h : b < a) : compare a b = .gt := by
  show compareOfLessAndEq a b = _
  unfold compareOfLessAndEq
  rw [if_neg (by omega), if_neg (by omega)]
theorem cmp_iff {a b c d : Int} (h1 : a < b ↔ c < d) (h2 : a = b ↔ c = d) : compare a b = compare c d := by
  show compareOfLessAndEq a b = compareOfLessAndEq c d
  unfold compareOfLessAndEq
  simp only [h1, h2]

/-- Two magnitudes, in one unit, stand as their rungs. -/
theorem mag_cmp {m e n j r s : Nat} (h1 : r = e * 4503599627370496 + m) (h2 : m < 9007199254740992) (h3 : e = 0 ∨ 4503599627370496 ≤ m)
    (g1 : s = j * 4503599627370496 + n) (g2 : n < 9007199254740992) (g3 : j = 0 ∨ 4503599627370496 ≤ n) :
    (m <<< (e - min e j) < n <<< (j - min e j) ↔ r < s) ∧ (m <<< (e - min e j) = n <<< (j - min e j) ↔ r = s) ∧ (m <<< (e - min e j) = 0 ↔ r = 0) ∧ (n <<< (j - min e j) = 0 ↔ s = 0) := by
  simp only [Nat.shiftLeft_eq]
  rcases Nat.lt_trichotomy e j with h | h | h
  · have e1 : e - min e j = 0 := by omega
    obtain ⟨k, hk⟩ : ∃ k, j - min e j = k + 1 := ⟨j - e - 1, by omega⟩
    rw [e1, hk, Nat.pow_succ]
    have hp : 0 < 2 ^ k := Nat.pos_of_ne_zero (by simp)
    have : n * (2 ^ k * 2) ≥ n * 2 := Nat.mul_le_mul_left n (by omega)
    simp only [Nat.pow_zero, Nat.mul_one]
    have : j ≥ e + 1 := h
    have : j * 4503599627370496 ≥ (e + 1) * 4503599627370496 := Nat.mul_le_mul_right _ h
    refine ⟨⟨fun _ => by omega, fun _ => by omega⟩, ⟨fun _ => by omega, fun _ => by omega⟩, ⟨fun _ => by omega, fun _ => by omega⟩, ⟨fun _ => by omega, fun _ => by omega⟩⟩
  · subst h
    simp only [Nat.min_self, Nat.sub_self, Nat.pow_zero, Nat.mul_one]
    refine ⟨⟨fun _ => by omega, fun _ => by omega⟩, ⟨fun _ => by omega, fun _ => by omega⟩, ⟨fun _ => by omega, fun _ => by omega⟩, ⟨fun _ => by omega, fun _ => by omega⟩⟩
  · have e1 : j - min e j = 0 := by omega
    obtain ⟨k, hk⟩ : ∃ k, e - min e j = k + 1 := ⟨e - j - 1, by omega⟩
    rw [e1, hk, Nat.pow_succ]
    have hp : 0 < 2 ^ k := Nat.pos_of_ne_zero (by simp)
    have : m * (2 ^ k * 2) ≥ m * 2 := Nat.mul_le_mul_left m (by omega)
    simp only [Nat.pow_zero, Nat.mul_one]
    have : e * 4503599627370496 ≥ (j + 1) * 4503599627370496 := Nat.mul_le_mul_right _ h
    refine ⟨⟨fun _ => by omega, fun _ => by omega⟩, ⟨fun _ => by omega, fun _ => by omega⟩, ⟨fun _ => by omega, fun _ => by omega⟩, ⟨fun _ => by omega, fun _ => by omega⟩⟩

theorem order_key {b c : Nat} (hb : b < 18446744073709551616) (hc : c < 18446744073709551616) :
    FloatKind.f64.format.order b c = if fNaN b || fNaN c then none else some (compare (fKey b) (fKey c)) := by
  show (Ieee.double.read b).order (Ieee.double.read c) = _
  by_cases nb : 9218868437227405312 < fMag b
  · obtain ⟨n, hn⟩ := read_nan hb nb
    rw [hn]; simp [fNaN, nb, Ieee.Datum.order]
  by_cases nc : 9218868437227405312 < fMag c
  · obtain ⟨n, hn⟩ := read_nan hc nc
    rw [hn]; simp only [fNaN, nc, decide_true, Bool.or_true, if_true]
    cases Ieee.double.read b <;> rfl
  simp only [fNaN, nb, nc, decide_false, Bool.or_self, Bool.false_eq_true, if_false]
  by_cases ib : fMag b = 9218868437227405312 <;> by_cases ic : fMag c = 9218868437227405312
  · rw [read_inf hb ib, read_inf hc ic]
    simp only [Ieee.Datum.order, fKey, ib, ic]
    cases fNeg b <;> cases fNeg c <;> rfl
  · obtain ⟨n, j, h, -⟩ := read_num hc (by omega)
    rw [read_inf hb ib, h]
    simp only [Ieee.Datum.order, fKey, ib]
    cases fNeg b <;> cases fNeg c <;> simp only [Bool.false_eq_true, if_true, if_false] <;> first | (rw [cmp_lt (by omega)]) | (rw [cmp_gt (by omega)])
  · obtain ⟨n, j, h, -⟩ := read_num hb (by omega)
    rw [read_inf hc ic, h]
    simp only [Ieee.Datum.order, fKey, ic]
    cases fNeg b <;> cases fNeg c <;> simp only [Bool.false_eq_true, if_true, if_false] <;> first | (rw [cmp_lt (by omega)]) | (rw [cmp_gt (by omega)])
  · obtain ⟨m, e, h, h1, h2, h3⟩ := read_num hb (by omega)
    obtain ⟨n, j, g, g1, g2, g3⟩ := read_num hc (by omega)
    rw [h, g]
    simp only [Ieee.Datum.order]
    congr 1
    have e1 : (Ieee.double.leastPlace + (e : Int) - min (Ieee.double.leastPlace + (e : Int)) (Ieee.double.leastPlace + (j : Int))).toNat = e - min e j := by omega
    have e2 : (Ieee.double.leastPlace + (j : Int) - min (Ieee.double.leastPlace + (e : Int)) (Ieee.double.leastPlace + (j : Int))).toNat = j - min e j := by omega
    rw [e1, e2]
    obtain ⟨k1, k2, k3, k4⟩ := mag_cmp h1 h2 h3 g1 g2 g3
    generalize hA : m <<< (e - min e j) = A at *
    generalize hC : n <<< (j - min e j) = C at *
    simp only [Ieee.signed, fKey, hA, hC]
    apply cmp_iff <;> cases fNeg b <;> cases fNeg c <;> simp only [Bool.false_eq_true, if_true, if_false] <;> omega

theorem ord_eq {b c : Nat} (hb : b < 18446744073709551616) (hc : c < 18446744073709551616) : (FloatKind.f64.format.order b c == some .eq) = (!fNaN b && !fNaN c && decide (fKey b = fKey c)) := by
  rw [order_key hb hc]
  cases fNaN b <;> cases fNaN c <;> simp
  rcases Int.lt_trichotomy (fKey b) (fKey c) with h | h | h
  · rw [cmp_lt h]; simp; omega
  · rw [h]; show (compareOfLessAndEq (fKey c) (fKey c) == .eq) = _; unfold compareOfLessAndEq; simp
  · rw [cmp_gt h]; simp; omega
theorem ord_ne {b c : Nat} (hb : b < 18446744073709551616) (hc : c < 18446744073709551616) : (FloatKind.f64.format.order b c != some .eq) = !(!fNaN b && !fNaN c && decide (fKey b = fKey c)) := by
  rw [bne, ord_eq hb hc]
theorem ord_lt {b c : Nat} (hb : b < 18446744073709551616) (hc : c < 18446744073709551616) : (FloatKind.f64.format.order b c == some .lt) = (!fNaN b && !fNaN c && decide (fKey b < fKey c)) := by
  rw [order_key hb hc]
  cases fNaN b <;> cases fNaN c <;> simp
  rcases Int.lt_trichotomy (fKey b) (fKey c) with h | h | h
  · rw [cmp_lt h]; simp; omega
  · rw [h]; show (compareOfLessAndEq (fKey c) (fKey c) == .lt) = _; unfold compareOfLessAndEq; simp
  · rw [cmp_gt h]; simp; omega

theorem bits_xorN (a b : Nat) (ha : a < 18446744073709551616) (hb : b < 18446744073709551616) : bits .xor .u64 a b = ((a ^^^ b : Nat) : Int) := by
  change IntKind.u64.wrap ((BitVec.ofInt 64 a ^^^ BitVec.ofInt 64 b).toNat) = _
  rw [BitVec.ofInt_natCast, BitVec.ofInt_natCast, BitVec.toNat_xor, BitVec.toNat_ofNat, BitVec.toNat_ofNat, Nat.mod_eq_of_lt ha, Nat.mod_eq_of_lt hb, IntKind.wrap_u64]
  have : a ^^^ b < 2 ^ 64 := Nat.xor_lt_two_pow ha hb
  omega
theorem bits_orN (a b : Nat) (ha : a < 18446744073709551616) (hb : b < 18446744073709551616) : bits .or .u64 a b = ((a ||| b : Nat) : Int) := by
  change IntKind.u64.wrap ((BitVec.ofInt 64 a ||| BitVec.ofInt 64 b).toNat) = _
  rw [BitVec.ofInt_natCast, BitVec.ofInt_natCast, BitVec.toNat_or, BitVec.toNat_ofNat, BitVec.toNat_ofNat, Nat.mod_eq_of_lt ha, Nat.mod_eq_of_lt hb, IntKind.wrap_u64]
  have : a ||| b < 2 ^ 64 := Nat.or_lt_two_pow ha hb
  omega
theorem bits_xor_max (b : Nat) (hb : b < 18446744073709551616) : bits .xor .u64 18446744073709551615 b = ((18446744073709551615 - b : Nat) : Int) := by
  change IntKind.u64.wrap ((BitVec.allOnes 64 ^^^ BitVec.ofInt 64 b).toNat) = _
  rw [BitVec.allOnes_xor, BitVec.toNat_not, BitVec.ofInt_natCast, BitVec.toNat_ofNat, IntKind.wrap_u64]
  omega
theorem xor_top (b : Nat) (hb : b < 18446744073709551616) : b ^^^ 9223372036854775808 = if b < 9223372036854775808 then b + 9223372036854775808 else b - 9223372036854775808 := by
  have h0 : (9223372036854775808 : Nat) = 2 ^ 63 * 1 + 0 := rfl
  have key : ∀ m : Nat, m < 9223372036854775808 → (m ^^^ 9223372036854775808 = m + 9223372036854775808) := fun m hm => by
    apply Nat.eq_of_testBit_eq
    intro i
    rw [Nat.testBit_xor, show m + 9223372036854775808 = 2 ^ 63 + m by omega, show (9223372036854775808 : Nat) = 2 ^ 63 from rfl, Nat.testBit_two_pow]
    by_cases hi : 63 = i
    · subst hi
      rw [Nat.testBit_two_pow_add_eq, Nat.testBit_lt_two_pow hm]; simp
    · by_cases h2 : i < 63
      · rw [Nat.testBit_two_pow_add_gt h2]; simp [hi]
      · have e1 : m.testBit i = false := Nat.testBit_lt_two_pow (Nat.lt_of_lt_of_le hm (Nat.pow_le_pow_right (n := 2) (by decide) (by omega : 63 ≤ i)))
        have e2 : (2 ^ 63 + m).testBit i = false := Nat.testBit_lt_two_pow (Nat.lt_of_lt_of_le (by omega : 2 ^ 63 + m < 2 ^ 64) (Nat.pow_le_pow_right (n := 2) (by decide) (by omega : 64 ≤ i)))
        rw [e1, e2]; simp [hi]
  split
  · rename_i h; exact key b h
  · rename_i h
    have := key (b - 9223372036854775808) (by omega)
    rw [show b - 9223372036854775808 + 9223372036854775808 = b by omega] at this
    have e : (b - 9223372036854775808 ^^^ 9223372036854775808) ^^^ 9223372036854775808 = b ^^^ 9223372036854775808 := by rw [this]
    rw [← e, Nat.xor_assoc, Nat.xor_self, Nat.xor_zero]
theorem bits_xor_top (b : Nat) (hb : b < 18446744073709551616) : bits .xor .u64 b 9223372036854775808 = ((if b < 9223372036854775808 then b + 9223372036854775808 else b - 9223372036854775808 : Nat) : Int) := by
  rw [← xor_top b hb]; exact bits_xorN b 9223372036854775808 hb (by omega)
theorem bits_or_top (b : Nat) (hb : b < 9223372036854775808) : bits .or .u64 b 9223372036854775808 = ((b + 9223372036854775808 : Nat) : Int) := by
  have h := bits_orN b 9223372036854775808 (by omega) (by omega)
  have e : b ||| 9223372036854775808 = b + 9223372036854775808 := by
    have h3 : 9223372036854775808 + b = 9223372036854775808 ||| b := Nat.two_pow_add_eq_or_of_lt (i := 63) (b := b) hb 1
    rw [Nat.or_comm, ← h3]; omega
  rw [e] at h; exact h

def rowF (b : Nat) : List DV := [.flt .f64 b]
theorem rowF_inj (x y : Nat) (h : rowF x = rowF y) : x = y := by simpa [rowF] using h
theorem rowF_len {x : Nat} : (rowF x).length = 1 := rfl
theorem getF {x : Nat} : (rowF x).getD 0 DV.nilp = .flt .f64 x := rfl
theorem loadF {x : Nat} : loadDT false 1 0 (rowF x) = .d (.flt .f64 x) := rfl
theorem idx_F {l : List Nat} {full : Bool} {kd : IntKind} {n : Int} {k : Delta → Prop} : stepK (evIdxAddr 1 (.d (.list (l.map rowF) full)) (.d (.int kd n))) k ↔ (0 ≤ n ∧ n < l.length) ∧ k ⟨.dptr (rowF (l.getD n.toNat default)) 0, [], []⟩ := stepK_idx_map (fun _ => rfl)
theorem app_rowF {l : List Nat} {x : Nat} : l.map rowF ++ [[.flt .f64 x]] = (l ++ [x]).map rowF := by simp [rowF]
theorem one_rowF {x : Nat} : [[DV.flt .f64 x]] = [x].map rowF := rfl
theorem scal_rowF {l : List Nat} : (∀ r ∈ l.map rowF, ∀ x ∈ r, DV.scal x = true) ↔ True := ⟨fun _ => trivial, fun _ r hr x hx => by
  obtain ⟨n, _, rfl⟩ := List.mem_map.1 hr; simp [rowF] at hx; subst hx; rfl⟩
theorem lens_F {l : List Nat} : (∀ r ∈ l.map rowF, r.length = 1) ↔ True := ⟨fun _ => trivial, fun _ => rows_len (f := rowF) (fun _ => rfl) l⟩
theorem lensA_F {l : List Nat} : (∀ r ∈ List.map (fun x => List.map AV.d x) (l.map rowF), r.length = 1) ↔ True := ⟨fun _ => trivial, fun _ r hr => by
  obtain ⟨x, hx, rfl⟩ := List.mem_map.1 hr
  simpa using rows_len (f := rowF) (sz := 1) (fun _ => rfl) l x hx⟩
theorem scal_flt {k : FloatKind} {b : Nat} : DV.scal (.flt k b) = true := rfl
end Go.Ago
