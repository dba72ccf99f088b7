/- Whole numbers as floats, and their quotients. Conditions: none. -/
import Derived.Test.YtlphhmgfjdecjaaAgoWeight
set_option maxRecDepth 100000
set_option linter.unusedSimpArgs false
set_option linter.unusedVariables false
namespace Go.Ago

theorem word_facts (neg : Bool) {r : Nat} (h : r ≤ 9218868437227405312) : f64 (Ieee.double.word neg r) ∧ fMag (Ieee.double.word neg r) = r ∧ fNeg (Ieee.double.word neg r) = neg ∧ fNaN (Ieee.double.word neg r) = false := by
  have e : Ieee.double.word neg r = if neg then 9223372036854775808 + r else r := rfl
  rw [e]
  cases neg
  · simp only [Bool.false_eq_true, if_false]
    refine ⟨by show r < 18446744073709551616; omega, by unfold fMag; omega, by unfold fNeg; exact decide_eq_false (by omega), by unfold fNaN fMag; exact decide_eq_false (by omega)⟩
  · simp only [if_true]
    refine ⟨by show 9223372036854775808 + r < 18446744073709551616; omega, by unfold fMag; omega, by unfold fNeg; exact decide_eq_true (by omega), by unfold fNaN fMag; exact decide_eq_false (by omega)⟩

theorem nearest_fin (neg : Bool) (mag : Nat) (place : Int) : ∃ r, r ≤ 9218868437227405312 ∧ Ieee.double.nearest neg mag place = Ieee.double.word neg r := by
  unfold Ieee.Format.nearest
  by_cases h : mag = 0
  · rw [if_pos h]; exact ⟨0, by omega, rfl⟩
  · rw [if_neg h]; exact ⟨_, Nat.min_le_right _ _, rfl⟩

theorem cut_le (neg : Bool) (n drop : Nat) : Ieee.Toward.cut .even neg n drop ≤ n / (1 <<< min drop (n.log2 + 2)) + 1 := by
  unfold Ieee.Toward.cut
  simp only
  refine Nat.add_le_add_left ?_ _
  exact Bool.toNat_le _

theorem near_word (neg : Bool) (mag : Nat) (h0 : mag ≠ 0) (h1 : mag < 18446744073709551616) : ∃ r, Ieee.double.nearest neg mag 0 = Ieee.double.word neg r ∧ 0 < r ∧ r < 9218868437227405312 := by
  have hk : mag.log2 < 64 := (Nat.log2_lt h0).2 h1
  have hm : mag < 2 ^ (mag.log2 + 1) := Nat.lt_log2_self
  unfold Ieee.Format.nearest
  rw [if_neg h0]
  have hlast : max ((0 : Int) + (mag.log2 : Int) - (Ieee.double.fractionBits : Int)) Ieee.double.leastPlace = (mag.log2 : Int) - 52 := by
    have e1 : Ieee.double.leastPlace = -1074 := by decide
    have e2 : (Ieee.double.fractionBits : Int) = 52 := rfl
    rw [e1, e2]; omega
  simp only [hlast]
  have e3 : ((mag.log2 : Int) - 52 - Ieee.double.leastPlace).toNat = mag.log2 + 1022 := by
    have e1 : Ieee.double.leastPlace = -1074 := by decide
    rw [e1]; omega
  have e4 : ((0 : Int) - ((mag.log2 : Int) - 52)).toNat = 52 - mag.log2 := by omega
  have e5 : (((mag.log2 : Int) - 52) - 0).toNat = mag.log2 - 52 := by omega
  simp only [e3, e4, e5, f_bin, f_inf]
  have hc := cut_le neg (mag <<< (52 - mag.log2)) (mag.log2 - 52)
  have hb : (mag <<< (52 - mag.log2)) / (1 <<< min (mag.log2 - 52) ((mag <<< (52 - mag.log2)).log2 + 2)) < 9007199254740992 := by
    by_cases h52 : mag.log2 ≤ 52
    · have : mag.log2 - 52 = 0 := by omega
      rw [this, Nat.zero_min]
      simp only [Nat.shiftLeft_eq, Nat.pow_zero, Nat.mul_one, Nat.div_one]
      calc mag * 2 ^ (52 - mag.log2) < 2 ^ (mag.log2 + 1) * 2 ^ (52 - mag.log2) := Nat.mul_lt_mul_of_pos_right hm (Nat.pos_of_ne_zero (by simp))
        _ = 2 ^ (mag.log2 + 1 + (52 - mag.log2)) := (Nat.pow_add ..).symm
        _ = 9007199254740992 := by rw [show mag.log2 + 1 + (52 - mag.log2) = 53 by omega]
    · have : 52 - mag.log2 = 0 := by omega
      rw [this, Nat.shiftLeft_zero, Nat.min_eq_left (by omega), Nat.one_shiftLeft]
      refine Nat.div_lt_of_lt_mul ?_
      calc mag < 2 ^ (mag.log2 + 1) := hm
        _ = 2 ^ ((mag.log2 - 52) + 53) := by rw [show (mag.log2 - 52) + 53 = mag.log2 + 1 by omega]
        _ = 2 ^ (mag.log2 - 52) * 9007199254740992 := by rw [Nat.pow_add]
  generalize Ieee.Toward.cut .even neg (mag <<< (52 - mag.log2)) (mag.log2 - 52) = kept at *
  refine ⟨_, rfl, ?_, ?_⟩
  · rw [Nat.min_eq_left (by omega)]; omega
  · rw [Nat.min_eq_left (by omega)]; omega

/-- A whole number as a float: its parts. -/
theorem near_num (n : Int) (h : inI n) : ∃ m e : Nat, Ieee.double.read (FloatKind.f64.nearest n) = .number (decide (n < 0)) m (Ieee.double.leastPlace + (e : Int)) ∧ (m = 0 ↔ n = 0) := by
  obtain ⟨h1, h2⟩ := h
  have e : FloatKind.f64.nearest n = Ieee.double.nearest (decide (n < 0)) n.natAbs 0 := rfl
  rw [e]
  by_cases h0 : n = 0
  · subst h0
    refine ⟨0, 0, by decide, by simp⟩
  · obtain ⟨r, e1, r0, r1⟩ := near_word (decide (n < 0)) n.natAbs (by omega) (by omega)
    rw [e1]
    obtain ⟨w1, w2, w3, w4⟩ := word_facts (decide (n < 0)) (r := r) (by omega)
    obtain ⟨m, e, h3, h4, h5, h6⟩ := read_num w1 (by rw [w2]; exact r1)
    rw [w3] at h3
    refine ⟨m, e, h3, ?_⟩
    rw [w2] at h4
    constructor
    · intro hm; omega
    · intro hn; exact absurd hn h0

theorem fOf_zero (u : Int) (hu : inI u) (h : u ≠ 0) : fOf u 0 = some (fInf u) := by
  obtain ⟨m, e, h1, h2⟩ := near_num u hu
  obtain ⟨n, j, h3, h4⟩ := near_num 0 ⟨by omega, by omega⟩
  have hn : n = 0 := h4.2 rfl
  have hm : m ≠ 0 := fun e => h (h2.1 e)
  subst hn
  unfold fOf
  show ((Ieee.double.read _).quotient _ (Ieee.double.read _)).map Ieee.double.write = _
  rw [h1, h3]
  simp only [Ieee.Datum.quotient, if_true, if_neg hm, Option.map_some]
  congr 1
  by_cases hs : u < 0
  · have : fInf u = 18442240474082181120 := by unfold fInf; rw [if_neg (by omega)]
    rw [this]
    simp only [hs, decide_true]
    decide
  · have : fInf u = 9218868437227405312 := by unfold fInf; rw [if_pos (by omega)]
    rw [this]
    simp only [hs, decide_false]
    decide

theorem fOf_some (u l : Int) (hu : inI u) (hl : inI l) (h : l ≠ 0) : ∃ r, fOf u l = some r ∧ f64 r ∧ fNaN r = false := by
  obtain ⟨m, e, h1, h2⟩ := near_num u hu
  obtain ⟨n, j, h3, h4⟩ := near_num l hl
  have hn : n ≠ 0 := fun e => h (h4.1 e)
  unfold fOf
  show ∃ r, ((Ieee.double.read _).quotient _ (Ieee.double.read _)).map Ieee.double.write = _ ∧ _
  rw [h1, h3]
  simp only [Ieee.Datum.quotient, if_neg hn, Option.map_some]
  refine ⟨_, rfl, ?_⟩
  simp only [Ieee.Format.write]
  obtain ⟨r, hr, e⟩ := nearest_fin (decide (u < 0) ^^ decide (l < 0)) (2 * ((m <<< (Ieee.double.fractionBits + 2 + n.log2 - m.log2)) / n) + ((m <<< (Ieee.double.fractionBits + 2 + n.log2 - m.log2)) % n != 0).toNat) (Ieee.double.leastPlace + (e : Int) - (Ieee.double.leastPlace + (j : Int)) - (Ieee.double.fractionBits + 2 + n.log2 - m.log2 : Nat) - 1)
  have := word_facts (decide (u < 0) ^^ decide (l < 0)) hr
  rw [← e] at this
  exact ⟨this.1, this.2.2.2⟩
end Go.Ago
