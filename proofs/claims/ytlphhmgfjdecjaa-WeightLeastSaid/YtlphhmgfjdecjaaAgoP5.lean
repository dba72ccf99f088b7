/- Floats by their bits: how the model orders them. Conditions: none. -/
import Derived.Test.YtlphhmgfjdecjaaAgoP3
import Derived.Test.YtlphhmgfjdecjaaAgoP4
import Derived.Shelf.SlSortCmp.Whole1
import Derived.Laws.Bits64b
set_option maxRecDepth 100000
set_option linter.unusedSimpArgs false
set_option linter.unusedVariables false
namespace Go.Ago
def fMag (b : Nat) : Nat := b % 9223372036854775808
def fNeg (b : Nat) : Bool := decide (9223372036854775808 ≤ b)
def fNaN (b : Nat) : Bool := decide (9218868437227405312 < fMag b)
def fKey (b : Nat) : Int := if fNeg b then -(fMag b : Int) else fMag b
def fRank (b : Nat) : Nat := if fNaN b then 0 else if fNeg b then 18446744073709551615 - b else b + 9223372036854775808

theorem f_sw : Ieee.double.signWeight = 9223372036854775808 := rfl
theorem f_bin : Ieee.double.binade = 4503599627370496 := rfl
theorem f_inf : Ieee.double.infRung = 9218868437227405312 := rfl
theorem f_neg {b : Nat} (hb : b < 18446744073709551616) : (b / 9223372036854775808 % 2 == 1) = fNeg b := by
  unfold fNeg
  by_cases h : 9223372036854775808 ≤ b
  · have : b / 9223372036854775808 = 1 := by omega
    simp [this, h]
  · have : b / 9223372036854775808 = 0 := by omega
    simp [this, h]

theorem read_num {b : Nat} (hb : b < 18446744073709551616) (hr : fMag b < 9218868437227405312) :
    ∃ m e : Nat, Ieee.double.read b = .number (fNeg b) m (Ieee.double.leastPlace + (e : Int)) ∧ fMag b = e * 4503599627370496 + m ∧ m < 9007199254740992 ∧ (e = 0 ∨ 4503599627370496 ≤ m) := by
  unfold Ieee.Format.read
  simp only [f_sw, f_bin, f_inf, f_neg hb]
  change fMag b < _ at hr
  unfold fMag at hr ⊢
  by_cases h : b % 9223372036854775808 < 4503599627370496
  · refine ⟨b % 9223372036854775808, 0, by simp [h], by omega, by omega, .inl rfl⟩
  · refine ⟨4503599627370496 + b % 9223372036854775808 % 4503599627370496, b % 9223372036854775808 / 4503599627370496 - 1, by rw [if_neg h, if_pos hr], by omega, by omega, .inr (by omega)⟩
theorem read_inf {b : Nat} (hb : b < 18446744073709551616) (hr : fMag b = 9218868437227405312) : Ieee.double.read b = .infinity (fNeg b) := by
  unfold Ieee.Format.read
  simp only [f_sw, f_bin, f_inf, f_neg hb]
  unfold fMag at hr
  rw [hr]; simp
theorem read_nan {b : Nat} (hb : b < 18446744073709551616) (hr : 9218868437227405312 < fMag b) : ∃ n, Ieee.double.read b = .nan (fNeg b) n := by
  unfold Ieee.Format.read
  simp only [f_sw, f_bin, f_inf, f_neg hb]
  unfold fMag at hr
  exact ⟨_, by rw [if_neg (by omega), if_neg (by omega), if_neg (by omega)]⟩

theorem cmp_lt {a b : Int} (h : a < b) : compare a b = .lt := by
  show compareOfLessAndEq a b = _
  unfold compareOfLessAndEq
  rw [if_pos h]
theorem cmp_gt {a b : Int} (h : b < a) : compare a b = .gt := by
  show compareOfLessAndEq a b = _
  unfold compareOfLessAndEq
  rw [if_neg (by omega), if_neg (by omega)]
theorem cmp_iff {a b c d : Int} (h1 : a < b ↔ c < d) (h2 : a = b ↔ c = d) : compare a b = compare c d := by
  show compareOfLessAndEq a b = compareOfLessAndEq c d
  unfold compareOfLessAndEq
  simp only [h1, h2]

/-- Two magnitudes, in one unit, stand as their rungs. -/
theorem mag_cmp {m e n j r s : Nat} (h1 : r = e * 4503599627370496 + m) (h2 : m < 9007199254740992) (h3 : e = 0 ∨ 4503599627370496 ≤ m)
    (g1 : s = j * 4503599627370496 + n) (g2 : n < 9007199254740992) (g3 : j = 0 ∨ 4503599627370496 ≤ n) :
    (m <<< (e - min e j) < n <<< (j - min e j) ↔ r < s) ∧ (m <<< (e - min e j) = n <<< (j - min e j) ↔ r = s) ∧ (m <<< (e - min e j) = 0 ↔ r = 0) ∧ (n <<< (j - min e j) = 0 ↔ s = 0) := by
  simp only [Nat.shiftLeft_eq]
  rcases Nat.lt_trichotomy e j with h | h | h
  · have e1 : e - min e j = 0 := by omega
    obtain ⟨k, hk⟩ : ∃ k, j - min e j = k + 1 := ⟨j - e - 1, by omega⟩
    rw [e1, hk, Nat.pow_succ]
    have hp : 0 < 2 ^ k := Nat.pos_of_ne_zero (by simp)
    have : n * (2 ^ k * 2) ≥ n * 2 := Nat.mul_le_mul_left n (by omega)
    simp only [Nat.pow_zero, Nat.mul_one]
    have : j ≥ e + 1 := h
    have : j * 4503599627370496 ≥ (e + 1) * 4503599627370496 := Nat.mul_le_mul_right _ h
    refine ⟨⟨fun _ => by omega, fun _ => by omega⟩, ⟨fun _ => by omega, fun _ => by omega⟩, ⟨fun _ => by omega, fun _ => by omega⟩, ⟨fun _ => by omega, fun _ => by omega⟩⟩
  · subst h
    simp only [Nat.min_self, Nat.sub_self, Nat.pow_zero, Nat.mul_one]
    refine ⟨⟨fun _ => by omega, fun _ => by omega⟩, ⟨fun _ => by omega, fun _ => by omega⟩, ⟨fun _ => by omega, fun _ => by omega⟩, ⟨fun _ => by omega, fun _ => by omega⟩⟩
  · have e1 : j - min e j = 0 := by omega
    obtain ⟨k, hk⟩ : ∃ k, e - min e j = k + 1 := ⟨e - j - 1, by omega⟩
    rw [e1, hk, Nat.pow_succ]
    have hp : 0 < 2 ^ k := Nat.pos_of_ne_zero (by simp)
    have : m * (2 ^ k * 2) ≥ m * 2 := Nat.mul_le_mul_left m (by omega)
    simp only [Nat.pow_zero, Nat.mul_one]
    have : e * 4503599627370496 ≥ (j + 1) * 4503599627370496 := Nat.mul_le_mul_right _ h
    refine ⟨⟨fun _ => by omega, fun _ => by omega⟩, ⟨fun _ => by omega, fun _ => by omega⟩, ⟨fun _ => by omega, fun _ => by omega⟩, ⟨fun _ => by omega, fun _ => by omega⟩⟩

theorem order_key {b c : Nat} (hb : b < 18446744073709551616) (hc : c < 18446744073709551616) :
    FloatKind.f64.format.order b c = if fNaN b || fNaN c then none else some (compare (fKey b) (fKey c)) := by
  show (Ieee.double.read b).order (Ieee.double.read c) = _
  by_cases nb : 9218868437227405312 < fMag b
  · obtain ⟨n, hn⟩ := read_nan hb nb
    rw [hn]; simp [fNaN, nb, Ieee.Datum.order]
  by_cases nc : 9218868437227405312 < fMag c
  · obtain ⟨n, hn⟩ := read_nan hc nc
    rw [hn]; simp only [fNaN, nc, decide_true, Bool.or_true, if_true]
    cases Ieee.double.read b <;> rfl
  simp only [fNaN, nb, nc, decide_false, Bool.or_self, Bool.false_eq_true, if_false]
  by_cases ib : fMag b = 9218868437227405312 <;> by_cases ic : fMag c = 9218868437227405312
  · rw [read_inf hb ib, read_inf hc ic]
    simp only [Ieee.Datum.order, fKey, ib, ic]
    cases fNeg b <;> cases fNeg c <;> rfl
  · obtain ⟨n, j, h, -⟩ := read_num hc (by omega)
    rw [read_inf hb ib, h]
    simp only [Ieee.Datum.order, fKey, ib]
    cases fNeg b <;> cases fNeg c <;> simp only [Bool.false_eq_true, if_true, if_false] <;> first | (rw [cmp_lt (by omega)]) | (rw [cmp_gt (by omega)])
  · obtain ⟨n, j, h, -⟩ := read_num hb (by omega)
    rw [read_inf hc ic, h]
    simp only [Ieee.Datum.order, fKey, ic]
    cases fNeg b <;> cases fNeg c <;> simp only [Bool.false_eq_true, if_true, if_false] <;> first | (rw [cmp_lt (by omega)]) | (rw [cmp_gt (by omega)])
  · obtain ⟨m, e, h, h1, h2, h3⟩ := read_num hb (by omega)
    obtain ⟨n, j, g, g1, g2, g3⟩ := read_num hc (by omega)
    rw [h, g]
    simp only [Ieee.Datum.order]
    congr 1
    have e1 : (Ieee.double.leastPlace + (e : Int) - min (Ieee.double.leastPlace + (e : Int)) (Ieee.double.leastPlace + (j : Int))).toNat = e - min e j := by omega
    have e2 : (Ieee.double.leastPlace + (j : Int) - min (Ieee.double.leastPlace + (e : Int)) (Ieee.double.leastPlace + (j : Int))).toNat = j - min e j := by omega
    rw [e1, e2]
    obtain ⟨k1, k2, k3, k4⟩ := mag_cmp h1 h2 h3 g1 g2 g3
    generalize hA : m <<< (e - min e j) = A at *
    generalize hC : n <<< (j - min e j) = C at *
    simp only [Ieee.signed, fKey, hA, hC]
    apply cmp_iff <;> cases fNeg b <;> cases fNeg c <;> simp only [Bool.false_eq_true, if_true, if_false] <;> omega

theorem ord_eq {b c : Nat} (hb : b < 18446744073709551616) (hc : c < 18446744073709551616) : (FloatKind.f64.format.order b c == some .eq) = (!fNaN b && !fNaN c && decide (fKey b = fKey c)) := by
  rw [order_key hb hc]
  cases fNaN b <;> cases fNaN c <;> simp
  rcases Int.lt_trichotomy (fKey b) (fKey c) with h | h | h
  · rw [cmp_lt h]; simp; omega
  · rw [h]; show (compareOfLessAndEq (fKey c) (fKey c) == .eq) = _; unfold compareOfLessAndEq; simp
  · rw [cmp_gt h]; simp; omega
theorem ord_ne {b c : Nat} (hb : b < 18446744073709551616) (hc : c < 18446744073709551616) : (FloatKind.f64.format.order b c != some .eq) = !(!fNaN b && !fNaN c && decide (fKey b = fKey c)) := by
  rw [bne, ord_eq hb hc]
theorem ord_lt {b c : Nat} (hb : b < 18446744073709551616) (hc : c < 18446744073709551616) : (FloatKind.f64.format.order b c == some .lt) = (!fNaN b && !fNaN c && decide (fKey b < fKey c)) := by
  rw [order_key hb hc]
  cases fNaN b <;> cases fNaN c <;> simp
  rcases Int.lt_trichotomy (fKey b) (fKey c) with h | h | h
  · rw [cmp_lt h]; simp; omega
  · rw [h]; show (compareOfLessAndEq (fKey c) (fKey c) == .lt) = _; unfold compareOfLessAndEq; simp
  · rw [cmp_gt h]; simp; omega

theorem bits_orN (a b : Nat) (ha : a < 18446744073709551616) (hb : b < 18446744073709551616) : bits .or .u64 a b = ((a ||| b : Nat) : Int) := by
  change IntKind.u64.wrap ((BitVec.ofInt 64 a ||| BitVec.ofInt 64 b).toNat) = _
  rw [BitVec.ofInt_natCast, BitVec.ofInt_natCast, BitVec.toNat_or, BitVec.toNat_ofNat, BitVec.toNat_ofNat, Nat.mod_eq_of_lt ha, Nat.mod_eq_of_lt hb, IntKind.wrap_u64]
  have : a ||| b < 2 ^ 64 := Nat.or_lt_two_pow ha hb
  omega
theorem bits_xor_max (b : Nat) (hb : b < 18446744073709551616) : bits .xor .u64 18446744073709551615 b = ((18446744073709551615 - b : Nat) : Int) := by
  change IntKind.u64.wrap ((BitVec.allOnes 64 ^^^ BitVec.ofInt 64 b).toNat) = _
  rw [BitVec.allOnes_xor, BitVec.toNat_not, BitVec.ofInt_natCast, BitVec.toNat_ofNat, IntKind.wrap_u64]
  omega
theorem bits_or_top (b : Nat) (hb : b < 9223372036854775808) : bits .or .u64 b 9223372036854775808 = ((b + 9223372036854775808 : Nat) : Int) := by
  have h := bits_orN b 9223372036854775808 (by omega) (by omega)
  have e : b ||| 9223372036854775808 = b + 9223372036854775808 := by
    have h3 : 9223372036854775808 + b = 9223372036854775808 ||| b := Nat.two_pow_add_eq_or_of_lt (i := 63) (b := b) hb 1
    rw [Nat.or_comm, ← h3]; omega
  rw [e] at h; exact h

def rowF (b : Nat) : List DV := [.flt .f64 b]
theorem rowF_inj (x y : Nat) (h : rowF x = rowF y) : x = y := by simpa [rowF] using h
theorem rowF_len {x : Nat} : (rowF x).length = 1 := rfl
theorem getF {x : Nat} : (rowF x).getD 0 DV.nilp = .flt .f64 x := rfl
theorem loadF {x : Nat} : loadDT false 1 0 (rowF x) = .d (.flt .f64 x) := rfl
theorem idx_F {l : List Nat} {full : Bool} {kd : IntKind} {n : Int} {k : Delta → Prop} : stepK (evIdxAddr 1 (.d (.list (l.map rowF) full)) (.d (.int kd n))) k ↔ (0 ≤ n ∧ n < l.length) ∧ k ⟨.dptr (rowF (l.getD n.toNat default)) 0, [], []⟩ := stepK_idx_map (fun _ => rfl)
theorem app_rowF {l : List Nat} {x : Nat} : l.map rowF ++ [[.flt .f64 x]] = (l ++ [x]).map rowF := by simp [rowF]
theorem scal_rowF {l : List Nat} : (∀ r ∈ l.map rowF, ∀ x ∈ r, DV.scal x = true) ↔ True := ⟨fun _ => trivial, fun _ r hr x hx => by
  obtain ⟨n, _, rfl⟩ := List.mem_map.1 hr; simp [rowF] at hx; subst hx; rfl⟩
theorem lens_F {l : List Nat} : (∀ r ∈ l.map rowF, r.length = 1) ↔ True := ⟨fun _ => trivial, fun _ => rows_len (f := rowF) (fun _ => rfl) l⟩
theorem lensA_F {l : List Nat} : (∀ r ∈ List.map (fun x => List.map AV.d x) (l.map rowF), r.length = 1) ↔ True := ⟨fun _ => trivial, fun _ r hr => by
  obtain ⟨x, hx, rfl⟩ := List.mem_map.1 hr
  simpa using rows_len (f := rowF) (sz := 1) (fun _ => rfl) l x hx⟩
theorem scal_flt {k : FloatKind} {b : Nat} : DV.scal (.flt k b) = true := rfl
end Go.Ago

/- The contracts of package rat. Conditions: none. -/
set_option maxRecDepth 100000
set_option linter.unusedSimpArgs false
set_option linter.unusedVariables false
namespace Go.Ago

theorem wrap_id {n : Int} (h : -9223372036854775808 ≤ n) (h' : n ≤ 9223372036854775807) : IntKind.wrap .i64 n = n := by
  simp [IntKind.wrap, IntKind.signed, IntKind.bits]
  split <;> omega

end Go.Ago

/- The contracts of package act and of its reference. Conditions: none. -/
set_option maxRecDepth 100000
set_option linter.unusedSimpArgs false
set_option linter.unusedVariables false
namespace Go.Ago

theorem clone_end {sz bytes : Nat} {l : List (List DV)} (h1 : ∀ r ∈ l, r.length = sz) (h2 : roomy l.length bytes) : (((∀ (r : List AV), r ∈ List.map (fun x => List.map AV.d x) l → r.length = sz) ∧ roomy l.length bytes) ∧
      RetRows sz l (AV.ref 0 sz 0 l.length true) [HO.dvec sz l]) ∧
    (l.length = 0 → RetRows sz l (AV.d (DV.list [] true)) []) :=
  ⟨⟨⟨fun r h => by
      obtain ⟨x, hx, rfl⟩ := List.mem_map.1 h
      simpa using h1 x hx, h2⟩, .inl ⟨0, true, rfl, rfl⟩⟩, fun h => .inr ⟨List.eq_nil_of_length_eq_zero h, rfl⟩⟩

theorem wrap_succ {i n : Nat} (h : i < n) (hn : n ≤ maxLen) : IntKind.i64.wrap ((i : Int) + 1) = ((i + 1 : Nat) : Int) := by
  have hm : maxLen = 9223372036854775807 := rfl
  rw [wrap_id (by omega) (by omega)]; omega

end Go.Ago

/- Contracts of package weight, of its reference, and of what of math and cmp they use. Conditions: none. -/
set_option maxRecDepth 100000
set_option linter.unusedSimpArgs false
set_option linter.unusedVariables false
namespace Go.Ago

abbrev f64 (b : Nat) : Prop := b < 18446744073709551616

def sp_fb (g : Nat → Bool) : Sp := ⟨Nat, fun b => [.d (.flt .f64 b)], fun b => .data (f64 b) (.d (.bool (g b))) true⟩
theorem at_fb (g : Nat → Bool) (b : Nat) : (sp_fb g).at [.d (.flt .f64 b)] = .data (f64 b) (.d (.bool (g b))) true :=
  Sp.at_enc (s := sp_fb g) (fun (x y : Nat) h => by simpa [sp_fb] using h) b
def sp_fb2 (g : Nat → Nat → Bool) : Sp := ⟨Nat × Nat, fun x => [.d (.flt .f64 x.1), .d (.flt .f64 x.2)], fun x => .data (f64 x.1 ∧ f64 x.2) (.d (.bool (g x.1 x.2))) true⟩
theorem at_fb2 (g : Nat → Nat → Bool) (b c : Nat) : (sp_fb2 g).at [.d (.flt .f64 b), .d (.flt .f64 c)] = .data (f64 b ∧ f64 c) (.d (.bool (g b c))) true :=
  Sp.at_enc (s := sp_fb2 g) (fun x y h => by
    obtain ⟨a, b⟩ := x; obtain ⟨a', b'⟩ := y
    simpa [sp_fb2] using h) (b, c)
def sp_rank : Sp := ⟨Nat, fun b => [.d (.flt .f64 b)], fun b => .data (f64 b) (.d (.int .u64 (fRank b))) true⟩
theorem at_rank (b : Nat) : sp_rank.at [.d (.flt .f64 b)] = .data (f64 b) (.d (.int .u64 (fRank b))) true :=
  Sp.at_enc (s := sp_rank) (fun (x y : Nat) h => by simpa [sp_rank] using h) b
theorem fb_enc (g : Nat → Bool) (b : Nat) : (sp_fb g).enc b = [.d (.flt .f64 b)] := rfl
theorem fb2_enc (g : Nat → Nat → Bool) (b c : Nat) : (sp_fb2 g).enc (b, c) = [.d (.flt .f64 b), .d (.flt .f64 c)] := rfl
theorem rank_enc (b : Nat) : sp_rank.enc b = [.d (.flt .f64 b)] := rfl
def fCmp (b c : Nat) : Bool := (fNaN b && !fNaN c) || (!fNaN b && !fNaN c && decide (fKey b < fKey c))
def fLess (b c : Nat) : Bool := decide (fRank b < fRank c)
def fOf (u l : Int) : Option Nat := FloatKind.f64.format.div (FloatKind.f64.nearest u) (FloatKind.f64.nearest l)
def sp_wOf : Sp := ⟨Int × Int, fun x => [.d (.int .i64 x.1), .d (.int .i64 x.2)], fun x => .data True (.d (quoV .f64 (fOf x.1 x.2))) true⟩
theorem at_wOf (u l : Int) : sp_wOf.at [.d (.int .i64 u), .d (.int .i64 l)] = .data True (.d (quoV .f64 (fOf u l))) true :=
  Sp.at_enc (s := sp_wOf) (fun x y h => by
    obtain ⟨a, b⟩ := x; obtain ⟨a', b'⟩ := y
    simpa [sp_wOf] using h) (u, l)
theorem scal_quoV {k : FloatKind} {o : Option Nat} : DV.scal (quoV k o) = true := by cases o <;> rfl

theorem body_math_Signbit {T : Tab} : (sp_fb fNeg).Body T V_math_Signbit L_math_Signbit R_math_Signbit := by
  intro (b : Nat) hb
  have hb : f64 b := hb
  refine .inl ⟨rfl, ?_⟩
  unfold V_math_Signbit L_math_Signbit R_math_Signbit
  simp only [↓vck_skip, ↓vck_ret, ↓vck_exit, ↓Z10, ↓vck_nilq, ↓nilTo_to, nilG_d, nilG_r, ↓vck_seq, ↓vck_cond, ↓vck_block, ↓vck_loop, ↓vckTo_to, ↓thenK_n, ↓thenK_x, ↓thenK_r, ↓blockK_n, ↓blockK_x, ↓blockK_o, ↓blockK_r, ↓regK_to, ↓retK_r, ↓retK_n, ↓loopV_n, ↓loopV_x, ↓loopV_r, ↓famK_n, ↓famK_x, ↓famK_r, ↓Z0g, ↓Z08, ↓boolK_not, ↓boolK_dec, ↓boolK_and, nf_mk, RGk_end_f, RGk_end_t, RGk_op, RGk_guard, opK_to, evN, evCallN, grow_mk, feet_f, feet_t, foot_mk, stepK_mk, stepK_v, stepK_no, guardG_t, guardG_f, guardG_no, condG_b, evT, Opd.ev, Z11, Z07, app_to, app_no, app_up, app_skip, app_skipn, know_mk, knowO_t, knowO_c, envFrom, Z09, keeps, LOp.isNew, State.prune, cellsQ, Z12, AV.leaf, Heap.at, Z0t, Z0b, loadO_vec, Z0e, Z01, idx_I, idx_U, idx_Rat, idx_Loc, idx_Act, idx_Step, idx_Stamp, Z03, Z0c, Z0z, Z00, loadDT_f, rowI, rowU, RatG.row, LocG.row, ActG.row, StepG.row, StampG.row, ActG.av, ActG.eta, RatG.eta, LocG.eta, beq_true, beq_false, loadDT_t, set_rowI, set_rowU, app_rowI, app_rowU, rep_rowI, rep_rowU, Z0y, Z0k, Z0w, Z0x, Z0j, Z0i, Z0a, List.length_set, List.length_replicate, Int.toNat_natCast, Int.reduceToNat, evLen, evAppend, srcOf, Src.all, Src.len, Src.leaf, Src.leafN, evApart, aliveQ, joinV, Z0l, Z0m, Z0n, Z0o, Z0p, Z0q, Z0r, Z0s, mkVec, drows, evMk, List.length_map, Z06, Z05, List.take_length, List.take_left, List.length_append, Nat.le_add_right, ite_self, List.take_of_length_le, evSlice, intOr, intOpd, Option.isSome_none, Option.isSome_some, Nat.sub_zero, loadQ, loadT, evBin, evUn, binT, binQ, chk, apartF, List.contains_cons, List.contains_nil, Bool.or_false, Bool.false_or, Bool.and_self, resQ, resV, resT, pickV, evCallT, evTake, evCall, fnOf, viewsT, isD, HO.drow, viewT, evInt2, evEq, eqV, eqK, eqC1, buildQ, buildT, buildRQ, buildRT, lens_I, lensA_I, lens_U, lensA_U, lens_Rat, lensA_Rat, lens_Loc, lensA_Loc, lens_Act, lensA_Act, lens_Step, Z0u, Z0v, Z0d, List.mem_cons, List.not_mem_nil, or_false, forall_eq, putRow, dcells, get_nil, RetS, RetF, RetD, AV.frz, AV.frzL, AV.freshP, AV.freshL, DV.less, scal_int, scal_bool, scal_nil, scal_rowI, scal_rowU, Z0f, Z04, scal_rowF, scal_flt, idx_F, app_rowF, lens_F, lensA_F, rowF_len, loadF, getF, evFl, fltQ, fltT, quoV, cmpQ, cmpT, DV.flt.injEq, Option.some.injEq, AV.tup.injEq, AV.agg.injEq, List.cons.injEq, DV.list.injEq, List.isEmpty_nil, Nat.le_refl, AV.d.injEq, DV.int.injEq, DV.bool.injEq, ↓reduceIte, Nat.reduceEqDiff, Nat.reduceAdd, Nat.reduceBEq, List.length_cons, List.length_nil, List.replicate_succ, List.replicate_zero, List.nil_append, List.cons_append, List.append_nil, List.foldl_cons, List.foldl_nil, List.map_cons, List.map_nil, List.all_cons, List.all_nil, List.set_cons_zero, List.set_cons_succ, List.getD_cons_zero, List.getD_cons_succ, List.drop_zero, List.drop_succ_cons, List.take_succ_cons, List.take_zero, List.flatten_cons, List.flatten_nil, Bool.true_and, Bool.and_true, Bool.not_true, Bool.not_false, true_and, and_true, true_or, or_true, Option.bind_some, Option.map_some, decide_true, decide_false, beq_self_eq_true, true_implies, false_implies, implies_true, not_true_eq_false, not_false_eq_true, and_self, Bool.and_false, Bool.false_and, Nat.reduceLT, Nat.reduceLeDiff, List.reverse_cons, List.reverse_nil, Nat.zero_add, Nat.add_zero, Bool.false_eq_true, List.getElem?_cons_zero, fb_enc]
  unfold fNeg
  rw [IntKind.wrap_i64]
  have hb : b < 18446744073709551616 := hb
  by_cases h : 9223372036854775808 ≤ b
  · simp only [h, decide_true, decide_eq_true_eq]; omega
  · simp only [h, decide_false, decide_eq_false_iff_not]; omega

theorem body_cmp_isNaN_float64 {T : Tab} : (sp_fb fNaN).Body T V_cmp_isNaN_float64 L_cmp_isNaN_float64 R_cmp_isNaN_float64 := by
  intro (b : Nat) hb
  have hb : f64 b := hb
  refine .inl ⟨rfl, ?_⟩
  unfold V_cmp_isNaN_float64 L_cmp_isNaN_float64 R_cmp_isNaN_float64
  simp only [↓vck_skip, ↓vck_ret, ↓vck_exit, ↓Z10, ↓vck_nilq, ↓nilTo_to, nilG_d, nilG_r, ↓vck_seq, ↓vck_cond, ↓vck_block, ↓vck_loop, ↓vckTo_to, ↓thenK_n, ↓thenK_x, ↓thenK_r, ↓blockK_n, ↓blockK_x, ↓blockK_o, ↓blockK_r, ↓regK_to, ↓retK_r, ↓retK_n, ↓loopV_n, ↓loopV_x, ↓loopV_r, ↓famK_n, ↓famK_x, ↓famK_r, ↓Z0g, ↓Z08, ↓boolK_not, ↓boolK_dec, ↓boolK_and, nf_mk, RGk_end_f, RGk_end_t, RGk_op, RGk_guard, opK_to, evN, evCallN, grow_mk, feet_f, feet_t, foot_mk, stepK_mk, stepK_v, stepK_no, guardG_t, guardG_f, guardG_no, condG_b, evT, Opd.ev, Z11, Z07, app_to, app_no, app_up, app_skip, app_skipn, know_mk, knowO_t, knowO_c, envFrom, Z09, keeps, LOp.isNew, State.prune, cellsQ, Z12, AV.leaf, Heap.at, Z0t, Z0b, loadO_vec, Z0e, Z01, idx_I, idx_U, idx_Rat, idx_Loc, idx_Act, idx_Step, idx_Stamp, Z03, Z0c, Z0z, Z00, loadDT_f, rowI, rowU, RatG.row, LocG.row, ActG.row, StepG.row, StampG.row, ActG.av, ActG.eta, RatG.eta, LocG.eta, beq_true, beq_false, loadDT_t, set_rowI, set_rowU, app_rowI, app_rowU, rep_rowI, rep_rowU, Z0y, Z0k, Z0w, Z0x, Z0j, Z0i, Z0a, List.length_set, List.length_replicate, Int.toNat_natCast, Int.reduceToNat, evLen, evAppend, srcOf, Src.all, Src.len, Src.leaf, Src.leafN, evApart, aliveQ, joinV, Z0l, Z0m, Z0n, Z0o, Z0p, Z0q, Z0r, Z0s, mkVec, drows, evMk, List.length_map, Z06, Z05, List.take_length, List.take_left, List.length_append, Nat.le_add_right, ite_self, List.take_of_length_le, evSlice, intOr, intOpd, Option.isSome_none, Option.isSome_some, Nat.sub_zero, loadQ, loadT, evBin, evUn, binT, binQ, chk, apartF, List.contains_cons, List.contains_nil, Bool.or_false, Bool.false_or, Bool.and_self, resQ, resV, resT, pickV, evCallT, evTake, evCall, fnOf, viewsT, isD, HO.drow, viewT, evInt2, evEq, eqV, eqK, eqC1, buildQ, buildT, buildRQ, buildRT, lens_I, lensA_I, lens_U, lensA_U, lens_Rat, lensA_Rat, lens_Loc, lensA_Loc, lens_Act, lensA_Act, lens_Step, Z0u, Z0v, Z0d, List.mem_cons, List.not_mem_nil, or_false, forall_eq, putRow, dcells, get_nil, RetS, RetF, RetD, AV.frz, AV.frzL, AV.freshP, AV.freshL, DV.less, scal_int, scal_bool, scal_nil, scal_rowI, scal_rowU, Z0f, Z04, scal_rowF, scal_flt, idx_F, app_rowF, lens_F, lensA_F, rowF_len, loadF, getF, evFl, fltQ, fltT, quoV, cmpQ, cmpT, DV.flt.injEq, Option.some.injEq, AV.tup.injEq, AV.agg.injEq, List.cons.injEq, DV.list.injEq, List.isEmpty_nil, Nat.le_refl, AV.d.injEq, DV.int.injEq, DV.bool.injEq, ↓reduceIte, Nat.reduceEqDiff, Nat.reduceAdd, Nat.reduceBEq, List.length_cons, List.length_nil, List.replicate_succ, List.replicate_zero, List.nil_append, List.cons_append, List.append_nil, List.foldl_cons, List.foldl_nil, List.map_cons, List.map_nil, List.all_cons, List.all_nil, List.set_cons_zero, List.set_cons_succ, List.getD_cons_zero, List.getD_cons_succ, List.drop_zero, List.drop_succ_cons, List.take_succ_cons, List.take_zero, List.flatten_cons, List.flatten_nil, Bool.true_and, Bool.and_true, Bool.not_true, Bool.not_false, true_and, and_true, true_or, or_true, Option.bind_some, Option.map_some, decide_true, decide_false, beq_self_eq_true, true_implies, false_implies, implies_true, not_true_eq_false, not_false_eq_true, and_self, Bool.and_false, Bool.false_and, Nat.reduceLT, Nat.reduceLeDiff, List.reverse_cons, List.reverse_nil, Nat.zero_add, Nat.add_zero, Bool.false_eq_true, List.getElem?_cons_zero, fb_enc]
  rw [ord_ne hb hb]
  cases fNaN b <;> simp

theorem body_cmp_Less_float64 {T : Tab} {n1 : Nat} (k1 : Knows T n1 (sp_fb fNaN)) : (sp_fb2 fCmp).Body T V_cmp_Less_float64 (L_cmp_Less_float64 n1) R_cmp_Less_float64 := by
  have F1 := k1.F; have G1 := k1.G
  rintro ⟨b, c⟩ ⟨hb, hc⟩
  have hb : f64 b := hb
  have hc : f64 c := hc
  refine .inl ⟨rfl, ?_⟩
  unfold V_cmp_Less_float64 L_cmp_Less_float64 R_cmp_Less_float64
  simp only [↓vck_skip, ↓vck_ret, ↓vck_exit, ↓Z10, ↓vck_nilq, ↓nilTo_to, nilG_d, nilG_r, ↓vck_seq, ↓vck_cond, ↓vck_block, ↓vck_loop, ↓vckTo_to, ↓thenK_n, ↓thenK_x, ↓thenK_r, ↓blockK_n, ↓blockK_x, ↓blockK_o, ↓blockK_r, ↓regK_to, ↓retK_r, ↓retK_n, ↓loopV_n, ↓loopV_x, ↓loopV_r, ↓famK_n, ↓famK_x, ↓famK_r, ↓Z0g, ↓Z08, ↓boolK_not, ↓boolK_dec, ↓boolK_and, nf_mk, RGk_end_f, RGk_end_t, RGk_op, RGk_guard, opK_to, evN, evCallN, grow_mk, feet_f, feet_t, foot_mk, stepK_mk, stepK_v, stepK_no, guardG_t, guardG_f, guardG_no, condG_b, evT, Opd.ev, Z11, Z07, app_to, app_no, app_up, app_skip, app_skipn, know_mk, knowO_t, knowO_c, envFrom, Z09, keeps, LOp.isNew, State.prune, cellsQ, Z12, AV.leaf, Heap.at, Z0t, Z0b, loadO_vec, Z0e, Z01, idx_I, idx_U, idx_Rat, idx_Loc, idx_Act, idx_Step, idx_Stamp, Z03, Z0c, Z0z, Z00, loadDT_f, rowI, rowU, RatG.row, LocG.row, ActG.row, StepG.row, StampG.row, ActG.av, ActG.eta, RatG.eta, LocG.eta, beq_true, beq_false, loadDT_t, set_rowI, set_rowU, app_rowI, app_rowU, rep_rowI, rep_rowU, Z0y, Z0k, Z0w, Z0x, Z0j, Z0i, Z0a, List.length_set, List.length_replicate, Int.toNat_natCast, Int.reduceToNat, evLen, evAppend, srcOf, Src.all, Src.len, Src.leaf, Src.leafN, evApart, aliveQ, joinV, Z0l, Z0m, Z0n, Z0o, Z0p, Z0q, Z0r, Z0s, mkVec, drows, evMk, List.length_map, Z06, Z05, List.take_length, List.take_left, List.length_append, Nat.le_add_right, ite_self, List.take_of_length_le, evSlice, intOr, intOpd, Option.isSome_none, Option.isSome_some, Nat.sub_zero, loadQ, loadT, evBin, evUn, binT, binQ, chk, apartF, List.contains_cons, List.contains_nil, Bool.or_false, Bool.false_or, Bool.and_self, resQ, resV, resT, pickV, evCallT, evTake, evCall, fnOf, viewsT, isD, HO.drow, viewT, evInt2, evEq, eqV, eqK, eqC1, buildQ, buildT, buildRQ, buildRT, lens_I, lensA_I, lens_U, lensA_U, lens_Rat, lensA_Rat, lens_Loc, lensA_Loc, lens_Act, lensA_Act, lens_Step, Z0u, Z0v, Z0d, List.mem_cons, List.not_mem_nil, or_false, forall_eq, putRow, dcells, get_nil, RetS, RetF, RetD, AV.frz, AV.frzL, AV.freshP, AV.freshL, DV.less, scal_int, scal_bool, scal_nil, scal_rowI, scal_rowU, Z0f, Z04, scal_rowF, scal_flt, idx_F, app_rowF, lens_F, lensA_F, rowF_len, loadF, getF, evFl, fltQ, fltT, quoV, cmpQ, cmpT, DV.flt.injEq, Option.some.injEq, AV.tup.injEq, AV.agg.injEq, List.cons.injEq, DV.list.injEq, List.isEmpty_nil, Nat.le_refl, AV.d.injEq, DV.int.injEq, DV.bool.injEq, ↓reduceIte, Nat.reduceEqDiff, Nat.reduceAdd, Nat.reduceBEq, List.length_cons, List.length_nil, List.replicate_succ, List.replicate_zero, List.nil_append, List.cons_append, List.append_nil, List.foldl_cons, List.foldl_nil, List.map_cons, List.map_nil, List.all_cons, List.all_nil, List.set_cons_zero, List.set_cons_succ, List.getD_cons_zero, List.getD_cons_succ, List.drop_zero, List.drop_succ_cons, List.take_succ_cons, List.take_zero, List.flatten_cons, List.flatten_nil, Bool.true_and, Bool.and_true, Bool.not_true, Bool.not_false, true_and, and_true, true_or, or_true, Option.bind_some, Option.map_some, decide_true, decide_false, beq_self_eq_true, true_implies, false_implies, implies_true, not_true_eq_false, not_false_eq_true, and_self, Bool.and_false, Bool.false_and, Nat.reduceLT, Nat.reduceLeDiff, List.reverse_cons, List.reverse_nil, Nat.zero_add, Nat.add_zero, Bool.false_eq_true, List.getElem?_cons_zero, fb2_enc, F1, G1, at_fb]
  refine ⟨hb, ?_⟩
  rw [ord_lt hb hc]
  unfold fCmp
  cases fNaN b <;> cases fNaN c <;> simp [boolK, hc]

theorem cmp_rank {b c : Nat} (hb : b < 18446744073709551616) (hc : c < 18446744073709551616) (h : ¬ (fNaN b = false ∧ fKey b = 0 ∧ fNaN c = false ∧ fKey c = 0)) : fCmp b c = fLess b c := by
  unfold fCmp fLess fRank
  unfold fKey fNaN fNeg fMag at *
  by_cases n1 : 9218868437227405312 < b % 9223372036854775808 <;> by_cases n2 : 9218868437227405312 < c % 9223372036854775808 <;> by_cases s1 : 9223372036854775808 ≤ b <;> by_cases s2 : 9223372036854775808 ≤ c <;>
    simp only [n1, n2, s1, s2, decide_true, decide_false, if_true, if_false, Bool.false_eq_true, Bool.not_true, Bool.not_false, Bool.true_and, Bool.false_and, Bool.and_true, Bool.and_false, Bool.or_false, Bool.false_or, Bool.true_or, Bool.or_true, true_and, and_true, false_and, and_false, not_false_eq_true, Bool.true_eq_false, Nat.lt_irrefl] at h ⊢ <;>
    first | (exact (decide_eq_true (by omega)).symm) | (exact (decide_eq_false (by omega)).symm) | (exact decide_eq_decide.2 (by omega))
theorem zero_rank {b c : Nat} (hb : b < 18446744073709551616) (hc : c < 18446744073709551616) (h1 : fNaN b = false) (h2 : fKey b = 0) (h3 : fNaN c = false) (h4 : fKey c = 0) : fLess b c = (fNeg b && !fNeg c) := by
  unfold fLess fRank
  rw [h1, h3]
  unfold fKey fNeg fMag at *
  by_cases s1 : 9223372036854775808 ≤ b <;> by_cases s2 : 9223372036854775808 ≤ c <;>
    simp only [s1, s2, decide_true, decide_false, if_true, if_false, Bool.false_eq_true, Bool.not_true, Bool.not_false, Bool.true_and, Bool.false_and, decide_eq_true_eq, decide_eq_false_iff_not] at h2 h4 ⊢ <;> omega

theorem body_weight_Less {T : Tab} {n1 n2 : Nat} (k1 : Knows T n1 (sp_fb fNeg)) (k2 : Knows T n2 (sp_fb2 fCmp)) : (sp_fb2 fLess).Body T V_weight_Less (L_weight_Less n1 n2) R_weight_Less := by
  have F1 := k1.F; have G1 := k1.G; have F2 := k2.F; have G2 := k2.G
  rintro ⟨b, c⟩ ⟨hb, hc⟩
  have hb : f64 b := hb
  have hc : f64 c := hc
  refine .inl ⟨rfl, ?_⟩
  unfold V_weight_Less L_weight_Less R_weight_Less
  simp only [↓vck_skip, ↓vck_ret, ↓vck_exit, ↓Z10, ↓vck_nilq, ↓nilTo_to, nilG_d, nilG_r, ↓vck_seq, ↓vck_cond, ↓vck_block, ↓vck_loop, ↓vckTo_to, ↓thenK_n, ↓thenK_x, ↓thenK_r, ↓blockK_n, ↓blockK_x, ↓blockK_o, ↓blockK_r, ↓regK_to, ↓retK_r, ↓retK_n, ↓loopV_n, ↓loopV_x, ↓loopV_r, ↓famK_n, ↓famK_x, ↓famK_r, ↓Z0g, ↓Z08, ↓boolK_not, ↓boolK_dec, ↓boolK_and, nf_mk, RGk_end_f, RGk_end_t, RGk_op, RGk_guard, opK_to, evN, evCallN, grow_mk, feet_f, feet_t, foot_mk, stepK_mk, stepK_v, stepK_no, guardG_t, guardG_f, guardG_no, condG_b, evT, Opd.ev, Z11, Z07, app_to, app_no, app_up, app_skip, app_skipn, know_mk, knowO_t, knowO_c, envFrom, Z09, keeps, LOp.isNew, State.prune, cellsQ, Z12, AV.leaf, Heap.at, Z0t, Z0b, loadO_vec, Z0e, Z01, idx_I, idx_U, idx_Rat, idx_Loc, idx_Act, idx_Step, idx_Stamp, Z03, Z0c, Z0z, Z00, loadDT_f, rowI, rowU, RatG.row, LocG.row, ActG.row, StepG.row, StampG.row, ActG.av, ActG.eta, RatG.eta, LocG.eta, beq_true, beq_false, loadDT_t, set_rowI, set_rowU, app_rowI, app_rowU, rep_rowI, rep_rowU, Z0y, Z0k, Z0w, Z0x, Z0j, Z0i, Z0a, List.length_set, List.length_replicate, Int.toNat_natCast, Int.reduceToNat, evLen, evAppend, srcOf, Src.all, Src.len, Src.leaf, Src.leafN, evApart, aliveQ, joinV, Z0l, Z0m, Z0n, Z0o, Z0p, Z0q, Z0r, Z0s, mkVec, drows, evMk, List.length_map, Z06, Z05, List.take_length, List.take_left, List.length_append, Nat.le_add_right, ite_self, List.take_of_length_le, evSlice, intOr, intOpd, Option.isSome_none, Option.isSome_some, Nat.sub_zero, loadQ, loadT, evBin, evUn, binT, binQ, chk, apartF, List.contains_cons, List.contains_nil, Bool.or_false, Bool.false_or, Bool.and_self, resQ, resV, resT, pickV, evCallT, evTake, evCall, fnOf, viewsT, isD, HO.drow, viewT, evInt2, evEq, eqV, eqK, eqC1, buildQ, buildT, buildRQ, buildRT, lens_I, lensA_I, lens_U, lensA_U, lens_Rat, lensA_Rat, lens_Loc, lensA_Loc, lens_Act, lensA_Act, lens_Step, Z0u, Z0v, Z0d, List.mem_cons, List.not_mem_nil, or_false, forall_eq, putRow, dcells, get_nil, RetS, RetF, RetD, AV.frz, AV.frzL, AV.freshP, AV.freshL, DV.less, scal_int, scal_bool, scal_nil, scal_rowI, scal_rowU, Z0f, Z04, scal_rowF, scal_flt, idx_F, app_rowF, lens_F, lensA_F, rowF_len, loadF, getF, evFl, fltQ, fltT, quoV, cmpQ, cmpT, DV.flt.injEq, Option.some.injEq, AV.tup.injEq, AV.agg.injEq, List.cons.injEq, DV.list.injEq, List.isEmpty_nil, Nat.le_refl, AV.d.injEq, DV.int.injEq, DV.bool.injEq, ↓reduceIte, Nat.reduceEqDiff, Nat.reduceAdd, Nat.reduceBEq, List.length_cons, List.length_nil, List.replicate_succ, List.replicate_zero, List.nil_append, List.cons_append, List.append_nil, List.foldl_cons, List.foldl_nil, List.map_cons, List.map_nil, List.all_cons, List.all_nil, List.set_cons_zero, List.set_cons_succ, List.getD_cons_zero, List.getD_cons_succ, List.drop_zero, List.drop_succ_cons, List.take_succ_cons, List.take_zero, List.flatten_cons, List.flatten_nil, Bool.true_and, Bool.and_true, Bool.not_true, Bool.not_false, true_and, and_true, true_or, or_true, Option.bind_some, Option.map_some, decide_true, decide_false, beq_self_eq_true, true_implies, false_implies, implies_true, not_true_eq_false, not_false_eq_true, and_self, Bool.and_false, Bool.false_and, Nat.reduceLT, Nat.reduceLeDiff, List.reverse_cons, List.reverse_nil, Nat.zero_add, Nat.add_zero, Bool.false_eq_true, List.getElem?_cons_zero, fb2_enc, F1, G1, F2, G2, at_fb, at_fb2]
  have hb' : b < 18446744073709551616 := hb
  have hc' : c < 18446744073709551616 := hc
  have z0 : fNaN 0 = false := by decide
  have z1 : fKey 0 = 0 := by decide
  rw [ord_eq hb' (by omega), ord_eq hc' (by omega), z0, z1]
  simp only [Bool.not_false, Bool.and_true]
  cases n1 : fNaN b with
  | true =>
    have := cmp_rank hb' hc' (by rw [n1]; simp)
    simp [boolK, hb, hc, this]
  | false =>
    by_cases k1 : fKey b = 0
    · cases n2 : fNaN c with
      | true =>
        have := cmp_rank hb' hc' (by rw [n2]; simp)
        simp [boolK, hb, hc, this, k1]
      | false =>
        by_cases k2 : fKey c = 0
        · have := zero_rank hb' hc' n1 k1 n2 k2
          simp only [k1, k2, decide_true, Bool.not_false, Bool.and_true, Z0g, this]
          refine ⟨hb, ?_⟩
          cases fNeg b <;> simp [boolK, hc]
        · have := cmp_rank hb' hc' (by simp [k2])
          simp [boolK, hb, hc, this, k1, k2]
    · have := cmp_rank hb' hc' (by simp [k1])
      simp [boolK, hb, hc, this, k1]

theorem body_weight_Of {T : Tab} : sp_wOf.Body T V_weight_Of L_weight_Of R_weight_Of := by
  rintro ⟨u, l⟩ h
  refine .inl ⟨scal_quoV, ?_⟩
  unfold V_weight_Of L_weight_Of R_weight_Of
  simp only [↓vck_skip, ↓vck_ret, ↓vck_exit, ↓Z10, ↓vck_nilq, ↓nilTo_to, nilG_d, nilG_r, ↓vck_seq, ↓vck_cond, ↓vck_block, ↓vck_loop, ↓vckTo_to, ↓thenK_n, ↓thenK_x, ↓thenK_r, ↓blockK_n, ↓blockK_x, ↓blockK_o, ↓blockK_r, ↓regK_to, ↓retK_r, ↓retK_n, ↓loopV_n, ↓loopV_x, ↓loopV_r, ↓famK_n, ↓famK_x, ↓famK_r, ↓Z0g, ↓Z08, ↓boolK_not, ↓boolK_dec, ↓boolK_and, nf_mk, RGk_end_f, RGk_end_t, RGk_op, RGk_guard, opK_to, evN, evCallN, grow_mk, feet_f, feet_t, foot_mk, stepK_mk, stepK_v, stepK_no, guardG_t, guardG_f, guardG_no, condG_b, evT, Opd.ev, Z11, Z07, app_to, app_no, app_up, app_skip, app_skipn, know_mk, knowO_t, knowO_c, envFrom, Z09, keeps, LOp.isNew, State.prune, cellsQ, Z12, AV.leaf, Heap.at, Z0t, Z0b, loadO_vec, Z0e, Z01, idx_I, idx_U, idx_Rat, idx_Loc, idx_Act, idx_Step, idx_Stamp, Z03, Z0c, Z0z, Z00, loadDT_f, rowI, rowU, RatG.row, LocG.row, ActG.row, StepG.row, StampG.row, ActG.av, ActG.eta, RatG.eta, LocG.eta, beq_true, beq_false, loadDT_t, set_rowI, set_rowU, app_rowI, app_rowU, rep_rowI, rep_rowU, Z0y, Z0k, Z0w, Z0x, Z0j, Z0i, Z0a, List.length_set, List.length_replicate, Int.toNat_natCast, Int.reduceToNat, evLen, evAppend, srcOf, Src.all, Src.len, Src.leaf, Src.leafN, evApart, aliveQ, joinV, Z0l, Z0m, Z0n, Z0o, Z0p, Z0q, Z0r, Z0s, mkVec, drows, evMk, List.length_map, Z06, Z05, List.take_length, List.take_left, List.length_append, Nat.le_add_right, ite_self, List.take_of_length_le, evSlice, intOr, intOpd, Option.isSome_none, Option.isSome_some, Nat.sub_zero, loadQ, loadT, evBin, evUn, binT, binQ, chk, apartF, List.contains_cons, List.contains_nil, Bool.or_false, Bool.false_or, Bool.and_self, resQ, resV, resT, pickV, evCallT, evTake, evCall, fnOf, viewsT, isD, HO.drow, viewT, evInt2, evEq, eqV, eqK, eqC1, buildQ, buildT, buildRQ, buildRT, lens_I, lensA_I, lens_U, lensA_U, lens_Rat, lensA_Rat, lens_Loc, lensA_Loc, lens_Act, lensA_Act, lens_Step, Z0u, Z0v, Z0d, List.mem_cons, List.not_mem_nil, or_false, forall_eq, putRow, dcells, get_nil, RetS, RetF, RetD, AV.frz, AV.frzL, AV.freshP, AV.freshL, DV.less, scal_int, scal_bool, scal_nil, scal_rowI, scal_rowU, Z0f, Z04, scal_rowF, scal_flt, idx_F, app_rowF, lens_F, lensA_F, rowF_len, loadF, getF, evFl, fltQ, fltT, quoV, cmpQ, cmpT, DV.flt.injEq, Option.some.injEq, AV.tup.injEq, AV.agg.injEq, List.cons.injEq, DV.list.injEq, List.isEmpty_nil, Nat.le_refl, AV.d.injEq, DV.int.injEq, DV.bool.injEq, ↓reduceIte, Nat.reduceEqDiff, Nat.reduceAdd, Nat.reduceBEq, List.length_cons, List.length_nil, List.replicate_succ, List.replicate_zero, List.nil_append, List.cons_append, List.append_nil, List.foldl_cons, List.foldl_nil, List.map_cons, List.map_nil, List.all_cons, List.all_nil, List.set_cons_zero, List.set_cons_succ, List.getD_cons_zero, List.getD_cons_succ, List.drop_zero, List.drop_succ_cons, List.take_succ_cons, List.take_zero, List.flatten_cons, List.flatten_nil, Bool.true_and, Bool.and_true, Bool.not_true, Bool.not_false, true_and, and_true, true_or, or_true, Option.bind_some, Option.map_some, decide_true, decide_false, beq_self_eq_true, true_implies, false_implies, implies_true, not_true_eq_false, not_false_eq_true, and_self, Bool.and_false, Bool.false_and, Nat.reduceLT, Nat.reduceLeDiff, List.reverse_cons, List.reverse_nil, Nat.zero_add, Nat.add_zero, Bool.false_eq_true, List.getElem?_cons_zero, sp_wOf]
  rfl

/-- The first least one of the first few. -/
def leastTo (l : List Nat) : Nat → Int
  | 0 => -1
  | i + 1 => if leastTo l i < 0 ∨ fLess (l.getD i default) (l.getD (leastTo l i).toNat default) = true then i else leastTo l i
theorem leastTo_lt {l : List Nat} {i : Nat} : leastTo l i < i ∧ -1 ≤ leastTo l i := by
  induction i with
  | zero => exact ⟨by show (-1 : Int) < _; omega, by show (-1 : Int) ≤ -1; omega⟩
  | succ i ih => unfold leastTo; split <;> omega
def sp_least : Sp := ⟨List Nat × Bool, fun x => [.d (.list (x.1.map rowF) x.2)], fun x => .data (x.1.length ≤ maxLen ∧ ∀ b ∈ x.1, f64 b) (.d (.int .i64 (leastTo x.1 x.1.length))) true⟩
theorem at_least (l : List Nat) (f : Bool) : sp_least.at [.d (.list (l.map rowF) f)] = .data (l.length ≤ maxLen ∧ ∀ b ∈ l, f64 b) (.d (.int .i64 (leastTo l l.length))) true :=
  Sp.at_enc (s := sp_least) (fun x y h => by
    obtain ⟨a, b⟩ := x; obtain ⟨a', b'⟩ := y
    simp only [sp_least, List.cons.injEq, AV.d.injEq, DV.list.injEq, and_true] at h
    rw [rows_inj rowF_inj h.1, h.2]) (l, f)

theorem body_weight_Least {T : Tab} {n1 : Nat} (k1 : Knows T n1 (sp_fb2 fLess)) : sp_least.Body T V_weight_Least (L_weight_Least n1) R_weight_Least := by
  have F1 := k1.F; have G1 := k1.G
  rintro ⟨l, f⟩ ⟨hlen, hl⟩
  have hlen : l.length ≤ maxLen := hlen
  have hl : ∀ b ∈ l, f64 b := hl
  refine .inl ⟨rfl, ?_⟩
  unfold V_weight_Least L_weight_Least R_weight_Least
  simp only [↓vck_skip, ↓vck_ret, ↓vck_exit, ↓Z10, ↓vck_nilq, ↓nilTo_to, nilG_d, nilG_r, ↓vck_seq, ↓vck_cond, ↓vck_block, ↓vck_loop, ↓vckTo_to, ↓thenK_n, ↓thenK_x, ↓thenK_r, ↓blockK_n, ↓blockK_x, ↓blockK_o, ↓blockK_r, ↓regK_to, ↓retK_r, ↓retK_n, ↓loopV_n, ↓loopV_x, ↓loopV_r, ↓famK_n, ↓famK_x, ↓famK_r, ↓Z0g, ↓Z08, ↓boolK_not, ↓boolK_dec, ↓boolK_and, nf_mk, RGk_end_f, RGk_end_t, RGk_op, RGk_guard, opK_to, evN, evCallN, grow_mk, feet_f, feet_t, foot_mk, stepK_mk, stepK_v, stepK_no, guardG_t, guardG_f, guardG_no, condG_b, evT, Opd.ev, Z11, Z07, app_to, app_no, app_up, app_skip, app_skipn, know_mk, knowO_t, knowO_c, envFrom, Z09, keeps, LOp.isNew, State.prune, cellsQ, Z12, AV.leaf, Heap.at, Z0t, Z0b, loadO_vec, Z0e, Z01, idx_I, idx_U, idx_Rat, idx_Loc, idx_Act, idx_Step, idx_Stamp, Z03, Z0c, Z0z, Z00, loadDT_f, rowI, rowU, RatG.row, LocG.row, ActG.row, StepG.row, StampG.row, ActG.av, ActG.eta, RatG.eta, LocG.eta, beq_true, beq_false, loadDT_t, set_rowI, set_rowU, app_rowI, app_rowU, rep_rowI, rep_rowU, Z0y, Z0k, Z0w, Z0x, Z0j, Z0i, Z0a, List.length_set, List.length_replicate, Int.toNat_natCast, Int.reduceToNat, evLen, evAppend, srcOf, Src.all, Src.len, Src.leaf, Src.leafN, evApart, aliveQ, joinV, Z0l, Z0m, Z0n, Z0o, Z0p, Z0q, Z0r, Z0s, mkVec, drows, evMk, List.length_map, Z06, Z05, List.take_length, List.take_left, List.length_append, Nat.le_add_right, ite_self, List.take_of_length_le, evSlice, intOr, intOpd, Option.isSome_none, Option.isSome_some, Nat.sub_zero, loadQ, loadT, evBin, evUn, binT, binQ, chk, apartF, List.contains_cons, List.contains_nil, Bool.or_false, Bool.false_or, Bool.and_self, resQ, resV, resT, pickV, evCallT, evTake, evCall, fnOf, viewsT, isD, HO.drow, viewT, evInt2, evEq, eqV, eqK, eqC1, buildQ, buildT, buildRQ, buildRT, lens_I, lensA_I, lens_U, lensA_U, lens_Rat, lensA_Rat, lens_Loc, lensA_Loc, lens_Act, lensA_Act, lens_Step, Z0u, Z0v, Z0d, List.mem_cons, List.not_mem_nil, or_false, forall_eq, putRow, dcells, get_nil, RetS, RetF, RetD, AV.frz, AV.frzL, AV.freshP, AV.freshL, DV.less, scal_int, scal_bool, scal_nil, scal_rowI, scal_rowU, Z0f, Z04, scal_rowF, scal_flt, idx_F, app_rowF, lens_F, lensA_F, rowF_len, loadF, getF, evFl, fltQ, fltT, quoV, cmpQ, cmpT, DV.flt.injEq, Option.some.injEq, AV.tup.injEq, AV.agg.injEq, List.cons.injEq, DV.list.injEq, List.isEmpty_nil, Nat.le_refl, AV.d.injEq, DV.int.injEq, DV.bool.injEq, ↓reduceIte, Nat.reduceEqDiff, Nat.reduceAdd, Nat.reduceBEq, List.length_cons, List.length_nil, List.replicate_succ, List.replicate_zero, List.nil_append, List.cons_append, List.append_nil, List.foldl_cons, List.foldl_nil, List.map_cons, List.map_nil, List.all_cons, List.all_nil, List.set_cons_zero, List.set_cons_succ, List.getD_cons_zero, List.getD_cons_succ, List.drop_zero, List.drop_succ_cons, List.take_succ_cons, List.take_zero, List.flatten_cons, List.flatten_nil, Bool.true_and, Bool.and_true, Bool.not_true, Bool.not_false, true_and, and_true, true_or, or_true, Option.bind_some, Option.map_some, decide_true, decide_false, beq_self_eq_true, true_implies, false_implies, implies_true, not_true_eq_false, not_false_eq_true, and_self, Bool.and_false, Bool.false_and, Nat.reduceLT, Nat.reduceLeDiff, List.reverse_cons, List.reverse_nil, Nat.zero_add, Nat.add_zero, Bool.false_eq_true, List.getElem?_cons_zero, sp_least, F1, G1, at_fb2]
  refine Loop.fam [0, 3, 6, 7] (fun i : Nat => ⟨[(0, .d (.list (l.map rowF) f)), (3, .d (.int .i64 (leastTo l i))), (6, .d (.int .i64 l.length)), (7, .d (.int .i64 i))], []⟩) (fun i => i ≤ l.length) (fun i => l.length - i) 0 [] (by simp) (by simp)
    (by simp only [State.can, AV.can, AV.canL, HO.can, canRows, idx, Z11, Z07, Heap.at, Nat.reduceBEq, ↓reduceIte, Nat.reduceEqDiff, Option.getD_some, Option.map_some, List.map_cons, List.map_nil, List.getD_cons_zero, List.getD_cons_succ]; rfl) (by omega) ?_
  intro i hi
  simp only [↓vck_skip, ↓vck_ret, ↓vck_exit, ↓Z10, ↓vck_nilq, ↓nilTo_to, nilG_d, nilG_r, ↓vck_seq, ↓vck_cond, ↓vck_block, ↓vck_loop, ↓vckTo_to, ↓thenK_n, ↓thenK_x, ↓thenK_r, ↓blockK_n, ↓blockK_x, ↓blockK_o, ↓blockK_r, ↓regK_to, ↓retK_r, ↓retK_n, ↓loopV_n, ↓loopV_x, ↓loopV_r, ↓famK_n, ↓famK_x, ↓famK_r, ↓Z0g, ↓Z08, ↓boolK_not, ↓boolK_dec, ↓boolK_and, nf_mk, RGk_end_f, RGk_end_t, RGk_op, RGk_guard, opK_to, evN, evCallN, grow_mk, feet_f, feet_t, foot_mk, stepK_mk, stepK_v, stepK_no, guardG_t, guardG_f, guardG_no, condG_b, evT, Opd.ev, Z11, Z07, app_to, app_no, app_up, app_skip, app_skipn, know_mk, knowO_t, knowO_c, envFrom, Z09, keeps, LOp.isNew, State.prune, cellsQ, Z12, AV.leaf, Heap.at, Z0t, Z0b, loadO_vec, Z0e, Z01, idx_I, idx_U, idx_Rat, idx_Loc, idx_Act, idx_Step, idx_Stamp, Z03, Z0c, Z0z, Z00, loadDT_f, rowI, rowU, RatG.row, LocG.row, ActG.row, StepG.row, StampG.row, ActG.av, ActG.eta, RatG.eta, LocG.eta, beq_true, beq_false, loadDT_t, set_rowI, set_rowU, app_rowI, app_rowU, rep_rowI, rep_rowU, Z0y, Z0k, Z0w, Z0x, Z0j, Z0i, Z0a, List.length_set, List.length_replicate, Int.toNat_natCast, Int.reduceToNat, evLen, evAppend, srcOf, Src.all, Src.len, Src.leaf, Src.leafN, evApart, aliveQ, joinV, Z0l, Z0m, Z0n, Z0o, Z0p, Z0q, Z0r, Z0s, mkVec, drows, evMk, List.length_map, Z06, Z05, List.take_length, List.take_left, List.length_append, Nat.le_add_right, ite_self, List.take_of_length_le, evSlice, intOr, intOpd, Option.isSome_none, Option.isSome_some, Nat.sub_zero, loadQ, loadT, evBin, evUn, binT, binQ, chk, apartF, List.contains_cons, List.contains_nil, Bool.or_false, Bool.false_or, Bool.and_self, resQ, resV, resT, pickV, evCallT, evTake, evCall, fnOf, viewsT, isD, HO.drow, viewT, evInt2, evEq, eqV, eqK, eqC1, buildQ, buildT, buildRQ, buildRT, lens_I, lensA_I, lens_U, lensA_U, lens_Rat, lensA_Rat, lens_Loc, lensA_Loc, lens_Act, lensA_Act, lens_Step, Z0u, Z0v, Z0d, List.mem_cons, List.not_mem_nil, or_false, forall_eq, putRow, dcells, get_nil, RetS, RetF, RetD, AV.frz, AV.frzL, AV.freshP, AV.freshL, DV.less, scal_int, scal_bool, scal_nil, scal_rowI, scal_rowU, Z0f, Z04, scal_rowF, scal_flt, idx_F, app_rowF, lens_F, lensA_F, rowF_len, loadF, getF, evFl, fltQ, fltT, quoV, cmpQ, cmpT, DV.flt.injEq, Option.some.injEq, AV.tup.injEq, AV.agg.injEq, List.cons.injEq, DV.list.injEq, List.isEmpty_nil, Nat.le_refl, AV.d.injEq, DV.int.injEq, DV.bool.injEq, ↓reduceIte, Nat.reduceEqDiff, Nat.reduceAdd, Nat.reduceBEq, List.length_cons, List.length_nil, List.replicate_succ, List.replicate_zero, List.nil_append, List.cons_append, List.append_nil, List.foldl_cons, List.foldl_nil, List.map_cons, List.map_nil, List.all_cons, List.all_nil, List.set_cons_zero, List.set_cons_succ, List.getD_cons_zero, List.getD_cons_succ, List.drop_zero, List.drop_succ_cons, List.take_succ_cons, List.take_zero, List.flatten_cons, List.flatten_nil, Bool.true_and, Bool.and_true, Bool.not_true, Bool.not_false, true_and, and_true, true_or, or_true, Option.bind_some, Option.map_some, decide_true, decide_false, beq_self_eq_true, true_implies, false_implies, implies_true, not_true_eq_false, not_false_eq_true, and_self, Bool.and_false, Bool.false_and, Nat.reduceLT, Nat.reduceLeDiff, List.reverse_cons, List.reverse_nil, Nat.zero_add, Nat.add_zero, Bool.false_eq_true, List.getElem?_cons_zero, F1, G1, at_fb2]
  have hd : ∀ j, j < l.length → f64 (l.getD j default) := fun j hj => by rw [getD_lt hj]; exact hl _ (List.getElem_mem hj)
  have hu := leastTo_lt (l := l) (i := i)
  refine ⟨fun h => ?_, fun h => ?_⟩
  · have h' : i < l.length := by omega
    rw [wrap_succ h' hlen]
    have next : ∀ v, leastTo l (i + 1) = v → FamNext [0, 3, 6, 7] (fun i : Nat => (⟨[(0, .d (.list (l.map rowF) f)), (3, .d (.int .i64 (leastTo l i))), (6, .d (.int .i64 l.length)), (7, .d (.int .i64 i))], []⟩ : State)) (fun i => i ≤ l.length) (fun i => l.length - i) (l.length - i)
        ⟨[(0, .d (.list (l.map rowF) f)), (7, .d (.int .i64 (i + 1 : Nat))), (6, .d (.int .i64 l.length)), (8, .d (.bool true)), (3, .d (.int .i64 v)), (4, .d (.int .i64 i)), (22, .d (.bool true)), (2, .undef)], []⟩ ∧
      FamNext [0, 3, 6, 7] (fun i : Nat => (⟨[(0, .d (.list (l.map rowF) f)), (3, .d (.int .i64 (leastTo l i))), (6, .d (.int .i64 l.length)), (7, .d (.int .i64 i))], []⟩ : State)) (fun i => i ≤ l.length) (fun i => l.length - i) (l.length - i)
        ⟨[(0, .d (.list (l.map rowF) f)), (7, .d (.int .i64 (i + 1 : Nat))), (6, .d (.int .i64 l.length)), (8, .d (.bool true)), (3, .d (.int .i64 v)), (4, .d (.int .i64 i)), (22, .d (.bool false)), (2, .undef)], []⟩ := fun v hv =>
      ⟨FamNext.mk [] (i + 1) (by simp) (by simp) (by simp only [State.can, AV.can, AV.canL, HO.can, canRows, idx, Z11, Z07, Heap.at, Nat.reduceBEq, ↓reduceIte, Nat.reduceEqDiff, Option.getD_some, Option.map_some, List.map_cons, List.map_nil, List.getD_cons_zero, List.getD_cons_succ, hv]) (by show i + 1 ≤ l.length; omega) (by show l.length - (i + 1) < l.length - i; omega),
       FamNext.mk [] (i + 1) (by simp) (by simp) (by simp only [State.can, AV.can, AV.canL, HO.can, canRows, idx, Z11, Z07, Heap.at, Nat.reduceBEq, ↓reduceIte, Nat.reduceEqDiff, Option.getD_some, Option.map_some, List.map_cons, List.map_nil, List.getD_cons_zero, List.getD_cons_succ, hv]) (by show i + 1 ≤ l.length; omega) (by show l.length - (i + 1) < l.length - i; omega)⟩
    refine ⟨fun h1 => (next i (by unfold leastTo; rw [if_pos (.inl h1)])).1, fun h1 => ⟨⟨by omega, by omega⟩, ⟨by omega, by omega⟩, ⟨hd i h', hd _ (by omega)⟩, fun h2 => (next i (by unfold leastTo; rw [if_pos (.inr h2)])).1, fun h2 => (next (leastTo l i) (by
      show (if _ then _ else _) = _
      rw [if_neg (by rw [h2]; simp; omega)])).2⟩⟩
  · have : i = l.length := by omega
    rw [this]

theorem body_ref03_NaN {T : Tab} : (sp_fb fNaN).Body T V_ref03_NaN L_ref03_NaN R_ref03_NaN := by
  intro (b : Nat) hb
  have hb : f64 b := hb
  refine .inl ⟨rfl, ?_⟩
  unfold V_ref03_NaN L_ref03_NaN R_ref03_NaN
  simp only [↓vck_skip, ↓vck_ret, ↓vck_exit, ↓Z10, ↓vck_nilq, ↓nilTo_to, nilG_d, nilG_r, ↓vck_seq, ↓vck_cond, ↓vck_block, ↓vck_loop, ↓vckTo_to, ↓thenK_n, ↓thenK_x, ↓thenK_r, ↓blockK_n, ↓blockK_x, ↓blockK_o, ↓blockK_r, ↓regK_to, ↓retK_r, ↓retK_n, ↓loopV_n, ↓loopV_x, ↓loopV_r, ↓famK_n, ↓famK_x, ↓famK_r, ↓Z0g, ↓Z08, ↓boolK_not, ↓boolK_dec, ↓boolK_and, nf_mk, RGk_end_f, RGk_end_t, RGk_op, RGk_guard, opK_to, evN, evCallN, grow_mk, feet_f, feet_t, foot_mk, stepK_mk, stepK_v, stepK_no, guardG_t, guardG_f, guardG_no, condG_b, evT, Opd.ev, Z11, Z07, app_to, app_no, app_up, app_skip, app_skipn, know_mk, knowO_t, knowO_c, envFrom, Z09, keeps, LOp.isNew, State.prune, cellsQ, Z12, AV.leaf, Heap.at, Z0t, Z0b, loadO_vec, Z0e, Z01, idx_I, idx_U, idx_Rat, idx_Loc, idx_Act, idx_Step, idx_Stamp, Z03, Z0c, Z0z, Z00, loadDT_f, rowI, rowU, RatG.row, LocG.row, ActG.row, StepG.row, StampG.row, ActG.av, ActG.eta, RatG.eta, LocG.eta, beq_true, beq_false, loadDT_t, set_rowI, set_rowU, app_rowI, app_rowU, rep_rowI, rep_rowU, Z0y, Z0k, Z0w, Z0x, Z0j, Z0i, Z0a, List.length_set, List.length_replicate, Int.toNat_natCast, Int.reduceToNat, evLen, evAppend, srcOf, Src.all, Src.len, Src.leaf, Src.leafN, evApart, aliveQ, joinV, Z0l, Z0m, Z0n, Z0o, Z0p, Z0q, Z0r, Z0s, mkVec, drows, evMk, List.length_map, Z06, Z05, List.take_length, List.take_left, List.length_append, Nat.le_add_right, ite_self, List.take_of_length_le, evSlice, intOr, intOpd, Option.isSome_none, Option.isSome_some, Nat.sub_zero, loadQ, loadT, evBin, evUn, binT, binQ, chk, apartF, List.contains_cons, List.contains_nil, Bool.or_false, Bool.false_or, Bool.and_self, resQ, resV, resT, pickV, evCallT, evTake, evCall, fnOf, viewsT, isD, HO.drow, viewT, evInt2, evEq, eqV, eqK, eqC1, buildQ, buildT, buildRQ, buildRT, lens_I, lensA_I, lens_U, lensA_U, lens_Rat, lensA_Rat, lens_Loc, lensA_Loc, lens_Act, lensA_Act, lens_Step, Z0u, Z0v, Z0d, List.mem_cons, List.not_mem_nil, or_false, forall_eq, putRow, dcells, get_nil, RetS, RetF, RetD, AV.frz, AV.frzL, AV.freshP, AV.freshL, DV.less, scal_int, scal_bool, scal_nil, scal_rowI, scal_rowU, Z0f, Z04, scal_rowF, scal_flt, idx_F, app_rowF, lens_F, lensA_F, rowF_len, loadF, getF, evFl, fltQ, fltT, quoV, cmpQ, cmpT, DV.flt.injEq, Option.some.injEq, AV.tup.injEq, AV.agg.injEq, List.cons.injEq, DV.list.injEq, List.isEmpty_nil, Nat.le_refl, AV.d.injEq, DV.int.injEq, DV.bool.injEq, ↓reduceIte, Nat.reduceEqDiff, Nat.reduceAdd, Nat.reduceBEq, List.length_cons, List.length_nil, List.replicate_succ, List.replicate_zero, List.nil_append, List.cons_append, List.append_nil, List.foldl_cons, List.foldl_nil, List.map_cons, List.map_nil, List.all_cons, List.all_nil, List.set_cons_zero, List.set_cons_succ, List.getD_cons_zero, List.getD_cons_succ, List.drop_zero, List.drop_succ_cons, List.take_succ_cons, List.take_zero, List.flatten_cons, List.flatten_nil, Bool.true_and, Bool.and_true, Bool.not_true, Bool.not_false, true_and, and_true, true_or, or_true, Option.bind_some, Option.map_some, decide_true, decide_false, beq_self_eq_true, true_implies, false_implies, implies_true, not_true_eq_false, not_false_eq_true, and_self, Bool.and_false, Bool.false_and, Nat.reduceLT, Nat.reduceLeDiff, List.reverse_cons, List.reverse_nil, Nat.zero_add, Nat.add_zero, Bool.false_eq_true, List.getElem?_cons_zero, fb_enc]
  have hb : b < 18446744073709551616 := hb
  simp only [IntKind.wrap_u64, show (IntKind.u64.bits) = 64 from rfl, show min 1 64 = 1 from rfl, show min 53 64 = 53 from rfl, show min 12 64 = 12 from rfl, show (2 : Int) ^ 1 = 2 from rfl, show (2 : Int) ^ 12 = 4096 from rfl, show (2 : Int) ^ 53 = 9007199254740992 from rfl]
  rw [Int.fdiv_eq_ediv_of_nonneg _ (by omega)]
  unfold fNaN fMag
  refine ⟨by omega, by omega, fun h => ⟨by omega, ?_⟩, fun h => ?_⟩
  · by_cases h2 : 9218868437227405312 < b % 9223372036854775808
    · simp only [h2, decide_true]
      rw [decide_eq_false (by omega)]; rfl
    · simp only [h2, decide_false]
      rw [decide_eq_true (by omega)]; rfl
  · symm
    exact decide_eq_false (by omega)

theorem body_ref03_Rank {T : Tab} {n1 : Nat} (k1 : Knows T n1 (sp_fb fNaN)) : sp_rank.Body T V_ref03_Rank (L_ref03_Rank n1) R_ref03_Rank := by
  have F1 := k1.F; have G1 := k1.G
  intro (b : Nat) hb
  have hb : f64 b := hb
  refine .inl ⟨rfl, ?_⟩
  unfold V_ref03_Rank L_ref03_Rank R_ref03_Rank
  simp only [↓vck_skip, ↓vck_ret, ↓vck_exit, ↓Z10, ↓vck_nilq, ↓nilTo_to, nilG_d, nilG_r, ↓vck_seq, ↓vck_cond, ↓vck_block, ↓vck_loop, ↓vckTo_to, ↓thenK_n, ↓thenK_x, ↓thenK_r, ↓blockK_n, ↓blockK_x, ↓blockK_o, ↓blockK_r, ↓regK_to, ↓retK_r, ↓retK_n, ↓loopV_n, ↓loopV_x, ↓loopV_r, ↓famK_n, ↓famK_x, ↓famK_r, ↓Z0g, ↓Z08, ↓boolK_not, ↓boolK_dec, ↓boolK_and, nf_mk, RGk_end_f, RGk_end_t, RGk_op, RGk_guard, opK_to, evN, evCallN, grow_mk, feet_f, feet_t, foot_mk, stepK_mk, stepK_v, stepK_no, guardG_t, guardG_f, guardG_no, condG_b, evT, Opd.ev, Z11, Z07, app_to, app_no, app_up, app_skip, app_skipn, know_mk, knowO_t, knowO_c, envFrom, Z09, keeps, LOp.isNew, State.prune, cellsQ, Z12, AV.leaf, Heap.at, Z0t, Z0b, loadO_vec, Z0e, Z01, idx_I, idx_U, idx_Rat, idx_Loc, idx_Act, idx_Step, idx_Stamp, Z03, Z0c, Z0z, Z00, loadDT_f, rowI, rowU, RatG.row, LocG.row, ActG.row, StepG.row, StampG.row, ActG.av, ActG.eta, RatG.eta, LocG.eta, beq_true, beq_false, loadDT_t, set_rowI, set_rowU, app_rowI, app_rowU, rep_rowI, rep_rowU, Z0y, Z0k, Z0w, Z0x, Z0j, Z0i, Z0a, List.length_set, List.length_replicate, Int.toNat_natCast, Int.reduceToNat, evLen, evAppend, srcOf, Src.all, Src.len, Src.leaf, Src.leafN, evApart, aliveQ, joinV, Z0l, Z0m, Z0n, Z0o, Z0p, Z0q, Z0r, Z0s, mkVec, drows, evMk, List.length_map, Z06, Z05, List.take_length, List.take_left, List.length_append, Nat.le_add_right, ite_self, List.take_of_length_le, evSlice, intOr, intOpd, Option.isSome_none, Option.isSome_some, Nat.sub_zero, loadQ, loadT, evBin, evUn, binT, binQ, chk, apartF, List.contains_cons, List.contains_nil, Bool.or_false, Bool.false_or, Bool.and_self, resQ, resV, resT, pickV, evCallT, evTake, evCall, fnOf, viewsT, isD, HO.drow, viewT, evInt2, evEq, eqV, eqK, eqC1, buildQ, buildT, buildRQ, buildRT, lens_I, lensA_I, lens_U, lensA_U, lens_Rat, lensA_Rat, lens_Loc, lensA_Loc, lens_Act, lensA_Act, lens_Step, Z0u, Z0v, Z0d, List.mem_cons, List.not_mem_nil, or_false, forall_eq, putRow, dcells, get_nil, RetS, RetF, RetD, AV.frz, AV.frzL, AV.freshP, AV.freshL, DV.less, scal_int, scal_bool, scal_nil, scal_rowI, scal_rowU, Z0f, Z04, scal_rowF, scal_flt, idx_F, app_rowF, lens_F, lensA_F, rowF_len, loadF, getF, evFl, fltQ, fltT, quoV, cmpQ, cmpT, DV.flt.injEq, Option.some.injEq, AV.tup.injEq, AV.agg.injEq, List.cons.injEq, DV.list.injEq, List.isEmpty_nil, Nat.le_refl, AV.d.injEq, DV.int.injEq, DV.bool.injEq, ↓reduceIte, Nat.reduceEqDiff, Nat.reduceAdd, Nat.reduceBEq, List.length_cons, List.length_nil, List.replicate_succ, List.replicate_zero, List.nil_append, List.cons_append, List.append_nil, List.foldl_cons, List.foldl_nil, List.map_cons, List.map_nil, List.all_cons, List.all_nil, List.set_cons_zero, List.set_cons_succ, List.getD_cons_zero, List.getD_cons_succ, List.drop_zero, List.drop_succ_cons, List.take_succ_cons, List.take_zero, List.flatten_cons, List.flatten_nil, Bool.true_and, Bool.and_true, Bool.not_true, Bool.not_false, true_and, and_true, true_or, or_true, Option.bind_some, Option.map_some, decide_true, decide_false, beq_self_eq_true, true_implies, false_implies, implies_true, not_true_eq_false, not_false_eq_true, and_self, Bool.and_false, Bool.false_and, Nat.reduceLT, Nat.reduceLeDiff, List.reverse_cons, List.reverse_nil, Nat.zero_add, Nat.add_zero, Bool.false_eq_true, List.getElem?_cons_zero, rank_enc, F1, G1, at_fb]
  have hb' : b < 18446744073709551616 := hb
  refine ⟨hb, ?_⟩
  cases n1 : fNaN b with
  | true => simp [boolK, fRank, n1]
  | false =>
    rw [Z08]
    simp only [show (IntKind.u64.bits) = 64 from rfl, show min 63 64 = 63 from rfl, show (2 : Int) ^ 63 = 9223372036854775808 from rfl]
    rw [Int.fdiv_eq_ediv_of_nonneg _ (by omega)]
    refine ⟨by omega, fun h => ?_, fun h => ?_⟩
    · have e : (if IntKind.u64.signed = true then -1 else IntKind.u64.max) = 18446744073709551615 := rfl
      rw [e, bits_xor_max b hb']
      have : 9223372036854775808 ≤ b := by omega
      simp [fRank, n1, fNeg, this]
    · have : b < 9223372036854775808 := by omega
      rw [bits_or_top b this]
      simp [fRank, n1, fNeg, show ¬ 9223372036854775808 ≤ b by omega]
end Go.Ago

/- A row of ours that the library sorts: the kit's proved summary of slices.SortFunc as an effect of the abstract machine. Conditions: none. -/
set_option linter.unusedSimpArgs false
set_option linter.unusedVariables false
namespace Go.Ago
open Go.Shelf Go.Sort Go.Proofs Go.RowKit Go.Lib

theorem not_own_nil (b : Nat) : ¬ own noIds [] b := by rintro ⟨i, o, h, _⟩; simp [Heap.at, HO.alive] at h

theorem pres_grow (M : Nat → Prop) (w : World) (os : Array Obj) : Pres M w (grow w os) where
  size := by simp [grow]
  same b hb _ := by show (w.heap ++ os)[b]? = _; rw [Array.getElem?_append_left hb]
  keep b c T h := by
    have hb : b < w.heap.size := by
      rcases Nat.lt_or_ge b w.heap.size with h1 | h1
      · exact h1
      · rw [Array.getElem?_eq_none h1] at h; cases h
    exact ⟨c, by show (w.heap ++ os)[b]? = _; rw [Array.getElem?_append_left hb]; exact h, rfl⟩
  os := ⟨rfl, rfl, rfl, Nat.le_refl _⟩
  fz a ha := by
    unfold World.frozen?
    rw [show (grow w os).heap[a.block]? = w.heap[a.block]? from Array.getElem?_append_left ha]

theorem pres_ahead (M : Nat → Prop) (w : World) (n : Nat) : Pres M w (Sort.ahead w n) :=
  ⟨Nat.le_refl _, fun _ _ _ => rfl, fun _ c _ h => ⟨c, h, rfl⟩, ⟨rfl, rfl, rfl, Nat.le_add_right _ _⟩, fun _ _ => rfl⟩

/-- A world that only grew is the old one, some draws on, with more blocks. -/
theorem grown_of_pres {w w' : World} (h : Pres (own noIds []) w w') : ∃ q os, w' = grow (World.drewN w q) os := by
  refine ⟨w'.drawn - w.drawn, w'.heap.extract w.heap.size w'.heap.size, ?_⟩
  have hh : w'.heap = w.heap ++ w'.heap.extract w.heap.size w'.heap.size := by
    apply Array.ext_getElem?
    intro i
    rcases Nat.lt_or_ge i w.heap.size with h1 | h1
    · rw [Array.getElem?_append_left h1]; exact h.same i h1 (not_own_nil i)
    · rw [Array.getElem?_append_right h1, Array.getElem?_extract]
      rcases Nat.lt_or_ge i w'.heap.size with h2 | h2
      · rw [if_pos (by omega), show w.heap.size + (i - w.heap.size) = i by omega]
      · rw [if_neg (by omega), Array.getElem?_eq_none h2]
  obtain ⟨o1, o2, o3, o4⟩ := h.os
  cases w with
  | mk heap tape drawn os output =>
  cases w' with
  | mk heap' tape' drawn' os' output' =>
  simp only at hh o1 o2 o3 o4
  subst o1; subst o2; subst o3
  show World.mk heap' tape' drawn' os' output' = World.mk (heap ++ heap'.extract heap.size heap'.size) tape' (drawn + (drawn' - drawn)) os' output'
  rw [← hh, show drawn + (drawn' - drawn) = drawn' by omega]

theorem putRow_block {α : Type} [Inhabited α] {enc : α → Value} {w : World} {b o : Nat} {d : Array α} {c : Array Value} {T : TypeId} (h : w.heap[b]? = some (.cells c T (0, 0))) :
    Go.Sort.putRow enc w b o d = World.setBlock w b (putCells enc o d c) T := by
  unfold Go.Sort.putRow mapBlock World.setBlock
  congr 1
  apply Array.ext_getElem?
  intro i
  rw [Array.getElem?_modify, Array.getElem?_setIfInBounds]
  by_cases e : b = i
  · subst e
    have hb : b < w.heap.size := by
      rcases Nat.lt_or_ge b w.heap.size with h1 | h1
      · exact h1
      · rw [Array.getElem?_eq_none h1] at h; cases h
    rw [if_pos rfl, if_pos rfl, if_pos hb, h]; rfl
  · rw [if_neg e, if_neg e]

section
variable {P : Program} {α : Type} [Inhabited α] {enc : α → Value} {row : α → DV}

/-- The object that is a row of such values, in its block. -/
theorem row_holds (hR : ∀ M w x v, RelD M w (row x) v → v = enc x) {A : Nat → Prop} {φ : Nat → Option (Nat × Nat)} {H : Heap} {w : World} (hs : SimH P A φ H w) {id b o : Nat} {d : List α}
    (hat : H.at id = .dvec 1 (d.map fun x => [row x])) (hb : φ id = some (b, o)) :
    ∃ c T, w.heap[b]? = some (.cells c T (0, 0)) ∧ o + d.length ≤ c.size ∧ (∀ j, j < d.length → c[o + j]? = some (enc (d.toArray)[j]!)) := by
  obtain ⟨c, T, e1, e2, e3, e4⟩ := hs.objs id b o (by rw [hat]; trivial) hb 1 _ (by rw [hat]; rfl)
  refine ⟨c, T, e1, by simpa using e2, fun j hj => ?_⟩
  obtain ⟨v, hv, hr⟩ := e4 j [.d (row d[j])] 0 (.d (row d[j])) (by simp [hj]) rfl
  have : v = enc d[j] := by
    cases hr with
    | d _ _ h => exact hR _ _ _ _ h
  subst this
  rw [show o + j * 1 + 0 = o + j by omega] at hv
  rw [hv]
  simp [hj]

theorem row_sorted (hR : ∀ M w x v, RelD M w (row x) v → v = enc x) (hR' : ∀ M w x, RelD M w (row x) (enc x)) {A : Nat → Prop} {φ : Nat → Option (Nat × Nat)} {H : Heap} {w : World} (hs : SimH P A φ H w) {id b o : Nat} {d : List α}
    (hat : H.at id = .dvec 1 (d.map fun x => [row x])) (hb : φ id = some (b, o)) (n : Nat) (os : Array Obj) {d' : Array α} (hz : d'.size = d.length) :
    SimH P A φ (H.set id (.dvec 1 (d'.toList.map fun x => [row x]))) (sortWorld enc w b o n d' os) ∧ Onward A φ H w φ (H.set id (.dvec 1 (d'.toList.map fun x => [row x]))) (sortWorld enc w b o n d' os) := by
  obtain ⟨c, T, e1, e2, e3⟩ := row_holds hR hs hat hb
  obtain ⟨s1, o1⟩ := hs.keep (pres_ahead _ w n)
  have e1' : (Sort.ahead w n).heap[b]? = some (.cells c T (0, 0)) := e1
  obtain ⟨s2, o2⟩ := s1.change (i := id) (by rw [hat]; trivial) hb e1' (c' := putCells enc o d' c) (by simp [putCells]) (x := .dvec 1 (d'.toList.map fun x => [row x])) (sz := 1) (rows := d'.toList.map fun x => [.d (row x)])
    (by simp [HO.rows]) (by simp [hz]; omega) (by intro r hr; simp at hr; obtain ⟨x, _, rfl⟩ := hr; rfl) (fun k r j y hk hy => by
      rw [List.getElem?_map, Option.map_eq_some_iff] at hk
      obtain ⟨x, hx, rfl⟩ := hk
      have hk' : k < d'.size := by
        rw [← Array.length_toList]
        rcases Nat.lt_or_ge k d'.toList.length with h1 | h1
        · exact h1
        · rw [List.getElem?_eq_none h1] at hx; cases hx
      cases j with
      | succ j => simp at hy
      | zero =>
        simp at hy; subst hy
        refine ⟨enc x, ?_, .d _ _ (hR' _ _ _)⟩
        have hc : o + k < c.size := by omega
        have hx' : d'[k]! = x := by
          rw [Array.getElem?_toList] at hx
          rw [getElem!_def, hx]
        simp only [putCells, Nat.mul_one, Nat.add_zero, Array.getElem?_mapIdx, Array.getElem?_eq_getElem hc, Option.map_some]
        rw [if_pos (by omega), show o + k - o = k by omega, hx'])
  rw [← putRow_block e1'] at s2 o2
  obtain ⟨s3, o3⟩ := s2.keep (pres_grow _ (Go.Sort.putRow enc (Sort.ahead w n) b o d') os)
  exact ⟨s3, (o1.trans o2).trans o3⟩

/-- slices.SortFunc, told by the kit, as a call of the abstract machine. -/
theorem acall_sortFunc {ρ : Ren} (L : SlLaysF.n6 P ρ) (hE : Enters P (ρ.f 6)) (h1 : OneCell enc) (hR : ∀ M w x v, RelD M w (row x) v → v = enc x) (hR' : ∀ M w x, RelD M w (row x) (enc x)) {cf : α → α → Int} (hO : SWO (ltOf cf)) {g : FuncId}
    (hg : ∀ x y, ACalls P g [.d (row x), .d (row y)] [] fun r _ => r = .d (.int .i64 (cf x y))) (eg : ∀ args w, (callFunc g args).run P w = .ok (.enter g args) w)
    {H : Heap} {id : Nat} {d : List α} (hat : H.at id = .dvec 1 (d.map fun x => [row x])) (h0 : d ≠ []) (hz : d.length < 4611686018427387904) (room : Bool) :
    ACalls P (ρ.f 6) [.ref id 1 0 d.length room, .d (.fn g)] H fun r H' => r = .tup [] ∧
      H' = H.set id (.dvec 1 ((pdq (ltOf cf) d.toArray 0 d.length (Lib.bitLen d.length) true true).toList.map fun x => [row x])) := by
  refine ⟨hE, fun A φ w vals hs hv hr => ?_⟩
  have hlen : 0 < d.length := List.length_pos_iff.2 h0
  obtain ⟨v0, v1, hv2⟩ : ∃ v0 v1, vals = #[v0, v1] := by
    match vals, hv with
    | ⟨[v0, v1]⟩, _ => exact ⟨v0, v1, rfl⟩
  subst hv2
  have r0 := hr 0 _ _ rfl rfl
  have r1 := hr 1 _ _ rfl rfl
  have q1 : v1 = .func (.func g) #[] #[] := by
    cases r1 with
    | d _ _ h => cases h; rfl
  subst q1
  generalize hn : d.length = n at r0
  cases r0 with
  | ref0 => omega
  | ref _ _ _ _ b o cap _ c T hb hcap hroom hheap hfit =>
  subst hn
  obtain ⟨c', T', e1, e2, e3⟩ := row_holds hR hs hat hb
  rw [hheap] at e1
  simp only [Option.some.injEq, Obj.cells.injEq] at e1
  obtain ⟨rfl, rfl, _⟩ := e1
  have hblk : b < w.heap.size := (hs.dom id b o hb).2
  have hoff : o + 0 * 1 = o := by omega
  rw [hoff]
  have hH : Go.Sort.Holds enc w b o d.toArray := fun j hj => by
    have hj' : j < d.length := by simpa using hj
    refine ⟨?_, by simp [World.frozen?, hheap]⟩
    simp only [World.cell?, hheap, Option.isSome_none, Bool.false_eq_true, if_false]
    exact e3 j hj'
  have hcmp : CmpLays1 P g #[] enc cf b o d.toArray.size w := fun m os dk hdk x y => by
    obtain ⟨s1, o1⟩ := row_sorted hR hR' hs hat hb m os (d' := dk) (by simpa using hdk)
    have htab : TabIn P noOwn (sortWorld enc w b o m dk os) := s1.tab.less fun b hb => hb.elim
    have hcall := (hg x y).2 noOwn noIds (sortWorld enc w b o m dk os) #[enc x, enc y] (simH_nil (fun b hb => hb.elim) htab) rfl (fun i a v ha hv => by
      match i with
      | 0 => simp at ha hv; subst ha; subst hv; exact .d _ _ (hR' _ _ _)
      | 1 => simp at ha hv; subst ha; subst hv; exact .d _ _ (hR' _ _ _)
      | i + 2 => simp at ha)
    refine (show Calls P g (#[enc x, enc y] ++ #[]) _ _ by rw [Array.append_empty]; exact hcall).mono ?_
    rintro e w' ⟨v, r, H', φ', rfl, rfl, _, hrel, hext⟩
    refine ⟨?_, grown_of_pres hext.pres⟩
    cases hrel with
    | d _ _ h => cases h; rfl
  have main := Any.slices_SortFunc_eq L enc h1 cf hO g #[] b o cap d.toArray w eg hcmp hH hblk (by simpa using hz)
  simp only [List.size_toArray] at main
  refine main.mono ?_
  rintro e w' ⟨rfl, m, os, rfl⟩
  have hsz : (pdq (ltOf cf) d.toArray 0 d.length (Lib.bitLen d.length) true true).size = d.length := by
    have := (pdq_sorts (ltOf cf) hO d.toArray 0 d.toArray.size (Lib.bitLen d.toArray.size) true true (Nat.zero_le _) (Nat.le_refl _) (Or.inl rfl)).1.1
    simpa using this
  obtain ⟨s1, o1⟩ := row_sorted hR hR' hs hat hb m os hsz
  exact ⟨.tuple #[], .tup [], _, φ, rfl, ⟨rfl, rfl⟩, s1, .tup [] #[] rfl (fun i x v h => by simp at h), ⟨fun _ _ => rfl, o1.pres, o1.mono⟩⟩
end
end Go.Ago

/- A call on objects of its own, as a call on a greater heap; contracts of calls that change or add objects. Conditions: none. -/
set_option linter.unusedSimpArgs false
set_option linter.unusedVariables false
namespace Go.Ago

/-- The end of a call: its heap, said with other ids, is this one. -/
def RetG (n0 : Nat) (v' : AV) (os' : Heap) : AV → Heap → Prop := fun r H => ∃ ρ, Weak n0 ρ ⟨[(0, r)], H⟩ ⟨[(0, v')], os'⟩ ∧ n0 ≤ os'.length

theorem RetG.mk {n0 : Nat} {v' r : AV} {os' H : Heap} (ρ : List Nat) (h1 : ρ.Nodup) (h2 : ∀ i ∈ ρ, i < H.length) (h3 : ∀ i, i < n0 → ρ[i]? = some i) (hv : AV.can ρ r = some v') (ho : ρ.map (fun i => (Heap.at H i).can ρ) = os') : RetG n0 v' os' r H := by
  have hw := can_weak (S := ⟨[(0, r)], H⟩) (live := [0]) h1 h3 h2
  have e : State.can ρ [0] ⟨[(0, r)], H⟩ = ⟨[(0, v')], os'⟩ := by
    simp only [State.can, List.map_cons, List.map_nil, Env.get, if_true, hv, Option.getD_some, ho]
  rw [e] at hw
  refine ⟨ρ, hw, ?_⟩
  rw [← ho, List.length_map]
  cases n0 with
  | zero => omega
  | succ n =>
    rcases Nat.lt_or_ge n ρ.length with h | h
    · omega
    · have := h3 n (by omega)
      rw [List.getElem?_eq_none (by omega)] at this
      cases this



theorem ACalls.exact {P : Program} {f : FuncId} {args : List AV} {H0 os' : Heap} {v' : AV} (h : ACalls P f args H0 (RetG H0.length v' os')) : ACalls P f args H0 (fun r H => r = v' ∧ H = os') := by
  refine ⟨h.1, fun A φ w vals hs hz hr => (h.2 A φ w vals hs hz hr).mono ?_⟩
  rintro e w' ⟨v, r, H', φ', rfl, ⟨ρ, hw, hl⟩, hs', hrr, hext⟩
  have hsim : Sim P A 1 φ' ⟨[(0, r)], H'⟩ { tmps := #[v], defers := [] } w' := by
    refine ⟨hs', rfl, rfl, fun t => ?_⟩
    cases t with
    | zero => exact hrr
    | succ t => exact .undef _
  obtain ⟨hs2, he⟩ := hw.sim hsim
  exact ⟨v, v', os', _, rfl, ⟨rfl, rfl⟩, hs2.heap, hs2.slots 0, hext.trans he⟩

/-- What is known of a function that changes one object that it is handed. -/
structure Ef where
  A : Type
  args : A → Nat → List AV
  sz : Nat
  rows : A → List (List DV)
  ok : A → Prop
  val : A → AV
  rows' : A → List (List DV)

def Ef.fits (e : Ef) (p : e.A × Nat) (args : List AV) (H : Heap) : Prop := e.args p.1 p.2 = args ∧ H.at p.2 = .dvec e.sz (e.rows p.1)
def Ef.eff (e : Ef) (p : e.A × Nat) : Eff := ⟨e.ok p.1, e.val p.1, [(p.2, .dvec e.sz (e.rows' p.1))], [], none⟩
open Classical in
noncomputable def Ef.at (e : Ef) (args : List AV) (H : Heap) : Option Eff := if h : ∃ p, e.fits p args H then some (e.eff h.choose) else none

theorem Ef.at_fits {e : Ef} (hi : ∀ p q args H, e.fits p args H → e.fits q args H → p = q) {p : e.A × Nat} {args : List AV} {H : Heap} (h : e.fits p args H) : e.at args H = some (e.eff p) := by
  have h' : ∃ p, e.fits p args H := ⟨p, h⟩
  unfold Ef.at
  rw [dif_pos h', hi _ _ _ _ h'.choose_spec h]

structure Ef.Body (e : Ef) (T : Tab) (live : List Nat) (lc : LCode) (rs : List LRes) : Prop where
  ren : ∀ x (ρ : Nat → Nat), e.args x (ρ 0) = (e.args x 0).map (AV.ren ρ)
  val : ∀ x (ρ : Nat → Nat), (e.val x).ren ρ = e.val x
  body : ∀ x, e.ok x → vck T 1 live lc ⟨envFrom 0 (e.args x 0), [.dvec e.sz (e.rows x)]⟩ (retK rs (RetG 1 (e.val x) [.dvec e.sz (e.rows' x)]))

theorem Ef.Body.ok {P : Program} {T : Tab} (hT : TabOK P T) {e : Ef} {f : FuncId} {fn : Func} {c : Code} {lc : LCode} {rs : List LRes} {live : List Nat} (h : e.Body T live lc rs) (hf : P.funcs[f]? = some fn)
    (hname : (fn.name == "runtime.NumGoroutine") = false) (hb : fn.body = some c) (hl : lowCode P fn.ntmps c = some lc) (hr : lowRess P fn.results.toList = some rs) (ha : ∀ x, (e.args x 0).length ≤ fn.ntmps) :
    ∀ args H x, e.at args H = some x → x.ok → ACalls P f args H fun r H' => r = x.val ∧ H' = applyUps H x.ups ++ x.news := by
  intro args H x hx hok
  unfold Ef.at at hx
  split at hx
  case isFalse => cases hx
  rename_i hp
  have hfit := hp.choose_spec
  generalize hp.choose = q at hx hfit
  simp only [Option.some.injEq] at hx
  subst hx
  obtain ⟨x, id⟩ := q
  obtain ⟨h1, h2⟩ := hfit
  simp only at h1 h2
  subst h1
  have hlt : id < H.length := Heap.at_lt (H := H) (i := id) (by rw [h2]; trivial)
  have hcall : ACalls P f (e.args x 0) [.dvec e.sz (e.rows x)] (fun r H1 => r = e.val x ∧ H1 = [.dvec e.sz (e.rows' x)]) :=
    ACalls.exact (ACalls.of_vck hT live hf hname hb hl hr (ha x) (h.body x hok))
  have hfr : Framed H [id] [.dvec e.sz (e.rows' x)] (H.set id (.dvec e.sz (e.rows' x)) ++ []) := by
    refine ⟨by simp, fun j hj hm => ?_, fun i hi => ?_⟩
    · rw [List.append_nil, Heap.at_set hlt, if_neg (fun h => hm (by simp [h]))]
    · have : i = 0 := by simpa using hi
      subst this
      rw [List.append_nil, into_lt (by simp), Heap.at_set hlt]
      simp [Heap.at, HO.ren]
  have := ACalls.frame (ids := [id]) (by simp) (by simp) (by simpa using hlt) (by simp) (fun k hk => by
    have : k = 0 := by simpa using hk
    subst this
    simp only [List.getElem_cons_zero, h2]
    simp [Heap.at, HO.ren]) hfr hcall
  have e1 : (e.args x 0).map (AV.ren (into H [id])) = e.args x id := by
    rw [← h.ren x (into H [id])]
    rw [into_lt (by simp)]; rfl
  rw [e1, h.val] at this
  exact this

theorem Ef.at_take {e : Ef} {args : List AV} {H : Heap} {x : Eff} (h : e.at args H = some x) : x.take = none := by
  unfold Ef.at at h
  split at h
  · simp only [Option.some.injEq] at h; subst h; rfl
  · cases h
theorem Ef.Body.tab {P : Program} {T T0 : Tab} {e : Ef} {live : List Nat} {lc : LCode} {rs : List LRes} (h : e.Body T live lc rs) (hT : TabOK P T) (hT0 : TabOK P T0) {f : FuncId} {fn : Func} {c : Code} (hf : P.funcs[f]? = some fn)
    (hname : (fn.name == "runtime.NumGoroutine") = false) (hb : fn.body = some c) (hl : lowCode P fn.ntmps c = some lc) (hr : lowRess P fn.results.toList = some rs) (ha : ∀ x, (e.args x 0).length ≤ fn.ntmps) : TabOK P (T0.addG f e.at) :=
  hT0.addG (Ef.Body.ok hT h hf hname hb hl hr ha) fun args H x t h1 h2 => by rw [Ef.at_take h1] at h2; cases h2

end Go.Ago

/- An object of ours that nobody changes any more is said as data from here on. Conditions: none. -/
set_option linter.unusedSimpArgs false
set_option linter.unusedVariables false
namespace Go.Ago


/-- The rows of an object, as data. -/
def HO.data : HO → Option (Nat × List (List DV))
  | .dead => none
  | .dvec sz l => some (sz, l)
  | .vec sz l => (drows l).map fun ds => (sz, ds)

/-! ### Rules -/
/-! ### Rows of data, said as rows of cells -/
end Go.Ago

/- Words of 64 bits: rows of them, the operations on them, and sets of bits. Conditions: none. -/
set_option linter.unusedSimpArgs false
set_option linter.unusedVariables false
namespace Go.Ago

abbrev W := BitVec 64
def rowW (x : W) : List DV := [.int .u64 (x.toNat : Int)]
theorem W.inj {x y : W} (h : (x.toNat : Int) = (y.toNat : Int)) : x = y := BitVec.eq_of_toNat_eq (by omega)
theorem rowW_inj (x y : W) (h : rowW x = rowW y) : x = y := by
  simp only [rowW, List.cons.injEq, DV.int.injEq, and_true, true_and] at h
  exact W.inj h
theorem idx_W {l : List W} {full : Bool} {kd : IntKind} {n : Int} {k : Delta → Prop} : stepK (evIdxAddr 1 (.d (.list (l.map rowW) full)) (.d (.int kd n))) k ↔ (0 ≤ n ∧ n < l.length) ∧ k ⟨.dptr (rowW (l.getD n.toNat default)) 0, [], []⟩ := stepK_idx_map (fun _ => rfl)
theorem set_rowW {l : List W} {i : Nat} {x : W} : (l.map rowW).set i [.int .u64 (x.toNat : Int)] = (l.set i x).map rowW := by rw [List.map_set]; rfl
theorem app_rowW {l : List W} {x : W} : l.map rowW ++ [[.int .u64 (x.toNat : Int)]] = (l ++ [x]).map rowW := by simp [rowW]
theorem app_rowW0 {l : List W} : l.map rowW ++ [[.int .u64 0]] = (l ++ [0#64]).map rowW := by simp [rowW]
theorem rep_rowW0 {n : Nat} : List.replicate n [DV.int .u64 0] = (List.replicate n 0#64).map rowW := by simp [rowW]
theorem lens_W {l : List W} : (∀ r ∈ l.map rowW, r.length = 1) ↔ True := ⟨fun _ => trivial, fun _ => rows_len (f := rowW) (fun _ => rfl) l⟩
theorem lensA_W {l : List W} : (∀ r ∈ List.map (fun x => List.map AV.d x) (l.map rowW), r.length = 1) ↔ True := ⟨fun _ => trivial, fun _ r hr => by
  obtain ⟨x, hx, rfl⟩ := List.mem_map.1 hr
  simpa using rows_len (f := rowW) (sz := 1) (fun _ => rfl) l x hx⟩
theorem scal_rowW {l : List W} : (∀ r ∈ l.map rowW, ∀ x ∈ r, DV.scal x = true) ↔ True := ⟨fun _ => trivial, fun _ r hr x hx => by
  obtain ⟨n, _, rfl⟩ := List.mem_map.1 hr; simp [rowW] at hx; subst hx; rfl⟩
theorem default_W : (default : W) = 0#64 := rfl

/-- Not by 'rfl': the kernel would reckon the number out. -/
theorem toNat_cast {n : Nat} : ((n : Nat) : Int).toNat = n := by omega
theorem evIdxArr_d {len sz : Nat} {cs : List DV} {j : Nat} {kd : IntKind} {n : Int} : evIdxArrAddr len sz (.dptr cs j) (.d (.int kd n)) = .v (0 ≤ n ∧ n < len) (.dptr cs (j + n.toNat * sz)) := rfl
theorem evIdxArr_p {len sz id sz0 row j : Nat} {kd : IntKind} {n : Int} : evIdxArrAddr len sz (.ptr id sz0 row j) (.d (.int kd n)) = .v (0 ≤ n ∧ n < len) (.ptr id sz0 row (j + n.toNat * sz)) := rfl

def rowB (b : Bool) : List DV := [.bool b]
theorem rep_rowB {n : Nat} : List.replicate n [DV.bool false] = (List.replicate n false).map rowB := by simp [rowB]
theorem set_rowB {l : List Bool} {i : Nat} {b : Bool} : (l.map rowB).set i [.bool b] = (l.set i b).map rowB := by rw [List.map_set]; rfl
def rowN (x : Nat) : List DV := [.int .i64 (x : Int)]
/-! ### Operations -/
theorem wlt (x : W) : x.toNat < 18446744073709551616 := x.isLt
theorem bits_u64 : IntKind.u64.bits = 64 := rfl
theorem wrap_w {n : Int} : IntKind.u64.wrap n = ((BitVec.ofInt 64 n).toNat : Int) := by
  rw [IntKind.wrap_u64]
  simp [BitVec.toNat_ofInt]
  omega
theorem ofInt_w (x : W) : BitVec.ofInt 64 (x.toNat : Int) = x := by
  apply BitVec.eq_of_toNat_eq
  simp [BitVec.toNat_ofInt]
theorem w_or {x y : W} : bits .or .u64 (x.toNat : Int) (y.toNat : Int) = ((x ||| y).toNat : Int) := by
  rw [bits_or_u64_nat _ _ (wlt x) (wlt y), BitVec.toNat_or]
theorem w_and {x y : W} : bits .and .u64 (x.toNat : Int) (y.toNat : Int) = ((x &&& y).toNat : Int) := by
  rw [bits_and_u64_nat _ _ (wlt x) (wlt y), BitVec.toNat_and]
theorem w_andNot {x y : W} : bits .andNot .u64 (x.toNat : Int) (y.toNat : Int) = ((x &&& ~~~y).toNat : Int) := by
  unfold bits
  simp only [bits_u64, ofInt_w]
  rw [wrap_w, ofInt_w]
  rfl
theorem w_and1 {x : W} : bits .and .u64 (x.toNat : Int) 1 = ((x &&& 1#64).toNat : Int) := w_and (y := 1#64)
theorem w_shl {x : W} {k : Nat} : IntKind.u64.wrap ((x.toNat : Int) * 2 ^ min k IntKind.u64.bits) = ((x <<< k).toNat : Int) := by
  rw [IntKind.wrap_u64, bits_u64]
  have e : ((x.toNat : Int) * 2 ^ min k 64) = ((x.toNat * 2 ^ min k 64 : Nat) : Int) := by push_cast; rfl
  rw [e, BitVec.toNat_shiftLeft, Nat.shiftLeft_eq]
  by_cases h : k ≤ 64
  · rw [Nat.min_eq_left h]; omega
  · rw [Nat.min_eq_right (by omega)]
    have h2 : x.toNat * 2 ^ k = x.toNat * 2 ^ (k - 64) * 2 ^ 64 := by rw [Nat.mul_assoc, ← Nat.pow_add]; congr 2; omega
    rw [h2]
    have h3 : x.toNat * 2 ^ (k - 64) * 2 ^ 64 % 2 ^ 64 = 0 := Nat.mul_mod_left _ _
    have h4 : x.toNat * 2 ^ 64 % 2 ^ 64 = 0 := Nat.mul_mod_left _ _
    omega
theorem w_shl1 {k : Nat} : IntKind.u64.wrap (1 * 2 ^ min k IntKind.u64.bits) = ((1#64 <<< k).toNat : Int) := w_shl (x := 1#64)
theorem w_shr {x : W} {k : Nat} : Int.fdiv (x.toNat : Int) (2 ^ min k IntKind.u64.bits) = ((x >>> k).toNat : Int) := by
  rw [bits_u64, BitVec.toNat_ushiftRight, Nat.shiftRight_eq_div_pow]
  have e : ((2 : Int) ^ min k 64) = ((2 ^ min k 64 : Nat) : Int) := by push_cast; rfl
  rw [e, ← Int.ofNat_fdiv]
  congr 1
  by_cases h : k ≤ 64
  · rw [Nat.min_eq_left h]
  · rw [Nat.min_eq_right (by omega)]
    have h1 : x.toNat / 2 ^ 64 = 0 := Nat.div_eq_of_lt x.isLt
    rw [h1]
    exact (Nat.div_eq_of_lt (Nat.lt_of_lt_of_le x.isLt (Nat.pow_le_pow_right (by omega) (by omega)))).symm
theorem w_sub1 {x : W} : IntKind.u64.wrap ((x.toNat : Int) - 1) = ((x - 1#64).toNat : Int) := by
  rw [IntKind.wrap_u64, BitVec.toNat_sub]
  have h1 : (1#64).toNat = 1 := rfl
  have h2 := wlt x
  rw [h1]
  omega
theorem w_add {x y : W} : IntKind.u64.wrap ((x.toNat : Int) + (y.toNat : Int)) = ((x + y).toNat : Int) := by
  rw [IntKind.wrap_u64, BitVec.toNat_add]
  omega
theorem w_neg {x : W} : IntKind.u64.wrap (0 - (x.toNat : Int)) = ((-x).toNat : Int) := by
  rw [IntKind.wrap_u64, BitVec.toNat_neg]
  have h2 := wlt x
  omega
theorem w_eq {x y : W} : ((x.toNat : Int) = (y.toNat : Int)) = (x = y) := propext ⟨W.inj, fun h => by rw [h]⟩
theorem w_eq0 {x : W} : ((x.toNat : Int) = 0) = (x = 0#64) := w_eq (y := 0#64)
theorem w_eq1 {x : W} : ((x.toNat : Int) = 1) = (x = 1#64) := w_eq (y := 1#64)
theorem w_bit {x : W} {k : Nat} : (x >>> k &&& 1#64 = 1#64) = (x.getLsbD k = true) := by
  apply propext
  constructor
  · intro h
    have := congrArg (fun y : W => y.getLsbD 0) h
    simpa using this
  · intro h
    apply BitVec.eq_of_getLsbD_eq
    intro i hi
    cases i with
    | zero => simpa using h
    | succ i => simp [BitVec.getLsbD_one]
/-! ### Sets of bits -/
theorem has_rowW {r : List DV} (h : (Sh.int .u64).has r) : ∃ x : W, r = rowW x ∧ True := by
  obtain ⟨n, rfl, h1, h2⟩ := has_u64 h
  refine ⟨BitVec.ofNat 64 n.toNat, ?_, trivial⟩
  unfold rowW
  have e : ((BitVec.ofNat 64 n.toNat).toNat : Int) = n := by
    rw [BitVec.toNat_ofNat]; omega
  rw [e]
end Go.Ago

/- Contracts of package rel: its small functions, and two relations laid together. Conditions: none. -/
set_option maxRecDepth 100000
set_option linter.unusedSimpArgs false
set_option linter.unusedVariables false
namespace Go.Ago

/-! ### Relations -/
/-! ### size, all, row, Has -/
/-! ### TrailingZeros64 -/
/-! ### Laid together -/
def fstW (x _ : W) : W := x
end Go.Ago

/- Contracts of package rel: Union, Inter, Minus, Then, Back. Conditions: none. -/
set_option maxRecDepth 100000
set_option linter.unusedSimpArgs false
set_option linter.unusedVariables false
namespace Go.Ago

/-! ### Then -/
end Go.Ago

/- Contracts of package rel: Back, Plus, Star, Ring. Conditions: none. -/
set_option maxRecDepth 100000
set_option linter.unusedSimpArgs false
set_option linter.unusedVariables false
namespace Go.Ago

/-! ### Back -/
/-! ### Plus -/
/-! Where no other function is laid: -/
def hs1 (n : Nat) : Nat → Option (W → W → W) := fun g => if g = n then some fstW else none
end Go.Ago

/- Contracts of package rel: Star, Ring, Of, Order. Conditions: none. -/
set_option maxRecDepth 100000
set_option linter.unusedSimpArgs false
set_option linter.unusedVariables false
namespace Go.Ago

/-! ### Star, Ring -/
/-! ### Of pairs -/
/-! ### Order -/
end Go.Ago

/- Contracts of package power: its small functions. Conditions: none. -/
set_option maxRecDepth 100000
set_option linter.unusedSimpArgs false
set_option linter.unusedVariables false
namespace Go.Ago

/-! ### Rows that a call made, taken as data -/
/-! ### Rows by a rule -/
/-! ### keep -/
/-! ### Two loops, bit by bit -/
/-! ### fit -/
/-! ### trim -/
/-! ### where -/
/-- A node of an execution is a row of four numbers, as an act is: Thread, Kind, Loc, Val. -/
abbrev NodeG := ActG
def NodeG.kd (n : NodeG) : Int := n.loc
def NodeG.lc (n : NodeG) : Int := n.old
/-- What a candidate execution is, and what is made of it. -/
structure MG where
  nodes : List NodeG
  nf : Bool
  xn : List NodeG
  xf : Bool
  po : List W
  rf : List W
  co : List W
  fr : List W
  addr : List W
  data : List W
  ctrl : List W
  fenced : List W
  sync : List W
  lwsync : List W
  pairs : List W
  read : W
  write : W
def lsW (r : List W) : DV := .list (r.map rowW) false
def MG.cells (m : MG) : List DV := [.list (m.nodes.map ActG.row) m.nf, .list (m.xn.map ActG.row) m.xf, lsW m.po, lsW m.rf, lsW m.co, lsW m.fr, lsW m.addr, lsW m.data, lsW m.ctrl, lsW m.fenced, lsW m.sync, lsW m.lwsync, lsW m.pairs,
  .int .u64 (m.read.toNat : Int), .int .u64 (m.write.toNat : Int)]
/-! ### ext, poloc -/
/-! ### all -/
end Go.Ago

/- Weight, the middle one: what is sorted, and the reference's. Conditions: none. -/
set_option maxRecDepth 100000
set_option linter.unusedSimpArgs false
set_option linter.unusedVariables false
namespace Go.Ago
open Go.Sort
attribute [local irreducible] vck
theorem body_slices_Clone_float64 {T : Tab} : (cloneS 1 8).Body T V_slices_Clone_float64 L_slices_Clone_float64 R_slices_Clone_float64 := by
  rintro ⟨l, full⟩ ⟨h1, h2⟩
  refine ⟨h1, ?_⟩
  unfold V_slices_Clone_float64 L_slices_Clone_float64 R_slices_Clone_float64
  simp only [↓vck_skip, ↓vck_ret, ↓vck_exit, ↓Z10, ↓vck_nilq, ↓nilTo_to, nilG_d, nilG_r, ↓vck_seq, ↓vck_cond, ↓vck_block, ↓vck_loop, ↓vckTo_to, ↓thenK_n, ↓thenK_x, ↓thenK_r, ↓blockK_n, ↓blockK_x, ↓blockK_o, ↓blockK_r, ↓regK_to, ↓retK_r, ↓retK_n, ↓loopV_n, ↓loopV_x, ↓loopV_r, ↓famK_n, ↓famK_x, ↓famK_r, ↓Z0g, ↓Z08, ↓boolK_not, ↓boolK_dec, ↓boolK_and, nf_mk, RGk_end_f, RGk_end_t, RGk_op, RGk_guard, opK_to, evN, evCallN, grow_mk, feet_f, feet_t, foot_mk, stepK_mk, stepK_v, stepK_no, guardG_t, guardG_f, guardG_no, condG_b, evT, Opd.ev, Z11, Z07, app_to, app_no, app_up, app_skip, app_skipn, know_mk, knowO_t, knowO_c, envFrom, Z09, keeps, LOp.isNew, State.prune, cellsQ, Z12, AV.leaf, Heap.at, Z0t, Z0b, loadO_vec, Z0e, Z01, idx_I, idx_U, idx_Rat, idx_Loc, idx_Act, idx_Step, idx_Stamp, Z03, Z0c, Z0z, Z00, loadDT_f, rowI, rowU, RatG.row, LocG.row, ActG.row, StepG.row, StampG.row, ActG.av, ActG.eta, RatG.eta, LocG.eta, beq_true, beq_false, loadDT_t, set_rowI, set_rowU, app_rowI, app_rowU, rep_rowI, rep_rowU, Z0y, Z0k, Z0w, Z0x, Z0j, Z0i, Z0a, List.length_set, List.length_replicate, Int.toNat_natCast, Int.reduceToNat, evLen, evAppend, srcOf, Src.all, Src.len, Src.leaf, Src.leafN, evApart, aliveQ, joinV, Z0l, Z0m, Z0n, Z0o, Z0p, Z0q, Z0r, Z0s, mkVec, drows, evMk, List.length_map, take_map_len, take_map_ge, loadQ, loadT, evBin, evUn, binT, binQ, chk, apartF, List.contains_cons, List.contains_nil, Bool.or_false, Bool.false_or, Bool.and_self, resQ, resV, resT, pickV, evCallT, evTake, evCall, fnOf, viewsT, isD, HO.drow, viewT, evInt2, evEq, eqV, eqK, eqC1, buildQ, buildT, buildRQ, buildRT, lens_I, lensA_I, lens_U, lensA_U, lens_Rat, lensA_Rat, lens_Loc, lensA_Loc, lens_Act, lensA_Act, lens_Step, Z0u, Z0v, Z0d, List.mem_cons, List.not_mem_nil, or_false, forall_eq, putRow, dcells, get_nil, RetS, RetF, RetD, AV.frz, AV.frzL, AV.freshP, AV.freshL, DV.less, scal_int, scal_bool, scal_nil, scal_rowI, scal_rowU, Z0f, Z04, Option.some.injEq, AV.tup.injEq, AV.agg.injEq, List.cons.injEq, DV.list.injEq, List.isEmpty_nil, Nat.le_refl, AV.d.injEq, DV.int.injEq, DV.bool.injEq, ↓reduceIte, Nat.reduceEqDiff, Nat.reduceAdd, Nat.reduceBEq, List.length_cons, List.length_nil, List.replicate_succ, List.replicate_zero, List.nil_append, List.cons_append, List.append_nil, List.foldl_cons, List.foldl_nil, List.map_cons, List.map_nil, List.all_cons, List.all_nil, List.set_cons_zero, List.set_cons_succ, List.getD_cons_zero, List.getD_cons_succ, List.drop_zero, List.drop_succ_cons, List.take_succ_cons, List.take_zero, List.flatten_cons, List.flatten_nil, Bool.true_and, Bool.and_true, Bool.not_true, Bool.not_false, true_and, and_true, true_or, or_true, Option.bind_some, Option.map_some, decide_true, decide_false, beq_self_eq_true, true_implies, false_implies, implies_true, not_true_eq_false, not_false_eq_true, and_self, Bool.and_false, Bool.false_and, Nat.reduceLT, Nat.reduceLeDiff, List.reverse_cons, List.reverse_nil, Nat.zero_add, Nat.add_zero, Bool.false_eq_true, List.getElem?_cons_zero, cloneS]
  exact clone_end h1 h2
def sp_nanW : Sp := ⟨Unit, fun _ => [], fun _ => .data True (.d (.flt .f64 9221120237041090561)) true⟩
theorem at_nanW : sp_nanW.at [] = .data True (.d (.flt .f64 9221120237041090561)) true := Sp.at_enc (s := sp_nanW) (fun _ _ _ => rfl) ()
theorem body_math_NaN {T : Tab} : sp_nanW.Body T V_math_NaN L_math_NaN R_math_NaN := by
  rintro x -
  refine .inl ⟨rfl, ?_⟩
  unfold V_math_NaN L_math_NaN R_math_NaN
  simp only [↓vck_skip, ↓vck_ret, ↓vck_exit, ↓Z10, ↓vck_nilq, ↓nilTo_to, nilG_d, nilG_r, ↓vck_seq, ↓vck_cond, ↓vck_block, ↓vck_loop, ↓vckTo_to, ↓thenK_n, ↓thenK_x, ↓thenK_r, ↓blockK_n, ↓blockK_x, ↓blockK_o, ↓blockK_r, ↓regK_to, ↓retK_r, ↓retK_n, ↓loopV_n, ↓loopV_x, ↓loopV_r, ↓famK_n, ↓famK_x, ↓famK_r, ↓Z0g, ↓Z08, ↓boolK_not, ↓boolK_dec, ↓boolK_and, nf_mk, RGk_end_f, RGk_end_t, RGk_op, RGk_guard, opK_to, evN, evCallN, grow_mk, feet_f, feet_t, foot_mk, stepK_mk, stepK_v, stepK_no, guardG_t, guardG_f, guardG_no, condG_b, evT, Opd.ev, Z11, Z07, app_to, app_no, app_up, app_skip, app_skipn, know_mk, knowO_t, knowO_c, envFrom, Z09, keeps, LOp.isNew, State.prune, cellsQ, Z12, AV.leaf, Heap.at, Z0t, Z0b, loadO_vec, Z0e, Z01, idx_I, idx_W, rowW, set_rowW, app_rowW, app_rowW0, rep_rowW0, rowB, set_rowB, rep_rowB, rowN, lens_W, lensA_W, scal_rowW, default_W, w_or, w_and, w_andNot, w_and1, w_shl, w_shl1, w_shr, w_sub1, w_neg, w_add, w_bit, w_eq0, w_eq1, w_eq, Bool.decide_eq_true, idx_Rat, idx_Loc, idx_Act, idx_Step, idx_Stamp, Z03, Z0c, Z0z, Z00, loadDT_f, rowI, RatG.row, LocG.row, ActG.row, StepG.row, StampG.row, ActG.av, ActG.eta, RatG.eta, LocG.eta, beq_true, beq_false, loadDT_t, set_rowI, app_rowI, rep_rowI, Z0y, Z0k, Z0w, Z0x, Z0j, Z0i, Z0a, List.length_set, List.length_replicate, toNat_cast, Int.reduceToNat, evLen, evAppend, srcOf, Src.all, Src.len, Src.leaf, Src.leafN, evApart, aliveQ, joinV, Z0l, Z0m, Z0n, Z0o, Z0p, Z0q, Z0r, Z0s, mkVec, drows, evMk, List.length_map, Z06, Z05, List.take_length, List.take_left, List.length_append, Nat.le_add_right, ite_self, List.take_of_length_le, evSlice, intOr, intOpd, Option.isSome_none, Option.isSome_some, Nat.sub_zero, loadQ, loadT, evBin, evUn, evIdxArr_d, evIdxArr_p, binT, binQ, chk, apartF, List.contains_cons, List.contains_nil, Bool.or_false, Bool.false_or, Bool.and_self, resQ, resV, resT, pickV, evCallT, evTake, evCall, fnOf, viewsT, isD, HO.drow, viewT, evInt2, evEq, eqV, eqK, eqC1, buildQ, buildT, buildRQ, buildRT, lens_I, lensA_I, lens_Rat, lensA_Rat, lens_Loc, lensA_Loc, lens_Act, lensA_Act, lens_Step, Z0u, Z0v, Z0d, List.mem_cons, List.not_mem_nil, or_false, forall_eq, putRow, dcells, get_nil, RetS, RetF, RetD, AV.frz, AV.frzL, AV.freshP, AV.freshL, DV.less, scal_int, scal_bool, scal_nil, scal_rowI, Z0f, Z04, Option.some.injEq, AV.tup.injEq, AV.agg.injEq, List.cons.injEq, DV.list.injEq, List.isEmpty_nil, Nat.le_refl, AV.d.injEq, DV.int.injEq, DV.bool.injEq, ↓reduceIte, Nat.reduceEqDiff, Nat.reduceAdd, Nat.reduceBEq, List.length_cons, List.length_nil, List.replicate_succ, List.replicate_zero, List.nil_append, List.cons_append, List.append_nil, List.foldl_cons, List.foldl_nil, List.map_cons, List.map_nil, List.all_cons, List.all_nil, List.set_cons_zero, List.set_cons_succ, List.getD_cons_zero, List.getD_cons_succ, List.drop_zero, List.drop_succ_cons, List.take_succ_cons, List.take_zero, List.flatten_cons, List.flatten_nil, Bool.true_and, Bool.and_true, Bool.not_true, Bool.not_false, true_and, and_true, true_or, or_true, Option.bind_some, Option.map_some, decide_true, decide_false, beq_self_eq_true, true_implies, false_implies, implies_true, not_true_eq_false, not_false_eq_true, and_self, Bool.and_false, Bool.false_and, Nat.reduceLT, Nat.reduceLeDiff, List.reverse_cons, List.reverse_nil, Nat.zero_add, Nat.add_zero, Bool.false_eq_true, List.getElem?_cons_zero, Nat.reduceMul, Nat.mul_one, evFl, fltQ, fltT, DV.flt.injEq, app_rowF, Z05, getF, idx_F, lensA_F, lens_F, loadF, scal_flt, scal_rowF, Z06, sp_nanW]
def cfN (b c : Nat) : Int := if fLess b c then -1 else if fLess c b then 1 else 0
def sp_mid1 : Sp := ⟨Nat × Nat, fun x => [.d (.flt .f64 x.1), .d (.flt .f64 x.2)], fun x => .data (f64 x.1 ∧ f64 x.2) (.d (.int .i64 (cfN x.1 x.2))) true⟩
theorem at_mid1 (b c : Nat) : sp_mid1.at [.d (.flt .f64 b), .d (.flt .f64 c)] = .data (f64 b ∧ f64 c) (.d (.int .i64 (cfN b c))) true :=
  Sp.at_enc (s := sp_mid1) (fun x y h => by
    obtain ⟨a, b⟩ := x; obtain ⟨a', b'⟩ := y
    simpa [sp_mid1] using h) (b, c)
theorem body_weight_Middle_1 {T : Tab} {n1 : Nat} (k1 : Knows T n1 (sp_fb2 fLess)) : sp_mid1.Body T V_weight_Middle_1 (L_weight_Middle_1 n1) R_weight_Middle_1 := by
  have F1 := k1.F; have G1 := k1.G
  rintro ⟨b, c⟩ ⟨hb, hc⟩
  have hb : f64 b := hb
  have hc : f64 c := hc
  refine .inl ⟨rfl, ?_⟩
  unfold V_weight_Middle_1 L_weight_Middle_1 R_weight_Middle_1
  simp only [↓vck_skip, ↓vck_ret, ↓vck_exit, ↓Z10, ↓vck_nilq, ↓nilTo_to, nilG_d, nilG_r, ↓vck_seq, ↓vck_cond, ↓vck_block, ↓vck_loop, ↓vckTo_to, ↓thenK_n, ↓thenK_x, ↓thenK_r, ↓blockK_n, ↓blockK_x, ↓blockK_o, ↓blockK_r, ↓regK_to, ↓retK_r, ↓retK_n, ↓loopV_n, ↓loopV_x, ↓loopV_r, ↓famK_n, ↓famK_x, ↓famK_r, ↓Z0g, ↓Z08, ↓boolK_not, ↓boolK_dec, ↓boolK_and, nf_mk, RGk_end_f, RGk_end_t, RGk_op, RGk_guard, opK_to, evN, evCallN, grow_mk, feet_f, feet_t, foot_mk, stepK_mk, stepK_v, stepK_no, guardG_t, guardG_f, guardG_no, condG_b, evT, Opd.ev, Z11, Z07, app_to, app_no, app_up, app_skip, app_skipn, know_mk, knowO_t, knowO_c, envFrom, Z09, keeps, LOp.isNew, State.prune, cellsQ, Z12, AV.leaf, Heap.at, Z0t, Z0b, loadO_vec, Z0e, Z01, idx_I, idx_W, rowW, set_rowW, app_rowW, app_rowW0, rep_rowW0, rowB, set_rowB, rep_rowB, rowN, lens_W, lensA_W, scal_rowW, default_W, w_or, w_and, w_andNot, w_and1, w_shl, w_shl1, w_shr, w_sub1, w_neg, w_add, w_bit, w_eq0, w_eq1, w_eq, Bool.decide_eq_true, idx_Rat, idx_Loc, idx_Act, idx_Step, idx_Stamp, Z03, Z0c, Z0z, Z00, loadDT_f, rowI, RatG.row, LocG.row, ActG.row, StepG.row, StampG.row, ActG.av, ActG.eta, RatG.eta, LocG.eta, beq_true, beq_false, loadDT_t, set_rowI, app_rowI, rep_rowI, Z0y, Z0k, Z0w, Z0x, Z0j, Z0i, Z0a, List.length_set, List.length_replicate, toNat_cast, Int.reduceToNat, evLen, evAppend, srcOf, Src.all, Src.len, Src.leaf, Src.leafN, evApart, aliveQ, joinV, Z0l, Z0m, Z0n, Z0o, Z0p, Z0q, Z0r, Z0s, mkVec, drows, evMk, List.length_map, Z06, Z05, List.take_length, List.take_left, List.length_append, Nat.le_add_right, ite_self, List.take_of_length_le, evSlice, intOr, intOpd, Option.isSome_none, Option.isSome_some, Nat.sub_zero, loadQ, loadT, evBin, evUn, evIdxArr_d, evIdxArr_p, binT, binQ, chk, apartF, List.contains_cons, List.contains_nil, Bool.or_false, Bool.false_or, Bool.and_self, resQ, resV, resT, pickV, evCallT, evTake, evCall, fnOf, viewsT, isD, HO.drow, viewT, evInt2, evEq, eqV, eqK, eqC1, buildQ, buildT, buildRQ, buildRT, lens_I, lensA_I, lens_Rat, lensA_Rat, lens_Loc, lensA_Loc, lens_Act, lensA_Act, lens_Step, Z0u, Z0v, Z0d, List.mem_cons, List.not_mem_nil, or_false, forall_eq, putRow, dcells, get_nil, RetS, RetF, RetD, AV.frz, AV.frzL, AV.freshP, AV.freshL, DV.less, scal_int, scal_bool, scal_nil, scal_rowI, Z0f, Z04, Option.some.injEq, AV.tup.injEq, AV.agg.injEq, List.cons.injEq, DV.list.injEq, List.isEmpty_nil, Nat.le_refl, AV.d.injEq, DV.int.injEq, DV.bool.injEq, ↓reduceIte, Nat.reduceEqDiff, Nat.reduceAdd, Nat.reduceBEq, List.length_cons, List.length_nil, List.replicate_succ, List.replicate_zero, List.nil_append, List.cons_append, List.append_nil, List.foldl_cons, List.foldl_nil, List.map_cons, List.map_nil, List.all_cons, List.all_nil, List.set_cons_zero, List.set_cons_succ, List.getD_cons_zero, List.getD_cons_succ, List.drop_zero, List.drop_succ_cons, List.take_succ_cons, List.take_zero, List.flatten_cons, List.flatten_nil, Bool.true_and, Bool.and_true, Bool.not_true, Bool.not_false, true_and, and_true, true_or, or_true, Option.bind_some, Option.map_some, decide_true, decide_false, beq_self_eq_true, true_implies, false_implies, implies_true, not_true_eq_false, not_false_eq_true, and_self, Bool.and_false, Bool.false_and, Nat.reduceLT, Nat.reduceLeDiff, List.reverse_cons, List.reverse_nil, Nat.zero_add, Nat.add_zero, Bool.false_eq_true, List.getElem?_cons_zero, Nat.reduceMul, Nat.mul_one, sp_mid1, F1, G1, at_fb2]
  unfold cfN
  refine ⟨⟨hb, hc⟩, fun h => by rw [if_pos h], fun h => ⟨⟨hc, hb⟩, fun h2 => by rw [h, h2]; rfl, fun h2 => by rw [h, h2]; rfl⟩⟩
/-! ### What slices.SortFunc leaves -/
def cfW (x y : BitVec 64) : Int := cfN x.toNat y.toNat
def encW (x : BitVec 64) : Value := .float .f64 x.toNat
def rowBW (x : BitVec 64) : DV := .flt .f64 x.toNat
theorem relW (M : Nat → Prop) (w : World) (x : BitVec 64) (v : Value) (h : RelD M w (rowBW x) v) : v = encW x := by
  unfold rowBW at h; cases h; rfl
theorem relW' (M : Nat → Prop) (w : World) (x : BitVec 64) : RelD M w (rowBW x) (encW x) := .flt _ _
theorem lt_cfW (x y : BitVec 64) : Go.Proofs.ltOf cfW x y = fLess x.toNat y.toNat := by
  unfold Go.Proofs.ltOf cfW cfN
  cases fLess x.toNat y.toNat <;> cases fLess y.toNat x.toNat <;> decide
theorem swo_cfW : SWO (Go.Proofs.ltOf cfW) where
  irrefl x := by rw [lt_cfW]; simp [fLess]
  trans x y z := by simp only [lt_cfW]; unfold fLess; simp; omega
  ntrans x y z := by simp only [lt_cfW]; unfold fLess; simp; omega
def toW (R : List Nat) : List (BitVec 64) := R.map (BitVec.ofNat 64)
def sortW (R : List Nat) : Array (BitVec 64) := pdq (Go.Proofs.ltOf cfW) (toW R).toArray 0 (toW R).length (Go.Lib.bitLen (toW R).length) true true
def sortN (R : List Nat) : List Nat := (sortW R).toList.map (·.toNat)
theorem toW_len (R : List Nat) : (toW R).length = R.length := by unfold toW; simp
theorem toW_nat {R : List Nat} (h : ∀ b ∈ R, f64 b) : (toW R).map (·.toNat) = R := by
  unfold toW
  rw [List.map_map]
  conv => rhs; rw [← List.map_id R]
  refine List.map_congr_left fun b hb => ?_
  have : b < 18446744073709551616 := h b hb
  simp [Nat.mod_eq_of_lt this]
theorem toW_rows {R : List Nat} (h : ∀ b ∈ R, f64 b) : R.map rowF = (toW R).map fun x => [rowBW x] := by
  conv => lhs; rw [← toW_nat h]
  rw [List.map_map]; rfl
theorem sortN_rows (R : List Nat) : (sortN R).map rowF = (sortW R).toList.map fun x => [rowBW x] := by
  unfold sortN; rw [List.map_map]; rfl
def ef_sortF (gm : Nat) : Ef where
  A := List Nat × Nat × Bool
  args := fun x id => [.ref id 1 0 x.2.1 x.2.2, .d (.fn gm)]
  sz := 1
  rows := fun x => x.1.map rowF
  ok := fun x => x.2.1 = x.1.length ∧ x.1 ≠ [] ∧ x.1.length ≤ 1000000 ∧ ∀ b ∈ x.1, f64 b
  val := fun _ => .tup []
  rows' := fun x => (sortN x.1).map rowF
open Classical in
noncomputable def sortE (o : HO) (id n : Nat) : Option Eff := if h : ∃ R, o = .dvec 1 (R.map rowF) then some ⟨n = h.choose.length ∧ h.choose ≠ [] ∧ h.choose.length ≤ 1000000 ∧ (∀ b ∈ h.choose, f64 b), .tup [], [(id, .dvec 1 ((sortN h.choose).map rowF))], [], none⟩ else none
theorem sortE_d {R : List Nat} {id n : Nat} : sortE (.dvec 1 (R.map rowF)) id n = some ⟨n = R.length ∧ R ≠ [] ∧ R.length ≤ 1000000 ∧ (∀ b ∈ R, f64 b), .tup [], [(id, .dvec 1 ((sortN R).map rowF))], [], none⟩ := by
  have h : ∃ R' : List Nat, HO.dvec 1 (R.map rowF) = .dvec 1 (R'.map rowF) := ⟨R, rfl⟩
  unfold sortE
  rw [dif_pos h]
  have e : R = h.choose := by
    have h1 := h.choose_spec
    simp only [HO.dvec.injEq, true_and] at h1
    exact rows_inj rowF_inj (by simpa using h1)
  rw [← e]
theorem at_sortF {gm id n : Nat} {room : Bool} {H : Heap} : (ef_sortF gm).at [.ref id 1 0 n room, .d (.fn gm)] H = sortE (H.at id) id n := by
  by_cases h : ∃ R : List Nat, H.at id = .dvec 1 (R.map rowF)
  · obtain ⟨R, hR⟩ := h
    rw [hR, sortE_d]
    refine (Ef.at_fits (e := ef_sortF gm) (p := ((R, n, room), id)) ?_ ⟨rfl, hR⟩).trans rfl
    rintro ⟨⟨a, b, c⟩, p⟩ ⟨⟨a', b', c'⟩, p'⟩ args H ⟨h1, h2⟩ ⟨h3, h4⟩
    simp only [ef_sortF] at h1 h2 h3 h4
    rw [← h1] at h3
    simp only [List.cons.injEq, AV.ref.injEq, and_true, true_and] at h3
    obtain ⟨rfl, rfl, rfl⟩ := h3
    rw [h2] at h4
    simp only [HO.dvec.injEq, true_and] at h4
    rw [rows_inj rowF_inj h4]
  · unfold Ef.at sortE
    rw [dif_neg h, dif_neg]
    rintro ⟨⟨⟨a, b, c⟩, p⟩, h1, h2⟩
    simp only [ef_sortF, List.cons.injEq, AV.ref.injEq, and_true, true_and] at h1 h2
    obtain ⟨rfl, _⟩ := h1
    exact h ⟨_, h2⟩
/-- The kit's summary puts this effect into the table. -/
theorem sortF_tab {P : Program} {T T0 : Tab} (hT : TabOK P T) (hT0 : TabOK P T0) {ρ : Go.Shelf.Ren} (L : Go.Proofs.SlLaysF.n6 P ρ) {f g : Nat} (hf : ρ.f 6 = f) (hE : Enters P f) (k1 : Knows T g sp_mid1) (eg : ∀ args w, (callFunc g args).run P w = .ok (.enter g args) w) :
    TabOK P (T0.addG f (ef_sortF g).at) := by
  refine hT0.addG (fun args H e he hok => ?_) (fun args H e t h1 h2 => by rw [Ef.at_take h1] at h2; cases h2)
  unfold Ef.at at he
  split at he
  case isFalse => cases he
  rename_i hp
  have hfit := hp.choose_spec
  generalize hp.choose = q at he hfit
  simp only [Option.some.injEq] at he
  subst he
  obtain ⟨⟨R, n, room⟩, id⟩ := q
  obtain ⟨h1, h2⟩ := hfit
  simp only [ef_sortF] at h1 h2
  subst h1
  obtain ⟨h3, h4, h5, h6⟩ := hok
  simp only at h3 h4 h5 h6
  subst h3
  subst hf
  have hat : H.at id = .dvec 1 ((toW R).map fun x => [rowBW x]) := by rw [h2, toW_rows h6]
  have hg : ∀ x y : BitVec 64, ACalls P g [.d (rowBW x), .d (rowBW y)] [] fun r _ => r = .d (.int .i64 (cfW x y)) := fun x y => by
    have hx := hT.F.data g [.d (rowBW x), .d (rowBW y)] _ _ _ ((congrFun k1.F _).trans (at_mid1 x.toNat y.toNat)) ⟨x.isLt, y.isLt⟩
    refine hx.2.mono fun r H' h => ?_
    cases h.1
    rfl
  have main := acall_sortFunc (enc := encW) (row := rowBW) L hE (fun x => rfl) relW relW' swo_cfW hg eg hat (by intro e; apply h4; have := toW_len R; rw [e] at this; exact List.length_eq_zero_iff.1 this.symm) (by rw [toW_len]; omega) room
  rw [toW_len] at main
  refine main.mono ?_
  rintro r H' ⟨rfl, rfl⟩
  refine ⟨rfl, ?_⟩
  simp only [Ef.eff, ef_sortF, applyUps, List.foldl_cons, List.foldl_nil, List.append_nil, sortN_rows]
  unfold sortW
  rw [toW_len]
end Go.Ago

/- Whole numbers as floats, and their quotients. Conditions: none. -/
set_option maxRecDepth 100000
set_option linter.unusedSimpArgs false
set_option linter.unusedVariables false
namespace Go.Ago

end Go.Ago

/- The contracts of the reference of layer 1: those of package rat. Conditions: none. -/
set_option maxRecDepth 100000
set_option linter.unusedSimpArgs false
set_option linter.unusedVariables false
namespace Go.Ago

end Go.Ago

/- The laws of layer 1, as bodies that answer true. Conditions: none. -/
set_option maxRecDepth 100000
set_option linter.unusedSimpArgs false
set_option linter.unusedVariables false
namespace Go.Ago


/-! ### The plain laws -/
end Go.Ago

/- The laws of layer 3, as bodies that answer true. Conditions: none. -/
set_option maxRecDepth 100000
set_option linter.unusedSimpArgs false
set_option linter.unusedVariables false
namespace Go.Ago

theorem fOf12 : fOf 1 2 = some 4602678819172646912 := by kernel_rfl

theorem body_law03_awake {T : Tab} {n1 n2 n3 : Nat} (k1 : Knows T n1 (sp_fb2 fLess)) (k2 : Knows T n2 sp_wOf) (k3 : Knows T n3 sp_least) : sp_true.Body T V_law03_awake (L_law03_awake n1 n2 n3) R_law03_awake := by
  have F1 := k1.F; have G1 := k1.G; have F2 := k2.F; have G2 := k2.G; have F3 := k3.F; have G3 := k3.G
  rintro x -
  refine .inl ⟨rfl, ?_⟩
  unfold V_law03_awake L_law03_awake R_law03_awake
  have h1 : ∀ full, sp_least.at [.d (.list [[.flt .f64 4613937818241073152], [.flt .f64 4607182418800017408]] full)] = .data (2 ≤ maxLen ∧ ∀ b ∈ [4613937818241073152, 4607182418800017408], f64 b) (.d (.int .i64 1)) true := fun full => by
    have := at_least [4613937818241073152, 4607182418800017408] full
    rw [show leastTo [4613937818241073152, 4607182418800017408] [4613937818241073152, 4607182418800017408].length = 1 by decide] at this
    exact this
  simp only [↓vck_skip, ↓vck_ret, ↓vck_exit, ↓Z10, ↓vck_nilq, ↓nilTo_to, nilG_d, nilG_r, ↓vck_seq, ↓vck_cond, ↓vck_block, ↓vck_loop, ↓vckTo_to, ↓thenK_n, ↓thenK_x, ↓thenK_r, ↓blockK_n, ↓blockK_x, ↓blockK_o, ↓blockK_r, ↓regK_to, ↓retK_r, ↓retK_n, ↓loopV_n, ↓loopV_x, ↓loopV_r, ↓famK_n, ↓famK_x, ↓famK_r, ↓Z0g, ↓Z08, ↓boolK_not, ↓boolK_dec, ↓boolK_and, nf_mk, RGk_end_f, RGk_end_t, RGk_op, RGk_guard, opK_to, evN, evCallN, grow_mk, feet_f, feet_t, foot_mk, stepK_mk, stepK_v, stepK_no, guardG_t, guardG_f, guardG_no, condG_b, evT, Opd.ev, Z11, Z07, app_to, app_no, app_up, app_skip, app_skipn, know_mk, knowO_t, knowO_c, envFrom, Z09, keeps, LOp.isNew, State.prune, cellsQ, Z12, AV.leaf, Heap.at, Z0t, Z0b, loadO_vec, Z0e, Z01, idx_I, idx_U, idx_Rat, idx_Loc, idx_Act, idx_Step, idx_Stamp, Z03, Z0c, Z0z, Z00, loadDT_f, rowI, rowU, RatG.row, LocG.row, ActG.row, StepG.row, StampG.row, ActG.av, ActG.eta, RatG.eta, LocG.eta, beq_true, beq_false, loadDT_t, set_rowI, set_rowU, app_rowI, app_rowU, rep_rowI, rep_rowU, Z0y, Z0k, Z0w, Z0x, Z0j, Z0i, Z0a, List.length_set, List.length_replicate, Int.toNat_natCast, Int.reduceToNat, evLen, evAppend, srcOf, Src.all, Src.len, Src.leaf, Src.leafN, evApart, aliveQ, joinV, Z0l, Z0m, Z0n, Z0o, Z0p, Z0q, Z0r, Z0s, mkVec, drows, evMk, List.length_map, Z06, Z05, List.take_length, List.take_left, List.length_append, Nat.le_add_right, ite_self, List.take_of_length_le, evSlice, intOr, intOpd, Option.isSome_none, Option.isSome_some, Nat.sub_zero, loadQ, loadT, evBin, evUn, binT, binQ, chk, apartF, List.contains_cons, List.contains_nil, Bool.or_false, Bool.false_or, Bool.and_self, resQ, resV, resT, pickV, evCallT, evTake, evCall, fnOf, viewsT, isD, HO.drow, viewT, evInt2, evEq, eqV, eqK, eqC1, buildQ, buildT, buildRQ, buildRT, lens_I, lensA_I, lens_U, lensA_U, lens_Rat, lensA_Rat, lens_Loc, lensA_Loc, lens_Act, lensA_Act, lens_Step, Z0u, Z0v, Z0d, List.mem_cons, List.not_mem_nil, or_false, forall_eq, putRow, dcells, get_nil, RetS, RetF, RetD, AV.frz, AV.frzL, AV.freshP, AV.freshL, DV.less, scal_int, scal_bool, scal_nil, scal_rowI, scal_rowU, Z0f, Z04, scal_rowF, scal_flt, idx_F, app_rowF, lens_F, lensA_F, rowF_len, loadF, getF, evFl, fltQ, fltT, quoV, cmpQ, cmpT, DV.flt.injEq, Option.some.injEq, AV.tup.injEq, AV.agg.injEq, List.cons.injEq, DV.list.injEq, List.isEmpty_nil, Nat.le_refl, AV.d.injEq, DV.int.injEq, DV.bool.injEq, ↓reduceIte, Nat.reduceEqDiff, Nat.reduceAdd, Nat.reduceBEq, List.length_cons, List.length_nil, List.replicate_succ, List.replicate_zero, List.nil_append, List.cons_append, List.append_nil, List.foldl_cons, List.foldl_nil, List.map_cons, List.map_nil, List.all_cons, List.all_nil, List.set_cons_zero, List.set_cons_succ, List.getD_cons_zero, List.getD_cons_succ, List.drop_zero, List.drop_succ_cons, List.take_succ_cons, List.take_zero, List.flatten_cons, List.flatten_nil, Bool.true_and, Bool.and_true, Bool.not_true, Bool.not_false, true_and, and_true, true_or, or_true, Option.bind_some, Option.map_some, decide_true, decide_false, beq_self_eq_true, true_implies, false_implies, implies_true, not_true_eq_false, not_false_eq_true, and_self, Bool.and_false, Bool.false_and, Nat.reduceLT, Nat.reduceLeDiff, List.reverse_cons, List.reverse_nil, Nat.zero_add, Nat.add_zero, Bool.false_eq_true, List.getElem?_cons_zero, sp_true, F1, G1, F2, G2, F3, G3, at_fb2, at_wOf, h1, fOf12]
  have e1 : (FloatKind.f64.format.order 4602678819172646912 4602678819172646912 == some Ordering.eq) = true := by
    rw [ord_eq (by omega) (by omega)]
    decide
  have e2 : fLess 4607182418800017408 4611686018427387904 = true := by decide
  rw [e1, e2]
  refine ⟨fun _ => ⟨⟨by show (_ : Nat) < _; omega, by show (_ : Nat) < _; omega⟩, fun _ => ⟨by unfold maxLen; omega, fun b hb => ?_⟩, fun h => absurd h (by simp)⟩, fun h => absurd h (by simp)⟩
  show b < 18446744073709551616
  omega

end Go.Ago

/- Weight: the middle one, and the law. Conditions: none. -/
set_option maxRecDepth 100000
set_option linter.unusedSimpArgs false
set_option linter.unusedVariables false
namespace Go.Ago
open Go.Sort
attribute [local irreducible] vck
/-! ### Sorted -/
theorem sortW_perm (R : List Nat) : (sortW R).toList.Perm (toW R) := by
  have h := (pdq_sorts (Go.Proofs.ltOf cfW) swo_cfW (toW R).toArray 0 (toW R).toArray.size (Go.Lib.bitLen (toW R).toArray.size) true true (Nat.zero_le _) (Nat.le_refl _) (Or.inl rfl)).1
  obtain ⟨h1, _, h3⟩ := h
  have hz : (toW R).toArray.size = (toW R).length := by simp
  rw [hz] at h1 h3
  unfold sortW
  have e1 : ∀ (d : Array (BitVec 64)), d.size = (toW R).length → d.extract 0 (toW R).length = d := fun d hd => by rw [← hd]; simp
  rw [e1 _ h1, e1 _ hz] at h3
  simpa using h3
theorem sortN_perm {R : List Nat} (h : ∀ b ∈ R, f64 b) : (sortN R).Perm R := by
  have := (sortW_perm R).map (·.toNat)
  rwa [toW_nat h] at this
theorem sortN_len (R : List Nat) : (sortN R).length = R.length := by
  unfold sortN
  rw [List.length_map, (sortW_perm R).length_eq, toW_len]
theorem sortN_le {R : List Nat} {i j : Nat} (hij : i < j) (hj : j < R.length) : fRank ((sortN R).getD i default) ≤ fRank ((sortN R).getD j default) := by
  have h := (pdq_sorts (Go.Proofs.ltOf cfW) swo_cfW (toW R).toArray 0 (toW R).toArray.size (Go.Lib.bitLen (toW R).toArray.size) true true (Nat.zero_le _) (Nat.le_refl _) (Or.inl rfl)).2
  have hz : (toW R).toArray.size = (toW R).length := by simp
  rw [hz] at h
  have hl : (sortW R).size = R.length := by rw [← Array.length_toList, (sortW_perm R).length_eq, toW_len]
  have hs := h i j (Nat.zero_le _) hij (by rw [toW_len]; exact hj)
  rw [lt_cfW] at hs
  have e : ∀ k, k < R.length → (sortN R).getD k default = (sortW R)[k]!.toNat := fun k hk => by
    unfold sortN
    rw [List.getD_eq_getElem?_getD, List.getElem?_map, Array.getElem?_toList, getElem!_pos _ _ (by omega), Array.getElem?_eq_getElem (by omega)]
    rfl
  rw [e i (by omega), e j hj]
  unfold sortW
  unfold fLess at hs
  simpa using hs
def midN (l : List Nat) : Nat := if l = [] then 9221120237041090561 else (sortN l).getD (l.length / 2) default
def sp_Middle : Sp := ⟨List Nat × Bool, fun x => [.d (.list (x.1.map rowF) x.2)], fun x => .data (x.1.length ≤ 1000000 ∧ ∀ b ∈ x.1, f64 b) (.d (.flt .f64 (midN x.1))) true⟩
theorem at_Middle (l : List Nat) (f : Bool) : sp_Middle.at [.d (.list (l.map rowF) f)] = .data (l.length ≤ 1000000 ∧ ∀ b ∈ l, f64 b) (.d (.flt .f64 (midN l))) true :=
  Sp.at_enc (s := sp_Middle) (fun x y h => by
    obtain ⟨a, b⟩ := x; obtain ⟨a', b'⟩ := y
    simp only [sp_Middle, List.cons.injEq, AV.d.injEq, DV.list.injEq, and_true] at h
    rw [rows_inj rowF_inj h.1, h.2]) (l, f)
theorem body_weight_Middle {T : Tab} {n1 n2 n3 n4 : Nat} (k1 : Knows T n1 sp_nanW) (k2 : Knows T n2 (cloneS 1 8)) (k3 : KnowsG T n3 (ef_sortF n4).at) : sp_Middle.Body T V_weight_Middle (L_weight_Middle n1 n2 n3 n4) R_weight_Middle := by
  have F1 := k1.F; have G1 := k1.G; have F2 := k2.F; have G2 := k2.G; have G3 := k3.G
  rintro ⟨l, f⟩ ⟨h1, h2⟩
  have h1 : l.length ≤ 1000000 := h1
  have h2 : ∀ b ∈ l, f64 b := h2
  refine .inl ⟨rfl, ?_⟩
  unfold V_weight_Middle L_weight_Middle R_weight_Middle
  simp only [↓vck_skip, ↓vck_ret, ↓vck_exit, ↓Z10, ↓vck_nilq, ↓nilTo_to, nilG_d, nilG_r, ↓vck_seq, ↓vck_cond, ↓vck_block, ↓vck_loop, ↓vckTo_to, ↓thenK_n, ↓thenK_x, ↓thenK_r, ↓blockK_n, ↓blockK_x, ↓blockK_o, ↓blockK_r, ↓regK_to, ↓retK_r, ↓retK_n, ↓loopV_n, ↓loopV_x, ↓loopV_r, ↓famK_n, ↓famK_x, ↓famK_r, ↓Z0g, ↓Z08, ↓boolK_not, ↓boolK_dec, ↓boolK_and, nf_mk, RGk_end_f, RGk_end_t, RGk_op, RGk_guard, opK_to, evN, evCallN, grow_mk, feet_f, feet_t, foot_mk, stepK_mk, stepK_v, stepK_no, guardG_t, guardG_f, guardG_no, condG_b, evT, Opd.ev, Z11, Z07, app_to, app_no, app_up, app_skip, app_skipn, know_mk, knowO_t, knowO_c, envFrom, Z09, keeps, LOp.isNew, State.prune, cellsQ, Z12, AV.leaf, Heap.at, Z0t, Z0b, loadO_vec, Z0e, Z01, idx_I, idx_W, rowW, set_rowW, app_rowW, app_rowW0, rep_rowW0, rowB, set_rowB, rep_rowB, rowN, lens_W, lensA_W, scal_rowW, default_W, w_or, w_and, w_andNot, w_and1, w_shl, w_shl1, w_shr, w_sub1, w_neg, w_add, w_bit, w_eq0, w_eq1, w_eq, Bool.decide_eq_true, idx_Rat, idx_Loc, idx_Act, idx_Step, idx_Stamp, Z03, Z0c, Z0z, Z00, loadDT_f, rowI, RatG.row, LocG.row, ActG.row, StepG.row, StampG.row, ActG.av, ActG.eta, RatG.eta, LocG.eta, beq_true, beq_false, loadDT_t, set_rowI, app_rowI, rep_rowI, Z0y, Z0k, Z0w, Z0x, Z0j, Z0i, Z0a, List.length_set, List.length_replicate, toNat_cast, Int.reduceToNat, evLen, evAppend, srcOf, Src.all, Src.len, Src.leaf, Src.leafN, evApart, aliveQ, joinV, Z0l, Z0m, Z0n, Z0o, Z0p, Z0q, Z0r, Z0s, mkVec, drows, evMk, List.length_map, Z06, Z05, List.take_length, List.take_left, List.length_append, Nat.le_add_right, ite_self, List.take_of_length_le, evSlice, intOr, intOpd, Option.isSome_none, Option.isSome_some, Nat.sub_zero, loadQ, loadT, evBin, evUn, evIdxArr_d, evIdxArr_p, binT, binQ, chk, apartF, List.contains_cons, List.contains_nil, Bool.or_false, Bool.false_or, Bool.and_self, resQ, resV, resT, pickV, evCallT, evTake, evCall, fnOf, viewsT, isD, HO.drow, viewT, evInt2, evEq, eqV, eqK, eqC1, buildQ, buildT, buildRQ, buildRT, lens_I, lensA_I, lens_Rat, lensA_Rat, lens_Loc, lensA_Loc, lens_Act, lensA_Act, lens_Step, Z0u, Z0v, Z0d, List.mem_cons, List.not_mem_nil, or_false, forall_eq, putRow, dcells, get_nil, RetS, RetF, RetD, AV.frz, AV.frzL, AV.freshP, AV.freshL, DV.less, scal_int, scal_bool, scal_nil, scal_rowI, Z0f, Z04, Option.some.injEq, AV.tup.injEq, AV.agg.injEq, List.cons.injEq, DV.list.injEq, List.isEmpty_nil, Nat.le_refl, AV.d.injEq, DV.int.injEq, DV.bool.injEq, ↓reduceIte, Nat.reduceEqDiff, Nat.reduceAdd, Nat.reduceBEq, List.length_cons, List.length_nil, List.replicate_succ, List.replicate_zero, List.nil_append, List.cons_append, List.append_nil, List.foldl_cons, List.foldl_nil, List.map_cons, List.map_nil, List.all_cons, List.all_nil, List.set_cons_zero, List.set_cons_succ, List.getD_cons_zero, List.getD_cons_succ, List.drop_zero, List.drop_succ_cons, List.take_succ_cons, List.take_zero, List.flatten_cons, List.flatten_nil, Bool.true_and, Bool.and_true, Bool.not_true, Bool.not_false, true_and, and_true, true_or, or_true, Option.bind_some, Option.map_some, decide_true, decide_false, beq_self_eq_true, true_implies, false_implies, implies_true, not_true_eq_false, not_false_eq_true, and_self, Bool.and_false, Bool.false_and, Nat.reduceLT, Nat.reduceLeDiff, List.reverse_cons, List.reverse_nil, Nat.zero_add, Nat.add_zero, Bool.false_eq_true, List.getElem?_cons_zero, Nat.reduceMul, Nat.mul_one, evFl, fltQ, fltT, DV.flt.injEq, app_rowF, Z05, getF, idx_F, lensA_F, lens_F, loadF, scal_flt, scal_rowF, Z06, sp_Middle, F1, G1, F2, G2, G3, at_nanW, at_clone, at_sortF, sortE_d]
  have hw : IntKind.i64.wrap ((l.length : Int).tdiv 2) = ((l.length / 2 : Nat) : Int) := by
    rw [show (2 : Int) = ((2 : Nat) : Int) from rfl, ← Int.ofNat_tdiv, wrap_id (by omega) (by omega)]
  rw [hw]
  simp only [toNat_cast]
  unfold midN
  refine ⟨fun h => by rw [if_pos (List.length_eq_zero_iff.1 (by omega))], fun h => ?_⟩
  have h0 : l ≠ [] := fun e => h (by rw [e]; rfl)
  rw [if_neg h0]
  have hz := sortN_len l
  exact ⟨roomy_of (by omega) (by omega), ⟨h0, h1, h2⟩, by decide, ⟨by omega, by omega⟩, ⟨by omega, Nat.zero_lt_succ _⟩, rfl⟩
/-! ### The reference -/
def sp_alike : Sp := ⟨Nat × Nat, fun x => [.d (.flt .f64 x.1), .d (.flt .f64 x.2)], fun x => .data (f64 x.1 ∧ f64 x.2) (.d (.bool (decide (fRank x.1 = fRank x.2)))) true⟩
theorem at_alike (b c : Nat) : sp_alike.at [.d (.flt .f64 b), .d (.flt .f64 c)] = .data (f64 b ∧ f64 c) (.d (.bool (decide (fRank b = fRank c)))) true :=
  Sp.at_enc (s := sp_alike) (fun x y h => by
    obtain ⟨a, b⟩ := x; obtain ⟨a', b'⟩ := y
    simpa [sp_alike] using h) (b, c)
theorem body_ref03_Alike {T : Tab} {n1 : Nat} (k1 : Knows T n1 sp_rank) : sp_alike.Body T V_ref03_Alike (L_ref03_Alike n1) R_ref03_Alike := by
  have F1 := k1.F; have G1 := k1.G
  rintro ⟨b, c⟩ ⟨hb, hc⟩
  have hb : f64 b := hb
  have hc : f64 c := hc
  refine .inl ⟨rfl, ?_⟩
  unfold V_ref03_Alike L_ref03_Alike R_ref03_Alike
  simp only [↓vck_skip, ↓vck_ret, ↓vck_exit, ↓Z10, ↓vck_nilq, ↓nilTo_to, nilG_d, nilG_r, ↓vck_seq, ↓vck_cond, ↓vck_block, ↓vck_loop, ↓vckTo_to, ↓thenK_n, ↓thenK_x, ↓thenK_r, ↓blockK_n, ↓blockK_x, ↓blockK_o, ↓blockK_r, ↓regK_to, ↓retK_r, ↓retK_n, ↓loopV_n, ↓loopV_x, ↓loopV_r, ↓famK_n, ↓famK_x, ↓famK_r, ↓Z0g, ↓Z08, ↓boolK_not, ↓boolK_dec, ↓boolK_and, nf_mk, RGk_end_f, RGk_end_t, RGk_op, RGk_guard, opK_to, evN, evCallN, grow_mk, feet_f, feet_t, foot_mk, stepK_mk, stepK_v, stepK_no, guardG_t, guardG_f, guardG_no, condG_b, evT, Opd.ev, Z11, Z07, app_to, app_no, app_up, app_skip, app_skipn, know_mk, knowO_t, knowO_c, envFrom, Z09, keeps, LOp.isNew, State.prune, cellsQ, Z12, AV.leaf, Heap.at, Z0t, Z0b, loadO_vec, Z0e, Z01, idx_I, idx_W, rowW, set_rowW, app_rowW, app_rowW0, rep_rowW0, rowB, set_rowB, rep_rowB, rowN, lens_W, lensA_W, scal_rowW, default_W, w_or, w_and, w_andNot, w_and1, w_shl, w_shl1, w_shr, w_sub1, w_neg, w_add, w_bit, w_eq0, w_eq1, w_eq, Bool.decide_eq_true, idx_Rat, idx_Loc, idx_Act, idx_Step, idx_Stamp, Z03, Z0c, Z0z, Z00, loadDT_f, rowI, RatG.row, LocG.row, ActG.row, StepG.row, StampG.row, ActG.av, ActG.eta, RatG.eta, LocG.eta, beq_true, beq_false, loadDT_t, set_rowI, app_rowI, rep_rowI, Z0y, Z0k, Z0w, Z0x, Z0j, Z0i, Z0a, List.length_set, List.length_replicate, toNat_cast, Int.reduceToNat, evLen, evAppend, srcOf, Src.all, Src.len, Src.leaf, Src.leafN, evApart, aliveQ, joinV, Z0l, Z0m, Z0n, Z0o, Z0p, Z0q, Z0r, Z0s, mkVec, drows, evMk, List.length_map, Z06, Z05, List.take_length, List.take_left, List.length_append, Nat.le_add_right, ite_self, List.take_of_length_le, evSlice, intOr, intOpd, Option.isSome_none, Option.isSome_some, Nat.sub_zero, loadQ, loadT, evBin, evUn, evIdxArr_d, evIdxArr_p, binT, binQ, chk, apartF, List.contains_cons, List.contains_nil, Bool.or_false, Bool.false_or, Bool.and_self, resQ, resV, resT, pickV, evCallT, evTake, evCall, fnOf, viewsT, isD, HO.drow, viewT, evInt2, evEq, eqV, eqK, eqC1, buildQ, buildT, buildRQ, buildRT, lens_I, lensA_I, lens_Rat, lensA_Rat, lens_Loc, lensA_Loc, lens_Act, lensA_Act, lens_Step, Z0u, Z0v, Z0d, List.mem_cons, List.not_mem_nil, or_false, forall_eq, putRow, dcells, get_nil, RetS, RetF, RetD, AV.frz, AV.frzL, AV.freshP, AV.freshL, DV.less, scal_int, scal_bool, scal_nil, scal_rowI, Z0f, Z04, Option.some.injEq, AV.tup.injEq, AV.agg.injEq, List.cons.injEq, DV.list.injEq, List.isEmpty_nil, Nat.le_refl, AV.d.injEq, DV.int.injEq, DV.bool.injEq, ↓reduceIte, Nat.reduceEqDiff, Nat.reduceAdd, Nat.reduceBEq, List.length_cons, List.length_nil, List.replicate_succ, List.replicate_zero, List.nil_append, List.cons_append, List.append_nil, List.foldl_cons, List.foldl_nil, List.map_cons, List.map_nil, List.all_cons, List.all_nil, List.set_cons_zero, List.set_cons_succ, List.getD_cons_zero, List.getD_cons_succ, List.drop_zero, List.drop_succ_cons, List.take_succ_cons, List.take_zero, List.flatten_cons, List.flatten_nil, Bool.true_and, Bool.and_true, Bool.not_true, Bool.not_false, true_and, and_true, true_or, or_true, Option.bind_some, Option.map_some, decide_true, decide_false, beq_self_eq_true, true_implies, false_implies, implies_true, not_true_eq_false, not_false_eq_true, and_self, Bool.and_false, Bool.false_and, Nat.reduceLT, Nat.reduceLeDiff, List.reverse_cons, List.reverse_nil, Nat.zero_add, Nat.add_zero, Bool.false_eq_true, List.getElem?_cons_zero, Nat.reduceMul, Nat.mul_one, evFl, fltQ, fltT, DV.flt.injEq, app_rowF, Z05, getF, idx_F, lensA_F, lens_F, loadF, scal_flt, scal_rowF, Z06, sp_alike, F1, G1, at_rank]
  refine ⟨hb, hc, ?_⟩
  congr 1
  apply propext
  omega
def leastDn (l : List Nat) : Nat → Int
  | 0 => -1
  | k + 1 => if leastDn l k < 0 ∨ fRank (l.getD (l.length - 1 - k) default) ≤ fRank (l.getD (leastDn l k).toNat default) then ((l.length - 1 - k : Nat) : Int) else leastDn l k
def sp_leastR : Sp := ⟨List Nat × Bool, fun x => [.d (.list (x.1.map rowF) x.2)], fun x => .data (x.1.length ≤ 1000000 ∧ ∀ b ∈ x.1, f64 b) (.d (.int .i64 (leastDn x.1 x.1.length))) true⟩
theorem at_leastR (l : List Nat) (f : Bool) : sp_leastR.at [.d (.list (l.map rowF) f)] = .data (l.length ≤ 1000000 ∧ ∀ b ∈ l, f64 b) (.d (.int .i64 (leastDn l l.length))) true :=
  Sp.at_enc (s := sp_leastR) (fun x y h => by
    obtain ⟨a, b⟩ := x; obtain ⟨a', b'⟩ := y
    simp only [sp_leastR, List.cons.injEq, AV.d.injEq, DV.list.injEq, and_true] at h
    rw [rows_inj rowF_inj h.1, h.2]) (l, f)
theorem leastDn_lt {l : List Nat} : ∀ {k : Nat}, k ≤ l.length → leastDn l k < l.length ∧ -1 ≤ leastDn l k
  | 0, _ => ⟨by show (-1 : Int) < _; omega, by show (-1 : Int) ≤ -1; omega⟩
  | k + 1, h => by
    have := leastDn_lt (l := l) (k := k) (by omega)
    unfold leastDn; split <;> omega
theorem body_ref03_Least {T : Tab} {n1 : Nat} (k1 : Knows T n1 sp_rank) : sp_leastR.Body T V_ref03_Least (L_ref03_Least n1) R_ref03_Least := by
  have F1 := k1.F; have G1 := k1.G
  rintro ⟨l, f⟩ ⟨h1, h2⟩
  have h1 : l.length ≤ 1000000 := h1
  have h2 : ∀ b ∈ l, f64 b := h2
  refine .inl ⟨rfl, ?_⟩
  unfold V_ref03_Least L_ref03_Least R_ref03_Least
  simp only [↓vck_skip, ↓vck_ret, ↓vck_exit, ↓Z10, ↓vck_nilq, ↓nilTo_to, nilG_d, nilG_r, ↓vck_seq, ↓vck_cond, ↓vck_block, ↓vck_loop, ↓vckTo_to, ↓thenK_n, ↓thenK_x, ↓thenK_r, ↓blockK_n, ↓blockK_x, ↓blockK_o, ↓blockK_r, ↓regK_to, ↓retK_r, ↓retK_n, ↓loopV_n, ↓loopV_x, ↓loopV_r, ↓famK_n, ↓famK_x, ↓famK_r, ↓Z0g, ↓Z08, ↓boolK_not, ↓boolK_dec, ↓boolK_and, nf_mk, RGk_end_f, RGk_end_t, RGk_op, RGk_guard, opK_to, evN, evCallN, grow_mk, feet_f, feet_t, foot_mk, stepK_mk, stepK_v, stepK_no, guardG_t, guardG_f, guardG_no, condG_b, evT, Opd.ev, Z11, Z07, app_to, app_no, app_up, app_skip, app_skipn, know_mk, knowO_t, knowO_c, envFrom, Z09, keeps, LOp.isNew, State.prune, cellsQ, Z12, AV.leaf, Heap.at, Z0t, Z0b, loadO_vec, Z0e, Z01, idx_I, idx_W, rowW, set_rowW, app_rowW, app_rowW0, rep_rowW0, rowB, set_rowB, rep_rowB, rowN, lens_W, lensA_W, scal_rowW, default_W, w_or, w_and, w_andNot, w_and1, w_shl, w_shl1, w_shr, w_sub1, w_neg, w_add, w_bit, w_eq0, w_eq1, w_eq, Bool.decide_eq_true, idx_Rat, idx_Loc, idx_Act, idx_Step, idx_Stamp, Z03, Z0c, Z0z, Z00, loadDT_f, rowI, RatG.row, LocG.row, ActG.row, StepG.row, StampG.row, ActG.av, ActG.eta, RatG.eta, LocG.eta, beq_true, beq_false, loadDT_t, set_rowI, app_rowI, rep_rowI, Z0y, Z0k, Z0w, Z0x, Z0j, Z0i, Z0a, List.length_set, List.length_replicate, toNat_cast, Int.reduceToNat, evLen, evAppend, srcOf, Src.all, Src.len, Src.leaf, Src.leafN, evApart, aliveQ, joinV, Z0l, Z0m, Z0n, Z0o, Z0p, Z0q, Z0r, Z0s, mkVec, drows, evMk, List.length_map, Z06, Z05, List.take_length, List.take_left, List.length_append, Nat.le_add_right, ite_self, List.take_of_length_le, evSlice, intOr, intOpd, Option.isSome_none, Option.isSome_some, Nat.sub_zero, loadQ, loadT, evBin, evUn, evIdxArr_d, evIdxArr_p, binT, binQ, chk, apartF, List.contains_cons, List.contains_nil, Bool.or_false, Bool.false_or, Bool.and_self, resQ, resV, resT, pickV, evCallT, evTake, evCall, fnOf, viewsT, isD, HO.drow, viewT, evInt2, evEq, eqV, eqK, eqC1, buildQ, buildT, buildRQ, buildRT, lens_I, lensA_I, lens_Rat, lensA_Rat, lens_Loc, lensA_Loc, lens_Act, lensA_Act, lens_Step, Z0u, Z0v, Z0d, List.mem_cons, List.not_mem_nil, or_false, forall_eq, putRow, dcells, get_nil, RetS, RetF, RetD, AV.frz, AV.frzL, AV.freshP, AV.freshL, DV.less, scal_int, scal_bool, scal_nil, scal_rowI, Z0f, Z04, Option.some.injEq, AV.tup.injEq, AV.agg.injEq, List.cons.injEq, DV.list.injEq, List.isEmpty_nil, Nat.le_refl, AV.d.injEq, DV.int.injEq, DV.bool.injEq, ↓reduceIte, Nat.reduceEqDiff, Nat.reduceAdd, Nat.reduceBEq, List.length_cons, List.length_nil, List.replicate_succ, List.replicate_zero, List.nil_append, List.cons_append, List.append_nil, List.foldl_cons, List.foldl_nil, List.map_cons, List.map_nil, List.all_cons, List.all_nil, List.set_cons_zero, List.set_cons_succ, List.getD_cons_zero, List.getD_cons_succ, List.drop_zero, List.drop_succ_cons, List.take_succ_cons, List.take_zero, List.flatten_cons, List.flatten_nil, Bool.true_and, Bool.and_true, Bool.not_true, Bool.not_false, true_and, and_true, true_or, or_true, Option.bind_some, Option.map_some, decide_true, decide_false, beq_self_eq_true, true_implies, false_implies, implies_true, not_true_eq_false, not_false_eq_true, and_self, Bool.and_false, Bool.false_and, Nat.reduceLT, Nat.reduceLeDiff, List.reverse_cons, List.reverse_nil, Nat.zero_add, Nat.add_zero, Bool.false_eq_true, List.getElem?_cons_zero, Nat.reduceMul, Nat.mul_one, evFl, fltQ, fltT, DV.flt.injEq, app_rowF, Z05, getF, idx_F, lensA_F, lens_F, loadF, scal_flt, scal_rowF, Z06, sp_leastR, F1, G1, at_rank]
  have hw0 : l ≠ [] ∨ l = [] := by by_cases h : l = [] <;> simp [h]
  have hd : ∀ j, j < l.length → f64 (l.getD j default) := fun j hj => by rw [getD_lt hj]; exact h2 _ (List.getElem_mem hj)
  have hw : ∀ k : Nat, k ≤ l.length → IntKind.i64.wrap ((l.length : Int) - k - 1) = (l.length : Int) - k - 1 := fun k hk => wrap_id (by omega) (by omega)
  refine Loop.fam [0, 3, 4] (fun k : Nat => ⟨[(0, .d (.list (l.map rowF) f)), (3, .d (.int .i64 (leastDn l k))), (4, .d (.int .i64 ((l.length : Int) - k - 1)))], []⟩) (fun k => k ≤ l.length) (fun k => l.length - k) 0 [] (by simp) (by simp)
    (by have := hw 0 (by omega); rw [show ((0 : Nat) : Int) = 0 from rfl, Int.sub_zero] at this; simp only [State.can, AV.can, AV.canL, HO.can, canRows, idx, Z11, Z07, Heap.at, Nat.reduceBEq, ↓reduceIte, Nat.reduceEqDiff, Option.getD_some, Option.map_some, List.map_cons, List.map_nil, List.getD_cons_zero, List.getD_cons_succ]; rw [this]; simp [leastDn]) (by omega) ?_
  intro k hk
  have hk : k ≤ l.length := hk
  simp only [↓vck_skip, ↓vck_ret, ↓vck_exit, ↓Z10, ↓vck_nilq, ↓nilTo_to, nilG_d, nilG_r, ↓vck_seq, ↓vck_cond, ↓vck_block, ↓vck_loop, ↓vckTo_to, ↓thenK_n, ↓thenK_x, ↓thenK_r, ↓blockK_n, ↓blockK_x, ↓blockK_o, ↓blockK_r, ↓regK_to, ↓retK_r, ↓retK_n, ↓loopV_n, ↓loopV_x, ↓loopV_r, ↓famK_n, ↓famK_x, ↓famK_r, ↓Z0g, ↓Z08, ↓boolK_not, ↓boolK_dec, ↓boolK_and, nf_mk, RGk_end_f, RGk_end_t, RGk_op, RGk_guard, opK_to, evN, evCallN, grow_mk, feet_f, feet_t, foot_mk, stepK_mk, stepK_v, stepK_no, guardG_t, guardG_f, guardG_no, condG_b, evT, Opd.ev, Z11, Z07, app_to, app_no, app_up, app_skip, app_skipn, know_mk, knowO_t, knowO_c, envFrom, Z09, keeps, LOp.isNew, State.prune, cellsQ, Z12, AV.leaf, Heap.at, Z0t, Z0b, loadO_vec, Z0e, Z01, idx_I, idx_W, rowW, set_rowW, app_rowW, app_rowW0, rep_rowW0, rowB, set_rowB, rep_rowB, rowN, lens_W, lensA_W, scal_rowW, default_W, w_or, w_and, w_andNot, w_and1, w_shl, w_shl1, w_shr, w_sub1, w_neg, w_add, w_bit, w_eq0, w_eq1, w_eq, Bool.decide_eq_true, idx_Rat, idx_Loc, idx_Act, idx_Step, idx_Stamp, Z03, Z0c, Z0z, Z00, loadDT_f, rowI, RatG.row, LocG.row, ActG.row, StepG.row, StampG.row, ActG.av, ActG.eta, RatG.eta, LocG.eta, beq_true, beq_false, loadDT_t, set_rowI, app_rowI, rep_rowI, Z0y, Z0k, Z0w, Z0x, Z0j, Z0i, Z0a, List.length_set, List.length_replicate, toNat_cast, Int.reduceToNat, evLen, evAppend, srcOf, Src.all, Src.len, Src.leaf, Src.leafN, evApart, aliveQ, joinV, Z0l, Z0m, Z0n, Z0o, Z0p, Z0q, Z0r, Z0s, mkVec, drows, evMk, List.length_map, Z06, Z05, List.take_length, List.take_left, List.length_append, Nat.le_add_right, ite_self, List.take_of_length_le, evSlice, intOr, intOpd, Option.isSome_none, Option.isSome_some, Nat.sub_zero, loadQ, loadT, evBin, evUn, evIdxArr_d, evIdxArr_p, binT, binQ, chk, apartF, List.contains_cons, List.contains_nil, Bool.or_false, Bool.false_or, Bool.and_self, resQ, resV, resT, pickV, evCallT, evTake, evCall, fnOf, viewsT, isD, HO.drow, viewT, evInt2, evEq, eqV, eqK, eqC1, buildQ, buildT, buildRQ, buildRT, lens_I, lensA_I, lens_Rat, lensA_Rat, lens_Loc, lensA_Loc, lens_Act, lensA_Act, lens_Step, Z0u, Z0v, Z0d, List.mem_cons, List.not_mem_nil, or_false, forall_eq, putRow, dcells, get_nil, RetS, RetF, RetD, AV.frz, AV.frzL, AV.freshP, AV.freshL, DV.less, scal_int, scal_bool, scal_nil, scal_rowI, Z0f, Z04, Option.some.injEq, AV.tup.injEq, AV.agg.injEq, List.cons.injEq, DV.list.injEq, List.isEmpty_nil, Nat.le_refl, AV.d.injEq, DV.int.injEq, DV.bool.injEq, ↓reduceIte, Nat.reduceEqDiff, Nat.reduceAdd, Nat.reduceBEq, List.length_cons, List.length_nil, List.replicate_succ, List.replicate_zero, List.nil_append, List.cons_append, List.append_nil, List.foldl_cons, List.foldl_nil, List.map_cons, List.map_nil, List.all_cons, List.all_nil, List.set_cons_zero, List.set_cons_succ, List.getD_cons_zero, List.getD_cons_succ, List.drop_zero, List.drop_succ_cons, List.take_succ_cons, List.take_zero, List.flatten_cons, List.flatten_nil, Bool.true_and, Bool.and_true, Bool.not_true, Bool.not_false, true_and, and_true, true_or, or_true, Option.bind_some, Option.map_some, decide_true, decide_false, beq_self_eq_true, true_implies, false_implies, implies_true, not_true_eq_false, not_false_eq_true, and_self, Bool.and_false, Bool.false_and, Nat.reduceLT, Nat.reduceLeDiff, List.reverse_cons, List.reverse_nil, Nat.zero_add, Nat.add_zero, Bool.false_eq_true, List.getElem?_cons_zero, Nat.reduceMul, Nat.mul_one, evFl, fltQ, fltT, DV.flt.injEq, app_rowF, Z05, getF, idx_F, lensA_F, lens_F, loadF, scal_flt, scal_rowF, Z06, F1, G1, at_rank]
  have hu := leastDn_lt hk
  refine ⟨fun h => ?_, fun h => ?_⟩
  · have h' : k < l.length := by omega
    have e1 : ((l.length : Int) - k - 1).toNat = l.length - 1 - k := by omega
    have e2 : IntKind.i64.wrap ((l.length : Int) - k - 1 - 1) = (l.length : Int) - (k + 1 : Nat) - 1 := by rw [wrap_id (by omega) (by omega)]; omega
    have e3 : (l.length : Int) - k - 1 = ((l.length - 1 - k : Nat) : Int) := by omega
    have next : ∀ (v : Int) {S : State}, leastDn l (k + 1) = v → S.can [] [0, 3, 4] = ⟨[(0, .d (.list (l.map rowF) f)), (3, .d (.int .i64 v)), (4, .d (.int .i64 ((l.length : Int) - (k + 1 : Nat) - 1)))], []⟩ →
        FamNext [0, 3, 4] (fun k : Nat => (⟨[(0, .d (.list (l.map rowF) f)), (3, .d (.int .i64 (leastDn l k))), (4, .d (.int .i64 ((l.length : Int) - k - 1)))], []⟩ : State)) (fun k => k ≤ l.length) (fun k => l.length - k) (l.length - k) S := fun v S hv hS =>
      FamNext.mk [] (k + 1) (by simp) (by simp) (by rw [hS, hv]) (by show k + 1 ≤ l.length; omega) (by show l.length - (k + 1) < l.length - k; omega)
    rw [e1, e2]
    refine ⟨fun c => next ((l.length : Int) - k - 1) ?_ (by simp only [State.can, AV.can, AV.canL, HO.can, canRows, idx, Z11, Z07, Heap.at, Nat.reduceBEq, ↓reduceIte, Nat.reduceEqDiff, Option.getD_some, Option.map_some, List.map_cons, List.map_nil, List.getD_cons_zero, List.getD_cons_succ]), fun c => ⟨⟨by omega, by omega⟩, Nat.zero_lt_succ _, hd _ (by omega), ⟨by omega, by omega⟩, Nat.zero_lt_succ _, hd _ (by omega), fun c2 => next ((l.length : Int) - k - 1) ?_ (by simp only [State.can, AV.can, AV.canL, HO.can, canRows, idx, Z11, Z07, Heap.at, Nat.reduceBEq, ↓reduceIte, Nat.reduceEqDiff, Option.getD_some, Option.map_some, List.map_cons, List.map_nil, List.getD_cons_zero, List.getD_cons_succ]), fun c2 => next (leastDn l k) ?_ (by simp only [State.can, AV.can, AV.canL, HO.can, canRows, idx, Z11, Z07, Heap.at, Nat.reduceBEq, ↓reduceIte, Nat.reduceEqDiff, Option.getD_some, Option.map_some, List.map_cons, List.map_nil, List.getD_cons_zero, List.getD_cons_succ])⟩⟩
    · unfold leastDn; rw [if_pos (.inl c), e3]
    · unfold leastDn; rw [if_pos (.inr (by omega)), e3]
    · show (if _ then _ else _) = _
      rw [if_neg (by omega)]
  · have : k = l.length := by omega
    rw [this]
def aheadN (l : List Nat) (b : Nat) : Nat → Nat
  | 0 => 0
  | k + 1 => aheadN l b k + if fRank (l.getD k default) < fRank b then 1 else 0
def alikeN (l : List Nat) (b : Nat) : Nat → Nat
  | 0 => 0
  | k + 1 => alikeN l b k + if fRank (l.getD k default) = fRank b then 1 else 0
theorem ahead_le (l : List Nat) (b : Nat) : ∀ k, aheadN l b k + alikeN l b k ≤ k
  | 0 => Nat.le_refl _
  | k + 1 => by
    have := ahead_le l b k
    unfold aheadN alikeN
    split <;> split <;> omega
def goodN (l : List Nat) (i : Nat) : Bool := decide (aheadN l (l.getD i default) l.length ≤ l.length / 2) && decide (l.length / 2 < aheadN l (l.getD i default) l.length + alikeN l (l.getD i default) l.length)
def midR (l : List Nat) (i : Nat) : Nat × Bool := if i < l.length then if goodN l i then (l.getD i default, true) else midR l (i + 1) else (0, false)
termination_by l.length - i
theorem midR_next {l : List Nat} {i : Nat} (h : i < l.length) (hg : goodN l i = false) : midR l i = midR l (i + 1) := by
  rw [midR, if_pos h, hg, if_neg (by simp)]
def sp_MiddleR : Sp := ⟨List Nat × Bool, fun x => [.d (.list (x.1.map rowF) x.2)], fun x => .data (x.1.length ≤ 1000000 ∧ ∀ b ∈ x.1, f64 b) (.tup [.d (.flt .f64 (midR x.1 0).1), .d (.bool (midR x.1 0).2)]) true⟩
theorem at_MiddleR (l : List Nat) (f : Bool) : sp_MiddleR.at [.d (.list (l.map rowF) f)] = .data (l.length ≤ 1000000 ∧ ∀ b ∈ l, f64 b) (.tup [.d (.flt .f64 (midR l 0).1), .d (.bool (midR l 0).2)]) true :=
  Sp.at_enc (s := sp_MiddleR) (fun x y h => by
    obtain ⟨a, b⟩ := x; obtain ⟨a', b'⟩ := y
    simp only [sp_MiddleR, List.cons.injEq, AV.d.injEq, DV.list.injEq, and_true] at h
    rw [rows_inj rowF_inj h.1, h.2]) (l, f)
theorem body_ref03_Middle {T : Tab} {n1 : Nat} (k1 : Knows T n1 sp_rank) : sp_MiddleR.Body T V_ref03_Middle (L_ref03_Middle n1) R_ref03_Middle := by
  have F1 := k1.F; have G1 := k1.G
  rintro ⟨l, f⟩ ⟨h1, h2⟩
  have h1 : l.length ≤ 1000000 := h1
  have h2 : ∀ b ∈ l, f64 b := h2
  refine .inl ⟨rfl, ?_⟩
  unfold V_ref03_Middle L_ref03_Middle R_ref03_Middle
  simp only [↓vck_skip, ↓vck_ret, ↓vck_exit, ↓Z10, ↓vck_nilq, ↓nilTo_to, nilG_d, nilG_r, ↓vck_seq, ↓vck_cond, ↓vck_block, ↓vck_loop, ↓vckTo_to, ↓thenK_n, ↓thenK_x, ↓thenK_r, ↓blockK_n, ↓blockK_x, ↓blockK_o, ↓blockK_r, ↓regK_to, ↓retK_r, ↓retK_n, ↓loopV_n, ↓loopV_x, ↓loopV_r, ↓famK_n, ↓famK_x, ↓famK_r, ↓Z0g, ↓Z08, ↓boolK_not, ↓boolK_dec, ↓boolK_and, nf_mk, RGk_end_f, RGk_end_t, RGk_op, RGk_guard, opK_to, evN, evCallN, grow_mk, feet_f, feet_t, foot_mk, stepK_mk, stepK_v, stepK_no, guardG_t, guardG_f, guardG_no, condG_b, evT, Opd.ev, Z11, Z07, app_to, app_no, app_up, app_skip, app_skipn, know_mk, knowO_t, knowO_c, envFrom, Z09, keeps, LOp.isNew, State.prune, cellsQ, Z12, AV.leaf, Heap.at, Z0t, Z0b, loadO_vec, Z0e, Z01, idx_I, idx_W, rowW, set_rowW, app_rowW, app_rowW0, rep_rowW0, rowB, set_rowB, rep_rowB, rowN, lens_W, lensA_W, scal_rowW, default_W, w_or, w_and, w_andNot, w_and1, w_shl, w_shl1, w_shr, w_sub1, w_neg, w_add, w_bit, w_eq0, w_eq1, w_eq, Bool.decide_eq_true, idx_Rat, idx_Loc, idx_Act, idx_Step, idx_Stamp, Z03, Z0c, Z0z, Z00, loadDT_f, rowI, RatG.row, LocG.row, ActG.row, StepG.row, StampG.row, ActG.av, ActG.eta, RatG.eta, LocG.eta, beq_true, beq_false, loadDT_t, set_rowI, app_rowI, rep_rowI, Z0y, Z0k, Z0w, Z0x, Z0j, Z0i, Z0a, List.length_set, List.length_replicate, toNat_cast, Int.reduceToNat, evLen, evAppend, srcOf, Src.all, Src.len, Src.leaf, Src.leafN, evApart, aliveQ, joinV, Z0l, Z0m, Z0n, Z0o, Z0p, Z0q, Z0r, Z0s, mkVec, drows, evMk, List.length_map, Z06, Z05, List.take_length, List.take_left, List.length_append, Nat.le_add_right, ite_self, List.take_of_length_le, evSlice, intOr, intOpd, Option.isSome_none, Option.isSome_some, Nat.sub_zero, loadQ, loadT, evBin, evUn, evIdxArr_d, evIdxArr_p, binT, binQ, chk, apartF, List.contains_cons, List.contains_nil, Bool.or_false, Bool.false_or, Bool.and_self, resQ, resV, resT, pickV, evCallT, evTake, evCall, fnOf, viewsT, isD, HO.drow, viewT, evInt2, evEq, eqV, eqK, eqC1, buildQ, buildT, buildRQ, buildRT, lens_I, lensA_I, lens_Rat, lensA_Rat, lens_Loc, lensA_Loc, lens_Act, lensA_Act, lens_Step, Z0u, Z0v, Z0d, List.mem_cons, List.not_mem_nil, or_false, forall_eq, putRow, dcells, get_nil, RetS, RetF, RetD, AV.frz, AV.frzL, AV.freshP, AV.freshL, DV.less, scal_int, scal_bool, scal_nil, scal_rowI, Z0f, Z04, Option.some.injEq, AV.tup.injEq, AV.agg.injEq, List.cons.injEq, DV.list.injEq, List.isEmpty_nil, Nat.le_refl, AV.d.injEq, DV.int.injEq, DV.bool.injEq, ↓reduceIte, Nat.reduceEqDiff, Nat.reduceAdd, Nat.reduceBEq, List.length_cons, List.length_nil, List.replicate_succ, List.replicate_zero, List.nil_append, List.cons_append, List.append_nil, List.foldl_cons, List.foldl_nil, List.map_cons, List.map_nil, List.all_cons, List.all_nil, List.set_cons_zero, List.set_cons_succ, List.getD_cons_zero, List.getD_cons_succ, List.drop_zero, List.drop_succ_cons, List.take_succ_cons, List.take_zero, List.flatten_cons, List.flatten_nil, Bool.true_and, Bool.and_true, Bool.not_true, Bool.not_false, true_and, and_true, true_or, or_true, Option.bind_some, Option.map_some, decide_true, decide_false, beq_self_eq_true, true_implies, false_implies, implies_true, not_true_eq_false, not_false_eq_true, and_self, Bool.and_false, Bool.false_and, Nat.reduceLT, Nat.reduceLeDiff, List.reverse_cons, List.reverse_nil, Nat.zero_add, Nat.add_zero, Bool.false_eq_true, List.getElem?_cons_zero, Nat.reduceMul, Nat.mul_one, evFl, fltQ, fltT, DV.flt.injEq, app_rowF, Z05, getF, idx_F, lensA_F, lens_F, loadF, scal_flt, scal_rowF, Z06, sp_MiddleR, F1, G1, at_rank]
  have hd : ∀ j, j < l.length → f64 (l.getD j default) := fun j hj => by rw [getD_lt hj]; exact h2 _ (List.getElem_mem hj)
  refine Loop.fam [0, 4] (fun i : Nat => ⟨[(0, .d (.list (l.map rowF) f)), (4, .d (.int .i64 i))], []⟩) (fun i => i ≤ l.length ∧ midR l i = midR l 0) (fun i => l.length - i) 0 [] (by simp) (by simp) (by simp only [State.can, AV.can, AV.canL, HO.can, canRows, idx, Z11, Z07, Heap.at, Nat.reduceBEq, ↓reduceIte, Nat.reduceEqDiff, Option.getD_some, Option.map_some, List.map_cons, List.map_nil, List.getD_cons_zero, List.getD_cons_succ]; rfl) ⟨by omega, rfl⟩ ?_
  rintro i ⟨hi, hm⟩
  have hi : i ≤ l.length := hi
  simp only [↓vck_skip, ↓vck_ret, ↓vck_exit, ↓Z10, ↓vck_nilq, ↓nilTo_to, nilG_d, nilG_r, ↓vck_seq, ↓vck_cond, ↓vck_block, ↓vck_loop, ↓vckTo_to, ↓thenK_n, ↓thenK_x, ↓thenK_r, ↓blockK_n, ↓blockK_x, ↓blockK_o, ↓blockK_r, ↓regK_to, ↓retK_r, ↓retK_n, ↓loopV_n, ↓loopV_x, ↓loopV_r, ↓famK_n, ↓famK_x, ↓famK_r, ↓Z0g, ↓Z08, ↓boolK_not, ↓boolK_dec, ↓boolK_and, nf_mk, RGk_end_f, RGk_end_t, RGk_op, RGk_guard, opK_to, evN, evCallN, grow_mk, feet_f, feet_t, foot_mk, stepK_mk, stepK_v, stepK_no, guardG_t, guardG_f, guardG_no, condG_b, evT, Opd.ev, Z11, Z07, app_to, app_no, app_up, app_skip, app_skipn, know_mk, knowO_t, knowO_c, envFrom, Z09, keeps, LOp.isNew, State.prune, cellsQ, Z12, AV.leaf, Heap.at, Z0t, Z0b, loadO_vec, Z0e, Z01, idx_I, idx_W, rowW, set_rowW, app_rowW, app_rowW0, rep_rowW0, rowB, set_rowB, rep_rowB, rowN, lens_W, lensA_W, scal_rowW, default_W, w_or, w_and, w_andNot, w_and1, w_shl, w_shl1, w_shr, w_sub1, w_neg, w_add, w_bit, w_eq0, w_eq1, w_eq, Bool.decide_eq_true, idx_Rat, idx_Loc, idx_Act, idx_Step, idx_Stamp, Z03, Z0c, Z0z, Z00, loadDT_f, rowI, RatG.row, LocG.row, ActG.row, StepG.row, StampG.row, ActG.av, ActG.eta, RatG.eta, LocG.eta, beq_true, beq_false, loadDT_t, set_rowI, app_rowI, rep_rowI, Z0y, Z0k, Z0w, Z0x, Z0j, Z0i, Z0a, List.length_set, List.length_replicate, toNat_cast, Int.reduceToNat, evLen, evAppend, srcOf, Src.all, Src.len, Src.leaf, Src.leafN, evApart, aliveQ, joinV, Z0l, Z0m, Z0n, Z0o, Z0p, Z0q, Z0r, Z0s, mkVec, drows, evMk, List.length_map, Z06, Z05, List.take_length, List.take_left, List.length_append, Nat.le_add_right, ite_self, List.take_of_length_le, evSlice, intOr, intOpd, Option.isSome_none, Option.isSome_some, Nat.sub_zero, loadQ, loadT, evBin, evUn, evIdxArr_d, evIdxArr_p, binT, binQ, chk, apartF, List.contains_cons, List.contains_nil, Bool.or_false, Bool.false_or, Bool.and_self, resQ, resV, resT, pickV, evCallT, evTake, evCall, fnOf, viewsT, isD, HO.drow, viewT, evInt2, evEq, eqV, eqK, eqC1, buildQ, buildT, buildRQ, buildRT, lens_I, lensA_I, lens_Rat, lensA_Rat, lens_Loc, lensA_Loc, lens_Act, lensA_Act, lens_Step, Z0u, Z0v, Z0d, List.mem_cons, List.not_mem_nil, or_false, forall_eq, putRow, dcells, get_nil, RetS, RetF, RetD, AV.frz, AV.frzL, AV.freshP, AV.freshL, DV.less, scal_int, scal_bool, scal_nil, scal_rowI, Z0f, Z04, Option.some.injEq, AV.tup.injEq, AV.agg.injEq, List.cons.injEq, DV.list.injEq, List.isEmpty_nil, Nat.le_refl, AV.d.injEq, DV.int.injEq, DV.bool.injEq, ↓reduceIte, Nat.reduceEqDiff, Nat.reduceAdd, Nat.reduceBEq, List.length_cons, List.length_nil, List.replicate_succ, List.replicate_zero, List.nil_append, List.cons_append, List.append_nil, List.foldl_cons, List.foldl_nil, List.map_cons, List.map_nil, List.all_cons, List.all_nil, List.set_cons_zero, List.set_cons_succ, List.getD_cons_zero, List.getD_cons_succ, List.drop_zero, List.drop_succ_cons, List.take_succ_cons, List.take_zero, List.flatten_cons, List.flatten_nil, Bool.true_and, Bool.and_true, Bool.not_true, Bool.not_false, true_and, and_true, true_or, or_true, Option.bind_some, Option.map_some, decide_true, decide_false, beq_self_eq_true, true_implies, false_implies, implies_true, not_true_eq_false, not_false_eq_true, and_self, Bool.and_false, Bool.false_and, Nat.reduceLT, Nat.reduceLeDiff, List.reverse_cons, List.reverse_nil, Nat.zero_add, Nat.add_zero, Bool.false_eq_true, List.getElem?_cons_zero, Nat.reduceMul, Nat.mul_one, evFl, fltQ, fltT, DV.flt.injEq, app_rowF, Z05, getF, idx_F, lensA_F, lens_F, loadF, scal_flt, scal_rowF, Z06, F1, G1, at_rank]
  refine ⟨fun h => ?_, fun h => ?_⟩
  · have h' : i < l.length := by omega
    refine Loop.fam [0, 4, 5, 6, 7] (fun k : Nat => ⟨[(0, .d (.list (l.map rowF) f)), (4, .d (.int .i64 i)), (5, .d (.int .i64 (aheadN l (l.getD i default) k))), (6, .d (.int .i64 (alikeN l (l.getD i default) k))), (7, .d (.int .i64 k))], []⟩) (fun k => k ≤ l.length) (fun k => l.length - k) 0 [] (by simp) (by simp) (by simp only [State.can, AV.can, AV.canL, HO.can, canRows, idx, Z11, Z07, Heap.at, Nat.reduceBEq, ↓reduceIte, Nat.reduceEqDiff, Option.getD_some, Option.map_some, List.map_cons, List.map_nil, List.getD_cons_zero, List.getD_cons_succ]; rfl) (by omega) ?_
    intro k hk
    have hk : k ≤ l.length := hk
    simp only [↓vck_skip, ↓vck_ret, ↓vck_exit, ↓Z10, ↓vck_nilq, ↓nilTo_to, nilG_d, nilG_r, ↓vck_seq, ↓vck_cond, ↓vck_block, ↓vck_loop, ↓vckTo_to, ↓thenK_n, ↓thenK_x, ↓thenK_r, ↓blockK_n, ↓blockK_x, ↓blockK_o, ↓blockK_r, ↓regK_to, ↓retK_r, ↓retK_n, ↓loopV_n, ↓loopV_x, ↓loopV_r, ↓famK_n, ↓famK_x, ↓famK_r, ↓Z0g, ↓Z08, ↓boolK_not, ↓boolK_dec, ↓boolK_and, nf_mk, RGk_end_f, RGk_end_t, RGk_op, RGk_guard, opK_to, evN, evCallN, grow_mk, feet_f, feet_t, foot_mk, stepK_mk, stepK_v, stepK_no, guardG_t, guardG_f, guardG_no, condG_b, evT, Opd.ev, Z11, Z07, app_to, app_no, app_up, app_skip, app_skipn, know_mk, knowO_t, knowO_c, envFrom, Z09, keeps, LOp.isNew, State.prune, cellsQ, Z12, AV.leaf, Heap.at, Z0t, Z0b, loadO_vec, Z0e, Z01, idx_I, idx_W, rowW, set_rowW, app_rowW, app_rowW0, rep_rowW0, rowB, set_rowB, rep_rowB, rowN, lens_W, lensA_W, scal_rowW, default_W, w_or, w_and, w_andNot, w_and1, w_shl, w_shl1, w_shr, w_sub1, w_neg, w_add, w_bit, w_eq0, w_eq1, w_eq, Bool.decide_eq_true, idx_Rat, idx_Loc, idx_Act, idx_Step, idx_Stamp, Z03, Z0c, Z0z, Z00, loadDT_f, rowI, RatG.row, LocG.row, ActG.row, StepG.row, StampG.row, ActG.av, ActG.eta, RatG.eta, LocG.eta, beq_true, beq_false, loadDT_t, set_rowI, app_rowI, rep_rowI, Z0y, Z0k, Z0w, Z0x, Z0j, Z0i, Z0a, List.length_set, List.length_replicate, toNat_cast, Int.reduceToNat, evLen, evAppend, srcOf, Src.all, Src.len, Src.leaf, Src.leafN, evApart, aliveQ, joinV, Z0l, Z0m, Z0n, Z0o, Z0p, Z0q, Z0r, Z0s, mkVec, drows, evMk, List.length_map, Z06, Z05, List.take_length, List.take_left, List.length_append, Nat.le_add_right, ite_self, List.take_of_length_le, evSlice, intOr, intOpd, Option.isSome_none, Option.isSome_some, Nat.sub_zero, loadQ, loadT, evBin, evUn, evIdxArr_d, evIdxArr_p, binT, binQ, chk, apartF, List.contains_cons, List.contains_nil, Bool.or_false, Bool.false_or, Bool.and_self, resQ, resV, resT, pickV, evCallT, evTake, evCall, fnOf, viewsT, isD, HO.drow, viewT, evInt2, evEq, eqV, eqK, eqC1, buildQ, buildT, buildRQ, buildRT, lens_I, lensA_I, lens_Rat, lensA_Rat, lens_Loc, lensA_Loc, lens_Act, lensA_Act, lens_Step, Z0u, Z0v, Z0d, List.mem_cons, List.not_mem_nil, or_false, forall_eq, putRow, dcells, get_nil, RetS, RetF, RetD, AV.frz, AV.frzL, AV.freshP, AV.freshL, DV.less, scal_int, scal_bool, scal_nil, scal_rowI, Z0f, Z04, Option.some.injEq, AV.tup.injEq, AV.agg.injEq, List.cons.injEq, DV.list.injEq, List.isEmpty_nil, Nat.le_refl, AV.d.injEq, DV.int.injEq, DV.bool.injEq, ↓reduceIte, Nat.reduceEqDiff, Nat.reduceAdd, Nat.reduceBEq, List.length_cons, List.length_nil, List.replicate_succ, List.replicate_zero, List.nil_append, List.cons_append, List.append_nil, List.foldl_cons, List.foldl_nil, List.map_cons, List.map_nil, List.all_cons, List.all_nil, List.set_cons_zero, List.set_cons_succ, List.getD_cons_zero, List.getD_cons_succ, List.drop_zero, List.drop_succ_cons, List.take_succ_cons, List.take_zero, List.flatten_cons, List.flatten_nil, Bool.true_and, Bool.and_true, Bool.not_true, Bool.not_false, true_and, and_true, true_or, or_true, Option.bind_some, Option.map_some, decide_true, decide_false, beq_self_eq_true, true_implies, false_implies, implies_true, not_true_eq_false, not_false_eq_true, and_self, Bool.and_false, Bool.false_and, Nat.reduceLT, Nat.reduceLeDiff, List.reverse_cons, List.reverse_nil, Nat.zero_add, Nat.add_zero, Bool.false_eq_true, List.getElem?_cons_zero, Nat.reduceMul, Nat.mul_one, evFl, fltQ, fltT, DV.flt.injEq, app_rowF, Z05, getF, idx_F, lensA_F, lens_F, loadF, scal_flt, scal_rowF, Z06, F1, G1, at_rank]
    have hle := ahead_le l (l.getD i default) k
    refine ⟨fun g => ?_, fun g => ?_⟩
    · have next : ∀ (a b : Nat) {S : State}, aheadN l (l.getD i default) (k + 1) = a → alikeN l (l.getD i default) (k + 1) = b → S.can [] [0, 4, 5, 6, 7] = ⟨[(0, .d (.list (l.map rowF) f)), (4, .d (.int .i64 i)), (5, .d (.int .i64 a)), (6, .d (.int .i64 b)), (7, .d (.int .i64 (k + 1 : Nat)))], []⟩ →
          FamNext [0, 4, 5, 6, 7] (fun k : Nat => (⟨[(0, .d (.list (l.map rowF) f)), (4, .d (.int .i64 i)), (5, .d (.int .i64 (aheadN l (l.getD i default) k))), (6, .d (.int .i64 (alikeN l (l.getD i default) k))), (7, .d (.int .i64 k))], []⟩ : State)) (fun k => k ≤ l.length) (fun k => l.length - k) (l.length - k) S := fun a b S ha hb hS =>
        FamNext.mk [] (k + 1) (by simp) (by simp) (by rw [hS, ha, hb]) (by show k + 1 ≤ l.length; omega) (by show l.length - (k + 1) < l.length - k; omega)
      have w1 : IntKind.i64.wrap ((aheadN l (l.getD i default) k : Int) + 1) = ((aheadN l (l.getD i default) k + 1 : Nat) : Int) := by rw [wrap_id (by omega) (by omega)]; omega
      have w2 : IntKind.i64.wrap ((alikeN l (l.getD i default) k : Int) + 1) = ((alikeN l (l.getD i default) k + 1 : Nat) : Int) := by rw [wrap_id (by omega) (by omega)]; omega
      have w3 : IntKind.i64.wrap ((k : Int) + 1) = ((k + 1 : Nat) : Int) := by rw [wrap_id (by omega) (by omega)]; omega
      have hk' : k < l.length := by omega
      have dk := hd k hk'
      have di := hd i h'
      rw [w1, w2, w3]
      have base : (0 ≤ (k : Int) ∧ (k : Int) < l.length) ∧ (0 ≤ (i : Int) ∧ (i : Int) < l.length) := by omega
      refine ⟨base.1, Nat.zero_lt_succ _, dk, base.2, Nat.zero_lt_succ _, di, fun c1 => ⟨base.1, Nat.zero_lt_succ _, dk, base.2, Nat.zero_lt_succ _, di, fun c2 => by omega, fun c2 => ?_⟩, fun c1 => ⟨base.1, Nat.zero_lt_succ _, dk, base.2, Nat.zero_lt_succ _, di, fun c2 => ?_, fun c2 => ?_⟩⟩
      · exact next (aheadN l (l.getD i default) k + 1) (alikeN l (l.getD i default) k) (by rw [aheadN, if_pos (by omega)]) (by rw [alikeN, if_neg (by omega)]; rfl) (by simp only [State.can, AV.can, AV.canL, HO.can, canRows, idx, Z11, Z07, Heap.at, Nat.reduceBEq, ↓reduceIte, Nat.reduceEqDiff, Option.getD_some, Option.map_some, List.map_cons, List.map_nil, List.getD_cons_zero, List.getD_cons_succ])
      · exact next (aheadN l (l.getD i default) k) (alikeN l (l.getD i default) k + 1) (by rw [aheadN, if_neg (by omega)]; rfl) (by rw [alikeN, if_pos (by omega)]) (by simp only [State.can, AV.can, AV.canL, HO.can, canRows, idx, Z11, Z07, Heap.at, Nat.reduceBEq, ↓reduceIte, Nat.reduceEqDiff, Option.getD_some, Option.map_some, List.map_cons, List.map_nil, List.getD_cons_zero, List.getD_cons_succ])
      · exact next (aheadN l (l.getD i default) k) (alikeN l (l.getD i default) k) (by rw [aheadN, if_neg (by omega)]; rfl) (by rw [alikeN, if_neg (by omega)]; rfl) (by simp only [State.can, AV.can, AV.canL, HO.can, canRows, idx, Z11, Z07, Heap.at, Nat.reduceBEq, ↓reduceIte, Nat.reduceEqDiff, Option.getD_some, Option.map_some, List.map_cons, List.map_nil, List.getD_cons_zero, List.getD_cons_succ])
    · have : k = l.length := by omega
      subst this
      have hw : IntKind.i64.wrap ((l.length : Int).tdiv 2) = ((l.length / 2 : Nat) : Int) := by
        rw [show (2 : Int) = ((2 : Nat) : Int) from rfl, ← Int.ofNat_tdiv, wrap_id (by omega) (by omega)]
      have w2 : IntKind.i64.wrap ((aheadN l (l.getD i default) l.length : Int) + (alikeN l (l.getD i default) l.length : Int)) = (aheadN l (l.getD i default) l.length : Int) + (alikeN l (l.getD i default) l.length : Int) := wrap_id (by omega) (by omega)
      have w3 : IntKind.i64.wrap ((i : Int) + 1) = ((i + 1 : Nat) : Int) := by rw [wrap_id (by omega) (by omega)]; omega
      rw [hw, w2, w3]
      have next : ∀ {S : State}, goodN l i = false → S.can [] [0, 4] = ⟨[(0, .d (.list (l.map rowF) f)), (4, .d (.int .i64 (i + 1 : Nat)))], []⟩ →
          FamNext [0, 4] (fun i : Nat => (⟨[(0, .d (.list (l.map rowF) f)), (4, .d (.int .i64 i))], []⟩ : State)) (fun i => i ≤ l.length ∧ midR l i = midR l 0) (fun k => l.length - k) (l.length - i) S := fun {S} hg hS =>
        FamNext.mk [] (i + 1) (by simp) (by simp) hS ⟨by omega, (midR_next h' hg).symm.trans hm⟩ (by show l.length - (i + 1) < l.length - i; omega)
      refine ⟨by decide, fun c1 => ⟨by decide, fun c2 => ⟨⟨by omega, by omega⟩, Nat.zero_lt_succ _, ?_⟩, fun c2 => next ?_ (by simp only [State.can, AV.can, AV.canL, HO.can, canRows, idx, Z11, Z07, Heap.at, Nat.reduceBEq, ↓reduceIte, Nat.reduceEqDiff, Option.getD_some, Option.map_some, List.map_cons, List.map_nil, List.getD_cons_zero, List.getD_cons_succ])⟩, fun c1 => next ?_ (by simp only [State.can, AV.can, AV.canL, HO.can, canRows, idx, Z11, Z07, Heap.at, Nat.reduceBEq, ↓reduceIte, Nat.reduceEqDiff, Option.getD_some, Option.map_some, List.map_cons, List.map_nil, List.getD_cons_zero, List.getD_cons_succ])⟩
      · have hg : goodN l i = true := by unfold goodN; rw [decide_eq_true (by omega), decide_eq_true (by omega)]; rfl
        have he : midR l 0 = (l.getD i default, true) := by rw [← hm]; unfold midR; rw [if_pos h', if_pos hg]
        rw [he]
        exact ⟨rfl, rfl⟩
      · unfold goodN; rw [decide_eq_false (show ¬ l.length / 2 < _ by omega), Bool.and_false]
      · unfold goodN; rw [decide_eq_false (show ¬ aheadN l (l.getD i default) l.length ≤ l.length / 2 by omega), Bool.false_and]
  · rw [← hm]
    unfold midR
    rw [if_neg (by omega)]
    exact ⟨rfl, rfl⟩
/-! ### The law's floats -/
def bitsN (L : List W) : List Nat := (L.take 100).map (·.toNat)
def sp_floats : Sp := ⟨List W × Bool, fun x => [.d (.list (x.1.map rowW) x.2)], fun x => .data (x.1.length ≤ maxLen) (.d (.list ((bitsN x.1).map rowF) false)) false⟩
theorem at_floats (l : List W) (f : Bool) : sp_floats.at [.d (.list (l.map rowW) f)] = .data (l.length ≤ maxLen) (.d (.list ((bitsN l).map rowF) false)) false :=
  Sp.at_enc (s := sp_floats) (fun x y h => by
    obtain ⟨a, b⟩ := x; obtain ⟨a', b'⟩ := y
    simp only [sp_floats, List.cons.injEq, AV.d.injEq, DV.list.injEq, and_true] at h
    rw [rows_inj rowW_inj h.1, h.2]) (l, f)
def flSt (l : List W) (f : Bool) : List Nat → State
  | [] => ⟨[(0, .d (.list (l.map rowW) f)), (3, .d (.list [] true)), (4, .d (.int .i64 0))], []⟩
  | a :: L => ⟨[(0, .d (.list (l.map rowW) f)), (3, .ref 0 1 0 (L.length + 1) true), (4, .d (.int .i64 ((L.length + 1 : Nat) : Int)))], [.dvec 1 ((a :: L).map rowF)]⟩
theorem body_law03_floats {T : Tab} : sp_floats.Body T V_law03_floats L_law03_floats R_law03_floats := by
  rintro ⟨l, f⟩ h1
  have h1 : l.length ≤ maxLen := h1
  refine ⟨rfl, ?_⟩
  unfold V_law03_floats L_law03_floats R_law03_floats
  simp only [↓vck_skip, ↓vck_ret, ↓vck_exit, ↓Z10, ↓vck_nilq, ↓nilTo_to, nilG_d, nilG_r, ↓vck_seq, ↓vck_cond, ↓vck_block, ↓vck_loop, ↓vckTo_to, ↓thenK_n, ↓thenK_x, ↓thenK_r, ↓blockK_n, ↓blockK_x, ↓blockK_o, ↓blockK_r, ↓regK_to, ↓retK_r, ↓retK_n, ↓loopV_n, ↓loopV_x, ↓loopV_r, ↓famK_n, ↓famK_x, ↓famK_r, ↓Z0g, ↓Z08, ↓boolK_not, ↓boolK_dec, ↓boolK_and, nf_mk, RGk_end_f, RGk_end_t, RGk_op, RGk_guard, opK_to, evN, evCallN, grow_mk, feet_f, feet_t, foot_mk, stepK_mk, stepK_v, stepK_no, guardG_t, guardG_f, guardG_no, condG_b, evT, Opd.ev, Z11, Z07, app_to, app_no, app_up, app_skip, app_skipn, know_mk, knowO_t, knowO_c, envFrom, Z09, keeps, LOp.isNew, State.prune, cellsQ, Z12, AV.leaf, Heap.at, Z0t, Z0b, loadO_vec, Z0e, Z01, idx_I, idx_W, rowW, set_rowW, app_rowW, app_rowW0, rep_rowW0, rowB, set_rowB, rep_rowB, rowN, lens_W, lensA_W, scal_rowW, default_W, w_or, w_and, w_andNot, w_and1, w_shl, w_shl1, w_shr, w_sub1, w_neg, w_add, w_bit, w_eq0, w_eq1, w_eq, Bool.decide_eq_true, idx_Rat, idx_Loc, idx_Act, idx_Step, idx_Stamp, Z03, Z0c, Z0z, Z00, loadDT_f, rowI, RatG.row, LocG.row, ActG.row, StepG.row, StampG.row, ActG.av, ActG.eta, RatG.eta, LocG.eta, beq_true, beq_false, loadDT_t, set_rowI, app_rowI, rep_rowI, Z0y, Z0k, Z0w, Z0x, Z0j, Z0i, Z0a, List.length_set, List.length_replicate, toNat_cast, Int.reduceToNat, evLen, evAppend, srcOf, Src.all, Src.len, Src.leaf, Src.leafN, evApart, aliveQ, joinV, Z0l, Z0m, Z0n, Z0o, Z0p, Z0q, Z0r, Z0s, mkVec, drows, evMk, List.length_map, Z06, Z05, List.take_length, List.take_left, List.length_append, Nat.le_add_right, ite_self, List.take_of_length_le, evSlice, intOr, intOpd, Option.isSome_none, Option.isSome_some, Nat.sub_zero, loadQ, loadT, evBin, evUn, evIdxArr_d, evIdxArr_p, binT, binQ, chk, apartF, List.contains_cons, List.contains_nil, Bool.or_false, Bool.false_or, Bool.and_self, resQ, resV, resT, pickV, evCallT, evTake, evCall, fnOf, viewsT, isD, HO.drow, viewT, evInt2, evEq, eqV, eqK, eqC1, buildQ, buildT, buildRQ, buildRT, lens_I, lensA_I, lens_Rat, lensA_Rat, lens_Loc, lensA_Loc, lens_Act, lensA_Act, lens_Step, Z0u, Z0v, Z0d, List.mem_cons, List.not_mem_nil, or_false, forall_eq, putRow, dcells, get_nil, RetS, RetF, RetD, AV.frz, AV.frzL, AV.freshP, AV.freshL, DV.less, scal_int, scal_bool, scal_nil, scal_rowI, Z0f, Z04, Option.some.injEq, AV.tup.injEq, AV.agg.injEq, List.cons.injEq, DV.list.injEq, List.isEmpty_nil, Nat.le_refl, AV.d.injEq, DV.int.injEq, DV.bool.injEq, ↓reduceIte, Nat.reduceEqDiff, Nat.reduceAdd, Nat.reduceBEq, List.length_cons, List.length_nil, List.replicate_succ, List.replicate_zero, List.nil_append, List.cons_append, List.append_nil, List.foldl_cons, List.foldl_nil, List.map_cons, List.map_nil, List.all_cons, List.all_nil, List.set_cons_zero, List.set_cons_succ, List.getD_cons_zero, List.getD_cons_succ, List.drop_zero, List.drop_succ_cons, List.take_succ_cons, List.take_zero, List.flatten_cons, List.flatten_nil, Bool.true_and, Bool.and_true, Bool.not_true, Bool.not_false, true_and, and_true, true_or, or_true, Option.bind_some, Option.map_some, decide_true, decide_false, beq_self_eq_true, true_implies, false_implies, implies_true, not_true_eq_false, not_false_eq_true, and_self, Bool.and_false, Bool.false_and, Nat.reduceLT, Nat.reduceLeDiff, List.reverse_cons, List.reverse_nil, Nat.zero_add, Nat.add_zero, Bool.false_eq_true, List.getElem?_cons_zero, Nat.reduceMul, Nat.mul_one, evFl, fltQ, fltT, DV.flt.injEq, app_rowF, Z05, getF, idx_F, lensA_F, lens_F, loadF, scal_flt, scal_rowF, Z06, sp_floats]
  refine Loop.fam [0, 3, 4] (flSt l f) (fun L => L = bitsN (l.take L.length) ∧ L.length ≤ l.length ∧ L.length ≤ 100) (fun L => l.length - L.length) [] [] (by simp) (by simp) (by simp only [State.can, AV.can, AV.canL, HO.can, canRows, idx, Z11, Z07, Heap.at, Nat.reduceBEq, ↓reduceIte, Nat.reduceEqDiff, Option.getD_some, Option.map_some, List.map_cons, List.map_nil, List.getD_cons_zero, List.getD_cons_succ, flSt]) ⟨by simp [bitsN], by simp, by simp⟩ ?_
  rintro L ⟨hL, hl, h100⟩
  cases L with
  | nil =>
    simp only [↓vck_skip, ↓vck_ret, ↓vck_exit, ↓Z10, ↓vck_nilq, ↓nilTo_to, nilG_d, nilG_r, ↓vck_seq, ↓vck_cond, ↓vck_block, ↓vck_loop, ↓vckTo_to, ↓thenK_n, ↓thenK_x, ↓thenK_r, ↓blockK_n, ↓blockK_x, ↓blockK_o, ↓blockK_r, ↓regK_to, ↓retK_r, ↓retK_n, ↓loopV_n, ↓loopV_x, ↓loopV_r, ↓famK_n, ↓famK_x, ↓famK_r, ↓Z0g, ↓Z08, ↓boolK_not, ↓boolK_dec, ↓boolK_and, nf_mk, RGk_end_f, RGk_end_t, RGk_op, RGk_guard, opK_to, evN, evCallN, grow_mk, feet_f, feet_t, foot_mk, stepK_mk, stepK_v, stepK_no, guardG_t, guardG_f, guardG_no, condG_b, evT, Opd.ev, Z11, Z07, app_to, app_no, app_up, app_skip, app_skipn, know_mk, knowO_t, knowO_c, envFrom, Z09, keeps, LOp.isNew, State.prune, cellsQ, Z12, AV.leaf, Heap.at, Z0t, Z0b, loadO_vec, Z0e, Z01, idx_I, idx_W, rowW, set_rowW, app_rowW, app_rowW0, rep_rowW0, rowB, set_rowB, rep_rowB, rowN, lens_W, lensA_W, scal_rowW, default_W, w_or, w_and, w_andNot, w_and1, w_shl, w_shl1, w_shr, w_sub1, w_neg, w_add, w_bit, w_eq0, w_eq1, w_eq, Bool.decide_eq_true, idx_Rat, idx_Loc, idx_Act, idx_Step, idx_Stamp, Z03, Z0c, Z0z, Z00, loadDT_f, rowI, RatG.row, LocG.row, ActG.row, StepG.row, StampG.row, ActG.av, ActG.eta, RatG.eta, LocG.eta, beq_true, beq_false, loadDT_t, set_rowI, app_rowI, rep_rowI, Z0y, Z0k, Z0w, Z0x, Z0j, Z0i, Z0a, List.length_set, List.length_replicate, toNat_cast, Int.reduceToNat, evLen, evAppend, srcOf, Src.all, Src.len, Src.leaf, Src.leafN, evApart, aliveQ, joinV, Z0l, Z0m, Z0n, Z0o, Z0p, Z0q, Z0r, Z0s, mkVec, drows, evMk, List.length_map, Z06, Z05, List.take_length, List.take_left, List.length_append, Nat.le_add_right, ite_self, List.take_of_length_le, evSlice, intOr, intOpd, Option.isSome_none, Option.isSome_some, Nat.sub_zero, loadQ, loadT, evBin, evUn, evIdxArr_d, evIdxArr_p, binT, binQ, chk, apartF, List.contains_cons, List.contains_nil, Bool.or_false, Bool.false_or, Bool.and_self, resQ, resV, resT, pickV, evCallT, evTake, evCall, fnOf, viewsT, isD, HO.drow, viewT, evInt2, evEq, eqV, eqK, eqC1, buildQ, buildT, buildRQ, buildRT, lens_I, lensA_I, lens_Rat, lensA_Rat, lens_Loc, lensA_Loc, lens_Act, lensA_Act, lens_Step, Z0u, Z0v, Z0d, List.mem_cons, List.not_mem_nil, or_false, forall_eq, putRow, dcells, get_nil, RetS, RetF, RetD, AV.frz, AV.frzL, AV.freshP, AV.freshL, DV.less, scal_int, scal_bool, scal_nil, scal_rowI, Z0f, Z04, Option.some.injEq, AV.tup.injEq, AV.agg.injEq, List.cons.injEq, DV.list.injEq, List.isEmpty_nil, Nat.le_refl, AV.d.injEq, DV.int.injEq, DV.bool.injEq, ↓reduceIte, Nat.reduceEqDiff, Nat.reduceAdd, Nat.reduceBEq, List.length_cons, List.length_nil, List.replicate_succ, List.replicate_zero, List.nil_append, List.cons_append, List.append_nil, List.foldl_cons, List.foldl_nil, List.map_cons, List.map_nil, List.all_cons, List.all_nil, List.set_cons_zero, List.set_cons_succ, List.getD_cons_zero, List.getD_cons_succ, List.drop_zero, List.drop_succ_cons, List.take_succ_cons, List.take_zero, List.flatten_cons, List.flatten_nil, Bool.true_and, Bool.and_true, Bool.not_true, Bool.not_false, true_and, and_true, true_or, or_true, Option.bind_some, Option.map_some, decide_true, decide_false, beq_self_eq_true, true_implies, false_implies, implies_true, not_true_eq_false, not_false_eq_true, and_self, Bool.and_false, Bool.false_and, Nat.reduceLT, Nat.reduceLeDiff, List.reverse_cons, List.reverse_nil, Nat.zero_add, Nat.add_zero, Bool.false_eq_true, List.getElem?_cons_zero, Nat.reduceMul, Nat.mul_one, evFl, fltQ, fltT, DV.flt.injEq, app_rowF, Z05, getF, idx_F, lensA_F, lens_F, loadF, scal_flt, scal_rowF, Z06, flSt]
    have tk : ∀ k, k < l.length → k < 100 → bitsN (l.take (k + 1)) = bitsN (l.take k) ++ [(l.getD k 0#64).toNat] := fun k hk hk1 => by
      unfold bitsN
      rw [List.take_take, List.take_take, Nat.min_eq_right (by omega), Nat.min_eq_right (by omega), List.take_add_one, List.getElem?_eq_getElem hk, List.getD_eq_getElem?_getD, List.getElem?_eq_getElem hk, List.map_append]
      rfl
    have w1 : IntKind.i64.wrap (0 + 1) = ((0 + 1 : Nat) : Int) := by decide
    rw [w1]
    refine ⟨fun c1 => ⟨fun _ => ⟨⟨by omega, c1⟩, roomy_of (by omega) (by omega), ?_⟩, fun c => absurd c (by omega)⟩, fun c1 => ?_⟩
    · refine FamNext.mk [1] [(l.getD 0 0#64).toNat] (by simp) (by simp) (by simp only [State.can, AV.can, AV.canL, HO.can, canRows, idx, Z11, Z07, Heap.at, Nat.reduceBEq, ↓reduceIte, Nat.reduceEqDiff, Option.getD_some, Option.map_some, List.map_cons, List.map_nil, List.getD_cons_zero, List.getD_cons_succ, flSt]; rfl) ⟨?_, by show 1 ≤ _; omega, by show 1 ≤ _; omega⟩ (by show l.length - 1 < l.length; omega)
      show _ = bitsN (l.take (0 + 1))
      rw [tk 0 (by omega) (by omega)]
      simp [bitsN]
    · have : l = [] := List.length_eq_zero_iff.1 (by omega)
      subst this
      rfl
  | cons a L =>
    simp only [↓vck_skip, ↓vck_ret, ↓vck_exit, ↓Z10, ↓vck_nilq, ↓nilTo_to, nilG_d, nilG_r, ↓vck_seq, ↓vck_cond, ↓vck_block, ↓vck_loop, ↓vckTo_to, ↓thenK_n, ↓thenK_x, ↓thenK_r, ↓blockK_n, ↓blockK_x, ↓blockK_o, ↓blockK_r, ↓regK_to, ↓retK_r, ↓retK_n, ↓loopV_n, ↓loopV_x, ↓loopV_r, ↓famK_n, ↓famK_x, ↓famK_r, ↓Z0g, ↓Z08, ↓boolK_not, ↓boolK_dec, ↓boolK_and, nf_mk, RGk_end_f, RGk_end_t, RGk_op, RGk_guard, opK_to, evN, evCallN, grow_mk, feet_f, feet_t, foot_mk, stepK_mk, stepK_v, stepK_no, guardG_t, guardG_f, guardG_no, condG_b, evT, Opd.ev, Z11, Z07, app_to, app_no, app_up, app_skip, app_skipn, know_mk, knowO_t, knowO_c, envFrom, Z09, keeps, LOp.isNew, State.prune, cellsQ, Z12, AV.leaf, Heap.at, Z0t, Z0b, loadO_vec, Z0e, Z01, idx_I, idx_W, rowW, set_rowW, app_rowW, app_rowW0, rep_rowW0, rowB, set_rowB, rep_rowB, rowN, lens_W, lensA_W, scal_rowW, default_W, w_or, w_and, w_andNot, w_and1, w_shl, w_shl1, w_shr, w_sub1, w_neg, w_add, w_bit, w_eq0, w_eq1, w_eq, Bool.decide_eq_true, idx_Rat, idx_Loc, idx_Act, idx_Step, idx_Stamp, Z03, Z0c, Z0z, Z00, loadDT_f, rowI, RatG.row, LocG.row, ActG.row, StepG.row, StampG.row, ActG.av, ActG.eta, RatG.eta, LocG.eta, beq_true, beq_false, loadDT_t, set_rowI, app_rowI, rep_rowI, Z0y, Z0k, Z0w, Z0x, Z0j, Z0i, Z0a, List.length_set, List.length_replicate, toNat_cast, Int.reduceToNat, evLen, evAppend, srcOf, Src.all, Src.len, Src.leaf, Src.leafN, evApart, aliveQ, joinV, Z0l, Z0m, Z0n, Z0o, Z0p, Z0q, Z0r, Z0s, mkVec, drows, evMk, List.length_map, Z06, Z05, List.take_length, List.take_left, List.length_append, Nat.le_add_right, ite_self, List.take_of_length_le, evSlice, intOr, intOpd, Option.isSome_none, Option.isSome_some, Nat.sub_zero, loadQ, loadT, evBin, evUn, evIdxArr_d, evIdxArr_p, binT, binQ, chk, apartF, List.contains_cons, List.contains_nil, Bool.or_false, Bool.false_or, Bool.and_self, resQ, resV, resT, pickV, evCallT, evTake, evCall, fnOf, viewsT, isD, HO.drow, viewT, evInt2, evEq, eqV, eqK, eqC1, buildQ, buildT, buildRQ, buildRT, lens_I, lensA_I, lens_Rat, lensA_Rat, lens_Loc, lensA_Loc, lens_Act, lensA_Act, lens_Step, Z0u, Z0v, Z0d, List.mem_cons, List.not_mem_nil, or_false, forall_eq, putRow, dcells, get_nil, RetS, RetF, RetD, AV.frz, AV.frzL, AV.freshP, AV.freshL, DV.less, scal_int, scal_bool, scal_nil, scal_rowI, Z0f, Z04, Option.some.injEq, AV.tup.injEq, AV.agg.injEq, List.cons.injEq, DV.list.injEq, List.isEmpty_nil, Nat.le_refl, AV.d.injEq, DV.int.injEq, DV.bool.injEq, ↓reduceIte, Nat.reduceEqDiff, Nat.reduceAdd, Nat.reduceBEq, List.length_cons, List.length_nil, List.replicate_succ, List.replicate_zero, List.nil_append, List.cons_append, List.append_nil, List.foldl_cons, List.foldl_nil, List.map_cons, List.map_nil, List.all_cons, List.all_nil, List.set_cons_zero, List.set_cons_succ, List.getD_cons_zero, List.getD_cons_succ, List.drop_zero, List.drop_succ_cons, List.take_succ_cons, List.take_zero, List.flatten_cons, List.flatten_nil, Bool.true_and, Bool.and_true, Bool.not_true, Bool.not_false, true_and, and_true, true_or, or_true, Option.bind_some, Option.map_some, decide_true, decide_false, beq_self_eq_true, true_implies, false_implies, implies_true, not_true_eq_false, not_false_eq_true, and_self, Bool.and_false, Bool.false_and, Nat.reduceLT, Nat.reduceLeDiff, List.reverse_cons, List.reverse_nil, Nat.zero_add, Nat.add_zero, Bool.false_eq_true, List.getElem?_cons_zero, Nat.reduceMul, Nat.mul_one, evFl, fltQ, fltT, DV.flt.injEq, app_rowF, Z05, getF, idx_F, lensA_F, lens_F, loadF, scal_flt, scal_rowF, Z06, flSt]
    have tk : ∀ k, k < l.length → k < 100 → bitsN (l.take (k + 1)) = bitsN (l.take k) ++ [(l.getD k 0#64).toNat] := fun k hk hk1 => by
      unfold bitsN
      rw [List.take_take, List.take_take, Nat.min_eq_right (by omega), Nat.min_eq_right (by omega), List.take_add_one, List.getElem?_eq_getElem hk, List.getD_eq_getElem?_getD, List.getElem?_eq_getElem hk, List.map_append]
      rfl
    have hL : a :: L = bitsN (l.take (L.length + 1)) := hL
    have hl : L.length + 1 ≤ l.length := hl
    have h100 : L.length + 1 ≤ 100 := h100
    have w1 : IntKind.i64.wrap (((L.length + 1 : Nat) : Int) + 1) = ((L.length + 1 + 1 : Nat) : Int) := by rw [wrap_id (by omega) (by omega)]; omega
    rw [w1]
    refine ⟨fun c1 => ⟨fun c2 => ⟨⟨by omega, c1⟩, roomy_of (by omega) (by omega), ?_⟩, fun c => ?_⟩, fun c1 => ?_⟩
    · refine FamNext.mk [2] (a :: (L ++ [(l.getD (L.length + 1) 0#64).toNat])) (by simp) (by simp) (by simp only [State.can, AV.can, AV.canL, HO.can, canRows, idx, Z11, Z07, Heap.at, Nat.reduceBEq, ↓reduceIte, Nat.reduceEqDiff, Option.getD_some, Option.map_some, List.map_cons, List.map_nil, List.getD_cons_zero, List.getD_cons_succ, flSt]; simp) ⟨?_, ?_, ?_⟩ ?_
      · show _ = bitsN (l.take ((L ++ [_]).length + 1))
        rw [List.length_append, List.length_singleton, tk _ (by omega) (by omega), ← hL]
        rfl
      · show (L ++ [_]).length + 1 ≤ _; rw [List.length_append, List.length_singleton]; omega
      · show (L ++ [_]).length + 1 ≤ _; rw [List.length_append, List.length_singleton]; omega
      · show l.length - ((L ++ [_]).length + 1) < l.length - (L.length + 1); rw [List.length_append, List.length_singleton]; omega
    · have e : L.length + 1 = 100 := by omega
      rw [← List.map_cons, hL, e]
      unfold bitsN
      rw [List.take_take, Nat.min_self]
    · have e : L.length + 1 = l.length := by omega
      rw [← List.map_cons, hL, e, List.take_length]
/-! ### What they answer -/
theorem leastTo_ok {l : List Nat} : ∀ {n : Nat}, 0 < n → n ≤ l.length → 0 ≤ leastTo l n ∧ (∀ j, j < (leastTo l n).toNat → fRank (l.getD (leastTo l n).toNat default) < fRank (l.getD j default)) ∧ (∀ j, j < n → fRank (l.getD (leastTo l n).toNat default) ≤ fRank (l.getD j default))
  | 0, h, _ => absurd h (by omega)
  | n + 1, _, hn => by
    by_cases h0 : n = 0
    · subst h0
      have : leastTo l (0 + 1) = ((0 : Nat) : Int) := by
        rw [leastTo, if_pos (.inl (by show (-1 : Int) < 0; omega))]
      rw [this]
      refine ⟨by omega, fun j hj => by simp at hj, fun j hj => ?_⟩
      have : j = 0 := by omega
      subst this
      exact Nat.le_refl _
    · obtain ⟨h1, h2, h3⟩ := leastTo_ok (l := l) (n := n) (by omega) (by omega)
      have hu := (leastTo_lt (l := l) (i := n)).1
      by_cases hc : fLess (l.getD n default) (l.getD (leastTo l n).toNat default) = true
      · have : leastTo l (n + 1) = ((n : Nat) : Int) := by rw [leastTo, if_pos (.inr hc)]
        rw [this]
        unfold fLess at hc
        simp only [decide_eq_true_eq] at hc
        refine ⟨by omega, fun j hj => ?_, fun j hj => ?_⟩
        · have := h3 j (by simpa using hj)
          simp only [Int.toNat_natCast]
          omega
        · simp only [Int.toNat_natCast]
          by_cases e : j = n
          · rw [e]; exact Nat.le_refl _
          · have := h3 j (by omega); omega
      · have : leastTo l (n + 1) = leastTo l n := by rw [leastTo, if_neg (by rintro (h | h); omega; exact hc h)]
        rw [this]
        refine ⟨h1, h2, fun j hj => ?_⟩
        by_cases e : j = n
        · rw [e]
          unfold fLess at hc
          simp only [decide_eq_true_eq] at hc
          omega
        · exact h3 j (by omega)
theorem leastDn_ok {l : List Nat} : ∀ {k : Nat}, 0 < k → k ≤ l.length → ((l.length - k : Nat) : Int) ≤ leastDn l k ∧ (∀ j, l.length - k ≤ j → j < (leastDn l k).toNat → fRank (l.getD (leastDn l k).toNat default) < fRank (l.getD j default)) ∧
    (∀ j, l.length - k ≤ j → j < l.length → fRank (l.getD (leastDn l k).toNat default) ≤ fRank (l.getD j default))
  | 0, h, _ => absurd h (by omega)
  | k + 1, _, hk => by
    by_cases h0 : k = 0
    · subst h0
      have : leastDn l (0 + 1) = ((l.length - 1 - 0 : Nat) : Int) := by
        rw [leastDn, if_pos (.inl (by show (-1 : Int) < 0; omega))]
      rw [this]
      refine ⟨by omega, fun j hj hj2 => by simp only [Int.toNat_natCast] at hj2; omega, fun j hj hj2 => ?_⟩
      have : j = l.length - 1 - 0 := by omega
      subst this
      exact Nat.le_refl _
    · obtain ⟨h1, h2, h3⟩ := leastDn_ok (l := l) (k := k) (by omega) (by omega)
      have hu := (leastDn_lt (l := l) (k := k) (by omega)).1
      by_cases hc : fRank (l.getD (l.length - 1 - k) default) ≤ fRank (l.getD (leastDn l k).toNat default)
      · have : leastDn l (k + 1) = ((l.length - 1 - k : Nat) : Int) := by rw [leastDn, if_pos (.inr hc)]
        rw [this]
        refine ⟨by omega, fun j hj hj2 => by simp only [Int.toNat_natCast] at hj2; omega, fun j hj hj2 => ?_⟩
        simp only [Int.toNat_natCast]
        by_cases e : j = l.length - 1 - k
        · rw [e]; exact Nat.le_refl _
        · have := h3 j (by omega) hj2; omega
      · have : leastDn l (k + 1) = leastDn l k := by rw [leastDn, if_neg (by rintro (h | h); omega; exact hc h)]
        rw [this]
        refine ⟨by omega, fun j hj hj2 => ?_, fun j hj hj2 => ?_⟩
        · by_cases e : j = l.length - 1 - k
          · rw [e]; omega
          · exact h2 j (by omega) hj2
        · by_cases e : j = l.length - 1 - k
          · rw [e]; omega
          · exact h3 j (by omega) hj2
theorem least_same (l : List Nat) : leastTo l l.length = leastDn l l.length := by
  by_cases h0 : l.length = 0
  · rw [h0]; rfl
  · obtain ⟨a1, a2, a3⟩ := leastTo_ok (l := l) (n := l.length) (by omega) (Nat.le_refl _)
    obtain ⟨b1, b2, b3⟩ := leastDn_ok (l := l) (k := l.length) (by omega) (Nat.le_refl _)
    have ua := (leastTo_lt (l := l) (i := l.length)).1
    have ub := (leastDn_lt (l := l) (k := l.length) (Nat.le_refl _)).1
    have hx : ¬ (leastTo l l.length).toNat < (leastDn l l.length).toNat := fun h => by
      have := b2 _ (by omega) h
      have := a3 (leastDn l l.length).toNat (by omega)
      omega
    have hy : ¬ (leastDn l l.length).toNat < (leastTo l l.length).toNat := fun h => by
      have := a2 _ h
      have := b3 (leastTo l l.length).toNat (by omega) (by omega)
      omega
    omega
/-! ### The middle one -/
theorem ahead_count (l : List Nat) (b : Nat) : ∀ k, k ≤ l.length → aheadN l b k = (l.take k).countP (fun x => decide (fRank x < fRank b)) ∧ alikeN l b k = (l.take k).countP (fun x => decide (fRank x = fRank b))
  | 0, _ => ⟨rfl, rfl⟩
  | k + 1, hk => by
    obtain ⟨h1, h2⟩ := ahead_count l b k (by omega)
    have e : l.take (k + 1) = l.take k ++ [l.getD k default] := by
      rw [List.take_add_one, List.getElem?_eq_getElem (show k < l.length by omega), List.getD_eq_getElem?_getD, List.getElem?_eq_getElem (show k < l.length by omega)]; rfl
    rw [e, List.countP_append, List.countP_append, ← h1, ← h2, aheadN, alikeN]
    simp only [List.countP_cons, List.countP_nil, Nat.zero_add, decide_eq_true_eq]
    exact ⟨trivial, trivial⟩
theorem ahead_all (l : List Nat) (b : Nat) : aheadN l b l.length = l.countP (fun x => decide (fRank x < fRank b)) ∧ alikeN l b l.length = l.countP (fun x => decide (fRank x = fRank b)) := by
  have := ahead_count l b l.length (Nat.le_refl _)
  rwa [List.take_length] at this
/-- In a sorted list, of the one at place 'm' just so many stand ahead. -/
theorem count_sorted {s : List Nat} {m : Nat} (hm : m < s.length) (hs : ∀ i j, i < j → j < s.length → fRank (s.getD i default) ≤ fRank (s.getD j default)) :
    s.countP (fun x => decide (fRank x < fRank (s.getD m default))) ≤ m ∧ m < s.countP (fun x => decide (fRank x ≤ fRank (s.getD m default))) := by
  have e : s = s.take m ++ s.drop m := (List.take_append_drop m s).symm
  have e1 : s = s.take (m + 1) ++ s.drop (m + 1) := (List.take_append_drop (m + 1) s).symm
  generalize hr : fRank (s.getD m default) = r
  constructor
  · conv => lhs; rw [e]
    rw [List.countP_append]
    have h0 : (s.drop m).countP (fun x => decide (fRank x < r)) = 0 := by
      rw [List.countP_eq_zero]
      intro x hx
      obtain ⟨j, hj, rfl⟩ := List.getElem_of_mem hx
      rw [List.length_drop] at hj
      rw [List.getElem_drop]
      have : fRank (s.getD m default) ≤ fRank (s.getD (m + j) default) := by
        by_cases h : j = 0
        · subst h; exact Nat.le_refl _
        · exact hs m (m + j) (by omega) (by omega)
      rw [hr, List.getD_eq_getElem?_getD, List.getElem?_eq_getElem (show m + j < s.length by omega)] at this
      simp only [Option.getD_some] at this
      simp
      omega
    have := List.countP_le_length (p := fun x => decide (fRank x < r)) (l := s.take m)
    rw [List.length_take] at this
    omega
  · conv => rhs; rw [e1]
    rw [List.countP_append]
    have h0 : (s.take (m + 1)).countP (fun x => decide (fRank x ≤ r)) = (s.take (m + 1)).length := by
      rw [List.countP_eq_length]
      intro x hx
      obtain ⟨j, hj, rfl⟩ := List.getElem_of_mem hx
      rw [List.length_take] at hj
      rw [List.getElem_take]
      have : fRank (s.getD j default) ≤ fRank (s.getD m default) := by
        by_cases h : j = m
        · rw [h]; exact Nat.le_refl _
        · exact hs j m (by omega) hm
      rw [hr, List.getD_eq_getElem?_getD, List.getElem?_eq_getElem (show j < s.length by omega)] at this
      simp only [Option.getD_some] at this
      simp
      omega
    rw [h0, List.length_take]
    omega
theorem count_split (l : List Nat) (r : Nat) : l.countP (fun x => decide (fRank x ≤ r)) = l.countP (fun x => decide (fRank x < r)) + l.countP (fun x => decide (fRank x = r)) := by
  induction l with
  | nil => rfl
  | cons a l ih =>
    simp only [List.countP_cons, ih, decide_eq_true_eq]
    split <;> split <;> split <;> omega
theorem count_mono (l : List Nat) {r t : Nat} (h : r < t) : l.countP (fun x => decide (fRank x ≤ r)) ≤ l.countP (fun x => decide (fRank x < t)) :=
  List.countP_mono_left fun x _ hx => by simp at hx ⊢; omega
theorem midR_yes {l : List Nat} : ∀ (k i : Nat), i + k = l.length → ((midR l i).2 = true → ∃ j, j < l.length ∧ goodN l j = true ∧ (midR l i).1 = l.getD j default) ∧ ((midR l i).2 = false → ∀ j, i ≤ j → j < l.length → goodN l j = false)
  | 0, i, h => by
    rw [midR, if_neg (by omega)]
    exact ⟨fun h => by simp at h, fun _ j h1 h2 => by omega⟩
  | k + 1, i, h => by
    by_cases hg : goodN l i = true
    · rw [midR, if_pos (by omega), if_pos hg]
      exact ⟨fun _ => ⟨i, by omega, hg, rfl⟩, fun h => by simp at h⟩
    · have hg' : goodN l i = false := by simpa using hg
      obtain ⟨h1, h2⟩ := midR_yes (l := l) k (i + 1) (by omega)
      rw [midR_next (by omega) hg']
      refine ⟨h1, fun h j h3 h4 => ?_⟩
      by_cases e : j = i
      · rw [e]; exact hg'
      · exact h2 h j (by omega) h4
theorem mid_law {l : List Nat} (hf : ∀ b ∈ l, f64 b) (h0 : l ≠ []) : (midR l 0).2 = true ∧ fRank (midN l) = fRank (midR l 0).1 ∧ f64 (midN l) ∧ f64 (midR l 0).1 := by
  have hp := sortN_perm hf
  have hlen : 0 < l.length := List.length_pos_iff.2 h0
  have hz := sortN_len l
  have hm : l.length / 2 < (sortN l).length := by omega
  have hc := count_sorted (s := sortN l) hm (fun i j h1 h2 => sortN_le h1 (by omega))
  have hmid : midN l = (sortN l).getD (l.length / 2) default := by unfold midN; rw [if_neg h0]
  rw [← hmid, hp.countP_eq, hp.countP_eq] at hc
  have hmem : midN l ∈ l := by
    rw [hmid]
    refine hp.mem_iff.1 ?_
    rw [List.getD_eq_getElem?_getD, List.getElem?_eq_getElem hm]
    exact List.getElem_mem hm
  have good_iff : ∀ j, goodN l j = true ↔ (l.countP (fun x => decide (fRank x < fRank (l.getD j default))) ≤ l.length / 2 ∧ l.length / 2 < l.countP (fun x => decide (fRank x ≤ fRank (l.getD j default)))) := fun j => by
    unfold goodN
    rw [(ahead_all l _).1, (ahead_all l _).2, count_split]
    simp
  have hyes := midR_yes (l := l) l.length 0 (by omega)
  have h2 : (midR l 0).2 = true := by
    cases h : (midR l 0).2 with
    | true => rfl
    | false =>
      obtain ⟨j, hj, e⟩ := List.getElem_of_mem hmem
      have h3 := hyes.2 h j (by omega) hj
      have h4 : goodN l j = true := by
        rw [good_iff, List.getD_eq_getElem?_getD, List.getElem?_eq_getElem hj, Option.getD_some, e]
        exact hc
      rw [h3] at h4; cases h4
  obtain ⟨j, hj, hg, he⟩ := hyes.1 h2
  rw [good_iff, ← he] at hg
  have hr : fRank (midN l) = fRank (midR l 0).1 := by
    rcases Nat.lt_trichotomy (fRank (midN l)) (fRank (midR l 0).1) with h | h | h
    · have := count_mono l h; omega
    · exact h
    · have := count_mono l h; omega
  refine ⟨h2, hr, hf _ hmem, ?_⟩
  rw [he, List.getD_eq_getElem?_getD, List.getElem?_eq_getElem hj]
  exact hf _ (List.getElem_mem hj)
theorem law_WeightLeast {T : Tab} {n1 n2 n3 n4 n5 n6 n7 : Nat} (k1 : Knows T n1 sp_true) (k2 : Knows T n2 sp_floats) (k3 : Knows T n3 sp_Middle) (k4 : Knows T n4 sp_MiddleR) (k5 : Knows T n5 sp_least) (k6 : Knows T n6 sp_leastR) (k7 : Knows T n7 sp_alike) (l : List W) (f : Bool) (hl : l.length ≤ maxLen) :
    Holds T V_law03_WeightLeast (L_law03_WeightLeast n1 n2 n3 n4 n5 n6 n7) R_law03_WeightLeast [.d (.list (l.map rowW) f)] := by
  have F1 := k1.F; have G1 := k1.G; have F2 := k2.F; have G2 := k2.G; have F3 := k3.F; have G3 := k3.G; have F4 := k4.F; have G4 := k4.G; have F5 := k5.F; have G5 := k5.G
  have F6 := k6.F; have G6 := k6.G; have F7 := k7.F; have G7 := k7.G
  unfold Holds V_law03_WeightLeast L_law03_WeightLeast R_law03_WeightLeast
  simp (maxSteps := 3000000) only [↓vck_skip, ↓vck_ret, ↓vck_exit, ↓Z10, ↓vck_nilq, ↓nilTo_to, nilG_d, nilG_r, ↓vck_seq, ↓vck_cond, ↓vck_block, ↓vck_loop, ↓vckTo_to, ↓thenK_n, ↓thenK_x, ↓thenK_r, ↓blockK_n, ↓blockK_x, ↓blockK_o, ↓blockK_r, ↓regK_to, ↓retK_r, ↓retK_n, ↓loopV_n, ↓loopV_x, ↓loopV_r, ↓famK_n, ↓famK_x, ↓famK_r, ↓Z0g, ↓Z08, ↓boolK_not, ↓boolK_dec, ↓boolK_and, nf_mk, RGk_end_f, RGk_end_t, RGk_op, RGk_guard, opK_to, evN, evCallN, grow_mk, feet_f, feet_t, foot_mk, stepK_mk, stepK_v, stepK_no, guardG_t, guardG_f, guardG_no, condG_b, evT, Opd.ev, Z11, Z07, app_to, app_no, app_up, app_skip, app_skipn, know_mk, knowO_t, knowO_c, envFrom, Z09, keeps, LOp.isNew, State.prune, cellsQ, Z12, AV.leaf, Heap.at, Z0t, Z0b, loadO_vec, Z0e, Z01, idx_I, idx_W, rowW, set_rowW, app_rowW, app_rowW0, rep_rowW0, rowB, set_rowB, rep_rowB, rowN, lens_W, lensA_W, scal_rowW, default_W, w_or, w_and, w_andNot, w_and1, w_shl, w_shl1, w_shr, w_sub1, w_neg, w_add, w_bit, w_eq0, w_eq1, w_eq, Bool.decide_eq_true, idx_Rat, idx_Loc, idx_Act, idx_Step, idx_Stamp, Z03, Z0c, Z0z, Z00, loadDT_f, rowI, RatG.row, LocG.row, ActG.row, StepG.row, StampG.row, ActG.av, ActG.eta, RatG.eta, LocG.eta, beq_true, beq_false, loadDT_t, set_rowI, app_rowI, rep_rowI, Z0y, Z0k, Z0w, Z0x, Z0j, Z0i, Z0a, List.length_set, List.length_replicate, toNat_cast, Int.reduceToNat, evLen, evAppend, srcOf, Src.all, Src.len, Src.leaf, Src.leafN, evApart, aliveQ, joinV, Z0l, Z0m, Z0n, Z0o, Z0p, Z0q, Z0r, Z0s, mkVec, drows, evMk, List.length_map, Z06, Z05, List.take_length, List.take_left, List.length_append, Nat.le_add_right, ite_self, List.take_of_length_le, evSlice, intOr, intOpd, Option.isSome_none, Option.isSome_some, Nat.sub_zero, loadQ, loadT, evBin, evUn, evIdxArr_d, evIdxArr_p, binT, binQ, chk, apartF, List.contains_cons, List.contains_nil, Bool.or_false, Bool.false_or, Bool.and_self, resQ, resV, resT, pickV, evCallT, evTake, evCall, fnOf, viewsT, isD, HO.drow, viewT, evInt2, evEq, eqV, eqK, eqC1, buildQ, buildT, buildRQ, buildRT, lens_I, lensA_I, lens_Rat, lensA_Rat, lens_Loc, lensA_Loc, lens_Act, lensA_Act, lens_Step, Z0u, Z0v, Z0d, List.mem_cons, List.not_mem_nil, or_false, forall_eq, putRow, dcells, get_nil, RetS, RetF, RetD, AV.frz, AV.frzL, AV.freshP, AV.freshL, DV.less, scal_int, scal_bool, scal_nil, scal_rowI, Z0f, Z04, Option.some.injEq, AV.tup.injEq, AV.agg.injEq, List.cons.injEq, DV.list.injEq, List.isEmpty_nil, Nat.le_refl, AV.d.injEq, DV.int.injEq, DV.bool.injEq, ↓reduceIte, Nat.reduceEqDiff, Nat.reduceAdd, Nat.reduceBEq, List.length_cons, List.length_nil, List.replicate_succ, List.replicate_zero, List.nil_append, List.cons_append, List.append_nil, List.foldl_cons, List.foldl_nil, List.map_cons, List.map_nil, List.all_cons, List.all_nil, List.set_cons_zero, List.set_cons_succ, List.getD_cons_zero, List.getD_cons_succ, List.drop_zero, List.drop_succ_cons, List.take_succ_cons, List.take_zero, List.flatten_cons, List.flatten_nil, Bool.true_and, Bool.and_true, Bool.not_true, Bool.not_false, true_and, and_true, true_or, or_true, Option.bind_some, Option.map_some, decide_true, decide_false, beq_self_eq_true, true_implies, false_implies, implies_true, not_true_eq_false, not_false_eq_true, and_self, Bool.and_false, Bool.false_and, Nat.reduceLT, Nat.reduceLeDiff, List.reverse_cons, List.reverse_nil, Nat.zero_add, Nat.add_zero, Bool.false_eq_true, List.getElem?_cons_zero, Nat.reduceMul, Nat.mul_one, evFl, fltQ, fltT, DV.flt.injEq, app_rowF, Z05, getF, idx_F, lensA_F, lens_F, loadF, scal_flt, scal_rowF, Z06, F1, G1, F2, G2, F3, G3, F4, G4, F5, G5, F6, G6, F7, G7, at_true, at_floats, at_Middle, at_MiddleR, at_least, at_leastR, at_alike]
  have hb : (bitsN l).length ≤ 100 := by unfold bitsN; rw [List.length_map, List.length_take]; omega
  have hf : ∀ b ∈ bitsN l, f64 b := fun b hb => by
    unfold bitsN at hb
    obtain ⟨w, _, rfl⟩ := List.mem_map.1 hb
    exact w.isLt
  generalize bitsN l = B at hb hf
  have hM : B.length ≤ maxLen := by unfold maxLen; omega
  refine ⟨hl, ⟨by omega, hf⟩, ⟨by omega, hf⟩, ⟨hM, hf⟩, ⟨by omega, hf⟩, fun _ => ?_, fun h => h (least_same B)⟩
  by_cases h0 : B = []
  · subst h0
    have e1 : midR [] 0 = (0, false) := by rw [midR, if_neg (by simp)]
    have e2 : midN [] = 9221120237041090561 := by unfold midN; rw [if_pos rfl]
    rw [e1, e2, ord_ne (by omega) (by omega)]
    refine ⟨fun h => by simp at h, fun _ => ⟨fun _ => by simp, fun h => ?_⟩⟩
    have : fNaN 9221120237041090561 = true := by decide
    rw [this] at h
    simp at h
  · obtain ⟨m1, m2, m3, m4⟩ := mid_law hf h0
    rw [m1]
    exact ⟨fun _ => ⟨⟨m3, m4⟩, by rw [m2]; simp⟩, fun h => by simp at h⟩
end Go.Ago
