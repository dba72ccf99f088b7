/- The contracts of package rat. Conditions: none. -/
import Derived.Test.YtlecedmhdhmonaaAgoP3
import Derived.Test.YtlecedmhdhmonaaAgoP4
set_option maxRecDepth 100000
set_option linter.unusedSimpArgs false
set_option linter.unusedVariables false
namespace Go.Ago

def Z2d (a b : Int) : Bool := decide (1 ≤ b) && decide (b ≤ 1024) && decide (-1048576 ≤ a) && decide (a ≤ 1048576)

theorem right_iff {a b : Int} : Z2d a b = true ↔ 1 ≤ b ∧ b ≤ 1024 ∧ -1048576 ≤ a ∧ a ≤ 1048576 := by simp [Z2d, and_assoc]

theorem wrap_id {n : Int} (h : -9223372036854775808 ≤ n) (h' : n ≤ 9223372036854775807) : IntKind.wrap .i64 n = n := by
  simp [IntKind.wrap, IntKind.signed, IntKind.bits]
  split <;> omega

def sp_rat_Right : Sp := ⟨Int × Int, fun x => [.agg [.d (.int .i64 x.1), .d (.int .i64 x.2)]], fun x => .data True (.d (.bool (Z2d x.1 x.2))) true⟩
theorem at_rat_Right (a b : Int) : sp_rat_Right.at [.agg [.d (.int .i64 a), .d (.int .i64 b)]] = .data True (.d (.bool (Z2d a b))) true :=
  Sp.at_enc (s := sp_rat_Right) (fun x y h => by obtain ⟨a, b⟩ := x; obtain ⟨c, d⟩ := y; simpa [sp_rat_Right] using h) (a, b)

theorem body_rat_Right {T : Tab} : sp_rat_Right.Body T V_rat_Right L_rat_Right R_rat_Right := by
  rintro ⟨a, b⟩ -
  refine .inl ⟨rfl, ?_⟩
  unfold V_rat_Right L_rat_Right R_rat_Right
  simp only [↓Z11, ↓Z03, ↓Z0p, ↓Z0a, ↓Z0o, ↓Z0n, ↓Z1r, ↓Z0i, ↓Z0e, ↓Z0d, Z25, Z05, Z14, Z18, Z17, evN, Z0m, Z16, Z0l, Z0b, Z0k, Z1v, evT, Opd.ev, Z04, Z00, Z15, Z1d, Z1i, Z0u, Z0t, Z09, Z1g, LOp.isNew, State.prune, Z1e, Z0y, AV.leaf, Heap.at, Z06, Z02, Z28, Z2v, Z2w, binT, binQ, Bool.and_self, resQ, resV, resT, pickV, RetS, AV.d.injEq, DV.bool.injEq, ↓reduceIte, Nat.reduceAdd, Nat.reduceBEq, List.length_cons, List.length_nil, List.replicate_succ, List.replicate_zero, List.nil_append, List.append_nil, List.map_cons, List.map_nil, List.all_cons, List.all_nil, List.set_cons_zero, List.getD_cons_zero, List.getD_cons_succ, true_and, and_self, Nat.reduceLT, Nat.zero_add, Nat.add_zero, Bool.false_eq_true, sp_rat_Right]
  simp only [RetS, Z2d, AV.d.injEq, DV.bool.injEq]
  refine ⟨fun h1 => ⟨fun h2 => ⟨fun h3 => ?_, fun h3 => ?_⟩, fun h2 => ?_⟩, fun h1 => ?_⟩ <;> simp [*]

def sgn (d : Int) : Int := if d < 0 then -1 else if 0 < d then 1 else 0
def rat_cmp (a b c d : Int) : Int := if Z2d a b && Z2d c d then sgn (a * d - c * b) else 0

theorem mul_bd {a d : Int} (h1 : -1048576 ≤ a) (h2 : a ≤ 1048576) (h3 : 1 ≤ d) (h4 : d ≤ 1024) : -1073741824 ≤ a * d ∧ a * d ≤ 1073741824 := by
  have e1 : a * d ≤ 1048576 * d := Int.mul_le_mul_of_nonneg_right h2 (by omega)
  have e2 : -1048576 * d ≤ a * d := Int.mul_le_mul_of_nonneg_right h1 (by omega)
  omega

def sp_rat_Cmp : Sp := ⟨Int × Int × Int × Int, fun x => [.agg [.d (.int .i64 x.1), .d (.int .i64 x.2.1)], .agg [.d (.int .i64 x.2.2.1), .d (.int .i64 x.2.2.2)]], fun x => .data True (.d (.int .i64 (rat_cmp x.1 x.2.1 x.2.2.1 x.2.2.2))) true⟩
theorem at_rat_Cmp (a b c d : Int) : sp_rat_Cmp.at [.agg [.d (.int .i64 a), .d (.int .i64 b)], .agg [.d (.int .i64 c), .d (.int .i64 d)]] = .data True (.d (.int .i64 (rat_cmp a b c d))) true :=
  Sp.at_enc (s := sp_rat_Cmp) (fun x y h => by obtain ⟨a, b, c, d⟩ := x; obtain ⟨a', b', c', d'⟩ := y; simpa [sp_rat_Cmp, and_assoc] using h) (a, b, c, d)

theorem body_rat_Cmp {T : Tab} {n1 : Nat} (k1 : Knows T n1 sp_rat_Right) : sp_rat_Cmp.Body T V_rat_Cmp (L_rat_Cmp n1) R_rat_Cmp := by
  have F1 := k1.F; have G1 := k1.G
  rintro ⟨a, b, c, d⟩ -
  refine .inl ⟨rfl, ?_⟩
  unfold V_rat_Cmp L_rat_Cmp R_rat_Cmp
  simp only [↓Z0h, ↓Z11, ↓Z03, ↓Z0p, ↓Z0f, ↓Z0c, ↓Z0a, ↓Z0o, ↓Z1p, ↓Z12, ↓Z2b, ↓Z0n, ↓Z1r, ↓Z0i, ↓Z0e, ↓Z1b, ↓Z0d, Z25, Z05, Z0r, Z14, Z18, Z17, evN, Z13, Z0m, Z16, Z20, Z0l, Z0b, Z0k, Z1n, Z0v, evT, Opd.ev, Z04, Z00, Z15, Z1d, Z1i, Z0u, Z0w, Z0t, Z09, Z1g, LOp.isNew, State.prune, Z1e, Z0y, AV.leaf, Heap.at, Z06, Z02, Z28, Z2v, Z2w, evUn, binT, binQ, chk, Z24, Bool.and_self, resQ, resV, resT, pickV, Z10, Z1o, fnOf, Z1l, isD, Z3h, Z0q, RetS, Nat.le_refl, AV.d.injEq, DV.int.injEq, ↓reduceIte, Nat.reduceAdd, Nat.reduceBEq, List.length_cons, List.length_nil, List.replicate_succ, List.replicate_zero, List.nil_append, List.cons_append, List.append_nil, List.map_cons, List.map_nil, List.all_cons, List.all_nil, List.set_cons_zero, List.set_cons_succ, List.getD_cons_zero, List.getD_cons_succ, List.drop_zero, List.take_succ_cons, List.take_zero, List.flatten_cons, List.flatten_nil, true_and, and_self, Nat.reduceLT, List.reverse_cons, List.reverse_nil, Nat.zero_add, Nat.add_zero, Bool.false_eq_true, sp_rat_Cmp, F1, G1, at_rat_Right, RetS, AV.d.injEq, DV.int.injEq]
  refine ⟨fun h1 => ⟨fun h2 => ?_, fun h2 => by simp [rat_cmp, h1, h2]⟩, fun h1 => by simp [rat_cmp, h1]⟩
  obtain ⟨r1, r2, r3, r4⟩ := right_iff.1 h1
  obtain ⟨s1, s2, s3, s4⟩ := right_iff.1 h2
  have e1 := mul_bd r3 r4 s1 s2
  have e2 := mul_bd s3 s4 r1 r2
  simp only [rat_cmp, h1, h2, sgn, Bool.and_self, if_true, wrap_id (n := a * d) (by omega) (by omega), wrap_id (n := c * b) (by omega) (by omega)]
  generalize a * d = p at *
  generalize c * b = q at *
  refine ⟨fun h => ?_, fun h => ⟨fun h' => ?_, fun h' => ?_⟩⟩
  · rw [if_pos (by omega)]
  · rw [if_neg (by omega), if_pos (by omega)]
  · rw [if_neg (by omega), if_neg (by omega)]

def gcdI (a b : Int) : Int := (Nat.gcd a.natAbs b.natAbs : Nat)

theorem gcdI_step {a b : Int} (ha : 0 ≤ a) (hb : 0 ≤ b) : gcdI b (a.tmod b) = gcdI a b := by
  unfold gcdI
  congr 1
  rw [Int.natAbs_tmod, Nat.gcd_comm, ← Nat.gcd_rec, Nat.gcd_comm]

def sp_rat_gcd : Sp := ⟨Int × Int, fun x => [.d (.int .i64 x.1), .d (.int .i64 x.2)], fun x => .data (0 ≤ x.1 ∧ 0 ≤ x.2) (.d (.int .i64 (gcdI x.1 x.2))) true⟩
theorem at_rat_gcd (a b : Int) : sp_rat_gcd.at [.d (.int .i64 a), .d (.int .i64 b)] = .data (0 ≤ a ∧ 0 ≤ b) (.d (.int .i64 (gcdI a b))) true :=
  Sp.at_enc (s := sp_rat_gcd) (fun x y h => by obtain ⟨a, b⟩ := x; obtain ⟨c, d⟩ := y; simpa [sp_rat_gcd] using h) (a, b)

theorem body_rat_gcd {T : Tab} : sp_rat_gcd.Body T V_rat_gcd L_rat_gcd R_rat_gcd := by
  rintro ⟨a, b⟩ ⟨ha, hb⟩
  refine .inl ⟨rfl, ?_⟩
  unfold V_rat_gcd L_rat_gcd R_rat_gcd
  simp only [↓Z03, ↓Z0p, ↓Z0c, ↓Z1h, ↓Z0a, ↓Z0o, ↓Z0n, Z25, Z05, Z14, Z17, evN, Z0m, Z16, Z0l, Z0k, evT, Opd.ev, Z04, Z00, Z15, Z0t, Z09, Z1g, LOp.isNew, State.prune, Z0q, ↓reduceIte, Nat.reduceBEq, List.length_nil, List.replicate_zero, List.append_nil, List.map_cons, List.map_nil, true_and, Nat.zero_add, Nat.add_zero, Bool.false_eq_true, sp_rat_gcd]
  refine Loop.fam [0, 1] (fun x : Int × Int => ⟨[(0, .d (.int .i64 x.1)), (1, .d (.int .i64 x.2))], []⟩) (fun x => 0 ≤ x.1 ∧ 0 ≤ x.2 ∧ gcdI x.1 x.2 = gcdI a b) (fun x => x.2.toNat) (a, b) [] (by simp) (by simp)
    (by simp only [State.can, AV.can, HO.can, Z04, Z00, Heap.at, Nat.reduceBEq, Option.getD_some, List.map_cons, List.map_nil]) ⟨ha, hb, rfl⟩ ?_
  rintro ⟨x, y⟩ ⟨hx, hy, hg⟩
  simp only [↓Z0h, ↓Z11, ↓Z1a, ↓Z03, ↓Z0p, ↓Z0f, ↓Z0c, ↓Z0a, ↓Z0o, ↓Z1q, ↓Z12, ↓Z19, ↓Z0n, ↓Z1r, ↓famK_n, ↓Z30, ↓Z1b, ↓Z0d, Z25, Z05, Z0r, Z14, Z17, evN, Z0m, Z16, Z20, Z0l, Z0k, Z0v, evT, Opd.ev, Z04, Z00, Z15, Z0u, Z0w, Z09, Z1g, LOp.isNew, State.prune, Z2w, binT, binQ, chk, Z24, resQ, resV, resT, Z0q, RetS, AV.d.injEq, DV.int.injEq, ↓reduceIte, Nat.reduceBEq, List.length_nil, List.replicate_zero, List.nil_append, List.cons_append, List.append_nil, List.map_cons, List.map_nil, List.all_nil, true_and, List.reverse_cons, List.reverse_nil, Nat.add_zero, Bool.false_eq_true, RetS]
  refine ⟨fun h => ?_, fun h => ⟨h, Z0g.mk [] (y, x.tmod y) (by simp) (by simp) (by simp only [State.can, AV.can, HO.can, Z04, Z00, Heap.at, Nat.reduceBEq, Option.getD_some, List.map_cons, List.map_nil]) ⟨hy, Int.tmod_nonneg _ hx, by rw [← hg]; exact gcdI_step hx hy⟩ ?_⟩⟩
  · rw [← hg]
    have hx : 0 ≤ x := hx
    simp only [h, gcdI, Int.natAbs_zero, Nat.gcd_zero_right]
    congr 2; omega
  · have hy : 0 ≤ y := hy
    have := Int.tmod_lt_of_pos x (show 0 < y by omega)
    have := Int.tmod_nonneg (b := y) (a := x) hx
    show (x.tmod y).toNat < y.toNat
    omega

/-- A moment, and whether there is one. -/
def mo : Option (Int × Int) → AV
  | some (a, b) => .tup [.agg [.d (.int .i64 a), .d (.int .i64 b)], .d (.bool true)]
  | none => .tup [.agg [.d (.int .i64 0), .d (.int .i64 0)], .d (.bool false)]

def Z2q (a b : Int) : Int × Int := if Z2d a b then (a.tdiv (gcdI a b), b.tdiv (gcdI a b)) else (a, b)
def rat_max (a b c d : Int) : Int × Int := if rat_cmp a b c d < 0 then (c, d) else (a, b)
def rat_after (a b : Int) : Option (Int × Int) :=
  if Z2d a b then (if Z2d (a.fdiv b + 1) 1 then some (a.fdiv b + 1, 1) else none) else none

theorem gcdI_pos {a b : Int} (h : b ≠ 0) : 0 < gcdI a b := by
  unfold gcdI
  have := Nat.gcd_pos_of_pos_right a.natAbs (n := b.natAbs) (by omega)
  omega

theorem tdiv_bd {g a : Int} (hg : 0 < g) : (a.tdiv g).natAbs ≤ a.natAbs := by
  rw [Int.natAbs_tdiv]; exact Nat.div_le_self _ _

theorem least_bd {a b : Int} (h : Z2d a b = true) : (Z2q a b).1.natAbs ≤ a.natAbs ∧ 1 ≤ (Z2q a b).2 ∧ (Z2q a b).2 ≤ b := by
  obtain ⟨r1, r2, r3, r4⟩ := right_iff.1 h
  have g0 := gcdI_pos (a := a) (b := b) (by omega)
  simp only [Z2q, h, if_true]
  refine ⟨tdiv_bd g0, ?_, ?_⟩
  · have : gcdI a b ≤ b := by
      unfold gcdI
      have := Nat.gcd_le_right a.natAbs (n := b.natAbs) (by omega)
      omega
    rw [Int.tdiv_eq_ediv_of_nonneg (by omega)]
    exact (Int.le_ediv_iff_mul_le g0).2 (by omega)
  · have := tdiv_bd (a := b) g0
    omega

theorem fdiv_eq {a b : Int} (hb : 0 < b) : a.fdiv b = if a < 0 ∧ ¬ a.tmod b = 0 then a.tdiv b - 1 else a.tdiv b := by
  rw [Int.fdiv_eq_ediv_of_nonneg _ (by omega)]
  split
  · rename_i h
    have := Int.tdiv_eq_ediv (a := a) (b := b)
    have hd : ¬ b ∣ a := fun hd => h.2 (Int.tmod_eq_zero_of_dvd hd)
    rw [if_neg (by rintro (h1 | h1); omega; exact hd h1), Int.sign_eq_one_of_pos hb] at this
    omega
  · rename_i h
    have := Int.tdiv_eq_ediv (a := a) (b := b)
    rw [if_pos] at this
    · omega
    · by_cases h1 : 0 ≤ a
      · exact .inl h1
      · exact .inr (Int.dvd_of_tmod_eq_zero (Classical.byContradiction fun h2 => h ⟨by omega, h2⟩))

def sp_rat_Least : Sp := ⟨Int × Int, fun x => [.agg [.d (.int .i64 x.1), .d (.int .i64 x.2)]], fun x => .data True (.agg [.d (.int .i64 (Z2q x.1 x.2).1), .d (.int .i64 (Z2q x.1 x.2).2)]) true⟩
theorem at_rat_Least (a b : Int) : sp_rat_Least.at [.agg [.d (.int .i64 a), .d (.int .i64 b)]] = .data True (.agg [.d (.int .i64 (Z2q a b).1), .d (.int .i64 (Z2q a b).2)]) true :=
  Sp.at_enc (s := sp_rat_Least) (fun x y h => by obtain ⟨a, b⟩ := x; obtain ⟨c, d⟩ := y; simpa [sp_rat_Least] using h) (a, b)

theorem body_rat_Least {T : Tab} {n1 n2 : Nat} (k1 : Knows T n1 sp_rat_Right) (k2 : Knows T n2 sp_rat_gcd) : sp_rat_Least.Body T V_rat_Least (L_rat_Least n1 n2) R_rat_Least := by
  have F1 := k1.F; have G1 := k1.G; have F2 := k2.F; have G2 := k2.G
  rintro ⟨a, b⟩ -
  refine .inl ⟨rfl, ?_⟩
  unfold V_rat_Least L_rat_Least R_rat_Least
  simp only [↓Z0h, ↓Z11, ↓Z03, ↓Z0p, ↓Z0f, ↓Z0a, ↓Z0o, ↓Z1p, ↓Z0n, ↓Z1r, ↓Z1b, Z25, Z05, Z0r, Z14, Z17, evN, Z13, Z0m, Z16, Z20, Z0l, Z0b, Z0k, Z0v, evT, Opd.ev, Z04, Z00, Z15, Z21, Z1d, Z0u, Z0w, Z0t, Z09, Z1g, LOp.isNew, State.prune, Z1e, Z0y, AV.leaf, Heap.at, Z06, Z02, Z08, Z01, Z28, Z2v, Z2w, evUn, binT, binQ, chk, Z24, Bool.and_self, resQ, resV, resT, Z10, Z1o, fnOf, Z1l, isD, Z3h, evInt2, buildQ, Z3k, putRow, Z0q, RetS, AV.agg.injEq, List.cons.injEq, Nat.le_refl, AV.d.injEq, DV.int.injEq, ↓reduceIte, Nat.reduceAdd, Nat.reduceBEq, List.length_cons, List.length_nil, List.replicate_succ, List.replicate_zero, List.nil_append, List.cons_append, List.append_nil, List.map_cons, List.map_nil, List.all_cons, List.all_nil, List.set_cons_zero, List.set_cons_succ, List.getD_cons_zero, List.getD_cons_succ, List.drop_zero, List.drop_succ_cons, List.take_succ_cons, List.take_zero, List.flatten_cons, List.flatten_nil, true_and, and_true, and_self, Nat.reduceLT, Nat.reduceLeDiff, List.reverse_cons, List.reverse_nil, Nat.zero_add, Nat.add_zero, Bool.false_eq_true, sp_rat_Least, F1, G1, F2, G2, at_rat_Right, at_rat_gcd]
  refine ⟨fun h => ?_, fun h => by simp [Z2q, h]⟩
  obtain ⟨r1, r2, r3, r4⟩ := right_iff.1 h
  have e : (if IntKind.i64.wrap (0 - a) > a then IntKind.i64.wrap (0 - a) else a) = (a.natAbs : Int) := by
    rw [wrap_id (by omega) (by omega)]; split <;> omega
  have e2 : gcdI (a.natAbs : Int) b = gcdI a b := by simp [gcdI]
  rw [e, e2]
  have g0 := gcdI_pos (a := a) (b := b) (by omega)
  have q1 := tdiv_bd (g := gcdI a b) (a := a) (by omega)
  have q2 := tdiv_bd (g := gcdI a b) (a := b) (by omega)
  refine ⟨⟨by omega, by omega⟩, by omega, by omega, ?_⟩
  rw [wrap_id (by omega) (by omega), wrap_id (by omega) (by omega)]
  simp [Z2q, h]

def sp_rat_Max : Sp := ⟨Int × Int × Int × Int, fun x => [.agg [.d (.int .i64 x.1), .d (.int .i64 x.2.1)], .agg [.d (.int .i64 x.2.2.1), .d (.int .i64 x.2.2.2)]], fun x => .data True (.agg [.d (.int .i64 (rat_max x.1 x.2.1 x.2.2.1 x.2.2.2).1), .d (.int .i64 (rat_max x.1 x.2.1 x.2.2.1 x.2.2.2).2)]) true⟩
theorem at_rat_Max (a b c d : Int) : sp_rat_Max.at [.agg [.d (.int .i64 a), .d (.int .i64 b)], .agg [.d (.int .i64 c), .d (.int .i64 d)]] = .data True (.agg [.d (.int .i64 (rat_max a b c d).1), .d (.int .i64 (rat_max a b c d).2)]) true :=
  Sp.at_enc (s := sp_rat_Max) (fun x y h => by obtain ⟨a, b, c, d⟩ := x; obtain ⟨a', b', c', d'⟩ := y; simpa [sp_rat_Max, and_assoc] using h) (a, b, c, d)

theorem body_rat_Max {T : Tab} {n1 : Nat} (k1 : Knows T n1 sp_rat_Cmp) : sp_rat_Max.Body T V_rat_Max (L_rat_Max n1) R_rat_Max := by
  have F1 := k1.F; have G1 := k1.G
  rintro ⟨a, b, c, d⟩ -
  refine .inl ⟨rfl, ?_⟩
  unfold V_rat_Max L_rat_Max R_rat_Max
  simp only [↓Z0h, ↓Z11, ↓Z03, ↓Z0p, ↓Z0f, ↓Z0a, ↓Z0o, ↓Z1p, ↓Z0n, ↓Z1r, ↓Z0d, Z25, Z05, Z14, Z17, evN, Z13, Z0m, Z16, Z0l, Z0b, Z0k, Z0v, evT, Opd.ev, Z04, Z00, Z15, Z21, Z1d, Z0u, Z0w, Z0t, Z09, Z1g, LOp.isNew, State.prune, Z1e, Z0y, AV.leaf, Heap.at, Z06, Z02, Z08, Z01, Z28, Z2v, Z2w, binT, binQ, Bool.and_self, resQ, resV, resT, Z10, Z1o, fnOf, Z1l, isD, Z3h, putRow, Z0q, RetS, AV.agg.injEq, List.cons.injEq, Nat.le_refl, AV.d.injEq, DV.int.injEq, ↓reduceIte, Nat.reduceAdd, Nat.reduceBEq, List.length_cons, List.length_nil, List.replicate_succ, List.replicate_zero, List.nil_append, List.append_nil, List.map_cons, List.map_nil, List.all_cons, List.all_nil, List.set_cons_zero, List.set_cons_succ, List.getD_cons_zero, List.getD_cons_succ, List.drop_zero, List.drop_succ_cons, List.take_succ_cons, List.take_zero, List.flatten_cons, List.flatten_nil, true_and, and_true, and_self, Nat.reduceLT, Nat.zero_add, Nat.add_zero, Bool.false_eq_true, sp_rat_Max, F1, G1, at_rat_Cmp]
  exact ⟨fun h => by simp [rat_max, h], fun h => by simp [rat_max, h]⟩

def sp_rat_After : Sp := ⟨Int × Int, fun x => [.agg [.d (.int .i64 x.1), .d (.int .i64 x.2)]], fun x => .data True (mo (rat_after x.1 x.2)) true⟩
theorem at_rat_After (a b : Int) : sp_rat_After.at [.agg [.d (.int .i64 a), .d (.int .i64 b)]] = .data True (mo (rat_after a b)) true :=
  Sp.at_enc (s := sp_rat_After) (fun x y h => by obtain ⟨a, b⟩ := x; obtain ⟨c, d⟩ := y; simpa [sp_rat_After] using h) (a, b)

theorem body_rat_After {T : Tab} {n1 : Nat} (k1 : Knows T n1 sp_rat_Right) : sp_rat_After.Body T V_rat_After (L_rat_After n1) R_rat_After := by
  have F1 := k1.F; have G1 := k1.G
  rintro ⟨a, b⟩ -
  refine .inl ⟨by dsimp only; cases rat_after a b <;> rfl, ?_⟩
  unfold V_rat_After L_rat_After R_rat_After
  simp only [↓Z0h, ↓Z11, ↓Z03, ↓Z0p, ↓Z0f, ↓Z0a, ↓Z0o, ↓Z1p, ↓Z0n, ↓Z1r, ↓Z0i, ↓Z0e, ↓Z1b, ↓Z0d, Z25, Z05, Z14, Z18, Z17, evN, Z13, Z0m, Z16, Z0l, Z0b, Z0k, Z1v, Z0v, evT, Opd.ev, Z04, Z00, Z15, Z21, Z1d, Z1i, Z0u, Z0w, Z0t, Z09, Z1g, LOp.isNew, State.prune, Z1e, Z0y, AV.leaf, Heap.at, Z06, Z02, Z08, Z01, Z28, Z2v, Z2w, evUn, binT, binQ, Bool.and_self, resQ, resV, resT, pickV, Z10, Z1o, fnOf, Z1l, isD, Z3h, buildQ, Z3k, putRow, Z0q, RetS, Nat.le_refl, ↓reduceIte, Nat.reduceAdd, Nat.reduceBEq, List.length_cons, List.length_nil, List.replicate_succ, List.replicate_zero, List.nil_append, List.cons_append, List.append_nil, List.map_cons, List.map_nil, List.all_cons, List.all_nil, List.set_cons_zero, List.set_cons_succ, List.getD_cons_zero, List.getD_cons_succ, List.drop_zero, List.drop_succ_cons, List.take_succ_cons, List.take_zero, List.flatten_cons, List.flatten_nil, true_and, and_self, Nat.reduceLT, Nat.reduceLeDiff, Nat.zero_add, Nat.add_zero, Bool.false_eq_true, sp_rat_After, F1, G1, at_rat_Right]
  refine ⟨fun h => ?_, fun h => by simp [rat_after, h, mo]⟩
  obtain ⟨r1, r2, r3, r4⟩ := right_iff.1 h
  have q := tdiv_bd (g := b) (a := a) (by omega)
  have e := fdiv_eq (a := a) (b := b) (by omega)
  have fin : ∀ n, n = a.fdiv b + 1 → boolK (Z2d n 1) (AV.tup [AV.agg [AV.d (DV.int IntKind.i64 n), AV.d (DV.int IntKind.i64 1)], AV.d (DV.bool true)] = mo (rat_after a b))
      (AV.tup [AV.agg [AV.d (DV.int IntKind.i64 0), AV.d (DV.int IntKind.i64 0)], AV.d (DV.bool false)] = mo (rat_after a b)) := fun n hn => by
    subst hn
    exact ⟨fun h3 => by simp [rat_after, h, h3, mo], fun h3 => by simp [rat_after, h, h3, mo]⟩
  rw [wrap_id (n := a.tdiv b) (by omega) (by omega), wrap_id (n := a.tdiv b - 1) (by omega) (by omega), wrap_id (n := a.tdiv b + 1) (by omega) (by omega), wrap_id (n := a.tdiv b - 1 + 1) (by omega) (by omega)]
  refine ⟨by omega, fun h1 => ⟨by omega, fun h2 => fin _ ?_, fun h2 => fin _ ?_⟩, fun h1 => fin _ ?_⟩
  · rw [e, if_neg (fun h => h.2 h2)]
  · rw [e, if_pos ⟨h1, h2⟩]
  · rw [e, if_neg (fun h => h1 h.1)]
end Go.Ago

/- The contracts of package act and of its reference. Conditions: none. -/
set_option maxRecDepth 100000
set_option linter.unusedSimpArgs false
set_option linter.unusedVariables false
namespace Go.Ago

theorem clone_end {sz bytes : Nat} {l : List (List DV)} (h1 : ∀ r ∈ l, r.length = sz) (h2 : roomy l.length bytes) : (((∀ (r : List AV), r ∈ List.map (fun x => List.map AV.d x) l → r.length = sz) ∧ roomy l.length bytes) ∧
      RetRows sz l (AV.ref 0 sz 0 l.length true) [HO.dvec sz l]) ∧
    (l.length = 0 → RetRows sz l (AV.d (DV.list [] true)) []) :=
  ⟨⟨⟨fun r h => by
      obtain ⟨x, hx, rfl⟩ := List.mem_map.1 h
      simpa using h1 x hx, h2⟩, .inl ⟨0, true, rfl, rfl⟩⟩, fun h => .inr ⟨List.eq_nil_of_length_eq_zero h, rfl⟩⟩

theorem body_slices_Clone_int64 {T : Tab} : (cloneS 1 8).Body T V_slices_Clone_int64 L_slices_Clone_int64 R_slices_Clone_int64 := by
  rintro ⟨l, full⟩ ⟨h1, h2⟩
  refine ⟨h1, ?_⟩
  unfold V_slices_Clone_int64 L_slices_Clone_int64 R_slices_Clone_int64
  simp only [↓Z0h, ↓Z11, ↓Z03, ↓Z36, ↓Z35, nilG_d, ↓Z0p, ↓Z0f, ↓Z0a, ↓Z0o, ↓Z1p, ↓Z0n, ↓Z1r, ↓Z0i, ↓Z0e, Z25, Z05, Z14, Z17, evN, Z0m, Z16, Z0l, Z0b, Z0k, Z0v, evT, Opd.ev, Z04, Z00, Z15, Z1d, Z0u, Z0w, Z0t, Z09, Z1g, LOp.isNew, State.prune, Z1s, Z38, Src.all, Src.len, Src.leaf, joinV, resQ, resV, resT, List.not_mem_nil, Z0q, ↓reduceIte, Nat.reduceBEq, List.length_nil, List.replicate_succ, List.replicate_zero, List.nil_append, List.append_nil, List.map_cons, List.map_nil, List.set_cons_zero, Bool.not_false, true_and, true_or, false_implies, implies_true, Nat.zero_add, Nat.add_zero, Bool.false_eq_true, cloneS]
  exact clone_end h1 h2

theorem body_slices_Clone_api_Loc {T : Tab} : (cloneS 2 16).Body T V_slices_Clone_api_Loc L_slices_Clone_api_Loc R_slices_Clone_api_Loc := by
  rintro ⟨l, full⟩ ⟨h1, h2⟩
  refine ⟨h1, ?_⟩
  unfold V_slices_Clone_api_Loc L_slices_Clone_api_Loc R_slices_Clone_api_Loc
  simp only [↓Z0h, ↓Z11, ↓Z03, ↓Z36, ↓Z35, nilG_d, ↓Z0p, ↓Z0f, ↓Z0a, ↓Z0o, ↓Z1p, ↓Z0n, ↓Z1r, ↓Z0i, ↓Z0e, Z25, Z05, Z14, Z17, evN, Z0m, Z16, Z0l, Z0b, Z0k, Z0v, evT, Opd.ev, Z04, Z00, Z15, Z1d, Z0u, Z0w, Z0t, Z09, Z1g, LOp.isNew, State.prune, Z1s, Z38, Src.all, Src.len, Src.leaf, joinV, resQ, resV, resT, List.not_mem_nil, Z0q, ↓reduceIte, Nat.reduceBEq, List.length_nil, List.replicate_succ, List.replicate_zero, List.nil_append, List.append_nil, List.map_cons, List.map_nil, List.set_cons_zero, Bool.not_false, true_and, true_or, false_implies, implies_true, Nat.zero_add, Nat.add_zero, Bool.false_eq_true, cloneS]
  exact clone_end h1 h2

theorem body_slices_Clone_api_Rat {T : Tab} : (cloneS 2 16).Body T V_slices_Clone_api_Rat L_slices_Clone_api_Rat R_slices_Clone_api_Rat := by
  rintro ⟨l, full⟩ ⟨h1, h2⟩
  refine ⟨h1, ?_⟩
  unfold V_slices_Clone_api_Rat L_slices_Clone_api_Rat R_slices_Clone_api_Rat
  simp only [↓Z0h, ↓Z11, ↓Z03, ↓Z36, ↓Z35, nilG_d, ↓Z0p, ↓Z0f, ↓Z0a, ↓Z0o, ↓Z1p, ↓Z0n, ↓Z1r, ↓Z0i, ↓Z0e, Z25, Z05, Z14, Z17, evN, Z0m, Z16, Z0l, Z0b, Z0k, Z0v, evT, Opd.ev, Z04, Z00, Z15, Z1d, Z0u, Z0w, Z0t, Z09, Z1g, LOp.isNew, State.prune, Z1s, Z38, Src.all, Src.len, Src.leaf, joinV, resQ, resV, resT, List.not_mem_nil, Z0q, ↓reduceIte, Nat.reduceBEq, List.length_nil, List.replicate_succ, List.replicate_zero, List.nil_append, List.append_nil, List.map_cons, List.map_nil, List.set_cons_zero, Bool.not_false, true_and, true_or, false_implies, implies_true, Nat.zero_add, Nat.add_zero, Bool.false_eq_true, cloneS]
  exact clone_end h1 h2

theorem body_slices_Clone_api_Stamp_api_Stamp {T : Tab} : (cloneS 1 24).Body T V_slices_Clone_api_Stamp_api_Stamp L_slices_Clone_api_Stamp_api_Stamp R_slices_Clone_api_Stamp_api_Stamp := by
  rintro ⟨l, full⟩ ⟨h1, h2⟩
  refine ⟨h1, ?_⟩
  unfold V_slices_Clone_api_Stamp_api_Stamp L_slices_Clone_api_Stamp_api_Stamp R_slices_Clone_api_Stamp_api_Stamp
  simp only [↓Z0h, ↓Z11, ↓Z03, ↓Z36, ↓Z35, nilG_d, ↓Z0p, ↓Z0f, ↓Z0a, ↓Z0o, ↓Z1p, ↓Z0n, ↓Z1r, ↓Z0i, ↓Z0e, Z25, Z05, Z14, Z17, evN, Z0m, Z16, Z0l, Z0b, Z0k, Z0v, evT, Opd.ev, Z04, Z00, Z15, Z1d, Z0u, Z0w, Z0t, Z09, Z1g, LOp.isNew, State.prune, Z1s, Z38, Src.all, Src.len, Src.leaf, joinV, resQ, resV, resT, List.not_mem_nil, Z0q, ↓reduceIte, Nat.reduceBEq, List.length_nil, List.replicate_succ, List.replicate_zero, List.nil_append, List.append_nil, List.map_cons, List.map_nil, List.set_cons_zero, Bool.not_false, true_and, true_or, false_implies, implies_true, Nat.zero_add, Nat.add_zero, Bool.false_eq_true, cloneS]
  exact clone_end h1 h2

theorem body_slices_Clone_api_Rat_api_Rat {T : Tab} : (cloneS 1 24).Body T V_slices_Clone_api_Rat_api_Rat L_slices_Clone_api_Rat_api_Rat R_slices_Clone_api_Rat_api_Rat := by
  rintro ⟨l, full⟩ ⟨h1, h2⟩
  refine ⟨h1, ?_⟩
  unfold V_slices_Clone_api_Rat_api_Rat L_slices_Clone_api_Rat_api_Rat R_slices_Clone_api_Rat_api_Rat
  simp only [↓Z0h, ↓Z11, ↓Z03, ↓Z36, ↓Z35, nilG_d, ↓Z0p, ↓Z0f, ↓Z0a, ↓Z0o, ↓Z1p, ↓Z0n, ↓Z1r, ↓Z0i, ↓Z0e, Z25, Z05, Z14, Z17, evN, Z0m, Z16, Z0l, Z0b, Z0k, Z0v, evT, Opd.ev, Z04, Z00, Z15, Z1d, Z0u, Z0w, Z0t, Z09, Z1g, LOp.isNew, State.prune, Z1s, Z38, Src.all, Src.len, Src.leaf, joinV, resQ, resV, resT, List.not_mem_nil, Z0q, ↓reduceIte, Nat.reduceBEq, List.length_nil, List.replicate_succ, List.replicate_zero, List.nil_append, List.append_nil, List.map_cons, List.map_nil, List.set_cons_zero, Bool.not_false, true_and, true_or, false_implies, implies_true, Nat.zero_add, Nat.add_zero, Bool.false_eq_true, cloneS]
  exact clone_end h1 h2

theorem body_slices_Clone_api_Stamp {T : Tab} : (cloneS 3 24).Body T V_slices_Clone_api_Stamp L_slices_Clone_api_Stamp R_slices_Clone_api_Stamp := by
  rintro ⟨l, full⟩ ⟨h1, h2⟩
  refine ⟨h1, ?_⟩
  unfold V_slices_Clone_api_Stamp L_slices_Clone_api_Stamp R_slices_Clone_api_Stamp
  simp only [↓Z0h, ↓Z11, ↓Z03, ↓Z36, ↓Z35, nilG_d, ↓Z0p, ↓Z0f, ↓Z0a, ↓Z0o, ↓Z1p, ↓Z0n, ↓Z1r, ↓Z0i, ↓Z0e, Z25, Z05, Z14, Z17, evN, Z0m, Z16, Z0l, Z0b, Z0k, Z0v, evT, Opd.ev, Z04, Z00, Z15, Z1d, Z0u, Z0w, Z0t, Z09, Z1g, LOp.isNew, State.prune, Z1s, Z38, Src.all, Src.len, Src.leaf, joinV, resQ, resV, resT, List.not_mem_nil, Z0q, ↓reduceIte, Nat.reduceBEq, List.length_nil, List.replicate_succ, List.replicate_zero, List.nil_append, List.append_nil, List.map_cons, List.map_nil, List.set_cons_zero, Bool.not_false, true_and, true_or, false_implies, implies_true, Nat.zero_add, Nat.add_zero, Bool.false_eq_true, cloneS]
  exact clone_end h1 h2

def ActG.isR (a : ActG) : Bool := decide (a.kind = 1) || decide (a.kind = 3) || decide (a.kind = 5)
def ActG.isW (a : ActG) : Bool := decide (a.kind = 2) || decide (a.kind = 4) || decide (a.kind = 5)
def ActG.isA (a : ActG) : Bool := decide (a.kind = 3) || decide (a.kind = 4) || decide (a.kind = 5)
/-- May it be an act on these locations? -/
def ActG.right (a : ActG) (l : List LocG) : Bool :=
  if a.kind = 6 then decide (a.loc = 0) && decide (a.old = 0)
  else decide (1 ≤ a.kind) && decide (a.kind ≤ 5) && decide (0 ≤ a.loc) && decide (a.loc < l.length) && ((l.getD a.loc.toNat default).atom == a.isA) && (a.isR || decide (a.old = 0)) && (a.isW || decide (a.new = 0))

def sp_act_Right : Sp := ⟨ActG × List LocG × Bool, fun x => [x.1.av, .d (.list (x.2.1.map LocG.row) x.2.2)], fun x => .data True (.d (.bool (x.1.right x.2.1))) true⟩
theorem at_act_Right (k o m n : Int) (l : List LocG) (full : Bool) : sp_act_Right.at [.agg [.d (.int .i64 k), .d (.int .i64 o), .d (.int .i64 m), .d (.int .i64 n)], .d (.list (l.map LocG.row) full)] = .data True (.d (.bool (ActG.right ⟨k, o, m, n⟩ l))) true :=
  Sp.at_enc (s := sp_act_Right) (fun x y h => by
    obtain ⟨a, b, c⟩ := x; obtain ⟨a', b', c'⟩ := y
    simp only [sp_act_Right, List.cons.injEq, AV.d.injEq, DV.list.injEq, and_true] at h
    obtain ⟨h1, h2, h3⟩ := h
    rw [ActG.av_inj _ _ h1, rows_inj LocG.row_inj h2, h3]) (⟨k, o, m, n⟩, l, full)

theorem body_act_Right {T : Tab} : sp_act_Right.Body T V_act_Right L_act_Right R_act_Right := by
  rintro ⟨a, l, full⟩ -
  refine .inl ⟨rfl, ?_⟩
  unfold V_act_Right L_act_Right R_act_Right
  simp only [↓Z11, ↓Z03, ↓Z0p, ↓Z0f, ↓Z0c, ↓Z0a, ↓Z0o, ↓Z1p, ↓Z12, ↓Z2b, ↓Z0n, ↓Z1r, ↓Z0i, ↓Z0e, ↓Z1b, ↓Z0d, Z25, Z05, Z14, Z18, Z17, evN, Z0m, Z16, Z0l, Z0b, Z0k, Z1v, Z1n, Z1x, Z0v, evT, Opd.ev, Z04, Z00, Z15, Z1d, Z1i, Z0u, Z0w, Z0t, Z09, Z1g, LOp.isNew, State.prune, Z1e, Z0y, AV.leaf, Heap.at, Z06, Z0x, Z02, idx_Loc, Z2z, LocG.row, ActG.av, beq_true, beq_false, evLen, List.length_map, Z28, Z2v, Z2w, binT, binQ, Bool.and_self, resQ, resV, resT, pickV, evEq, eqV, Z0q, RetS, AV.d.injEq, DV.bool.injEq, ↓reduceIte, Nat.reduceAdd, Nat.reduceBEq, List.length_cons, List.length_nil, List.replicate_succ, List.replicate_zero, List.nil_append, List.append_nil, List.map_cons, List.map_nil, List.all_cons, List.all_nil, List.set_cons_zero, List.getD_cons_zero, List.getD_cons_succ, true_and, and_self, Nat.reduceLT, Nat.zero_add, Nat.add_zero, Bool.false_eq_true, sp_act_Right, ActG.av]
  simp only [boolK]
  (repeat' (first | intro _ | apply And.intro))
  all_goals (simp_all [ActG.right, ActG.isR, ActG.isW, ActG.isA] <;> omega)

theorem body_ref08_Right {T : Tab} : sp_act_Right.Body T V_ref08_Right L_ref08_Right R_ref08_Right := by
  rintro ⟨a, l, full⟩ -
  refine .inl ⟨rfl, ?_⟩
  unfold V_ref08_Right L_ref08_Right R_ref08_Right
  simp only [↓Z0h, ↓Z11, ↓Z03, ↓Z0p, ↓Z0f, ↓Z0c, ↓Z0a, ↓Z0o, ↓Z1p, ↓Z12, ↓Z2b, ↓Z0n, ↓Z1r, ↓Z0i, ↓Z0e, ↓Z1b, ↓Z0d, Z25, Z05, Z14, Z18, Z17, evN, Z0m, Z16, Z0l, Z0b, Z0k, Z1v, Z1n, Z0v, evT, Opd.ev, Z04, Z00, Z15, Z1d, Z1i, Z0u, Z0w, Z0t, Z09, Z1g, LOp.isNew, State.prune, Z1e, Z0y, AV.leaf, Heap.at, Z06, Z0x, Z02, idx_Loc, Z2z, LocG.row, ActG.av, evLen, List.length_map, Z28, Z2v, Z2w, evUn, binT, binQ, Bool.and_self, resQ, resV, resT, pickV, evEq, eqV, eqK, eqC1, buildQ, Z3k, putRow, Z0q, RetS, Nat.le_refl, AV.d.injEq, DV.bool.injEq, ↓reduceIte, Nat.reduceAdd, Nat.reduceBEq, List.length_cons, List.length_nil, List.replicate_succ, List.replicate_zero, List.nil_append, List.cons_append, List.append_nil, List.map_cons, List.map_nil, List.all_cons, List.all_nil, List.set_cons_zero, List.getD_cons_zero, List.getD_cons_succ, List.drop_zero, List.drop_succ_cons, List.take_succ_cons, List.take_zero, Bool.and_true, true_and, Option.bind_some, Option.map_some, decide_true, and_self, Nat.reduceLT, Nat.reduceLeDiff, Nat.zero_add, Nat.add_zero, Bool.false_eq_true, sp_act_Right, ActG.av]
  simp only [boolK]
  (repeat' (first | intro _ | apply And.intro))
  all_goals (simp_all [ActG.right, ActG.isR, ActG.isW, ActG.isA] <;> omega)

def sp_act_b (g : ActG → Bool) : Sp := ⟨ActG, fun a => [a.av], fun a => .data True (.d (.bool (g a))) true⟩
theorem at_act_b (g : ActG → Bool) (k o m n : Int) : (sp_act_b g).at [.agg [.d (.int .i64 k), .d (.int .i64 o), .d (.int .i64 m), .d (.int .i64 n)]] = .data True (.d (.bool (g ⟨k, o, m, n⟩))) true :=
  Sp.at_enc (s := sp_act_b g) (fun x y h => by
    simp only [sp_act_b, List.cons.injEq, and_true] at h
    exact ActG.av_inj _ _ h) ⟨k, o, m, n⟩

theorem body_ref08_Reads {T : Tab} : (sp_act_b ActG.isR).Body T V_ref08_Reads L_ref08_Reads R_ref08_Reads := by
  rintro a -
  refine .inl ⟨rfl, ?_⟩
  unfold V_ref08_Reads L_ref08_Reads R_ref08_Reads
  simp only [↓Z11, ↓Z03, ↓Z0p, ↓Z0a, ↓Z0o, ↓Z0n, ↓Z1r, ↓Z0i, ↓Z0e, ↓Z0d, Z25, Z05, Z14, Z18, Z17, evN, Z0m, Z16, Z0l, Z0b, Z0k, Z1n, evT, Opd.ev, Z04, Z00, Z15, Z1d, Z1i, Z0u, Z0t, Z09, Z1g, LOp.isNew, State.prune, Z1e, Z0y, AV.leaf, Heap.at, Z06, Z02, ActG.av, Z28, Z2v, Z2w, binT, binQ, Bool.and_self, resQ, resV, resT, pickV, RetS, AV.d.injEq, DV.bool.injEq, ↓reduceIte, Nat.reduceAdd, Nat.reduceBEq, List.length_cons, List.length_nil, List.replicate_succ, List.replicate_zero, List.nil_append, List.append_nil, List.map_cons, List.map_nil, List.all_cons, List.all_nil, List.set_cons_zero, List.getD_cons_zero, true_and, and_self, Nat.reduceLT, Nat.zero_add, Nat.add_zero, Bool.false_eq_true, sp_act_b]
  (repeat' (first | intro _ | apply And.intro))
  all_goals simp_all [ActG.isR]

theorem body_ref08_Writes {T : Tab} : (sp_act_b ActG.isW).Body T V_ref08_Writes L_ref08_Writes R_ref08_Writes := by
  rintro a -
  refine .inl ⟨rfl, ?_⟩
  unfold V_ref08_Writes L_ref08_Writes R_ref08_Writes
  simp only [↓Z11, ↓Z03, ↓Z0p, ↓Z0a, ↓Z0o, ↓Z0n, ↓Z1r, ↓Z0i, ↓Z0e, ↓Z0d, Z25, Z05, Z14, Z18, Z17, evN, Z0m, Z16, Z0l, Z0b, Z0k, Z1n, evT, Opd.ev, Z04, Z00, Z15, Z1d, Z1i, Z0u, Z0t, Z09, Z1g, LOp.isNew, State.prune, Z1e, Z0y, AV.leaf, Heap.at, Z06, Z02, ActG.av, Z28, Z2v, Z2w, binT, binQ, Bool.and_self, resQ, resV, resT, pickV, RetS, AV.d.injEq, DV.bool.injEq, ↓reduceIte, Nat.reduceAdd, Nat.reduceBEq, List.length_cons, List.length_nil, List.replicate_succ, List.replicate_zero, List.nil_append, List.append_nil, List.map_cons, List.map_nil, List.all_cons, List.all_nil, List.set_cons_zero, List.getD_cons_zero, true_and, and_self, Nat.reduceLT, Nat.zero_add, Nat.add_zero, Bool.false_eq_true, sp_act_b]
  (repeat' (first | intro _ | apply And.intro))
  all_goals simp_all [ActG.isW]

theorem Z2r {i n : Nat} (h : i < n) (hn : n ≤ maxLen) : IntKind.i64.wrap ((i : Int) + 1) = ((i + 1 : Nat) : Int) := by
  have hm : maxLen = 9223372036854775807 := rfl
  rw [wrap_id (by omega) (by omega)]; omega

end Go.Ago

/- The contracts of package seq and of its reference. Conditions: none. -/
set_option maxRecDepth 100000
set_option linter.unusedSimpArgs false
set_option linter.unusedVariables false
namespace Go.Ago

/-- One act on numbers, where it is right and reads what is there. -/
def seqDo (vals : List Int) (a : ActG) : List Int := if a.isW then vals.set a.loc.toNat a.new else vals
def seqErr (l : List LocG) (vals : List Int) (a : ActG) : Int :=
  if vals.length = l.length then (if a.right l then (if a.isR && !decide (vals.getD a.loc.toNat 0 = a.old) then 3 else 0) else 1) else 1

def seqRes (l : List LocG) (vals : List Int) (a : ActG) : List Int := if seqErr l vals a = 0 then seqDo vals a else []

def sp_seq_Do : Sp := ⟨List LocG × Bool × List Int × Bool × ActG, fun x => [.d (.list (x.1.map LocG.row) x.2.1), .d (.list (x.2.2.1.map rowI) x.2.2.2.1), x.2.2.2.2.av],
  fun x => .data (x.2.2.1.length ≤ 1048576) (.tup [.d (.list ((seqRes x.1 x.2.2.1 x.2.2.2.2).map rowI) false), .d (.int .i64 (seqErr x.1 x.2.2.1 x.2.2.2.2))]) true⟩
theorem at_seq_Do (l : List LocG) (f : Bool) (vals : List Int) (g : Bool) (k o m n : Int) : sp_seq_Do.at [.d (.list (l.map LocG.row) f), .d (.list (vals.map rowI) g), .agg [.d (.int .i64 k), .d (.int .i64 o), .d (.int .i64 m), .d (.int .i64 n)]] =
    .data (vals.length ≤ 1048576) (.tup [.d (.list ((seqRes l vals ⟨k, o, m, n⟩).map rowI) false), .d (.int .i64 (seqErr l vals ⟨k, o, m, n⟩))]) true :=
  Sp.at_enc (s := sp_seq_Do) (fun x y h => by
    obtain ⟨a, b, c, d, e⟩ := x; obtain ⟨a', b', c', d', e'⟩ := y
    simp only [sp_seq_Do, List.cons.injEq, AV.d.injEq, DV.list.injEq, and_true] at h
    obtain ⟨⟨h1, h2⟩, ⟨h3, h4⟩, h5⟩ := h
    rw [rows_inj LocG.row_inj h1, h2, rows_inj rowI_inj h3, h4, ActG.av_inj _ _ h5]) (l, f, vals, g, ⟨k, o, m, n⟩)

theorem body_seq_Do {T : Tab} {n1 n2 : Nat} (k1 : Knows T n1 sp_act_Right) (k2 : Knows T n2 (cloneS 1 8)) : sp_seq_Do.Body T V_seq_Do (L_seq_Do n1 n2) R_seq_Do := by
  have F1 := k1.F; have G1 := k1.G; have F2 := k2.F; have G2 := k2.G
  rintro ⟨l, f, vals, g, a⟩ hlen
  have hlen : vals.length ≤ 1048576 := hlen
  refine .inr ⟨rfl, ?_⟩
  unfold V_seq_Do L_seq_Do R_seq_Do
  simp only [↓Z0h, ↓Z11, ↓Z03, ↓Z0p, ↓Z0f, ↓Z0c, ↓Z0a, ↓Z0o, ↓Z1p, ↓Z12, ↓Z2b, ↓Z0n, ↓Z1r, ↓Z0i, ↓Z0e, ↓Z1b, ↓Z0d, Z25, Z05, Z0r, Z14, Z18, Z17, evN, Z13, Z0m, Z16, Z20, Z0l, Z0b, Z0k, Z1n, Z0v, evT, Opd.ev, Z04, Z00, Z15, Z21, Z1d, Z1i, Z0u, Z0w, Z0t, Z09, Z1g, LOp.isNew, State.prune, Z1e, Z0y, AV.leaf, Heap.at, Z06, Z0x, Z02, idx_I, Z07, Z08, Z0j, Z2z, rowI, ActG.av, ActG.eta, Z3j, List.length_set, evLen, List.length_map, take_map_ge, Z28, Z2v, Z2w, evUn, binT, binQ, chk, Z24, Bool.and_self, resQ, resV, resT, pickV, Z10, Z1o, fnOf, Z1l, isD, Z3h, lens_I, putRow, Z0q, RetF, AV.frz, AV.frzL, AV.freshP, AV.freshL, DV.less, scal_int, scal_nil, Z2u, Option.some.injEq, AV.tup.injEq, List.cons.injEq, DV.list.injEq, Nat.le_refl, AV.d.injEq, DV.int.injEq, ↓reduceIte, Nat.reduceAdd, Nat.reduceBEq, List.length_cons, List.length_nil, List.replicate_succ, List.replicate_zero, List.nil_append, List.cons_append, List.append_nil, List.map_cons, List.map_nil, List.all_cons, List.all_nil, List.set_cons_zero, List.set_cons_succ, List.getD_cons_zero, List.getD_cons_succ, List.drop_zero, List.drop_succ_cons, List.take_succ_cons, List.take_zero, List.flatten_cons, List.flatten_nil, true_and, and_true, or_true, Option.map_some, and_self, Nat.reduceLT, List.reverse_cons, List.reverse_nil, Nat.zero_add, Nat.add_zero, Bool.false_eq_true, sp_seq_Do, F1, G1, at_act_Right, F2, G2, at_clone]
  simp only [boolK]
  have r1 : roomy vals.length 8 := Z1t hlen (by omega)
  have r2 : ∀ r ∈ vals.map rowI, r.length = 1 := rows_len (f := rowI) (fun _ => rfl) _
  have key : a.right l = true → vals.length = l.length → a.kind = 6 ∨ (1 ≤ a.kind ∧ a.kind ≤ 5 ∧ 0 ≤ a.loc ∧ a.loc < vals.length) := fun h h' => by
    unfold ActG.right at h
    split at h
    · exact .inl (by assumption)
    · simp only [Bool.and_eq_true, decide_eq_true_eq] at h
      exact .inr ⟨h.1.1.1.1.1.1, h.1.1.1.1.1.2, h.1.1.1.1.2, by have := h.1.1.1.2; omega⟩
  have hd : default = (0 : Int) := rfl
  rw [hd]
  refine ⟨fun h1 => ⟨fun h2 => ⟨r1, ?_⟩, fun h2 => ?_⟩, fun h1 => ?_⟩
  · have h1' : vals.length = l.length := by omega
    have hE : seqErr l vals a = if a.isR && !decide (vals.getD a.loc.toNat 0 = a.old) then 3 else 0 := by simp only [seqErr, h1', h2, if_true]
    have k := key h2 h1'
    simp only [hE, seqRes, seqDo, ActG.isR, ActG.isW]
    generalize vals.getD a.loc.toNat 0 = v at *
    clear hE key
    (repeat' (first | intro _ | apply And.intro))
    all_goals first | omega | (simp [*]; done) | (simp only [*]; simp; done)
  · have hE : seqErr l vals a = 1 := by simp only [seqErr, h2, Bool.false_eq_true, if_false]; split <;> rfl
    simp [hE, seqRes]
  · have hE : seqErr l vals a = 1 := by rw [seqErr, if_neg (by omega)]
    simp [hE, seqRes]
/-- Acts one behind the other: the numbers then, how many were right, the error of the next one. -/
def seqGo (l : List LocG) : List Int → List ActG → List Int × Nat × Int
  | vals, [] => (vals, 0, 0)
  | vals, a :: as => if seqErr l vals a = 0 then ((seqGo l (seqDo vals a) as).1, (seqGo l (seqDo vals a) as).2.1 + 1, (seqGo l (seqDo vals a) as).2.2) else ([], 0, seqErr l vals a)
def seqRun (l : List LocG) (as : List ActG) : List Int × Nat × Int := seqGo l (l.map LocG.init) as

theorem seqDo_len {v : List Int} {a : ActG} : (seqDo v a).length = v.length := by unfold seqDo; split <;> simp

def seqSt (l : List LocG) (f : Bool) (as : List ActG) (g : Bool) : Nat × Bool × List Int → State
  | (i, true, v) => ⟨[(0, .d (.list (l.map LocG.row) f)), (1, .d (.list (as.map ActG.row) g)), (7, .ref 0 1 0 v.length true), (30, .d (.list (as.map ActG.row) g)), (31, .d (.int .i64 as.length)), (32, .d (.int .i64 i))], [.dvec 1 (v.map rowI)]⟩
  | (i, false, v) => ⟨[(0, .d (.list (l.map LocG.row) f)), (1, .d (.list (as.map ActG.row) g)), (7, .d (.list (v.map rowI) false)), (30, .d (.list (as.map ActG.row) g)), (31, .d (.int .i64 as.length)), (32, .d (.int .i64 i))], []⟩

theorem seqRun_next {l : List LocG} {as : List ActG} {v : List Int} {i : Nat} (h : i < as.length) (hr : seqRun l as = ((seqGo l v (as.drop i)).1, i + (seqGo l v (as.drop i)).2.1, (seqGo l v (as.drop i)).2.2)) :
    (seqErr l v (as.getD i default) = 0 → seqRun l as = ((seqGo l (seqDo v (as.getD i default)) (as.drop (i + 1))).1, (i + 1) + (seqGo l (seqDo v (as.getD i default)) (as.drop (i + 1))).2.1, (seqGo l (seqDo v (as.getD i default)) (as.drop (i + 1))).2.2)) ∧
    (seqErr l v (as.getD i default) ≠ 0 → seqRun l as = ([], i, seqErr l v (as.getD i default))) := by
  rw [Z2x h]
  rw [List.drop_eq_getElem_cons h] at hr
  refine ⟨fun e => ?_, fun e => ?_⟩
  · simp only [seqGo, e, if_true] at hr
    rw [hr]; congr 2; omega
  · simp only [seqGo, e, if_false] at hr
    exact hr

def sp_seq_Run : Sp := ⟨List LocG × Bool × List ActG × Bool, fun x => [.d (.list (x.1.map LocG.row) x.2.1), .d (.list (x.2.2.1.map ActG.row) x.2.2.2)],
  fun x => .data (x.1.length ≤ 1048576 ∧ x.2.2.1.length ≤ 1048576) (.tup [.d (.list ((seqRun x.1 x.2.2.1).1.map rowI) false), .d (.int .i64 (seqRun x.1 x.2.2.1).2.1), .d (.int .i64 (seqRun x.1 x.2.2.1).2.2)]) false⟩
theorem at_seq_Run (l : List LocG) (f : Bool) (as : List ActG) (g : Bool) : sp_seq_Run.at [.d (.list (l.map LocG.row) f), .d (.list (as.map ActG.row) g)] =
    .data (l.length ≤ 1048576 ∧ as.length ≤ 1048576) (.tup [.d (.list ((seqRun l as).1.map rowI) false), .d (.int .i64 (seqRun l as).2.1), .d (.int .i64 (seqRun l as).2.2)]) false :=
  Sp.at_enc (s := sp_seq_Run) (fun x y h => by
    obtain ⟨a, b, c, d⟩ := x; obtain ⟨a', b', c', d'⟩ := y
    simp only [sp_seq_Run, List.cons.injEq, AV.d.injEq, DV.list.injEq, and_true] at h
    obtain ⟨⟨h1, h2⟩, h3, h4⟩ := h
    rw [rows_inj LocG.row_inj h1, h2, rows_inj ActG.row_inj h3, h4]) (l, f, as, g)

theorem body_seq_Run {T : Tab} {n1 : Nat} (k1 : Knows T n1 sp_seq_Do) : sp_seq_Run.Body T V_seq_Run (L_seq_Run n1) R_seq_Run := by
  have F1 := k1.F; have G1 := k1.G
  rintro ⟨l, f, as, g⟩ ⟨hlen, hlen2⟩
  have hlen : l.length ≤ 1048576 := hlen
  have hlen2 : as.length ≤ 1048576 := hlen2
  refine ⟨rfl, ?_⟩
  unfold V_seq_Run L_seq_Run R_seq_Run
  simp only [↓Z03, ↓Z0p, ↓Z0c, ↓Z1h, ↓Z0a, ↓Z0o, ↓Z0n, Z25, Z05, Z14, Z17, evN, Z0m, Z16, Z0l, Z0b, Z0k, evT, Opd.ev, Z04, Z00, Z15, Z1d, Z0t, Z09, Z1g, LOp.isNew, State.prune, rep_rowI, Int.toNat_natCast, evLen, Z26, mkVec, evMk, List.length_map, Z0q, ↓reduceIte, Nat.reduceBEq, List.length_cons, List.length_nil, List.replicate_succ, List.replicate_zero, List.nil_append, List.append_nil, List.map_cons, List.map_nil, List.set_cons_zero, true_and, Nat.zero_add, Nat.add_zero, Bool.false_eq_true, sp_seq_Run]
  have r1 : roomy l.length 8 := Z1t hlen (by omega)
  refine ⟨⟨by omega, by omega, r1⟩, ?_⟩
  refine Loop.fam [0, 1, 7, 17, 18, 19] (fun i : Nat => ⟨[(0, .d (.list (l.map LocG.row) f)), (1, .d (.list (as.map ActG.row) g)), (7, .ref 0 1 0 l.length true), (17, .d (.list (l.map LocG.row) f)), (18, .d (.int .i64 l.length)), (19, .d (.int .i64 i))],
      [.dvec 1 (((l.map LocG.init).take i ++ List.replicate (l.length - i) 0).map rowI)]⟩) (fun i => i ≤ l.length) (fun i => l.length - i) 0 [0] (by simp) (by simp)
    (by simp only [State.can, AV.can, HO.can, idx, Z04, Z00, Heap.at, Nat.reduceBEq, ↓reduceIte, Option.getD_some, Option.map_some, List.map_cons, List.map_nil, List.getD_cons_zero]; simp) (by omega) ?_
  intro i hi
  simp only [↓Z0h, ↓Z1a, ↓Z03, ↓Z0p, ↓Z0f, ↓Z0c, ↓Z1h, ↓Z0a, ↓Z0o, ↓Z1q, ↓Z12, ↓Z19, ↓Z0n, ↓famK_n, ↓Z30, ↓Z0d, Z25, Z05, Z14, Z17, evN, Z0m, Z16, Z0l, Z0b, Z0k, Z0v, evT, Opd.ev, Z04, Z00, Z15, Z21, Z1d, Z0u, Z0w, Z09, Z1g, LOp.isNew, State.prune, Z1e, Z0y, AV.leaf, Heap.at, Z06, Z0x, Z02, idx_Loc, Z07, Z08, Z01, Z0j, rowI, LocG.row, Z2c, Z3j, Int.toNat_natCast, evLen, List.length_map, Z28, Z2v, Z2w, binT, binQ, Bool.and_self, putRow, Z0q, Nat.le_refl, ↓reduceIte, Nat.reduceAdd, Nat.reduceBEq, List.length_cons, List.length_nil, List.replicate_succ, List.replicate_zero, List.nil_append, List.cons_append, List.append_nil, List.map_cons, List.map_nil, List.all_cons, List.all_nil, List.set_cons_zero, List.set_cons_succ, List.getD_cons_zero, List.getD_cons_succ, List.drop_zero, List.drop_succ_cons, List.take_succ_cons, List.take_zero, true_and, and_true, and_self, Nat.reduceLT, Nat.zero_add, Nat.add_zero, Bool.false_eq_true]
  have hv : ((l.map LocG.init).take i ++ List.replicate (l.length - i) 0).length = l.length := by simp; omega
  refine ⟨fun h => ?_, fun h => ?_⟩
  · have h' : i < l.length := by omega
    rw [Z2r h' (by unfold maxLen; omega)]
    refine ⟨⟨by omega, by omega⟩, ⟨by omega, by omega⟩, by omega, Z0g.mk [0] (i + 1) (by simp) (by simp) ?_ (by omega) (by omega)⟩
    simp only [State.can, AV.can, HO.can, idx, Z04, Z00, Heap.at, Nat.reduceBEq, ↓reduceIte, Option.getD_some, Option.map_some, List.map_cons, List.map_nil, List.getD_cons_zero]
    have e : ((l.map LocG.init).take i ++ List.replicate (l.length - i) 0).set i (l.getD i default).init = (l.map LocG.init).take (i + 1) ++ List.replicate (l.length - (i + 1)) 0 := by
      rw [List.set_append_right _ _ (by simp; omega), List.take_add_one, List.getElem?_eq_getElem (by simpa using h'), Z2x h']
      have : l.length - i = (l.length - (i + 1)) + 1 := by omega
      rw [this, List.replicate_succ]
      have : i - (List.take i (List.map LocG.init l)).length = 0 := by simp; omega
      rw [this]
      simp
    rw [e]
  · have : i = l.length := by omega
    subst this
    have e1 : List.take l.length (List.map LocG.init l) ++ List.replicate (l.length - l.length) 0 = l.map LocG.init := by
      rw [List.take_of_length_le (by simp)]; simp
    rw [e1]
    refine Loop.fam [0, 1, 7, 30, 31, 32] (seqSt l f as g) (fun x => x.1 ≤ as.length ∧ x.2.2.length = l.length ∧ seqRun l as = ((seqGo l x.2.2 (as.drop x.1)).1, x.1 + (seqGo l x.2.2 (as.drop x.1)).2.1, (seqGo l x.2.2 (as.drop x.1)).2.2))
      (fun x => as.length - x.1) (0, true, l.map LocG.init) [0] (by simp) (by simp) (by simp only [State.can, AV.can, HO.can, idx, Z04, Z00, Heap.at, Nat.reduceBEq, ↓reduceIte, Option.getD_some, Option.map_some, List.map_cons, List.map_nil, List.getD_cons_zero, seqSt]; simp) ⟨by omega, by simp, by simp [seqRun]⟩ ?_
    rintro ⟨i, b, v⟩ ⟨i1, i2, i3⟩
    have i1 : i ≤ as.length := i1
    have i2 : v.length = l.length := i2
    have i3 : seqRun l as = ((seqGo l v (as.drop i)).1, i + (seqGo l v (as.drop i)).2.1, (seqGo l v (as.drop i)).2.2) := i3
    have stop : ¬ (i : Int) < as.length → (seqRun l as).1 = v ∧ (seqRun l as).2.1 = as.length ∧ (seqRun l as).2.2 = 0 := fun h => by
      have : i = as.length := by omega
      subst this
      rw [i3, List.drop_length]; simp [seqGo]
    cases b with
    | true =>
      simp only [↓Z0h, ↓Z11, ↓Z1a, ↓Z03, ↓Z0p, ↓Z0f, ↓Z0c, ↓Z0a, ↓Z0o, ↓Z1q, ↓Z1p, ↓Z12, ↓Z19, ↓Z2b, ↓Z0n, ↓Z1r, ↓famK_n, ↓Z30, ↓famK_r, ↓Z1b, ↓Z0d, Z25, Z05, Z14, Z17, evN, Z13, Z0m, Z16, Z0l, Z0b, Z0k, Z0v, evT, Opd.ev, Z04, Z00, Z15, Z21, Z1d, Z0u, Z0w, Z09, Z1g, LOp.isNew, State.prune, Z1e, Z0y, AV.leaf, Heap.at, Z06, Z0x, Z02, idx_Act, Z08, Z01, ActG.row, ActG.eta, Z2c, Int.toNat_natCast, evLen, List.length_map, take_map_ge, Z28, Z2v, Z2w, binT, binQ, Bool.and_self, resQ, resV, resT, Z10, Z1o, fnOf, Z1l, isD, Z3h, putRow, Z0q, RetD, AV.frz, AV.frzL, DV.less, Option.some.injEq, AV.tup.injEq, List.cons.injEq, DV.list.injEq, Nat.le_refl, AV.d.injEq, DV.int.injEq, ↓reduceIte, Nat.reduceAdd, Nat.reduceBEq, List.length_cons, List.length_nil, List.replicate_succ, List.replicate_zero, List.nil_append, List.cons_append, List.append_nil, List.map_cons, List.map_nil, List.all_cons, List.all_nil, List.set_cons_zero, List.set_cons_succ, List.getD_cons_zero, List.getD_cons_succ, List.drop_zero, List.drop_succ_cons, List.take_succ_cons, List.take_zero, List.flatten_cons, List.flatten_nil, true_and, and_true, Option.map_some, and_self, Nat.reduceLT, Nat.zero_add, Nat.add_zero, Bool.false_eq_true, F1, G1, at_seq_Do, seqSt]
      refine ⟨fun h => ?_, fun h => ?_⟩
      · have h' : i < as.length := by omega
        obtain ⟨n1, n2⟩ := seqRun_next h' i3
        refine ⟨⟨by omega, by omega⟩, by omega, ?_⟩
        rw [Z2r h' (by unfold maxLen; omega)]
        generalize as.getD i default = a at *
        refine ⟨fun e => ?_, fun e => ?_⟩
        · rw [show seqRes l v a = seqDo v a by rw [seqRes, if_pos e]]
          exact Z0g.mk [] (i + 1, false, seqDo v a) (by simp) (by simp) (by simp only [State.can, AV.can, HO.can, Z04, Z00, Heap.at, Nat.reduceBEq, Option.getD_some, List.map_cons, List.map_nil, seqSt]) ⟨by show i + 1 ≤ as.length; omega, by show (seqDo v a).length = _; rw [seqDo_len, i2], n1 e⟩ (by show as.length - (i + 1) < as.length - i; omega)
        · rw [n2 e]; simp
      · obtain ⟨s1, s2, s3⟩ := stop h
        rw [s1, s2, s3]; simp
    | false =>
      simp only [↓Z0h, ↓Z11, ↓Z1a, ↓Z03, ↓Z0p, ↓Z0f, ↓Z0c, ↓Z0a, ↓Z0o, ↓Z1q, ↓Z1p, ↓Z12, ↓Z19, ↓Z2b, ↓Z0n, ↓Z1r, ↓famK_n, ↓Z30, ↓famK_r, ↓Z1b, ↓Z0d, Z25, Z05, Z14, Z17, evN, Z13, Z0m, Z16, Z0l, Z0b, Z0k, Z0v, evT, Opd.ev, Z04, Z00, Z15, Z21, Z1d, Z0u, Z0w, Z09, Z1g, LOp.isNew, State.prune, Z1e, Z0y, AV.leaf, Heap.at, Z06, Z0x, Z02, idx_Act, Z08, Z01, ActG.row, ActG.eta, Z2c, Int.toNat_natCast, evLen, List.length_map, Z28, Z2v, Z2w, binT, binQ, Bool.and_self, resQ, resV, resT, Z10, Z1o, fnOf, Z1l, isD, Z3h, putRow, Z0q, RetD, AV.frz, AV.frzL, DV.less, Option.some.injEq, AV.tup.injEq, List.cons.injEq, DV.list.injEq, Nat.le_refl, AV.d.injEq, DV.int.injEq, ↓reduceIte, Nat.reduceAdd, Nat.reduceBEq, List.length_cons, List.length_nil, List.replicate_succ, List.replicate_zero, List.nil_append, List.append_nil, List.map_cons, List.map_nil, List.all_cons, List.all_nil, List.set_cons_zero, List.getD_cons_zero, List.getD_cons_succ, List.drop_zero, List.drop_succ_cons, List.take_succ_cons, List.take_zero, List.flatten_cons, List.flatten_nil, true_and, and_true, Option.map_some, and_self, Nat.reduceLT, Nat.zero_add, Nat.add_zero, Bool.false_eq_true, F1, G1, at_seq_Do, seqSt]
      refine ⟨fun h => ?_, fun h => ?_⟩
      · have h' : i < as.length := by omega
        obtain ⟨n1, n2⟩ := seqRun_next h' i3
        refine ⟨⟨by omega, by omega⟩, by omega, ?_⟩
        rw [Z2r h' (by unfold maxLen; omega)]
        generalize as.getD i default = a at *
        refine ⟨fun e => ?_, fun e => ?_⟩
        · rw [show seqRes l v a = seqDo v a by rw [seqRes, if_pos e]]
          exact Z0g.mk [] (i + 1, false, seqDo v a) (by simp) (by simp) (by simp only [State.can, AV.can, HO.can, Z04, Z00, Heap.at, Nat.reduceBEq, Option.getD_some, List.map_cons, List.map_nil, seqSt]) ⟨by show i + 1 ≤ as.length; omega, by show (seqDo v a).length = _; rw [seqDo_len, i2], n1 e⟩ (by show as.length - (i + 1) < as.length - i; omega)
        · rw [n2 e]; simp
      · obtain ⟨s1, s2, s3⟩ := stop h
        rw [s1, s2, s3]; simp

end Go.Ago

/- The contracts of the reference of layer 21. Conditions: none. -/
set_option maxRecDepth 100000
set_option linter.unusedSimpArgs false
set_option linter.unusedVariables false
namespace Go.Ago

/-- The number of a location behind acts. -/
def lateF (loc : Int) (v : Int) (a : ActG) : Int := if a.loc = loc ∧ a.isW = true then a.new else v
def latest (l : List LocG) (as : List ActG) (loc : Int) (n : Nat) : Int := (as.take n).foldl (lateF loc) (l.getD loc.toNat default).init

theorem latest_succ {l : List LocG} {as : List ActG} {loc : Int} {n : Nat} (h : n < as.length) : latest l as loc (n + 1) = lateF loc (latest l as loc n) (as.getD n default) := by
  unfold latest
  rw [List.take_add_one, List.getElem?_eq_getElem h, Z2x h]
  simp only [Option.toList_some, List.foldl_append, List.foldl_cons, List.foldl_nil]

def sp_latest : Sp := ⟨List LocG × Bool × List ActG × Bool × Int × Int, fun x => [.d (.list (x.1.map LocG.row) x.2.1), .d (.list (x.2.2.1.map ActG.row) x.2.2.2.1), .d (.int .i64 x.2.2.2.2.1), .d (.int .i64 x.2.2.2.2.2)],
  fun x => .data (0 ≤ x.2.2.2.2.1 ∧ x.2.2.2.2.1 < x.1.length ∧ 0 ≤ x.2.2.2.2.2 ∧ x.2.2.2.2.2 ≤ x.2.2.1.length ∧ x.2.2.1.length ≤ maxLen) (.d (.int .i64 (latest x.1 x.2.2.1 x.2.2.2.2.1 x.2.2.2.2.2.toNat))) true⟩
theorem at_latest (l : List LocG) (f : Bool) (as : List ActG) (g : Bool) (p n : Int) : sp_latest.at [.d (.list (l.map LocG.row) f), .d (.list (as.map ActG.row) g), .d (.int .i64 p), .d (.int .i64 n)] =
    .data (0 ≤ p ∧ p < l.length ∧ 0 ≤ n ∧ n ≤ as.length ∧ as.length ≤ maxLen) (.d (.int .i64 (latest l as p n.toNat))) true :=
  Sp.at_enc (s := sp_latest) (fun x y h => by
    obtain ⟨a, b, c, d, e, z⟩ := x; obtain ⟨a', b', c', d', e', z'⟩ := y
    simp only [sp_latest, List.cons.injEq, AV.d.injEq, DV.list.injEq, DV.int.injEq, and_true, true_and] at h
    obtain ⟨⟨h1, h2⟩, ⟨h3, h4⟩, h5, h6⟩ := h
    rw [rows_inj LocG.row_inj h1, h2, rows_inj ActG.row_inj h3, h4, h5, h6]) (l, f, as, g, p, n)

theorem body_ref21_Latest {T : Tab} {n1 : Nat} (k1 : Knows T n1 (sp_act_b ActG.isW)) : sp_latest.Body T V_ref21_Latest (L_ref21_Latest n1) R_ref21_Latest := by
  have F1 := k1.F; have G1 := k1.G
  rintro ⟨l, f, as, g, p, n⟩ ⟨h1, h2, h3, h4, h5⟩
  have h1 : 0 ≤ p := h1
  have h2 : p < l.length := h2
  have h3 : 0 ≤ n := h3
  have h4 : n ≤ as.length := h4
  have h5 : as.length ≤ maxLen := h5
  have hm : maxLen = 9223372036854775807 := rfl
  refine .inl ⟨rfl, ?_⟩
  unfold V_ref21_Latest L_ref21_Latest R_ref21_Latest
  simp only [↓Z0h, ↓Z11, ↓Z1a, ↓Z03, ↓Z36, ↓Z35, nilG_d, nilG_r, ↓Z0p, ↓Z0f, ↓Z0c, ↓Z1h, ↓Z0a, ↓Z0o, ↓Z1q, ↓Z1p, ↓Z12, ↓Z19, ↓blockK_o, ↓Z2b, ↓Z0n, ↓Z1r, ↓retK_n, ↓loopV_n, ↓loopV_x, ↓loopV_r, ↓famK_n, ↓Z30, ↓famK_r, ↓Z0i, ↓Z0e, ↓Z1b, ↓Z0d, ↓Z22, Z25, Z05, Z0r, Z14, Z18, Z17, evN, Z13, Z0m, Z16, Z20, Z0l, Z0b, Z0k, stepK_no, Z1v, Z1n, Z1x, Z0v, evT, Opd.ev, Z04, Z00, Z15, Z21, Z1d, Z1i, Z39, Z0u, Z0w, knowO_c, Z0t, Z09, Z1g, LOp.isNew, State.prune, Z1e, Z0y, AV.leaf, Heap.at, Z06, Z0x, Z02, Z1z, Z0s, idx_I, idx_U, idx_Rat, idx_Loc, idx_Act, idx_Step, Z31, Z07, Z08, Z01, Z0j, Z2z, rowI, rowU, RatG.row, LocG.row, ActG.row, StepG.row, StampG.row, ActG.av, ActG.eta, RatG.eta, LocG.eta, beq_true, beq_false, Z2c, Z3j, set_rowU, app_rowI, app_rowU, rep_rowI, rep_rowU, Z2a, Z2g, Z29, Z2o, Z2f, Z2e, Z1w, List.length_set, List.length_replicate, Int.toNat_natCast, Int.reduceToNat, evLen, Z1s, Z38, Src.all, Src.len, Src.leaf, Src.leafN, evApart, aliveQ, joinV, Z26, Z27, Z2h, Z2i, Z2j, Z2k, Z2l, Z2m, mkVec, drows, evMk, List.length_map, take_map_len, take_map_ge, Z28, Z2v, Z2w, evUn, binT, binQ, chk, Z24, List.contains_cons, List.contains_nil, Bool.or_false, Bool.false_or, Bool.and_self, resQ, resV, resT, pickV, Z10, evTake, Z1o, fnOf, Z1l, isD, HO.drow, Z3h, evInt2, evEq, eqV, eqK, eqC1, buildQ, Z3k, Z37, Z34, lens_I, lensA_I, lens_U, lensA_U, Z2y, Z3c, lens_Loc, Z3b, lens_Act, Z3a, Z3d, Z2n, Z23, Z1y, List.mem_cons, List.not_mem_nil, or_false, forall_eq, putRow, Z2t, Z0q, RetS, RetF, RetD, AV.frz, AV.frzL, AV.freshP, AV.freshL, DV.less, scal_int, Z3e, scal_nil, Z2u, Z3f, Z1c, Z1k, Option.some.injEq, AV.tup.injEq, AV.agg.injEq, List.cons.injEq, DV.list.injEq, List.isEmpty_nil, Nat.le_refl, AV.d.injEq, DV.int.injEq, DV.bool.injEq, ↓reduceIte, Nat.reduceEqDiff, Nat.reduceAdd, Nat.reduceBEq, List.length_cons, List.length_nil, List.replicate_succ, List.replicate_zero, List.nil_append, List.cons_append, List.append_nil, List.foldl_cons, List.foldl_nil, List.map_cons, List.map_nil, List.all_cons, List.all_nil, List.set_cons_zero, List.set_cons_succ, List.getD_cons_zero, List.getD_cons_succ, List.drop_zero, List.drop_succ_cons, List.take_succ_cons, List.take_zero, List.flatten_cons, List.flatten_nil, Bool.true_and, Bool.and_true, Bool.not_true, Bool.not_false, true_and, and_true, true_or, or_true, Option.bind_some, Option.map_some, decide_true, decide_false, beq_self_eq_true, true_implies, false_implies, implies_true, not_true_eq_false, not_false_eq_true, and_self, Bool.and_false, Bool.false_and, Nat.reduceLT, Nat.reduceLeDiff, List.reverse_cons, List.reverse_nil, Nat.zero_add, Nat.add_zero, Bool.false_eq_true, List.getElem?_cons_zero, sp_latest, F1, G1, at_act_b]
  rw [wrap_id (by omega) (by omega)]
  refine Loop.fam [0, 1, 2, 3, 9] (fun i : Int => ⟨[(0, .d (.list (l.map LocG.row) f)), (1, .d (.list (as.map ActG.row) g)), (2, .d (.int .i64 p)), (3, .d (.int .i64 n)), (9, .d (.int .i64 i))], []⟩)
    (fun i => -1 ≤ i ∧ i < n ∧ latest l as p n.toNat = latest l as p (i + 1).toNat) (fun i => (i + 1).toNat) (n - 1) [] (by simp) (by simp) (by simp only [State.can, AV.can, AV.canL, HO.can, Z0z, idx, Z04, Z00, Heap.at, Nat.reduceBEq, ↓reduceIte, Nat.reduceEqDiff, Option.getD_some, Option.map_some, List.map_cons, List.map_nil, List.getD_cons_zero, List.getD_cons_succ]) ⟨by omega, by omega, by congr 1; omega⟩ ?_
  rintro i ⟨i1, i2, i3⟩
  simp only [↓Z0h, ↓Z11, ↓Z1a, ↓Z03, ↓Z36, ↓Z35, nilG_d, nilG_r, ↓Z0p, ↓Z0f, ↓Z0c, ↓Z1h, ↓Z0a, ↓Z0o, ↓Z1q, ↓Z1p, ↓Z12, ↓Z19, ↓blockK_o, ↓Z2b, ↓Z0n, ↓Z1r, ↓retK_n, ↓loopV_n, ↓loopV_x, ↓loopV_r, ↓famK_n, ↓Z30, ↓famK_r, ↓Z0i, ↓Z0e, ↓Z1b, ↓Z0d, ↓Z22, Z25, Z05, Z0r, Z14, Z18, Z17, evN, Z13, Z0m, Z16, Z20, Z0l, Z0b, Z0k, stepK_no, Z1v, Z1n, Z1x, Z0v, evT, Opd.ev, Z04, Z00, Z15, Z21, Z1d, Z1i, Z39, Z0u, Z0w, knowO_c, Z0t, Z09, Z1g, LOp.isNew, State.prune, Z1e, Z0y, AV.leaf, Heap.at, Z06, Z0x, Z02, Z1z, Z0s, idx_I, idx_U, idx_Rat, idx_Loc, idx_Act, idx_Step, Z31, Z07, Z08, Z01, Z0j, Z2z, rowI, rowU, RatG.row, LocG.row, ActG.row, StepG.row, StampG.row, ActG.av, ActG.eta, RatG.eta, LocG.eta, beq_true, beq_false, Z2c, Z3j, set_rowU, app_rowI, app_rowU, rep_rowI, rep_rowU, Z2a, Z2g, Z29, Z2o, Z2f, Z2e, Z1w, List.length_set, List.length_replicate, Int.toNat_natCast, Int.reduceToNat, evLen, Z1s, Z38, Src.all, Src.len, Src.leaf, Src.leafN, evApart, aliveQ, joinV, Z26, Z27, Z2h, Z2i, Z2j, Z2k, Z2l, Z2m, mkVec, drows, evMk, List.length_map, take_map_len, take_map_ge, Z28, Z2v, Z2w, evUn, binT, binQ, chk, Z24, List.contains_cons, List.contains_nil, Bool.or_false, Bool.false_or, Bool.and_self, resQ, resV, resT, pickV, Z10, evTake, Z1o, fnOf, Z1l, isD, HO.drow, Z3h, evInt2, evEq, eqV, eqK, eqC1, buildQ, Z3k, Z37, Z34, lens_I, lensA_I, lens_U, lensA_U, Z2y, Z3c, lens_Loc, Z3b, lens_Act, Z3a, Z3d, Z2n, Z23, Z1y, List.mem_cons, List.not_mem_nil, or_false, forall_eq, putRow, Z2t, Z0q, RetS, RetF, RetD, AV.frz, AV.frzL, AV.freshP, AV.freshL, DV.less, scal_int, Z3e, scal_nil, Z2u, Z3f, Z1c, Z1k, Option.some.injEq, AV.tup.injEq, AV.agg.injEq, List.cons.injEq, DV.list.injEq, List.isEmpty_nil, Nat.le_refl, AV.d.injEq, DV.int.injEq, DV.bool.injEq, ↓reduceIte, Nat.reduceEqDiff, Nat.reduceAdd, Nat.reduceBEq, List.length_cons, List.length_nil, List.replicate_succ, List.replicate_zero, List.nil_append, List.cons_append, List.append_nil, List.foldl_cons, List.foldl_nil, List.map_cons, List.map_nil, List.all_cons, List.all_nil, List.set_cons_zero, List.set_cons_succ, List.getD_cons_zero, List.getD_cons_succ, List.drop_zero, List.drop_succ_cons, List.take_succ_cons, List.take_zero, List.flatten_cons, List.flatten_nil, Bool.true_and, Bool.and_true, Bool.not_true, Bool.not_false, true_and, and_true, true_or, or_true, Option.bind_some, Option.map_some, decide_true, decide_false, beq_self_eq_true, true_implies, false_implies, implies_true, not_true_eq_false, not_false_eq_true, and_self, Bool.and_false, Bool.false_and, Nat.reduceLT, Nat.reduceLeDiff, List.reverse_cons, List.reverse_nil, Nat.zero_add, Nat.add_zero, Bool.false_eq_true, List.getElem?_cons_zero, F1, G1, at_act_b]
  rw [wrap_id (by omega) (by omega)]
  refine ⟨fun e => ?_, fun e => ?_⟩
  · have hi : i.toNat < as.length := by omega
    have hl := latest_succ (l := l) (loc := p) hi
    rw [show i.toNat + 1 = (i + 1).toNat by omega] at hl
    rw [hl] at i3
    generalize hae : as.getD i.toNat default = a at *
    refine ⟨⟨by omega, by omega⟩, fun e2 => ⟨⟨by omega, by omega⟩, ⟨fun e3 => ⟨⟨by omega, by omega⟩, ?_⟩, fun e3 => ?_⟩⟩, fun e2 => ?_⟩
    · rw [i3]; simp [lateF, e2, e3]
    · exact Z0g.mk [] (i - 1) (by simp) (by simp) (by simp only [State.can, AV.can, AV.canL, HO.can, Z0z, idx, Z04, Z00, Heap.at, Nat.reduceBEq, ↓reduceIte, Nat.reduceEqDiff, Option.getD_some, Option.map_some, List.map_cons, List.map_nil, List.getD_cons_zero, List.getD_cons_succ]) ⟨by omega, by omega, by rw [i3]; simp only [lateF, e3, Bool.false_eq_true, and_false, if_false]; congr 1; omega⟩ (by omega)
    · exact Z0g.mk [] (i - 1) (by simp) (by simp) (by simp only [State.can, AV.can, AV.canL, HO.can, Z0z, idx, Z04, Z00, Heap.at, Nat.reduceBEq, ↓reduceIte, Nat.reduceEqDiff, Option.getD_some, Option.map_some, List.map_cons, List.map_nil, List.getD_cons_zero, List.getD_cons_succ]) ⟨by omega, by omega, by rw [i3]; simp only [lateF, e2, false_and, if_false]; congr 1; omega⟩ (by omega)
  · have : (i + 1).toNat = 0 := by omega
    rw [i3, this]
    refine ⟨⟨by omega, by omega⟩, by simp [latest]⟩

theorem right_loc {l : List LocG} {a : ActG} (h : a.right l = true) (hk : a.kind ≠ 6) : 0 ≤ a.loc ∧ a.loc < l.length := by
  unfold ActG.right at h
  rw [if_neg hk] at h
  simp only [Bool.and_eq_true, decide_eq_true_eq] at h
  exact ⟨h.1.1.1.1.2, h.1.1.1.2⟩

/-- The numbers are the latest, step by step. -/
theorem late_step {l : List LocG} {v : List Int} {as : List ActG} {i : Nat} (hv : v.length = l.length) (hi : i < as.length) (h : ∀ p, p < l.length → v.getD p 0 = latest l as p i) (he : seqErr l v (as.getD i default) = 0) :
    ∀ p, p < l.length → (seqDo v (as.getD i default)).getD p 0 = latest l as p (i + 1) := by
  intro p hp
  rw [latest_succ hi, ← h p hp]
  generalize as.getD i default = a at *
  have hr : a.right l = true := by
    unfold seqErr at he
    rw [if_pos hv] at he
    split at he
    · assumption
    · cases he
  unfold lateF seqDo
  by_cases hw : a.isW = true
  · have hk : a.kind ≠ 6 := fun hk => by simp [ActG.isW, hk] at hw
    obtain ⟨b1, b2⟩ := right_loc hr hk
    simp only [hw, if_true, and_true]
    rw [List.getD_eq_getElem?_getD, List.getElem?_set]
    by_cases e : a.loc = p
    · rw [if_pos e, if_pos (by omega), if_pos (by omega)]; rfl
    · rw [if_neg e, if_neg (by omega), List.getD_eq_getElem?_getD]
  · simp [hw]

def sp_refRun : Sp := ⟨List LocG × Bool × List ActG × Bool, fun x => [.d (.list (x.1.map LocG.row) x.2.1), .d (.list (x.2.2.1.map ActG.row) x.2.2.2)],
  fun x => .data (x.1.length ≤ 1048576 ∧ x.2.2.1.length ≤ 1048576) (.tup [.d (.int .i64 (seqRun x.1 x.2.2.1).2.1), .d (.int .i64 (seqRun x.1 x.2.2.1).2.2)]) true⟩
theorem at_refRun (l : List LocG) (f : Bool) (as : List ActG) (g : Bool) : sp_refRun.at [.d (.list (l.map LocG.row) f), .d (.list (as.map ActG.row) g)] =
    .data (l.length ≤ 1048576 ∧ as.length ≤ 1048576) (.tup [.d (.int .i64 (seqRun l as).2.1), .d (.int .i64 (seqRun l as).2.2)]) true :=
  Sp.at_enc (s := sp_refRun) (fun x y h => by
    obtain ⟨a, b, c, d⟩ := x; obtain ⟨a', b', c', d'⟩ := y
    simp only [sp_refRun, List.cons.injEq, AV.d.injEq, DV.list.injEq, and_true] at h
    obtain ⟨⟨h1, h2⟩, h3, h4⟩ := h
    rw [rows_inj LocG.row_inj h1, h2, rows_inj ActG.row_inj h3, h4]) (l, f, as, g)

theorem body_ref21_Run {T : Tab} {n1 n2 n3 : Nat} (k1 : Knows T n1 sp_latest) (k2 : Knows T n2 sp_act_Right) (k3 : Knows T n3 (sp_act_b ActG.isR)) : sp_refRun.Body T V_ref21_Run (L_ref21_Run n1 n2 n3) R_ref21_Run := by
  have F1 := k1.F; have G1 := k1.G; have F2 := k2.F; have G2 := k2.G; have F3 := k3.F; have G3 := k3.G
  rintro ⟨l, f, as, g⟩ ⟨hlen, hlen2⟩
  have hlen : l.length ≤ 1048576 := hlen
  have hlen2 : as.length ≤ 1048576 := hlen2
  have hm : maxLen = 9223372036854775807 := rfl
  refine .inl ⟨rfl, ?_⟩
  unfold V_ref21_Run L_ref21_Run R_ref21_Run
  simp only [↓Z0h, ↓Z11, ↓Z1a, ↓Z03, ↓Z36, ↓Z35, nilG_d, nilG_r, ↓Z0p, ↓Z0f, ↓Z0c, ↓Z1h, ↓Z0a, ↓Z0o, ↓Z1q, ↓Z1p, ↓Z12, ↓Z19, ↓blockK_o, ↓Z2b, ↓Z0n, ↓Z1r, ↓retK_n, ↓loopV_n, ↓loopV_x, ↓loopV_r, ↓famK_n, ↓Z30, ↓famK_r, ↓Z0i, ↓Z0e, ↓Z1b, ↓Z0d, ↓Z22, Z25, Z05, Z0r, Z14, Z18, Z17, evN, Z13, Z0m, Z16, Z20, Z0l, Z0b, Z0k, stepK_no, Z1v, Z1n, Z1x, Z0v, evT, Opd.ev, Z04, Z00, Z15, Z21, Z1d, Z1i, Z39, Z0u, Z0w, knowO_c, Z0t, Z09, Z1g, LOp.isNew, State.prune, Z1e, Z0y, AV.leaf, Heap.at, Z06, Z0x, Z02, Z1z, Z0s, idx_I, idx_U, idx_Rat, idx_Loc, idx_Act, idx_Step, Z31, Z07, Z08, Z01, Z0j, Z2z, rowI, rowU, RatG.row, LocG.row, ActG.row, StepG.row, StampG.row, ActG.av, ActG.eta, RatG.eta, LocG.eta, beq_true, beq_false, Z2c, Z3j, set_rowU, app_rowI, app_rowU, rep_rowI, rep_rowU, Z2a, Z2g, Z29, Z2o, Z2f, Z2e, Z1w, List.length_set, List.length_replicate, Int.toNat_natCast, Int.reduceToNat, evLen, Z1s, Z38, Src.all, Src.len, Src.leaf, Src.leafN, evApart, aliveQ, joinV, Z26, Z27, Z2h, Z2i, Z2j, Z2k, Z2l, Z2m, mkVec, drows, evMk, List.length_map, take_map_len, take_map_ge, Z28, Z2v, Z2w, evUn, binT, binQ, chk, Z24, List.contains_cons, List.contains_nil, Bool.or_false, Bool.false_or, Bool.and_self, resQ, resV, resT, pickV, Z10, evTake, Z1o, fnOf, Z1l, isD, HO.drow, Z3h, evInt2, evEq, eqV, eqK, eqC1, buildQ, Z3k, Z37, Z34, lens_I, lensA_I, lens_U, lensA_U, Z2y, Z3c, lens_Loc, Z3b, lens_Act, Z3a, Z3d, Z2n, Z23, Z1y, List.mem_cons, List.not_mem_nil, or_false, forall_eq, putRow, Z2t, Z0q, RetS, RetF, RetD, AV.frz, AV.frzL, AV.freshP, AV.freshL, DV.less, scal_int, Z3e, scal_nil, Z2u, Z3f, Z1c, Z1k, Option.some.injEq, AV.tup.injEq, AV.agg.injEq, List.cons.injEq, DV.list.injEq, List.isEmpty_nil, Nat.le_refl, AV.d.injEq, DV.int.injEq, DV.bool.injEq, ↓reduceIte, Nat.reduceEqDiff, Nat.reduceAdd, Nat.reduceBEq, List.length_cons, List.length_nil, List.replicate_succ, List.replicate_zero, List.nil_append, List.cons_append, List.append_nil, List.foldl_cons, List.foldl_nil, List.map_cons, List.map_nil, List.all_cons, List.all_nil, List.set_cons_zero, List.set_cons_succ, List.getD_cons_zero, List.getD_cons_succ, List.drop_zero, List.drop_succ_cons, List.take_succ_cons, List.take_zero, List.flatten_cons, List.flatten_nil, Bool.true_and, Bool.and_true, Bool.not_true, Bool.not_false, true_and, and_true, true_or, or_true, Option.bind_some, Option.map_some, decide_true, decide_false, beq_self_eq_true, true_implies, false_implies, implies_true, not_true_eq_false, not_false_eq_true, and_self, Bool.and_false, Bool.false_and, Nat.reduceLT, Nat.reduceLeDiff, List.reverse_cons, List.reverse_nil, Nat.zero_add, Nat.add_zero, Bool.false_eq_true, List.getElem?_cons_zero, sp_refRun, F1, G1, F2, G2, F3, G3, at_latest, at_act_Right, at_act_b]
  refine Loop.fam [0, 1, 6] (fun x : Nat × List Int => ⟨[(0, .d (.list (l.map LocG.row) f)), (1, .d (.list (as.map ActG.row) g)), (6, .d (.int .i64 (x.1 : Nat)))], []⟩)
    (fun x => x.1 ≤ as.length ∧ x.2.length = l.length ∧ seqRun l as = ((seqGo l x.2 (as.drop x.1)).1, x.1 + (seqGo l x.2 (as.drop x.1)).2.1, (seqGo l x.2 (as.drop x.1)).2.2) ∧ ∀ p, p < l.length → x.2.getD p 0 = latest l as p x.1)
    (fun x => as.length - x.1) (0, l.map LocG.init) [] (by simp) (by simp) (by simp only [State.can, AV.can, AV.canL, HO.can, Z0z, idx, Z04, Z00, Heap.at, Nat.reduceBEq, ↓reduceIte, Nat.reduceEqDiff, Option.getD_some, Option.map_some, List.map_cons, List.map_nil, List.getD_cons_zero, List.getD_cons_succ]; rfl) ⟨by omega, by simp, by simp [seqRun], fun p hp => by
      simp only [latest, List.take_zero, List.foldl_nil, Int.toNat_natCast]
      rw [Z2x (by simpa using hp), Z2x hp]; simp⟩ ?_
  rintro ⟨i, v⟩ ⟨i1, i2, i3, i4⟩
  have i1 : i ≤ as.length := i1
  have i2 : v.length = l.length := i2
  have i3 : seqRun l as = ((seqGo l v (as.drop i)).1, i + (seqGo l v (as.drop i)).2.1, (seqGo l v (as.drop i)).2.2) := i3
  have i4 : ∀ p, p < l.length → v.getD p 0 = latest l as p i := i4
  simp only [↓Z0h, ↓Z11, ↓Z1a, ↓Z03, ↓Z36, ↓Z35, nilG_d, nilG_r, ↓Z0p, ↓Z0f, ↓Z0c, ↓Z1h, ↓Z0a, ↓Z0o, ↓Z1q, ↓Z1p, ↓Z12, ↓Z19, ↓blockK_o, ↓Z2b, ↓Z0n, ↓Z1r, ↓retK_n, ↓loopV_n, ↓loopV_x, ↓loopV_r, ↓famK_n, ↓Z30, ↓famK_r, ↓Z0i, ↓Z0e, ↓Z1b, ↓Z0d, ↓Z22, Z25, Z05, Z0r, Z14, Z18, Z17, evN, Z13, Z0m, Z16, Z20, Z0l, Z0b, Z0k, stepK_no, Z1v, Z1n, Z1x, Z0v, evT, Opd.ev, Z04, Z00, Z15, Z21, Z1d, Z1i, Z39, Z0u, Z0w, knowO_c, Z0t, Z09, Z1g, LOp.isNew, State.prune, Z1e, Z0y, AV.leaf, Heap.at, Z06, Z0x, Z02, Z1z, Z0s, idx_I, idx_U, idx_Rat, idx_Loc, idx_Act, idx_Step, Z31, Z07, Z08, Z01, Z0j, Z2z, rowI, rowU, RatG.row, LocG.row, ActG.row, StepG.row, StampG.row, ActG.av, ActG.eta, RatG.eta, LocG.eta, beq_true, beq_false, Z2c, Z3j, set_rowU, app_rowI, app_rowU, rep_rowI, rep_rowU, Z2a, Z2g, Z29, Z2o, Z2f, Z2e, Z1w, List.length_set, List.length_replicate, Int.toNat_natCast, Int.reduceToNat, evLen, Z1s, Z38, Src.all, Src.len, Src.leaf, Src.leafN, evApart, aliveQ, joinV, Z26, Z27, Z2h, Z2i, Z2j, Z2k, Z2l, Z2m, mkVec, drows, evMk, List.length_map, take_map_len, take_map_ge, Z28, Z2v, Z2w, evUn, binT, binQ, chk, Z24, List.contains_cons, List.contains_nil, Bool.or_false, Bool.false_or, Bool.and_self, resQ, resV, resT, pickV, Z10, evTake, Z1o, fnOf, Z1l, isD, HO.drow, Z3h, evInt2, evEq, eqV, eqK, eqC1, buildQ, Z3k, Z37, Z34, lens_I, lensA_I, lens_U, lensA_U, Z2y, Z3c, lens_Loc, Z3b, lens_Act, Z3a, Z3d, Z2n, Z23, Z1y, List.mem_cons, List.not_mem_nil, or_false, forall_eq, putRow, Z2t, Z0q, RetS, RetF, RetD, AV.frz, AV.frzL, AV.freshP, AV.freshL, DV.less, scal_int, Z3e, scal_nil, Z2u, Z3f, Z1c, Z1k, Option.some.injEq, AV.tup.injEq, AV.agg.injEq, List.cons.injEq, DV.list.injEq, List.isEmpty_nil, Nat.le_refl, AV.d.injEq, DV.int.injEq, DV.bool.injEq, ↓reduceIte, Nat.reduceEqDiff, Nat.reduceAdd, Nat.reduceBEq, List.length_cons, List.length_nil, List.replicate_succ, List.replicate_zero, List.nil_append, List.cons_append, List.append_nil, List.foldl_cons, List.foldl_nil, List.map_cons, List.map_nil, List.all_cons, List.all_nil, List.set_cons_zero, List.set_cons_succ, List.getD_cons_zero, List.getD_cons_succ, List.drop_zero, List.drop_succ_cons, List.take_succ_cons, List.take_zero, List.flatten_cons, List.flatten_nil, Bool.true_and, Bool.and_true, Bool.not_true, Bool.not_false, true_and, and_true, true_or, or_true, Option.bind_some, Option.map_some, decide_true, decide_false, beq_self_eq_true, true_implies, false_implies, implies_true, not_true_eq_false, not_false_eq_true, and_self, Bool.and_false, Bool.false_and, Nat.reduceLT, Nat.reduceLeDiff, List.reverse_cons, List.reverse_nil, Nat.zero_add, Nat.add_zero, Bool.false_eq_true, List.getElem?_cons_zero, F1, G1, F2, G2, F3, G3, at_latest, at_act_Right, at_act_b]
  refine ⟨fun h => ?_, fun h => ?_⟩
  · have h' : i < as.length := by omega
    obtain ⟨n1, n2⟩ := seqRun_next h' i3
    have n3 := late_step i2 h' i4
    rw [Z2r h' (by omega)]
    have hl := i4 (as.getD i default).loc.toNat
    generalize as.getD i default = a at *
    have hbd := fun h => right_loc (l := l) (a := a) h
    refine ⟨⟨by omega, by omega⟩, fun e1 => ?_, fun e1 => ?_⟩
    · have hE : seqErr l v a = if a.isR && !decide (v.getD a.loc.toNat 0 = a.old) then 3 else 0 := by simp only [seqErr, i2, e1, if_true]
      refine ⟨⟨by omega, by omega⟩, fun e2 => ?_, fun e2 => ?_⟩
      · have hk : a.kind ≠ 6 := fun hk => by simp [ActG.isR, hk] at e2
        obtain ⟨b1, b2⟩ := hbd e1 hk
        have hl := hl (by omega)
        rw [show ((a.loc.toNat : Nat) : Int) = a.loc by omega] at hl
        refine ⟨⟨by omega, by omega⟩, ⟨b1, b2, by omega, by omega, by omega⟩, ⟨by omega, by omega⟩, fun e3 => ?_, fun e3 => ?_⟩
        · have he : seqErr l v a = 0 := by rw [hE, e2, hl, e3]; simp
          exact Z0g.mk [] (i + 1, seqDo v a) (by simp) (by simp) (by simp only [State.can, AV.can, AV.canL, HO.can, Z0z, idx, Z04, Z00, Heap.at, Nat.reduceBEq, ↓reduceIte, Nat.reduceEqDiff, Option.getD_some, Option.map_some, List.map_cons, List.map_nil, List.getD_cons_zero, List.getD_cons_succ]) ⟨show i + 1 ≤ as.length by omega, show (seqDo v a).length = _ by rw [seqDo_len, i2], n1 he, n3 he⟩ (show as.length - (i + 1) < as.length - i by omega)
        · have he : seqErr l v a = 3 := by rw [hE, e2, hl]; simp [e3]
          rw [n2 (by omega), he]; simp
      · have he : seqErr l v a = 0 := by rw [hE, e2]; simp
        exact Z0g.mk [] (i + 1, seqDo v a) (by simp) (by simp) (by simp only [State.can, AV.can, AV.canL, HO.can, Z0z, idx, Z04, Z00, Heap.at, Nat.reduceBEq, ↓reduceIte, Nat.reduceEqDiff, Option.getD_some, Option.map_some, List.map_cons, List.map_nil, List.getD_cons_zero, List.getD_cons_succ]) ⟨show i + 1 ≤ as.length by omega, show (seqDo v a).length = _ by rw [seqDo_len, i2], n1 he, n3 he⟩ (show as.length - (i + 1) < as.length - i by omega)
    · have he : seqErr l v a = 1 := by simp [seqErr, i2, e1]
      rw [n2 (by omega), he]; simp
  · have : i = as.length := by omega
    subst this
    rw [i3, List.drop_length]; simp [seqGo]
end Go.Ago

/- The contracts of the reference of layer 1: those of package rat. Conditions: none. -/
set_option maxRecDepth 100000
set_option linter.unusedSimpArgs false
set_option linter.unusedVariables false
namespace Go.Ago

theorem cmp_swap (a b c d : Int) : rat_cmp c d a b = - rat_cmp a b c d := by
  unfold rat_cmp
  rw [Bool.and_comm]
  split
  · unfold sgn
    split <;> split <;> (try split) <;> (try split) <;> omega
  · rfl

end Go.Ago

/- The laws of layer 1, as bodies that answer true. Conditions: none. -/
set_option maxRecDepth 100000
set_option linter.unusedSimpArgs false
set_option linter.unusedVariables false
namespace Go.Ago


/-! ### The plain laws -/
theorem cmp_eq {a b c d : Int} (h1 : Z2d a b = true) (h2 : Z2d c d = true) : rat_cmp a b c d = sgn (a * d - c * b) := by simp [rat_cmp, h1, h2]

theorem sgn_mul {d x : Int} (h : 0 < d) : sgn (d * x) = sgn x := by
  unfold sgn
  rcases Int.lt_trichotomy x 0 with hx | hx | hx
  · have := Int.mul_neg_of_pos_of_neg h hx
    rw [if_pos this, if_pos hx]
  · subst hx; simp
  · have := Int.mul_pos h hx
    rw [if_neg (by omega), if_pos this, if_neg (by omega), if_pos hx]

theorem sgn_nonpos {x : Int} : sgn x ≤ 0 ↔ x ≤ 0 := by unfold sgn; split <;> (try split) <;> omega
theorem sgn_zero {x : Int} : sgn x = 0 ↔ x = 0 := by unfold sgn; split <;> (try split) <;> omega
/-- From a first to a second to a third. -/
theorem cross {a b c d e f : Int} (hb : 0 < b) (hd : 0 < d) (hf : 0 < f) (h1 : a * d ≤ c * b) (h2 : c * f ≤ e * d) : a * f ≤ e * b := by
  have e1 : a * d * f ≤ c * b * f := Int.mul_le_mul_of_nonneg_right h1 (by omega)
  have e2 : c * f * b ≤ e * d * b := Int.mul_le_mul_of_nonneg_right h2 (by omega)
  have e3 : c * b * f = c * f * b := by rw [Int.mul_assoc, Int.mul_comm b f, ← Int.mul_assoc]
  have e4 : a * d * f = d * (a * f) := by rw [Int.mul_comm a d, Int.mul_assoc]
  have e5 : e * d * b = d * (e * b) := by rw [Int.mul_comm e d, Int.mul_assoc]
  exact Int.le_of_mul_le_mul_left (by omega : d * (a * f) ≤ d * (e * b)) hd

theorem cmp_alike {a b c d e f : Int} (h1 : Z2d a b = true) (h2 : Z2d c d = true) (h3 : Z2d e f = true) (h : rat_cmp a b c d = 0) : rat_cmp a b e f = rat_cmp c d e f := by
  obtain ⟨r1, r2, r3, r4⟩ := right_iff.1 h1
  obtain ⟨s1, s2, s3, s4⟩ := right_iff.1 h2
  rw [cmp_eq h1 h2, sgn_zero] at h
  rw [cmp_eq h1 h3, cmp_eq h2 h3, ← sgn_mul (d := d) (x := a * f - e * b) (by omega), ← sgn_mul (d := b) (x := c * f - e * d) (by omega)]
  congr 1
  have e1 : d * (a * f) = f * (a * d) := by rw [← Int.mul_assoc, Int.mul_comm d a, Int.mul_comm]
  have e2 : b * (c * f) = f * (c * b) := by rw [← Int.mul_assoc, Int.mul_comm b c, Int.mul_comm]
  have e3 : d * (e * b) = b * (e * d) := by rw [Int.mul_comm d, Int.mul_comm b, Int.mul_assoc, Int.mul_assoc, Int.mul_comm b]
  have e4 : a * d = c * b := by omega
  rw [Int.mul_sub, Int.mul_sub, e1, e2, e3, e4]

/-- A moment and what it is lessened to. -/
theorem least_spec {a b : Int} (h : Z2d a b = true) : ∃ g A B, 0 < g ∧ 0 < B ∧ Z2q a b = (A, B) ∧ a = g * A ∧ b = g * B ∧ Nat.gcd A.natAbs B.natAbs = 1 := by
  obtain ⟨r1, r2, r3, r4⟩ := right_iff.1 h
  have g0 := gcdI_pos (a := a) (b := b) (by omega)
  have ha : gcdI a b ∣ a := Int.ofNat_dvd_left.2 (Nat.gcd_dvd_left _ _)
  have hbd : gcdI a b ∣ b := Int.ofNat_dvd_left.2 (Nat.gcd_dvd_right _ _)
  have hl : Z2q a b = (a.tdiv (gcdI a b), b.tdiv (gcdI a b)) := by simp [Z2q, h]
  have hg : gcdI a b = (Nat.gcd a.natAbs b.natAbs : Nat) := rfl
  rw [hl]
  generalize gcdI a b = g at *
  obtain ⟨A, rfl⟩ := ha
  obtain ⟨B, rfl⟩ := hbd
  refine ⟨g, A, B, g0, ?_, by rw [Int.mul_tdiv_cancel_left _ (by omega), Int.mul_tdiv_cancel_left _ (by omega)], rfl, rfl, ?_⟩
  · by_cases h : 0 < B
    · exact h
    · have := Int.mul_nonpos_of_nonneg_of_nonpos (Int.le_of_lt g0) (show B ≤ 0 by omega); omega
  · rw [Int.natAbs_mul, Int.natAbs_mul, Nat.gcd_mul_left] at hg
    have : g.natAbs * Nat.gcd A.natAbs B.natAbs = g.natAbs * 1 := by
      have : ((g.natAbs * Nat.gcd A.natAbs B.natAbs : Nat) : Int) = (g.natAbs : Nat) := by rw [← hg]; omega
      omega
    exact Nat.eq_of_mul_eq_mul_left (by omega) this

theorem least_right {a b : Int} (h : Z2d a b = true) : Z2d (Z2q a b).1 (Z2q a b).2 = true := by
  obtain ⟨r1, r2, r3, r4⟩ := right_iff.1 h
  obtain ⟨l1, l2, l3⟩ := least_bd h
  exact right_iff.2 ⟨by omega, by omega, by omega, by omega⟩

theorem least_cmp {a b : Int} (h : Z2d a b = true) : rat_cmp (Z2q a b).1 (Z2q a b).2 a b = 0 := by
  rw [cmp_eq (least_right h) h, sgn_zero]
  obtain ⟨g, A, B, hg, hB, hl, ha, hb, _⟩ := least_spec h
  rw [hl]
  show A * b - a * B = 0
  rw [ha, hb, Int.mul_comm g A, Int.mul_assoc]; omega

end Go.Ago

/- The laws of layer 21, as bodies that answer true. Conditions: none. -/
set_option maxRecDepth 100000
set_option linter.unusedSimpArgs false
set_option linter.unusedVariables false
namespace Go.Ago

def stepActs (s : List StepG) : List ActG := (s.take 100).map StepG.act

def sp_law21_acts : Sp := ⟨List StepG × Bool, fun x => [.d (.list (x.1.map StepG.row) x.2)], fun x => .data (x.1.length ≤ maxLen) (.d (.list ((stepActs x.1).map ActG.row) false)) false⟩
theorem at_law21_acts (s : List StepG) (f : Bool) : sp_law21_acts.at [.d (.list (s.map StepG.row) f)] = .data (s.length ≤ maxLen) (.d (.list ((stepActs s).map ActG.row) false)) false :=
  Sp.at_enc (s := sp_law21_acts) (fun x y h => by
    obtain ⟨a, b⟩ := x; obtain ⟨a', b'⟩ := y
    simp only [sp_law21_acts, List.cons.injEq, AV.d.injEq, DV.list.injEq, and_true] at h
    rw [rows_inj StepG.row_inj h.1, h.2]) (s, f)

def actsSt (s : List StepG) (f : Bool) : Nat → State
  | 0 => ⟨[(0, .d (.list (s.map StepG.row) f)), (3, .d (.list [] true)), (4, .d (.int .i64 (0 : Nat)))], []⟩
  | i + 1 => ⟨[(0, .d (.list (s.map StepG.row) f)), (3, .ref 0 4 0 ((s.take (i + 1)).map StepG.act).length true), (4, .d (.int .i64 (i + 1 : Nat)))], [.dvec 4 (((s.take (i + 1)).map StepG.act).map ActG.row)]⟩

theorem body_law21_acts {T : Tab} : sp_law21_acts.Body T V_law21_acts L_law21_acts R_law21_acts := by
  rintro ⟨s, f⟩ hlen
  have hlen : s.length ≤ maxLen := hlen
  have hm : maxLen = 9223372036854775807 := rfl
  refine ⟨rfl, ?_⟩
  unfold V_law21_acts L_law21_acts R_law21_acts
  simp only [↓Z0h, ↓Z11, ↓Z1a, ↓Z03, ↓Z36, ↓Z35, nilG_d, nilG_r, ↓Z0p, ↓Z0f, ↓Z0c, ↓Z1h, ↓Z0a, ↓Z0o, ↓Z1q, ↓Z1p, ↓Z12, ↓Z19, ↓blockK_o, ↓Z2b, ↓Z0n, ↓Z1r, ↓retK_n, ↓loopV_n, ↓loopV_x, ↓loopV_r, ↓famK_n, ↓Z30, ↓famK_r, ↓Z0i, ↓Z0e, ↓Z1b, ↓Z0d, ↓Z22, Z25, Z05, Z0r, Z14, Z18, Z17, evN, Z13, Z0m, Z16, Z20, Z0l, Z0b, Z0k, stepK_no, Z1v, Z1n, Z1x, Z0v, evT, Opd.ev, Z04, Z00, Z15, Z21, Z1d, Z1i, Z39, Z0u, Z0w, knowO_c, Z0t, Z09, Z1g, LOp.isNew, State.prune, Z1e, Z0y, AV.leaf, Heap.at, Z06, Z0x, Z02, Z1z, Z0s, idx_I, idx_U, idx_Rat, idx_Loc, idx_Act, idx_Step, Z31, Z07, Z08, Z01, Z0j, Z2z, rowI, rowU, RatG.row, LocG.row, ActG.row, StepG.row, StampG.row, ActG.av, ActG.eta, RatG.eta, LocG.eta, beq_true, beq_false, Z2c, Z3j, set_rowU, app_rowI, app_rowU, rep_rowI, rep_rowU, Z2a, Z2g, Z29, Z2o, Z2f, Z2e, Z1w, List.length_set, List.length_replicate, Int.toNat_natCast, Int.reduceToNat, evLen, Z1s, Z38, Src.all, Src.len, Src.leaf, Src.leafN, evApart, aliveQ, joinV, Z26, Z27, Z2h, Z2i, Z2j, Z2k, Z2l, Z2m, mkVec, drows, evMk, List.length_map, Z1j, drop_mapF, List.take_length, List.take_left, List.length_append, Nat.le_add_right, ite_self, List.take_of_length_le, evSlice, intOr, intOpd, Option.isSome_none, Option.isSome_some, Nat.sub_zero, Z28, Z2v, Z2w, evUn, binT, binQ, chk, Z24, List.contains_cons, List.contains_nil, Bool.or_false, Bool.false_or, Bool.and_self, resQ, resV, resT, pickV, Z10, evTake, Z1o, fnOf, Z1l, isD, HO.drow, Z3h, evInt2, evEq, eqV, eqK, eqC1, buildQ, Z3k, Z37, Z34, lens_I, lensA_I, lens_U, lensA_U, Z2y, Z3c, lens_Loc, Z3b, lens_Act, Z3a, Z3d, Z2n, Z23, Z1y, List.mem_cons, List.not_mem_nil, or_false, forall_eq, putRow, Z2t, Z0q, RetS, RetF, RetD, AV.frz, AV.frzL, AV.freshP, AV.freshL, DV.less, scal_int, Z3e, scal_nil, Z2u, Z3f, Z1c, Z1k, Option.some.injEq, AV.tup.injEq, AV.agg.injEq, List.cons.injEq, DV.list.injEq, List.isEmpty_nil, Nat.le_refl, AV.d.injEq, DV.int.injEq, DV.bool.injEq, ↓reduceIte, Nat.reduceEqDiff, Nat.reduceAdd, Nat.reduceBEq, List.length_cons, List.length_nil, List.replicate_succ, List.replicate_zero, List.nil_append, List.cons_append, List.append_nil, List.foldl_cons, List.foldl_nil, List.map_cons, List.map_nil, List.all_cons, List.all_nil, List.set_cons_zero, List.set_cons_succ, List.getD_cons_zero, List.getD_cons_succ, List.drop_zero, List.drop_succ_cons, List.take_succ_cons, List.take_zero, List.flatten_cons, List.flatten_nil, Bool.true_and, Bool.and_true, Bool.not_true, Bool.not_false, true_and, and_true, true_or, or_true, Option.bind_some, Option.map_some, decide_true, decide_false, beq_self_eq_true, true_implies, false_implies, implies_true, not_true_eq_false, not_false_eq_true, and_self, Bool.and_false, Bool.false_and, Nat.reduceLT, Nat.reduceLeDiff, List.reverse_cons, List.reverse_nil, Nat.zero_add, Nat.add_zero, Bool.false_eq_true, List.getElem?_cons_zero, sp_law21_acts]
  refine Loop.fam [0, 3, 4] (actsSt s f) (fun i => i ≤ s.length ∧ i ≤ 100) (fun i => 100 - i) 0 [] (by simp) (by simp) (by simp only [State.can, AV.can, AV.canL, HO.can, Z0z, idx, Z04, Z00, Heap.at, Nat.reduceBEq, ↓reduceIte, Nat.reduceEqDiff, Option.getD_some, Option.map_some, List.map_cons, List.map_nil, List.getD_cons_zero, List.getD_cons_succ]; rfl) ⟨by omega, by omega⟩ ?_
  rintro i ⟨i1, i2⟩
  have take_s : ∀ j, j < s.length → (s.take (j + 1)).map StepG.act = (s.take j).map StepG.act ++ [(s.getD j default).act] := fun j hj => by
    rw [List.take_add_one, List.getElem?_eq_getElem hj, Z2x hj, List.map_append]; rfl
  cases i with
  | zero =>
    simp only [↓Z0h, ↓Z11, ↓Z1a, ↓Z03, ↓Z36, ↓Z35, nilG_d, nilG_r, ↓Z0p, ↓Z0f, ↓Z0c, ↓Z1h, ↓Z0a, ↓Z0o, ↓Z1q, ↓Z1p, ↓Z12, ↓Z19, ↓blockK_o, ↓Z2b, ↓Z0n, ↓Z1r, ↓retK_n, ↓loopV_n, ↓loopV_x, ↓loopV_r, ↓famK_n, ↓Z30, ↓famK_r, ↓Z0i, ↓Z0e, ↓Z1b, ↓Z0d, ↓Z22, Z25, Z05, Z0r, Z14, Z18, Z17, evN, Z13, Z0m, Z16, Z20, Z0l, Z0b, Z0k, stepK_no, Z1v, Z1n, Z1x, Z0v, evT, Opd.ev, Z04, Z00, Z15, Z21, Z1d, Z1i, Z39, Z0u, Z0w, knowO_c, Z0t, Z09, Z1g, LOp.isNew, State.prune, Z1e, Z0y, AV.leaf, Heap.at, Z06, Z0x, Z02, Z1z, Z0s, idx_I, idx_U, idx_Rat, idx_Loc, idx_Act, idx_Step, Z31, Z07, Z08, Z01, Z0j, Z2z, rowI, rowU, RatG.row, LocG.row, ActG.row, StepG.row, StampG.row, ActG.av, ActG.eta, RatG.eta, LocG.eta, beq_true, beq_false, Z2c, Z3j, set_rowU, app_rowI, app_rowU, rep_rowI, rep_rowU, Z2a, Z2g, Z29, Z2o, Z2f, Z2e, Z1w, List.length_set, List.length_replicate, Int.toNat_natCast, Int.reduceToNat, evLen, Z1s, Z38, Src.all, Src.len, Src.leaf, Src.leafN, evApart, aliveQ, joinV, Z26, Z27, Z2h, Z2i, Z2j, Z2k, Z2l, Z2m, mkVec, drows, evMk, List.length_map, Z1j, drop_mapF, List.take_length, List.take_left, List.length_append, Nat.le_add_right, ite_self, List.take_of_length_le, evSlice, intOr, intOpd, Option.isSome_none, Option.isSome_some, Nat.sub_zero, Z28, Z2v, Z2w, evUn, binT, binQ, chk, Z24, List.contains_cons, List.contains_nil, Bool.or_false, Bool.false_or, Bool.and_self, resQ, resV, resT, pickV, Z10, evTake, Z1o, fnOf, Z1l, isD, HO.drow, Z3h, evInt2, evEq, eqV, eqK, eqC1, buildQ, Z3k, Z37, Z34, lens_I, lensA_I, lens_U, lensA_U, Z2y, Z3c, lens_Loc, Z3b, lens_Act, Z3a, Z3d, Z2n, Z23, Z1y, List.mem_cons, List.not_mem_nil, or_false, forall_eq, putRow, Z2t, Z0q, RetS, RetF, RetD, AV.frz, AV.frzL, AV.freshP, AV.freshL, DV.less, scal_int, Z3e, scal_nil, Z2u, Z3f, Z1c, Z1k, Option.some.injEq, AV.tup.injEq, AV.agg.injEq, List.cons.injEq, DV.list.injEq, List.isEmpty_nil, Nat.le_refl, AV.d.injEq, DV.int.injEq, DV.bool.injEq, ↓reduceIte, Nat.reduceEqDiff, Nat.reduceAdd, Nat.reduceBEq, List.length_cons, List.length_nil, List.replicate_succ, List.replicate_zero, List.nil_append, List.cons_append, List.append_nil, List.foldl_cons, List.foldl_nil, List.map_cons, List.map_nil, List.all_cons, List.all_nil, List.set_cons_zero, List.set_cons_succ, List.getD_cons_zero, List.getD_cons_succ, List.drop_zero, List.drop_succ_cons, List.take_succ_cons, List.take_zero, List.flatten_cons, List.flatten_nil, Bool.true_and, Bool.and_true, Bool.not_true, Bool.not_false, true_and, and_true, true_or, or_true, Option.bind_some, Option.map_some, decide_true, decide_false, beq_self_eq_true, true_implies, false_implies, implies_true, not_true_eq_false, not_false_eq_true, and_self, Bool.and_false, Bool.false_and, Nat.reduceLT, Nat.reduceLeDiff, List.reverse_cons, List.reverse_nil, Nat.zero_add, Nat.add_zero, Bool.false_eq_true, List.getElem?_cons_zero, actsSt]
    have r0 : [] = stepActs s ∨ 0 < s.length := by
      cases s with
      | nil => exact .inl rfl
      | cons x xs => exact .inr (by simp)
    refine ⟨fun h => ⟨fun h2 => ⟨⟨by omega, by omega⟩, Z1t (by omega) (by omega), Z0g.mk [1] 1 (by simp) (by simp) ?_ ⟨by omega, by omega⟩ (by omega)⟩, fun h2 => by omega⟩, fun h => ?_⟩
    · have e := take_s 0 (by omega)
      simp only [State.can, AV.can, AV.canL, HO.can, Z0z, idx, Z04, Z00, Heap.at, Nat.reduceBEq, ↓reduceIte, Nat.reduceEqDiff, Option.getD_some, Option.map_some, List.map_cons, List.map_nil, List.getD_cons_zero, List.getD_cons_succ, actsSt, e]
      rfl
    · rcases r0 with r0 | r0
      · rw [← r0]; rfl
      · omega
  | succ i =>
    simp only [↓Z0h, ↓Z11, ↓Z1a, ↓Z03, ↓Z36, ↓Z35, nilG_d, nilG_r, ↓Z0p, ↓Z0f, ↓Z0c, ↓Z1h, ↓Z0a, ↓Z0o, ↓Z1q, ↓Z1p, ↓Z12, ↓Z19, ↓blockK_o, ↓Z2b, ↓Z0n, ↓Z1r, ↓retK_n, ↓loopV_n, ↓loopV_x, ↓loopV_r, ↓famK_n, ↓Z30, ↓famK_r, ↓Z0i, ↓Z0e, ↓Z1b, ↓Z0d, ↓Z22, Z25, Z05, Z0r, Z14, Z18, Z17, evN, Z13, Z0m, Z16, Z20, Z0l, Z0b, Z0k, stepK_no, Z1v, Z1n, Z1x, Z0v, evT, Opd.ev, Z04, Z00, Z15, Z21, Z1d, Z1i, Z39, Z0u, Z0w, knowO_c, Z0t, Z09, Z1g, LOp.isNew, State.prune, Z1e, Z0y, AV.leaf, Heap.at, Z06, Z0x, Z02, Z1z, Z0s, idx_I, idx_U, idx_Rat, idx_Loc, idx_Act, idx_Step, Z31, Z07, Z08, Z01, Z0j, Z2z, rowI, rowU, RatG.row, LocG.row, ActG.row, StepG.row, StampG.row, ActG.av, ActG.eta, RatG.eta, LocG.eta, beq_true, beq_false, Z2c, Z3j, set_rowU, app_rowI, app_rowU, rep_rowI, rep_rowU, Z2a, Z2g, Z29, Z2o, Z2f, Z2e, Z1w, List.length_set, List.length_replicate, Int.toNat_natCast, Int.reduceToNat, evLen, Z1s, Z38, Src.all, Src.len, Src.leaf, Src.leafN, evApart, aliveQ, joinV, Z26, Z27, Z2h, Z2i, Z2j, Z2k, Z2l, Z2m, mkVec, drows, evMk, List.length_map, Z1j, drop_mapF, List.take_length, List.take_left, List.length_append, Nat.le_add_right, ite_self, List.take_of_length_le, evSlice, intOr, intOpd, Option.isSome_none, Option.isSome_some, Nat.sub_zero, Z28, Z2v, Z2w, evUn, binT, binQ, chk, Z24, List.contains_cons, List.contains_nil, Bool.or_false, Bool.false_or, Bool.and_self, resQ, resV, resT, pickV, Z10, evTake, Z1o, fnOf, Z1l, isD, HO.drow, Z3h, evInt2, evEq, eqV, eqK, eqC1, buildQ, Z3k, Z37, Z34, lens_I, lensA_I, lens_U, lensA_U, Z2y, Z3c, lens_Loc, Z3b, lens_Act, Z3a, Z3d, Z2n, Z23, Z1y, List.mem_cons, List.not_mem_nil, or_false, forall_eq, putRow, Z2t, Z0q, RetS, RetF, RetD, AV.frz, AV.frzL, AV.freshP, AV.freshL, DV.less, scal_int, Z3e, scal_nil, Z2u, Z3f, Z1c, Z1k, Option.some.injEq, AV.tup.injEq, AV.agg.injEq, List.cons.injEq, DV.list.injEq, List.isEmpty_nil, Nat.le_refl, AV.d.injEq, DV.int.injEq, DV.bool.injEq, ↓reduceIte, Nat.reduceEqDiff, Nat.reduceAdd, Nat.reduceBEq, List.length_cons, List.length_nil, List.replicate_succ, List.replicate_zero, List.nil_append, List.cons_append, List.append_nil, List.foldl_cons, List.foldl_nil, List.map_cons, List.map_nil, List.all_cons, List.all_nil, List.set_cons_zero, List.set_cons_succ, List.getD_cons_zero, List.getD_cons_succ, List.drop_zero, List.drop_succ_cons, List.take_succ_cons, List.take_zero, List.flatten_cons, List.flatten_nil, Bool.true_and, Bool.and_true, Bool.not_true, Bool.not_false, true_and, and_true, true_or, or_true, Option.bind_some, Option.map_some, decide_true, decide_false, beq_self_eq_true, true_implies, false_implies, implies_true, not_true_eq_false, not_false_eq_true, and_self, Bool.and_false, Bool.false_and, Nat.reduceLT, Nat.reduceLeDiff, List.reverse_cons, List.reverse_nil, Nat.zero_add, Nat.add_zero, Bool.false_eq_true, List.getElem?_cons_zero, actsSt]
    have hl : (List.take (i + 1) s).length = i + 1 := by simp; omega
    refine ⟨fun h => ⟨fun h2 => ⟨⟨by omega, by omega⟩, Z1t (by omega) (by omega), Z0g.mk [2] (i + 1 + 1) (by simp) (by simp) ?_ ⟨by omega, by omega⟩ (by omega)⟩, fun h2 => ?_⟩, fun h => ?_⟩
    · have e := take_s (i + 1) (by omega)
      rw [Z2r (n := s.length) (by omega) hlen]
      simp only [State.can, AV.can, AV.canL, HO.can, Z0z, idx, Z04, Z00, Heap.at, Nat.reduceBEq, ↓reduceIte, Nat.reduceEqDiff, Option.getD_some, Option.map_some, List.map_cons, List.map_nil, List.getD_cons_zero, List.getD_cons_succ, actsSt, e]
      simp
    · have : i + 1 = 100 := by omega
      rw [this]; rfl
    · have : i + 1 = s.length := by omega
      rw [this, List.take_length]
      unfold stepActs
      rw [List.take_of_length_le (by omega)]

theorem body_law21_awake {T : Tab} {n1 : Nat} (k1 : Knows T n1 sp_seq_Run) : sp_true.Body T V_law21_awake (L_law21_awake n1) R_law21_awake := by
  have F1 := k1.F; have G1 := k1.G
  rintro x -
  refine .inl ⟨rfl, ?_⟩
  unfold V_law21_awake L_law21_awake R_law21_awake
  have e : seqRun [⟨false, 0⟩] [⟨2, 0, 0, 1⟩, ⟨1, 0, 1, 0⟩] = ([1], 2, 0) := by decide
  have h1 : ∀ full, sp_seq_Run.at [.d (.list [[.bool false, .int .i64 0]] full), .d (.list [[.int .i64 2, .int .i64 0, .int .i64 0, .int .i64 1], [.int .i64 1, .int .i64 0, .int .i64 1, .int .i64 0]] false)] = .data (1 ≤ 1048576 ∧ 2 ≤ 1048576) (.tup [.d (.list [rowI 1] false), .d (.int .i64 2), .d (.int .i64 0)]) false := fun full => by
    have := at_seq_Run [⟨false, 0⟩] full [⟨2, 0, 0, 1⟩, ⟨1, 0, 1, 0⟩] false
    rw [e] at this
    exact this
  simp only [↓Z0h, ↓Z11, ↓Z1a, ↓Z03, ↓Z36, ↓Z35, nilG_d, nilG_r, ↓Z0p, ↓Z0f, ↓Z0c, ↓Z1h, ↓Z0a, ↓Z0o, ↓Z1q, ↓Z1p, ↓Z12, ↓Z19, ↓blockK_o, ↓Z2b, ↓Z0n, ↓Z1r, ↓retK_n, ↓loopV_n, ↓loopV_x, ↓loopV_r, ↓famK_n, ↓Z30, ↓famK_r, ↓Z0i, ↓Z0e, ↓Z1b, ↓Z0d, ↓Z22, Z25, Z05, Z0r, Z14, Z18, Z17, evN, Z13, Z0m, Z16, Z20, Z0l, Z0b, Z0k, stepK_no, Z1v, Z1n, Z1x, Z0v, evT, Opd.ev, Z04, Z00, Z15, Z21, Z1d, Z1i, Z39, Z0u, Z0w, knowO_c, Z0t, Z09, Z1g, LOp.isNew, State.prune, Z1e, Z0y, AV.leaf, Heap.at, Z06, Z0x, Z02, Z1z, Z0s, idx_I, idx_U, idx_Rat, idx_Loc, idx_Act, idx_Step, Z31, Z07, Z08, Z01, Z0j, Z2z, rowI, rowU, RatG.row, LocG.row, ActG.row, StepG.row, StampG.row, ActG.av, ActG.eta, RatG.eta, LocG.eta, beq_true, beq_false, Z2c, Z3j, set_rowU, app_rowI, app_rowU, rep_rowI, rep_rowU, Z2a, Z2g, Z29, Z2o, Z2f, Z2e, Z1w, List.length_set, List.length_replicate, Int.toNat_natCast, Int.reduceToNat, evLen, Z1s, Z38, Src.all, Src.len, Src.leaf, Src.leafN, evApart, aliveQ, joinV, Z26, Z27, Z2h, Z2i, Z2j, Z2k, Z2l, Z2m, mkVec, drows, evMk, List.length_map, Z1j, drop_mapF, List.take_length, List.take_left, List.length_append, Nat.le_add_right, ite_self, List.take_of_length_le, evSlice, intOr, intOpd, Option.isSome_none, Option.isSome_some, Nat.sub_zero, Z28, Z2v, Z2w, evUn, binT, binQ, chk, Z24, List.contains_cons, List.contains_nil, Bool.or_false, Bool.false_or, Bool.and_self, resQ, resV, resT, pickV, Z10, evTake, Z1o, fnOf, Z1l, isD, HO.drow, Z3h, evInt2, evEq, eqV, eqK, eqC1, buildQ, Z3k, Z37, Z34, lens_I, lensA_I, lens_U, lensA_U, Z2y, Z3c, lens_Loc, Z3b, lens_Act, Z3a, Z3d, Z2n, Z23, Z1y, List.mem_cons, List.not_mem_nil, or_false, forall_eq, putRow, Z2t, Z0q, RetS, RetF, RetD, AV.frz, AV.frzL, AV.freshP, AV.freshL, DV.less, scal_int, Z3e, scal_nil, Z2u, Z3f, Z1c, Z1k, Option.some.injEq, AV.tup.injEq, AV.agg.injEq, List.cons.injEq, DV.list.injEq, List.isEmpty_nil, Nat.le_refl, AV.d.injEq, DV.int.injEq, DV.bool.injEq, ↓reduceIte, Nat.reduceEqDiff, Nat.reduceAdd, Nat.reduceBEq, List.length_cons, List.length_nil, List.replicate_succ, List.replicate_zero, List.nil_append, List.cons_append, List.append_nil, List.foldl_cons, List.foldl_nil, List.map_cons, List.map_nil, List.all_cons, List.all_nil, List.set_cons_zero, List.set_cons_succ, List.getD_cons_zero, List.getD_cons_succ, List.drop_zero, List.drop_succ_cons, List.take_succ_cons, List.take_zero, List.flatten_cons, List.flatten_nil, Bool.true_and, Bool.and_true, Bool.not_true, Bool.not_false, true_and, and_true, true_or, or_true, Option.bind_some, Option.map_some, decide_true, decide_false, beq_self_eq_true, true_implies, false_implies, implies_true, not_true_eq_false, not_false_eq_true, and_self, Bool.and_false, Bool.false_and, Nat.reduceLT, Nat.reduceLeDiff, List.reverse_cons, List.reverse_nil, Nat.zero_add, Nat.add_zero, Bool.false_eq_true, List.getElem?_cons_zero, sp_true, F1, G1, h1]
  refine ⟨⟨by decide, by decide, Z1t (by decide) (by decide)⟩, fun _ => ?_, fun h => absurd rfl h⟩
  simp only [↓Z0h, ↓Z11, ↓Z1a, ↓Z03, ↓Z36, ↓Z35, nilG_d, nilG_r, ↓Z0p, ↓Z0f, ↓Z0c, ↓Z1h, ↓Z0a, ↓Z0o, ↓Z1q, ↓Z1p, ↓Z12, ↓Z19, ↓blockK_o, ↓Z2b, ↓Z0n, ↓Z1r, ↓retK_n, ↓loopV_n, ↓loopV_x, ↓loopV_r, ↓famK_n, ↓Z30, ↓famK_r, ↓Z0i, ↓Z0e, ↓Z1b, ↓Z0d, ↓Z22, Z25, Z05, Z0r, Z14, Z18, Z17, evN, Z13, Z0m, Z16, Z20, Z0l, Z0b, Z0k, stepK_no, Z1v, Z1n, Z1x, Z0v, evT, Opd.ev, Z04, Z00, Z15, Z21, Z1d, Z1i, Z39, Z0u, Z0w, knowO_c, Z0t, Z09, Z1g, LOp.isNew, State.prune, Z1e, Z0y, AV.leaf, Heap.at, Z06, Z0x, Z02, Z1z, Z0s, idx_I, idx_U, idx_Rat, idx_Loc, idx_Act, idx_Step, Z31, Z07, Z08, Z01, Z0j, Z2z, rowI, rowU, RatG.row, LocG.row, ActG.row, StepG.row, StampG.row, ActG.av, ActG.eta, RatG.eta, LocG.eta, beq_true, beq_false, Z2c, Z3j, set_rowU, app_rowI, app_rowU, rep_rowI, rep_rowU, Z2a, Z2g, Z29, Z2o, Z2f, Z2e, Z1w, List.length_set, List.length_replicate, Int.toNat_natCast, Int.reduceToNat, evLen, Z1s, Z38, Src.all, Src.len, Src.leaf, Src.leafN, evApart, aliveQ, joinV, Z26, Z27, Z2h, Z2i, Z2j, Z2k, Z2l, Z2m, mkVec, drows, evMk, List.length_map, Z1j, drop_mapF, List.take_length, List.take_left, List.length_append, Nat.le_add_right, ite_self, List.take_of_length_le, evSlice, intOr, intOpd, Option.isSome_none, Option.isSome_some, Nat.sub_zero, Z28, Z2v, Z2w, evUn, binT, binQ, chk, Z24, List.contains_cons, List.contains_nil, Bool.or_false, Bool.false_or, Bool.and_self, resQ, resV, resT, pickV, Z10, evTake, Z1o, fnOf, Z1l, isD, HO.drow, Z3h, evInt2, evEq, eqV, eqK, eqC1, buildQ, Z3k, Z37, Z34, lens_I, lensA_I, lens_U, lensA_U, Z2y, Z3c, lens_Loc, Z3b, lens_Act, Z3a, Z3d, Z2n, Z23, Z1y, List.mem_cons, List.not_mem_nil, or_false, forall_eq, putRow, Z2t, Z0q, RetS, RetF, RetD, AV.frz, AV.frzL, AV.freshP, AV.freshL, DV.less, scal_int, Z3e, scal_nil, Z2u, Z3f, Z1c, Z1k, Option.some.injEq, AV.tup.injEq, AV.agg.injEq, List.cons.injEq, DV.list.injEq, List.isEmpty_nil, Nat.le_refl, AV.d.injEq, DV.int.injEq, DV.bool.injEq, ↓reduceIte, Nat.reduceEqDiff, Nat.reduceAdd, Nat.reduceBEq, List.length_cons, List.length_nil, List.replicate_succ, List.replicate_zero, List.nil_append, List.cons_append, List.append_nil, List.foldl_cons, List.foldl_nil, List.map_cons, List.map_nil, List.all_cons, List.all_nil, List.set_cons_zero, List.set_cons_succ, List.getD_cons_zero, List.getD_cons_succ, List.drop_zero, List.drop_succ_cons, List.take_succ_cons, List.take_zero, List.flatten_cons, List.flatten_nil, Bool.true_and, Bool.and_true, Bool.not_true, Bool.not_false, true_and, and_true, true_or, or_true, Option.bind_some, Option.map_some, decide_true, decide_false, beq_self_eq_true, true_implies, false_implies, implies_true, not_true_eq_false, not_false_eq_true, and_self, Bool.and_false, Bool.false_and, Nat.reduceLT, Nat.reduceLeDiff, List.reverse_cons, List.reverse_nil, Nat.zero_add, Nat.add_zero, Bool.false_eq_true, List.getElem?_cons_zero, evIdxAddr]
  decide

end Go.Ago

/- A call on objects of its own, as a call on a greater heap; contracts of calls that change or add objects. Conditions: none. -/
set_option linter.unusedSimpArgs false
set_option linter.unusedVariables false
namespace Go.Ago

/-- Where the callee's objects lie with the caller. -/
def into (H : Heap) (ids : List Nat) (i : Nat) : Nat := if i < ids.length then ids.getD i 0 else H.length + (i - ids.length)

theorem into_lt {H : Heap} {ids : List Nat} {i : Nat} (hi : i < ids.length) : into H ids i = ids[i] := by
  unfold into
  rw [if_pos hi, List.getD_eq_getElem?_getD, List.getElem?_eq_getElem hi]; rfl
theorem into_ge {H : Heap} {ids : List Nat} {i : Nat} (hi : ids.length ≤ i) : into H ids i = H.length + (i - ids.length) := by
  unfold into
  rw [if_neg (by omega)]

/-- The caller's heap behind such a call. -/
structure Framed (H : Heap) (ids : List Nat) (os' H' : Heap) : Prop where
  len : H'.length = H.length + (os'.length - ids.length)
  other : ∀ j, j < H.length → j ∉ ids → Heap.at H' j = H.at j
  mine : ∀ i, i < os'.length → Heap.at H' (into H ids i) = (os'.at i).ren (into H ids)

theorem ACalls.frame {P : Program} {g : FuncId} {args' : List AV} {os os' : Heap} {v' : AV} {H : Heap} {ids : List Nat} (hn : ids.Nodup) (hl : ids.length = os.length) (hlt : ∀ i ∈ ids, i < H.length)
    (hl' : os.length ≤ os'.length) (ho : ∀ k (hk : k < ids.length), H.at ids[k] = (os.at k).ren (into H ids)) {H2 : Heap} (hf : Framed H ids os' H2)
    (hc : ACalls P g args' os (fun r H1 => r = v' ∧ H1 = os')) : ACalls P g (args'.map (AV.ren (into H ids))) H (fun r H' => r = v'.ren (into H ids) ∧ H' = H2) := by
  refine ⟨hc.1, fun A φ w vals hs hz hrel => ?_⟩
  -- the callee's view
  let φ1 : Nat → Option (Nat × Nat) := fun i => φ (into H ids i)
  have hφ1 : ∀ i p, φ1 i = some p → ∃ hi : i < ids.length, φ ids[i] = some p := fun i p hp => by
    have hp' : φ (into H ids i) = some p := hp
    by_cases hi : i < ids.length
    · exact ⟨hi, by rw [← into_lt (H := H) hi]; exact hp'⟩
    · rw [into_ge (by omega)] at hp'
      obtain ⟨b, o⟩ := p
      have := (hs.dom _ b o hp').1
      omega
  have halive : ∀ i (hi : i < ids.length), (os.at i).alive ↔ (H.at ids[i]).alive := fun i hi => by rw [ho i hi, HO.ren_alive]
  have hM1 : ∀ b, Mb (Away A φ H ids) φ1 os b → Mb A φ H b := fun b hb => by
    rcases hb with hb | ⟨i, o, hi, hb⟩
    · exact hb.1
    · obtain ⟨hi', hb'⟩ := hφ1 i _ hb
      exact .inr ⟨ids[i], o, (halive i hi').1 hi, hb'⟩
  have hown1 : ∀ b, own φ1 os b → own φ H b := fun b ⟨i, o, hi, hb⟩ => by
    obtain ⟨hi', hb'⟩ := hφ1 i _ hb
    exact ⟨ids[i], o, (halive i hi').1 hi, hb'⟩
  have hs1 : SimH P (Away A φ H ids) φ1 os w := by
    refine ⟨fun i b o hb => ?_, fun i sz rows hr hne => ?_, fun i j b o o' hi hj h1 h2 => ?_, fun b hb => mb_lt hs hb.1, fun b hb ⟨i, o, hi, hb'⟩ => ?_, fun i b o hi hb => ?_, hs.tab.less hM1⟩
    · obtain ⟨hi', hb'⟩ := hφ1 i _ hb
      exact ⟨by omega, (hs.dom _ b o hb').2⟩
    · have hal : (os.at i).alive := HO.alive_rows.2 ⟨_, _, hr⟩
      have hi : i < ids.length := by rw [hl]; exact Heap.at_lt hal
      obtain ⟨b, o, hb⟩ := hs.there ids[i] sz (rows.map (·.map (AV.ren (into H ids)))) (by rw [ho i hi, HO.ren_rows, hr]; rfl) (by simpa using hne)
      exact ⟨b, o, by show φ (into H ids i) = _; rw [into_lt hi]; exact hb⟩
    · obtain ⟨hi', hb1⟩ := hφ1 i _ h1
      obtain ⟨hj', hb2⟩ := hφ1 j _ h2
      exact (List.getElem_inj hn).1 (hs.inj _ _ b o o' ((halive i hi').1 hi) ((halive j hj').1 hj) hb1 hb2)
    · obtain ⟨hi', hb2⟩ := hφ1 i _ hb'
      exact hb.2 ⟨ids[i], o, List.getElem_mem hi', (halive i hi').1 hi, hb2⟩
    · obtain ⟨hi', hb'⟩ := hφ1 i _ hb
      intro sz rows hr
      obtain ⟨c, T, e1, e2, e3, e4⟩ := hs.objs _ b o ((halive i hi').1 hi) hb' sz (rows.map (·.map (AV.ren (into H ids)))) (by rw [ho i hi', HO.ren_rows, hr]; rfl)
      refine ⟨c, T, e1, by simpa using e2, fun r hr => ?_, fun k r j x hk hx => ?_⟩
      · have := e3 (r.map (AV.ren (into H ids))) (List.mem_map_of_mem hr)
        simpa using this
      · obtain ⟨v, hv, hrl⟩ := e4 k (r.map (AV.ren (into H ids))) j (x.ren (into H ids)) (by simp [hk]) (by simp [hx])
        exact ⟨v, hv, (Rel.unren (into H ids) (fun _ => rfl) hrl x rfl).less hM1⟩
  have hz' : vals.size = args'.length := by simpa using hz
  refine (hc.2 (Away A φ H ids) φ1 w vals hs1 hz' (fun i x v h1 h2 => ?_)).mono ?_
  · exact (Rel.unren (into H ids) (fun _ => rfl) (hrel i (x.ren (into H ids)) v (by simp [h1]) h2) x rfl).less hM1
  rintro e w' ⟨v, r, H1, φ', rfl, ⟨rfl, rfl⟩, hs', hrr, hext⟩
  -- the caller's view behind it
  let φ2 : Nat → Option (Nat × Nat) := fun j => if j < H.length then φ j else φ' (ids.length + (j - H.length))
  have hφ2 : ∀ i, φ2 (into H ids i) = φ' i := fun i => by
    by_cases hi : i < ids.length
    · show (if into H ids i < H.length then φ (into H ids i) else _) = _
      have := hlt _ (List.getElem_mem hi)
      rw [← into_lt (H := H) hi] at this
      rw [if_pos this, hext.ids i (by omega)]
    · show (if into H ids i < H.length then φ (into H ids i) else φ' (ids.length + (into H ids i - H.length))) = _
      rw [into_ge (by omega), if_neg (by omega)]
      congr 1; omega
  have hlow : ∀ j, j < H.length → φ2 j = φ j := fun j hj => if_pos hj
  -- which object is it?
  have hcase : ∀ j, (Heap.at H2 j).alive → (∃ i, i < H1.length ∧ j = into H ids i) ∨ (j < H.length ∧ j ∉ ids) := fun j hj => by
    have hj' := Heap.at_lt hj
    rw [hf.len] at hj'
    by_cases hjl : j < H.length
    · by_cases hm : j ∈ ids
      · obtain ⟨i, hi, rfl⟩ := List.mem_iff_getElem.1 hm
        exact .inl ⟨i, by omega, (into_lt hi).symm⟩
      · exact .inr ⟨hjl, hm⟩
    · refine .inl ⟨ids.length + (j - H.length), by omega, ?_⟩
      rw [into_ge (by omega)]; omega
  have hal2 : ∀ i, i < H1.length → ((Heap.at H2 (into H ids i)).alive ↔ (H1.at i).alive) := fun i hi => by rw [hf.mine i hi, HO.ren_alive]
  have hother : ∀ j b o, j < H.length → j ∉ ids → (H.at j).alive → φ j = some (b, o) → Away A φ H ids b := fun j b o hj hm hal hb =>
    ⟨.inr ⟨j, o, hal, hb⟩, fun ⟨i, o', hi, hi2, hi3⟩ => hm (by rw [hs.inj j i b o o' hal hi2 hb hi3]; exact hi)⟩
  have hAaway : ∀ b, A b → Away A φ H ids b := fun b hA => ⟨.inl hA, fun ⟨i, o, _, hi2, hi3⟩ => hs.apart b hA ⟨i, o, hi2, hi3⟩⟩
  have hown2 : ∀ b, own φ2 H2 b → own φ' H1 b ∨ ∃ j o, j < H.length ∧ j ∉ ids ∧ (H.at j).alive ∧ φ j = some (b, o) := fun b ⟨j, o, hj, hb⟩ => by
    rcases hcase j hj with ⟨i, hi, rfl⟩ | ⟨hjl, hm⟩
    · exact .inl ⟨i, o, (hal2 i hi).1 hj, by rw [hφ2] at hb; exact hb⟩
    · rw [hf.other j hjl hm] at hj
      rw [hlow j hjl] at hb
      exact .inr ⟨j, o, hjl, hm, hj, hb⟩
  have hM2 : ∀ b, Mb A φ2 H2 b → Mb (Away A φ H ids) φ' H1 b := fun b hb => by
    rcases hb with hA | ho2
    · exact .inl (hAaway b hA)
    · rcases hown2 b ho2 with h | ⟨j, o, h1, h2, h3, h4⟩
      · exact .inr h
      · exact .inl (hother j b o h1 h2 h3 h4)
  have hM2' : ∀ b, Mb A φ2 H2 b → Mb A φ H b ∨ w.heap.size ≤ b := fun b hb => by
    rcases hM2 b hb with h | h
    · exact .inl h.1
    · rcases hext.mono b h with h | h
      · exact .inl (.inr (hown1 b h))
      · exact .inr h
  have hpres : Pres (own φ H) w w' := ⟨hext.pres.size, fun b hb hM => hext.pres.same b hb (fun h => hM (hown1 b h)), hext.pres.keep, hext.pres.os, hext.pres.fz⟩
  have hpresM : Pres (Mb A φ H) w w' := ⟨hpres.size, fun b hb hM => hpres.same b hb (fun h => hM (.inr h)), hpres.keep, hpres.os, hpres.fz⟩
  have hold : ∀ {x : AV} {v : Value}, Rel φ (Mb A φ H) w x v → Rel φ2 (Mb A φ2 H2) w' x v := fun h =>
    h.mono (fun i b hb => by obtain ⟨b1, o1⟩ := b; rw [hlow i (hs.dom i b1 o1 hb).1]; exact hb) hpresM hM2'
  have hnew : ∀ {x : AV} {v : Value}, Rel φ' (Mb (Away A φ H ids) φ' H1) w' x v → Rel φ2 (Mb A φ2 H2) w' (x.ren (into H ids)) v := fun h =>
    (h.rename (into H ids) hφ2).less hM2
  refine ⟨v, _, H2, φ2, rfl, ⟨rfl, rfl⟩, ⟨fun j b o hb => ?_, fun j sz rows hr hne => ?_, fun j k b o o' hj hk h1 h2 => ?_, fun b hb => Nat.lt_of_lt_of_le (hs.amb b hb) hpres.size, fun b hA ho2 => ?_, fun j b o hj hb => ?_, hs'.tab.less hM2⟩, hnew hrr, ⟨hlow, hpres, fun b hb => ?_⟩⟩
  · by_cases hj : j < H.length
    · rw [hlow j hj] at hb
      exact ⟨by rw [hf.len]; omega, Nat.lt_of_lt_of_le (hs.dom j b o hb).2 hpres.size⟩
    · have hb' : φ' (ids.length + (j - H.length)) = some (b, o) := by
        have : φ2 j = φ' (ids.length + (j - H.length)) := if_neg hj
        rw [← this]; exact hb
      obtain ⟨h1, h2⟩ := hs'.dom _ b o hb'
      exact ⟨by rw [hf.len]; omega, h2⟩
  · have hal : (Heap.at H2 j).alive := HO.alive_rows.2 ⟨_, _, hr⟩
    rcases hcase j hal with ⟨i, hi, rfl⟩ | ⟨hjl, hm⟩
    · rw [hf.mine i hi, HO.ren_rows] at hr
      simp only [Option.map_eq_some_iff] at hr
      obtain ⟨⟨sz1, rows1⟩, hr1, he⟩ := hr
      simp only [Prod.mk.injEq] at he
      obtain ⟨rfl, rfl⟩ := he
      obtain ⟨b, o, hb⟩ := hs'.there i sz1 rows1 hr1 (by simpa using hne)
      exact ⟨b, o, by rw [hφ2]; exact hb⟩
    · rw [hf.other j hjl hm] at hr
      obtain ⟨b, o, hb⟩ := hs.there j sz rows hr hne
      exact ⟨b, o, by rw [hlow j hjl]; exact hb⟩
  · rcases hcase j hj with ⟨i, hi, rfl⟩ | ⟨hjl, hm⟩
    · rcases hcase k hk with ⟨i2, hi2, rfl⟩ | ⟨hkl, hm2⟩
      · rw [hφ2] at h1 h2
        rw [hs'.inj i i2 b o o' ((hal2 i hi).1 hj) ((hal2 i2 hi2).1 hk) h1 h2]
      · rw [hφ2] at h1
        rw [hf.other k hkl hm2] at hk
        rw [hlow k hkl] at h2
        exact absurd ⟨i, o, (hal2 i hi).1 hj, h1⟩ (hs'.apart b (hother k b o' hkl hm2 hk h2))
    · rw [hf.other j hjl hm] at hj
      rw [hlow j hjl] at h1
      rcases hcase k hk with ⟨i2, hi2, rfl⟩ | ⟨hkl, hm2⟩
      · rw [hφ2] at h2
        exact absurd ⟨i2, o', (hal2 i2 hi2).1 hk, h2⟩ (hs'.apart b (hother j b o hjl hm hj h1))
      · rw [hf.other k hkl hm2] at hk
        rw [hlow k hkl] at h2
        exact hs.inj j k b o o' hj hk h1 h2
  · rcases hown2 b ho2 with h | ⟨j, o, h1, h2, h3, h4⟩
    · exact hs'.apart b (hAaway b hA) h
    · exact hs.apart b hA ⟨j, o, h3, h4⟩
  · rcases hcase j hj with ⟨i, hi, rfl⟩ | ⟨hjl, hm⟩
    · rw [hφ2] at hb
      intro sz rows hr
      rw [hf.mine i hi, HO.ren_rows] at hr
      simp only [Option.map_eq_some_iff] at hr
      obtain ⟨⟨sz1, rows1⟩, hr1, he⟩ := hr
      simp only [Prod.mk.injEq] at he
      obtain ⟨rfl, rfl⟩ := he
      obtain ⟨c, T, e1, e2, e3, e4⟩ := hs'.objs i b o ((hal2 i hi).1 hj) hb sz1 rows1 hr1
      refine ⟨c, T, e1, by simpa using e2, fun r hr => ?_, fun k r j x hk hx => ?_⟩
      · obtain ⟨r1, h1, rfl⟩ := List.mem_map.1 hr
        simpa using e3 r1 h1
      · simp only [List.getElem?_map, Option.map_eq_some_iff] at hk
        obtain ⟨r1, hk1, rfl⟩ := hk
        simp only [List.getElem?_map, Option.map_eq_some_iff] at hx
        obtain ⟨x1, hx1, rfl⟩ := hx
        obtain ⟨v, hv, hrl⟩ := e4 k r1 j x1 hk1 hx1
        exact ⟨v, hv, hnew hrl⟩
    · rw [hf.other j hjl hm] at hj ⊢
      rw [hlow j hjl] at hb
      intro sz rows hr
      obtain ⟨c, T, e1, e2, e3, e4⟩ := hs.objs j b o hj hb sz rows hr
      have haw := hother j b o hjl hm hj hb
      refine ⟨c, T, ?_, e2, e3, fun k r i x hk hx => ?_⟩
      · rw [hext.pres.same b (hs.dom j b o hb).2 (fun h => hs1.apart b haw h)]; exact e1
      · obtain ⟨v, hv, hrl⟩ := e4 k r i x hk hx
        exact ⟨v, hv, hold hrl⟩
  · rcases hown2 b hb with h | ⟨j, o, h1, h2, h3, h4⟩
    · rcases hext.mono b h with h | h
      · exact .inl (hown1 b h)
      · exact .inr h
    · exact .inl ⟨j, o, h3, h4⟩

/-- The end of a call: its heap, said with other ids, is this one. -/
def RetG (n0 : Nat) (v' : AV) (os' : Heap) : AV → Heap → Prop := fun r H => ∃ ρ, Weak n0 ρ ⟨[(0, r)], H⟩ ⟨[(0, v')], os'⟩ ∧ n0 ≤ os'.length

theorem RetG.mk {n0 : Nat} {v' r : AV} {os' H : Heap} (ρ : List Nat) (h1 : ρ.Nodup) (h2 : ∀ i ∈ ρ, i < H.length) (h3 : ∀ i, i < n0 → ρ[i]? = some i) (hv : AV.can ρ r = some v') (ho : ρ.map (fun i => (Heap.at H i).can ρ) = os') : RetG n0 v' os' r H := by
  have hw := can_weak (S := ⟨[(0, r)], H⟩) (live := [0]) h1 h3 h2
  have e : State.can ρ [0] ⟨[(0, r)], H⟩ = ⟨[(0, v')], os'⟩ := by
    simp only [State.can, List.map_cons, List.map_nil, Env.get, if_true, hv, Option.getD_some, ho]
  rw [e] at hw
  refine ⟨ρ, hw, ?_⟩
  rw [← ho, List.length_map]
  cases n0 with
  | zero => omega
  | succ n =>
    rcases Nat.lt_or_ge n ρ.length with h | h
    · omega
    · have := h3 n (by omega)
      rw [List.getElem?_eq_none (by omega)] at this
      cases this



theorem ACalls.exact {P : Program} {f : FuncId} {args : List AV} {H0 os' : Heap} {v' : AV} (h : ACalls P f args H0 (RetG H0.length v' os')) : ACalls P f args H0 (fun r H => r = v' ∧ H = os') := by
  refine ⟨h.1, fun A φ w vals hs hz hr => (h.2 A φ w vals hs hz hr).mono ?_⟩
  rintro e w' ⟨v, r, H', φ', rfl, ⟨ρ, hw, hl⟩, hs', hrr, hext⟩
  have hsim : Sim P A 1 φ' ⟨[(0, r)], H'⟩ { tmps := #[v], defers := [] } w' := by
    refine ⟨hs', rfl, rfl, fun t => ?_⟩
    cases t with
    | zero => exact hrr
    | succ t => exact .undef _
  obtain ⟨hs2, he⟩ := hw.sim hsim
  exact ⟨v, v', os', _, rfl, ⟨rfl, rfl⟩, hs2.heap, hs2.slots 0, hext.trans he⟩

/-- What is known of a function that changes one object that it is handed. -/
structure Ef where
  A : Type
  args : A → Nat → List AV
  sz : Nat
  rows : A → List (List DV)
  ok : A → Prop
  val : A → AV
  rows' : A → List (List DV)

def Ef.fits (e : Ef) (p : e.A × Nat) (args : List AV) (H : Heap) : Prop := e.args p.1 p.2 = args ∧ H.at p.2 = .dvec e.sz (e.rows p.1)
def Ef.eff (e : Ef) (p : e.A × Nat) : Eff := ⟨e.ok p.1, e.val p.1, [(p.2, .dvec e.sz (e.rows' p.1))], [], none⟩
open Classical in
noncomputable def Ef.at (e : Ef) (args : List AV) (H : Heap) : Option Eff := if h : ∃ p, e.fits p args H then some (e.eff h.choose) else none

theorem Ef.at_fits {e : Ef} (hi : ∀ p q args H, e.fits p args H → e.fits q args H → p = q) {p : e.A × Nat} {args : List AV} {H : Heap} (h : e.fits p args H) : e.at args H = some (e.eff p) := by
  have h' : ∃ p, e.fits p args H := ⟨p, h⟩
  unfold Ef.at
  rw [dif_pos h', hi _ _ _ _ h'.choose_spec h]

structure Ef.Body (e : Ef) (T : Tab) (live : List Nat) (lc : LCode) (rs : List LRes) : Prop where
  ren : ∀ x (ρ : Nat → Nat), e.args x (ρ 0) = (e.args x 0).map (AV.ren ρ)
  val : ∀ x (ρ : Nat → Nat), (e.val x).ren ρ = e.val x
  body : ∀ x, e.ok x → vck T 1 live lc ⟨Z0t 0 (e.args x 0), [.dvec e.sz (e.rows x)]⟩ (retK rs (RetG 1 (e.val x) [.dvec e.sz (e.rows' x)]))

theorem Ef.Body.ok {P : Program} {T : Tab} (hT : TabOK P T) {e : Ef} {f : FuncId} {fn : Func} {c : Code} {lc : LCode} {rs : List LRes} {live : List Nat} (h : e.Body T live lc rs) (hf : P.funcs[f]? = some fn)
    (hname : (fn.name == "runtime.NumGoroutine") = false) (hb : fn.body = some c) (hl : lowCode P fn.ntmps c = some lc) (hr : lowRess P fn.results.toList = some rs) (ha : ∀ x, (e.args x 0).length ≤ fn.ntmps) :
    ∀ args H x, e.at args H = some x → x.ok → ACalls P f args H fun r H' => r = x.val ∧ H' = applyUps H x.ups ++ x.news := by
  intro args H x hx hok
  unfold Ef.at at hx
  split at hx
  case isFalse => cases hx
  rename_i hp
  have hfit := hp.choose_spec
  generalize hp.choose = q at hx hfit
  simp only [Option.some.injEq] at hx
  subst hx
  obtain ⟨x, id⟩ := q
  obtain ⟨h1, h2⟩ := hfit
  simp only at h1 h2
  subst h1
  have hlt : id < H.length := Heap.at_lt (H := H) (i := id) (by rw [h2]; trivial)
  have hcall : ACalls P f (e.args x 0) [.dvec e.sz (e.rows x)] (fun r H1 => r = e.val x ∧ H1 = [.dvec e.sz (e.rows' x)]) :=
    ACalls.exact (ACalls.of_vck hT live hf hname hb hl hr (ha x) (h.body x hok))
  have hfr : Framed H [id] [.dvec e.sz (e.rows' x)] (H.set id (.dvec e.sz (e.rows' x)) ++ []) := by
    refine ⟨by simp, fun j hj hm => ?_, fun i hi => ?_⟩
    · rw [List.append_nil, Heap.at_set hlt, if_neg (fun h => hm (by simp [h]))]
    · have : i = 0 := by simpa using hi
      subst this
      rw [List.append_nil, into_lt (by simp), Heap.at_set hlt]
      simp [Heap.at, HO.ren]
  have := ACalls.frame (ids := [id]) (by simp) (by simp) (by simpa using hlt) (by simp) (fun k hk => by
    have : k = 0 := by simpa using hk
    subst this
    simp only [List.getElem_cons_zero, h2]
    simp [Heap.at, HO.ren]) hfr hcall
  have e1 : (e.args x 0).map (AV.ren (into H [id])) = e.args x id := by
    rw [← h.ren x (into H [id])]
    rw [into_lt (by simp)]; rfl
  rw [e1, h.val] at this
  exact this

theorem Ef.at_take {e : Ef} {args : List AV} {H : Heap} {x : Eff} (h : e.at args H = some x) : x.take = none := by
  unfold Ef.at at h
  split at h
  · simp only [Option.some.injEq] at h; subst h; rfl
  · cases h
theorem Ef.Body.tab {P : Program} {T T0 : Tab} {e : Ef} {live : List Nat} {lc : LCode} {rs : List LRes} (h : e.Body T live lc rs) (hT : TabOK P T) (hT0 : TabOK P T0) {f : FuncId} {fn : Func} {c : Code} (hf : P.funcs[f]? = some fn)
    (hname : (fn.name == "runtime.NumGoroutine") = false) (hb : fn.body = some c) (hl : lowCode P fn.ntmps c = some lc) (hr : lowRess P fn.results.toList = some rs) (ha : ∀ x, (e.args x 0).length ≤ fn.ntmps) : TabOK P (T0.addG f e.at) :=
  hT0.addG (Ef.Body.ok hT h hf hname hb hl hr ha) fun args H x t h1 h2 => by rw [Ef.at_take h1] at h2; cases h2

end Go.Ago

/- A call that is handed rows of ours and gives longer ones (slices.Insert): the rows with their capacity, and what is said of it to the caller. Conditions: none. -/
set_option linter.unusedSimpArgs false
set_option linter.unusedVariables false
namespace Go.Ago

/-- The end of a call: its result and heap, said with less. -/
def RetW (n0 : Nat) (v' : AV) (os' : Heap) : AV → Heap → Prop := fun r H => Says n0 ⟨[(0, r)], H⟩ ⟨[(0, v')], os'⟩ ∧ n0 ≤ os'.length

theorem ACalls.exactW {P : Program} {f : FuncId} {args : List AV} {H0 os' : Heap} {v' : AV} (h : ACalls P f args H0 (RetW H0.length v' os')) : ACalls P f args H0 (fun r H => r = v' ∧ H = os') := by
  refine ⟨h.1, fun A φ w vals hs hz hr => (h.2 A φ w vals hs hz hr).mono ?_⟩
  rintro e w' ⟨v, r, H', φ', rfl, ⟨hw, hl⟩, hs', hrr, hext⟩
  have hsim : Sim P A 1 φ' ⟨[(0, r)], H'⟩ { tmps := #[v], defers := [] } w' := by
    refine ⟨hs', rfl, rfl, fun t => ?_⟩
    cases t with
    | zero => exact hrr
    | succ t => exact .undef _
  obtain ⟨φ2, hs2, he⟩ := hw P A 1 φ' _ w' hsim
  exact ⟨v, v', os', φ2, rfl, ⟨rfl, rfl⟩, hs2.heap, hs2.slots 0, hext.trans he⟩

/-- Rows 'k' of ours are all that is said any more, beside the rows '1', that are as they were. -/
theorem Says.pick {k sz m row sz2 : Nat} {room : Bool} {H : Heap} {R : List (List AV)} {ds r2 : List (List DV)} (hk : (H.at k).rows = some (sz, R)) (h1 : H.at 1 = .dvec sz2 r2) (hne : k ≠ 1)
    (hR : R.take m = ds.map (·.map .d)) (hm : ds.length = m) (hle : m ≤ R.length) :
    Says 2 ⟨[(0, .ref k sz 0 m room)], H⟩ ⟨[(0, .ref 2 sz 0 m true)], [.dead, .dvec sz2 r2, .dvec sz ds]⟩ := by
  intro P A n φ a w hs
  let φ' : Nat → Option (Nat × Nat) := fun i => if i = 2 then φ k else if i < 2 then φ i else none
  have halk : (H.at k).alive := HO.alive_rows.2 ⟨_, _, hk⟩
  have hal1 : (H.at 1).alive := by rw [h1]; trivial
  have at0 : Heap.at [.dead, .dvec sz2 r2, .dvec sz ds] 0 = .dead := rfl
  have at1 : Heap.at [.dead, .dvec sz2 r2, .dvec sz ds] 1 = .dvec sz2 r2 := rfl
  have at2 : Heap.at [.dead, .dvec sz2 r2, .dvec sz ds] 2 = .dvec sz ds := rfl
  have which : ∀ i, (Heap.at [.dead, .dvec sz2 r2, .dvec sz ds] i).alive → i = 1 ∨ i = 2 := fun i hi => by
    match i, hi with
    | 0, hi => exact hi.elim
    | 1, _ => exact .inl rfl
    | 2, _ => exact .inr rfl
    | i + 3, hi => exact hi.elim
  have f1 : φ' 1 = φ 1 := rfl
  have f2 : φ' 2 = φ k := rfl
  have hown : ∀ b, own φ' [.dead, .dvec sz2 r2, .dvec sz ds] b → own φ H b := fun b ⟨i, o, hi, hb⟩ => by
    rcases which i hi with rfl | rfl
    · exact ⟨1, o, hal1, hb⟩
    · exact ⟨k, o, halk, hb⟩
  have hM : ∀ b, Mb A φ' [.dead, .dvec sz2 r2, .dvec sz ds] b → Mb A φ H b := fun b hb => hb.imp _root_.id (hown b)
  have hdat : ∀ {x : AV} {v : Value} {y : DV}, Rel φ (Mb A φ H) w x v → x = .d y → Rel φ' (Mb A φ' [.dead, .dvec sz2 r2, .dvec sz ds]) w (.d y) v := fun h e => by
    subst e
    cases h with
    | d _ _ h => exact .d _ _ (h.less hM)
  refine ⟨φ', ⟨⟨fun i b o hb => ?_, fun i s rows hi hr => ?_, fun i j b o o' hi hj hb hb' => ?_, hs.heap.amb, fun b hA ho => hs.heap.apart b hA (hown b ho), fun i b o hi hb => ?_, hs.heap.tab.less hM⟩, hs.size, hs.defs, fun t => ?_⟩,
    ⟨fun i hi => by show (if i = 2 then _ else _) = _; rw [if_neg (by omega), if_pos hi], Pres.refl _ _, fun b hb => .inl (hown b hb)⟩⟩
  · show i < 3 ∧ _
    have hb : (if i = 2 then φ k else if i < 2 then φ i else none) = some (b, o) := hb
    split at hb
    · exact ⟨by omega, (hs.heap.dom _ _ _ hb).2⟩
    · split at hb
      · exact ⟨by omega, (hs.heap.dom _ _ _ hb).2⟩
      · cases hb
  · rcases which i (HO.alive_rows.2 ⟨_, _, hi⟩) with rfl | rfl
    · rw [at1] at hi
      exact hs.heap.there 1 s rows (by rw [h1]; exact hi) hr
    · rw [at2] at hi
      simp only [HO.rows, Option.some.injEq, Prod.mk.injEq] at hi
      obtain ⟨rfl, rfl⟩ := hi
      exact hs.heap.there k sz R hk (fun e => by
        subst e
        simp at hle
        simp at hr
        exact hr (List.length_eq_zero_iff.1 (by omega)))
  · rcases which i hi with rfl | rfl <;> rcases which j hj with rfl | rfl
    · rfl
    · exact absurd (hs.heap.inj 1 k b o o' hal1 halk hb hb').symm hne
    · exact absurd (hs.heap.inj k 1 b o o' halk hal1 hb hb') hne
    · rfl
  · rcases which i hi with rfl | rfl
    · intro s rows hro
      obtain ⟨c, T, e1, e2, e3, e4⟩ := hs.heap.objs 1 b o hal1 hb s rows (by rw [h1]; exact hro)
      refine ⟨c, T, e1, e2, e3, fun i r j x hr hx => ?_⟩
      obtain ⟨v, hv, hrel⟩ := e4 i r j x hr hx
      rw [at1] at hro
      simp only [HO.rows, Option.some.injEq, Prod.mk.injEq] at hro
      obtain ⟨rfl, rfl⟩ := hro
      rw [List.getElem?_map, Option.map_eq_some_iff] at hr
      obtain ⟨r', hr', rfl⟩ := hr
      rw [List.getElem?_map, Option.map_eq_some_iff] at hx
      obtain ⟨x', hx', rfl⟩ := hx
      exact ⟨v, hv, hdat hrel rfl⟩
    · intro s rows hro
      obtain ⟨c, T, e1, e2, e3, e4⟩ := hs.heap.objs k b o halk hb sz R hk
      rw [at2] at hro
      simp only [HO.rows, Option.some.injEq, Prod.mk.injEq] at hro
      obtain ⟨rfl, rfl⟩ := hro
      have hmem : ∀ i r, (ds.map (·.map AV.d))[i]? = some r → R[i]? = some r := fun i r hr => by
        rw [← hR, List.getElem?_take] at hr
        split at hr
        · exact hr
        · cases hr
      refine ⟨c, T, e1, ?_, fun r hr => ?_, fun i r j x hr hx => ?_⟩
      · have : ds.length * sz ≤ R.length * sz := Nat.mul_le_mul_right _ (by omega)
        simp only [List.length_map]; omega
      · obtain ⟨i, hi, rfl⟩ := List.mem_iff_getElem.1 hr
        exact e3 _ (List.mem_of_getElem? (hmem i _ (List.getElem?_eq_getElem hi)))
      · obtain ⟨v, hv, hrel⟩ := e4 i r j x (hmem i r hr) hx
        rw [List.getElem?_map, Option.map_eq_some_iff] at hr
        obtain ⟨r', hr', rfl⟩ := hr
        rw [List.getElem?_map, Option.map_eq_some_iff] at hx
        obtain ⟨x', hx', rfl⟩ := hx
        exact ⟨v, hv, hdat hrel rfl⟩
  · have := hs.slots t
    cases t with
    | succ t => exact .undef _
    | zero =>
      have h0 : Rel φ (Mb A φ H) w (.ref k sz 0 m room) (a.tmps.getD 0 undef) := this
      show Rel φ' _ w (.ref 2 sz 0 m true) _
      generalize a.tmps.getD 0 undef = v at h0
      cases h0 with
      | ref0 _ _ _ _ a => exact .ref0 _ _ _ _ _
      | ref _ _ _ _ b o cap _ c T hb hcap hroom hheap hfit => exact .ref 2 sz 0 m b o cap true c T hb hcap (fun h => by cases h) hheap hfit

/-- Rows of ours, with what lies behind them as far as they may grow. -/
def capRows (sz c : Nat) (rows : List (List DV)) : List (List AV) := rows.map (·.map .d) ++ List.replicate (c - rows.length) (List.replicate sz .undef)

theorem ACalls.ofCap {P : Program} {f : FuncId} {sz : Nat} {rows : List (List DV)} {as : List AV} {os : Heap} {Post : AV → Heap → Prop} (hne : rows ≠ [])
    (h : ∀ c, rows.length ≤ c → ACalls P f (.rcap 0 sz 0 rows.length c :: as) (.vec sz (capRows sz c rows) :: os) Post) :
    ACalls P f (.ref 0 sz 0 rows.length true :: as) (.dvec sz rows :: os) Post := by
  refine ⟨(h rows.length (Nat.le_refl _)).1, fun A φ w vals hs hz hrel => ?_⟩
  have h0 : 0 < vals.size := by rw [hz]; simp
  have hr0 := hrel 0 _ _ rfl (Array.getElem?_eq_getElem h0)
  have key : ∃ b o cap c T, φ 0 = some (b, o) ∧ rows.length ≤ cap ∧ w.heap[b]? = some (.cells c T (0, 0)) ∧ o + (0 + cap) * sz ≤ c.size ∧ vals[0] = .slice (some ⟨b, o + 0 * sz, none⟩) rows.length cap := by
    generalize vals[0] = v at hr0
    generalize hn : rows.length = n at hr0
    cases hr0 with
    | ref0 _ _ _ _ a => exact absurd (List.length_eq_zero_iff.1 hn) hne
    | ref _ _ _ _ b o cap _ c T hb hcap hroom hheap hfit => exact ⟨b, o, cap, c, T, hb, hcap, hheap, hfit, rfl⟩
  obtain ⟨b, o, cap, c, T, hb, hcap, hheap, hfit, hv⟩ := key
  have hat : ∀ i, (Heap.at (.vec sz (capRows sz cap rows) :: os) i).alive ↔ (Heap.at (.dvec sz rows :: os) i).alive := fun i => by cases i <;> exact Iff.rfl
  have hown : ∀ b, own φ (.vec sz (capRows sz cap rows) :: os) b ↔ own φ (.dvec sz rows :: os) b := fun b =>
    ⟨fun ⟨i, o, hi, hb⟩ => ⟨i, o, (hat i).1 hi, hb⟩, fun ⟨i, o, hi, hb⟩ => ⟨i, o, (hat i).2 hi, hb⟩⟩
  have hMe : Mb A φ (.vec sz (capRows sz cap rows) :: os) = Mb A φ (.dvec sz rows :: os) := funext fun b => propext ⟨fun h => h.imp _root_.id (hown b).1, fun h => h.imp _root_.id (hown b).2⟩
  have hs' : SimH P A φ (.vec sz (capRows sz cap rows) :: os) w := by
    refine ⟨hs.dom, fun i s r hi hr => ?_, fun i j b o o' hi hj => hs.inj i j b o o' ((hat i).1 hi) ((hat j).1 hj), hs.amb, fun b hA ho => hs.apart b hA ((hown b).1 ho), fun i b' o' hi hb' => ?_, ?_⟩
    · cases i with
      | zero => exact ⟨b, o, hb⟩
      | succ i => exact hs.there (i + 1) s r hi hr
    · show RelO φ (Mb A φ (.vec sz (capRows sz cap rows) :: os)) w b' o' _
      rw [hMe]
      cases i with
      | succ i => exact hs.objs (i + 1) b' o' hi hb'
      | zero =>
        rw [hb] at hb'; cases hb'
        intro s r hr
        have hr : some (sz, capRows sz cap rows) = some (s, r) := hr
        simp only [Option.some.injEq, Prod.mk.injEq] at hr
        obtain ⟨rfl, rfl⟩ := hr
        obtain ⟨c1, T1, e1, e2, e3, e4⟩ := hs.objs 0 b o trivial hb sz _ rfl
        rw [hheap] at e1; cases e1
        have hl : (capRows sz cap rows).length = cap := by simp [capRows]; omega
        refine ⟨c, T, hheap, by rw [hl]; simpa using hfit, fun r hr => ?_, fun i r j x hr hx => ?_⟩
        · rcases List.mem_append.1 hr with hr | hr
          · exact e3 r hr
          · rw [(List.mem_replicate.1 hr).2, List.length_replicate]
        · by_cases hi : i < rows.length
          · refine e4 i r j x ?_ hx
            rw [capRows, List.getElem?_append_left (by simpa using hi)] at hr
            exact hr
          · rw [capRows, List.getElem?_append_right (by simp; omega), List.getElem?_replicate] at hr
            split at hr
            · rename_i hlt
              cases hr
              rw [List.getElem?_replicate] at hx
              split at hx
              · rename_i hj
                cases hx
                simp only [List.length_map] at hlt
                have : i * sz + j < cap * sz := by
                  have := Nat.mul_le_mul_right sz (show i + 1 ≤ cap by omega)
                  rw [Nat.add_mul, Nat.one_mul] at this; omega
                have hlt2 : o + i * sz + j < c.size := by simp at hfit; omega
                exact ⟨c[o + i * sz + j], Array.getElem?_eq_getElem hlt2, .undef _⟩
              · cases hx
            · cases hr
    · show TabIn P (Mb A φ (.vec sz (capRows sz cap rows) :: os)) w
      rw [hMe]; exact hs.tab
  refine ((h cap hcap).2 A φ w vals hs' (by simpa using hz) (fun i x v h1 h2 => ?_)).mono ?_
  · rw [hMe]
    cases i with
    | zero =>
      rw [Array.getElem?_eq_getElem h0] at h2
      simp only [List.getElem?_cons_zero, Option.some.injEq] at h1 h2
      subst h1; subst h2
      rw [hv]
      exact .rcap 0 sz 0 rows.length b o cap c T hb hcap hheap hfit
    | succ i => exact hrel (i + 1) x v h1 h2
  rintro e w' ⟨v, r, H', φ', h1, h2, h3, h4, h5⟩
  refine ⟨v, r, H', φ', h1, h2, h3, h4, ⟨h5.ids, ?_, fun b hb => (h5.mono b hb).imp (hown b).1 _root_.id⟩⟩
  have hoe : own φ (.vec sz (capRows sz cap rows) :: os) = own φ (.dvec sz rows :: os) := funext fun b => propext (hown b)
  rw [← hoe]; exact h5.pres

theorem Heap.at_left {H G : Heap} {j : Nat} (h : j < H.length) : Heap.at (H ++ G) j = H.at j := by
  unfold Heap.at
  rw [List.getD_eq_getElem?_getD, List.getElem?_append_left h, List.getD_eq_getElem?_getD]
theorem Heap.at_end {H G : Heap} {o : HO} {n : Nat} (h : H.length = n) : Heap.at (H ++ o :: G) n = o := by
  unfold Heap.at
  rw [List.getD_eq_getElem?_getD, List.getElem?_append_right (by omega), h]; simp

/-- What is known of slices.Insert with one element more: the rows and the element are handed over, and new rows come back. -/
structure EfI where
  A : Type
  args : A → Nat → Nat → List AV
  sz : Nat
  rows : A → List (List DV)
  rows2 : A → List (List DV)
  ok : A → Prop
  rows' : A → List (List DV)

def EfI.fits (e : EfI) (p : e.A × Nat × Nat) (args : List AV) (H : Heap) : Prop := e.args p.1 p.2.1 p.2.2 = args ∧ H.at p.2.1 = .dvec e.sz (e.rows p.1) ∧ H.at p.2.2 = .dvec e.sz (e.rows2 p.1) ∧ p.2.1 ≠ p.2.2
def EfI.eff (e : EfI) (p : e.A × Nat × Nat) (H : Heap) : Eff := ⟨e.ok p.1, .ref H.length e.sz 0 (e.rows' p.1).length true, [(p.2.1, .dead)], [.dvec e.sz (e.rows' p.1)], some ⟨p.2.1, p.2.2, e.sz, e.rows' p.1⟩⟩
open Classical in
noncomputable def EfI.at (e : EfI) (args : List AV) (H : Heap) : Option Eff := if h : ∃ p, e.fits p args H then some (e.eff h.choose H) else none

theorem EfI.at_fits {e : EfI} (hi : ∀ p q args H, e.fits p args H → e.fits q args H → p = q) {p : e.A × Nat × Nat} {args : List AV} {H : Heap} (h : e.fits p args H) : e.at args H = some (e.eff p H) := by
  have h' : ∃ p, e.fits p args H := ⟨p, h⟩
  unfold EfI.at
  rw [dif_pos h', hi _ _ _ _ h'.choose_spec h]

theorem EfI.ok' {P : Program} {e : EfI} {f : FuncId} (hren : ∀ x (ρ : Nat → Nat), e.args x (ρ 0) (ρ 1) = (e.args x 0 1).map (AV.ren ρ))
    (h : ∀ x, e.ok x → ACalls P f (e.args x 0 1) [.dvec e.sz (e.rows x), .dvec e.sz (e.rows2 x)] (RetW 2 (.ref 2 e.sz 0 (e.rows' x).length true) [.dead, .dvec e.sz (e.rows2 x), .dvec e.sz (e.rows' x)])) :
    ∀ args H x, e.at args H = some x → x.ok → ACalls P f args H fun r H' => r = x.val ∧ H' = applyUps H x.ups ++ x.news := by
  intro args H x hx hok
  unfold EfI.at at hx
  split at hx
  case isFalse => cases hx
  rename_i hp
  have hfit := hp.choose_spec
  generalize hp.choose = q at hx hfit
  simp only [Option.some.injEq] at hx
  subst hx
  obtain ⟨x, id, k⟩ := q
  obtain ⟨h1, h2, h3, h4⟩ := hfit
  simp only at h1 h2 h3 h4
  subst h1
  have hlt : id < H.length := Heap.at_lt (H := H) (i := id) (by rw [h2]; trivial)
  have hlt2 : k < H.length := Heap.at_lt (H := H) (i := k) (by rw [h3]; trivial)
  have hcall := ACalls.exactW (h x hok)
  have i0 : into H [id, k] 0 = id := into_lt (by simp)
  have i1 : into H [id, k] 1 = k := into_lt (by simp)
  have i2 : into H [id, k] 2 = H.length := into_ge (by simp)
  have hfr : Framed H [id, k] [.dead, .dvec e.sz (e.rows2 x), .dvec e.sz (e.rows' x)] (H.set id .dead ++ [.dvec e.sz (e.rows' x)]) := by
    refine ⟨by simp, fun j hj hm => ?_, fun i hi => ?_⟩
    · simp only [List.mem_cons, List.not_mem_nil, or_false, not_or] at hm
      rw [Heap.at_left (by simpa using hj), Heap.at_set hlt, if_neg (fun h => hm.1 h.symm)]
    · simp only [List.length_cons, List.length_nil] at hi
      match i, hi with
      | 0, _ =>
        rw [i0]
        rw [Heap.at_left (by simpa using hlt), Heap.at_set hlt, if_pos rfl]; rfl
      | 1, _ =>
        rw [i1]
        rw [Heap.at_left (by simpa using hlt2), Heap.at_set hlt, if_neg h4]
        exact h3
      | 2, _ =>
        rw [i2]
        rw [Heap.at_end (by simp)]; rfl
  have := ACalls.frame (ids := [id, k]) (by simpa using h4) (by simp) (by simp; exact ⟨hlt, hlt2⟩) (by simp) (fun j hj => by
    simp only [List.length_cons, List.length_nil] at hj
    match j, hj with
    | 0, _ => simp only [List.getElem_cons_zero, h2]; rfl
    | 1, _ => simp only [List.getElem_cons_succ, List.getElem_cons_zero, h3]; rfl) hfr hcall
  have e1 : (e.args x 0 1).map (AV.ren (into H [id, k])) = e.args x id k := by rw [← hren x (into H [id, k]), i0, i1]
  rw [e1] at this
  refine this.mono fun r H' ⟨hr, hH⟩ => ⟨?_, hH⟩
  rw [hr]
  simp only [AV.ren, i2, EfI.eff]

/-- What is asked of a body: from the rows as they are, or from the rows with their capacity. -/
structure EfI.Body (e : EfI) (T : Tab) (live : List Nat) (lc : LCode) (rs : List LRes) : Prop where
  ren : ∀ x (ρ : Nat → Nat), e.args x (ρ 0) (ρ 1) = (e.args x 0 1).map (AV.ren ρ)
  body : ∀ x, e.ok x →
    vck T 2 live lc ⟨Z0t 0 (e.args x 0 1), [.dvec e.sz (e.rows x), .dvec e.sz (e.rows2 x)]⟩ (retK rs (RetW 2 (.ref 2 e.sz 0 (e.rows' x).length true) [.dead, .dvec e.sz (e.rows2 x), .dvec e.sz (e.rows' x)])) ∨
    (e.rows x ≠ [] ∧ ∃ as, e.args x 0 1 = .ref 0 e.sz 0 (e.rows x).length true :: as ∧ ∀ c, (e.rows x).length ≤ c →
      vck T 2 live lc ⟨Z0t 0 (.rcap 0 e.sz 0 (e.rows x).length c :: as), [.vec e.sz (capRows e.sz c (e.rows x)), .dvec e.sz (e.rows2 x)]⟩ (retK rs (RetW 2 (.ref 2 e.sz 0 (e.rows' x).length true) [.dead, .dvec e.sz (e.rows2 x), .dvec e.sz (e.rows' x)])))

theorem EfI.Body.calls {P : Program} {T : Tab} (hT : TabOK P T) {e : EfI} {f : FuncId} {fn : Func} {c : Code} {lc : LCode} {rs : List LRes} {live : List Nat} (h : e.Body T live lc rs) (hf : P.funcs[f]? = some fn)
    (hname : (fn.name == "runtime.NumGoroutine") = false) (hb : fn.body = some c) (hl : lowCode P fn.ntmps c = some lc) (hr : lowRess P fn.results.toList = some rs) (ha : ∀ x, (e.args x 0 1).length ≤ fn.ntmps) :
    ∀ x, e.ok x → ACalls P f (e.args x 0 1) [.dvec e.sz (e.rows x), .dvec e.sz (e.rows2 x)] (RetW 2 (.ref 2 e.sz 0 (e.rows' x).length true) [.dead, .dvec e.sz (e.rows2 x), .dvec e.sz (e.rows' x)]) := fun x hok => by
    rcases h.body x hok with hv | ⟨hne, as, e1, hv⟩
    · exact ACalls.of_vck hT live hf hname hb hl hr (ha x) hv
    · rw [e1]
      refine ACalls.ofCap hne fun c hc => ACalls.of_vck hT live hf hname hb hl hr ?_ (hv c hc)
      have := ha x
      rw [e1] at this
      simpa using this
theorem EfI.Body.tab {P : Program} {T T0 : Tab} {e : EfI} {live : List Nat} {lc : LCode} {rs : List LRes} (h : e.Body T live lc rs) (hT : TabOK P T) (hT0 : TabOK P T0) {f : FuncId} {fn : Func} {c : Code} (hf : P.funcs[f]? = some fn)
    (hname : (fn.name == "runtime.NumGoroutine") = false) (hb : fn.body = some c) (hl : lowCode P fn.ntmps c = some lc) (hr : lowRess P fn.results.toList = some rs) (ha : ∀ x, (e.args x 0 1).length ≤ fn.ntmps) : TabOK P (T0.addG f e.at) := by
  have hc := EfI.Body.calls hT h hf hname hb hl hr ha
  refine hT0.addG (EfI.ok' h.ren hc) fun args H x t h1 h2 hok => ?_
  unfold EfI.at at h1
  split at h1
  case isFalse => cases h1
  rename_i hp
  have hfit := hp.choose_spec
  generalize hp.choose = q at h1 hfit
  simp only [Option.some.injEq] at h1
  subst h1
  obtain ⟨x, id, k⟩ := q
  obtain ⟨g1, g2, g3, g4⟩ := hfit
  simp only at g1 g2 g3 g4
  subst g1
  simp only [EfI.eff, Option.some.injEq] at h2
  subst h2
  exact ⟨e.args x 0 1, e.rows x, e.rows2 x, g4, fun n => h.ren x (two n id k), g2, g3, ACalls.exactW (hc x hok)⟩

/-! ### A call that gives objects of its own -/
structure EfN where
  A : Type
  args : A → List AV
  ok : A → Prop
  val : A → AV
  news : A → List HO

def EfN.eff (e : EfN) (x : e.A) (H : Heap) : Eff := ⟨e.ok x, (e.val x).ren (H.length + ·), [], (e.news x).map (HO.ren (H.length + ·)), none⟩
open Classical in
noncomputable def EfN.at (e : EfN) (args : List AV) (H : Heap) : Option Eff := if h : ∃ x, e.args x = args then some (e.eff h.choose H) else none
theorem EfN.at_enc {e : EfN} (hi : ∀ x y, e.args x = e.args y → x = y) (x : e.A) (H : Heap) : e.at (e.args x) H = some (e.eff x H) := by
  have h : ∃ y, e.args y = e.args x := ⟨x, rfl⟩
  unfold EfN.at
  rw [dif_pos h, hi _ _ h.choose_spec]
structure EfN.Body (e : EfN) (T : Tab) (live : List Nat) (lc : LCode) (rs : List LRes) : Prop where
  ren : ∀ x (ρ : Nat → Nat), (e.args x).map (AV.ren ρ) = e.args x
  body : ∀ x, e.ok x → vck T 0 live lc ⟨Z0t 0 (e.args x), []⟩ (retK rs (RetG 0 (e.val x) (e.news x)))
theorem EfN.Body.tab {P : Program} {T T0 : Tab} {e : EfN} {live : List Nat} {lc : LCode} {rs : List LRes} (h : e.Body T live lc rs) (hT : TabOK P T) (hT0 : TabOK P T0) {f : FuncId} {fn : Func} {c : Code} (hf : P.funcs[f]? = some fn)
    (hname : (fn.name == "runtime.NumGoroutine") = false) (hb : fn.body = some c) (hl : lowCode P fn.ntmps c = some lc) (hr : lowRess P fn.results.toList = some rs) (ha : ∀ x, (e.args x).length ≤ fn.ntmps) : TabOK P (T0.addG f e.at) := by
  have hat : ∀ args H x, e.at args H = some x → ∃ y, e.args y = args ∧ x = e.eff y H := fun args H x hx => by
    unfold EfN.at at hx
    split at hx
    · rename_i hp
      exact ⟨hp.choose, hp.choose_spec, by simpa using hx.symm⟩
    · cases hx
  refine hT0.addG (fun args H x hx hok => ?_) fun args H x t hx ht hok => ?_
  · obtain ⟨y, rfl, rfl⟩ := hat _ _ _ hx
    have hcall := ACalls.exact (H0 := []) (ACalls.of_vck hT live hf hname hb hl hr (ha y) (h.body y hok))
    have hge : into H [] = (H.length + ·) := funext fun i => by rw [into_ge (Nat.zero_le _)]; rfl
    have hfr : Framed H [] (e.news y) (H ++ (e.news y).map (HO.ren (H.length + ·))) := by
      refine ⟨by simp, fun j hj _ => Heap.at_left hj, fun i hi => ?_⟩
      rw [hge]
      show Heap.at _ (H.length + i) = _
      unfold Heap.at
      rw [List.getD_eq_getElem?_getD, List.getElem?_append_right (by omega), show H.length + i - H.length = i by omega, List.getElem?_map, List.getElem?_eq_getElem hi, List.getD_eq_getElem?_getD, List.getElem?_eq_getElem hi]; rfl
    have := ACalls.frame (ids := []) (by simp) rfl (by simp) (by simp) (fun k hk => by simp at hk) hfr hcall
    rw [h.ren, hge] at this
    exact this
  · obtain ⟨y, rfl, rfl⟩ := hat _ _ _ hx
    cases ht

end Go.Ago

/- An object of ours that nobody changes any more is said as data from here on. Conditions: none. -/
set_option linter.unusedSimpArgs false
set_option linter.unusedVariables false
namespace Go.Ago

mutual
/-- A value, when the rows of object 'id' are data. -/
def AV.ice (id sz0 : Nat) (rows : List (List DV)) : AV → AV
  | .undef => .undef
  | .d x => .d x
  | .agg cs => .agg (AV.iceL id sz0 rows cs)
  | .tup cs => .tup (AV.iceL id sz0 rows cs)
  | .ptr i sz row j => if i = id then (if sz = sz0 then (match rows[row]? with | some r => .dptr r j | none => .undef) else .undef) else .ptr i sz row j
  | .dptr cs j => .dptr cs j
  | .ref i sz row len room => if i = id then (if sz = sz0 ∧ row + len ≤ rows.length then .d (.list ((rows.drop row).take len) (!room)) else .undef) else .ref i sz row len room
  | .clo f caps => .clo f (AV.iceL id sz0 rows caps)
  | .rcap i sz row len cap => if i = id then .undef else .rcap i sz row len cap
def AV.iceL (id sz0 : Nat) (rows : List (List DV)) : List AV → List AV
  | [] => []
  | x :: xs => AV.ice id sz0 rows x :: AV.iceL id sz0 rows xs
end

theorem AV.iceL_map (id sz0 : Nat) (rows : List (List DV)) (xs : List AV) : AV.iceL id sz0 rows xs = xs.map (AV.ice id sz0 rows) := by
  induction xs with
  | nil => simp [AV.iceL]
  | cons x xs ih => simp [AV.iceL, ih]

/-- Rows, when those of an object are data. -/
def iceRows (id sz0 : Nat) (rows : List (List DV)) (l : List (List AV)) : List (List AV) := l.map fun r => AV.iceL id sz0 rows r

def HO.ice (id sz0 : Nat) (rows : List (List DV)) : HO → HO
  | .dead => .dead
  | .dvec sz l => .dvec sz l
  | .vec sz l => mkVec sz (iceRows id sz0 rows l)

/-- The rows of an object, as data. -/
def HO.data : HO → Option (Nat × List (List DV))
  | .dead => none
  | .dvec sz l => some (sz, l)
  | .vec sz l => (drows l).map fun ds => (sz, ds)

theorem HO.data_rows {o : HO} {sz : Nat} {ds : List (List DV)} (h : o.data = some (sz, ds)) : o.rows = some (sz, ds.map (·.map .d)) := by
  cases o with
  | dead => simp [HO.data] at h
  | dvec sz' l => simp [HO.data] at h; obtain ⟨rfl, rfl⟩ := h; rfl
  | vec sz' l =>
    simp only [HO.data, Option.map_eq_some_iff] at h
    obtain ⟨ds', h1, h2⟩ := h
    simp at h2; obtain ⟨rfl, rfl⟩ := h2
    rw [HO.rows, drows_map _ _ h1]

def Z3g (id sz0 : Nat) (rows : List (List DV)) : Nat → Heap → Heap
  | _, [] => []
  | i, o :: os => (if i = id then .dead else o.ice id sz0 rows) :: Z3g id sz0 rows (i + 1) os

theorem iceHeap_at (id sz0 : Nat) (rows : List (List DV)) : ∀ (H : Heap) (k i : Nat), (Z3g id sz0 rows k H).at i = if k + i = id then .dead else (H.at i).ice id sz0 rows := by
  intro H
  induction H with
  | nil => intro k i; simp [Z3g, Heap.at, HO.ice]
  | cons o os ih =>
    intro k i
    cases i with
    | zero => simp [Z3g, Heap.at]
    | succ i =>
      have := ih (k + 1) i
      simp only [Heap.at] at this
      simp only [Z3g, Heap.at, List.getD_cons_succ, this, show k + 1 + i = k + (i + 1) by omega]

theorem iceHeap_len (id sz0 : Nat) (rows : List (List DV)) : ∀ (H : Heap) (k : Nat), (Z3g id sz0 rows k H).length = H.length := by
  intro H
  induction H with
  | nil => intro k; rfl
  | cons o os ih => intro k; simp [Z3g, ih]

def iceEnv (id sz0 : Nat) (rows : List (List DV)) : Env → Env
  | [] => []
  | (t, x) :: e => (t, x.ice id sz0 rows) :: iceEnv id sz0 rows e

theorem iceEnv_get (id sz0 : Nat) (rows : List (List DV)) : ∀ (e : Env) (t : Nat), (iceEnv id sz0 rows e).get t = (e.get t).ice id sz0 rows := by
  intro e
  induction e with
  | nil => intro t; simp [iceEnv, Env.get, AV.ice]
  | cons p e ih =>
    intro t
    obtain ⟨t0, x⟩ := p
    simp only [iceEnv, Env.get]
    split
    · rfl
    · exact ih t

/-- A state in which object 'id' is data. -/
def State.ice (id : Nat) (S : State) : State :=
  match (S.heap.at id).data with
  | some (sz0, rows) => ⟨iceEnv id sz0 rows S.env, Z3g id sz0 rows 0 S.heap⟩
  | none => S

theorem HO.ice_rows {id sz0 : Nat} {rows : List (List DV)} {o : HO} {sz : Nat} {l : List (List AV)} (h : (o.ice id sz0 rows).rows = some (sz, l)) :
    ∃ l0, o.rows = some (sz, l0) ∧ l = l0.map (·.map (AV.ice id sz0 rows)) := by
  cases o with
  | dead => simp [HO.ice, HO.rows] at h
  | dvec sz' r =>
    simp only [HO.ice, HO.rows, Option.some.injEq, Prod.mk.injEq] at h
    obtain ⟨rfl, rfl⟩ := h
    refine ⟨_, rfl, ?_⟩
    rw [List.map_map]
    refine List.map_congr_left fun x _ => ?_
    rw [Function.comp, List.map_map]
    exact List.map_congr_left fun y _ => by simp [AV.ice]
  | vec sz' r =>
    simp only [HO.ice, mkVec_rows, Option.some.injEq, Prod.mk.injEq] at h
    obtain ⟨rfl, rfl⟩ := h
    exact ⟨_, rfl, by rw [iceRows]; exact List.map_congr_left fun x _ => AV.iceL_map _ _ _ _⟩

theorem ice_says {n0 id : Nat} {S : State} : Says n0 S (S.ice id) := by
  intro P A n φ a w hs
  unfold State.ice
  split
  case h_2 => exact Says.refl P A n φ a w hs
  rename_i sz0 rows hd
  have hro := HO.data_rows hd
  have hal : (S.heap.at id).alive := HO.alive_rows.2 ⟨_, _, hro⟩
  have hat : ∀ i, (Z3g id sz0 rows 0 S.heap).at i = if i = id then .dead else (S.heap.at i).ice id sz0 rows := fun i => by rw [iceHeap_at, Nat.zero_add]
  have halive : ∀ i, ((Z3g id sz0 rows 0 S.heap).at i).alive → i ≠ id ∧ (S.heap.at i).alive := fun i hi => by
    rw [hat] at hi
    split at hi
    · exact hi.elim
    · refine ⟨by assumption, ?_⟩
      obtain ⟨sz, l, h⟩ := HO.alive_rows.1 hi
      obtain ⟨l0, h0, _⟩ := HO.ice_rows h
      exact HO.alive_rows.2 ⟨_, _, h0⟩
  have hown : ∀ b, own φ (Z3g id sz0 rows 0 S.heap) b → own φ S.heap b := fun b ⟨i, o, hi, hb⟩ => ⟨i, o, (halive i hi).2, hb⟩
  have hM : ∀ b, Mb A φ (Z3g id sz0 rows 0 S.heap) b → Mb A φ S.heap b := fun b hb => hb.imp _root_.id (hown b)
  have hid : ∀ b o, φ id = some (b, o) → ¬ Mb A φ (Z3g id sz0 rows 0 S.heap) b := by
    rintro b o hb (hA | ⟨i, o', hi, hb'⟩)
    · exact hs.heap.apart b hA ⟨id, o, hal, hb⟩
    · exact (halive i hi).1 (hs.heap.inj i id b o' o (halive i hi).2 hal hb' hb)
  obtain ⟨c0, T0, hcells⟩ : ∃ (c0 : Unit) (T0 : Unit), ∀ b o, φ id = some (b, o) → ∃ c T, w.heap[b]? = some (.cells c T (0, 0)) ∧ (∀ r ∈ rows, r.length = sz0) ∧
      ∀ (i : Nat) (r : List DV) (j : Nat) (x : DV), rows[i]? = some r → r[j]? = some x → ∃ v, c[o + i * sz0 + j]? = some v ∧ RelD (Mb A φ (Z3g id sz0 rows 0 S.heap)) w x v := by
    refine ⟨(), (), fun b o hb => ?_⟩
    obtain ⟨c, T, e1, e2, e3, e4⟩ := hs.heap.objs id b o hal hb sz0 _ hro
    refine ⟨c, T, e1, fun r hr => ?_, fun i r j x hi hx => ?_⟩
    · have := e3 (r.map .d) (List.mem_map_of_mem hr)
      simpa using this
    · obtain ⟨v, hv, hrel⟩ := e4 i (r.map .d) j (.d x) (by simp [hi]) (by simp [hx])
      cases hrel with
      | d _ _ h => exact ⟨v, hv, h.less hM⟩
  have tr : ∀ {x : AV} {v : Value}, Rel φ (Mb A φ S.heap) w x v → Rel φ (Mb A φ (Z3g id sz0 rows 0 S.heap)) w (x.ice id sz0 rows) v := by
    intro x v h
    induction h with
    | undef v => simp only [AV.ice]; exact .undef v
    | d x v h => simp only [AV.ice]; exact .d x v (h.less hM)
    | agg cells vs hl h ih =>
      simp only [AV.ice, AV.iceL_map]
      refine .agg _ vs (by simpa using hl) fun i x v h1 h2 => ?_
      rw [List.getElem?_map, Option.map_eq_some_iff] at h1
      obtain ⟨y, h1, rfl⟩ := h1
      exact ih i y v h1 h2
    | tup cells vs hl h ih =>
      simp only [AV.ice, AV.iceL_map]
      refine .tup _ vs (by simpa using hl) fun i x v h1 h2 => ?_
      rw [List.getElem?_map, Option.map_eq_some_iff] at h1
      obtain ⟨y, h1, rfl⟩ := h1
      exact ih i y v h1 h2
    | clo f cells vs hl h ih =>
      simp only [AV.ice, AV.iceL_map]
      refine .clo f _ vs (by simpa using hl) fun i x v h1 h2 => ?_
      rw [List.getElem?_map, Option.map_eq_some_iff] at h1
      obtain ⟨y, h1, rfl⟩ := h1
      exact ih i y v h1 h2
    | rcap i sz row len b o cap c T hb hcap hheap hfit =>
      simp only [AV.ice]
      split
      · exact .undef _
      · exact .rcap i sz row len b o cap c T hb hcap hheap hfit
    | dptr cs j b off f hlt hm hc hr => simp only [AV.ice]; exact .dptr cs j b off f hlt (fun h => hm (hM b h)) hc fun i x h1 => (hr i x h1).less hM
    | ptr i sz row j b o hb =>
      simp only [AV.ice]
      split
      · rename_i e; subst e
        split
        · rename_i e; subst e
          split
          · rename_i r hr
            obtain ⟨c, T, g1, g2, g3⟩ := hcells b o hb
            refine .dptr (off := o + row * sz) r j b (fun k => (c[o + row * sz + k]?).getD undef) (hs.heap.dom _ b o hb).2 (hid b o hb) (fun k x hx => ?_) (fun k x hx => ?_)
            · obtain ⟨v, hv, _⟩ := g3 row r k x hr hx
              rw [cell_block g1, hv]; rfl
            · obtain ⟨v, hv, h⟩ := g3 row r k x hr hx
              rw [hv]; exact h
          · exact .undef _
        · exact .undef _
      · exact .ptr i sz row j b o hb
    | ref0 i sz row room a =>
      simp only [AV.ice]
      split
      · split
        · have : (rows.drop row).take 0 = [] := by simp
          rw [this]; exact .d _ _ (.nil _ _ _ (fun _ => rfl))
        · exact .undef _
      · exact .ref0 _ _ _ _ _
    | ref i sz row len b o cap room c T hb hcap hroom hheap hfit =>
      simp only [AV.ice]
      split
      · rename_i e; subst e
        split
        · rename_i e
          obtain ⟨rfl, hle⟩ := e
          obtain ⟨c1, T1, g1, g2, g3⟩ := hcells b o hb
          have hlen : ((rows.drop row).take len).length = len := by simp; omega
          have hget : ∀ (k : Nat) (r : List DV) (j : Nat) (x : DV), ((rows.drop row).take len)[k]? = some r → r[j]? = some x → ∃ v, c1[o + row * sz + (k * sz + j)]? = some v ∧ RelD (Mb A φ (Z3g i sz rows 0 S.heap)) w x v := by
            intro k r j x hi hx
            obtain ⟨hi', _⟩ := drop_take_get hi
            obtain ⟨v, hv, hrel⟩ := g3 (row + k) r j x hi' hx
            refine ⟨v, ?_, hrel⟩
            rw [Nat.add_mul] at hv
            rw [← hv]; congr 1; omega
          have := RelD.list (M := Mb A φ (Z3g i sz rows 0 S.heap)) (w := w) ((rows.drop row).take len) (!room) sz b (o + row * sz) cap (fun k j => (c1[o + row * sz + (k * sz + j)]?).getD undef) (hs.heap.dom _ b o hb).2 (hid b o hb)
            (fun r hr => g2 r (List.mem_of_mem_drop (List.mem_of_mem_take hr))) (by rw [hlen]; exact hcap)
            (fun h => by rw [hlen]; exact hroom (by simpa using h)) (fun k r j x hi hx => by
              obtain ⟨v, hv, _⟩ := hget k r j x hi hx
              rw [cell_block g1, hv]; rfl) (fun k r j x hi hx => by
              obtain ⟨v, hv, hrel⟩ := hget k r j x hi hx
              rw [hv]; exact hrel)
          rw [hlen] at this
          exact .d _ _ this
        · exact .undef _
      · exact .ref i sz row len b o cap room c T hb hcap hroom hheap hfit
  refine ⟨φ, ⟨⟨?_, ?_, ?_, hs.heap.amb, fun b hA ho => hs.heap.apart b hA (hown b ho), ?_, hs.heap.tab.less hM⟩, hs.size, hs.defs, ?_⟩, ⟨fun i hi => rfl, Pres.refl _ _, fun b hb => .inl (hown b hb)⟩⟩
  · intro i b o hb
    rw [show (State.heap ⟨iceEnv id sz0 rows S.env, Z3g id sz0 rows 0 S.heap⟩) = Z3g id sz0 rows 0 S.heap from rfl, iceHeap_len]
    exact hs.heap.dom i b o hb
  · intro i sz l hi hne
    rw [show (State.heap ⟨iceEnv id sz0 rows S.env, Z3g id sz0 rows 0 S.heap⟩) = Z3g id sz0 rows 0 S.heap from rfl, hat] at hi
    split at hi
    · simp [HO.rows] at hi
    · obtain ⟨l0, h0, rfl⟩ := HO.ice_rows hi
      exact hs.heap.there i sz l0 h0 (by simpa using hne)
  · intro i j b o o' hi hj h1 h2
    exact hs.heap.inj i j b o o' (halive i hi).2 (halive j hj).2 h1 h2
  · intro i b o hi hb sz l hl
    rw [show (State.heap ⟨iceEnv id sz0 rows S.env, Z3g id sz0 rows 0 S.heap⟩) = Z3g id sz0 rows 0 S.heap from rfl] at hi hl
    rw [hat, if_neg (halive i hi).1] at hl
    obtain ⟨l0, h0, rfl⟩ := HO.ice_rows hl
    obtain ⟨c, T, e1, e2, e3, e4⟩ := hs.heap.objs i b o (halive i hi).2 hb sz l0 h0
    refine ⟨c, T, e1, by simpa using e2, fun r hr => ?_, fun k r j x hk hx => ?_⟩
    · obtain ⟨r0, hr0, rfl⟩ := List.mem_map.1 hr
      simpa using e3 r0 hr0
    · rw [List.getElem?_map, Option.map_eq_some_iff] at hk
      obtain ⟨r0, hk, rfl⟩ := hk
      rw [List.getElem?_map, Option.map_eq_some_iff] at hx
      obtain ⟨x0, hx, rfl⟩ := hx
      obtain ⟨v, hv, hrel⟩ := e4 k r0 j x0 hk hx
      exact ⟨v, hv, tr hrel⟩
  · intro t
    show Rel φ _ w ((iceEnv id sz0 rows S.env).get t) _
    rw [iceEnv_get]
    exact tr (hs.slots t)

/-- Objects that are data from here on, one after the other. -/
def State.ices : List Nat → State → State
  | [], S => S
  | i :: is, S => State.ices is (S.ice i)

theorem ices_says {n0 : Nat} : ∀ (is : List Nat) (S : State), Says n0 S (S.ices is)
  | [], S => Says.refl
  | i :: is, S => ice_says.trans (ices_says is (S.ice i))

theorem ice_len (id : Nat) (S : State) : (S.ice id).heap.length = S.heap.length := by
  unfold State.ice; split
  · exact iceHeap_len _ _ _ _ _
  · rfl

theorem ices_len : ∀ (is : List Nat) (S : State), (S.ices is).heap.length = S.heap.length
  | [], S => rfl
  | i :: is, S => (ices_len is (S.ice i)).trans (ice_len i S)

theorem Z0g.ices {α : Type} {L : List Nat} {st : α → State} {Inv : α → Prop} {m : α → Nat} {k : Nat} {S : State} (is : List Nat) (h : Z0g L st Inv m k (S.ices is)) : Z0g L st Inv m k S :=
  Z0g.says (ices_says is S) h

theorem Loop.ices {T : Tab} {n0 : Nat} {live : List Nat} {b : LCode} {S : State} {K : AExit → State → Prop} (is : List Nat) (hl : n0 ≤ S.heap.length) (h : Loop T n0 live b (S.ices is) K) : Loop T n0 live b S K :=
  Loop.says (ices_says is S) (by rw [ices_len]; exact hl) h

/-! ### Rules -/
theorem iceRows_d (id sz0 : Nat) (rows l : List (List DV)) : iceRows id sz0 rows (l.map (·.map .d)) = l.map (·.map .d) := by
  unfold iceRows
  rw [List.map_map]
  refine List.map_congr_left fun x _ => ?_
  rw [Function.comp, AV.iceL_map, List.map_map]
  exact List.map_congr_left fun y _ => by simp [AV.ice]
theorem iceRows_app (id sz0 : Nat) (rows : List (List DV)) (a b : List (List AV)) : iceRows id sz0 rows (a ++ b) = iceRows id sz0 rows a ++ iceRows id sz0 rows b := by simp [iceRows]
theorem iceRows_nil (id sz0 : Nat) (rows : List (List DV)) : iceRows id sz0 rows [] = [] := rfl
theorem Z3l (id sz0 : Nat) (rows : List (List DV)) (r : List AV) (l : List (List AV)) : iceRows id sz0 rows (r :: l) = AV.iceL id sz0 rows r :: iceRows id sz0 rows l := rfl
theorem dcells_d (l : List DV) : Z2t (l.map .d) = some l := by
  induction l with
  | nil => rfl
  | cons x l ih => simp [Z2t, ih]
theorem drows_d (l : List (List DV)) : drows (l.map (·.map .d)) = some l := by
  induction l with
  | nil => rfl
  | cons x l ih => simp [drows, ih, dcells_d]
theorem mkVec_some {sz : Nat} {l : List (List AV)} {ds : List (List DV)} (h : drows l = some ds) : mkVec sz l = .dvec sz ds := by simp [mkVec, h]


/-! ### Rows of data, said as rows of cells -/
def HO.thaw : HO → HO
  | .dvec sz l => .vec sz (l.map (·.map .d))
  | o => o
theorem HO.thaw_rows (o : HO) : o.thaw.rows = o.rows := by cases o <;> rfl
theorem thaw_mkVec (sz : Nat) (l : List (List AV)) : (mkVec sz l).thaw = .vec sz l := by
  unfold mkVec
  cases h : drows l with
  | none => rfl
  | some ds => simp only [HO.thaw, drows_map _ _ h]
def State.thaw (id : Nat) (S : State) : State := ⟨S.env, S.heap.set id ((S.heap.at id).thaw)⟩
theorem thaw_says {n0 id : Nat} {S : State} : Says n0 S (S.thaw id) := by
  intro P A n φ a w hs
  have hat : ∀ i, ((S.thaw id).heap.at i).rows = (S.heap.at i).rows := fun i => by
    by_cases hl : id < S.heap.length
    · show (Heap.at (S.heap.set id _) i).rows = _
      rw [Heap.at_set hl]
      split
      · rename_i e; subst e; exact HO.thaw_rows _
      · rfl
    · show (Heap.at (S.heap.set id _) i).rows = _
      rw [List.set_eq_of_length_le (by omega)]
  have hal : ∀ i, ((S.thaw id).heap.at i).alive ↔ (S.heap.at i).alive := fun i => by rw [HO.alive_rows, HO.alive_rows, hat]
  have hown : own φ (S.thaw id).heap = own φ S.heap := funext fun b => propext ⟨fun ⟨i, o, hi, hb⟩ => ⟨i, o, (hal i).1 hi, hb⟩, fun ⟨i, o, hi, hb⟩ => ⟨i, o, (hal i).2 hi, hb⟩⟩
  have hM : Mb A φ (S.thaw id).heap = Mb A φ S.heap := funext fun b => by show (A b ∨ _) = (A b ∨ _); rw [hown]
  have hl : (S.thaw id).heap.length = S.heap.length := by simp [State.thaw]
  refine ⟨φ, ⟨⟨fun i b o hb => by rw [hl]; exact hs.heap.dom i b o hb, fun i sz r hi => hs.heap.there i sz r (by rw [← hat]; exact hi), fun i j b o o' hi hj => hs.heap.inj i j b o o' ((hal i).1 hi) ((hal j).1 hj), hs.heap.amb, fun b hA => by rw [hown]; exact hs.heap.apart b hA,
    fun i b o hi hb sz r hr => ?_, ?_⟩, hs.size, hs.defs, fun t => ?_⟩, ⟨fun _ _ => rfl, Pres.refl _ _, fun b hb => .inl (by rw [← hown]; exact hb)⟩⟩
  · have := hs.heap.objs i b o ((hal i).1 hi) hb sz r (by rw [← hat]; exact hr)
    show ∃ c T, _
    have e : (fun b => A b ∨ own φ (S.thaw id).heap b) = (fun b => A b ∨ own φ S.heap b) := by rw [hown]
    rw [e]; exact this
  · have e : (fun b => A b ∨ own φ (S.thaw id).heap b) = (fun b => A b ∨ own φ S.heap b) := by rw [hown]
    rw [e]; exact hs.heap.tab
  · rw [hM]; exact hs.slots t
theorem Z0g.thaw {α : Type} {L : List Nat} {st : α → State} {Inv : α → Prop} {m : α → Nat} {k : Nat} {S : State} (id : Nat) (h : Z0g L st Inv m k (S.thaw id)) : Z0g L st Inv m k S := Z0g.says thaw_says h
theorem Loop.thaw {T : Tab} {n0 : Nat} {live : List Nat} {b : LCode} {S : State} {K : AExit → State → Prop} (id : Nat) (hl : n0 ≤ S.heap.length) (h : Loop T n0 live b (S.thaw id) K) : Loop T n0 live b S K :=
  Loop.says thaw_says (by simpa [State.thaw] using hl) h

end Go.Ago

/- slices.Insert of one moment's write. Conditions: none. -/
set_option maxRecDepth 100000
set_option linter.unusedSimpArgs false
set_option linter.unusedVariables false
namespace Go.Ago
def insG (l : List StampG) (i : Nat) (v : StampG) : List StampG := l.take i ++ v :: l.drop i
def ef_Insert : EfI := ⟨List StampG × Nat × StampG, fun x id k => [.ref id 3 0 x.1.length true, .d (.int .i64 x.2.1), .ref k 3 0 1 true], 3, fun x => x.1.map StampG.row, fun x => [x.2.2.row],
  fun x => x.2.1 ≤ x.1.length ∧ roomy (x.1.length + 1) 24, fun x => (insG x.1 x.2.1 x.2.2).map StampG.row⟩
theorem insG_len {l : List StampG} {i : Nat} {v : StampG} (h : i ≤ l.length) : (insG l i v).length = l.length + 1 := by unfold insG; simp; omega

theorem ins_eq1 {α : Type} {A B Z : List α} {v : α} {i k : Nat} (hA : A.length = i) (hB : B.length = k) (hZ : Z.length = k) : List.take (i + 1) (A ++ [v] ++ Z) ++ B ++ List.drop (i + 1 + k) (A ++ [v] ++ Z) = A ++ [v] ++ B := by
  have h1 : (A ++ [v]).length = i + 1 := by simp [hA]
  rw [List.take_append_of_le_length (by omega), List.take_of_length_le (by omega), List.drop_of_length_le (by simp [hA, hZ]; omega), List.append_nil]
theorem ins_eq2 {α : Type} {R : List α} {v : α} {i k : Nat} (hR : i + k + 1 ≤ R.length) :
    (List.take i (List.take (i + 1) R ++ List.take k (List.take (k + 1) (List.drop i R)) ++ List.drop (i + 1 + k) R) ++ [v] ++ List.drop (i + 1) (List.take (i + 1) R ++ List.take k (List.take (k + 1) (List.drop i R)) ++ List.drop (i + 1 + k) R)).take (i + k + 1) =
      R.take i ++ [v] ++ (R.drop i).take k ∧
    i + k + 1 ≤ (List.take i (List.take (i + 1) R ++ List.take k (List.take (k + 1) (List.drop i R)) ++ List.drop (i + 1 + k) R) ++ [v] ++ List.drop (i + 1) (List.take (i + 1) R ++ List.take k (List.take (k + 1) (List.drop i R)) ++ List.drop (i + 1 + k) R)).length := by
  have l1 : (List.take (i + 1) R).length = i + 1 := by simp; omega
  have l2 : (List.take k (List.take (k + 1) (List.drop i R))).length = k := by simp; omega
  have e2 : List.take k (List.take (k + 1) (List.drop i R)) = List.take k (List.drop i R) := by rw [List.take_take, show min k (k + 1) = k by omega]
  have e3 : List.take i (List.take (i + 1) R ++ List.take k (List.take (k + 1) (List.drop i R)) ++ List.drop (i + 1 + k) R) = R.take i := by
    rw [List.append_assoc, List.take_append_of_le_length (by omega), List.take_take, show min i (i + 1) = i by omega]
  have e4 : List.drop (i + 1) (List.take (i + 1) R ++ List.take k (List.take (k + 1) (List.drop i R)) ++ List.drop (i + 1 + k) R) = List.take k (List.drop i R) ++ List.drop (i + 1 + k) R := by
    rw [List.append_assoc, List.drop_append_of_le_length (by omega), List.drop_of_length_le (by omega), List.nil_append, e2]
  rw [e3, e4, ← List.append_assoc]
  have l3 : (R.take i ++ [v] ++ List.take k (List.drop i R)).length = i + k + 1 := by simp; omega
  refine ⟨?_, ?_⟩
  · rw [List.take_append_of_le_length (by omega), List.take_of_length_le (by omega)]
  · rw [List.length_append]; omega

set_option maxHeartbeats 4000000 in
/-- The rows with a capacity: an element in their midst. -/
theorem vck_ins {T : Tab} {n1 i k c : Nat} {R : List (List AV)} {v1 v2 v3 : Int} {K : AV → Heap → Prop} (hk : 0 < k) (hc : i + k ≤ c) (hroom : roomy (i + k + 1) 24) (hR : R.length = c) (hlen : ∀ r ∈ R, r.length = 3) (hleaf : ∀ r ∈ R.take (i + k), r.all AV.leaf = true)
    (hnew : ∀ R', (H : R' = R.take i ++ [[.d (.int .i64 v1), .d (.int .i64 v2), .d (.int .i64 v3)]] ++ (R.drop i).take k) → K (.ref 2 3 0 (i + k + 1) true) [.vec 3 R, .dvec 3 [[.int .i64 v1, .int .i64 v2, .int .i64 v3]], .vec 3 R'])
    (hold : ∀ R', (H : R'.take (i + k + 1) = R.take i ++ [[.d (.int .i64 v1), .d (.int .i64 v2), .d (.int .i64 v3)]] ++ (R.drop i).take k) → i + k + 1 ≤ R'.length → K (.ref 0 3 0 (i + k + 1) true) [.vec 3 R', .dvec 3 [[.int .i64 v1, .int .i64 v2, .int .i64 v3]]]) :
    vck T 2 V_slices_Insert_api_Stamp (L_slices_Insert_api_Stamp n1) ⟨Z0t 0 [.rcap 0 3 0 (i + k) c, .d (.int .i64 i), .ref 1 3 0 1 true], [.vec 3 R, .dvec 3 [[.int .i64 v1, .int .i64 v2, .int .i64 v3]]]⟩ (retK R_slices_Insert_api_Stamp K) := by
  have hr1 := hroom.1
  have e1 : ((1 : Nat) : Int) = 1 := rfl
  have e10 : ((1 : Int) = 0) = False := by simp
  have he : ((i : Int) = ((i + k : Nat) : Int)) = False := by simp; omega
  have w1 : IntKind.i64.wrap (((i + k : Nat) : Int) + 1) = ((i + k + 1 : Nat) : Int) := by rw [wrap_id (by omega) (by omega)]; rfl
  have w2 : IntKind.i64.wrap ((i : Int) + 1) = ((i + 1 : Nat) : Int) := by rw [wrap_id (by omega) (by omega)]; rfl
  have w3 : IntKind.i64.wrap (((i + k + 1 : Nat) : Int) - (i : Int)) = ((k + 1 : Nat) : Int) := by rw [wrap_id (by omega) (by omega)]; omega
  have q1 : (((i + k : Nat) : Int) < (i : Int)) = False := by simp; omega
  have q2 : (((i + k : Nat) : Int) < ((i + k + 1 : Nat) : Int)) = True := by simp; omega
  have a1 : i + (k + 1) - i = k + 1 := by omega
  have a2 : i + k - i = k := by omega
  have a3 : i + (k + 1) - (i + 1) = k := by omega
  have a4 : i + k + 1 - (i + 1) = k := by omega
  have a5 : i + k + 1 - i = k + 1 := by omega
  have t1 : (R.take i).length = i := by simp; omega
  have m1 : min (k + 1) 1 = 1 := by omega
  have m2 : min k (k + 1) = k := by omega
  have m3 : min k k = k := by omega
  unfold V_slices_Insert_api_Stamp L_slices_Insert_api_Stamp R_slices_Insert_api_Stamp
  simp only [↓Z0h, ↓Z03, ↓Z0p, ↓Z0f, ↓Z0a, ↓Z0o, ↓Z0n, ↓Z0i, ↓Z0e, ↓Z0d, Z25, Z05, Z14, Z17, evN, Z0m, Z16, Z20, Z0l, Z0b, Z0k, Z0v, evT, Opd.ev, Z04, Z00, Z15, Z0u, Z0w, Z0t, Z09, Z1g, LOp.isNew, State.prune, Heap.at, Int.toNat_natCast, Int.reduceToNat, evLen, Z38, Src.all, Src.len, Src.leafN, evApart, aliveQ, joinV, evSlice, intOr, intOpd, Option.isSome_none, Option.isSome_some, Nat.sub_zero, Z2w, evUn, binT, binQ, Z0q, ↓reduceIte, Nat.reduceAdd, Nat.reduceBEq, List.length_cons, List.length_nil, List.replicate_succ, List.replicate_zero, List.nil_append, List.cons_append, List.append_nil, List.map_cons, List.map_nil, List.getD_cons_zero, List.getD_cons_succ, List.drop_zero, Bool.not_false, true_and, and_true, true_or, or_true, decide_false, false_implies, and_self, Nat.reduceLT, Nat.zero_add, Nat.add_zero, Bool.false_eq_true, evFl, fltQ, fltT, evAppz, evCopy, HO.splice, e1, e10, he, w1, w2, w3, q1, q2, a2, a4, a5, or_self, or_true, true_or]
  have hiR : (i ≤ R.length) = True := by simp; omega
  have hik : (i + k ≤ R.length) = True := by simp; omega
  have z1 : List.drop (i + 1) (R.take i ++ [AV.d (DV.int IntKind.i64 0), AV.d (DV.int IntKind.i64 0), AV.d (DV.int IntKind.i64 0)] :: List.replicate k [AV.d (DV.int IntKind.i64 0), AV.d (DV.int IntKind.i64 0), AV.d (DV.int IntKind.i64 0)]) = List.replicate k [AV.d (DV.int IntKind.i64 0), AV.d (DV.int IntKind.i64 0), AV.d (DV.int IntKind.i64 0)] := by
    rw [List.drop_append, t1, List.drop_of_length_le (by omega), show i + 1 - i = 1 by omega]; rfl
  have z2 : List.take i (R.take i ++ [AV.d (DV.int IntKind.i64 0), AV.d (DV.int IntKind.i64 0), AV.d (DV.int IntKind.i64 0)] :: List.replicate k [AV.d (DV.int IntKind.i64 0), AV.d (DV.int IntKind.i64 0), AV.d (DV.int IntKind.i64 0)]) = R.take i := by
    rw [List.take_append_of_le_length (by omega), List.take_of_length_le (by omega)]
  have z3 : (List.take k (List.drop i R)).length = k := by simp; omega
  refine ⟨⟨by omega, by omega, by omega⟩, fun c1 => ⟨⟨by omega, by omega, by omega⟩, ?_⟩, fun c1 => ?_⟩
  · simp only [↓Z11, ↓Z03, ↓Z0p, ↓Z0a, ↓Z0o, ↓Z1p, ↓Z0n, ↓Z1r, Z25, Z05, Z0r, Z14, Z17, evN, Z0m, Z16, Z20, Z0l, Z0b, Z0k, evT, Opd.ev, Z04, Z00, Z15, Z1d, Z09, Z1g, LOp.isNew, State.prune, Heap.at, List.length_replicate, Int.toNat_natCast, Z38, Src.all, Src.len, Src.leafN, List.length_append, List.take_of_length_le, evSlice, intOr, intOpd, Option.isSome_none, Option.isSome_some, Z2w, binT, binQ, chk, Z24, resQ, resV, resT, List.mem_cons, List.not_mem_nil, or_false, forall_eq, Nat.le_refl, ↓reduceIte, Nat.reduceAdd, Nat.reduceBEq, List.length_cons, List.length_nil, List.replicate_zero, List.nil_append, List.cons_append, List.append_nil, List.map_cons, List.map_nil, List.all_nil, List.set_cons_zero, List.set_cons_succ, List.getD_cons_zero, List.getD_cons_succ, List.drop_zero, true_and, and_true, true_or, false_implies, and_self, List.reverse_cons, List.reverse_nil, Nat.zero_add, Nat.add_zero, Bool.false_eq_true, evCopy, HO.splice, e1, w2, a1, a2, a3, t1, m1, m3, true_or, hiR, hik, z1, z2, z3]
    have hc' : c = i + k := by omega
    have hm : ∀ r ∈ List.take k (List.drop i R), r ∈ R.take (i + k) := fun r hr => by
      have : List.take k (List.drop i R) = (R.take (i + k)).drop i := by rw [List.drop_take, show i + k - i = k by omega]
      rw [this] at hr
      exact List.mem_of_mem_drop hr
    refine ⟨⟨by omega, by omega, hroom⟩, ⟨by omega, by omega, by omega⟩, ⟨by omega, by omega, by omega⟩, ⟨by omega, by omega, by omega⟩, ⟨fun r hr => hlen r (List.mem_of_mem_drop (List.mem_of_mem_take hr)), List.all_eq_true.2 fun r hr => hleaf r (hm r hr)⟩, ?_⟩
    exact hnew _ (ins_eq1 t1 z3 (List.length_replicate))
  · have c2 : i + k + 1 ≤ c := by omega
    have hik1 : (i + (k + 1) ≤ R.length) = True := by simp; omega
    have hik2 : (i + 1 + k ≤ R.length) = True := by simp; omega
    have z4 : (List.take (k + 1) (List.drop i R)).length = k + 1 := by simp; omega
    have l1 : (List.take (i + 1) R).length = i + 1 := by simp; omega
    have l2 : (List.take k (List.take (k + 1) (List.drop i R))).length = k := by simp; omega
    have l3 : (List.drop (i + 1 + k) R).length = R.length - (i + 1 + k) := by simp
    have l4 : (i + (k + 1) ≤ i + 1 + k + (R.length - (i + 1 + k))) = True := by simp; omega
    have hm : ∀ r ∈ List.take k (List.take (k + 1) (List.drop i R)), r ∈ R.take (i + k) := fun r hr => by
      rw [List.take_take, show min k (k + 1) = k by omega] at hr
      have : List.take k (List.drop i R) = (R.take (i + k)).drop i := by rw [List.drop_take, show i + k - i = k by omega]
      rw [this] at hr
      exact List.mem_of_mem_drop hr
    simp only [↓Z11, ↓Z03, ↓Z0p, ↓Z0a, ↓Z0o, ↓Z1p, ↓Z0n, ↓Z1r, Z25, Z05, Z0r, Z14, Z17, evN, Z0m, Z16, Z20, Z0l, Z0b, Z0k, evT, Opd.ev, Z04, Z00, Z15, Z1d, Z09, Z1g, LOp.isNew, State.prune, Heap.at, Int.toNat_natCast, Z38, Src.all, Src.len, Src.leafN, List.length_append, List.take_of_length_le, evSlice, intOr, intOpd, Option.isSome_none, chk, Z24, resQ, resV, resT, List.mem_cons, List.not_mem_nil, or_false, forall_eq, Nat.le_refl, ↓reduceIte, Nat.reduceAdd, Nat.reduceBEq, List.length_cons, List.length_nil, List.replicate_zero, List.nil_append, List.cons_append, List.append_nil, List.map_cons, List.map_nil, List.all_nil, List.set_cons_zero, List.getD_cons_zero, List.getD_cons_succ, List.drop_zero, true_and, and_true, false_implies, and_self, List.reverse_cons, List.reverse_nil, Nat.zero_add, Nat.add_zero, Bool.false_eq_true, evCopy, HO.splice, e1, a5, m1, m2, hik1, hik2, z4, l1, l2, l3, l4]
    obtain ⟨g1, g2⟩ := ins_eq2 (R := R) (v := [AV.d (DV.int IntKind.i64 v1), AV.d (DV.int IntKind.i64 v2), AV.d (DV.int IntKind.i64 v3)]) (i := i) (k := k) (by omega)
    exact ⟨⟨by omega, by omega, by omega⟩, ⟨by omega, by omega, by omega⟩, by omega, ⟨by omega, by omega, by omega⟩, ⟨by omega, by omega, by omega⟩,
      ⟨fun r hr => hlen r (List.mem_of_mem_drop (List.mem_of_mem_take hr)), List.all_eq_true.2 fun r hr => hleaf r (hm r hr)⟩, ⟨by omega, by omega, by omega⟩, hold _ g1 g2⟩

theorem capRows_len {sz c : Nat} {rows : List (List DV)} (h : rows.length ≤ c) : (capRows sz c rows).length = c := by simp [capRows]; omega
theorem capRows_take {sz c n : Nat} {rows : List (List DV)} (h : rows.length = n) : (capRows sz c rows).take n = rows.map (·.map .d) := by
  unfold capRows
  rw [List.take_append_of_le_length (by simp; omega), List.take_of_length_le (by simp; omega)]
theorem rows_stamp (l : List StampG) : (l.map StampG.row).map (·.map AV.d) = l.map fun s => [.d (.int .i64 s.when.num), .d (.int .i64 s.when.den), .d (.int .i64 s.val)] := by rw [List.map_map]; rfl
theorem cap_take {l : List StampG} {i c : Nat} (hi : i ≤ l.length) : (capRows 3 c (l.map StampG.row)).take i = ((l.take i).map StampG.row).map (·.map AV.d) := by
  unfold capRows
  rw [List.take_append_of_le_length (by simp; omega)]
  simp [List.map_take]
theorem cap_mid {l : List StampG} {i k c : Nat} (h : i + k = l.length) : ((capRows 3 c (l.map StampG.row)).drop i).take k = ((l.drop i).map StampG.row).map (·.map AV.d) := by
  unfold capRows
  rw [List.drop_append_of_le_length (by simp; omega), List.take_append_of_le_length (by simp; omega), List.take_of_length_le (by simp; omega)]
  simp [List.map_drop]
theorem insG_rows {l : List StampG} {i : Nat} {v : StampG} : ((insG l i v).map StampG.row).map (·.map AV.d) = ((l.take i).map StampG.row).map (·.map AV.d) ++ [[.d (.int .i64 v.when.num), .d (.int .i64 v.when.den), .d (.int .i64 v.val)]] ++ ((l.drop i).map StampG.row).map (·.map AV.d) := by
  unfold insG
  simp [StampG.row]
theorem eff_slices_Insert_api_Stamp {T : Tab} {n1 : Nat} : ef_Insert.Body T V_slices_Insert_api_Stamp (L_slices_Insert_api_Stamp n1) R_slices_Insert_api_Stamp where
  ren x ρ := rfl
  body := by
    rintro ⟨l, i, v⟩ ⟨hi, hr⟩
    have hi : i ≤ l.length := hi
    have hr : roomy (l.length + 1) 24 := hr
    have hr1 := hr.1
    have hlen := insG_len (v := v) hi
    by_cases he : i = l.length
    · left
      have e1 : ((1 : Nat) : Int) = 1 := rfl
      have e10 : ((1 : Int) = 0) = False := by simp
      unfold V_slices_Insert_api_Stamp L_slices_Insert_api_Stamp R_slices_Insert_api_Stamp
      subst he
      simp only [↓Z0h, ↓Z11, ↓Z03, ↓Z0p, ↓Z0f, ↓Z0a, ↓Z0o, ↓Z1p, ↓Z0n, ↓Z1r, ↓Z0i, ↓Z0e, Z25, Z05, Z14, Z17, evN, Z0m, Z16, Z0l, Z0b, Z0k, Z0v, evT, Opd.ev, Z04, Z00, Z15, Z1d, Z0u, Z0w, Z0t, Z09, Z1g, LOp.isNew, State.prune, Heap.at, StampG.row, Int.toNat_natCast, evLen, Z1s, Z38, Src.all, Src.len, Src.leaf, joinV, List.length_map, List.take_of_length_le, evSlice, intOr, intOpd, Option.isSome_none, Z2w, binT, binQ, resQ, resV, resT, List.mem_cons, List.not_mem_nil, or_false, forall_eq, Z0q, Nat.le_refl, ↓reduceIte, Nat.reduceAdd, Nat.reduceBEq, List.length_cons, List.length_nil, List.replicate_succ, List.replicate_zero, List.nil_append, List.cons_append, List.append_nil, List.map_cons, List.map_nil, List.set_cons_zero, List.set_cons_succ, List.getD_cons_zero, List.getD_cons_succ, List.drop_zero, true_and, and_true, decide_true, decide_false, false_implies, and_self, Nat.zero_add, Nat.add_zero, Bool.false_eq_true, ef_Insert, e1, e10]
      refine ⟨⟨by omega, by omega⟩, hr, ?_, by simp⟩
      have : insG l l.length v = l ++ [v] := by unfold insG; simp
      rw [this, List.length_append, List.length_singleton]
      have := Says.pick (k := 2) (sz := 3) (m := l.length + 1) (row := 0) (sz2 := 3) (room := true)
        (H := [.dead, .dvec 3 [[.int .i64 v.when.num, .int .i64 v.when.den, .int .i64 v.val]], .dvec 3 ((l ++ [v]).map StampG.row)]) (R := ((l ++ [v]).map StampG.row).map (·.map AV.d)) (ds := (l ++ [v]).map StampG.row) (r2 := [[.int .i64 v.when.num, .int .i64 v.when.den, .int .i64 v.val]]) rfl rfl (by omega)
        (by rw [List.take_of_length_le (by simp)]) (by simp) (by simp)
      simpa [StampG.row] using this
    · right
      have hrn : ef_Insert.rows (l, i, v) = l.map StampG.row := rfl
      refine ⟨by rw [hrn]; intro h; simp at h; subst h; simp at hi he; omega, [.d (.int .i64 i), .ref 1 3 0 1 true], by simp [ef_Insert], fun c hc => ?_⟩
      have hc : l.length ≤ c := by simpa [ef_Insert] using hc
      obtain ⟨k, hk⟩ : ∃ k, l.length = i + k := ⟨l.length - i, by omega⟩
      have hrows : (ef_Insert.rows (l, i, v)).length = i + k := by rw [hrn, List.length_map, hk]
      have hsz : ef_Insert.sz = 3 := rfl
      have hr2 : ef_Insert.rows2 (l, i, v) = [[.int .i64 v.when.num, .int .i64 v.when.den, .int .i64 v.val]] := rfl
      have hr3 : ef_Insert.rows' (l, i, v) = (insG l i v).map StampG.row := rfl
      rw [hrows, hsz, hr2, hr3, List.length_map, hlen, hrn, hk]
      have hm1 := cap_take (c := c) hi
      have hm2 := cap_mid (c := c) hk.symm
      refine vck_ins (by omega) (by omega) (by rw [← hk]; exact hr) (capRows_len (by simpa using hc)) (fun r hr => ?_) (fun r hr => ?_) (fun R' hR' => ⟨?_, by simp⟩) (fun R' hR' hle => ⟨?_, by simp⟩)
      · rcases List.mem_append.1 hr with hr | hr
        · rw [rows_stamp, List.mem_map] at hr
          obtain ⟨s, _, rfl⟩ := hr; rfl
        · rw [(List.mem_replicate.1 hr).2]; rfl
      · rw [← hk, capRows_take (by simp), rows_stamp, List.mem_map] at hr
        obtain ⟨s, _, rfl⟩ := hr; rfl
      · have hlR : R'.length = i + k + 1 := by
          rw [hR', hm1, hm2]; simp; omega
        exact Says.pick (k := 2) (row := 0) (R := R') rfl rfl (by omega) (by rw [List.take_of_length_le (by omega), hR', hm1, hm2, insG_rows]) (by rw [List.length_map, hlen]; omega) (by omega)
      · exact Says.pick (k := 0) (row := 0) (R := R') rfl rfl (by omega) (by rw [hR', hm1, hm2, insG_rows]) (by rw [List.length_map, hlen]; omega) hle
/-- What the caller is told. -/
theorem at_Insert {l : List StampG} {i : Nat} {v : StampG} {id k : Nat} {H : Heap} (h1 : H.at id = .dvec 3 (l.map StampG.row)) (h2 : H.at k = .dvec 3 [v.row]) (hne : id ≠ k) :
    ef_Insert.at [.ref id 3 0 l.length true, .d (.int .i64 i), .ref k 3 0 1 true] H = some ⟨i ≤ l.length ∧ roomy (l.length + 1) 24, .ref H.length 3 0 ((insG l i v).map StampG.row).length true, [(id, .dead)], [.dvec 3 ((insG l i v).map StampG.row)], some ⟨id, k, 3, (insG l i v).map StampG.row⟩⟩ := by
  refine EfI.at_fits (e := ef_Insert) (p := ((l, i, v), id, k)) (fun p q args H hp hq => ?_) ⟨rfl, h1, h2, hne⟩
  obtain ⟨⟨l, i, v⟩, id, k⟩ := p
  obtain ⟨⟨l', i', v'⟩, id', k'⟩ := q
  obtain ⟨e1, e2, e3, _⟩ := hp
  obtain ⟨e1', e2', e3', _⟩ := hq
  subst e1
  simp only [ef_Insert, List.cons.injEq, AV.ref.injEq, AV.d.injEq, DV.int.injEq, and_true, true_and] at e1'
  obtain ⟨⟨rfl, _⟩, hi, rfl⟩ := e1'
  rw [e2] at e2'; rw [e3] at e3'
  simp only [ef_Insert, HO.dvec.injEq, true_and, List.cons.injEq, and_true] at e2' e3'
  rw [rows_inj StampG.row_inj e2', StampG.row_inj _ _ e3', Int.ofNat_inj.1 hi]
end Go.Ago

/- Contracts of package hist. Conditions: none. -/
set_option maxRecDepth 100000
set_option linter.unusedSimpArgs false
set_option linter.unusedVariables false
namespace Go.Ago

theorem dcells_of (cs : List DV) : Z2t (cs.map .d) = some cs := by
  induction cs with
  | nil => rfl
  | cons c cs ih => simp [Z2t, ih]
theorem putRow_all {α : Type} {cs r : List α} (h : cs.length = r.length) : putRow 0 cs r = cs := by simp [putRow, h]
theorem set_mid {α : Type} {l r : List α} {i : Nat} {x y : α} (h : l.length = i) : (l ++ x :: r).set i y = l ++ y :: r := by subst h; simp
theorem get_mid {α : Type} {l r : List α} {i : Nat} {x d : α} (h : l.length = i) : (l ++ x :: r).getD i d = x := by subst h; simp
theorem stepK_store_row {α : Type} [Inhabited α] {f : α → List DV} {l : List α} {id sz sz0 row : Nat} {k : Delta → Prop} {x : α} {v : AV} (hf : ∀ x, (f x).length = sz) (hv : Z0y v = (f x).map .d) (hq : Z1e v) :
    stepK (evStoreO (.dvec sz (l.map f)) id sz sz0 row 0 v) k ↔ (sz = sz0 ∧ row < l.length) ∧ k ⟨.tup [], [(id, .dvec sz ((l.set row x).map f))], []⟩ := by
  have hd : Z2t (Z0y v) = some (f x) := by rw [hv]; exact dcells_of _
  have hl : (Z0y v).length = sz := by rw [hv, List.length_map, hf]
  simp only [evStoreO, hd, Z0b, List.length_map, hl]
  have key : row < l.length → (l.map f).set row (putRow 0 (f x) ((l.map f).getD row [])) = (l.set row x).map f := fun h => by
    rw [map_getD (d := default) h, List.map_set]
    congr 1
    exact putRow_all (by rw [hf, hf])
  constructor
  · rintro ⟨⟨h1, h2, h3, h4, h5⟩, h6⟩
    rw [key h2] at h6
    exact ⟨⟨h1, h2⟩, h6⟩
  · rintro ⟨⟨h1, h2⟩, h6⟩
    rw [key h2]
    exact ⟨⟨h1, h2, hq, trivial, by omega⟩, h6⟩
theorem store_rowRat {l : List RatG} {id sz0 row : Nat} {k : Delta → Prop} {a b : Int} :
    stepK (evStoreO (.dvec 2 (l.map RatG.row)) id 2 sz0 row 0 (.agg [.d (.int .i64 a), .d (.int .i64 b)])) k ↔ (2 = sz0 ∧ row < l.length) ∧ k ⟨.tup [], [(id, .dvec 2 ((l.set row ⟨a, b⟩).map RatG.row))], []⟩ :=
  stepK_store_row (fun _ => rfl) rfl (by simp [Z1e, AV.leaf])

def sp_plain : Sp := ⟨Int, fun k => [.d (.int .i64 k)], fun k => .data True (.d (.bool (decide (k = 1) || decide (k = 2)))) true⟩
theorem at_plain (k : Int) : sp_plain.at [.d (.int .i64 k)] = .data True (.d (.bool (decide (k = 1) || decide (k = 2)))) true :=
  Sp.at_enc (s := sp_plain) (fun (x y : Int) h => by simpa [sp_plain] using h) k
theorem body_hist_plain {T : Tab} : sp_plain.Body T V_hist_plain L_hist_plain R_hist_plain := by
  intro (k : Int) h
  refine .inl ⟨rfl, ?_⟩
  unfold V_hist_plain L_hist_plain R_hist_plain
  simp only [↓Z11, ↓Z03, ↓Z0p, ↓Z0a, ↓Z0o, ↓Z0n, ↓Z1r, ↓Z0i, ↓Z0e, ↓Z0d, Z25, Z05, Z14, Z18, Z17, evN, Z0m, Z16, Z0l, Z0k, Z1n, evT, Opd.ev, Z04, Z00, Z15, Z1i, Z0u, Z0t, Z09, Z1g, LOp.isNew, State.prune, Z2w, binT, binQ, resQ, resV, resT, pickV, RetS, AV.d.injEq, DV.bool.injEq, ↓reduceIte, Nat.reduceBEq, List.length_nil, List.replicate_zero, List.append_nil, List.map_cons, List.map_nil, true_and, Nat.add_zero, Bool.false_eq_true, sp_plain]
  by_cases h1 : k = 1 <;> simp [h1]

def startG (n : Nat) : List RatG := List.replicate n ⟨0, 1⟩
def zeroG (n : Nat) : List RatG := List.replicate n ⟨0, 0⟩
def sp_begin : Sp := ⟨Int, fun n => [.d (.int .i64 n)], fun n => .data (0 ≤ n ∧ n ≤ 1048576) (.d (.list ((startG n.toNat).map RatG.row) false)) false⟩
theorem at_begin (n : Int) : sp_begin.at [.d (.int .i64 n)] = .data (0 ≤ n ∧ n ≤ 1048576) (.d (.list ((startG n.toNat).map RatG.row) false)) false :=
  Sp.at_enc (s := sp_begin) (fun (x y : Int) h => by simpa [sp_begin] using h) n
theorem body_hist_begin {T : Tab} : sp_begin.Body T V_hist_begin L_hist_begin R_hist_begin := by
  rintro (n : Int) ⟨h1, h2⟩
  have h1 : 0 ≤ n := h1
  have h2 : n ≤ 1048576 := h2
  refine ⟨rfl, ?_⟩
  obtain ⟨n, rfl⟩ := Int.eq_ofNat_of_zero_le h1
  unfold V_hist_begin L_hist_begin R_hist_begin
  simp only [↓Z03, ↓Z0p, ↓Z0c, ↓Z1h, ↓Z0a, ↓Z0o, ↓Z0n, Z25, Z05, Z14, Z17, evN, Z0m, Z16, Z0l, Z0b, Z0k, evT, Opd.ev, Z04, Z00, Z15, Z1d, Z0t, Z09, Z1g, LOp.isNew, State.prune, Z29, Int.toNat_natCast, evLen, Z27, mkVec, evMk, Z0q, ↓reduceIte, Nat.reduceBEq, List.length_cons, List.length_nil, List.replicate_succ, List.replicate_zero, List.nil_append, List.append_nil, List.map_cons, List.map_nil, List.set_cons_zero, true_and, Nat.zero_add, Nat.add_zero, Bool.false_eq_true, sp_begin]
  have r1 : roomy n 16 := Z1t (by omega) (by omega)
  refine ⟨⟨by omega, by omega, r1⟩, ?_⟩
  refine Loop.fam [0, 3, 8, 9] (fun i : Nat => ⟨[(0, .d (.int .i64 n)), (3, .ref 0 2 0 n true), (8, .d (.int .i64 n)), (9, .d (.int .i64 i))], [.dvec 2 ((startG i ++ zeroG (n - i)).map RatG.row)]⟩)
    (fun i => i ≤ n) (fun i => n - i) 0 [0] (by simp) (by simp) (by simp only [State.can, AV.can, HO.can, idx, Z04, Z00, Heap.at, Nat.reduceBEq, ↓reduceIte, Option.getD_some, Option.map_some, List.map_cons, List.map_nil, List.getD_cons_zero]; simp [startG, zeroG]) (by omega) ?_
  intro i hi
  simp only [↓Z0h, ↓Z11, ↓Z1a, ↓Z03, ↓Z0p, ↓Z0f, ↓Z0c, ↓Z0a, ↓Z0o, ↓Z1q, ↓Z12, ↓Z19, ↓Z0n, ↓Z1r, ↓famK_n, ↓Z30, ↓Z0d, Z25, Z05, Z14, Z17, evN, Z0m, Z16, Z0l, Z0k, Z0v, evT, Opd.ev, Z04, Z00, Z15, Z21, Z1d, Z0u, Z0w, Z09, Z1g, LOp.isNew, State.prune, Heap.at, Z07, Z08, Z0j, RatG.row, Z2a, Int.toNat_natCast, List.length_map, Z1j, List.length_append, Z2w, binT, binQ, resQ, resV, resT, putRow, Z0q, RetD, AV.frz, Nat.le_refl, ↓reduceIte, Nat.reduceAdd, Nat.reduceBEq, List.length_cons, List.length_nil, List.replicate_zero, List.nil_append, List.cons_append, List.append_nil, List.map_cons, List.map_nil, List.set_cons_zero, List.getD_cons_zero, List.drop_zero, List.drop_succ_cons, List.take_succ_cons, List.take_zero, true_and, and_true, and_self, Nat.zero_add, Nat.add_zero, Bool.false_eq_true]
  have ls : (startG i).length = i := by simp [startG]
  have lz : (zeroG (n - i)).length = n - i := by simp [zeroG]
  refine ⟨fun h => ?_, fun h => ?_⟩
  · have h' : i < n := by omega
    rw [Z2r h' (by unfold maxLen; omega)]
    refine ⟨⟨by omega, by omega⟩, by omega, Z0g.mk [0] (i + 1) (by simp) (by simp) ?_ (by show i + 1 ≤ n; omega) (by show n - (i + 1) < n - i; omega)⟩
    have e : zeroG (n - i) = ⟨0, 0⟩ :: zeroG (n - (i + 1)) := by
      unfold zeroG
      rw [show n - i = (n - (i + 1)) + 1 by omega, List.replicate_succ]
    have e2 : startG (i + 1) = startG i ++ [⟨0, 1⟩] := by unfold startG; rw [List.replicate_succ']
    rw [e, get_mid ls, set_mid ls, e2]
    simp only [State.can, AV.can, HO.can, idx, Z04, Z00, Heap.at, Nat.reduceBEq, ↓reduceIte, Option.getD_some, Option.map_some, List.map_cons, List.map_nil, List.getD_cons_zero]
    simp
  · have : i = n := by omega
    subst this
    rw [ls, lz, if_pos (by omega)]
    simp [zeroG, startG]

def ratMaxG (x y : RatG) : RatG := ⟨(rat_max x.num x.den y.num y.den).1, (rat_max x.num x.den y.num y.den).2⟩
def joinG (a b : List RatG) : List RatG := (List.range a.length).map fun i => ratMaxG (a.getD i default) (b.getD i default)
def sp_join : Sp := ⟨List RatG × Bool × List RatG × Bool, fun x => [.d (.list (x.1.map RatG.row) x.2.1), .d (.list (x.2.2.1.map RatG.row) x.2.2.2)], fun x => .data (x.1.length ≤ x.2.2.1.length ∧ x.1.length ≤ 1048576) (.d (.list ((joinG x.1 x.2.2.1).map RatG.row) false)) false⟩
theorem at_join (a b : List RatG) (f g : Bool) : sp_join.at [.d (.list (a.map RatG.row) f), .d (.list (b.map RatG.row) g)] = .data (a.length ≤ b.length ∧ a.length ≤ 1048576) (.d (.list ((joinG a b).map RatG.row) false)) false :=
  Sp.at_enc (s := sp_join) (fun x y h => by
    obtain ⟨a, b, c, d⟩ := x; obtain ⟨a', b', c', d'⟩ := y
    simp only [sp_join, List.cons.injEq, AV.d.injEq, DV.list.injEq, and_true] at h
    obtain ⟨⟨h1, h2⟩, h3, h4⟩ := h
    rw [rows_inj RatG.row_inj h1, h2, rows_inj RatG.row_inj h3, h4]) (a, f, b, g)
theorem body_hist_join {T : Tab} {n1 n2 : Nat} (k1 : Knows T n1 (cloneS 2 16)) (k2 : Knows T n2 sp_rat_Max) : sp_join.Body T V_hist_join (L_hist_join n1 n2) R_hist_join := by
  have F1 := k1.F; have G1 := k1.G; have F2 := k2.F; have G2 := k2.G
  rintro ⟨a, f, b, g⟩ ⟨h1, h2⟩
  have h1 : a.length ≤ b.length := h1
  have h2 : a.length ≤ 1048576 := h2
  refine ⟨rfl, ?_⟩
  unfold V_hist_join L_hist_join R_hist_join
  simp only [↓Z03, ↓Z0p, ↓Z0c, ↓Z1h, ↓Z0a, ↓Z0o, ↓Z0n, Z25, Z05, Z14, Z17, evN, Z13, Z0m, Z16, Z0l, Z0b, Z0k, evT, Opd.ev, Z04, Z00, Z15, Z1d, Z0t, Z09, Z1g, LOp.isNew, State.prune, evLen, List.length_map, Z10, Z1o, fnOf, Z1l, Z3h, Z2y, Z0q, Z1c, ↓reduceIte, Nat.reduceBEq, List.length_cons, List.length_nil, List.replicate_succ, List.replicate_zero, List.nil_append, List.append_nil, List.map_cons, List.map_nil, List.set_cons_zero, List.flatten_cons, List.flatten_nil, true_and, and_true, or_true, Nat.zero_add, Nat.add_zero, Bool.false_eq_true, sp_join, F1, G1, at_clone]
  have r1 : roomy a.length 16 := Z1t (by omega) (by omega)
  refine ⟨r1, ?_⟩
  refine Loop.fam [0, 1, 5, 10, 11] (fun i : Nat => ⟨[(0, .d (.list (a.map RatG.row) f)), (1, .d (.list (b.map RatG.row) g)), (5, .ref 0 2 0 a.length true), (10, .d (.int .i64 a.length)), (11, .d (.int .i64 i))], [.dvec 2 (((joinG a b).take i ++ a.drop i).map RatG.row)]⟩)
    (fun i => i ≤ a.length) (fun i => a.length - i) 0 [0] (by simp) (by simp) (by simp only [State.can, AV.can, HO.can, idx, Z04, Z00, Heap.at, Nat.reduceBEq, ↓reduceIte, Option.getD_some, Option.map_some, List.map_cons, List.map_nil, List.getD_cons_zero]; simp) (by omega) ?_
  intro i hi
  simp only [↓Z0h, ↓Z11, ↓Z1a, ↓Z03, ↓Z0p, ↓Z0f, ↓Z0c, ↓Z0a, ↓Z0o, ↓Z1q, ↓Z12, ↓Z19, ↓Z0n, ↓Z1r, ↓famK_n, ↓Z30, ↓Z0d, Z25, Z05, Z0r, Z14, Z17, evN, Z13, Z0m, Z16, Z20, Z0l, Z0b, Z0k, Z0v, evT, Opd.ev, Z04, Z00, Z15, Z21, Z1d, Z0u, Z0w, Z09, Z1g, LOp.isNew, State.prune, Heap.at, Z06, Z0x, Z0s, idx_Rat, Z07, Z08, RatG.row, Z2c, Int.toNat_natCast, List.length_map, Z1j, List.length_append, List.take_of_length_le, Z28, Z2w, binT, binQ, chk, Z24, Bool.and_self, resQ, resV, resT, Z10, Z1o, fnOf, Z1l, isD, Z3h, Z0q, RetD, AV.frz, Nat.le_refl, ↓reduceIte, Nat.reduceAdd, Nat.reduceBEq, List.length_cons, List.length_nil, List.replicate_zero, List.nil_append, List.cons_append, List.append_nil, List.map_cons, List.map_nil, List.all_cons, List.all_nil, List.set_cons_zero, List.getD_cons_zero, List.drop_zero, List.flatten_cons, List.flatten_nil, true_and, and_true, List.reverse_cons, List.reverse_nil, Nat.zero_add, Nat.add_zero, Bool.false_eq_true, F2, G2, at_rat_Max, store_rowRat]
  have lj : (joinG a b).length = a.length := by simp [joinG]
  have lt : ((joinG a b).take i).length = i := by rw [List.length_take]; omega
  have ld : (a.drop i).length = a.length - i := by simp
  refine ⟨fun h => ?_, fun h => ?_⟩
  · have h' : i < a.length := by omega
    have e : a.drop i = a.getD i default :: a.drop (i + 1) := by rw [Z2x h']; exact List.drop_eq_getElem_cons h'
    have ej : (joinG a b).take (i + 1) = (joinG a b).take i ++ [ratMaxG (a.getD i default) (b.getD i default)] := by
      rw [List.take_add_one, List.getElem?_eq_getElem (by omega)]
      simp [joinG]
    rw [Z2r h' (by unfold maxLen; omega)]
    refine ⟨⟨by omega, by omega⟩, by omega, ⟨by omega, by omega⟩, ⟨by omega, by omega⟩, by omega, Z0g.mk [0] (i + 1) (by simp) (by simp) ?_ (by show i + 1 ≤ a.length; omega) (by show a.length - (i + 1) < a.length - i; omega)⟩
    rw [e, get_mid lt, set_mid lt, ej]
    simp only [State.can, AV.can, HO.can, idx, Z04, Z00, Heap.at, Nat.reduceBEq, ↓reduceIte, Option.getD_some, Option.map_some, List.map_cons, List.map_nil, List.getD_cons_zero]
    simp [ratMaxG]
  · have : i = a.length := by omega
    subst this
    rw [lt, ld, if_pos (by omega), List.take_of_length_le (by omega : (joinG a b).length ≤ a.length), List.drop_length, List.append_nil, List.take_of_length_le (by omega)]

def sp_stampCmp : Sp := ⟨StampG × RatG, fun x => [.agg [.d (.int .i64 x.1.when.num), .d (.int .i64 x.1.when.den), .d (.int .i64 x.1.val)], .agg [.d (.int .i64 x.2.num), .d (.int .i64 x.2.den)]], fun x => .data True (.d (.int .i64 (rat_cmp x.1.when.num x.1.when.den x.2.num x.2.den))) true⟩
theorem at_stampCmp (n d v m e : Int) : sp_stampCmp.at [.agg [.d (.int .i64 n), .d (.int .i64 d), .d (.int .i64 v)], .agg [.d (.int .i64 m), .d (.int .i64 e)]] = .data True (.d (.int .i64 (rat_cmp n d m e))) true :=
  Sp.at_enc (s := sp_stampCmp) (fun x y h => by
    obtain ⟨⟨⟨a, b⟩, c⟩, d, e⟩ := x; obtain ⟨⟨⟨a', b'⟩, c'⟩, d', e'⟩ := y
    simpa [sp_stampCmp, and_assoc] using h) (⟨⟨n, d⟩, v⟩, ⟨m, e⟩)
theorem body_hist_at_1 {T : Tab} {n1 : Nat} (k1 : Knows T n1 sp_rat_Cmp) : sp_stampCmp.Body T V_hist_at_1 (L_hist_at_1 n1) R_hist_at_1 := by
  have F1 := k1.F; have G1 := k1.G
  rintro ⟨⟨⟨n, d⟩, v⟩, m, e⟩ h
  refine .inl ⟨rfl, ?_⟩
  unfold V_hist_at_1 L_hist_at_1 R_hist_at_1
  simp only [↓Z11, ↓Z03, ↓Z0p, ↓Z0a, ↓Z0o, ↓Z0n, ↓Z1r, Z25, Z05, Z14, Z17, evN, Z13, Z0m, Z16, Z0l, Z0b, Z0k, evT, Opd.ev, Z04, Z00, Z15, Z1d, Z0t, Z09, Z1g, LOp.isNew, State.prune, Z1e, Z0y, AV.leaf, Heap.at, Z06, Z02, List.take_of_length_le, Z28, Z2v, Bool.and_self, resQ, resV, resT, Z10, Z1o, fnOf, Z1l, isD, Z3h, RetS, Nat.le_refl, ↓reduceIte, Nat.reduceAdd, Nat.reduceBEq, List.length_cons, List.length_nil, List.replicate_succ, List.replicate_zero, List.nil_append, List.append_nil, List.map_cons, List.map_nil, List.all_cons, List.all_nil, List.set_cons_zero, List.set_cons_succ, List.getD_cons_zero, List.getD_cons_succ, List.drop_zero, List.take_succ_cons, List.take_zero, List.flatten_cons, List.flatten_nil, and_self, Nat.reduceLT, Nat.reduceLeDiff, Nat.zero_add, Nat.add_zero, Bool.false_eq_true, sp_stampCmp, F1, G1, at_rat_Cmp]

/-! ### slices.BinarySearchFunc over stamps -/
theorem mid_wrap {i j : Nat} (hi : i ≤ 1048576) (hj : j ≤ 1048576) : IntKind.i64.wrap ((IntKind.u64.wrap (IntKind.i64.wrap ((i : Int) + (j : Int)))).fdiv (2 ^ min 1 IntKind.u64.bits)) = (((i + j) / 2 : Nat) : Int) := by
  have e1 : IntKind.i64.wrap ((i : Int) + (j : Int)) = (i : Int) + j := wrap_id (by omega) (by omega)
  have e2 : IntKind.u64.wrap ((i : Int) + j) = (i : Int) + j := by rw [IntKind.wrap_u64]; exact Int.emod_eq_of_lt (by omega) (by omega)
  have e3 : ((2 : Int) ^ min 1 IntKind.u64.bits) = 2 := rfl
  rw [e1, e2, e3, Int.fdiv_eq_ediv_of_nonneg _ (by omega)]
  have e4 : ((i : Int) + j) / 2 = (((i + j) / 2 : Nat) : Int) := by omega
  rw [e4]
  exact wrap_id (by omega) (by omega)
/-- The place that the search comes to. -/
def bsGo (p : Nat → Bool) : Nat → Nat → Nat → Nat
  | 0, i, _ => i
  | f + 1, i, j => if i < j then (if p ((i + j) / 2) then bsGo p f ((i + j) / 2 + 1) j else bsGo p f i ((i + j) / 2)) else i
theorem bsGo_fuel (p : Nat → Bool) : ∀ (d f i j : Nat), j - i ≤ d → j - i ≤ f → bsGo p f i j = bsGo p d i j := by
  intro d
  induction d with
  | zero =>
    intro f i j h1 h2
    cases f with
    | zero => rfl
    | succ f => simp only [bsGo]; rw [if_neg (by omega)]
  | succ d ih =>
    intro f i j h1 h2
    cases f with
    | zero => simp only [bsGo]; rw [if_neg (by omega)]
    | succ f =>
      simp only [bsGo]
      by_cases h : i < j
      · rw [if_pos h, if_pos h]
        rw [ih f ((i + j) / 2 + 1) j (by omega) (by omega), ih f i ((i + j) / 2) (by omega) (by omega)]
      · rw [if_neg h, if_neg h]
def stampLess (l : List StampG) (w : RatG) (k : Nat) : Bool := decide (rat_cmp (l.getD k default).when.num (l.getD k default).when.den w.num w.den < 0)
def bsAt (l : List StampG) (w : RatG) : Nat := bsGo (stampLess l w) l.length 0 l.length
def bsHas (l : List StampG) (w : RatG) : Bool := decide (bsAt l w < l.length) && decide (rat_cmp (l.getD (bsAt l w) default).when.num (l.getD (bsAt l w) default).when.den w.num w.den = 0)

def sp_bs (n : Nat) : Sp := ⟨List StampG × Bool × RatG, fun x => [.d (.list (x.1.map StampG.row) x.2.1), .agg [.d (.int .i64 x.2.2.num), .d (.int .i64 x.2.2.den)], .d (.fn n)],
  fun x => .data (x.1.length ≤ 1048576) (.tup [.d (.int .i64 (bsAt x.1 x.2.2)), .d (.bool (bsHas x.1 x.2.2))]) true⟩
theorem at_bs (n : Nat) (l : List StampG) (f : Bool) (a b : Int) : (sp_bs n).at [.d (.list (l.map StampG.row) f), .agg [.d (.int .i64 a), .d (.int .i64 b)], .d (.fn n)] = .data (l.length ≤ 1048576) (.tup [.d (.int .i64 (bsAt l ⟨a, b⟩)), .d (.bool (bsHas l ⟨a, b⟩))]) true :=
  Sp.at_enc (s := sp_bs n) (fun x y h => by
    obtain ⟨l, f, a, b⟩ := x; obtain ⟨l', f', a', b'⟩ := y
    simp only [sp_bs, List.cons.injEq, AV.d.injEq, AV.agg.injEq, DV.list.injEq, DV.int.injEq, and_true, true_and] at h
    obtain ⟨⟨h1, h2⟩, h3, h4⟩ := h
    rw [rows_inj StampG.row_inj h1, h2, h3, h4]) (l, f, ⟨a, b⟩)
theorem body_slices_BinarySearchFunc_api_Stamp_api_Rat {T : Tab} {n_hist_at_1 : Nat} (k1 : Knows T n_hist_at_1 sp_stampCmp) :
    (sp_bs n_hist_at_1).Body T V_slices_BinarySearchFunc_api_Stamp_api_Rat L_slices_BinarySearchFunc_api_Stamp_api_Rat R_slices_BinarySearchFunc_api_Stamp_api_Rat := by
  have F1 := k1.F; have G1 := k1.G
  rintro ⟨l, f, a, b⟩ h
  have h : l.length ≤ 1048576 := h
  refine .inl ⟨rfl, ?_⟩
  unfold V_slices_BinarySearchFunc_api_Stamp_api_Rat L_slices_BinarySearchFunc_api_Stamp_api_Rat R_slices_BinarySearchFunc_api_Stamp_api_Rat
  simp only [↓Z03, ↓Z0p, ↓Z0c, ↓Z1h, ↓Z0a, ↓Z0o, ↓Z0n, Z25, Z05, Z14, Z17, evN, Z0m, Z16, Z0l, Z0b, Z0k, evT, Opd.ev, Z04, Z00, Z15, Z1d, Z0t, Z09, Z1g, LOp.isNew, State.prune, Z1e, Z0y, AV.leaf, evLen, List.length_map, Bool.and_self, Z0q, ↓reduceIte, Nat.reduceAdd, Nat.reduceBEq, List.length_cons, List.length_nil, List.replicate_succ, List.replicate_zero, List.nil_append, List.append_nil, List.map_cons, List.map_nil, List.all_cons, List.all_nil, List.set_cons_zero, true_and, Nat.zero_add, Nat.add_zero, Bool.false_eq_true, sp_bs]
  refine Loop.fam [0, 2, 4, 8, 9, 10] (fun x : Nat × Nat => ⟨[(0, .d (.list (l.map StampG.row) f)), (2, .d (.fn n_hist_at_1)), (4, .ptr 0 2 0 0), (8, .d (.int .i64 l.length)), (9, .d (.int .i64 (x.1 : Nat))), (10, .d (.int .i64 (x.2 : Nat)))], [.vec 2 [[.d (.int .i64 a), .d (.int .i64 b)]]]⟩)
    (fun x => x.1 ≤ x.2 ∧ x.2 ≤ l.length ∧ bsGo (stampLess l ⟨a, b⟩) (x.2 - x.1) x.1 x.2 = bsAt l ⟨a, b⟩) (fun x => x.2 - x.1) (0, l.length) [0] (by simp) (by simp) (by simp only [State.can, AV.can, AV.canL, HO.can, Z0z, idx, Z04, Z00, Heap.at, Nat.reduceBEq, ↓reduceIte, Option.getD_some, Option.map_some, List.map_cons, List.map_nil, List.getD_cons_zero]; rfl) ⟨by omega, by omega, rfl⟩ ?_
  rintro ⟨i, j⟩ ⟨i1, i2, i3⟩
  have i1 : i ≤ j := i1
  have i2 : j ≤ l.length := i2
  have i3 : bsGo (stampLess l ⟨a, b⟩) (j - i) i j = bsAt l ⟨a, b⟩ := i3
  simp only [↓Z0h, ↓Z11, ↓Z1a, ↓Z03, ↓Z0p, ↓Z0f, ↓Z0c, ↓Z0a, ↓Z0o, ↓Z1q, ↓Z12, ↓Z19, ↓Z0n, ↓Z1r, ↓famK_n, ↓Z30, ↓Z0i, ↓Z0e, ↓Z0d, Z25, Z05, Z0r, Z14, Z18, Z17, evN, Z13, Z0m, Z16, Z20, Z0l, Z0b, Z0k, Z1v, Z0v, evT, Opd.ev, Z04, Z00, Z15, Z1i, Z0u, Z0w, Z09, Z1g, LOp.isNew, State.prune, Heap.at, Z06, Z0x, Z02, Z31, StampG.row, Z2c, Int.toNat_natCast, Int.reduceToNat, List.take_of_length_le, Z28, Z2v, Z2w, binT, binQ, chk, Z24, Bool.and_self, resQ, resV, resT, pickV, Z10, Z1o, fnOf, Z1l, isD, Z3h, Z0q, RetS, AV.tup.injEq, List.cons.injEq, Nat.le_refl, AV.d.injEq, DV.int.injEq, DV.bool.injEq, ↓reduceIte, Nat.reduceAdd, Nat.reduceBEq, List.length_cons, List.length_nil, List.replicate_zero, List.nil_append, List.cons_append, List.append_nil, List.map_cons, List.map_nil, List.all_cons, List.all_nil, List.getD_cons_zero, List.drop_zero, List.flatten_cons, List.flatten_nil, true_and, and_true, and_self, Nat.reduceLT, List.reverse_cons, List.reverse_nil, Nat.zero_add, Nat.add_zero, Bool.false_eq_true, F1, G1, at_stampCmp]
  have mid : IntKind.i64.wrap ((IntKind.u64.wrap (IntKind.i64.wrap ((i : Int) + (j : Int)))).fdiv (2 ^ min 1 IntKind.u64.bits)) = (((i + j) / 2 : Nat) : Int) := by
    exact mid_wrap (by omega) (by omega)
  rw [mid]
  simp only [Int.toNat_natCast]
  have less : (decide (rat_cmp (l.getD ((i + j) / 2) default).when.num (l.getD ((i + j) / 2) default).when.den a b < 0)) = stampLess l ⟨a, b⟩ ((i + j) / 2) := rfl
  refine ⟨fun hij => ?_, fun hij => ?_⟩
  · have hij : i < j := by omega
    obtain ⟨d, hd⟩ : ∃ d, j - i = d + 1 := ⟨j - i - 1, by omega⟩
    rw [hd] at i3
    simp only [bsGo] at i3
    rw [if_pos hij] at i3
    refine ⟨by omega, ⟨by omega, by omega⟩, fun hc => ?_, fun hc => ?_⟩
    · rw [if_pos (by rw [← less]; exact decide_eq_true hc)] at i3
      rw [Z2r (n := l.length) (by omega) (by unfold maxLen; omega)]
      exact Z0g.mk [0] ((i + j) / 2 + 1, j) (by simp) (by simp) (by simp only [State.can, AV.can, AV.canL, HO.can, Z0z, idx, Z04, Z00, Heap.at, Nat.reduceBEq, ↓reduceIte, Option.getD_some, Option.map_some, List.map_cons, List.map_nil, List.getD_cons_zero]) ⟨by show (i + j) / 2 + 1 ≤ j; omega, i2, by
        show bsGo _ (j - ((i + j) / 2 + 1)) _ _ = _
        rw [← i3]; exact (bsGo_fuel _ _ _ _ _ (Nat.le_refl _) (by omega)).symm⟩ (by show j - ((i + j) / 2 + 1) < j - i; omega)
    · rw [if_neg (by rw [← less]; simp only [decide_eq_true_eq]; exact hc)] at i3
      exact Z0g.mk [0] (i, (i + j) / 2) (by simp) (by simp) (by simp only [State.can, AV.can, AV.canL, HO.can, Z0z, idx, Z04, Z00, Heap.at, Nat.reduceBEq, ↓reduceIte, Option.getD_some, Option.map_some, List.map_cons, List.map_nil, List.getD_cons_zero]) ⟨by show i ≤ (i + j) / 2; omega, by show (i + j) / 2 ≤ l.length; omega, by
        show bsGo _ ((i + j) / 2 - i) _ _ = _
        rw [← i3]; exact (bsGo_fuel _ _ _ _ _ (Nat.le_refl _) (by omega)).symm⟩ (by show (i + j) / 2 - i < j - i; omega)
  · have hij : i = j := by omega
    have e : bsAt l ⟨a, b⟩ = i := by
      rw [← i3, show j - i = 0 by omega]; rfl
    unfold bsHas
    rw [e]
    refine ⟨fun h2 => ⟨⟨by omega, by omega⟩, rfl, ?_⟩, fun h2 => ⟨rfl, ?_⟩⟩
    · rw [decide_eq_true (by omega : i < l.length), Bool.true_and]
    · rw [decide_eq_false (by omega : ¬ i < l.length), Bool.false_and]

def sp_hist_at : Sp := ⟨List StampG × Bool × RatG, fun x => [.d (.list (x.1.map StampG.row) x.2.1), .agg [.d (.int .i64 x.2.2.num), .d (.int .i64 x.2.2.den)]],
  fun x => .data (x.1.length ≤ 1048576) (.tup [.d (.int .i64 (bsAt x.1 x.2.2)), .d (.bool (bsHas x.1 x.2.2))]) true⟩
theorem at_hist_at (l : List StampG) (f : Bool) (a b : Int) : sp_hist_at.at [.d (.list (l.map StampG.row) f), .agg [.d (.int .i64 a), .d (.int .i64 b)]] = .data (l.length ≤ 1048576) (.tup [.d (.int .i64 (bsAt l ⟨a, b⟩)), .d (.bool (bsHas l ⟨a, b⟩))]) true :=
  Sp.at_enc (s := sp_hist_at) (fun x y h => by
    obtain ⟨l, f, a, b⟩ := x; obtain ⟨l', f', a', b'⟩ := y
    simp only [sp_hist_at, List.cons.injEq, AV.d.injEq, AV.agg.injEq, DV.list.injEq, DV.int.injEq, and_true, true_and] at h
    obtain ⟨⟨h1, h2⟩, h3, h4⟩ := h
    rw [rows_inj StampG.row_inj h1, h2, h3, h4]) (l, f, ⟨a, b⟩)
theorem body_hist_at {T : Tab} {n1 n_hist_at_1 : Nat} (k1 : Knows T n1 (sp_bs n_hist_at_1)) : sp_hist_at.Body T V_hist_at (L_hist_at n1 n_hist_at_1) R_hist_at := by
  have F1 := k1.F; have G1 := k1.G
  rintro ⟨l, f, a, b⟩ h
  have h : l.length ≤ 1048576 := h
  refine .inl ⟨rfl, ?_⟩
  unfold V_hist_at L_hist_at R_hist_at
  simp only [↓Z11, ↓Z03, ↓Z0p, ↓Z0a, ↓Z0o, ↓Z0n, ↓Z1r, Z25, Z05, Z14, Z17, evN, Z13, Z0m, Z16, Z0l, Z0b, Z0k, evT, Opd.ev, Z04, Z00, Z15, Z1d, Z0t, Z09, Z1g, LOp.isNew, State.prune, Z1e, Z0y, AV.leaf, Heap.at, Z06, Z02, List.take_of_length_le, Z28, Z2v, Bool.and_self, resQ, resV, resT, Z10, Z1o, fnOf, Z1l, isD, Z3h, RetS, Nat.le_refl, ↓reduceIte, Nat.reduceAdd, Nat.reduceBEq, List.length_cons, List.length_nil, List.replicate_succ, List.replicate_zero, List.nil_append, List.append_nil, List.map_cons, List.map_nil, List.all_cons, List.all_nil, List.set_cons_zero, List.getD_cons_zero, List.getD_cons_succ, List.drop_zero, List.flatten_cons, List.flatten_nil, true_and, and_true, and_self, Nat.reduceLT, Nat.zero_add, Nat.add_zero, Bool.false_eq_true, sp_hist_at, F1, G1, at_bs]
  exact h
end Go.Ago

/- Contracts of the reference of layer 20, its small words. Conditions: none. -/
set_option maxRecDepth 100000
set_option linter.unusedSimpArgs false
set_option linter.unusedVariables false
namespace Go.Ago

/-! ### Lists of lists -/
abbrev RatsF := List RatG × Bool
def rowRats (x : RatsF) : List DV := [.list (x.1.map RatG.row) x.2]
theorem rowRats_inj (x y : RatsF) (h : rowRats x = rowRats y) : x = y := by
  obtain ⟨a, b⟩ := x; obtain ⟨c, d⟩ := y
  simp only [rowRats, List.cons.injEq, DV.list.injEq, and_true] at h
  rw [rows_inj RatG.row_inj h.1, h.2]
end Go.Ago

/- Contracts of the reference of layer 20: Past. Conditions: none. -/
set_option maxRecDepth 100000
set_option linter.unusedSimpArgs false
set_option linter.unusedVariables false
namespace Go.Ago

def stepSets (loc : Int) (v : Int) (st : StepG) : Int := if st.act.loc = loc ∧ (st.act.kind = 4 ∨ st.act.kind = 5) then st.act.new else v
def valueG (l : List LocG) (s : List StepG) (loc : Int) : Int := s.foldl (stepSets loc) (l.getD loc.toNat default).init
def leastG (x : RatG) : RatG := ⟨(Z2q x.num x.den).1, (Z2q x.num x.den).2⟩
def stepWrites (loc : Int) (v : List StampG) (st : StepG) : List StampG := if st.act.kind = 2 ∧ st.act.loc = loc then v ++ [⟨leastG st.when, st.act.new⟩] else v
def writesG (l : List LocG) (s : List StepG) (loc : Int) : List StampG := s.foldl (stepWrites loc) [⟨⟨0, 1⟩, (l.getD loc.toNat default).init⟩]
/-! ### Written: by rising moments -/
end Go.Ago

/- Functions that call themselves; the reference's Front. Conditions: none. -/
set_option maxRecDepth 100000
set_option linter.unusedSimpArgs false
set_option linter.unusedVariables false
namespace Go.Ago

def frontG (s : List StepG) : Nat → Int → Int → RatG
  | 0, _, _ => ⟨0, 1⟩
  | n + 1, who, loc =>
    let st := s.getD n default
    if st.act.kind = 2 ∧ who = st.thread ∧ st.act.loc = loc then leastG st.when
    else if (st.act.kind = 3 ∨ st.act.kind = 4 ∨ st.act.kind = 5) ∧ who = st.thread then ratMaxG (frontG s n who loc) (frontG s n (-1 - st.act.loc) loc)
    else if (st.act.kind = 4 ∨ st.act.kind = 5) ∧ who = -1 - st.act.loc then ratMaxG (frontG s n who loc) (frontG s n st.thread loc)
    else frontG s n who loc

end Go.Ago

/- Memories as data; are two the same? Conditions: none. -/
set_option maxRecDepth 100000
set_option linter.unusedSimpArgs false
set_option linter.unusedVariables false
namespace Go.Ago

abbrev StampsF := List StampG × Bool
def rowStamps (x : StampsF) : List DV := [.list (x.1.map StampG.row) x.2]
theorem rowStamps_inj (x y : StampsF) (h : rowStamps x = rowStamps y) : x = y := by
  obtain ⟨a, b⟩ := x; obtain ⟨c, d⟩ := y
  simp only [rowStamps, List.cons.injEq, DV.list.injEq, and_true] at h
  rw [rows_inj StampG.row_inj h.1, h.2]
structure MemG where
  locs : List LocG
  lf : Bool
  past : List StampsF
  pf : Bool
  vals : List Int
  vf : Bool
  marks : List RatsF
  mf : Bool
  fronts : List RatsF
  ff : Bool
def MemG.av (m : MemG) : AV := .agg [.d (.list (m.locs.map LocG.row) m.lf), .d (.list (m.past.map rowStamps) m.pf), .d (.list (m.vals.map rowI) m.vf), .d (.list (m.marks.map rowRats) m.mf), .d (.list (m.fronts.map rowRats) m.ff)]
theorem MemG.av_inj (x y : MemG) (h : x.av = y.av) : x = y := by
  obtain ⟨a, b, c, d, e, f, g, i, j, k⟩ := x; obtain ⟨a', b', c', d', e', f', g', i', j', k'⟩ := y
  simp only [MemG.av, AV.agg.injEq, List.cons.injEq, AV.d.injEq, DV.list.injEq, and_true] at h
  obtain ⟨⟨h1, h2⟩, ⟨h3, h4⟩, ⟨h5, h6⟩, ⟨h7, h8⟩, h9, h10⟩ := h
  rw [rows_inj LocG.row_inj h1, h2, rows_inj rowStamps_inj h3, h4, rows_inj rowI_inj h5, h6, rows_inj rowRats_inj h7, h8, rows_inj rowRats_inj h9, h10]
end Go.Ago

/- hist.copied: a memory in memory of its own. Conditions: none. -/
set_option maxRecDepth 100000
set_option linter.unusedSimpArgs false
set_option linter.unusedVariables false
namespace Go.Ago
/-- The first 'i' lists are of the memory's own now: nothing is known behind their ends. -/
def cpL {α : Type} (L : List (List α × Bool)) (i : Nat) : List (List α × Bool) := (L.take i).map (fun x => (x.1, false)) ++ L.drop i
theorem cpL_len {α : Type} (L : List (List α × Bool)) (i : Nat) : (cpL L i).length = L.length := by unfold cpL; simp; omega
theorem cpL_get {α : Type} {L : List (List α × Bool)} {i : Nat} {d : List α × Bool} (h : i < L.length) : (cpL L i).getD i d = L.getD i d := by
  unfold cpL
  rw [List.getD_eq_getElem?_getD, List.getElem?_append_right (by simp; omega), List.getElem?_drop, List.getD_eq_getElem?_getD]
  congr 2
  simp; omega
theorem cpL_set {α : Type} {L : List (List α × Bool)} {i : Nat} {d : List α × Bool} (h : i < L.length) : (cpL L i).set i ((L.getD i d).1, false) = cpL L (i + 1) := by
  unfold cpL
  rw [List.set_append_right _ _ (by simp; omega), List.drop_eq_getElem_cons h]
  have : i - ((L.take i).map (fun x => (x.1, false))).length = 0 := by simp; omega
  rw [this, List.set_cons_zero, List.take_add_one, List.getElem?_eq_getElem h, List.getD_eq_getElem?_getD, List.getElem?_eq_getElem h, List.map_append]
  simp
/-- A list of lists, as cells. -/
def Z2p {α : Type} (f : α → List DV) (L : List (List α × Bool)) : List (List AV) := L.map fun x => [.d (.list (x.1.map f) x.2)]
theorem Z32 {α : Type} (f : α → List DV) (L : List (List α × Bool)) : (Z2p f L).length = L.length := by simp [Z2p]
theorem rowsL_get {α : Type} {f : α → List DV} {L : List (List α × Bool)} {i : Nat} {d : List α × Bool} (h : i < L.length) : (Z2p f L).getD i [] = [.d (.list ((L.getD i d).1.map f) (L.getD i d).2)] := by
  unfold Z2p
  rw [List.getD_eq_getElem?_getD, List.getElem?_map, List.getElem?_eq_getElem h, List.getD_eq_getElem?_getD, List.getElem?_eq_getElem h]; rfl
theorem rowsL_cp {α : Type} {f : α → List DV} {L : List (List α × Bool)} {i : Nat} {d : List α × Bool} (h : i < L.length) : (Z2p f (cpL L i)).getD i [] = [.d (.list ((L.getD i d).1.map f) (L.getD i d).2)] := by
  rw [rowsL_get (d := d) (by rw [cpL_len]; exact h), cpL_get h]
theorem rowsL_set {α : Type} {f : α → List DV} {L : List (List α × Bool)} {i : Nat} {d : List α × Bool} (h : i < L.length) : (Z2p f (cpL L i)).set i [.d (.list ((L.getD i d).1.map f) false)] = Z2p f (cpL L (i + 1)) := by
  rw [← cpL_set (d := d) h]
  unfold Z2p
  rw [List.map_set]
theorem rowsL_over {α : Type} {f : α → List DV} {L : List (List α × Bool)} {i : Nat} {x : List AV} (h : i < L.length) : (Z2p f (cpL L i)).set i x = (Z2p f (cpL L (i + 1))).set i x := by
  rw [← rowsL_set (d := L[i]) h, List.set_set]
theorem iceL_data (id sz0 : Nat) (rows : List (List DV)) (x : DV) : AV.iceL id sz0 rows [.d x] = [.d x] := by simp [AV.iceL, AV.ice]
theorem iceRows_rowsL {α : Type} {f : α → List DV} (id sz0 : Nat) (rows : List (List DV)) (L : List (List α × Bool)) : iceRows id sz0 rows (Z2p f L) = Z2p f L := by
  unfold iceRows Z2p
  rw [List.map_map]
  exact List.map_congr_left fun x _ => iceL_data _ _ _ _
theorem iceRows_set (id sz0 : Nat) (rows : List (List DV)) (R : List (List AV)) (i : Nat) (x : List AV) : iceRows id sz0 rows (R.set i x) = (iceRows id sz0 rows R).set i (AV.iceL id sz0 rows x) := by
  unfold iceRows; rw [List.map_set]
theorem drows_rowsL {α : Type} {f : α → List DV} (L : List (List α × Bool)) : drows (Z2p f L) = some (L.map fun x => [.list (x.1.map f) x.2]) := by
  have : Z2p f L = (L.map fun x => [DV.list (x.1.map f) x.2]).map (·.map .d) := by unfold Z2p; rw [List.map_map]; rfl
  rw [this, drows_d]
theorem canL_data (ρ : List Nat) (x : DV) : AV.canL ρ [.d x] = some [.d x] := by simp [AV.canL, AV.can]
theorem Z1m {α : Type} {f : α → List DV} (ρ : List Nat) (L : List (List α × Bool)) : Z0z ρ (Z2p f L) = some (Z2p f L) := by
  unfold Z2p
  induction L with
  | nil => rfl
  | cons x L ih => simp [Z0z, canL_data, ih]
theorem canRows_set (ρ : List Nat) : ∀ (R R' : List (List AV)) (i : Nat) (x x' : List AV), Z0z ρ R = some R' → AV.canL ρ x = some x' → Z0z ρ (R.set i x) = some (R'.set i x') := by
  intro R
  induction R with
  | nil => intro R' i x x' h _; simp [Z0z] at h; subst h; simp [Z0z]
  | cons r R ih =>
    intro R' i x x' h hx
    simp only [Z0z] at h
    split at h
    · rename_i y ys h1 h2
      simp only [Option.some.injEq] at h; subst h
      cases i with
      | zero => simp [Z0z, hx, h2]
      | succ i => simp [Z0z, h1, ih ys i x x' h2 hx]
    · cases h
/-- Which list of stamps and which front are objects of their own afterwards. -/
structure Hole where
  p : Nat
  f : Nat
structure CpOk (h : Hole) (m : MemG) : Prop where
  locs : roomy m.locs.length 16
  vals : roomy m.vals.length 8
  past : roomy m.past.length 24
  marks : roomy m.marks.length 24
  fronts : roomy m.fronts.length 24
  pasts : ∀ r ∈ m.past, roomy r.1.length 24
  markss : ∀ r ∈ m.marks, roomy r.1.length 16
  frontss : ∀ r ∈ m.fronts, roomy r.1.length 16
  p : h.p < m.past.length
  f : h.f < m.fronts.length
def ef_copied (h : Hole) : EfN where
  A := MemG
  args m := [m.av]
  ok m := CpOk h m
  val m := .agg [.ref 0 2 0 m.locs.length true, .ref 2 1 0 m.past.length true, .ref 1 1 0 m.vals.length true, .ref 3 1 0 m.marks.length true, .ref 4 1 0 m.fronts.length true]
  news m := [.dvec 2 (m.locs.map LocG.row), .dvec 1 (m.vals.map rowI), .vec 1 ((Z2p StampG.row (cpL m.past m.past.length)).set h.p [.ref 5 3 0 (m.past.getD h.p default).1.length true]), .vec 1 (Z2p RatG.row (cpL m.marks m.marks.length)),
    .vec 1 ((Z2p RatG.row (cpL m.fronts m.fronts.length)).set h.f [.ref 6 2 0 (m.fronts.getD h.f default).1.length true]), .dvec 3 ((m.past.getD h.p default).1.map StampG.row), .dvec 2 ((m.fronts.getD h.f default).1.map RatG.row)]
set_option maxHeartbeats 4000000 in
theorem eff_hist_copied {T : Tab} {n1 n2 n3 n4 n5 n6 : Nat} (h : Hole) (k1 : Knows T n1 (cloneS 1 8)) (k2 : Knows T n2 (cloneS 2 16)) (k3 : Knows T n3 (cloneS 2 16)) (k4 : Knows T n4 (cloneS 1 24)) (k5 : Knows T n5 (cloneS 1 24)) (k6 : Knows T n6 (cloneS 3 24)) :
    (ef_copied h).Body T V_hist_copied (L_hist_copied n1 n2 n3 n4 n5 n6) R_hist_copied where
  ren m ρ := by simp [ef_copied, MemG.av, AV.ren, AV.renL]
  body := by
    have F1 := k1.F; have G1 := k1.G; have F2 := k2.F; have G2 := k2.G; have F3 := k3.F; have G3 := k3.G; have F4 := k4.F; have G4 := k4.G; have F5 := k5.F; have G5 := k5.G; have F6 := k6.F; have G6 := k6.G
    rintro ⟨a1, a2, a3, a4, a5, a6, a7, a8, a9, a10⟩ ⟨c1, c2, c3, c4, c5, c6, c7, c8, hp, hf⟩
    simp only at c1 c2 c3 c4 c5 c6 c7 c8 hp hf
    have m1 : a3.length ≤ 2 ^ 40 := c3.1
    have m2 : a7.length ≤ 2 ^ 40 := c4.1
    have m3 : a9.length ≤ 2 ^ 40 := c5.1
    unfold V_hist_copied L_hist_copied R_hist_copied
    simp only [↓Z03, ↓Z0p, ↓Z0c, ↓Z1h, ↓Z0a, ↓Z0o, ↓Z0n, Z25, Z05, Z0r, Z14, Z17, evN, Z13, Z0m, Z16, Z20, Z0l, Z0b, Z0k, evT, Opd.ev, Z04, Z00, Z15, Z21, Z1d, Z0t, Z09, Z1g, LOp.isNew, State.prune, Z1e, Z0y, AV.leaf, Heap.at, Z06, Z02, Z08, Z01, evLen, List.length_map, Z28, Z2v, chk, Z24, List.contains_cons, List.contains_nil, Bool.or_false, Bool.and_self, Z10, Z1o, fnOf, Z1l, Z3h, lens_I, lens_Loc, putRow, Z0q, Z2u, Nat.le_refl, ↓reduceIte, Nat.reduceAdd, Nat.reduceBEq, List.length_cons, List.length_nil, List.replicate_succ, List.replicate_zero, List.nil_append, List.cons_append, List.append_nil, List.map_cons, List.map_nil, List.all_cons, List.all_nil, List.set_cons_zero, List.set_cons_succ, List.getD_cons_zero, List.getD_cons_succ, List.drop_zero, List.drop_succ_cons, List.take_succ_cons, List.take_zero, List.flatten_cons, List.flatten_nil, Bool.and_true, Bool.not_false, true_and, and_true, true_or, or_true, and_self, Nat.reduceLT, Nat.reduceLeDiff, List.reverse_cons, List.reverse_nil, Nat.zero_add, Nat.add_zero, Bool.false_eq_true, ef_copied, MemG.av, F1, G1, F2, G2, F4, G4, F5, G5, at_clone]
    refine ⟨c1, c2, ⟨rows_len (f := rowStamps) (fun _ => rfl) _, c3⟩, ⟨rows_len (f := rowRats) (fun _ => rfl) _, c4⟩, ⟨rows_len (f := rowRats) (fun _ => rfl) _, c5⟩, ?_⟩
    refine Loop.thaw 4 (Nat.zero_le _) ?_
    have e3 : (a3.map rowStamps).map (·.map AV.d) = Z2p StampG.row (cpL a3 0) := by unfold Z2p cpL rowStamps; rw [List.map_map]; simp
    have r3 : ∀ i, i < a3.length → roomy (a3.getD i default).1.length 24 := fun i hi => c6 _ (by rw [Z2x hi]; exact List.getElem_mem hi)
    refine Loop.fam [1, 28, 29, 2] (fun i : Nat => if i ≤ h.p then ⟨[(1, .ptr 0 5 0 0), (28, .d (.int .i64 a3.length)), (29, .d (.int .i64 i)), (2, .ptr 1 5 0 0)], [.vec 5 [[.ref 2 2 0 a1.length true, .ref 4 1 0 a3.length true, .ref 3 1 0 a5.length true, .ref 5 1 0 a7.length true, .ref 6 1 0 a9.length true]], .vec 5 [[.d (.list [] true), .d (.list [] true), .d (.list [] true), .d (.list [] true), .d (.list [] true)]], .dvec 2 (a1.map LocG.row), .dvec 1 (a5.map rowI), .vec 1 (Z2p StampG.row (cpL a3 i)), .dvec 1 (a7.map rowRats), .dvec 1 (a9.map rowRats)]⟩ else ⟨[(1, .ptr 0 5 0 0), (28, .d (.int .i64 a3.length)), (29, .d (.int .i64 i)), (2, .ptr 1 5 0 0)], [.vec 5 [[.ref 2 2 0 a1.length true, .ref 4 1 0 a3.length true, .ref 3 1 0 a5.length true, .ref 5 1 0 a7.length true, .ref 6 1 0 a9.length true]], .vec 5 [[.d (.list [] true), .d (.list [] true), .d (.list [] true), .d (.list [] true), .d (.list [] true)]], .dvec 2 (a1.map LocG.row), .dvec 1 (a5.map rowI), .vec 1 ((Z2p StampG.row (cpL a3 i)).set h.p [.ref 7 3 0 (a3.getD h.p default).1.length true]), .dvec 1 (a7.map rowRats), .dvec 1 (a9.map rowRats), .dvec 3 ((a3.getD h.p default).1.map StampG.row)]⟩)
      (fun i => i ≤ a3.length) (fun i => a3.length - i) 0 [0, 1, 2, 3, 4, 5, 6] (by simp) (by simp [State.thaw]) (by
        rw [if_pos (Nat.zero_le _)]
        simp only [State.can, AV.can, AV.canL, HO.can, Z0z, idx, Z04, Z00, Heap.at, Nat.reduceBEq, ↓reduceIte, Nat.reduceEqDiff, Option.getD_some, Option.map_some, List.map_cons, List.map_nil, List.getD_cons_zero, List.getD_cons_succ, State.thaw, HO.thaw, e3, Z1m, List.set_cons_zero, List.set_cons_succ]; rfl) (by omega) ?_
    intro i hi
    have hi : i ≤ a3.length := hi
    have li : (cpL a3 i).length = a3.length := cpL_len a3 i
    by_cases hin : i < a3.length
    · have hge := rowsL_cp (f := StampG.row) (d := default) hin
      by_cases hip : i ≤ h.p
      · rw [if_pos hip]
        simp only [↓Z0h, ↓Z1a, ↓Z03, ↓Z0p, ↓Z0f, ↓Z0c, ↓Z1h, ↓Z0a, ↓Z0o, ↓Z1q, ↓Z12, ↓Z19, ↓Z0n, ↓famK_n, ↓Z30, ↓Z0d, Z25, Z05, Z0r, Z14, Z17, evN, Z13, Z0m, Z16, Z20, Z0l, Z0b, Z0k, Z0v, evT, Opd.ev, Z04, Z00, Z15, Z21, Z1d, Z0u, Z0w, Z09, Z1g, LOp.isNew, State.prune, Z1e, Z0y, Heap.at, Z06, Z02, Z07, Z08, Z01, Int.toNat_natCast, evLen, List.length_map, Z28, Z2v, Z2w, binT, binQ, chk, Z24, List.contains_cons, List.contains_nil, Bool.or_false, Bool.and_self, Z10, Z1o, fnOf, Z1l, Z3h, Z23, putRow, Z0q, Nat.le_refl, ↓reduceIte, Nat.reduceAdd, Nat.reduceBEq, List.length_cons, List.length_nil, List.replicate_succ, List.replicate_zero, List.nil_append, List.cons_append, List.append_nil, List.map_cons, List.map_nil, List.all_cons, List.all_nil, List.set_cons_zero, List.set_cons_succ, List.getD_cons_zero, List.getD_cons_succ, List.drop_zero, List.drop_succ_cons, List.take_zero, List.flatten_cons, List.flatten_nil, Bool.true_and, Bool.not_false, true_and, and_true, true_or, and_self, Nat.reduceLT, List.reverse_cons, List.reverse_nil, Nat.zero_add, Nat.add_zero, Bool.false_eq_true, F6, G6, at_clone, Z02, Z01, Z32, hge, li, List.getD_cons_zero]
        refine ⟨fun _ => ⟨⟨by omega, by omega⟩, hin, r3 i hin, ⟨by omega, by omega⟩, hin, ?_⟩, fun c => absurd c (by omega)⟩
        rw [Z2r hin (by unfold maxLen; omega)]
        by_cases hlt : i < h.p
        · refine Z0g.ices [7] (Z0g.thaw 0 (Z0g.thaw 1 (Z0g.thaw 4 (Z0g.mk [0, 1, 2, 3, 4, 5, 6] (i + 1) (by simp) (by simp [State.thaw, ices_len]) ?_ (by show i + 1 ≤ a3.length; omega) (by show a3.length - (i + 1) < a3.length - i; omega)))))
          rw [if_pos (show i + 1 ≤ h.p by omega)]
          simp only [State.can, AV.can, AV.canL, HO.can, Z0z, idx, Z04, Z00, Heap.at, Nat.reduceBEq, ↓reduceIte, Nat.reduceEqDiff, Option.getD_some, Option.map_some, List.map_cons, List.map_nil, List.getD_cons_zero, List.getD_cons_succ, State.ices, State.ice, HO.data, iceEnv, Z3g, HO.ice, AV.ice, AV.iceL, State.thaw, thaw_mkVec, Z3l, iceRows_nil, iceRows_set, iceRows_rowsL, Z1m, List.set_cons_zero, List.set_cons_succ, List.drop_zero, Z1j, List.take_length, Bool.not_true, Nat.zero_add, Nat.le_refl, List.length_map, and_self, Option.map_some, rowsL_set (d := default) hin]
          try rfl
        · have e : i = h.p := by omega
          have hcan : ∀ X : List (List AV), Z0z [0, 1, 2, 3, 4, 5, 6, 7] ((Z2p StampG.row (cpL a3 (h.p + 1))).set h.p [.ref 7 3 0 (a3.getD h.p default).1.length true]) = some ((Z2p StampG.row (cpL a3 (h.p + 1))).set h.p [.ref 7 3 0 (a3.getD h.p default).1.length true]) := fun _ => canRows_set _ _ _ _ _ _ (Z1m _ _) rfl
          refine Z0g.mk [0, 1, 2, 3, 4, 5, 6, 7] (i + 1) (by simp) (by simp) ?_ (by show i + 1 ≤ a3.length; omega) (by show a3.length - (i + 1) < a3.length - i; omega)
          rw [if_neg (show ¬ i + 1 ≤ h.p by omega), rowsL_over hin, e]
          simp only [State.can, AV.can, AV.canL, HO.can, Z0z, idx, Z04, Z00, Heap.at, Nat.reduceBEq, ↓reduceIte, Nat.reduceEqDiff, Option.getD_some, Option.map_some, List.map_cons, List.map_nil, List.getD_cons_zero, List.getD_cons_succ, hcan []]
      · rw [if_neg hip]
        have hge2 : ∀ x, ((Z2p StampG.row (cpL a3 i)).set h.p x).getD i [] = [.d (.list ((a3.getD i default).1.map StampG.row) (a3.getD i default).2)] := fun x => by
          rw [List.getD_eq_getElem?_getD, List.getElem?_set_ne (by omega), ← List.getD_eq_getElem?_getD]; exact hge
        simp only [↓Z0h, ↓Z1a, ↓Z03, ↓Z0p, ↓Z0f, ↓Z0c, ↓Z1h, ↓Z0a, ↓Z0o, ↓Z1q, ↓Z12, ↓Z19, ↓Z0n, ↓famK_n, ↓Z30, ↓Z0d, Z25, Z05, Z0r, Z14, Z17, evN, Z13, Z0m, Z16, Z20, Z0l, Z0b, Z0k, Z0v, evT, Opd.ev, Z04, Z00, Z15, Z21, Z1d, Z0u, Z0w, Z09, Z1g, LOp.isNew, State.prune, Z1e, Z0y, Heap.at, Z06, Z02, Z07, Z08, Z01, List.length_set, Int.toNat_natCast, evLen, List.length_map, Z28, Z2v, Z2w, binT, binQ, chk, Z24, List.contains_cons, List.contains_nil, Bool.or_false, Bool.and_self, Z10, Z1o, fnOf, Z1l, Z3h, Z23, putRow, Z0q, Nat.le_refl, ↓reduceIte, Nat.reduceAdd, Nat.reduceBEq, List.length_cons, List.length_nil, List.replicate_succ, List.replicate_zero, List.nil_append, List.cons_append, List.append_nil, List.map_cons, List.map_nil, List.all_cons, List.all_nil, List.set_cons_zero, List.set_cons_succ, List.getD_cons_zero, List.getD_cons_succ, List.drop_zero, List.drop_succ_cons, List.take_zero, List.flatten_cons, List.flatten_nil, Bool.true_and, Bool.not_false, true_and, and_true, true_or, and_self, Nat.reduceLT, List.reverse_cons, List.reverse_nil, Nat.zero_add, Nat.add_zero, Bool.false_eq_true, F6, G6, at_clone, Z02, Z01, Z32, List.length_set, hge2, li, List.getD_cons_zero]
        refine ⟨fun _ => ⟨⟨by omega, by omega⟩, hin, r3 i hin, ⟨by omega, by omega⟩, hin, ?_⟩, fun c => absurd c (by omega)⟩
        rw [Z2r hin (by unfold maxLen; omega)]
        have hcan : ∀ Y, Z0z [0, 1, 2, 3, 4, 5, 6, 7] ((Z2p StampG.row (cpL a3 Y)).set h.p [.ref 7 3 0 (a3.getD h.p default).1.length true]) = some ((Z2p StampG.row (cpL a3 Y)).set h.p [.ref 7 3 0 (a3.getD h.p default).1.length true]) := fun _ => canRows_set _ _ _ _ _ _ (Z1m _ _) rfl
        have hcm : ∀ x y, ((Z2p StampG.row (cpL a3 i)).set h.p x).set i y = ((Z2p StampG.row (cpL a3 i)).set i y).set h.p x := fun x y => List.set_comm _ _ (by omega)
        refine Z0g.ices [8] (Z0g.thaw 0 (Z0g.thaw 1 (Z0g.thaw 4 (Z0g.mk [0, 1, 2, 3, 4, 5, 6, 7] (i + 1) (by simp) (by simp [State.thaw, ices_len]) ?_ (by show i + 1 ≤ a3.length; omega) (by show a3.length - (i + 1) < a3.length - i; omega)))))
        rw [if_neg (show ¬ i + 1 ≤ h.p by omega)]
        simp only [State.can, AV.can, AV.canL, HO.can, Z0z, idx, Z04, Z00, Heap.at, Nat.reduceBEq, ↓reduceIte, Nat.reduceEqDiff, Option.getD_some, Option.map_some, List.map_cons, List.map_nil, List.getD_cons_zero, List.getD_cons_succ, State.ices, State.ice, HO.data, iceEnv, Z3g, HO.ice, AV.ice, AV.iceL, State.thaw, thaw_mkVec, Z3l, iceRows_nil, iceRows_set, iceRows_rowsL, List.set_cons_zero, List.set_cons_succ, List.drop_zero, Z1j, List.take_length, Bool.not_true, Nat.zero_add, Nat.le_refl, List.length_map, and_self, Option.map_some, hcm, rowsL_set (d := default) hin, hcan]
        try rfl
    · have e : i = a3.length := by omega
      subst e
      rw [if_neg (by omega)]
      simp only [↓Z0h, ↓Z1a, ↓Z03, ↓Z0p, ↓Z0f, ↓Z0c, ↓Z1h, ↓Z0a, ↓Z0o, ↓Z1q, ↓Z19, ↓Z0n, ↓Z30, ↓Z0d, Z25, Z05, Z14, Z17, evN, Z13, Z0m, Z16, Z20, Z0l, Z0b, Z0k, Z0v, evT, Opd.ev, Z04, Z00, Z15, Z0u, Z0w, Z09, Z1g, LOp.isNew, State.prune, Heap.at, Z06, Z02, Z07, List.length_set, Int.toNat_natCast, evLen, Z28, Z2v, Z2w, binT, binQ, Z10, Z1o, fnOf, Z1l, Z0q, ↓reduceIte, Nat.reduceAdd, Nat.reduceBEq, List.length_cons, List.length_nil, List.replicate_succ, List.replicate_zero, List.nil_append, List.cons_append, List.append_nil, List.map_cons, List.map_nil, List.getD_cons_zero, List.getD_cons_succ, true_and, and_self, Nat.reduceLT, Nat.zero_add, Nat.add_zero, Bool.false_eq_true, F6, G6, Z02, Z32, List.length_set, li, List.getD_cons_zero]
      refine ⟨fun c => absurd c (by omega), fun _ => ?_⟩
      refine Loop.thaw 5 (Nat.zero_le _) ?_
      have e7 : (a7.map rowRats).map (·.map AV.d) = Z2p RatG.row (cpL a7 0) := by unfold Z2p cpL rowRats; rw [List.map_map]; simp
      have r7 : ∀ i, i < a7.length → roomy (a7.getD i default).1.length 16 := fun i hi => c7 _ (by rw [Z2x hi]; exact List.getElem_mem hi)
      have hcp : Z0z [0, 1, 2, 3, 4, 5, 6, 7] ((Z2p StampG.row (cpL a3 a3.length)).set h.p [.ref 7 3 0 (a3.getD h.p default).1.length true]) = some ((Z2p StampG.row (cpL a3 a3.length)).set h.p [.ref 7 3 0 (a3.getD h.p default).1.length true]) := canRows_set _ _ _ _ _ _ (Z1m _ _) rfl
      clear hin li hi
      refine Loop.fam [1, 45, 46, 2] (fun i : Nat => ⟨[(1, .ptr 0 5 0 0), (45, .d (.int .i64 a7.length)), (46, .d (.int .i64 i)), (2, .ptr 1 5 0 0)], [.vec 5 [[.ref 2 2 0 a1.length true, .ref 4 1 0 a3.length true, .ref 3 1 0 a5.length true, .ref 5 1 0 a7.length true, .ref 6 1 0 a9.length true]], .vec 5 [[.d (.list [] true), .d (.list [] true), .d (.list [] true), .d (.list [] true), .d (.list [] true)]], .dvec 2 (a1.map LocG.row), .dvec 1 (a5.map rowI), .vec 1 ((Z2p StampG.row (cpL a3 a3.length)).set h.p [.ref 7 3 0 (a3.getD h.p default).1.length true]), .vec 1 (Z2p RatG.row (cpL a7 i)), .dvec 1 (a9.map rowRats), .dvec 3 ((a3.getD h.p default).1.map StampG.row)]⟩)
        (fun i => i ≤ a7.length) (fun i => a7.length - i) 0 [0, 1, 2, 3, 4, 5, 6, 7] (by simp) (by simp [State.thaw]) (by
          simp only [State.can, AV.can, AV.canL, HO.can, Z0z, idx, Z04, Z00, Heap.at, Nat.reduceBEq, ↓reduceIte, Nat.reduceEqDiff, Option.getD_some, Option.map_some, List.map_cons, List.map_nil, List.getD_cons_zero, List.getD_cons_succ, State.thaw, HO.thaw, e7, Z1m, hcp, List.set_cons_zero, List.set_cons_succ]; rfl) (by omega) ?_
      intro i hi
      have hi : i ≤ a7.length := hi
      have li : (cpL a7 i).length = a7.length := cpL_len a7 i
      by_cases hin : i < a7.length
      · have hge := rowsL_cp (f := RatG.row) (d := default) hin
        simp only [↓Z0h, ↓Z1a, ↓Z03, ↓Z0p, ↓Z0f, ↓Z0c, ↓Z1h, ↓Z0a, ↓Z0o, ↓Z1q, ↓Z12, ↓Z19, ↓Z0n, ↓famK_n, ↓Z30, ↓Z0d, Z25, Z05, Z0r, Z14, Z17, evN, Z13, Z0m, Z16, Z20, Z0l, Z0b, Z0k, Z0v, evT, Opd.ev, Z04, Z00, Z15, Z21, Z1d, Z0u, Z0w, Z09, Z1g, LOp.isNew, State.prune, Z1e, Z0y, Heap.at, Z06, Z02, Z07, Z08, Z01, Int.toNat_natCast, evLen, List.length_map, Z28, Z2v, Z2w, binT, binQ, chk, Z24, List.contains_cons, List.contains_nil, Bool.or_false, Bool.and_self, Z10, Z1o, fnOf, Z1l, Z3h, Z2y, putRow, Z0q, Z1c, Nat.le_refl, ↓reduceIte, Nat.reduceAdd, Nat.reduceBEq, List.length_cons, List.length_nil, List.replicate_succ, List.replicate_zero, List.nil_append, List.cons_append, List.append_nil, List.map_cons, List.map_nil, List.all_cons, List.all_nil, List.set_cons_zero, List.set_cons_succ, List.getD_cons_zero, List.getD_cons_succ, List.drop_zero, List.drop_succ_cons, List.take_zero, List.flatten_cons, List.flatten_nil, Bool.true_and, Bool.not_false, true_and, and_true, or_true, and_self, Nat.reduceLT, List.reverse_cons, List.reverse_nil, Nat.zero_add, Nat.add_zero, Bool.false_eq_true, F3, G3, at_clone, Z02, Z01, Z32, hge, li, List.getD_cons_zero]
        refine ⟨fun _ => ⟨⟨by omega, by omega⟩, hin, r7 i hin, ⟨by omega, by omega⟩, hin, ?_⟩, fun c => absurd c (by omega)⟩
        rw [Z2r hin (by unfold maxLen; omega)]
        refine Z0g.ices [8] (Z0g.thaw 0 (Z0g.thaw 1 (Z0g.thaw 4 (Z0g.thaw 5 (Z0g.mk [0, 1, 2, 3, 4, 5, 6, 7] (i + 1) (by simp) (by simp [State.thaw, ices_len]) ?_ (by show i + 1 ≤ a7.length; omega) (by show a7.length - (i + 1) < a7.length - i; omega))))))
        simp only [State.can, AV.can, AV.canL, HO.can, Z0z, idx, Z04, Z00, Heap.at, Nat.reduceBEq, ↓reduceIte, Nat.reduceEqDiff, Option.getD_some, Option.map_some, List.map_cons, List.map_nil, List.getD_cons_zero, List.getD_cons_succ, State.ices, State.ice, HO.data, iceEnv, Z3g, HO.ice, AV.ice, AV.iceL, State.thaw, thaw_mkVec, Z3l, iceRows_nil, iceRows_set, iceRows_rowsL, Z1m, List.set_cons_zero, List.set_cons_succ, List.drop_zero, Z1j, List.take_length, Bool.not_true, Nat.zero_add, Nat.le_refl, List.length_map, and_self, Option.map_some, rowsL_set (d := default) hin, hcp]
        try rfl
      · have e : i = a7.length := by omega
        subst e
        simp only [↓Z0h, ↓Z1a, ↓Z03, ↓Z0p, ↓Z0f, ↓Z0c, ↓Z1h, ↓Z0a, ↓Z0o, ↓Z1q, ↓Z19, ↓Z0n, ↓Z30, ↓Z0d, Z25, Z05, Z14, Z17, evN, Z13, Z0m, Z16, Z20, Z0l, Z0b, Z0k, Z0v, evT, Opd.ev, Z04, Z00, Z15, Z0u, Z0w, Z09, Z1g, LOp.isNew, State.prune, Heap.at, Z06, Z02, Z07, Int.toNat_natCast, evLen, Z28, Z2v, Z2w, binT, binQ, Z10, Z1o, fnOf, Z1l, Z0q, ↓reduceIte, Nat.reduceAdd, Nat.reduceBEq, List.length_cons, List.length_nil, List.replicate_succ, List.replicate_zero, List.nil_append, List.cons_append, List.append_nil, List.map_cons, List.map_nil, List.getD_cons_zero, List.getD_cons_succ, true_and, and_self, Nat.reduceLT, Nat.zero_add, Nat.add_zero, Bool.false_eq_true, F3, G3, Z02, Z32, li, List.getD_cons_zero]
        refine ⟨fun c => absurd c (by omega), fun _ => ?_⟩
        refine Loop.thaw 6 (Nat.zero_le _) ?_
        have e9 : (a9.map rowRats).map (·.map AV.d) = Z2p RatG.row (cpL a9 0) := by unfold Z2p cpL rowRats; rw [List.map_map]; simp
        have r9 : ∀ i, i < a9.length → roomy (a9.getD i default).1.length 16 := fun i hi => c8 _ (by rw [Z2x hi]; exact List.getElem_mem hi)
        have hcp9 : Z0z [0, 1, 2, 3, 4, 5, 6, 7, 8] ((Z2p StampG.row (cpL a3 a3.length)).set h.p [.ref 7 3 0 (a3.getD h.p default).1.length true]) = some ((Z2p StampG.row (cpL a3 a3.length)).set h.p [.ref 7 3 0 (a3.getD h.p default).1.length true]) := canRows_set _ _ _ _ _ _ (Z1m _ _) rfl
        have hcf9 : ∀ Y, Z0z [0, 1, 2, 3, 4, 5, 6, 7, 8] ((Z2p RatG.row (cpL a9 Y)).set h.f [.ref 8 2 0 (a9.getD h.f default).1.length true]) = some ((Z2p RatG.row (cpL a9 Y)).set h.f [.ref 8 2 0 (a9.getD h.f default).1.length true]) := fun _ => canRows_set _ _ _ _ _ _ (Z1m _ _) rfl
        clear hin li hi
        refine Loop.fam [1, 62, 63, 2] (fun i : Nat => if i ≤ h.f then ⟨[(1, .ptr 0 5 0 0), (62, .d (.int .i64 a9.length)), (63, .d (.int .i64 i)), (2, .ptr 1 5 0 0)], [.vec 5 [[.ref 2 2 0 a1.length true, .ref 4 1 0 a3.length true, .ref 3 1 0 a5.length true, .ref 5 1 0 a7.length true, .ref 6 1 0 a9.length true]], .vec 5 [[.d (.list [] true), .d (.list [] true), .d (.list [] true), .d (.list [] true), .d (.list [] true)]], .dvec 2 (a1.map LocG.row), .dvec 1 (a5.map rowI), .vec 1 ((Z2p StampG.row (cpL a3 a3.length)).set h.p [.ref 7 3 0 (a3.getD h.p default).1.length true]), .vec 1 (Z2p RatG.row (cpL a7 a7.length)), .vec 1 (Z2p RatG.row (cpL a9 i)), .dvec 3 ((a3.getD h.p default).1.map StampG.row)]⟩ else ⟨[(1, .ptr 0 5 0 0), (62, .d (.int .i64 a9.length)), (63, .d (.int .i64 i)), (2, .ptr 1 5 0 0)], [.vec 5 [[.ref 2 2 0 a1.length true, .ref 4 1 0 a3.length true, .ref 3 1 0 a5.length true, .ref 5 1 0 a7.length true, .ref 6 1 0 a9.length true]], .vec 5 [[.d (.list [] true), .d (.list [] true), .d (.list [] true), .d (.list [] true), .d (.list [] true)]], .dvec 2 (a1.map LocG.row), .dvec 1 (a5.map rowI), .vec 1 ((Z2p StampG.row (cpL a3 a3.length)).set h.p [.ref 7 3 0 (a3.getD h.p default).1.length true]), .vec 1 (Z2p RatG.row (cpL a7 a7.length)), .vec 1 ((Z2p RatG.row (cpL a9 i)).set h.f [.ref 8 2 0 (a9.getD h.f default).1.length true]), .dvec 3 ((a3.getD h.p default).1.map StampG.row), .dvec 2 ((a9.getD h.f default).1.map RatG.row)]⟩)
          (fun i => i ≤ a9.length) (fun i => a9.length - i) 0 [0, 1, 2, 3, 4, 5, 6, 7] (by simp) (by simp [State.thaw]) (by
            rw [if_pos (Nat.zero_le _)]
            simp only [State.can, AV.can, AV.canL, HO.can, Z0z, idx, Z04, Z00, Heap.at, Nat.reduceBEq, ↓reduceIte, Nat.reduceEqDiff, Option.getD_some, Option.map_some, List.map_cons, List.map_nil, List.getD_cons_zero, List.getD_cons_succ, State.thaw, HO.thaw, e9, Z1m, hcp, List.set_cons_zero, List.set_cons_succ]; rfl) (by omega) ?_
        intro i hi
        have hi : i ≤ a9.length := hi
        have li : (cpL a9 i).length = a9.length := cpL_len a9 i
        by_cases hin : i < a9.length
        · have hge := rowsL_cp (f := RatG.row) (d := default) hin
          by_cases hip : i ≤ h.f
          · rw [if_pos hip]
            simp only [↓Z0h, ↓Z11, ↓Z1a, ↓Z03, ↓Z0p, ↓Z0f, ↓Z0c, ↓Z0a, ↓Z0o, ↓Z1q, ↓Z12, ↓Z19, ↓Z0n, ↓Z1r, ↓famK_n, ↓Z30, ↓Z0d, Z25, Z05, Z0r, Z14, Z17, evN, Z13, Z0m, Z16, Z20, Z0l, Z0b, Z0k, Z0v, evT, Opd.ev, Z04, Z00, Z15, Z21, Z1d, Z0u, Z0w, Z09, Z1g, LOp.isNew, State.prune, Z1e, Z0y, AV.leaf, Heap.at, Z06, Z02, Z07, Z08, Z01, Int.toNat_natCast, List.length_map, List.take_of_length_le, Z28, Z2v, Z2w, binT, binQ, chk, Z24, List.contains_cons, List.contains_nil, Bool.or_false, Bool.and_self, resQ, resV, resT, Z10, Z1o, fnOf, Z1l, Z3h, Z2y, putRow, Z0q, Z1c, Nat.le_refl, ↓reduceIte, Nat.reduceAdd, Nat.reduceBEq, List.length_cons, List.length_nil, List.replicate_succ, List.replicate_zero, List.nil_append, List.cons_append, List.append_nil, List.map_cons, List.map_nil, List.all_cons, List.all_nil, List.set_cons_zero, List.set_cons_succ, List.getD_cons_zero, List.getD_cons_succ, List.drop_zero, List.drop_succ_cons, List.take_zero, List.flatten_cons, List.flatten_nil, Bool.true_and, Bool.not_false, true_and, and_true, or_true, and_self, Nat.reduceLT, List.reverse_cons, List.reverse_nil, Nat.zero_add, Nat.add_zero, Bool.false_eq_true, F3, G3, at_clone, Z02, Z01, Z32, hge, li, List.getD_cons_zero]
            refine ⟨fun _ => ⟨⟨by omega, by omega⟩, hin, r9 i hin, ⟨by omega, by omega⟩, hin, ?_⟩, fun c => absurd c (by omega)⟩
            rw [Z2r hin (by unfold maxLen; omega)]
            by_cases hlt : i < h.f
            · refine Z0g.ices [8] (Z0g.thaw 0 (Z0g.thaw 1 (Z0g.thaw 4 (Z0g.thaw 5 (Z0g.thaw 6 (Z0g.mk [0, 1, 2, 3, 4, 5, 6, 7] (i + 1) (by simp) (by simp [State.thaw, ices_len]) ?_ (by show i + 1 ≤ a9.length; omega) (by show a9.length - (i + 1) < a9.length - i; omega)))))))
              rw [if_pos (show i + 1 ≤ h.f by omega)]
              simp only [State.can, AV.can, AV.canL, HO.can, Z0z, idx, Z04, Z00, Heap.at, Nat.reduceBEq, ↓reduceIte, Nat.reduceEqDiff, Option.getD_some, Option.map_some, List.map_cons, List.map_nil, List.getD_cons_zero, List.getD_cons_succ, State.ices, State.ice, HO.data, iceEnv, Z3g, HO.ice, AV.ice, AV.iceL, State.thaw, thaw_mkVec, Z3l, iceRows_nil, iceRows_set, iceRows_rowsL, Z1m, List.set_cons_zero, List.set_cons_succ, List.drop_zero, Z1j, List.take_length, Bool.not_true, Nat.zero_add, Nat.le_refl, List.length_map, and_self, Option.map_some, rowsL_set (d := default) hin, hcp]
              try rfl
            · have e : i = h.f := by omega
              refine Z0g.mk [0, 1, 2, 3, 4, 5, 6, 7, 8] (i + 1) (by simp) (by simp) ?_ (by show i + 1 ≤ a9.length; omega) (by show a9.length - (i + 1) < a9.length - i; omega)
              rw [if_neg (show ¬ i + 1 ≤ h.f by omega), rowsL_over hin, e]
              simp only [State.can, AV.can, AV.canL, HO.can, Z0z, idx, Z04, Z00, Heap.at, Nat.reduceBEq, ↓reduceIte, Nat.reduceEqDiff, Option.getD_some, Option.map_some, List.map_cons, List.map_nil, List.getD_cons_zero, List.getD_cons_succ, hcf9, hcp9, Z1m]
          · rw [if_neg hip]
            have hge2 : ∀ x, ((Z2p RatG.row (cpL a9 i)).set h.f x).getD i [] = [.d (.list ((a9.getD i default).1.map RatG.row) (a9.getD i default).2)] := fun x => by
              rw [List.getD_eq_getElem?_getD, List.getElem?_set_ne (by omega), ← List.getD_eq_getElem?_getD]; exact hge
            simp only [↓Z0h, ↓Z11, ↓Z1a, ↓Z03, ↓Z0p, ↓Z0f, ↓Z0c, ↓Z0a, ↓Z0o, ↓Z1q, ↓Z12, ↓Z19, ↓Z0n, ↓Z1r, ↓famK_n, ↓Z30, ↓Z0d, Z25, Z05, Z0r, Z14, Z17, evN, Z13, Z0m, Z16, Z20, Z0l, Z0b, Z0k, Z0v, evT, Opd.ev, Z04, Z00, Z15, Z21, Z1d, Z0u, Z0w, Z09, Z1g, LOp.isNew, State.prune, Z1e, Z0y, AV.leaf, Heap.at, Z06, Z02, Z07, Z08, Z01, List.length_set, Int.toNat_natCast, List.length_map, List.take_of_length_le, Z28, Z2v, Z2w, binT, binQ, chk, Z24, List.contains_cons, List.contains_nil, Bool.or_false, Bool.and_self, resQ, resV, resT, Z10, Z1o, fnOf, Z1l, Z3h, Z2y, putRow, Z0q, Z1c, Nat.le_refl, ↓reduceIte, Nat.reduceAdd, Nat.reduceBEq, List.length_cons, List.length_nil, List.replicate_succ, List.replicate_zero, List.nil_append, List.cons_append, List.append_nil, List.map_cons, List.map_nil, List.all_cons, List.all_nil, List.set_cons_zero, List.set_cons_succ, List.getD_cons_zero, List.getD_cons_succ, List.drop_zero, List.drop_succ_cons, List.take_zero, List.flatten_cons, List.flatten_nil, Bool.true_and, Bool.not_false, true_and, and_true, or_true, and_self, Nat.reduceLT, List.reverse_cons, List.reverse_nil, Nat.zero_add, Nat.add_zero, Bool.false_eq_true, F3, G3, at_clone, Z02, Z01, Z32, List.length_set, hge2, li, List.getD_cons_zero]
            refine ⟨fun _ => ⟨⟨by omega, by omega⟩, hin, r9 i hin, ⟨by omega, by omega⟩, hin, ?_⟩, fun c => absurd c (by omega)⟩
            rw [Z2r hin (by unfold maxLen; omega)]
            have hcm : ∀ x y, ((Z2p RatG.row (cpL a9 i)).set h.f x).set i y = ((Z2p RatG.row (cpL a9 i)).set i y).set h.f x := fun x y => List.set_comm _ _ (by omega)
            refine Z0g.ices [9] (Z0g.thaw 0 (Z0g.thaw 1 (Z0g.thaw 4 (Z0g.thaw 5 (Z0g.thaw 6 (Z0g.mk [0, 1, 2, 3, 4, 5, 6, 7, 8] (i + 1) (by simp) (by simp [State.thaw, ices_len]) ?_ (by show i + 1 ≤ a9.length; omega) (by show a9.length - (i + 1) < a9.length - i; omega)))))))
            rw [if_neg (show ¬ i + 1 ≤ h.f by omega)]
            simp only [State.can, AV.can, AV.canL, HO.can, Z0z, idx, Z04, Z00, Heap.at, Nat.reduceBEq, ↓reduceIte, Nat.reduceEqDiff, Option.getD_some, Option.map_some, List.map_cons, List.map_nil, List.getD_cons_zero, List.getD_cons_succ, State.ices, State.ice, HO.data, iceEnv, Z3g, HO.ice, AV.ice, AV.iceL, State.thaw, thaw_mkVec, Z3l, iceRows_nil, iceRows_set, iceRows_rowsL, Z1m, List.set_cons_zero, List.set_cons_succ, List.drop_zero, Z1j, List.take_length, Bool.not_true, Nat.zero_add, Nat.le_refl, List.length_map, and_self, Option.map_some, hcm, rowsL_set (d := default) hin, hcp9, hcf9]
            try rfl
        · have e : i = a9.length := by omega
          subst e
          rw [if_neg (by omega)]
          simp only [↓Z0h, ↓Z11, ↓Z1a, ↓Z03, ↓Z0p, ↓Z0f, ↓Z0c, ↓Z0a, ↓Z0o, ↓Z1q, ↓Z19, ↓Z0n, ↓Z1r, ↓Z30, ↓Z0d, Z25, Z05, Z14, Z17, evN, Z13, Z0m, Z16, Z20, Z0l, Z0b, Z0k, Z0v, evT, Opd.ev, Z04, Z00, Z15, Z21, Z1d, Z0u, Z0w, Z09, Z1g, LOp.isNew, State.prune, Z1e, Z0y, AV.leaf, Heap.at, Z06, Z02, Z07, Z08, Z01, List.length_set, Int.toNat_natCast, List.take_of_length_le, Z28, Z2v, Z2w, binT, binQ, Bool.and_self, resQ, resV, resT, Z10, Z1o, fnOf, Z1l, putRow, Z0q, Nat.le_refl, ↓reduceIte, Nat.reduceAdd, Nat.reduceBEq, List.length_cons, List.length_nil, List.replicate_succ, List.replicate_zero, List.nil_append, List.cons_append, List.append_nil, List.map_cons, List.map_nil, List.all_cons, List.all_nil, List.set_cons_zero, List.set_cons_succ, List.getD_cons_zero, List.getD_cons_succ, List.drop_zero, List.drop_succ_cons, List.take_zero, true_and, and_self, Nat.reduceLT, Nat.zero_add, Nat.add_zero, Bool.false_eq_true, F3, G3, Z02, Z01, Z32, List.length_set, li, List.getD_cons_zero]
          refine ⟨fun c => absurd c (by omega), fun _ => ?_⟩
          have x1 : Z0z [2, 3, 4, 5, 6, 7, 8] ((Z2p StampG.row (cpL a3 a3.length)).set h.p [.ref 7 3 0 (a3.getD h.p default).1.length true]) = some ((Z2p StampG.row (cpL a3 a3.length)).set h.p [.ref 5 3 0 (a3.getD h.p default).1.length true]) := canRows_set _ _ _ _ _ _ (Z1m _ _) rfl
          have x2 : Z0z [2, 3, 4, 5, 6, 7, 8] ((Z2p RatG.row (cpL a9 a9.length)).set h.f [.ref 8 2 0 (a9.getD h.f default).1.length true]) = some ((Z2p RatG.row (cpL a9 a9.length)).set h.f [.ref 6 2 0 (a9.getD h.f default).1.length true]) := canRows_set _ _ _ _ _ _ (Z1m _ _) rfl
          refine RetG.mk [2, 3, 4, 5, 6, 7, 8] (by simp) (by simp) (fun i h => absurd h (by omega)) ?_ ?_
          · simp only [AV.can, AV.canL, idx, ↓reduceIte, Nat.reduceEqDiff, Option.map_some]
          · simp only [HO.can, Heap.at, List.map_cons, List.map_nil, List.getD_cons_zero, List.getD_cons_succ, x1, x2, Z1m]
theorem at_copied (h : Hole) (a1 : List LocG) (a2 : Bool) (a3 : List StampsF) (a4 : Bool) (a5 : List Int) (a6 : Bool) (a7 : List RatsF) (a8 : Bool) (a9 : List RatsF) (a10 : Bool) (H : Heap) :
    (ef_copied h).at [.agg [.d (.list (a1.map LocG.row) a2), .d (.list (a3.map rowStamps) a4), .d (.list (a5.map rowI) a6), .d (.list (a7.map rowRats) a8), .d (.list (a9.map rowRats) a10)]] H = some ((ef_copied h).eff ⟨a1, a2, a3, a4, a5, a6, a7, a8, a9, a10⟩ H) :=
  EfN.at_enc (e := ef_copied h) (fun (x y : MemG) e => by
    simp only [ef_copied, List.cons.injEq, and_true] at e
    exact MemG.av_inj _ _ e) ⟨a1, a2, a3, a4, a5, a6, a7, a8, a9, a10⟩ H
end Go.Ago

/- hist.copied, where nothing of it is changed afterwards. Conditions: none. -/
set_option maxRecDepth 100000
set_option linter.unusedSimpArgs false
set_option linter.unusedVariables false
namespace Go.Ago
structure CpOk0 (m : MemG) : Prop where
  locs : roomy m.locs.length 16
  vals : roomy m.vals.length 8
  past : roomy m.past.length 24
  marks : roomy m.marks.length 24
  fronts : roomy m.fronts.length 24
  pasts : ∀ r ∈ m.past, roomy r.1.length 24
  markss : ∀ r ∈ m.marks, roomy r.1.length 16
  frontss : ∀ r ∈ m.fronts, roomy r.1.length 16
def ef_copied0 : EfN where
  A := MemG
  args m := [m.av]
  ok m := CpOk0 m
  val m := .agg [.ref 0 2 0 m.locs.length true, .ref 2 1 0 m.past.length true, .ref 1 1 0 m.vals.length true, .ref 3 1 0 m.marks.length true, .ref 4 1 0 m.fronts.length true]
  news m := [.dvec 2 (m.locs.map LocG.row), .dvec 1 (m.vals.map rowI), .vec 1 (Z2p StampG.row (cpL m.past m.past.length)), .vec 1 (Z2p RatG.row (cpL m.marks m.marks.length)), .vec 1 (Z2p RatG.row (cpL m.fronts m.fronts.length))]
set_option maxHeartbeats 4000000 in
theorem eff0_hist_copied {T : Tab} {n1 n2 n3 n4 n5 n6 : Nat} (k1 : Knows T n1 (cloneS 1 8)) (k2 : Knows T n2 (cloneS 2 16)) (k3 : Knows T n3 (cloneS 2 16)) (k4 : Knows T n4 (cloneS 1 24)) (k5 : Knows T n5 (cloneS 1 24)) (k6 : Knows T n6 (cloneS 3 24)) :
    ef_copied0.Body T V_hist_copied (L_hist_copied n1 n2 n3 n4 n5 n6) R_hist_copied where
  ren m ρ := by simp [ef_copied0, MemG.av, AV.ren, AV.renL]
  body := by
    have F1 := k1.F; have G1 := k1.G; have F2 := k2.F; have G2 := k2.G; have F3 := k3.F; have G3 := k3.G; have F4 := k4.F; have G4 := k4.G; have F5 := k5.F; have G5 := k5.G; have F6 := k6.F; have G6 := k6.G
    rintro ⟨a1, a2, a3, a4, a5, a6, a7, a8, a9, a10⟩ ⟨c1, c2, c3, c4, c5, c6, c7, c8⟩
    simp only at c1 c2 c3 c4 c5 c6 c7 c8
    have m1 : a3.length ≤ 2 ^ 40 := c3.1
    have m2 : a7.length ≤ 2 ^ 40 := c4.1
    have m3 : a9.length ≤ 2 ^ 40 := c5.1
    have e_a3 : (a3.map rowStamps).map (·.map AV.d) = Z2p StampG.row (cpL a3 0) := by unfold Z2p cpL rowStamps; rw [List.map_map]; simp
    have r_a3 : ∀ i, i < a3.length → roomy (a3.getD i default).1.length 24 := fun i hi => c6 _ (by rw [Z2x hi]; exact List.getElem_mem hi)
    have e_a7 : (a7.map rowRats).map (·.map AV.d) = Z2p RatG.row (cpL a7 0) := by unfold Z2p cpL rowRats; rw [List.map_map]; simp
    have r_a7 : ∀ i, i < a7.length → roomy (a7.getD i default).1.length 16 := fun i hi => c7 _ (by rw [Z2x hi]; exact List.getElem_mem hi)
    have e_a9 : (a9.map rowRats).map (·.map AV.d) = Z2p RatG.row (cpL a9 0) := by unfold Z2p cpL rowRats; rw [List.map_map]; simp
    have r_a9 : ∀ i, i < a9.length → roomy (a9.getD i default).1.length 16 := fun i hi => c8 _ (by rw [Z2x hi]; exact List.getElem_mem hi)
    unfold V_hist_copied L_hist_copied R_hist_copied
    simp only [↓Z03, ↓Z0p, ↓Z0c, ↓Z1h, ↓Z0a, ↓Z0o, ↓Z0n, Z25, Z05, Z0r, Z14, Z17, evN, Z13, Z0m, Z16, Z20, Z0l, Z0b, Z0k, evT, Opd.ev, Z04, Z00, Z15, Z21, Z1d, Z0t, Z09, Z1g, LOp.isNew, State.prune, Z1e, Z0y, AV.leaf, Heap.at, Z06, Z02, Z08, Z01, evLen, List.length_map, Z28, Z2v, chk, Z24, List.contains_cons, List.contains_nil, Bool.or_false, Bool.and_self, Z10, Z1o, fnOf, Z1l, Z3h, lens_I, lens_Loc, putRow, Z0q, Z2u, Nat.le_refl, ↓reduceIte, Nat.reduceAdd, Nat.reduceBEq, List.length_cons, List.length_nil, List.replicate_succ, List.replicate_zero, List.nil_append, List.cons_append, List.append_nil, List.map_cons, List.map_nil, List.all_cons, List.all_nil, List.set_cons_zero, List.set_cons_succ, List.getD_cons_zero, List.getD_cons_succ, List.drop_zero, List.drop_succ_cons, List.take_succ_cons, List.take_zero, List.flatten_cons, List.flatten_nil, Bool.and_true, Bool.not_false, true_and, and_true, true_or, or_true, and_self, Nat.reduceLT, Nat.reduceLeDiff, List.reverse_cons, List.reverse_nil, Nat.zero_add, Nat.add_zero, Bool.false_eq_true, ef_copied0, MemG.av, F1, G1, F2, G2, F4, G4, F5, G5, at_clone]
    refine ⟨c1, c2, ⟨rows_len (f := rowStamps) (fun _ => rfl) _, c3⟩, ⟨rows_len (f := rowRats) (fun _ => rfl) _, c4⟩, ⟨rows_len (f := rowRats) (fun _ => rfl) _, c5⟩, ?_⟩
    refine Loop.thaw 4 (Nat.zero_le _) ?_
    refine Loop.fam [1, 28, 29, 2] (fun i : Nat => ⟨[(1, .ptr 0 5 0 0), (28, .d (.int .i64 a3.length)), (29, .d (.int .i64 i)), (2, .ptr 1 5 0 0)], [.vec 5 [[.ref 2 2 0 a1.length true, .ref 4 1 0 a3.length true, .ref 3 1 0 a5.length true, .ref 5 1 0 a7.length true, .ref 6 1 0 a9.length true]], .vec 5 [[.d (.list [] true), .d (.list [] true), .d (.list [] true), .d (.list [] true), .d (.list [] true)]], .dvec 2 (a1.map LocG.row), .dvec 1 (a5.map rowI), .vec 1 (Z2p StampG.row (cpL a3 i)), .dvec 1 (a7.map rowRats), .dvec 1 (a9.map rowRats)]⟩)
      (fun i => i ≤ a3.length) (fun i => a3.length - i) 0 [0, 1, 2, 3, 4, 5, 6] (by simp) (by simp [State.thaw]) (by
        simp only [State.can, AV.can, AV.canL, HO.can, Z0z, idx, Z04, Z00, Heap.at, Nat.reduceBEq, ↓reduceIte, Nat.reduceEqDiff, Option.getD_some, Option.map_some, List.map_cons, List.map_nil, List.getD_cons_zero, List.getD_cons_succ, State.thaw, HO.thaw, e_a3, Z1m, List.set_cons_zero, List.set_cons_succ]; rfl) (by omega) ?_
    intro i hi
    have hi : i ≤ a3.length := hi
    have li : (cpL a3 i).length = a3.length := cpL_len a3 i
    by_cases hin : i < a3.length
    · have hge := rowsL_cp (f := StampG.row) (d := default) hin
      simp only [↓Z0h, ↓Z1a, ↓Z03, ↓Z0p, ↓Z0f, ↓Z0c, ↓Z1h, ↓Z0a, ↓Z0o, ↓Z1q, ↓Z12, ↓Z19, ↓Z0n, ↓famK_n, ↓Z30, ↓Z0d, Z25, Z05, Z0r, Z14, Z17, evN, Z13, Z0m, Z16, Z20, Z0l, Z0b, Z0k, Z0v, evT, Opd.ev, Z04, Z00, Z15, Z21, Z1d, Z0u, Z0w, Z09, Z1g, LOp.isNew, State.prune, Z1e, Z0y, Heap.at, Z06, Z02, Z07, Z08, Z01, Int.toNat_natCast, evLen, List.length_map, Z28, Z2v, Z2w, binT, binQ, chk, Z24, List.contains_cons, List.contains_nil, Bool.or_false, Bool.and_self, Z10, Z1o, fnOf, Z1l, Z3h, Z23, putRow, Z0q, Nat.le_refl, ↓reduceIte, Nat.reduceAdd, Nat.reduceBEq, List.length_cons, List.length_nil, List.replicate_succ, List.replicate_zero, List.nil_append, List.cons_append, List.append_nil, List.map_cons, List.map_nil, List.all_cons, List.all_nil, List.set_cons_zero, List.set_cons_succ, List.getD_cons_zero, List.getD_cons_succ, List.drop_zero, List.drop_succ_cons, List.take_zero, List.flatten_cons, List.flatten_nil, Bool.true_and, Bool.not_false, true_and, and_true, true_or, and_self, Nat.reduceLT, List.reverse_cons, List.reverse_nil, Nat.zero_add, Nat.add_zero, Bool.false_eq_true, F6, G6, at_clone, Z02, Z01, Z32, hge, li, List.getD_cons_zero]
      refine ⟨fun _ => ⟨⟨by omega, by omega⟩, hin, r_a3 i hin, ⟨by omega, by omega⟩, hin, ?_⟩, fun c => absurd c (by omega)⟩
      rw [Z2r hin (by unfold maxLen; omega)]
      refine Z0g.ices [7] (Z0g.thaw 0 (Z0g.thaw 1 (Z0g.thaw 4 (Z0g.mk [0, 1, 2, 3, 4, 5, 6] (i + 1) (by simp) (by simp [State.thaw, ices_len]) ?_ (by show i + 1 ≤ a3.length; omega) (by show a3.length - (i + 1) < a3.length - i; omega)))))
      simp only [State.can, AV.can, AV.canL, HO.can, Z0z, idx, Z04, Z00, Heap.at, Nat.reduceBEq, ↓reduceIte, Nat.reduceEqDiff, Option.getD_some, Option.map_some, List.map_cons, List.map_nil, List.getD_cons_zero, List.getD_cons_succ, State.ices, State.ice, HO.data, iceEnv, Z3g, HO.ice, AV.ice, AV.iceL, State.thaw, thaw_mkVec, Z3l, iceRows_nil, iceRows_set, iceRows_rowsL, Z1m, List.set_cons_zero, List.set_cons_succ, List.drop_zero, Z1j, List.take_length, Bool.not_true, Nat.zero_add, Nat.le_refl, List.length_map, and_self, Option.map_some, rowsL_set (d := default) hin]
      try rfl
    · have e : i = a3.length := by omega
      subst e
      simp only [↓Z0h, ↓Z1a, ↓Z03, ↓Z0p, ↓Z0f, ↓Z0c, ↓Z1h, ↓Z0a, ↓Z0o, ↓Z1q, ↓Z19, ↓Z0n, ↓Z30, ↓Z0d, Z25, Z05, Z14, Z17, evN, Z13, Z0m, Z16, Z20, Z0l, Z0b, Z0k, Z0v, evT, Opd.ev, Z04, Z00, Z15, Z0u, Z0w, Z09, Z1g, LOp.isNew, State.prune, Heap.at, Z06, Z02, Z07, Int.toNat_natCast, evLen, Z28, Z2v, Z2w, binT, binQ, Z10, Z1o, fnOf, Z1l, Z0q, ↓reduceIte, Nat.reduceAdd, Nat.reduceBEq, List.length_cons, List.length_nil, List.replicate_succ, List.replicate_zero, List.nil_append, List.cons_append, List.append_nil, List.map_cons, List.map_nil, List.getD_cons_zero, List.getD_cons_succ, true_and, and_self, Nat.reduceLT, Nat.zero_add, Nat.add_zero, Bool.false_eq_true, F6, G6, Z02, Z32, li, List.getD_cons_zero]
      refine ⟨fun c => absurd c (by omega), fun _ => ?_⟩
      clear hin li hi
      refine Loop.thaw 5 (Nat.zero_le _) ?_
      refine Loop.fam [1, 45, 46, 2] (fun i : Nat => ⟨[(1, .ptr 0 5 0 0), (45, .d (.int .i64 a7.length)), (46, .d (.int .i64 i)), (2, .ptr 1 5 0 0)], [.vec 5 [[.ref 2 2 0 a1.length true, .ref 4 1 0 a3.length true, .ref 3 1 0 a5.length true, .ref 5 1 0 a7.length true, .ref 6 1 0 a9.length true]], .vec 5 [[.d (.list [] true), .d (.list [] true), .d (.list [] true), .d (.list [] true), .d (.list [] true)]], .dvec 2 (a1.map LocG.row), .dvec 1 (a5.map rowI), .vec 1 (Z2p StampG.row (cpL a3 a3.length)), .vec 1 (Z2p RatG.row (cpL a7 i)), .dvec 1 (a9.map rowRats)]⟩)
        (fun i => i ≤ a7.length) (fun i => a7.length - i) 0 [0, 1, 2, 3, 4, 5, 6] (by simp) (by simp [State.thaw]) (by
          simp only [State.can, AV.can, AV.canL, HO.can, Z0z, idx, Z04, Z00, Heap.at, Nat.reduceBEq, ↓reduceIte, Nat.reduceEqDiff, Option.getD_some, Option.map_some, List.map_cons, List.map_nil, List.getD_cons_zero, List.getD_cons_succ, State.thaw, HO.thaw, e_a7, Z1m, List.set_cons_zero, List.set_cons_succ]; rfl) (by omega) ?_
      intro i hi
      have hi : i ≤ a7.length := hi
      have li : (cpL a7 i).length = a7.length := cpL_len a7 i
      by_cases hin : i < a7.length
      · have hge := rowsL_cp (f := RatG.row) (d := default) hin
        simp only [↓Z0h, ↓Z1a, ↓Z03, ↓Z0p, ↓Z0f, ↓Z0c, ↓Z1h, ↓Z0a, ↓Z0o, ↓Z1q, ↓Z12, ↓Z19, ↓Z0n, ↓famK_n, ↓Z30, ↓Z0d, Z25, Z05, Z0r, Z14, Z17, evN, Z13, Z0m, Z16, Z20, Z0l, Z0b, Z0k, Z0v, evT, Opd.ev, Z04, Z00, Z15, Z21, Z1d, Z0u, Z0w, Z09, Z1g, LOp.isNew, State.prune, Z1e, Z0y, Heap.at, Z06, Z02, Z07, Z08, Z01, Int.toNat_natCast, evLen, List.length_map, Z28, Z2v, Z2w, binT, binQ, chk, Z24, List.contains_cons, List.contains_nil, Bool.or_false, Bool.and_self, Z10, Z1o, fnOf, Z1l, Z3h, Z2y, putRow, Z0q, Z1c, Nat.le_refl, ↓reduceIte, Nat.reduceAdd, Nat.reduceBEq, List.length_cons, List.length_nil, List.replicate_succ, List.replicate_zero, List.nil_append, List.cons_append, List.append_nil, List.map_cons, List.map_nil, List.all_cons, List.all_nil, List.set_cons_zero, List.set_cons_succ, List.getD_cons_zero, List.getD_cons_succ, List.drop_zero, List.drop_succ_cons, List.take_zero, List.flatten_cons, List.flatten_nil, Bool.true_and, Bool.not_false, true_and, and_true, or_true, and_self, Nat.reduceLT, List.reverse_cons, List.reverse_nil, Nat.zero_add, Nat.add_zero, Bool.false_eq_true, F3, G3, at_clone, Z02, Z01, Z32, hge, li, List.getD_cons_zero]
        refine ⟨fun _ => ⟨⟨by omega, by omega⟩, hin, r_a7 i hin, ⟨by omega, by omega⟩, hin, ?_⟩, fun c => absurd c (by omega)⟩
        rw [Z2r hin (by unfold maxLen; omega)]
        refine Z0g.ices [7] (Z0g.thaw 0 (Z0g.thaw 1 (Z0g.thaw 4 (Z0g.thaw 5 (Z0g.mk [0, 1, 2, 3, 4, 5, 6] (i + 1) (by simp) (by simp [State.thaw, ices_len]) ?_ (by show i + 1 ≤ a7.length; omega) (by show a7.length - (i + 1) < a7.length - i; omega))))))
        simp only [State.can, AV.can, AV.canL, HO.can, Z0z, idx, Z04, Z00, Heap.at, Nat.reduceBEq, ↓reduceIte, Nat.reduceEqDiff, Option.getD_some, Option.map_some, List.map_cons, List.map_nil, List.getD_cons_zero, List.getD_cons_succ, State.ices, State.ice, HO.data, iceEnv, Z3g, HO.ice, AV.ice, AV.iceL, State.thaw, thaw_mkVec, Z3l, iceRows_nil, iceRows_set, iceRows_rowsL, Z1m, List.set_cons_zero, List.set_cons_succ, List.drop_zero, Z1j, List.take_length, Bool.not_true, Nat.zero_add, Nat.le_refl, List.length_map, and_self, Option.map_some, rowsL_set (d := default) hin]
        try rfl
      · have e : i = a7.length := by omega
        subst e
        simp only [↓Z0h, ↓Z1a, ↓Z03, ↓Z0p, ↓Z0f, ↓Z0c, ↓Z1h, ↓Z0a, ↓Z0o, ↓Z1q, ↓Z19, ↓Z0n, ↓Z30, ↓Z0d, Z25, Z05, Z14, Z17, evN, Z13, Z0m, Z16, Z20, Z0l, Z0b, Z0k, Z0v, evT, Opd.ev, Z04, Z00, Z15, Z0u, Z0w, Z09, Z1g, LOp.isNew, State.prune, Heap.at, Z06, Z02, Z07, Int.toNat_natCast, evLen, Z28, Z2v, Z2w, binT, binQ, Z10, Z1o, fnOf, Z1l, Z0q, ↓reduceIte, Nat.reduceAdd, Nat.reduceBEq, List.length_cons, List.length_nil, List.replicate_succ, List.replicate_zero, List.nil_append, List.cons_append, List.append_nil, List.map_cons, List.map_nil, List.getD_cons_zero, List.getD_cons_succ, true_and, and_self, Nat.reduceLT, Nat.zero_add, Nat.add_zero, Bool.false_eq_true, F3, G3, Z02, Z32, li, List.getD_cons_zero]
        refine ⟨fun c => absurd c (by omega), fun _ => ?_⟩
        clear hin li hi
        refine Loop.thaw 6 (Nat.zero_le _) ?_
        refine Loop.fam [1, 62, 63, 2] (fun i : Nat => ⟨[(1, .ptr 0 5 0 0), (62, .d (.int .i64 a9.length)), (63, .d (.int .i64 i)), (2, .ptr 1 5 0 0)], [.vec 5 [[.ref 2 2 0 a1.length true, .ref 4 1 0 a3.length true, .ref 3 1 0 a5.length true, .ref 5 1 0 a7.length true, .ref 6 1 0 a9.length true]], .vec 5 [[.d (.list [] true), .d (.list [] true), .d (.list [] true), .d (.list [] true), .d (.list [] true)]], .dvec 2 (a1.map LocG.row), .dvec 1 (a5.map rowI), .vec 1 (Z2p StampG.row (cpL a3 a3.length)), .vec 1 (Z2p RatG.row (cpL a7 a7.length)), .vec 1 (Z2p RatG.row (cpL a9 i))]⟩)
          (fun i => i ≤ a9.length) (fun i => a9.length - i) 0 [0, 1, 2, 3, 4, 5, 6] (by simp) (by simp [State.thaw]) (by
            simp only [State.can, AV.can, AV.canL, HO.can, Z0z, idx, Z04, Z00, Heap.at, Nat.reduceBEq, ↓reduceIte, Nat.reduceEqDiff, Option.getD_some, Option.map_some, List.map_cons, List.map_nil, List.getD_cons_zero, List.getD_cons_succ, State.thaw, HO.thaw, e_a9, Z1m, List.set_cons_zero, List.set_cons_succ]; rfl) (by omega) ?_
        intro i hi
        have hi : i ≤ a9.length := hi
        have li : (cpL a9 i).length = a9.length := cpL_len a9 i
        by_cases hin : i < a9.length
        · have hge := rowsL_cp (f := RatG.row) (d := default) hin
          simp only [↓Z0h, ↓Z11, ↓Z1a, ↓Z03, ↓Z0p, ↓Z0f, ↓Z0c, ↓Z0a, ↓Z0o, ↓Z1q, ↓Z12, ↓Z19, ↓Z0n, ↓Z1r, ↓famK_n, ↓Z30, ↓Z0d, Z25, Z05, Z0r, Z14, Z17, evN, Z13, Z0m, Z16, Z20, Z0l, Z0b, Z0k, Z0v, evT, Opd.ev, Z04, Z00, Z15, Z21, Z1d, Z0u, Z0w, Z09, Z1g, LOp.isNew, State.prune, Z1e, Z0y, AV.leaf, Heap.at, Z06, Z02, Z07, Z08, Z01, Int.toNat_natCast, List.length_map, List.take_of_length_le, Z28, Z2v, Z2w, binT, binQ, chk, Z24, List.contains_cons, List.contains_nil, Bool.or_false, Bool.and_self, resQ, resV, resT, Z10, Z1o, fnOf, Z1l, Z3h, Z2y, putRow, Z0q, Z1c, Nat.le_refl, ↓reduceIte, Nat.reduceAdd, Nat.reduceBEq, List.length_cons, List.length_nil, List.replicate_succ, List.replicate_zero, List.nil_append, List.cons_append, List.append_nil, List.map_cons, List.map_nil, List.all_cons, List.all_nil, List.set_cons_zero, List.set_cons_succ, List.getD_cons_zero, List.getD_cons_succ, List.drop_zero, List.drop_succ_cons, List.take_zero, List.flatten_cons, List.flatten_nil, Bool.true_and, Bool.not_false, true_and, and_true, or_true, and_self, Nat.reduceLT, List.reverse_cons, List.reverse_nil, Nat.zero_add, Nat.add_zero, Bool.false_eq_true, F3, G3, at_clone, Z02, Z01, Z32, hge, li, List.getD_cons_zero]
          refine ⟨fun _ => ⟨⟨by omega, by omega⟩, hin, r_a9 i hin, ⟨by omega, by omega⟩, hin, ?_⟩, fun c => absurd c (by omega)⟩
          rw [Z2r hin (by unfold maxLen; omega)]
          refine Z0g.ices [7] (Z0g.thaw 0 (Z0g.thaw 1 (Z0g.thaw 4 (Z0g.thaw 5 (Z0g.thaw 6 (Z0g.mk [0, 1, 2, 3, 4, 5, 6] (i + 1) (by simp) (by simp [State.thaw, ices_len]) ?_ (by show i + 1 ≤ a9.length; omega) (by show a9.length - (i + 1) < a9.length - i; omega)))))))
          simp only [State.can, AV.can, AV.canL, HO.can, Z0z, idx, Z04, Z00, Heap.at, Nat.reduceBEq, ↓reduceIte, Nat.reduceEqDiff, Option.getD_some, Option.map_some, List.map_cons, List.map_nil, List.getD_cons_zero, List.getD_cons_succ, State.ices, State.ice, HO.data, iceEnv, Z3g, HO.ice, AV.ice, AV.iceL, State.thaw, thaw_mkVec, Z3l, iceRows_nil, iceRows_set, iceRows_rowsL, Z1m, List.set_cons_zero, List.set_cons_succ, List.drop_zero, Z1j, List.take_length, Bool.not_true, Nat.zero_add, Nat.le_refl, List.length_map, and_self, Option.map_some, rowsL_set (d := default) hin]
          try rfl
        · have e : i = a9.length := by omega
          subst e
          simp only [↓Z0h, ↓Z11, ↓Z1a, ↓Z03, ↓Z0p, ↓Z0f, ↓Z0c, ↓Z0a, ↓Z0o, ↓Z1q, ↓Z19, ↓Z0n, ↓Z1r, ↓Z30, ↓Z0d, Z25, Z05, Z14, Z17, evN, Z13, Z0m, Z16, Z20, Z0l, Z0b, Z0k, Z0v, evT, Opd.ev, Z04, Z00, Z15, Z21, Z1d, Z0u, Z0w, Z09, Z1g, LOp.isNew, State.prune, Z1e, Z0y, AV.leaf, Heap.at, Z06, Z02, Z07, Z08, Z01, Int.toNat_natCast, List.take_of_length_le, Z28, Z2v, Z2w, binT, binQ, Bool.and_self, resQ, resV, resT, Z10, Z1o, fnOf, Z1l, putRow, Z0q, Nat.le_refl, ↓reduceIte, Nat.reduceAdd, Nat.reduceBEq, List.length_cons, List.length_nil, List.replicate_succ, List.replicate_zero, List.nil_append, List.cons_append, List.append_nil, List.map_cons, List.map_nil, List.all_cons, List.all_nil, List.set_cons_zero, List.set_cons_succ, List.getD_cons_zero, List.getD_cons_succ, List.drop_zero, List.drop_succ_cons, List.take_zero, true_and, and_self, Nat.reduceLT, Nat.zero_add, Nat.add_zero, Bool.false_eq_true, F3, G3, Z02, Z01, Z32, li, List.getD_cons_zero]
          refine ⟨fun c => absurd c (by omega), fun _ => ?_⟩
          clear hin li hi
          refine RetG.mk [2, 3, 4, 5, 6] (by simp) (by simp) (fun i h => absurd h (by omega)) ?_ ?_
          · simp only [AV.can, AV.canL, idx, ↓reduceIte, Nat.reduceEqDiff, Option.map_some]
          · simp only [HO.can, Heap.at, List.map_cons, List.map_nil, List.getD_cons_zero, List.getD_cons_succ, Z1m]
theorem cp0_eff (a1 : List LocG) (a2 : Bool) (a3 : List StampsF) (a4 : Bool) (a5 : List Int) (a6 : Bool) (a7 : List RatsF) (a8 : Bool) (a9 : List RatsF) (a10 : Bool) (H : Heap) :
    ef_copied0.at [.agg [.d (.list (a1.map LocG.row) a2), .d (.list (a3.map rowStamps) a4), .d (.list (a5.map rowI) a6), .d (.list (a7.map rowRats) a8), .d (.list (a9.map rowRats) a10)]] H =
      some ⟨CpOk0 ⟨a1, a2, a3, a4, a5, a6, a7, a8, a9, a10⟩, .agg [.ref (H.length + 0) 2 0 a1.length true, .ref (H.length + 2) 1 0 a3.length true, .ref (H.length + 1) 1 0 a5.length true, .ref (H.length + 3) 1 0 a7.length true, .ref (H.length + 4) 1 0 a9.length true], [],
        [.dvec 2 (a1.map LocG.row), .dvec 1 (a5.map rowI), .vec 1 (Z2p StampG.row (cpL a3 a3.length)), .vec 1 (Z2p RatG.row (cpL a7 a7.length)), .vec 1 (Z2p RatG.row (cpL a9 a9.length))], none⟩ := by
  have hd : ∀ {α : Type} (f : α → List DV) (L : List (List α × Bool)) (ρ : Nat → Nat), (Z2p f L).map (·.map (AV.ren ρ)) = Z2p f L := fun f L ρ => by
    unfold Z2p; rw [List.map_map]; exact List.map_congr_left fun x _ => by simp [AV.ren]
  have := EfN.at_enc (e := ef_copied0) (fun (x y : MemG) e => by
    simp only [ef_copied0, List.cons.injEq, and_true] at e
    exact MemG.av_inj _ _ e) ⟨a1, a2, a3, a4, a5, a6, a7, a8, a9, a10⟩ H
  refine this.trans ?_
  simp only [EfN.eff, ef_copied0, AV.ren, AV.renL, List.map_cons, List.map_nil, HO.ren, hd]
end Go.Ago

/- What may be read of a memory, and what was written last. Conditions: none. -/
set_option maxRecDepth 100000
set_option linter.unusedSimpArgs false
set_option linter.unusedVariables false
namespace Go.Ago

end Go.Ago

/- hist.Do: a step of a memory. Conditions: none. -/
set_option maxRecDepth 100000
set_option linter.unusedSimpArgs false
set_option linter.unusedVariables false
namespace Go.Ago

/-! ### Ends of calls, said with less -/
def SaysK (Post : AV → Heap → Prop) : AV → Heap → Prop := fun r H => ∃ S', Says 0 ⟨[(0, r)], H⟩ S' ∧ Post (S'.env.get 0) S'.heap
theorem ACalls.saysK {P : Program} {f : FuncId} {args : List AV} {Post : AV → Heap → Prop} (h : ACalls P f args [] (SaysK Post)) : ACalls P f args [] Post := by
  refine ⟨h.1, fun A φ w vals hs hz hr => (h.2 A φ w vals hs hz hr).mono ?_⟩
  rintro e w' ⟨v, r, H', φ', rfl, ⟨S', hw, hp⟩, hs', hrr, hext⟩
  have hsim : Sim P A 1 φ' ⟨[(0, r)], H'⟩ { tmps := #[v], defers := [] } w' := by
    refine ⟨hs', rfl, rfl, fun t => ?_⟩
    cases t with
    | zero => exact hrr
    | succ t => exact .undef _
  obtain ⟨φ2, hs2, he⟩ := hw P A 1 φ' _ w' hsim
  exact ⟨v, _, S'.heap, φ2, rfl, hp, hs2.heap, hs2.slots 0, hext.trans he⟩

/-! ### What a step does, in plain words -/
structure Mem where
  locs : List LocG
  past : List (List StampG)
  vals : List Int
  marks : List (List RatG)
  fronts : List (List RatG)
  deriving DecidableEq
/-- Lists, whatever stands behind their ends. -/
def inn {α : Type} (L : List (List α × Bool)) : List (List α) := L.map (·.1)
theorem Z1u {α : Type} (L : List (List α × Bool)) : (inn L).length = L.length := by simp [inn]
theorem inn_mem {α : Type} {L : List (List α × Bool)} {r : List α × Bool} (h : r ∈ L) : r.1 ∈ inn L := List.mem_map_of_mem h
theorem inn_get {α : Type} {L : List (List α × Bool)} {i : Nat} (h : i < L.length) : (inn L).getD i [] ∈ inn L := by
  rw [List.getD_eq_getElem?_getD, List.getElem?_eq_getElem (by rw [Z1u]; exact h)]; exact List.getElem_mem _
def MemG.plain (m : MemG) : Mem := ⟨m.locs, inn m.past, m.vals, inn m.marks, inn m.fronts⟩
def Mem.av (m : Mem) : MemG := ⟨m.locs, false, m.past.map (·, false), false, m.vals, false, m.marks.map (·, false), false, m.fronts.map (·, false), false⟩
def MemG.nil : MemG := ⟨[], false, [], false, [], false, [], false, [], false⟩
def Z33 (x : RatG) : Bool := Z2d x.num x.den
def cmpQ' (x y : RatG) : Int := rat_cmp x.num x.den y.num y.den
def leastQ (x : RatG) : RatG := ⟨(Z2q x.num x.den).1, (Z2q x.num x.den).2⟩
def isPl (k : Int) : Bool := decide (k = 1) || decide (k = 2)
def isAt (k : Int) : Bool := decide (k = 3) || decide (k = 4) || decide (k = 5)
def goodQ (m : Mem) (s : StepG) : Bool :=
  !decide (s.thread < 0) && !decide ((m.fronts.length : Int) ≤ s.thread) && s.act.right m.locs && (!isPl s.act.kind || Z33 s.when) && (isPl s.act.kind || decide (s.when = ⟨0, 0⟩))
def frontOf (m : Mem) (s : StepG) : List RatG := m.fronts.getD s.thread.toNat []
def pastOf (m : Mem) (s : StepG) : List StampG := m.past.getD s.act.loc.toNat []
def markOf (m : Mem) (s : StepG) : List RatG := m.marks.getD s.act.loc.toNat []
def doErr (m : Mem) (s : StepG) : Int :=
  if goodQ m s = false then 1
  else if s.act.kind = 1 then
    (if bsHas (pastOf m s) s.when = false then 4 else if cmpQ' s.when ((frontOf m s).getD s.act.loc.toNat default) < 0 then 6 else if ((pastOf m s).getD (bsAt (pastOf m s) s.when) default).val ≠ s.act.old then 3 else 0)
  else if s.act.kind = 2 then
    (if bsHas (pastOf m s) s.when = true then 5 else if cmpQ' s.when ((frontOf m s).getD s.act.loc.toNat default) ≤ 0 then 6 else 0)
  else if isAt s.act.kind = true ∧ s.act.kind ≠ 4 ∧ m.vals.getD s.act.loc.toNat 0 ≠ s.act.old then 3 else 0
def doMem (m : Mem) (s : StepG) : Mem :=
  if s.act.kind = 2 then
    { m with past := m.past.set s.act.loc.toNat (insG (pastOf m s) (bsAt (pastOf m s) s.when) ⟨leastQ s.when, s.act.new⟩), fronts := m.fronts.set s.thread.toNat ((frontOf m s).set s.act.loc.toNat (leastQ s.when)) }
  else if isAt s.act.kind = true then
    let both := joinG (frontOf m s) (markOf m s)
    if s.act.kind = 3 then { m with fronts := m.fronts.set s.thread.toNat both }
    else { m with vals := m.vals.set s.act.loc.toNat s.act.new, marks := m.marks.set s.act.loc.toNat both, fronts := m.fronts.set s.thread.toNat both }
  else m
def resM (m : Mem) (s : StepG) : MemG := if doErr m s = 0 then (doMem m s).av else .nil
/-- A memory that is in order. -/
structure Mem.Wf (b : Nat) (m : Mem) : Prop where
  locs : m.locs.length ≤ 16
  past : m.past.length = m.locs.length
  vals : m.vals.length = m.locs.length
  marks : m.marks.length = m.locs.length
  fronts : m.fronts.length ≤ 3
  pasts : ∀ r ∈ m.past, r.length ≤ b
  marksL : ∀ r ∈ m.marks, r.length ≤ m.locs.length
  marksA : ∀ i, i < m.locs.length → (m.locs.getD i default).atom = true → (m.marks.getD i []).length = m.locs.length
  frontsL : ∀ r ∈ m.fronts, r.length = m.locs.length
def StepG.av7 (s : StepG) : AV := .agg [.d (.int .i64 s.thread), .d (.int .i64 s.act.kind), .d (.int .i64 s.act.loc), .d (.int .i64 s.act.old), .d (.int .i64 s.act.new), .d (.int .i64 s.when.num), .d (.int .i64 s.when.den)]
def sp_Do : Sp := ⟨MemG × StepG, fun x => [x.1.av, x.2.av7], fun x => .data (x.1.plain.Wf 1000000) (.tup [(resM x.1.plain x.2).av, .d (.int .i64 (doErr x.1.plain x.2))]) false⟩
theorem cp_eff (h : Hole) (a1 : List LocG) (a2 : Bool) (a3 : List StampsF) (a4 : Bool) (a5 : List Int) (a6 : Bool) (a7 : List RatsF) (a8 : Bool) (a9 : List RatsF) (a10 : Bool) (H : Heap) :
    (ef_copied h).at [.agg [.d (.list (a1.map LocG.row) a2), .d (.list (a3.map rowStamps) a4), .d (.list (a5.map rowI) a6), .d (.list (a7.map rowRats) a8), .d (.list (a9.map rowRats) a10)]] H =
      some ⟨CpOk h ⟨a1, a2, a3, a4, a5, a6, a7, a8, a9, a10⟩, .agg [.ref (H.length + 0) 2 0 a1.length true, .ref (H.length + 2) 1 0 a3.length true, .ref (H.length + 1) 1 0 a5.length true, .ref (H.length + 3) 1 0 a7.length true, .ref (H.length + 4) 1 0 a9.length true], [],
        [.dvec 2 (a1.map LocG.row), .dvec 1 (a5.map rowI), .vec 1 ((Z2p StampG.row (cpL a3 a3.length)).set h.p [.ref (H.length + 5) 3 0 (a3.getD h.p default).1.length true]), .vec 1 (Z2p RatG.row (cpL a7 a7.length)),
          .vec 1 ((Z2p RatG.row (cpL a9 a9.length)).set h.f [.ref (H.length + 6) 2 0 (a9.getD h.f default).1.length true]), .dvec 3 ((a3.getD h.p default).1.map StampG.row), .dvec 2 ((a9.getD h.f default).1.map RatG.row)], none⟩ := by
  have hd : ∀ {α : Type} (f : α → List DV) (L : List (List α × Bool)) (ρ : Nat → Nat), (Z2p f L).map (·.map (AV.ren ρ)) = Z2p f L := fun f L ρ => by
    unfold Z2p; rw [List.map_map]; exact List.map_congr_left fun x _ => by simp [AV.ren]
  rw [at_copied]
  simp only [EfN.eff, ef_copied, AV.ren, AV.renL, List.map_cons, List.map_nil, HO.ren, List.map_set, hd]

theorem rowsL_all {α : Type} {f : α → List DV} {L : List (List α × Bool)} {i : Nat} (h : i < L.length) : (Z2p f (cpL L L.length)).getD i [] = [.d (.list (((inn L).getD i []).map f) false)] := by
  rw [rowsL_get (d := default) (by rw [cpL_len]; exact h)]
  have e : (cpL L L.length).getD i default = ((inn L).getD i [], false) := by
    unfold cpL inn
    rw [List.take_length, List.drop_length, List.append_nil, List.getD_eq_getElem?_getD, List.getElem?_map, List.getElem?_eq_getElem h, List.getD_eq_getElem?_getD, List.getElem?_map, List.getElem?_eq_getElem h]; rfl
  rw [e]
theorem nil_end {H : Heap} {e : Int} : SaysK (RetD (.tup [MemG.nil.av, .d (.int .i64 e)])) (.tup [.agg [.d (.list [] true), .d (.list [] true), .d (.list [] true), .d (.list [] true), .d (.list [] true)], .d (.int .i64 e)]) H :=
  ⟨_, Says.refl, rfl⟩
theorem cp_ok {m : MemG} {b : Nat} (h : m.plain.Wf b) (hb : b ≤ 1000000) : CpOk0 m := by
  have hl : m.locs.length ≤ 16 := h.locs
  have h1 : m.past.length = m.locs.length := by have := h.past; simpa [MemG.plain, Z1u] using this
  have h2 : m.vals.length = m.locs.length := h.vals
  have h3 : m.marks.length = m.locs.length := by have := h.marks; simpa [MemG.plain, Z1u] using this
  have h4 : m.fronts.length ≤ 3 := by have := h.fronts; simpa [MemG.plain, Z1u] using this
  refine ⟨Z1t (by omega) (by omega), Z1t (by omega) (by omega), Z1t (by omega) (by omega), Z1t (by omega) (by omega), Z1t (by omega) (by omega), fun r hr => ?_, fun r hr => ?_, fun r hr => ?_⟩
  · have := h.pasts r.1 (inn_mem hr)
    exact Z1t (by omega) (by omega)
  · have : r.1.length ≤ m.locs.length := h.marksL r.1 (inn_mem hr)
    exact Z1t (by omega) (by omega)
  · have : r.1.length = m.locs.length := h.frontsL r.1 (inn_mem hr)
    exact Z1t (by omega) (by omega)
theorem right_bounds {k o q v : Int} {l : List LocG} (hk : k ≠ 6) (h : ActG.right ⟨k, o, q, v⟩ l = true) : 0 ≤ o ∧ o < l.length := by
  unfold ActG.right at h
  rw [if_neg hk] at h
  simp only [Bool.and_eq_true, decide_eq_true_eq] at h
  omega
theorem end_err {m : Mem} {s : StepG} {e : Int} {H : Heap} (h : doErr m s = e) (he : e ≠ 0) :
    SaysK (RetD (.tup [(resM m s).av, .d (.int .i64 (doErr m s))])) (.tup [.agg [.d (.list [] true), .d (.list [] true), .d (.list [] true), .d (.list [] true), .d (.list [] true)], .d (.int .i64 e)]) H := by
  have e2 : resM m s = .nil := by unfold resM; rw [if_neg (by rw [h]; exact he)]
  rw [h, e2]
  exact nil_end
/-- A memory as it stands on the heap at the end. -/
structure AtEnd (H : Heap) (M : Mem) (i0 i1 i2 i3 i4 : Nat) : Prop where
  locs : H.at i0 = .dvec 2 (M.locs.map LocG.row)
  past : H.at i1 = .dvec 1 (M.past.map fun l => [.list (l.map StampG.row) false])
  vals : H.at i2 = .dvec 1 (M.vals.map rowI)
  marks : H.at i3 = .dvec 1 (M.marks.map fun l => [.list (l.map RatG.row) false])
  fronts : H.at i4 = .dvec 1 (M.fronts.map fun l => [.list (l.map RatG.row) false])
theorem AtEnd.frz {H : Heap} {M : Mem} {i0 i1 i2 i3 i4 n0 n1 n2 n3 n4 : Nat} (h : AtEnd H M i0 i1 i2 i3 i4) (l0 : n0 = M.locs.length) (l1 : n1 = M.past.length) (l2 : n2 = M.vals.length) (l3 : n3 = M.marks.length) (l4 : n4 = M.fronts.length) {e : Int} :
    AV.frz H (.tup [.agg [.ref i0 2 0 n0 true, .ref i1 1 0 n1 true, .ref i2 1 0 n2 true, .ref i3 1 0 n3 true, .ref i4 1 0 n4 true], .d (.int .i64 e)]) = some (.tup [M.av.av, .d (.int .i64 e)]) := by
  have one : ∀ {i sz n : Nat} {D : List (List DV)}, H.at i = .dvec sz D → n = D.length → AV.frz H (.ref i sz 0 n true) = some (.d (.list D false)) := fun {i sz n D} h e => by
    subst e
    simp only [AV.frz, h, Nat.zero_add, Nat.le_refl, and_self, if_true, List.drop_zero, List.take_length]
  have f0 := one h.locs (n := n0) (by simpa using l0)
  have f1 := one h.past (n := n1) (by simpa using l1)
  have f2 := one h.vals (n := n2) (by simpa using l2)
  have f3 := one h.marks (n := n3) (by simpa using l3)
  have f4 := one h.fronts (n := n4) (by simpa using l4)
  have e1 : (M.past.map fun l => [DV.list (l.map StampG.row) false]) = (M.past.map (·, false)).map rowStamps := by rw [List.map_map]; rfl
  have e3 : (M.marks.map fun l => [DV.list (l.map RatG.row) false]) = (M.marks.map (·, false)).map rowRats := by rw [List.map_map]; rfl
  have e4 : (M.fronts.map fun l => [DV.list (l.map RatG.row) false]) = (M.fronts.map (·, false)).map rowRats := by rw [List.map_map]; rfl
  rw [e1] at f1; rw [e3] at f3; rw [e4] at f4
  have hl : AV.frzL H [.ref i0 2 0 n0 true, .ref i1 1 0 n1 true, .ref i2 1 0 n2 true, .ref i3 1 0 n3 true, .ref i4 1 0 n4 true] = some [.d (.list (M.locs.map LocG.row) false), .d (.list ((M.past.map (·, false)).map rowStamps) false), .d (.list (M.vals.map rowI) false), .d (.list ((M.marks.map (·, false)).map rowRats) false), .d (.list ((M.fronts.map (·, false)).map rowRats) false)] := by
    simp only [AV.frzL, f0, f1, f2, f3, f4]
  have ha : AV.frz H (.agg [.ref i0 2 0 n0 true, .ref i1 1 0 n1 true, .ref i2 1 0 n2 true, .ref i3 1 0 n3 true, .ref i4 1 0 n4 true]) = some M.av.av := by
    rw [AV.frz, hl]; rfl
  rw [AV.frz, AV.frzL, ha]
  rfl
theorem end_ok {m : Mem} {s : StepG} {H H' : Heap} {ids : List Nat} {i0 i1 i2 i3 i4 n0 n1 n2 n3 n4 : Nat} (h : doErr m s = 0)
    (hs : State.ices ids ⟨[(0, .tup [.agg [.ref i0 2 0 n0 true, .ref i1 1 0 n1 true, .ref i2 1 0 n2 true, .ref i3 1 0 n3 true, .ref i4 1 0 n4 true], .d (.int .i64 0)])], H⟩ = ⟨[(0, .tup [.agg [.ref i0 2 0 n0 true, .ref i1 1 0 n1 true, .ref i2 1 0 n2 true, .ref i3 1 0 n3 true, .ref i4 1 0 n4 true], .d (.int .i64 0)])], H'⟩)
    (he : AtEnd H' (doMem m s) i0 i1 i2 i3 i4) (l0 : n0 = (doMem m s).locs.length) (l1 : n1 = (doMem m s).past.length) (l2 : n2 = (doMem m s).vals.length) (l3 : n3 = (doMem m s).marks.length) (l4 : n4 = (doMem m s).fronts.length) :
    SaysK (RetD (.tup [(resM m s).av, .d (.int .i64 (doErr m s))])) (.tup [.agg [.ref i0 2 0 n0 true, .ref i1 1 0 n1 true, .ref i2 1 0 n2 true, .ref i3 1 0 n3 true, .ref i4 1 0 n4 true], .d (.int .i64 0)]) H := by
  have e2 : resM m s = (doMem m s).av := by unfold resM; rw [if_pos h]
  rw [h, e2]
  refine ⟨_, ices_says ids _, ?_⟩
  rw [hs]
  exact he.frz l0 l1 l2 l3 l4
theorem cpL_all {α : Type} (L : List (List α × Bool)) : cpL L L.length = (inn L).map (·, false) := by
  unfold cpL inn; rw [List.take_length, List.drop_length, List.append_nil, List.map_map]; rfl
theorem mk_rowsL {α : Type} {f : α → List DV} (L : List (List α × Bool)) : mkVec 1 (Z2p f (cpL L L.length)) = .dvec 1 ((inn L).map fun l => [.list (l.map f) false]) := by
  rw [cpL_all]
  unfold mkVec
  rw [drows_rowsL, List.map_map]; rfl
theorem inn_at {α : Type} (L : List (List α × Bool)) (i : Nat) : (L.getD i default).1 = (inn L).getD i [] := by
  unfold inn
  rw [List.getD_eq_getElem?_getD, List.getD_eq_getElem?_getD, List.getElem?_map]
  cases L[i]? <;> rfl
/-! ### slices.Insert, as the caller meets it -/
open Classical in
noncomputable def insE (n : Nat) (o1 o2 : HO) (id k len : Nat) (i : Int) : Option Eff :=
  if h : ∃ x : List StampG × StampG × Nat, o1 = .dvec 3 (x.1.map StampG.row) ∧ o2 = .dvec 3 [x.2.1.row] ∧ len = x.1.length ∧ i = (x.2.2 : Int) ∧ id ≠ k then
    some ⟨h.choose.2.2 ≤ h.choose.1.length ∧ roomy (h.choose.1.length + 1) 24, .ref n 3 0 ((insG h.choose.1 h.choose.2.2 h.choose.2.1).map StampG.row).length true, [(id, .dead)], [.dvec 3 ((insG h.choose.1 h.choose.2.2 h.choose.2.1).map StampG.row)], some ⟨id, k, 3, (insG h.choose.1 h.choose.2.2 h.choose.2.1).map StampG.row⟩⟩
  else none
theorem insE_d {n id k : Nat} {l : List StampG} {i : Nat} {a b c : Int} (hne : (id == k) = false) :
    insE n (.dvec 3 (l.map StampG.row)) (.dvec 3 [[.int .i64 a, .int .i64 b, .int .i64 c]]) id k l.length (i : Int) =
      some ⟨i ≤ l.length ∧ roomy (l.length + 1) 24, .ref n 3 0 ((insG l i ⟨⟨a, b⟩, c⟩).map StampG.row).length true, [(id, .dead)], [.dvec 3 ((insG l i ⟨⟨a, b⟩, c⟩).map StampG.row)], some ⟨id, k, 3, (insG l i ⟨⟨a, b⟩, c⟩).map StampG.row⟩⟩ := by
  have hne' : id ≠ k := by simpa using hne
  have h : ∃ x : List StampG × StampG × Nat, HO.dvec 3 (l.map StampG.row) = .dvec 3 (x.1.map StampG.row) ∧ HO.dvec 3 [[.int .i64 a, .int .i64 b, .int .i64 c]] = .dvec 3 [x.2.1.row] ∧ l.length = x.1.length ∧ (i : Int) = (x.2.2 : Int) ∧ id ≠ k := ⟨(l, ⟨⟨a, b⟩, c⟩, i), rfl, rfl, rfl, rfl, hne'⟩
  unfold insE
  rw [dif_pos h]
  have e : h.choose = (l, ⟨⟨a, b⟩, c⟩, i) := by
    obtain ⟨e1, e2, _, e4, _⟩ := h.choose_spec
    generalize h.choose = x at e1 e2 e4
    obtain ⟨l', v', i'⟩ := x
    simp only [HO.dvec.injEq, true_and] at e1 e2
    have e1 := rows_inj StampG.row_inj e1
    have e2 := StampG.row_inj ⟨⟨a, b⟩, c⟩ v' (by simpa [StampG.row] using e2)
    rw [e1, ← e2, Int.ofNat_inj.1 e4]
  rw [e]
theorem at_InsertE {id k len : Nat} {i : Int} {H : Heap} : ef_Insert.at [.ref id 3 0 len true, .d (.int .i64 i), .ref k 3 0 1 true] H = insE H.length (H.at id) (H.at k) id k len i := by
  by_cases h : ∃ x : List StampG × StampG × Nat, H.at id = .dvec 3 (x.1.map StampG.row) ∧ H.at k = .dvec 3 [x.2.1.row] ∧ len = x.1.length ∧ i = (x.2.2 : Int) ∧ id ≠ k
  · obtain ⟨⟨l, v, j⟩, h1, h2, h3, h4, h5⟩ := h
    simp only at h1 h2 h3 h4
    subst h3; subst h4
    rw [at_Insert h1 h2 h5, h1, h2]
    obtain ⟨⟨a, b⟩, c⟩ := v
    exact (insE_d (by simpa using h5)).symm
  · unfold insE
    rw [dif_neg h]
    unfold EfI.at
    rw [dif_neg]
    rintro ⟨⟨⟨l, j, v⟩, id', k'⟩, e1, e2, e3, e4⟩
    simp only [ef_Insert, List.cons.injEq, AV.ref.injEq, AV.d.injEq, DV.int.injEq, and_true, true_and] at e1
    obtain ⟨⟨rfl, e5⟩, e6, rfl⟩ := e1
    exact h ⟨(l, v, j), e2, e3, e5.symm, e6.symm, e4⟩
end Go.Ago
