/- Small words for rows. Conditions: none. -/
import Derived.Test.YtlphhmgfjdecjaaAgo28
set_option linter.unusedSimpArgs false
set_option linter.unusedVariables false
namespace Go.Ago

theorem trodAll_len {H : Type} {enc : TypeId × Value → H} {P : Program} {w : World} {base : Nat} {spare : Nat → Bool} {held : Bool} : ∀ {ts : List TypeId} {vs : List Value} {ds : List (DataW H)} {p : List MemPlace},
    DataW.TrodAll enc P w base spare held ts vs ds p → ds.length = ts.length := by
  intro ts
  induction ts with
  | nil => intro vs ds p h; cases vs <;> cases ds <;> first | rfl | exact h.elim
  | cons t ts ih =>
    intro vs ds p h
    cases vs with
    | nil => cases ds <;> exact h.elim
    | cons v vs =>
      cases ds with
      | nil => exact h.elim
      | cons d ds =>
        obtain ⟨p, q, _, h2, _⟩ := h
        simp [ih h2]

theorem HasAll.nil_inv {xs : List (List DV)} (h : HasAll [] xs) : xs = [] := by cases h; rfl
theorem HasAll.cons_inv {s : Sh} {ss : List Sh} {xs : List (List DV)} (h : HasAll (s :: ss) xs) : ∃ d ds, xs = d :: ds ∧ s.has d ∧ HasAll ss ds := by
  cases h with | cons h1 h2 => exact ⟨_, _, rfl, h1, h2⟩

theorem wf_i64 {n : Int} (h : (Lit.int .i64 n).wf = true) : -9223372036854775808 ≤ n ∧ n ≤ 9223372036854775807 := by
  simp [Lit.wf, IntKind.min, IntKind.max, IntKind.signed, IntKind.bits] at h; omega
theorem wf_u64 {n : Int} (h : (Lit.int .u64 n).wf = true) : 0 ≤ n ∧ n ≤ 18446744073709551615 := by
  simp [Lit.wf, IntKind.min, IntKind.max, IntKind.signed, IntKind.bits] at h; omega

theorem has_i64 {cs : List DV} (h : (Sh.int .i64).has cs) : ∃ n : Int, cs = [.int .i64 n] ∧ -9223372036854775808 ≤ n ∧ n ≤ 9223372036854775807 := by
  simp only [Sh.has] at h
  obtain ⟨n, rfl, hw⟩ := h
  exact ⟨n, rfl, wf_i64 hw⟩
theorem has_u64 {cs : List DV} (h : (Sh.int .u64).has cs) : ∃ n : Int, cs = [.int .u64 n] ∧ 0 ≤ n ∧ n ≤ 18446744073709551615 := by
  simp only [Sh.has] at h
  obtain ⟨n, rfl, hw⟩ := h
  exact ⟨n, rfl, wf_u64 hw⟩
theorem has_bool {cs : List DV} (h : Sh.bool.has cs) : ∃ b : Bool, cs = [.bool b] := by simpa only [Sh.has] using h
theorem hasL_cons {s : Sh} {l : List Sh} {cs : List DV} (h : Sh.hasL (s :: l) cs) : ∃ a b, cs = a ++ b ∧ s.has a ∧ Sh.hasL l b := by simpa only [Sh.hasL] using h
theorem hasL_nil {cs : List DV} (h : Sh.hasL [] cs) : cs = [] := by simpa only [Sh.hasL] using h
theorem has_st {l : List Sh} {cs : List DV} (h : (Sh.st l).has cs) : Sh.hasL l cs := by simpa only [Sh.has] using h
theorem has_sl {s : Sh} {cs : List DV} (h : (Sh.sl s).has cs) : ∃ rows full, cs = [.list rows full] ∧ rows.length ≤ maxLen ∧ ∀ r ∈ rows, s.has r := by simpa only [Sh.has] using h

/-- A struct of two whole numbers. -/
theorem has_int2 {cs : List DV} (h : (Sh.st [.int .i64, .int .i64]).has cs) : ∃ a b : Int, cs = [.int .i64 a, .int .i64 b] ∧ (-9223372036854775808 ≤ a ∧ a ≤ 9223372036854775807) ∧ (-9223372036854775808 ≤ b ∧ b ≤ 9223372036854775807) := by
  obtain ⟨x, y, rfl, h1, h2⟩ := hasL_cons (has_st h)
  obtain ⟨z, u, rfl, h3, h4⟩ := hasL_cons h2
  obtain rfl := hasL_nil h4
  obtain ⟨a, rfl, ha⟩ := has_i64 h1
  obtain ⟨b, rfl, hb⟩ := has_i64 h3
  exact ⟨a, b, rfl, ha, hb⟩

end Go.Ago
