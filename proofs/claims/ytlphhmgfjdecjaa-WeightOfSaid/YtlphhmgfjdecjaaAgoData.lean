/- The program's plain data as lists of cells. Conditions: none. -/
import Derived.Test.YtlphhmgfjdecjaaAgo29
set_option linter.unusedSimpArgs false
set_option linter.unusedVariables false
namespace Go.Ago

def rowI (n : Int) : List DV := [.int .i64 n]
def rowU (n : Int) : List DV := [.int .u64 n]
structure RatG where
  num : Int
  den : Int
  deriving DecidableEq, Inhabited
def RatG.row (x : RatG) : List DV := [.int .i64 x.num, .int .i64 x.den]
structure LocG where
  atom : Bool
  init : Int
  deriving DecidableEq, Inhabited
def LocG.row (x : LocG) : List DV := [.bool x.atom, .int .i64 x.init]
structure ActG where
  kind : Int
  loc : Int
  old : Int
  new : Int
  deriving DecidableEq, Inhabited
def ActG.row (a : ActG) : List DV := [.int .i64 a.kind, .int .i64 a.loc, .int .i64 a.old, .int .i64 a.new]
def ActG.av (a : ActG) : AV := .agg [.d (.int .i64 a.kind), .d (.int .i64 a.loc), .d (.int .i64 a.old), .d (.int .i64 a.new)]
structure StepG where
  thread : Int
  act : ActG
  when : RatG
  deriving DecidableEq, Inhabited
def StepG.row (s : StepG) : List DV := [.int .i64 s.thread, .int .i64 s.act.kind, .int .i64 s.act.loc, .int .i64 s.act.old, .int .i64 s.act.new, .int .i64 s.when.num, .int .i64 s.when.den]
structure StampG where
  when : RatG
  val : Int
  deriving DecidableEq, Inhabited
def StampG.row (s : StampG) : List DV := [.int .i64 s.when.num, .int .i64 s.when.den, .int .i64 s.val]

theorem getD_lt {α : Type} {l : List α} {i : Nat} {d : α} (h : i < l.length) : l.getD i d = l[i] := by
  rw [List.getD_eq_getElem?_getD, List.getElem?_eq_getElem h]; rfl

theorem map_getD {α : Type} {f : α → List DV} {l : List α} {k : Nat} {d : α} (h : k < l.length) : (l.map f).getD k [] = f (l.getD k d) := by
  rw [List.getD_eq_getElem?_getD, List.getD_eq_getElem?_getD, List.getElem?_map, List.getElem?_eq_getElem h]; rfl

theorem rows_len {α : Type} {f : α → List DV} {sz : Nat} (h : ∀ x, (f x).length = sz) (l : List α) : ∀ r ∈ l.map f, r.length = sz := fun r hr => by
  obtain ⟨x, _, rfl⟩ := List.mem_map.1 hr; exact h x

theorem rows_inj {α : Type} {f : α → List DV} (h : ∀ x y, f x = f y → x = y) {l l' : List α} (e : l.map f = l'.map f) : l = l' :=
  (List.map_inj_right (fun x y => h x y)).1 e

theorem rowI_inj (x y : Int) (h : rowI x = rowI y) : x = y := by simpa [rowI] using h
theorem rowU_inj (x y : Int) (h : rowU x = rowU y) : x = y := by simpa [rowU] using h
theorem RatG.row_inj (x y : RatG) (h : x.row = y.row) : x = y := by
  obtain ⟨a, b⟩ := x; obtain ⟨c, d⟩ := y; simpa [RatG.row] using h
theorem LocG.row_inj (x y : LocG) (h : x.row = y.row) : x = y := by
  obtain ⟨a, b⟩ := x; obtain ⟨c, d⟩ := y; simpa [LocG.row] using h
theorem ActG.row_inj (x y : ActG) (h : x.row = y.row) : x = y := by
  obtain ⟨a, b, c, d⟩ := x; obtain ⟨a', b', c', d'⟩ := y; simpa [ActG.row] using h
theorem ActG.av_inj (x y : ActG) (h : x.av = y.av) : x = y := by
  obtain ⟨a, b, c, d⟩ := x; obtain ⟨a', b', c', d'⟩ := y; simpa [ActG.av] using h
theorem StampG.row_inj (x y : StampG) (h : x.row = y.row) : x = y := by
  obtain ⟨⟨a, b⟩, c⟩ := x; obtain ⟨⟨a', b'⟩, c'⟩ := y
  simp [StampG.row] at h; simp [h]
theorem StepG.row_inj (x y : StepG) (h : x.row = y.row) : x = y := by
  obtain ⟨t, ⟨a, b, c, d⟩, ⟨e, f⟩⟩ := x; obtain ⟨t', ⟨a', b', c', d'⟩, ⟨e', f'⟩⟩ := y
  simp [StepG.row] at h; simp [h]

/-- A list that reads as rows of a kind. -/
theorem has_list {α : Type} {s : Sh} {f : α → List DV} {ok : α → Prop} (h : ∀ r, s.has r → ∃ x, r = f x ∧ ok x) {cs : List DV} (hc : (Sh.sl s).has cs) :
    ∃ (l : List α) (full : Bool), cs = [.list (l.map f) full] ∧ (∀ x ∈ l, ok x) ∧ l.length ≤ maxLen := by
  obtain ⟨rows, full, rfl, hl, hr⟩ := has_sl hc
  have : ∃ l : List α, rows = l.map f ∧ ∀ x ∈ l, ok x := by
    clear hl hc
    induction rows with
    | nil => exact ⟨[], rfl, fun x h => by simp at h⟩
    | cons r rs ih =>
      obtain ⟨l, h1, h2⟩ := ih (fun r' hr' => hr r' (by simp [hr']))
      obtain ⟨x, h3, h4⟩ := h r (hr r (by simp))
      exact ⟨x :: l, by simp [h1, h3], fun y hy => by
        rcases List.mem_cons.1 hy with rfl | hy
        · exact h4
        · exact h2 y hy⟩
  obtain ⟨l, rfl, h2⟩ := this
  exact ⟨l, full, rfl, h2, by simpa using hl⟩

def inI (n : Int) : Prop := -9223372036854775808 ≤ n ∧ n ≤ 9223372036854775807
def inU (n : Int) : Prop := 0 ≤ n ∧ n ≤ 18446744073709551615

theorem has_rowI {r : List DV} (h : (Sh.int .i64).has r) : ∃ n, r = rowI n ∧ inI n := has_i64 h
theorem has_rowU {r : List DV} (h : (Sh.int .u64).has r) : ∃ n, r = rowU n ∧ inU n := has_u64 h
abbrev shRat : Sh := .st [.int .i64, .int .i64]
abbrev shLoc : Sh := .st [.bool, .int .i64]
abbrev shAct : Sh := .st [.int .i64, .int .i64, .int .i64, .int .i64]
abbrev shStep : Sh := .st [.int .i64, shAct, shRat]
def RatG.inn (x : RatG) : Prop := inI x.num ∧ inI x.den
def LocG.inn (x : LocG) : Prop := inI x.init
def ActG.inn (x : ActG) : Prop := inI x.kind ∧ inI x.loc ∧ inI x.old ∧ inI x.new
def StepG.inn (x : StepG) : Prop := inI x.thread ∧ x.act.inn ∧ x.when.inn

theorem has_rat {r : List DV} (h : shRat.has r) : ∃ x : RatG, r = x.row ∧ x.inn := by
  obtain ⟨a, b, rfl, ha, hb⟩ := has_int2 h
  exact ⟨⟨a, b⟩, rfl, ha, hb⟩
theorem has_loc {r : List DV} (h : shLoc.has r) : ∃ x : LocG, r = x.row ∧ x.inn := by
  obtain ⟨x, y, rfl, h1, h2⟩ := hasL_cons (has_st h)
  obtain ⟨z, u, rfl, h3, h4⟩ := hasL_cons h2
  obtain rfl := hasL_nil h4
  obtain ⟨a, rfl⟩ := has_bool h1
  obtain ⟨b, rfl, hb⟩ := has_i64 h3
  exact ⟨⟨a, b⟩, rfl, hb⟩
theorem has_act {r : List DV} (h : shAct.has r) : ∃ x : ActG, r = x.row ∧ x.inn := by
  obtain ⟨x1, y1, rfl, h1, g1⟩ := hasL_cons (has_st h)
  obtain ⟨x2, y2, rfl, h2, g2⟩ := hasL_cons g1
  obtain ⟨x3, y3, rfl, h3, g3⟩ := hasL_cons g2
  obtain ⟨x4, y4, rfl, h4, g4⟩ := hasL_cons g3
  obtain rfl := hasL_nil g4
  obtain ⟨a, rfl, ha⟩ := has_i64 h1
  obtain ⟨b, rfl, hb⟩ := has_i64 h2
  obtain ⟨c, rfl, hc⟩ := has_i64 h3
  obtain ⟨d, rfl, hd⟩ := has_i64 h4
  exact ⟨⟨a, b, c, d⟩, rfl, ha, hb, hc, hd⟩
theorem has_step {r : List DV} (h : shStep.has r) : ∃ x : StepG, r = x.row ∧ x.inn := by
  obtain ⟨x1, y1, rfl, h1, g1⟩ := hasL_cons (has_st h)
  obtain ⟨x2, y2, rfl, h2, g2⟩ := hasL_cons g1
  obtain ⟨x3, y3, rfl, h3, g3⟩ := hasL_cons g2
  obtain rfl := hasL_nil g3
  obtain ⟨a, rfl, ha⟩ := has_i64 h1
  obtain ⟨b, rfl, hb⟩ := has_act h2
  obtain ⟨c, rfl, hc⟩ := has_rat h3
  exact ⟨⟨a, b, c⟩, rfl, ha, hb, hc⟩

/-! ### slices.Clone, at any type -/
def cloneS (sz bytes : Nat) : Sp := ⟨List (List DV) × Bool, fun x => [.d (.list x.1 x.2)], fun x => .rows ((∀ r ∈ x.1, r.length = sz) ∧ roomy x.1.length bytes) sz x.1⟩
theorem at_clone (sz bytes : Nat) (l : List (List DV)) (full : Bool) : (cloneS sz bytes).at [.d (.list l full)] = .rows ((∀ r ∈ l, r.length = sz) ∧ roomy l.length bytes) sz l :=
  Sp.at_enc (s := cloneS sz bytes) (fun x y h => by obtain ⟨a, b⟩ := x; obtain ⟨c, d⟩ := y; simpa [cloneS] using h) (l, full)

end Go.Ago
