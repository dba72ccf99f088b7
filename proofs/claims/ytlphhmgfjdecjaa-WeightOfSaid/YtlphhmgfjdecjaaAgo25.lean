/- From the reader's data to the abstract machine's: arguments that read as data, and a law's row. Conditions: none. -/
import Derived.Test.YtlphhmgfjdecjaaAgo24
import Derived.OpenShut
import Derived.ProofKit
import Derived.Carry
set_option linter.unusedSimpArgs false
set_option linter.unusedVariables false
namespace Go.Ago
open Go.ChangeShapes Go.WideShapes Go.RowKit

/-- The shape of a type of plain data. -/
inductive Sh where
  | int (k : IntKind)
  | bool
  | flt (k : FloatKind)
  | str
  | sl (s : Sh)
  | st (l : List Sh)
  | arr (n : Nat) (s : Sh)

mutual
def Sh.size : Sh → Nat
  | .st l => Sh.sizes l
  | .arr n s => n * Sh.size s
  | _ => 1
def Sh.sizes : List Sh → Nat
  | [] => 0
  | s :: l => Sh.size s + Sh.sizes l
end

def Rep (p : List DV → Prop) : Nat → List DV → Prop
  | 0, cs => cs = []
  | n + 1, cs => ∃ a b, cs = a ++ b ∧ p a ∧ Rep p n b

mutual
/-- Cells of that shape. -/
def Sh.has : Sh → List DV → Prop
  | .int k, cs => ∃ n, cs = [.int k n] ∧ (Lit.int k n).wf = true
  | .bool, cs => ∃ b, cs = [.bool b]
  | .flt k, cs => ∃ b, cs = [.flt k b] ∧ (Lit.float k b).wf = true
  | .str, cs => ∃ s, cs = [.str s] ∧ s.size ≤ maxLen
  | .sl s, cs => ∃ rows full, cs = [.list rows full] ∧ rows.length ≤ maxLen ∧ ∀ r ∈ rows, Sh.has s r
  | .st l, cs => Sh.hasL l cs
  | .arr n s, cs => Rep (Sh.has s) n cs
def Sh.hasL : List Sh → List DV → Prop
  | [], cs => cs = []
  | s :: l, cs => ∃ a b, cs = a ++ b ∧ Sh.has s a ∧ Sh.hasL l b
end

def shFields (rec : TypeId → Option Sh) : List Field → Nat → Option (List Sh)
  | [], _ => some []
  | f :: fs, off => if f.offset = off then (rec f.type).bind fun s => (shFields rec fs (off + s.size)).map (s :: ·) else none

def shOf1 (P : Program) (rec : TypeId → Option Sh) (t : TypeId) : Option Sh :=
  match P.underlying t with
  | some .bool => some .bool
  | some (.int k) => some (.int k)
  | some (.float k) => some (.flt k)
  | some .string => some .str
  | some (.slice e) => (rec e).bind fun s => if s.size = 0 then none else some (.sl s)
  | some (.struct fs) => (shFields rec fs.toList 0).map .st
  | some (.array n e) => (rec e).map (.arr n)
  | _ => none

def shOf (P : Program) : Nat → TypeId → Option Sh
  | 0, _ => none
  | n + 1, t => (shOf1 P (shOf P n) t).bind fun s => if P.cellsOf t = s.size then some s else none

theorem shOf_size {P : Program} : ∀ {n : Nat} {t : TypeId} {s : Sh}, shOf P n t = some s → P.cellsOf t = s.size := by
  intro n t s h
  cases n with
  | zero => cases h
  | succ n =>
    simp only [shOf, Option.bind_eq_some_iff] at h
    obtain ⟨s', _, h⟩ := h
    split at h
    · cases h; assumption
    · cases h

section
variable {H : Type} {enc : TypeId × Value → H} {P : Program} {w : World} {held : Bool} {M : Nat → Prop}

/-- Cells that read as cells of a shape. -/
def Reads (M : Nat → Prop) (w : World) (s : Sh) (cs : List Value) : Prop :=
  ∃ ds, s.has ds ∧ ds.length = s.size ∧ cs.length = s.size ∧ ∀ (i : Nat) (d : DV) (v : Value), ds[i]? = some d → cs[i]? = some v → RelD M w d v

theorem reads_one {s : Sh} {d : DV} {v : Value} (hs : s.has [d]) (h1 : s.size = 1) (h : RelD M w d v) : Reads M w s [v] :=
  ⟨[d], hs, by simp [h1], by simp [h1], fun i d' v' h1 h2 => by
    cases i with
    | zero => simp at h1 h2; subst h1; subst h2; exact h
    | succ i => simp at h1⟩

theorem get_drop_take {α : Type} {l : List α} {o n i : Nat} (h : i < n) : ((l.drop o).take n)[i]? = l[o + i]? := by
  rw [List.getElem?_take, if_pos h, List.getElem?_drop]

theorem fields_rel {rec : TypeId → Option Sh} {ok : TypeId → List Value → Prop}
    (hrec : ∀ t s, rec t = some s → P.cellsOf t = s.size ∧ ∀ cs, ok t cs → Reads M w s cs) {cs : List Value} :
    ∀ (l : List Field) (off : Nat) (ls : List Sh), shFields rec l off = some ls → (∀ f ∈ l, ok f.type ((cs.drop f.offset).take (P.cellsOf f.type))) → off + Sh.sizes ls ≤ cs.length →
      ∃ ds, Sh.hasL ls ds ∧ ds.length = Sh.sizes ls ∧ ∀ (i : Nat) (d : DV) (v : Value), ds[i]? = some d → cs[off + i]? = some v → RelD M w d v := by
  intro l
  induction l with
  | nil =>
    intro off ls h _ _
    simp only [shFields, Option.some.injEq] at h; subst h
    exact ⟨[], by simp [Sh.hasL], by simp [Sh.sizes], fun i d v h => by simp at h⟩
  | cons f fs ih =>
    intro off ls h hok hlen
    simp only [shFields] at h
    split at h
    · rename_i hoff
      simp only [Option.bind_eq_some_iff, Option.map_eq_some_iff] at h
      obtain ⟨s, h1, ls', h2, rfl⟩ := h
      obtain ⟨hsz, hr⟩ := hrec _ _ h1
      simp only [Sh.sizes] at hlen ⊢
      obtain ⟨d1, g1, g2, g3, g4⟩ := hr _ (hok f (by simp))
      obtain ⟨d2, k1, k2, k3⟩ := ih _ _ h2 (fun f' hf' => hok f' (by simp [hf'])) (by omega)
      refine ⟨d1 ++ d2, by simp only [Sh.hasL]; exact ⟨d1, d2, rfl, g1, k1⟩, by simp [g2, k2], fun i d v hd hv => ?_⟩
      by_cases hi : i < d1.length
      · rw [List.getElem?_append_left hi] at hd
        refine g4 i d v hd ?_
        rw [hoff, hsz, get_drop_take (by omega)]; exact hv
      · rw [List.getElem?_append_right (by omega)] at hd
        refine k3 (i - d1.length) d v hd ?_
        rw [show off + s.size + (i - d1.length) = off + i by omega]; exact hv
    · cases h

theorem array_rel {s : Sh} {cs : List Value} {sz : Nat} (hsz : sz = s.size) :
    ∀ (n off : Nat), (∀ i, i < n → Reads M w s ((cs.drop (off + i * sz)).take sz)) →
      ∃ ds, Rep s.has n ds ∧ ds.length = n * sz ∧ ∀ (i : Nat) (d : DV) (v : Value), ds[i]? = some d → cs[off + i]? = some v → RelD M w d v := by
  intro n
  induction n with
  | zero => intro off _; exact ⟨[], rfl, by simp, fun i d v h => by simp at h⟩
  | succ n ih =>
    intro off h
    obtain ⟨d1, g1, g2, g3, g4⟩ := h 0 (by omega)
    obtain ⟨d2, k1, k2, k3⟩ := ih (off + sz) (fun i hi => by have := h (i + 1) (by omega); rw [show off + (i + 1) * sz = off + sz + i * sz by rw [Nat.add_mul]; omega] at this; exact this)
    refine ⟨d1 ++ d2, ⟨d1, d2, rfl, g1, k1⟩, by simp [g2, k2, Nat.add_mul]; omega, fun i d v hd hv => ?_⟩
    by_cases hi : i < d1.length
    · rw [List.getElem?_append_left hi] at hd
      refine g4 i d v hd ?_
      rw [get_drop_take (by omega)]; simpa using hv
    · rw [List.getElem?_append_right (by omega)] at hd
      refine k3 (i - d1.length) d v hd ?_
      rw [show off + sz + (i - d1.length) = off + i by omega]; exact hv

theorem cells_get {a : Addr} {n : Nat} {cs : List Value} (h : w.cells? 0 a n = some cs) : cs.length = n ∧ ∀ i, i < n → w.cell? (a.add i) = cs[i]? := by
  unfold World.cells? at h
  rw [if_pos (Nat.zero_le _)] at h
  exact ⟨by simpa using mapM_some_length h, fun i hi => mapM_some_get h i i (by simp [hi])⟩

theorem trod_rel (hM : ∀ b, ¬ M b) : ∀ (n : Nat) (t : TypeId) (s : Sh), shOf P n t = some s → ∀ (fuel : Nat) (cs : List Value) (x : DataW H × List MemPlace),
    DataW.trod enc P w 0 (fun _ => true) held fuel t cs = some x → Reads M w s cs := by
  intro n
  induction n with
  | zero => intro t s h; cases h
  | succ n ih =>
    intro t s h fuel cs x hx
    have hcells := shOf_size h
    simp only [shOf, Option.bind_eq_some_iff] at h
    obtain ⟨s', h1, h2⟩ := h
    split at h2
    case isFalse => cases h2
    cases h2
    unfold shOf1 at h1
    split at h1
    · rename_i ht
      simp only [Option.some.injEq] at h1; subst h1
      obtain ⟨b, rfl, _⟩ := DataW.trod_bool ht hx
      exact reads_one (d := .bool b) (by simp [Sh.has]) (by simp [Sh.size]) (.bool b)
    · rename_i k ht
      simp only [Option.some.injEq] at h1; subst h1
      obtain ⟨m, rfl, _, hw⟩ := DataW.trod_int ht hx
      exact reads_one (d := .int k m) (by simp only [Sh.has]; exact ⟨m, rfl, hw⟩) (by simp [Sh.size]) (.int k m)
    · rename_i k ht
      simp only [Option.some.injEq] at h1; subst h1
      cases fuel with
      | zero => simp [DataW.trod] at hx
      | succ fuel =>
        have : ∃ b, cs = [.float k b] ∧ (Lit.float k b).wf = true := by
          unfold DataW.trod at hx
          rw [ht] at hx
          split at hx <;> simp_all
        obtain ⟨b0, rfl, hb0⟩ := this
        exact reads_one (d := .flt k b0) (by simp only [Sh.has]; exact ⟨b0, rfl, hb0⟩) (by simp [Sh.size]) (.flt k b0)
    · rename_i ht
      simp only [Option.some.injEq] at h1; subst h1
      obtain ⟨m, rfl, _, hw⟩ := DataW.trod_string ht hx
      exact reads_one (d := .str m) (by simp only [Sh.has]; exact ⟨m, rfl, hw⟩) (by simp [Sh.size]) (.str m)
    · rename_i e ht
      simp only [Option.bind_eq_some_iff] at h1
      obtain ⟨se, he, h1⟩ := h1
      split at h1
      · cases h1
      rename_i hse
      simp only [Option.some.injEq] at h1; subst h1
      have hce := shOf_size he
      rcases DataW.trod_slice ht hx with ⟨rfl, _⟩ | ⟨a, len, cap, elems, rest, m, _, rfl, _, _, hlc, hcm, hel, hget, _, _⟩
      · exact reads_one (d := .list [] true) (by simp only [Sh.has]; exact ⟨[], true, rfl, by simp, fun r h => by simp at h⟩) (by simp [Sh.size]) (.nil true none 0 (fun _ => rfl))
      · have row : ∀ i, i < len → ∃ cs', w.cells? 0 (a.add (i * P.cellsOf e)) (P.cellsOf e) = some cs' ∧ Reads M w se cs' := fun i hi => by
          have := hget i hi
          rw [List.getElem?_eq_getElem (by omega)] at this
          simp only [Option.bind_eq_some_iff] at this
          obtain ⟨cs', g1, g2⟩ := this
          exact ⟨cs', g1, ih e se he _ _ _ g2⟩
        cases len with
        | zero => exact reads_one (d := .list [] (decide (cap = 0))) (by simp only [Sh.has]; exact ⟨[], _, rfl, by simp, fun r h => by simp at h⟩) (by simp [Sh.size]) (.nil _ _ _ (fun h => by simpa using h))
        | succ len =>
          have hspot : a.spot = none ∧ a.block < w.heap.size := by
            obtain ⟨cs', g1, ds, _, g2, g3, _⟩ := row 0 (by omega)
            obtain ⟨g4, g5⟩ := cells_get g1
            have := g5 0 (by omega)
            rw [List.getElem?_eq_getElem (by omega)] at this
            simp only [Nat.zero_mul, Addr.add, if_true] at this
            refine ⟨?_, block_lt this⟩
            unfold World.cell? at this
            split at this
            · split at this
              · cases this
              · rename_i h; simpa using h
            · cases this
          obtain ⟨b, off, spot⟩ := a
          obtain ⟨rfl, hb⟩ := hspot
          let g : Nat → List DV := fun i => if h : i < len + 1 then Classical.choose (Classical.choose_spec (row i h)).2 else []
          have hg : ∀ i (h : i < len + 1), se.has (g i) ∧ (g i).length = se.size ∧ ∀ (j : Nat) (d : DV), (g i)[j]? = some d → ∃ v, w.cell? ⟨b, off + (i * se.size + j), none⟩ = some v ∧ RelD M w d v := fun i h => by
            have := Classical.choose_spec (Classical.choose_spec (row i h)).2
            have hc := (Classical.choose_spec (row i h)).1
            obtain ⟨c1, c2⟩ := cells_get hc
            obtain ⟨t1, t2, t3, t4⟩ := this
            have e : g i = Classical.choose (Classical.choose_spec (row i h)).2 := dif_pos h
            rw [e]
            refine ⟨t1, t2, fun j d hd => ?_⟩
            have hj : j < se.size := by
              rcases Nat.lt_or_ge j se.size with h | h
              · exact h
              · rw [List.getElem?_eq_none (by omega)] at hd; cases hd
            have c3 := c2 j (by omega)
            rw [List.getElem?_eq_getElem (by omega)] at c3
            refine ⟨_, ?_, t4 j d _ hd (List.getElem?_eq_getElem (by omega))⟩
            rw [← c3, hce]
            congr 1
            simp only [Addr.add]
            by_cases h1 : i * se.size = 0
            · by_cases h2 : j = 0
              · simp [h1, h2]
              · simp [h1, h2]
            · by_cases h2 : j = 0
              · simp [h1, h2]
              · simp [h1, h2]; omega
          refine reads_one (d := .list ((List.range (len + 1)).map g) (decide (cap = len + 1))) ?_ (by simp [Sh.size]) ?_
          · simp only [Sh.has]
            refine ⟨_, _, rfl, by simp; omega, fun r hr => ?_⟩
            simp only [List.mem_map, List.mem_range] at hr
            obtain ⟨i, hi, rfl⟩ := hr
            exact (hg i hi).1
          · have hrow : ∀ (i : Nat) (r : List DV), ((List.range (len + 1)).map g)[i]? = some r → i < len + 1 ∧ r = g i := fun i r h => by
              have hi : i < len + 1 := by
                rcases Nat.lt_or_ge i (len + 1) with h' | h'
                · exact h'
                · rw [List.getElem?_eq_none (by simpa using h')] at h; cases h
              refine ⟨hi, ?_⟩
              rw [List.getElem?_eq_getElem (by simpa using hi)] at h
              simpa using h.symm
            have := RelD.list (M := M) (w := w) ((List.range (len + 1)).map g) (decide (cap = len + 1)) se.size b off cap (fun i j => (w.cell? ⟨b, off + (i * se.size + j), none⟩).getD default) hb (hM b)
              (fun r hr => by simp only [List.mem_map, List.mem_range] at hr; obtain ⟨i, hi, rfl⟩ := hr; exact (hg i hi).2.1) (by simpa using hlc) (fun h => by simpa using h)
              (fun i r j d h1 h2 => by
                obtain ⟨hi, rfl⟩ := hrow i r h1
                obtain ⟨v, h3, h4⟩ := (hg i hi).2.2 j d h2
                rw [h3]; rfl)
              (fun i r j d h1 h2 => by
                obtain ⟨hi, rfl⟩ := hrow i r h1
                obtain ⟨v, h3, h4⟩ := (hg i hi).2.2 j d h2
                rw [h3]; exact h4)
            simpa using this
    · rename_i fs ht
      simp only [Option.map_eq_some_iff] at h1
      obtain ⟨ls, h1, rfl⟩ := h1
      obtain ⟨xs, m, _, _, hlen, hxl, hget⟩ := DataW.trod_struct ht hx
      obtain ⟨ds, g1, g2, g3⟩ := fields_rel (P := P) (M := M) (w := w) (ok := fun t cs => ∃ fuel x, DataW.trod enc P w 0 (fun _ => true) held fuel t cs = some x)
        (fun t s h => ⟨shOf_size h, fun cs ⟨fuel, x, h'⟩ => ih t s h fuel cs x h'⟩) (cs := cs) fs.toList 0 ls h1 (fun f hf => by
          obtain ⟨i, hi⟩ := List.getElem?_of_mem hf
          have hi' : fs[i]? = some f := by simpa using hi
          have hlt : i < fs.size := by
            rcases Nat.lt_or_ge i fs.size with h | h
            · exact h
            · rw [Array.getElem?_eq_none h] at hi'; cases hi'
          exact ⟨m, _, (hget i f hi').trans (List.getElem?_eq_getElem (by omega))⟩) (by rw [hlen, hcells]; simp [Sh.size])
      exact ⟨ds, by simpa [Sh.has] using g1, by simpa [Sh.size] using g2, by rw [hlen, hcells], fun i d v h1 h2 => g3 i d v h1 (by simpa using h2)⟩
    · rename_i m e ht
      simp only [Option.map_eq_some_iff] at h1
      obtain ⟨se, he, rfl⟩ := h1
      have hce := shOf_size he
      obtain ⟨xs, m', _, _, hlen, hxl, hget⟩ := DataW.trod_array ht hx
      obtain ⟨ds, g1, g2, g3⟩ := array_rel (M := M) (w := w) (s := se) (cs := cs) hce m 0 (fun i hi => by
        have := hget i hi
        rw [List.getElem?_eq_getElem (by omega)] at this
        simpa using ih e se he _ _ _ this)
      exact ⟨ds, by simpa [Sh.has] using g1, by simpa [Sh.size, hce] using g2, by rw [hlen, hcells], fun i d v h1 h2 => g3 i d v h1 (by simpa using h2)⟩
    · cases h1

end

/-- An argument as a value of the abstract machine. -/
def Sh.av : Sh → List DV → AV
  | .st _, ds => .agg (ds.map .d)
  | .arr _ _, ds => .agg (ds.map .d)
  | _, ds => .d (ds.getD 0 .nilp)

section
variable {H : Type} {enc : TypeId × Value → H} {P : Program} {w : World} {held : Bool} {M : Nat → Prop} {φ : Nat → Option (Nat × Nat)}

theorem one_cell {v : Value} {x : Value} (h : v.cells.toList = [x]) (hv : ∀ cs, v ≠ .agg cs) : v = x := by
  cases v <;> simp_all [Value.cells]

/-- An argument that reads as data. -/
theorem open_any (hM : ∀ b, ¬ M b) {n base : Nat} {r : Reach} {t : TypeId} {s : Sh} (h : shOf P n t = some s) {v : Value} (hval : Value.okWide P w r base t v) {d : DataW H} {ps : List MemPlace}
    (hd : DataW.Trod enc P w 0 (fun _ => true) held t v d ps) : ∃ ds, s.has ds ∧ Rel φ M w (s.av ds) v := by
  obtain ⟨fuel, hf⟩ := hd
  obtain ⟨ds, h1, h2, h3, h4⟩ := trod_rel hM n t s h fuel _ _ hf
  refine ⟨ds, h1, ?_⟩
  have many : (∃ cs, v = .agg cs) → Rel φ M w (.agg (ds.map .d)) v := fun ⟨cs, e⟩ => by
    subst e
    simp only [Value.cells] at h3 h4
    refine .agg _ _ (by simp at h3 ⊢; omega) fun i x u hx hu => ?_
    simp only [List.getElem?_map, Option.map_eq_some_iff] at hx
    obtain ⟨d, hd, rfl⟩ := hx
    exact .d _ _ (h4 i d u hd (by simpa using hu))
  have one : s.size = 1 → (∀ cs, v ≠ .agg cs) → Rel φ M w (.d (ds.getD 0 .nilp)) v := fun h5 h6 => by
    obtain ⟨x, hx⟩ : ∃ x, v.cells.toList = [x] := by
      rw [h5] at h3
      match h : v.cells.toList, h3 with
      | [x], _ => exact ⟨x, rfl⟩
    obtain ⟨d, rfl⟩ : ∃ d, ds = [d] := by
      rw [h5] at h2
      match h : ds, h2 with
      | [x], _ => exact ⟨x, rfl⟩
    rw [hx] at h4
    have := h4 0 d x rfl rfl
    rw [one_cell hx h6]
    exact .d _ _ this
  cases n with
  | zero => cases h
  | succ n =>
    simp only [shOf, Option.bind_eq_some_iff] at h
    obtain ⟨s', g1, g2⟩ := h
    split at g2
    case isFalse => cases g2
    cases g2
    unfold shOf1 at g1
    split at g1
    · rename_i ht
      simp only [Option.some.injEq] at g1; subst g1
      obtain ⟨b, rfl⟩ := okWide_bool ht hval
      exact one (by simp [Sh.size]) (fun cs h => by cases h)
    · rename_i k ht
      simp only [Option.some.injEq] at g1; subst g1
      obtain ⟨b, rfl⟩ := okWide_int ht hval
      exact one (by simp [Sh.size]) (fun cs h => by cases h)
    · rename_i k ht
      simp only [Option.some.injEq] at g1; subst g1
      refine one (by simp [Sh.size]) (fun cs h => ?_)
      subst h
      simp [Value.okWide, Cell.okWide, Cell.ok, ht] at hval
    · rename_i ht
      simp only [Option.some.injEq] at g1; subst g1
      obtain ⟨b, rfl⟩ := okWide_string ht hval
      exact one (by simp [Sh.size]) (fun cs h => by cases h)
    · rename_i e ht
      simp only [Option.bind_eq_some_iff] at g1
      obtain ⟨se, he, g1⟩ := g1
      split at g1
      · cases g1
      simp only [Option.some.injEq] at g1; subst g1
      obtain ⟨a, l, c, rfl⟩ := okWide_slice ht hval
      exact one (by simp [Sh.size]) (fun cs h => by cases h)
    · rename_i fs ht
      simp only [Option.map_eq_some_iff] at g1
      obtain ⟨ls, g1, rfl⟩ := g1
      obtain ⟨cs, rfl, _⟩ := okWide_struct ht hval
      exact many ⟨cs, rfl⟩
    · rename_i m e ht
      simp only [Option.map_eq_some_iff] at g1
      obtain ⟨se, he, rfl⟩ := g1
      unfold Value.okWide at hval
      rw [ht] at hval
      obtain ⟨cs, rfl, _⟩ := hval
      exact many ⟨cs, rfl⟩
    · cases g1

end

/-- Lists of arguments of shapes. -/
inductive HasAll : List Sh → List (List DV) → Prop
  | nil : HasAll [] []
  | cons {s : Sh} {ss : List Sh} {d : List DV} {ds : List (List DV)} (h : s.has d) (hs : HasAll ss ds) : HasAll (s :: ss) (d :: ds)

def avs : List Sh → List (List DV) → List AV
  | s :: ss, d :: ds => s.av d :: avs ss ds
  | _, _ => []

def noOwn : Nat → Prop := fun _ => False

theorem noM (b : Nat) : ¬ Mb noOwn noIds [] b := by
  rintro (h | ⟨i, o, h, _⟩)
  · exact h
  · simp [Heap.at, HO.alive] at h

theorem simH_empty (w : World) : SimH noOwn noIds [] w where
  dom i b o h := by simp [noIds] at h
  there i sz rows h := by simp [Heap.at, HO.rows] at h
  inj i j b o o' h := by simp [Heap.at, HO.alive] at h
  amb b h := h.elim
  apart b h := h.elim
  objs i b o h := by simp [Heap.at, HO.alive] at h

def shAll (P : Program) : List TypeId → Option (List Sh)
  | [] => some []
  | t :: ts => (shOf P 16 t).bind fun s => (shAll P ts).map (s :: ·)

section
variable {H : Type} {enc : TypeId × Value → H} {P : Program} {W : World}

theorem open_all {r : Reach} {base : Nat} : ∀ (ts : List TypeId) (ss : List Sh) (vs : List Value) (ds : List (DataW H)) (ps : List MemPlace), shAll P ts = some ss →
    (∀ (j : Nat) t v, ts[j]? = some t → vs[j]? = some v → Value.okWide P W r base t v) →
    DataW.TrodAll enc P W 0 (fun _ => true) true ts vs ds ps →
    ∃ xs, HasAll ss xs ∧ (avs ss xs).length = vs.length ∧ ∀ (i : Nat) (x : AV) (v : Value), (avs ss xs)[i]? = some x → vs[i]? = some v → Rel noIds (Mb noOwn noIds []) W x v := by
  intro ts
  induction ts with
  | nil =>
    intro ss vs ds ps hs hv ht
    simp only [shAll, Option.some.injEq] at hs; subst hs
    cases vs with
    | nil => exact ⟨[], .nil, rfl, fun i x v h => by simp [avs] at h⟩
    | cons v vs => cases ds <;> exact ht.elim
  | cons t ts ih =>
    intro ss vs ds ps hs hv ht
    simp only [shAll, Option.bind_eq_some_iff, Option.map_eq_some_iff] at hs
    obtain ⟨s, h1, ss', h2, rfl⟩ := hs
    cases vs with
    | nil => cases ds <;> exact ht.elim
    | cons v vs =>
      cases ds with
      | nil => exact ht.elim
      | cons d ds =>
        obtain ⟨p, q, g1, g2, rfl⟩ := ht
        obtain ⟨x, k1, k2⟩ := open_any (φ := noIds) noM h1 (hv 0 t v rfl rfl) g1
        obtain ⟨xs, m1, m2, m3⟩ := ih ss' vs ds q h2 (fun j t v a b => hv (j + 1) t v (by simpa using a) (by simpa using b)) g2
        refine ⟨x :: xs, .cons k1 m1, by simp [avs, m2], fun i y u e1 e2 => ?_⟩
        cases i with
        | zero => simp [avs] at e1 e2; subst e1; subst e2; exact k2
        | succ i => exact m3 i y u (by simpa [avs] using e1) (by simpa using e2)

theorem stays_all (hl : laidOutB P = true) {W' : World} : ∀ (ts : List TypeId) (vs : List Value) (ds : List (DataW H)) (ps : List MemPlace), (ts.all fun t => P.readableRec t && decide (t < P.types.size)) = true →
    DataW.TrodAll enc P W 0 (fun _ => true) true ts vs ds ps → (∀ p ∈ ps, W.sameAt W' p) → ∀ sp : Nat → Bool, (∀ p ∈ ps, sp p.block = true) → DataW.TrodAll enc P W' 0 sp true ts vs ds ps := by
  intro ts
  induction ts with
  | nil => intro vs ds ps _ h _ sp _; cases vs <;> cases ds <;> first | exact h | exact h.elim
  | cons t ts ih =>
    intro vs ds ps hr h hs sp hsp
    cases vs with
    | nil => cases ds <;> exact h.elim
    | cons v vs =>
      cases ds with
      | nil => exact h.elim
      | cons d ds =>
        obtain ⟨p, q, g1, g2, rfl⟩ := h
        simp only [List.all_cons, Bool.and_eq_true, decide_eq_true_eq] at hr
        exact ⟨p, q, WideElems.Trod_stays hl hr.1.1 hr.1.2 g1 (fun x hx => hs x (by simp [hx])) (fun x hx => hsp x (by simp [hx])),
          ih vs ds q (by simpa using hr.2) g2 (fun x hx => hs x (by simp [hx])) sp (fun x hx => hsp x (by simp [hx])), rfl⟩

end

/-- The law's contract, out of what the abstract machine says. -/
theorem law_contract {H : Type} {enc : TypeId × Value → H} {P : Program} {f : FuncId} {fn : Func} {s : ChangeSpec} {tb : TypeId} (hl : laidOutB P = true) {ss : List Sh} (hss : shAll P fn.params.toList = some ss)
    (hread : (fn.params.toList.all fun t => P.readableRec t && decide (t < P.types.size)) = true) (hvars : s.vars = []) (hres : fn.resultTypes = #[tb]) (htb : P.underlying tb = some .bool)
    (law : ∀ xs, HasAll ss xs → ACalls P f (avs ss xs) [] fun r _ => r = .d (.bool true))
    {apart : Bool} {W : World} {base : Nat} {args : Array Value} {ds gs : List (DataW H)} {before : List MemPlace}
    (hval : ∀ (j : Nat) t v, fn.params[j]? = some t → args[j]? = some v → Value.okWide P W .any base t v)
    (hW : DataW.Whole enc P fn.params.toList s.vars apart W args.toList ds gs before)
    (hspec : ∀ (p : List MemPlace), DataW.TrodAll enc P W 0 (fun _ => true) true fn.params.toList args.toList ds p → (s.fn H (ds ++ [])).results = [.lit (.bool true)] ∧ (s.fn H (ds ++ [])).args = ds ∧ (s.fn H (ds ++ [])).vars = []) :
    Calls P f args W fun e W' => ∃ v, e = .returned v ∧ s.post enc P fn apart true false false W args v W' := by
  have hW' := hW
  have hlt := hW.lt
  obtain ⟨p, q, hA, hV, rfl, hfz, hnd⟩ := hW
  rw [hvars] at hV
  obtain ⟨rfl, rfl⟩ : gs = [] ∧ q = [] := by
    cases gs with
    | nil => exact ⟨rfl, hV⟩
    | cons g gs => exact hV.elim
  obtain ⟨e1, e2, e3⟩ := hspec p hA
  obtain ⟨xs, h1, h2, h3⟩ := open_all _ _ _ _ _ hss (fun j t v a b => hval j t v (by simpa using a) (by simpa using b)) hA
  refine ((law xs h1).2 noOwn noIds W args (simH_empty W) (by simp at h2 ⊢; omega) (fun i x v a b => h3 i x v a (by simpa using b))).mono fun e W' ⟨v, r, H', φ', he, hr, _, hrel, hext⟩ => ?_
  subst hr
  have hv : v = .bool true := by
    cases hrel with
    | d x v h => cases h; rfl
  subst hv
  have hsame : ∀ b, b < W.heap.size → W'.heap[b]? = W.heap[b]? := fun b hb => hext.pres.same b hb (by rintro ⟨i, o, h, _⟩; simp [Heap.at, HO.alive] at h)
  have hsame' : ∀ x : MemPlace, x.block < W.heap.size → W.sameAt W' x := fun x hx => by
    cases x with
    | cell b o => exact cell_of_block (a := ⟨b, o, none⟩) (hsame b hx)
    | map b => exact hsame b hx
  refine ⟨_, he, post_of_same (pa := p) (pv := []) hW' (fun b sp hd => ?_) (fun sp hsp => ?_) (fun sp hsp => ?_) rfl ?_ hext.pres.fz ?_⟩
  · rw [e1, hres]
    exact trodAll_cons_mk (shut_bool htb _) trodAll_mk0
  · rw [e2]
    exact stays_all hl _ _ _ _ hread hA (fun x hx => hsame' x (hlt x (by simpa using hx))) sp (fun x hx => hsp x (by simpa using hx))
  · rw [e3, hvars]; rfl
  · refine ⟨hext.pres.os.1, hext.pres.os.2, fun i hi => ?_⟩
    rw [hsame i hi]
    cases h : W.heap[i]? with
    | none => rfl
    | some o => cases o <;> simp
  · intro j t' r hj hv'
    rw [hres] at hj hv'
    match j with
    | 0 =>
      simp [Value.resultList] at hj hv'
      subst hj; subst hv'
      exact okWide_bool_mk htb _
    | j + 1 => simp [Value.resultList] at hj

end Go.Ago
