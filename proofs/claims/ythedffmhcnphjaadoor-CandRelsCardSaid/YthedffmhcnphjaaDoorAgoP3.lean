/- Functions: from what is asked of a body to a call. Conditions: none. -/
import Derived.Test.YthedffmhcnphjaaDoorAgoP2
import Derived.OpenShut
import Derived.ProofKit
import Derived.Carry
import Derived.WalkSpells
import Derived.Lib.SliceRun
set_option linter.unusedSimpArgs false
set_option linter.unusedVariables false
namespace Go.Ago

inductive LRes where
  | tmp (t : Nat)
  | cell (t : Nat) (agg : Bool) (sz : Nat)

def lowRes (P : Program) : ResultVar → Option LRes
  | .tmp t => some (.tmp t)
  | .cell a t => (lowAgg P t).bind fun g => (lowSz P t).map fun sz => .cell a g sz

def lowRess (P : Program) : List ResultVar → Option (List LRes)
  | [] => some []
  | r :: rs => (lowRes P r).bind fun x => (lowRess P rs).map (x :: ·)

def resT (S : State) : LRes → AV
  | .tmp t => S.env.get t
  | .cell t agg sz => (evLoad S.heap agg sz (S.env.get t)).δ.val

def resQ (S : State) : List LRes → Prop
  | [] => True
  | .tmp _ :: rs => resQ S rs
  | .cell t agg sz :: rs => (evLoad S.heap agg sz (S.env.get t)).ok ∧ resQ S rs

def resV (S : State) : List LRes → AV
  | [r] => resT S r
  | rs => .tup (rs.map (resT S))

def retK (rs : List LRes) (Post : AV → Heap → Prop) : AExit → State → Prop
  | .exit _, _ => False
  | _, S => resQ S rs ∧ Post (resV S rs) S.heap

def Z1d : Nat → List AV → Env
  | _, [] => []
  | i, x :: xs => (i, x) :: Z1d (i + 1) xs

theorem envFrom_get : ∀ (args : List AV) (i t : Nat), (Z1d i args).get t = if i ≤ t then args.getD (t - i) .undef else .undef := by
  intro args
  induction args with
  | nil => intro i t; simp [Z1d, Env.get]
  | cons x xs ih =>
    intro i t
    simp only [Z1d, Env.get, ih]
    by_cases e : i = t
    · simp [e]
    · by_cases e' : i ≤ t
      · rw [if_neg e, if_pos (by omega), if_pos e', show t - i = (t - (i + 1)) + 1 by omega, List.getD_cons_succ]
      · rw [if_neg e, if_neg (by omega), if_neg e']

def noSpecs : Specs := fun _ _ => .none

theorem noSpecs_ok {P : Program} : SpecsOK P noSpecs where
  data := fun g args ok val fresh h => by simp [noSpecs] at h
  rows := fun g args ok sz rows h => by simp [noSpecs] at h

theorem RelL.cons {φ : Nat → Option (Nat × Nat)} {M : Nat → Prop} {w : World} {x : AV} {v : Value} {xs : List AV} {vs : List Value} (h : Rel φ M w x v) (hs : RelL φ M w xs vs) : RelL φ M w (x :: xs) (v :: vs) := by
  refine ⟨by simp [hs.len], fun i => ?_⟩
  cases i with
  | zero => intro y u h1 h2; simp at h1 h2; subst h1; subst h2; exact h
  | succ i => intro y u h1 h2; exact hs.get i y u (by simpa using h1) (by simpa using h2)

section
variable {A : Nat → Prop} {φ : Nat → Option (Nat × Nat)} {w : World} {P : Program} {n : Nat} {S : State} {a : Act}

theorem run_cell (hs : Sim P A n φ S a w) {t : Nat} {ty : TypeId} {g : Bool} {sz : Nat} (hg : lowAgg P ty = some g) (hsz : lowSz P ty = some sz) (h : (evLoad S.heap g sz (S.env.get t)).ok) :
    ∃ v, (do loadVar ty (← asAddr (a.tmps.getD t undef)) : Sem Value).run P w = .ok v w ∧ Rel φ (Mb A φ S.heap) w (evLoad S.heap g sz (S.env.get t)).δ.val v := by
  have hr := hs.slots t
  have hact : actLoad S.heap g sz (S.env.get t) (· = (evLoad S.heap g sz (S.env.get t)).δ) := by
    have := evOp_sound (P := P) (F := noSpecs) noSpecs_ok (base := 0) (e := S.env) (H := S.heap) (o := .load g sz (.tmp t)) h
    exact this
  obtain ⟨v, z, ids, hrun, hrel, he⟩ := run_load_op (P := P) hs.heap hg hsz hr hact
  refine ⟨v, ?_, by rw [← he]; exact hrel⟩
  generalize hv : a.tmps.getD t undef = p at *
  generalize S.env.get t = x at *
  cases hr with
  | ptr id sz0 row j b o hb => simpa [Instr.loadAt, Instr.sureAddr, asAddr] using hrun
  | dptr cells j b off f hb hc hsz => simpa [Instr.loadAt, Instr.sureAddr, asAddr] using hrun
  | _ => exact (by simp [evLoad, Out.no] at h : False).elim

theorem run_ress (hs : Sim P A n φ S a w) : ∀ (l : List ResultVar) (rs : List LRes), lowRess P l = some rs → resQ S rs →
    ∃ vs, (l.mapM (m := Sem) fun | .tmp t => pure (a.tmps.getD t undef) | .cell c t => do loadVar t (← asAddr (a.tmps.getD c undef))).run P w = .ok vs w ∧ RelL φ (Mb A φ S.heap) w (rs.map (resT S)) vs := by
  intro l
  induction l with
  | nil => intro rs h _; simp [lowRess] at h; subst h; exact ⟨[], by simp, .nil⟩
  | cons r l ih =>
    intro rs h hq
    simp only [lowRess, Option.bind_eq_some_iff, Option.map_eq_some_iff] at h
    obtain ⟨x, hx, rs', hrs, rfl⟩ := h
    cases r with
    | tmp t =>
      simp only [lowRes, Option.some.injEq] at hx; subst hx
      obtain ⟨vs, h1, h2⟩ := ih rs' hrs hq
      exact ⟨a.tmps.getD t undef :: vs, by simp only [List.mapM_cons, Sem.run_bind, Sem.run_pure, Result.andThen_ok, h1], .cons (hs.slots t) h2⟩
    | cell c t =>
      simp only [lowRes, Option.bind_eq_some_iff, Option.map_eq_some_iff] at hx
      obtain ⟨g, hg, sz, hsz, rfl⟩ := hx
      obtain ⟨vs, h1, h2⟩ := ih rs' hrs hq.2
      obtain ⟨v, h3, h4⟩ := run_cell hs hg hsz hq.1
      exact ⟨v :: vs, by
        simp only [Sem.run_bind] at h3
        simp only [List.mapM_cons, Sem.run_bind, h3, Result.andThen_ok, h1, Sem.run_pure], .cons h4 h2⟩

theorem run_results (hs : Sim P A n φ S a w) {fn : Func} {rs : List LRes} (hr : lowRess P fn.results.toList = some rs) (hq : resQ S rs) :
    ∃ v, (results fn a.tmps).run P w = .ok v w ∧ Rel φ (Mb A φ S.heap) w (resV S rs) v := by
  obtain ⟨vs, h1, h2⟩ := run_ress hs _ _ hr hq
  have hlen := h2.len
  simp at hlen
  refine ⟨if h : vs.toArray.size = 1 then vs.toArray[0] else .tuple vs.toArray, ?_, ?_⟩
  · unfold results
    rw [Array.mapM_eq_mapM_toList]
    rw [map_eq_pure_bind, Sem.run_bind, Sem.run_bind]
    refine (congrArg (fun r => Result.andThen (Result.andThen r _) _) h1).trans ?_
    simp only [Result.andThen_ok, Sem.run_pure]
  · cases rs with
    | nil =>
      cases vs with
      | nil => exact .tup [] #[] rfl (fun i x v h => by simp at h)
      | cons v vs => simp at hlen
    | cons r rs =>
      cases rs with
      | nil =>
        cases vs with
        | nil => simp at hlen
        | cons v vs =>
          cases vs with
          | nil => simpa [resV] using h2.get 0 _ _ rfl rfl
          | cons v' vs => simp at hlen
      | cons r' rs =>
        have : ¬ vs.toArray.size = 1 := by simp; simp at hlen; omega
        rw [dif_neg this]
        simp only [resV]
        exact .tup _ _ (by simp; simp at hlen; omega) (fun i x v e1 e2 => h2.get i x v e1 (by simpa using e2))

end

/-! Which slots a body hands on from one region to another. -/
def Opd.slots : Opd → List Nat
  | .tmp t => [t]
  | .cst _ => []

end Go.Ago

/- From the reader's data to the abstract machine's: arguments that read as data, and a law's row. Conditions: none. -/
set_option linter.unusedSimpArgs false
set_option linter.unusedVariables false
namespace Go.Ago
open Go.ChangeShapes Go.WideShapes Go.RowKit

/-- The shape of a type of plain data. -/
inductive Sh where
  | int (k : IntKind)
  | bool
  | flt (k : FloatKind)
  | str
  | sl (s : Sh)
  | st (l : List Sh)
  | arr (n : Nat) (s : Sh)

mutual
def Sh.size : Sh → Nat
  | .st l => Sh.sizes l
  | .arr n s => n * Sh.size s
  | _ => 1
def Sh.sizes : List Sh → Nat
  | [] => 0
  | s :: l => Sh.size s + Sh.sizes l
end

def Rep (p : List DV → Prop) : Nat → List DV → Prop
  | 0, cs => cs = []
  | n + 1, cs => ∃ a b, cs = a ++ b ∧ p a ∧ Rep p n b

mutual
/-- Cells of that shape. -/
def Sh.has : Sh → List DV → Prop
  | .int k, cs => ∃ n, cs = [.int k n] ∧ (Lit.int k n).wf = true
  | .bool, cs => ∃ b, cs = [.bool b]
  | .flt k, cs => ∃ b, cs = [.flt k b] ∧ (Lit.float k b).wf = true
  | .str, cs => ∃ s, cs = [.str s] ∧ s.size ≤ maxLen
  | .sl s, cs => ∃ rows full, cs = [.list rows full] ∧ rows.length ≤ maxLen ∧ ∀ r ∈ rows, Sh.has s r
  | .st l, cs => Sh.hasL l cs
  | .arr n s, cs => Rep (Sh.has s) n cs
def Sh.hasL : List Sh → List DV → Prop
  | [], cs => cs = []
  | s :: l, cs => ∃ a b, cs = a ++ b ∧ Sh.has s a ∧ Sh.hasL l b
end

def shFields (rec : TypeId → Option Sh) : List Field → Nat → Option (List Sh)
  | [], _ => some []
  | f :: fs, off => if f.offset = off then (rec f.type).bind fun s => (shFields rec fs (off + s.size)).map (s :: ·) else none

def shOf1 (P : Program) (rec : TypeId → Option Sh) (t : TypeId) : Option Sh :=
  match P.underlying t with
  | some .bool => some .bool
  | some (.int k) => some (.int k)
  | some (.float k) => some (.flt k)
  | some .string => some .str
  | some (.slice e) => (rec e).bind fun s => if s.size = 0 then none else some (.sl s)
  | some (.struct fs) => (shFields rec fs.toList 0).map .st
  | some (.array n e) => (rec e).map (.arr n)
  | _ => none

def shOf (P : Program) : Nat → TypeId → Option Sh
  | 0, _ => none
  | n + 1, t => (shOf1 P (shOf P n) t).bind fun s => if P.cellsOf t = s.size then some s else none

theorem shOf_size {P : Program} : ∀ {n : Nat} {t : TypeId} {s : Sh}, shOf P n t = some s → P.cellsOf t = s.size := by
  intro n t s h
  cases n with
  | zero => cases h
  | succ n =>
    simp only [shOf, Option.bind_eq_some_iff] at h
    obtain ⟨s', _, h⟩ := h
    split at h
    · cases h; assumption
    · cases h

section
variable {H : Type} {enc : TypeId × Value → H} {P : Program} {w : World} {held : Bool} {M : Nat → Prop}

/-- Cells that read as cells of a shape. -/
def Reads (M : Nat → Prop) (w : World) (s : Sh) (cs : List Value) : Prop :=
  ∃ ds, s.has ds ∧ ds.length = s.size ∧ cs.length = s.size ∧ ∀ (i : Nat) (d : DV) (v : Value), ds[i]? = some d → cs[i]? = some v → RelD M w d v

theorem reads_one {s : Sh} {d : DV} {v : Value} (hs : s.has [d]) (h1 : s.size = 1) (h : RelD M w d v) : Reads M w s [v] :=
  ⟨[d], hs, by simp [h1], by simp [h1], fun i d' v' h1 h2 => by
    cases i with
    | zero => simp at h1 h2; subst h1; subst h2; exact h
    | succ i => simp at h1⟩

theorem get_drop_take {α : Type} {l : List α} {o n i : Nat} (h : i < n) : ((l.drop o).take n)[i]? = l[o + i]? := by
  rw [List.getElem?_take, if_pos h, List.getElem?_drop]

theorem fields_rel {rec : TypeId → Option Sh} {ok : TypeId → List Value → Prop}
    (hrec : ∀ t s, rec t = some s → P.cellsOf t = s.size ∧ ∀ cs, ok t cs → Reads M w s cs) {cs : List Value} :
    ∀ (l : List Field) (off : Nat) (ls : List Sh), shFields rec l off = some ls → (∀ f ∈ l, ok f.type ((cs.drop f.offset).take (P.cellsOf f.type))) → off + Sh.sizes ls ≤ cs.length →
      ∃ ds, Sh.hasL ls ds ∧ ds.length = Sh.sizes ls ∧ ∀ (i : Nat) (d : DV) (v : Value), ds[i]? = some d → cs[off + i]? = some v → RelD M w d v := by
  intro l
  induction l with
  | nil =>
    intro off ls h _ _
    simp only [shFields, Option.some.injEq] at h; subst h
    exact ⟨[], by simp [Sh.hasL], by simp [Sh.sizes], fun i d v h => by simp at h⟩
  | cons f fs ih =>
    intro off ls h hok hlen
    simp only [shFields] at h
    split at h
    · rename_i hoff
      simp only [Option.bind_eq_some_iff, Option.map_eq_some_iff] at h
      obtain ⟨s, h1, ls', h2, rfl⟩ := h
      obtain ⟨hsz, hr⟩ := hrec _ _ h1
      simp only [Sh.sizes] at hlen ⊢
      obtain ⟨d1, g1, g2, g3, g4⟩ := hr _ (hok f (by simp))
      obtain ⟨d2, k1, k2, k3⟩ := ih _ _ h2 (fun f' hf' => hok f' (by simp [hf'])) (by omega)
      refine ⟨d1 ++ d2, by simp only [Sh.hasL]; exact ⟨d1, d2, rfl, g1, k1⟩, by simp [g2, k2], fun i d v hd hv => ?_⟩
      by_cases hi : i < d1.length
      · rw [List.getElem?_append_left hi] at hd
        refine g4 i d v hd ?_
        rw [hoff, hsz, get_drop_take (by omega)]; exact hv
      · rw [List.getElem?_append_right (by omega)] at hd
        refine k3 (i - d1.length) d v hd ?_
        rw [show off + s.size + (i - d1.length) = off + i by omega]; exact hv
    · cases h

theorem array_rel {s : Sh} {cs : List Value} {sz : Nat} (hsz : sz = s.size) :
    ∀ (n off : Nat), (∀ i, i < n → Reads M w s ((cs.drop (off + i * sz)).take sz)) →
      ∃ ds, Rep s.has n ds ∧ ds.length = n * sz ∧ ∀ (i : Nat) (d : DV) (v : Value), ds[i]? = some d → cs[off + i]? = some v → RelD M w d v := by
  intro n
  induction n with
  | zero => intro off _; exact ⟨[], rfl, by simp, fun i d v h => by simp at h⟩
  | succ n ih =>
    intro off h
    obtain ⟨d1, g1, g2, g3, g4⟩ := h 0 (by omega)
    obtain ⟨d2, k1, k2, k3⟩ := ih (off + sz) (fun i hi => by have := h (i + 1) (by omega); rw [show off + (i + 1) * sz = off + sz + i * sz by rw [Nat.add_mul]; omega] at this; exact this)
    refine ⟨d1 ++ d2, ⟨d1, d2, rfl, g1, k1⟩, by simp [g2, k2, Nat.add_mul]; omega, fun i d v hd hv => ?_⟩
    by_cases hi : i < d1.length
    · rw [List.getElem?_append_left hi] at hd
      refine g4 i d v hd ?_
      rw [get_drop_take (by omega)]; simpa using hv
    · rw [List.getElem?_append_right (by omega)] at hd
      refine k3 (i - d1.length) d v hd ?_
      rw [show off + sz + (i - d1.length) = off + i by omega]; exact hv

theorem cells_get {a : Addr} {n : Nat} {cs : List Value} (h : w.cells? 0 a n = some cs) : cs.length = n ∧ ∀ i, i < n → w.cell? (a.add i) = cs[i]? := by
  unfold World.cells? at h
  rw [if_pos (Nat.zero_le _)] at h
  exact ⟨by simpa using mapM_some_length h, fun i hi => mapM_some_get h i i (by simp [hi])⟩

theorem trod_rel (hM : ∀ b, ¬ M b) : ∀ (n : Nat) (t : TypeId) (s : Sh), shOf P n t = some s → ∀ (fuel : Nat) (cs : List Value) (x : DataW H × List MemPlace),
    DataW.trod enc P w 0 (fun _ => true) held fuel t cs = some x → Reads M w s cs := by
  intro n
  induction n with
  | zero => intro t s h; cases h
  | succ n ih =>
    intro t s h fuel cs x hx
    have hcells := shOf_size h
    simp only [shOf, Option.bind_eq_some_iff] at h
    obtain ⟨s', h1, h2⟩ := h
    split at h2
    case isFalse => cases h2
    cases h2
    unfold shOf1 at h1
    split at h1
    · rename_i ht
      simp only [Option.some.injEq] at h1; subst h1
      obtain ⟨b, rfl, _⟩ := DataW.trod_bool ht hx
      exact reads_one (d := .bool b) (by simp [Sh.has]) (by simp [Sh.size]) (.bool b)
    · rename_i k ht
      simp only [Option.some.injEq] at h1; subst h1
      obtain ⟨m, rfl, _, hw⟩ := DataW.trod_int ht hx
      exact reads_one (d := .int k m) (by simp only [Sh.has]; exact ⟨m, rfl, hw⟩) (by simp [Sh.size]) (.int k m)
    · rename_i k ht
      simp only [Option.some.injEq] at h1; subst h1
      cases fuel with
      | zero => simp [DataW.trod] at hx
      | succ fuel =>
        have : ∃ b, cs = [.float k b] ∧ (Lit.float k b).wf = true := by
          unfold DataW.trod at hx
          rw [ht] at hx
          split at hx <;> simp_all
        obtain ⟨b0, rfl, hb0⟩ := this
        exact reads_one (d := .flt k b0) (by simp only [Sh.has]; exact ⟨b0, rfl, hb0⟩) (by simp [Sh.size]) (.flt k b0)
    · rename_i ht
      simp only [Option.some.injEq] at h1; subst h1
      obtain ⟨m, rfl, _, hw⟩ := DataW.trod_string ht hx
      exact reads_one (d := .str m) (by simp only [Sh.has]; exact ⟨m, rfl, hw⟩) (by simp [Sh.size]) (.str m)
    · rename_i e ht
      simp only [Option.bind_eq_some_iff] at h1
      obtain ⟨se, he, h1⟩ := h1
      split at h1
      · cases h1
      rename_i hse
      simp only [Option.some.injEq] at h1; subst h1
      have hce := shOf_size he
      rcases DataW.trod_slice ht hx with ⟨rfl, _⟩ | ⟨a, len, cap, elems, rest, m, _, rfl, _, _, hlc, hcm, hel, hget, _, _⟩
      · exact reads_one (d := .list [] true) (by simp only [Sh.has]; exact ⟨[], true, rfl, by simp, fun r h => by simp at h⟩) (by simp [Sh.size]) (.nil true none 0 (fun _ => rfl))
      · have row : ∀ i, i < len → ∃ cs', w.cells? 0 (a.add (i * P.cellsOf e)) (P.cellsOf e) = some cs' ∧ Reads M w se cs' := fun i hi => by
          have := hget i hi
          rw [List.getElem?_eq_getElem (by omega)] at this
          simp only [Option.bind_eq_some_iff] at this
          obtain ⟨cs', g1, g2⟩ := this
          exact ⟨cs', g1, ih e se he _ _ _ g2⟩
        cases len with
        | zero => exact reads_one (d := .list [] (decide (cap = 0))) (by simp only [Sh.has]; exact ⟨[], _, rfl, by simp, fun r h => by simp at h⟩) (by simp [Sh.size]) (.nil _ _ _ (fun h => by simpa using h))
        | succ len =>
          have hspot : a.spot = none ∧ a.block < w.heap.size := by
            obtain ⟨cs', g1, ds, _, g2, g3, _⟩ := row 0 (by omega)
            obtain ⟨g4, g5⟩ := cells_get g1
            have := g5 0 (by omega)
            rw [List.getElem?_eq_getElem (by omega)] at this
            simp only [Nat.zero_mul, Addr.add, if_true] at this
            refine ⟨?_, block_lt this⟩
            unfold World.cell? at this
            split at this
            · split at this
              · cases this
              · rename_i h; simpa using h
            · cases this
          obtain ⟨b, off, spot⟩ := a
          obtain ⟨rfl, hb⟩ := hspot
          let g : Nat → List DV := fun i => if h : i < len + 1 then Classical.choose (Classical.choose_spec (row i h)).2 else []
          have hg : ∀ i (h : i < len + 1), se.has (g i) ∧ (g i).length = se.size ∧ ∀ (j : Nat) (d : DV), (g i)[j]? = some d → ∃ v, w.cell? ⟨b, off + (i * se.size + j), none⟩ = some v ∧ RelD M w d v := fun i h => by
            have := Classical.choose_spec (Classical.choose_spec (row i h)).2
            have hc := (Classical.choose_spec (row i h)).1
            obtain ⟨c1, c2⟩ := cells_get hc
            obtain ⟨t1, t2, t3, t4⟩ := this
            have e : g i = Classical.choose (Classical.choose_spec (row i h)).2 := dif_pos h
            rw [e]
            refine ⟨t1, t2, fun j d hd => ?_⟩
            have hj : j < se.size := by
              rcases Nat.lt_or_ge j se.size with h | h
              · exact h
              · rw [List.getElem?_eq_none (by omega)] at hd; cases hd
            have c3 := c2 j (by omega)
            rw [List.getElem?_eq_getElem (by omega)] at c3
            refine ⟨_, ?_, t4 j d _ hd (List.getElem?_eq_getElem (by omega))⟩
            rw [← c3, hce]
            congr 1
            simp only [Addr.add]
            by_cases h1 : i * se.size = 0
            · by_cases h2 : j = 0
              · simp [h1, h2]
              · simp [h1, h2]
            · by_cases h2 : j = 0
              · simp [h1, h2]
              · simp [h1, h2]; omega
          refine reads_one (d := .list ((List.range (len + 1)).map g) (decide (cap = len + 1))) ?_ (by simp [Sh.size]) ?_
          · simp only [Sh.has]
            refine ⟨_, _, rfl, by simp; omega, fun r hr => ?_⟩
            simp only [List.mem_map, List.mem_range] at hr
            obtain ⟨i, hi, rfl⟩ := hr
            exact (hg i hi).1
          · have hrow : ∀ (i : Nat) (r : List DV), ((List.range (len + 1)).map g)[i]? = some r → i < len + 1 ∧ r = g i := fun i r h => by
              have hi : i < len + 1 := by
                rcases Nat.lt_or_ge i (len + 1) with h' | h'
                · exact h'
                · rw [List.getElem?_eq_none (by simpa using h')] at h; cases h
              refine ⟨hi, ?_⟩
              rw [List.getElem?_eq_getElem (by simpa using hi)] at h
              simpa using h.symm
            have := RelD.list (M := M) (w := w) ((List.range (len + 1)).map g) (decide (cap = len + 1)) se.size b off cap (fun i j => (w.cell? ⟨b, off + (i * se.size + j), none⟩).getD default) hb (hM b)
              (fun r hr => by simp only [List.mem_map, List.mem_range] at hr; obtain ⟨i, hi, rfl⟩ := hr; exact (hg i hi).2.1) (by simpa using hlc) (fun h => by simpa using h)
              (fun i r j d h1 h2 => by
                obtain ⟨hi, rfl⟩ := hrow i r h1
                obtain ⟨v, h3, h4⟩ := (hg i hi).2.2 j d h2
                rw [h3]; rfl)
              (fun i r j d h1 h2 => by
                obtain ⟨hi, rfl⟩ := hrow i r h1
                obtain ⟨v, h3, h4⟩ := (hg i hi).2.2 j d h2
                rw [h3]; exact h4)
            simpa using this
    · rename_i fs ht
      simp only [Option.map_eq_some_iff] at h1
      obtain ⟨ls, h1, rfl⟩ := h1
      obtain ⟨xs, m, _, _, hlen, hxl, hget⟩ := DataW.trod_struct ht hx
      obtain ⟨ds, g1, g2, g3⟩ := fields_rel (P := P) (M := M) (w := w) (ok := fun t cs => ∃ fuel x, DataW.trod enc P w 0 (fun _ => true) held fuel t cs = some x)
        (fun t s h => ⟨shOf_size h, fun cs ⟨fuel, x, h'⟩ => ih t s h fuel cs x h'⟩) (cs := cs) fs.toList 0 ls h1 (fun f hf => by
          obtain ⟨i, hi⟩ := List.getElem?_of_mem hf
          have hi' : fs[i]? = some f := by simpa using hi
          have hlt : i < fs.size := by
            rcases Nat.lt_or_ge i fs.size with h | h
            · exact h
            · rw [Array.getElem?_eq_none h] at hi'; cases hi'
          exact ⟨m, _, (hget i f hi').trans (List.getElem?_eq_getElem (by omega))⟩) (by rw [hlen, hcells]; simp [Sh.size])
      exact ⟨ds, by simpa [Sh.has] using g1, by simpa [Sh.size] using g2, by rw [hlen, hcells], fun i d v h1 h2 => g3 i d v h1 (by simpa using h2)⟩
    · rename_i m e ht
      simp only [Option.map_eq_some_iff] at h1
      obtain ⟨se, he, rfl⟩ := h1
      have hce := shOf_size he
      obtain ⟨xs, m', _, _, hlen, hxl, hget⟩ := DataW.trod_array ht hx
      obtain ⟨ds, g1, g2, g3⟩ := array_rel (M := M) (w := w) (s := se) (cs := cs) hce m 0 (fun i hi => by
        have := hget i hi
        rw [List.getElem?_eq_getElem (by omega)] at this
        simpa using ih e se he _ _ _ this)
      exact ⟨ds, by simpa [Sh.has] using g1, by simpa [Sh.size, hce] using g2, by rw [hlen, hcells], fun i d v h1 h2 => g3 i d v h1 (by simpa using h2)⟩
    · cases h1

end

/-- An argument as a value of the abstract machine. -/
def Sh.av : Sh → List DV → AV
  | .st _, ds => .agg (ds.map .d)
  | .arr _ _, ds => .agg (ds.map .d)
  | _, ds => .d (ds.getD 0 .nilp)

section
variable {H : Type} {enc : TypeId × Value → H} {P : Program} {w : World} {held : Bool} {M : Nat → Prop} {φ : Nat → Option (Nat × Nat)}

theorem one_cell {v : Value} {x : Value} (h : v.cells.toList = [x]) (hv : ∀ cs, v ≠ .agg cs) : v = x := by
  cases v <;> simp_all [Value.cells]

/-- An argument that reads as data. -/
theorem open_any (hM : ∀ b, ¬ M b) {n base : Nat} {r : Reach} {t : TypeId} {s : Sh} (h : shOf P n t = some s) {v : Value} (hval : Value.okWide P w r base t v) {d : DataW H} {ps : List MemPlace}
    (hd : DataW.Trod enc P w 0 (fun _ => true) held t v d ps) : ∃ ds, s.has ds ∧ Rel φ M w (s.av ds) v := by
  obtain ⟨fuel, hf⟩ := hd
  obtain ⟨ds, h1, h2, h3, h4⟩ := trod_rel hM n t s h fuel _ _ hf
  refine ⟨ds, h1, ?_⟩
  have many : (∃ cs, v = .agg cs) → Rel φ M w (.agg (ds.map .d)) v := fun ⟨cs, e⟩ => by
    subst e
    simp only [Value.cells] at h3 h4
    refine .agg _ _ (by simp at h3 ⊢; omega) fun i x u hx hu => ?_
    simp only [List.getElem?_map, Option.map_eq_some_iff] at hx
    obtain ⟨d, hd, rfl⟩ := hx
    exact .d _ _ (h4 i d u hd (by simpa using hu))
  have one : s.size = 1 → (∀ cs, v ≠ .agg cs) → Rel φ M w (.d (ds.getD 0 .nilp)) v := fun h5 h6 => by
    obtain ⟨x, hx⟩ : ∃ x, v.cells.toList = [x] := by
      rw [h5] at h3
      match h : v.cells.toList, h3 with
      | [x], _ => exact ⟨x, rfl⟩
    obtain ⟨d, rfl⟩ : ∃ d, ds = [d] := by
      rw [h5] at h2
      match h : ds, h2 with
      | [x], _ => exact ⟨x, rfl⟩
    rw [hx] at h4
    have := h4 0 d x rfl rfl
    rw [one_cell hx h6]
    exact .d _ _ this
  cases n with
  | zero => cases h
  | succ n =>
    simp only [shOf, Option.bind_eq_some_iff] at h
    obtain ⟨s', g1, g2⟩ := h
    split at g2
    case isFalse => cases g2
    cases g2
    unfold shOf1 at g1
    split at g1
    · rename_i ht
      simp only [Option.some.injEq] at g1; subst g1
      obtain ⟨b, rfl⟩ := okWide_bool ht hval
      exact one (by simp [Sh.size]) (fun cs h => by cases h)
    · rename_i k ht
      simp only [Option.some.injEq] at g1; subst g1
      obtain ⟨b, rfl⟩ := okWide_int ht hval
      exact one (by simp [Sh.size]) (fun cs h => by cases h)
    · rename_i k ht
      simp only [Option.some.injEq] at g1; subst g1
      refine one (by simp [Sh.size]) (fun cs h => ?_)
      subst h
      simp [Value.okWide, Cell.okWide, Cell.ok, ht] at hval
    · rename_i ht
      simp only [Option.some.injEq] at g1; subst g1
      obtain ⟨b, rfl⟩ := okWide_string ht hval
      exact one (by simp [Sh.size]) (fun cs h => by cases h)
    · rename_i e ht
      simp only [Option.bind_eq_some_iff] at g1
      obtain ⟨se, he, g1⟩ := g1
      split at g1
      · cases g1
      simp only [Option.some.injEq] at g1; subst g1
      obtain ⟨a, l, c, rfl⟩ := okWide_slice ht hval
      exact one (by simp [Sh.size]) (fun cs h => by cases h)
    · rename_i fs ht
      simp only [Option.map_eq_some_iff] at g1
      obtain ⟨ls, g1, rfl⟩ := g1
      obtain ⟨cs, rfl, _⟩ := okWide_struct ht hval
      exact many ⟨cs, rfl⟩
    · rename_i m e ht
      simp only [Option.map_eq_some_iff] at g1
      obtain ⟨se, he, rfl⟩ := g1
      unfold Value.okWide at hval
      rw [ht] at hval
      obtain ⟨cs, rfl, _⟩ := hval
      exact many ⟨cs, rfl⟩
    · cases g1

end

/-- Lists of arguments of shapes. -/
inductive HasAll : List Sh → List (List DV) → Prop
  | nil : HasAll [] []
  | cons {s : Sh} {ss : List Sh} {d : List DV} {ds : List (List DV)} (h : s.has d) (hs : HasAll ss ds) : HasAll (s :: ss) (d :: ds)

def avs : List Sh → List (List DV) → List AV
  | s :: ss, d :: ds => s.av d :: avs ss ds
  | _, _ => []

def noOwn : Nat → Prop := fun _ => False

theorem noM (b : Nat) : ¬ Mb noOwn noIds [] b := by
  rintro (h | ⟨i, o, h, _⟩)
  · exact h
  · simp [Heap.at, HO.alive] at h

theorem simH_empty {P : Program} (w : World) (ht : ∀ b, tabOf P b = true → TableAt w b) : SimH P noOwn noIds [] w where
  dom i b o h := by simp [noIds] at h
  there i sz rows h := by simp [Heap.at, HO.rows] at h
  inj i j b o o' h := by simp [Heap.at, HO.alive] at h
  amb b h := h.elim
  apart b h := h.elim
  objs i b o h := by simp [Heap.at, HO.alive] at h
  objx i b o h := by simp [Heap.at, HO.alive] at h
  tab b hb := ⟨noM b, ht b hb⟩

def shAll (P : Program) : List TypeId → Option (List Sh)
  | [] => some []
  | t :: ts => (shOf P 16 t).bind fun s => (shAll P ts).map (s :: ·)

section
variable {H : Type} {enc : TypeId × Value → H} {P : Program} {W : World}

theorem open_all {r : Reach} {base : Nat} : ∀ (ts : List TypeId) (ss : List Sh) (vs : List Value) (ds : List (DataW H)) (ps : List MemPlace), shAll P ts = some ss →
    (∀ (j : Nat) t v, ts[j]? = some t → vs[j]? = some v → Value.okWide P W r base t v) →
    DataW.TrodAll enc P W 0 (fun _ => true) true ts vs ds ps →
    ∃ xs, HasAll ss xs ∧ (avs ss xs).length = vs.length ∧ ∀ (i : Nat) (x : AV) (v : Value), (avs ss xs)[i]? = some x → vs[i]? = some v → Rel noIds (Mb noOwn noIds []) W x v := by
  intro ts
  induction ts with
  | nil =>
    intro ss vs ds ps hs hv ht
    simp only [shAll, Option.some.injEq] at hs; subst hs
    cases vs with
    | nil => exact ⟨[], .nil, rfl, fun i x v h => by simp [avs] at h⟩
    | cons v vs => cases ds <;> exact ht.elim
  | cons t ts ih =>
    intro ss vs ds ps hs hv ht
    simp only [shAll, Option.bind_eq_some_iff, Option.map_eq_some_iff] at hs
    obtain ⟨s, h1, ss', h2, rfl⟩ := hs
    cases vs with
    | nil => cases ds <;> exact ht.elim
    | cons v vs =>
      cases ds with
      | nil => exact ht.elim
      | cons d ds =>
        obtain ⟨p, q, g1, g2, rfl⟩ := ht
        obtain ⟨x, k1, k2⟩ := open_any (φ := noIds) noM h1 (hv 0 t v rfl rfl) g1
        obtain ⟨xs, m1, m2, m3⟩ := ih ss' vs ds q h2 (fun j t v a b => hv (j + 1) t v (by simpa using a) (by simpa using b)) g2
        refine ⟨x :: xs, .cons k1 m1, by simp [avs, m2], fun i y u e1 e2 => ?_⟩
        cases i with
        | zero => simp [avs] at e1 e2; subst e1; subst e2; exact k2
        | succ i => exact m3 i y u (by simpa [avs] using e1) (by simpa using e2)

theorem stays_all (hl : laidOutB P = true) {W' : World} : ∀ (ts : List TypeId) (vs : List Value) (ds : List (DataW H)) (ps : List MemPlace), (ts.all fun t => P.readableRec t && decide (t < P.types.size)) = true →
    DataW.TrodAll enc P W 0 (fun _ => true) true ts vs ds ps → (∀ p ∈ ps, W.sameAt W' p) → ∀ sp : Nat → Bool, (∀ p ∈ ps, sp p.block = true) → DataW.TrodAll enc P W' 0 sp true ts vs ds ps := by
  intro ts
  induction ts with
  | nil => intro vs ds ps _ h _ sp _; cases vs <;> cases ds <;> first | exact h | exact h.elim
  | cons t ts ih =>
    intro vs ds ps hr h hs sp hsp
    cases vs with
    | nil => cases ds <;> exact h.elim
    | cons v vs =>
      cases ds with
      | nil => exact h.elim
      | cons d ds =>
        obtain ⟨p, q, g1, g2, rfl⟩ := h
        simp only [List.all_cons, Bool.and_eq_true, decide_eq_true_eq] at hr
        exact ⟨p, q, WideElems.Trod_stays hl hr.1.1 hr.1.2 g1 (fun x hx => hs x (by simp [hx])) (fun x hx => hsp x (by simp [hx])),
          ih vs ds q (by simpa using hr.2) g2 (fun x hx => hs x (by simp [hx])) sp (fun x hx => hsp x (by simp [hx])), rfl⟩

end

/-- As 'post_of_same', where only what is told of old blocks' frozen cells. -/
theorem post_of_old {H : Type} {enc : TypeId × Value → H} {P : Program} {f : Func} {s : ChangeSpec} {apart fresh handsOn again : Bool} {W W' : World} {args : Array Value} {v : Value} {ds gs : List (DataW H)} {before pa pv : List MemPlace}
    (hW : DataW.Whole enc P f.params.toList s.vars apart W args.toList ds gs before)
    (hres : ∀ (b : Nat) (sp : Nat → Bool) (hd : Bool), DataW.TrodAll enc P W' b sp hd f.resultTypes.toList (v.resultList f.resultTypes.size) (s.fn H (ds ++ gs)).results [])
    (hargs : ∀ sp : Nat → Bool, (∀ p ∈ before, sp p.block = true) → DataW.TrodAll enc P W' 0 sp true f.params.toList args.toList (s.fn H (ds ++ gs)).args pa)
    (hvars : ∀ sp : Nat → Bool, (∀ p ∈ before, sp p.block = true) → DataW.TrodVars enc P W' sp s.vars (s.fn H (ds ++ gs)).vars pv)
    (hps : before = pa ++ pv) (hk : W.keptBut W' (· ∈ before)) (hfz : ∀ a : Addr, a.block < W.heap.size → W'.frozen? a = W.frozen? a)
    (hok : ∀ (j : Nat) (t : TypeId) (r : Value), f.resultTypes[j]? = some t → (v.resultList f.resultTypes.size)[j]? = some r → Value.okWide P W' .any 0 t r) :
    s.post enc P f apart fresh handsOn again W args v W' := by
  have hlt := hW.lt
  have hold : ∀ p ∈ before, (fun b => decide (b < W.heap.size)) p.block = true := fun p hp => by simpa using hlt p hp
  refine ⟨ds, gs, before, [], pa, pv, hW, hres _ _ _, hargs _ hold, hvars _ hold, World.keptBut_mono (fun p hp => ⟨hp, by rw [hps, List.mem_append] at hp; exact Or.inr hp⟩) hk, fun _ => ?_⟩
  obtain ⟨_, _, _, _, _, hz, hn⟩ := hW
  refine ⟨hok, _, _, ([] ++ pa) ++ pv, ⟨[] ++ pa, pv, trodAll_append (hargs _ (fun _ _ => rfl)) (hres _ _ _), hvars _ (fun _ _ => rfl), rfl, fun b off hp => ?_, fun ha => ?_⟩, fun p hp _ => ?_⟩
  · have hb : MemPlace.cell b off ∈ before := by rw [hps]; simpa using hp
    rw [hfz _ (hlt _ hb)]
    exact hz b off hb
  · have := hn ha
    rw [hps] at this
    simpa using this
  · rw [hps]; simpa using hp

theorem law_contract_q {H : Type} {enc : TypeId × Value → H} {P : Program} {f : FuncId} {fn : Func} {s : ChangeSpec} {tb : TypeId} (hl : laidOutB P = true) {ss : List Sh} (hss : shAll P fn.params.toList = some ss)
    (hread : (fn.params.toList.all fun t => P.readableRec t && decide (t < P.types.size)) = true) (hvars : s.vars = []) (hres : fn.resultTypes = #[tb]) (htb : P.underlying tb = some .bool)
    (Q : List (List DV) → Prop) (law : ∀ xs, HasAll ss xs → Q xs → ACalls P f (avs ss xs) [] fun r _ => r = .d (.bool true))
    {apart : Bool} {W : World} {base : Nat} {args : Array Value} {ds gs : List (DataW H)} {before : List MemPlace}
    (hval : ∀ (j : Nat) t v, fn.params[j]? = some t → args[j]? = some v → Value.okWide P W .any base t v)
    (hW : DataW.Whole enc P fn.params.toList s.vars apart W args.toList ds gs before)
    (htab : ∀ b, tabOf P b = true → TableAt W b)
    (hQ : ∀ (p : List MemPlace), DataW.TrodAll enc P W 0 (fun _ => true) true fn.params.toList args.toList ds p → ∀ xs, HasAll ss xs → (∀ (i : Nat) (x : AV) (v : Value), (avs ss xs)[i]? = some x → args.toList[i]? = some v → Rel noIds (Mb noOwn noIds []) W x v) → Q xs)
    (hspec : ∀ (p : List MemPlace), DataW.TrodAll enc P W 0 (fun _ => true) true fn.params.toList args.toList ds p → (s.fn H (ds ++ [])).results = [.lit (.bool true)] ∧ (s.fn H (ds ++ [])).args = ds ∧ (s.fn H (ds ++ [])).vars = []) :
    Calls P f args W fun e W' => ∃ v, e = .returned v ∧ s.post enc P fn apart true false false W args v W' := by
  have hW' := hW
  have hlt := hW.lt
  obtain ⟨p, q, hA, hV, rfl, hfz, hnd⟩ := hW
  rw [hvars] at hV
  obtain ⟨rfl, rfl⟩ : gs = [] ∧ q = [] := by
    cases gs with
    | nil => exact ⟨rfl, hV⟩
    | cons g gs => exact hV.elim
  obtain ⟨e1, e2, e3⟩ := hspec p hA
  obtain ⟨xs, h1, h2, h3⟩ := open_all _ _ _ _ _ hss (fun j t v a b => hval j t v (by simpa using a) (by simpa using b)) hA
  refine ((law xs h1 (hQ p hA xs h1 h3)).2 noOwn noIds W args (simH_empty W htab) (by simp at h2 ⊢; omega) (fun i x v a b => h3 i x v a (by simpa using b))).mono fun e W' ⟨v, r, H', φ', he, hr, _, hrel, hext⟩ => ?_
  subst hr
  have hv : v = .bool true := by
    cases hrel with
    | d x v h => cases h; rfl
  subst hv
  have hsame : ∀ b, b < W.heap.size → W'.heap[b]? = W.heap[b]? := fun b hb => hext.pres.same b hb (by rintro ⟨i, o, h, _⟩; simp [Heap.at, HO.alive] at h)
  have hsame' : ∀ x : MemPlace, x.block < W.heap.size → W.sameAt W' x := fun x hx => by
    cases x with
    | cell b o => exact cell_of_block (a := ⟨b, o, none⟩) (hsame b hx)
    | map b => exact hsame b hx
  refine ⟨_, he, post_of_old (pa := p) (pv := []) hW' (fun b sp hd => ?_) (fun sp hsp => ?_) (fun sp hsp => ?_) rfl ?_ hext.pres.fz ?_⟩
  · rw [e1, hres]
    exact trodAll_cons_mk (shut_bool htb _) trodAll_mk0
  · rw [e2]
    exact stays_all hl _ _ _ _ hread hA (fun x hx => hsame' x (hlt x (by simpa using hx))) sp (fun x hx => hsp x (by simpa using hx))
  · rw [e3, hvars]; rfl
  · refine ⟨hext.pres.os.1, hext.pres.os.2.1, fun i hi => ?_⟩
    rw [hsame i hi]
    cases h : W.heap[i]? with
    | none => rfl
    | some o => cases o <;> simp
  · intro j t' r hj hv'
    rw [hres] at hj hv'
    match j with
    | 0 =>
      simp [Value.resultList] at hj hv'
      subst hj; subst hv'
      exact okWide_bool_mk htb _
    | j + 1 => simp [Value.resultList] at hj

end Go.Ago

/- Bodies once more ('vck'): what a guard tells is known from there on, and a call may change rows that it is handed. Conditions: none. -/
set_option linter.unusedSimpArgs false
set_option linter.unusedVariables false
namespace Go.Ago

/-- What a call does to the heap that it is handed. -/
structure Take where
  i1 : Nat
  i2 : Nat
  sz : Nat
  rows : List (List DV)
  keep : Bool := false

structure Eff where
  ok : Prop
  val : AV
  ups : List (Nat × HO)
  news : List HO
  take : Option Take

structure Tab where
  F : Specs
  G : FuncId → List AV → Heap → Option Eff

def applyUps (H : Heap) (ups : List (Nat × HO)) : Heap := ups.foldl (fun H p => H.set p.1 p.2) H

/-- What such a call does, told on the two objects alone. -/
def Take.Ok (t : Take) (P : Program) (g : FuncId) (args : List AV) (H : Heap) (val : AV) : Prop :=
  match t.keep with
  | false => ∃ a' rows rows2, t.i1 ≠ t.i2 ∧ (∀ n, args = a'.map (AV.ren (two n t.i1 t.i2))) ∧ H.at t.i1 = .dvec t.sz rows ∧ H.at t.i2 = .dvec t.sz rows2 ∧
  ACalls P g a' [.dvec t.sz rows, .dvec t.sz rows2] (fun r H1 => r = .ref 2 t.sz 0 t.rows.length true ∧ H1 = [.dead, .dvec t.sz rows2, .dvec t.sz t.rows])
  | true => ∃ a' rows, (∀ n, args = a'.map (AV.ren (one n t.i1))) ∧ H.at t.i1 = .dvec t.sz rows ∧ (∀ ρ : Nat → Nat, val.ren ρ = val) ∧ ACalls P g a' [.dvec t.sz rows] (fun r H1 => r = val ∧ H1 = [.dvec t.sz rows])

structure TabOK (P : Program) (T : Tab) : Prop where
  F : SpecsOK P T.F
  G : ∀ g args H e, T.G g args H = some e → e.ok → ACalls P g args H fun r H' => r = e.val ∧ H' = applyUps H e.ups ++ e.news
  K : ∀ g args H e t, T.G g args H = some e → e.take = some t → e.ok → t.Ok P g args H e.val

def Z4a (new : Nat) (imp : Bool) (x : Eff) : Out :=
  match x.take with
  | some t => (match t.keep with
    | false => ⟨imp = true ∧ x.ok, ⟨.ref new t.sz 0 t.rows.length true, [(t.i1, .dead), (new, .dvec t.sz t.rows)], [t.i2]⟩⟩
    | true => ⟨x.ok, ⟨x.val, [], [t.i1]⟩⟩)
  | none => .no
def Z2d (T : Tab) (draw : Bool) (H : Heap) (new : Nat) (imp : Bool) (f : AV) (args : List AV) : Out :=
  match fnOf f with
  | some (g, caps) =>
    match T.G g (args ++ caps) H with
    | some x => if draw = true then Z4a new imp x else ⟨x.ok, ⟨x.val, x.ups, []⟩⟩
    | none => Z3q T.F H new imp f args
  | none => Z3q T.F H new imp f args

/-- The objects that a call adds. -/
def Z2i (T : Tab) (draw : Bool) (H : Heap) (f : AV) (args : List AV) : List HO :=
  match draw, fnOf f with
  | false, some (g, caps) =>
    match T.G g (args ++ caps) H with
    | some x => x.news
    | none => []
  | _, _ => []

def evN (T : Tab) (draw : Bool) (e : Env) (H : Heap) (o : LOp) : List HO :=
  match o with
  | .call _ _ f args => Z2i T draw H (f.ev e) (args.map (·.ev e))
  | _ => []

def State.grow (S : State) (news : List HO) : State := ⟨S.env, S.heap ++ news⟩

def evT (T : Tab) (draw : Bool) (base : Nat) (e : Env) (H : Heap) (o : LOp) : Out :=
  match o with
  | .mv x => .v True (x.ev e)
  | .pick c a b => (match c.ev e with | .d (.bool t) => .v True (pickV t (a.ev e) (b.ev e)) | _ => .no)
  | .alloc c sz zero => ⟨True, ⟨.ptr (base + c) sz 0 0, [(base + c, .vec sz [zero])], []⟩⟩
  | .box c x => ⟨Z3t (x.ev e), ⟨.ptr (base + c) (Z31 (x.ev e)).length 0 0, [(base + c, .vec (Z31 (x.ev e)).length [Z31 (x.ev e)])], []⟩⟩
  | .build zero parts => .v (Z49 zero.length (parts.map fun p => (p.1, p.2.1, p.2.2.ev e))) (.agg (Z46 zero (parts.map fun p => (p.1, p.2.1, p.2.2.ev e))))
  | .bslice c sz len zero parts => ⟨Z3b sz len (parts.map fun p => (p.1, p.2.ev e)), ⟨.ref (base + c) sz 0 len true, [(base + c, mkVec sz (Z38 (List.replicate len zero) (parts.map fun p => (p.1, p.2.ev e))))], []⟩⟩
  | .load agg sz a => evLoad H agg sz (a.ev e)
  | .store sz a x => evStore H sz (a.ev e) (x.ev e)
  | .nilchk x => .v (match x.ev e with | .ptr .. | .dptr .. | .clo .. | .d (.fn _) => True | _ => False) (x.ev e)
  | .bin op x y => evBin op (x.ev e) (y.ev e)
  | .eq neg pl x y => evEq neg pl (x.ev e) (y.ev e)
  | .un op x => evUn op (x.ev e)
  | .conv kd x => (match x.ev e with | .d (.int _ n) => .v True (.d (.int kd (kd.wrap n))) | _ => .no)
  | .fl f x y => evFl f (x.ev e) (y.ev e)
  | .fieldAddr off x => (match x.ev e with | .ptr id sz row j => .v True (.ptr id sz row (j + off)) | .dptr cs j => .v True (.dptr cs (j + off)) | _ => .no)
  | .field agg off sz x => (match x.ev e with | .agg cs => .v (loadQ agg sz off cs.length) (loadT agg sz off cs) | _ => .no)
  | .idxAddr sz x i => evIdxAddr sz (x.ev e) (i.ev e)
  | .idxArrAddr len sz x i => evIdxArrAddr len sz (x.ev e) (i.ev e)
  | .idxArr agg len sz x i => evIdxArr agg len sz (x.ev e) (i.ev e)
  | .mkslice c sz bytes zero l m => evMk base c sz bytes zero (l.ev e) (m.ev e)
  | .slice sz x lo hi mx => Z3d sz e (x.ev e) lo hi mx
  | .extract i x => (match x.ev e with | .tup vs => .v (i < vs.length) (vs.getD i .undef) | _ => .no)
  | .mkfn f caps => .v True (match caps with | [] => .d (.fn f) | _ => .clo f (caps.map (·.ev e)))
  | .call c imp f args => Z2d T draw H (base + c) imp (f.ev e) (args.map (·.ev e))
  | .append c sz bytes x y => Z29 H (base + c) sz bytes (x.ev e) (y.ev e)
  | .copy sz x y => evCopy H sz (x.ev e) (y.ev e)
  | .len x => evLen (x.ev e)
  | .apart x y => Z3c H (x.ev e) (y.ev e)
  | .appz c sz bytes zero x l => evAppz H (base + c) sz bytes zero (x.ev e) (l.ev e)
  | .maxi x y => Z3y (fun kd a b => .int kd (if b > a then b else a)) (x.ev e) (y.ev e)
  | .mini x y => Z3y (fun kd a b => .int kd (if b < a then b else a)) (x.ev e) (y.ev e)
  | .max3 x y z => evMax3 (x.ev e) (y.ev e) (z.ev e)
  | .mapNew c => ⟨True, ⟨.mapr (base + c), [(base + c, .mapo [])], []⟩⟩
  | .mapSet m a x => evMSet H (m.ev e) (a.ev e) (x.ev e)
  | .mapGet ok m a => evMGet H ok (m.ev e) (a.ev e)
  | .mapRange c m => evMRange H (base + c) (m.ev e)
  | .mapEntry it => evMEnt H (it.ev e)

def stepK (o : Out) (k : Delta → Prop) : Prop := o.ok ∧ k o.δ
theorem Z17 {ok : Prop} {δ : Delta} {k : Delta → Prop} : stepK ⟨ok, δ⟩ k ↔ ok ∧ k δ := Iff.rfl
theorem Z1i {ok : Prop} {x : AV} {k : Delta → Prop} : stepK (.v ok x) k ↔ ok ∧ k ⟨x, [], []⟩ := Iff.rfl
theorem Z2u {k : Delta → Prop} : stepK .no k ↔ False := ⟨fun h => h.1.elim, fun h => h.elim⟩

/-- Two ways, by a bool. -/
def boolK (b : Bool) (go skip : Prop) : Prop := (b = true → go) ∧ (b = false → skip)
theorem Z0j {go skip : Prop} : boolK true go skip ↔ go := by simp [boolK]
theorem Z08 {go skip : Prop} : boolK false go skip ↔ skip := by simp [boolK]
theorem Z1b {b : Bool} {go skip : Prop} : boolK (!b) go skip ↔ boolK b skip go := by cases b <;> simp [boolK]
theorem Z0i {p : Prop} [Decidable p] {go skip : Prop} : boolK (decide p) go skip ↔ (p → go) ∧ (¬ p → skip) := by simp [boolK]
theorem Z1n {x y : Bool} {go skip : Prop} : boolK (x && y) go skip ↔ (x = true ∧ y = true → go) ∧ (x = false ∨ y = false → skip) := by cases x <;> cases y <;> simp [boolK]
def guardS (x : AV) (want : Bool) (go skip skip0 : Prop) : Prop :=
  match x with
  | .d (.bool b) => (b = want → go) ∧ (b = !want → skip)
  | .tup [] => skip0
  | _ => False
def State.know (S : State) (g : Nat) (b : Bool) : State := ⟨(g, .d (.bool b)) :: S.env, S.heap⟩

theorem know_like {S : State} {g : Nat} {b : Bool} (h : S.env.get g = .d (.bool b)) : Like S (S.know g b) := by
  refine ⟨fun t => ?_, rfl⟩
  simp only [State.know, Env.get]
  by_cases e : g = t
  · subst e; simp [h]
  · simp [e]

/-- What was touched: told only where the order is drawn. -/
def feet (draw : Bool) (f : List Nat × List Nat) (acc : Feet) : Feet :=
  match draw with
  | true => f :: acc
  | false => []

def RGk (T : Tab) (draw : Bool) (base : Nat) (pairs : List (Nat × Nat)) (K : State → Prop) : List LOper → State → Feet → Prop
  | [], S, acc => match draw with
    | true => chk pairs acc.reverse = true ∧ K S
    | false => K S
  | ⟨dst, op, none⟩ :: os, S, acc => stepK (evT T draw base S.env S.heap op) fun δ => RGk T draw base pairs K os ((S.app dst δ).grow (evN T draw S.env S.heap op)) (feet draw δ.foot acc)
  | ⟨dst, op, some (g, want)⟩ :: os, S, acc => guardS (S.env.get g) want
      (stepK (evT T draw base (S.know g want).env S.heap op) fun δ => RGk T draw base pairs K os (((S.know g want).app dst δ).grow (evN T draw (S.know g want).env S.heap op)) (feet draw δ.foot acc))
      (RGk T draw base pairs K os ((S.know g (!want)).app dst skipD) (feet draw ([], []) acc))
      (RGk T draw base pairs K os (S.app dst skipD) (feet draw ([], []) acc))


/-- A state that is like one of 'K'. -/
def LikeK (K : State → Prop) (S : State) : Prop := ∃ S', Like S S' ∧ K S'

theorem evT_data {T : Tab} {base : Nat} {e : Env} {H : Heap} {o : LOp} {draw : Bool} (h : ∀ c imp f args, o ≠ .call c imp f args) : evT T draw base e H o = evOp T.F base e H o ∧ evN T draw e H o = [] := by
  cases o with
  | call c imp f args => exact absurd rfl (h _ _ _ _)
  | _ => exact ⟨rfl, rfl⟩

theorem evT_draw {P : Program} {T : Tab} (hT : TabOK P T) {base : Nat} {e : Env} {H : Heap} {o : LOp} (h : (evT T true base e H o).ok) : actK P base e H o (· = (evT T true base e H o).δ) ∧ evN T true e H o = [] := by
  cases o with
  | call c imp f args =>
    refine ⟨?_, rfl⟩
    simp only [evT, Z2d] at h ⊢
    cases hf : fnOf (f.ev e) with
    | none =>
      simp only [hf] at h ⊢
      exact evOp_sound (o := .call c imp f args) hT.F h
    | some gc =>
      obtain ⟨g, caps⟩ := gc
      simp only [hf] at h ⊢
      cases hG : T.G g (args.map (·.ev e) ++ caps) H with
      | none =>
        simp only [hG] at h ⊢
        exact evOp_sound (o := .call c imp f args) hT.F h
      | some x =>
        simp only [hG, if_true] at h ⊢
        cases hx : x.take with
        | none => simp only [Z4a, hx] at h; exact h.elim
        | some t =>
          simp only [Z4a, hx] at h ⊢
          cases hk : t.keep with
          | false =>
            simp only [hk] at h ⊢
            have hK := hT.K _ _ _ _ _ hG hx h.2
            simp only [Take.Ok, hk] at hK
            obtain ⟨a', rows, rows2, k1, k2, k3, k4, k5⟩ := hK
            exact ⟨g, caps, hf, .inr (.inr (.inl ⟨h.1, t.i1, t.i2, a', t.sz, rows, rows2, t.rows, k1, k2, k3, k4, k5, rfl⟩))⟩
          | true =>
            simp only [hk] at h ⊢
            have hK := hT.K _ _ _ _ _ hG hx h
            simp only [Take.Ok, hk] at hK
            obtain ⟨a', rows, k1, k2, k3, k4⟩ := hK
            exact ⟨g, caps, hf, .inr (.inr (.inr ⟨t.i1, a', t.sz, rows, x.val, k1, k2, k3, k4, rfl⟩))⟩
  | _ => exact ⟨evOp_sound hT.F h, rfl⟩

theorem evT_call {T : Tab} {base : Nat} {e : Env} {H : Heap} {c : Nat} {imp : Bool} {f : Opd} {args : List Opd} : 
    (evT T false base e H (.call c imp f args) = evOp T.F base e H (.call c imp f args) ∧ evN T false e H (.call c imp f args) = []) ∨
    ∃ g caps x, fnOf (f.ev e) = some (g, caps) ∧ T.G g (args.map (·.ev e) ++ caps) H = some x ∧ evT T false base e H (.call c imp f args) = ⟨x.ok, ⟨x.val, x.ups, []⟩⟩ ∧ evN T false e H (.call c imp f args) = x.news := by
  simp only [evT, evOp, Z2d, evN, Z2i]
  cases h : fnOf (f.ev e) with
  | none => exact .inl ⟨rfl, rfl⟩
  | some gc =>
    obtain ⟨g, caps⟩ := gc
    cases h2 : T.G g (args.map (·.ev e) ++ caps) H with
    | none => exact .inl (by simp only [h2, and_self])
    | some x => exact .inr ⟨g, caps, x, rfl, h2, by simp only [h2, Bool.false_eq_true, if_false, and_self]⟩

theorem applyUps_len (ups : List (Nat × HO)) : ∀ (H : Heap), (applyUps H ups).length = H.length := by
  induction ups with
  | nil => intro H; rfl
  | cons u us ih => intro H; show (applyUps (H.set u.1 u.2) us).length = _; rw [ih]; simp

theorem RGk.rg {P : Program} {T : Tab} (hT : TabOK P T) {draw : Bool} {base : Nat} {pairs : List (Nat × Nat)} (hp : draw = false → pairs = []) {K : State → Prop} :
    ∀ (los : List LOper) (S S' : State) (acc acc' : Feet), Like S S' → (draw = true → acc = acc') → RGk T draw base pairs K los S' acc' → RG P draw base pairs (LikeK K) los S acc := by
  have hF := hT.F
  intro los
  induction los with
  | nil =>
    intro S S' acc acc' hl ha h
    cases draw with
    | true => rw [ha rfl]; exact ⟨h.1, S', hl, h.2⟩
    | false => rw [hp rfl]; exact ⟨rfl, S', hl, h⟩
  | cons o os ih =>
    intro S S' acc acc' hl ha h
    obtain ⟨dst, op, guard⟩ := o
    -- one operation that is done
    have one : ∀ {S' : State}, Like S S' → stepK (evT T draw base S'.env S'.heap op) (fun δ => RGk T draw base pairs K os ((S'.app dst δ).grow (evN T draw S'.env S'.heap op)) (feet draw δ.foot acc')) →
        (actK P base S.env S.heap op fun δ => RG P draw base pairs (LikeK K) os (S.app dst δ) ((δ.rd, δ.ups.map (·.1)) :: acc)) ∨
        (draw = false ∧ ∃ c imp f args g caps, op = .call c imp f args ∧ fnOf (f.ev S.env) = some (g, caps) ∧
          ACalls P g (args.map (·.ev S.env) ++ caps) S.heap fun r H' => S.heap.length ≤ H'.length ∧ RG P draw base pairs (LikeK K) os ({ S with heap := H' }.app dst ⟨r, [], []⟩) (([], []) :: acc)) := by
      intro S' hl ⟨h1, h2⟩
      have grow0 : ∀ S1 : State, S1.grow [] = S1 := fun S1 => by simp [State.grow]
      have data0 : actK P base S'.env S'.heap op (· = (evT T draw base S'.env S'.heap op).δ) ∧ evN T draw S'.env S'.heap op = [] → actK P base S.env S.heap op fun δ => RG P draw base pairs (LikeK K) os (S.app dst δ) ((δ.rd, δ.ups.map (·.1)) :: acc) := fun e => by
        simp only [e.2, grow0] at h2
        have hs' : actK P base S.env S.heap op (· = (evT T draw base S'.env S'.heap op).δ) := by
          have : Step P base ⟨dst, op, none⟩ (evT T draw base S'.env S'.heap op).δ S' := e.1
          exact hl.symm.step this
        refine actK_mono hs' fun δ hδ => ?_
        subst hδ
        exact ih _ _ _ _ (hl.app _ _) (fun hd => by rw [ha hd]; subst hd; rfl) h2
      have data : evT T draw base S'.env S'.heap op = evOp T.F base S'.env S'.heap op ∧ evN T draw S'.env S'.heap op = [] → actK P base S.env S.heap op fun δ => RG P draw base pairs (LikeK K) os (S.app dst δ) ((δ.rd, δ.ups.map (·.1)) :: acc) := fun e => by
        refine data0 ⟨?_, e.2⟩
        rw [e.1] at h1 ⊢
        exact evOp_sound (P := P) hF h1
      cases hd : draw with
      | true => subst hd; exact .inl (data0 (evT_draw hT h1))
      | false =>
        subst hd
        cases op with
        | call c imp f args =>
          rcases evT_call (T := T) (base := base) (e := S'.env) (H := S'.heap) (c := c) (imp := imp) (f := f) (args := args) with e | ⟨g, caps, x, e1, e2, e3, e4⟩
          · exact .inl (data e)
          · refine .inr ⟨rfl, c, imp, f, args, g, caps, rfl, ?_, ?_⟩
            · have : f.ev S.env = f.ev S'.env := by cases f <;> simp [Opd.ev, hl.1]
              rw [this]; exact e1
            · have ea : args.map (·.ev S.env) = args.map (·.ev S'.env) := List.map_congr_left fun y _ => by cases y <;> simp [Opd.ev, hl.1]
              rw [e3] at h1
              simp only [e3, e4] at h2
              rw [ea, hl.2]
              refine (hT.G _ _ _ _ e2 h1).mono fun r H' ⟨hr, hH⟩ => ?_
              subst hr; subst hH
              refine ⟨by rw [List.length_append, applyUps_len]; omega, ih _ _ _ _ ?_ (fun hd => by cases hd) h2⟩
              refine ⟨fun t => ?_, ?_⟩
              · show Env.get (State.app _ _ _).env t = Env.get (State.app _ _ _).env t
                rw [get_app, get_app]; simp only [hl.1 t]
              · rfl
        | _ => exact .inl (data (evT_data (fun _ _ _ _ h => by cases h)))
    cases guard with
    | none => exact one hl h
    | some gw =>
      obtain ⟨g, want⟩ := gw
      simp only [RGk] at h
      simp only [RG]
      rw [hl.1 g]
      unfold guardS at h
      split at h
      · rename_i b hb
        simp only [hb]
        refine ⟨fun e => ?_, fun e => ?_⟩
        · subst e
          exact one (hl.trans (know_like hb)) (h.1 rfl)
        · have e' : b = !want := by cases b <;> cases want <;> simp_all
          have := h.2 e'
          rw [← e'] at this
          exact ih _ _ _ _ ((hl.trans (know_like hb)).app _ _) (fun hd => by rw [ha hd]; subst hd; rfl) this
      · rename_i hb
        simp only [hb]
        exact ih _ _ _ _ (hl.app _ _) (fun hd => by rw [ha hd]; subst hd; rfl) h
      · exact h.elim

def knowO (S : State) (c : Opd) (b : Bool) : State :=
  match c with
  | .tmp t => S.know t b
  | .cst _ => S

def condS (x : AV) (go skip : Prop) : Prop :=
  match x with
  | .d (.bool t) => (t = true → go) ∧ (t = false → skip)
  | _ => False
/-- Is a slice nil? One that has something in it is not; of any other both must do. -/
def nilS (x : AV) (neg : Bool) (k : Bool → Prop) : Prop :=
  match x with
  | .d (.list rows _) => k neg ∧ (rows.length = 0 → k (!neg))
  | .ref _ _ _ len _ => k neg ∧ (len = 0 → k (!neg))
  | _ => False

/-- A step of a walk through a map: each entry that is left may come. -/
def nextM (o : HO) (S : State) (id m n : Nat) (seen : List Nat) (t1 t2 : Nat) (live : List Nat) (K : AExit → State → Prop) : Prop :=
  match o with
  | .mapo es => es.length = n ∧ (∀ i, i < es.length → i ∉ seen → K .normal (((S.app (some t1) ⟨.undef, [(id, .iter m n (seen ++ [i]))], []⟩).app (some t2) ⟨.d (.bool true), [], []⟩).prune live)) ∧
      ((∀ i, i < es.length → i ∈ seen) → K .normal (((S.app (some t1) ⟨.undef, [], []⟩).app (some t2) ⟨.d (.bool false), [], []⟩).prune live))
  | _ => False
def nextG (o : HO) (S : State) (id t1 t2 : Nat) (live : List Nat) (K : AExit → State → Prop) : Prop :=
  match o with
  | .iter m n seen => nextM (S.heap.at m) S id m n seen t1 t2 live K
  | _ => False
def nextX (x : AV) (S : State) (t1 t2 : Nat) (live : List Nat) (K : AExit → State → Prop) : Prop :=
  match x with
  | .ptr id 1 0 0 => nextG (S.heap.at id) S id t1 t2 live K
  | _ => False

/-! ### What is asked of a body -/
def loopV (n0 : Nat) (K : AExit → State → Prop) (I : Nat → State → Prop) (k : Nat) : AExit → State → Prop
  | .normal, S' => ∃ k', k' < k ∧ Wk n0 (I k') S'
  | x, S' => Wk n0 (K x) S'

def vck (T : Tab) (n0 : Nat) (live : List Nat) : LCode → State → (AExit → State → Prop) → Prop
  | .skip, S, K => K .normal S
  | .ret, S, K => K .ret S
  | .exit id, S, K => K (.exit id) S
  | .region draw los pairs, S, K => RGk T draw S.heap.length pairs (fun S' => K .normal (S'.prune live)) los (Z0c S (Z3e los)) []
  | .nilq los neg dst x, S, K => RGk T false S.heap.length [] (fun S' => nilS (x.ev S'.env) neg fun b => K .normal ((S'.app (some dst) ⟨.d (.bool b), [], []⟩).prune live)) los (Z0c S (Z3e los)) []
  | .mnext t1 x t2, S, K => nextX (x.ev S.env) S t1 t2 live K
  | .seq a b, S, K => vck T n0 live a S (thenK (fun S' => vck T n0 live b S' K) K)
  | .cond c a b, S, K => condS (c.ev S.env) (vck T n0 live a (knowO S c true) K) (vck T n0 live b (knowO S c false) K)
  | .block id b, S, K => vck T n0 live b S (blockK id K)
  | .loop b, S, K => ∃ (I : Nat → State → Prop) (k : Nat), Wk n0 (I k) S ∧ ∀ k S, I k S → vck T n0 live b S (loopV n0 K I k)


theorem AWP.like {P : Program} {n n0 : Nat} {c : Code} {S S' : State} {K : AExit → State → Prop} (hl : Like S S') (h : AWP P n n0 c S' K) : AWP P n n0 c S K := by
  intro A φ a w hs Q hq
  refine h A φ a w (hl.sim hs) Q fun x S1 φ' a' w' hK hs' he => hq x S1 φ' a' w' hK hs' ?_
  rw [hl.2]; exact he

theorem AWP.unlike {P : Program} {n n0 : Nat} {c : Code} {S : State} {K : AExit → State → Prop} (h : AWP P n n0 c S fun x => LikeK (K x)) : AWP P n n0 c S K := by
  intro A φ a w hs Q hq
  refine h A φ a w hs Q fun x S1 φ' a' w' ⟨S2, hl, hK⟩ hs' he => hq x S2 φ' a' w' hK (hl.sim hs') ?_
  rw [← hl.2]; exact he

theorem AWP.mnext {P : Program} {n n0 id0 : Nat} {ops : Array Oper} {draw : Bool} {t1 t2 : Nat} {x : Opd} {S : State} {live : List Nat} {K : AExit → State → Prop} (hq : mnextOf P n ops draw = some (t1, x, t2)) (h0 : n0 ≤ S.heap.length)
    (hg : nextX (x.ev S.env) S t1 t2 live K) : AWP P n n0 (.region id0 ops draw) S (fun e S' => K e S' ∧ n0 ≤ S'.heap.length) := by
  intro A φ a w hs Q hQ
  unfold mnextOf at hq
  split at hq
  case h_2 => cases hq
  rename_i o1 o2 hops
  split at hq
  case h_2 => cases hq
  rename_i t1' it d1 g1 p1
  split at hq
  case h_2 => cases hq
  rename_i t2' t d2 g2 p2
  split at hq
  case isFalse => cases hq
  rename_i hc
  obtain ⟨rfl, hlt1, hlt2⟩ := hc
  obtain ⟨y, hy, he⟩ := Option.map_eq_some_iff.1 hq
  simp only [Prod.mk.injEq] at he
  obtain ⟨rfl, rfl, rfl⟩ := he
  unfold nextX at hg
  split at hg
  case h_2 => exact hg.elim
  rename_i id hev
  unfold nextG at hg
  split at hg
  case h_2 => exact hg.elim
  rename_i m k seen hat
  unfold nextM at hg
  split at hg
  case h_2 => exact hg.elim
  rename_i es hm
  obtain ⟨rfl, hg1, hg2⟩ := hg
  have hr := Z16 hs hy
  rw [hev] at hr
  have s0 : ops[0]? = some o1 := by rw [← Array.getElem?_toList, hops]; rfl
  have s1 : ops[1]? = some o2 := by rw [← Array.getElem?_toList, hops]; rfl
  have hsz : ops.size = 2 := by rw [← Array.length_toList, hops]; rfl
  refine wp_region ?_
  rw [hsz, show List.range 2 = [0, 1] from rfl]
  unfold wpOps
  simp only [s0]
  rw [wanted_none (all := ops) g1, if_pos rfl]
  refine .inl ?_
  have fin : ∀ {φ' : Nat → Option (Nat × Nat)} {vs : Array Value} {b : Bool} {S1 : State} {w' : World}, vs[0]? = some (.bool b) → SimH P A φ' S1.heap w' → Onward A φ S.heap w φ' S1.heap w' → S1.env = S.env → n0 ≤ S1.heap.length → (∀ i, i < n0 → φ' i = φ i) →
      K .normal (((S1.app (some t) ⟨.undef, [], []⟩).app (some t2') ⟨.d (.bool b), [], []⟩).prune live) → wpOps P ops Q [1] (a.put (some t) (.tuple vs)) w' := by
    intro φ' vs b S1 w' hv h1 h2 henv hn hid hK
    have hs1 : Sim P A n φ' (S1.app (some t) ⟨.undef, [], []⟩) (a.put (some t) (.tuple vs)) w' := by
      have := sim_put hs h1 h2 (dst := some t) (fun t' e => by cases e; exact hlt1) (x := .undef) (v := .tuple vs) (.undef _)
      rw [← henv] at this; exact this
    unfold wpOps
    simp only [s1]
    rw [wanted_none (all := ops) g2, if_pos rfl]
    refine .inl (wp_value (v := .bool b) (w' := w') ?_ ?_)
    · have hev : (a.put (some t) (.tuple vs)).eval (.tmp t) = .tuple vs := by
        simp only [Act.put, Act.eval]
        simp [Array.getD, hs.size, hlt1]
      simp only [execOp, p2, hev]
      exact run_v (by simp [Instr.extract, hv])
    · rw [d2]
      show Q .normal _ _
      have hs2 := sim_put hs1 hs1.heap (Onward.same hs1.heap) (dst := some t2') (fun t' e => by cases e; exact hlt2) (x := .d (.bool b)) (v := .bool b) (.d _ _ (.bool _))
      refine hQ .normal _ φ' _ w' ⟨hK, hn⟩ (prune_sim live hs2) ⟨hid, h2.pres, h2.mono⟩
  rcases run_mapNext (P := P) hs.heap hat hm hr o1.type with ⟨hall, hrun⟩ | ⟨i, w', hi1, hi2, hrun, h1, h2⟩
  · refine wp_value (v := .tuple #[.bool false]) (w' := w) ?_ ?_
    · simp only [execOp, p1]; exact run_v hrun
    · rw [d1]
      exact fin (S1 := S) rfl hs.heap (Onward.same hs.heap) rfl h0 (fun _ _ => rfl) (hg2 hall)
  · refine wp_value (v := .tuple #[.bool true, .int .i64 (es.getD i (0, 0)).1, .int .i64 (es.getD i (0, 0)).2]) (w' := w') ?_ ?_
    · simp only [execOp, p1]; exact run_v hrun
    · rw [d1]
      exact fin (S1 := ⟨S.env, S.heap.set id (.iter m es.length (seen ++ [i]))⟩) rfl h1 h2 rfl (by rw [List.length_set]; exact h0) (fun _ _ => rfl) (hg1 i hi1 hi2)

theorem AWP.nilq {P : Program} {n n0 id : Nat} {ops : Array Oper} {draw neg : Bool} {t : Nat} {x : Opd} {los : List LOper} {S : State} {K : State → Prop} (hq : nilqOf P n ops draw = some (los, neg, t, x)) (h0 : n0 ≤ S.heap.length)
    (hg : RG P false S.heap.length [] (LikeK fun S' => nilS (x.ev S'.env) neg fun b => K (S'.app (some t) ⟨.d (.bool b), [], []⟩)) los (Z0c S (Z3e los)) []) :
    AWP P n n0 (.region id ops draw) S (fun e S' => (match e with | .normal => K S' | _ => False) ∧ n0 ≤ S'.heap.length) := by
  intro A φ a w hs Q hQ
  unfold nilqOf at hq
  split at hq
  case h_2 => cases hq
  rename_i o pre hops
  split at hq
  case h_2 => cases hq
  rename_i t' op ty y yt hdst hguard hop
  have hops' : ops.toList = pre.reverse ++ [o] := by
    have := congrArg List.reverse hops
    simpa using this
  have hget : ops[pre.length]? = some o := by
    rw [← Array.getElem?_toList, hops', List.getElem?_append_right (by simp)]; simp
  have fin : ∀ (ng : Bool) (e : TypeId) (bo : BinOp), P.underlying ty = some (.slice e) → t' < n → Z3z P y = some x → lowOps P n ops 0 pre.reverse = some los → ng = neg → t' = t → op = bo →
      (∀ w ad l c, (binOp bo ty (.slice ad l c) (.slice none 0 0)).run P w = .ok (.bool (xor ng ad.isNone)) w) → (Code.region id ops false).wp P Q a w := by
    intro ng e bo hty hlt hy hlos e1 e2 e3 hrun
    subst e1; subst e2; subst e3
    refine wp_region ?_
    obtain ⟨hs', hfree⟩ := sim_reserve hs (Z3e los)
    have hon : Onward A φ S.heap w φ (Z0c S (Z3e los)).heap w := ⟨fun _ _ h => h, Pres.refl _ _, fun b hb => .inl ((own_reserve _ _ b).1 hb)⟩
    have hrange : List.range ops.size = List.range' 0 pre.reverse.length ++ [pre.length] := by
      have : ops.size = pre.length + 1 := by rw [← Array.length_toList, hops']; simp
      rw [this, List.range_succ, List.range_eq_range']; simp
    rw [hrange]
    refine ops_text (base := S.heap.length) (Q := Q) [o] [pre.length] pre.reverse 0 0 los (Z0c S (Z3e los)) [] φ a w (by simpa using hops') hlos hg hs' (by simp [Z0c]) (fun k _ _ => hfree _ (by omega)) ?_
    intro S1 φ1 a1 w1 ⟨S2, hlk, hK⟩ hs1 hon1 hid hl
    have hs2 := hlk.sim hs1
    have hr := Z16 hs2 hy
    obtain ⟨ad, l, c, hv, hk⟩ : ∃ ad l c, a1.eval y = .slice ad l c ∧ K (S2.app (some t') ⟨.d (.bool (xor ng ad.isNone)), [], []⟩) := by
      have hK : nilS (x.ev S2.env) ng fun b => K (S2.app (some t') ⟨.d (.bool b), [], []⟩) := hK
      generalize a1.eval y = v at hr
      generalize x.ev S2.env = X at hr hK
      unfold nilS at hK
      split at hK
      · rename_i rows full
        cases hr with
        | d _ _ hr =>
          cases hr with
          | nil full ad cap hf =>
            refine ⟨ad, 0, cap, rfl, ?_⟩
            cases ad with
            | none => simpa using hK.2 rfl
            | some ad => simpa using hK.1
          | list rows full sz b off cap f hb hM hsz hcap hfull hc hr => exact ⟨_, _, _, rfl, by simpa using hK.1⟩
      · rename_i i sz row len room
        cases hr with
        | ref0 id sz row room ad =>
          refine ⟨ad, 0, 0, rfl, ?_⟩
          cases ad with
          | none => simpa using hK.2 rfl
          | some ad => simpa using hK.1
        | ref => exact ⟨_, _, _, rfl, by simpa using hK.1⟩
      · exact hK.elim
    have hwp : o.wp P a1 w1 (wpOps P ops Q []) Q := by
      refine wp_value (v := .bool (xor ng ad.isNone)) (w' := w1) ?_ ?_
      · simp only [execOp, hop]
        refine run_v ?_
        have : Act.eval a1 (.const (.slice none 0 0)) = .slice none 0 0 := rfl
        rw [this, hv]
        have hg : (eqGuard op ty y (.const (.slice none 0 0)) (.slice ad l c) (.slice none 0 0)).run P w1 = .ok () w1 := by
          unfold eqGuard
          cases op <;> simp
        rw [Sem.run_bind, hg]
        exact hrun w1 ad l c
      · show Q .normal _ _
        have hs3 := sim_put (x := .d (.bool (xor ng ad.isNone))) (v := .bool (xor ng ad.isNone)) (dst := some t') hs2 hs2.heap (Onward.same hs2.heap) (fun t ht => by cases ht; exact hlt) (.d _ _ (.bool _))
        rw [hdst]
        refine hQ .normal _ φ1 _ w1 ⟨hk, ?_⟩ hs3 ⟨fun i hi => hid i (by omega), ?_, ?_⟩
        · show n0 ≤ S2.heap.length
          rw [← hlk.2]; simp only [Z0c, List.length_append] at hl; omega
        · exact (hon.trans hon1).pres
        · intro b hb
          refine (hon.trans hon1).mono b ?_
          rw [hlk.2]; exact hb
    unfold wpOps
    simp only [hget]
    rw [wanted_none (all := ops) hguard, if_pos rfl]
    exact .inl hwp
  split at hq
  · rename_i e hty
    split at hq
    · rename_i hlt
      simp only [Option.bind_eq_some_iff, Option.map_eq_some_iff, Prod.mk.injEq] at hq
      obtain ⟨y', hy, los', hlos, rfl, e1, e2, rfl⟩ := hq
      exact fin false e .eql hty hlt hy hlos e1 e2 rfl fun w ad l c => by simpa using Go.Lib.run_eql_slice_nil w ty e ad l c 0 0 hty
    · cases hq
  · rename_i e hty
    split at hq
    · rename_i hlt
      simp only [Option.bind_eq_some_iff, Option.map_eq_some_iff, Prod.mk.injEq] at hq
      obtain ⟨y', hy, los', hlos, rfl, e1, e2, rfl⟩ := hq
      exact fin true e .neq hty hlt hy hlos e1 e2 rfl fun w ad l c => by simpa using Go.run_neq_slice_nil_any w ty e ad l c 0 0 hty
    · cases hq
  · cases hq

/-- What is asked is enough. -/
theorem vck_sound {P : Program} {n : Nat} {T : Tab} (hT : TabOK P T) {n0 : Nat} {live : List Nat} : ∀ (c : Code) (lc : LCode) (S : State) (K : AExit → State → Prop), lowCode P n c = some lc → n0 ≤ S.heap.length →
    vck T n0 live lc S K → AWPn P n n0 c S K := by
  intro c
  induction c with
  | skip =>
    intro lc S K hl h0 h
    simp only [lowCode, Option.some.injEq] at hl; subst hl
    exact AWP.skip ⟨h, h0⟩
  | ret =>
    intro lc S K hl h0 h
    simp only [lowCode, Option.some.injEq] at hl; subst hl
    exact AWP.ret ⟨h, h0⟩
  | exit id =>
    intro lc S K hl h0 h
    simp only [lowCode, Option.some.injEq] at hl; subst hl
    exact AWP.exit ⟨h, h0⟩
  | region id ops draw =>
    intro lc S K hl h0 h
    simp only [lowCode] at hl
    split at hl
    · rename_i los neg t x hq
      simp only [Option.some.injEq] at hl; subst hl
      simp only [vck] at h
      refine AWP.pruned live (AWP.mono (AWP.nilq (K := fun S' => K .normal (S'.prune live)) hq h0 (h.rg hT (fun _ => rfl) _ _ _ _ _ (Like.refl _) (fun _ => rfl))) fun e S' hK => ?_)
      cases e with
      | normal => exact hK
      | exit id => exact hK.1.elim
      | ret => exact hK.1.elim
    split at hl
    · rename_i t1 x t2 hq
      simp only [Option.some.injEq] at hl; subst hl
      simp only [vck] at h
      exact AWP.mnext hq h0 h
    simp only [Option.bind_eq_some_iff] at hl
    obtain ⟨los, hlos, hl⟩ := hl
    have fin : AWP P n n0 (.region id ops draw) S (fun x S' => (match x with | .normal => LikeK (fun S' => K .normal (S'.prune live)) S' | x => False) ∧ n0 ≤ S'.heap.length) := by
      split at hl
      · rename_i hd
        split at hl
        · rename_i hc
          simp only [Option.some.injEq] at hl; subst hl
          simp only [Bool.and_eq_true] at hc
          subst hd
          exact AWP.draw (K := fun x S' => match x with | .normal => LikeK (fun S' => K .normal (S'.prune live)) S' | x => False) hlos hc.1 (fun md h => List.all_eq_true.1 hc.2 md h) h0 (h.rg hT (by simp) _ _ _ _ _ (Like.refl _) (fun _ => rfl))
        · cases hl
      · rename_i hd
        simp only [Option.some.injEq] at hl; subst hl
        have hd : draw = false := by simpa using hd
        subst hd
        exact AWP.region (K := fun x S' => match x with | .normal => LikeK (fun S' => K .normal (S'.prune live)) S' | x => False) hlos h0 (h.rg hT (fun _ => rfl) _ _ _ _ _ (Like.refl _) (fun _ => rfl))
    refine AWP.unlike (AWP.mono (AWP.pruned live (K := fun x S' => (match x with | .normal => LikeK (fun S' => K .normal S') S' | x => False) ∧ n0 ≤ S'.heap.length) (fin.mono fun x S' hK => ?_)) fun x S' hK => ?_)
    · cases x with
      | normal =>
        obtain ⟨⟨S1, hl, hK⟩, h1⟩ := hK
        refine ⟨⟨S1.prune live, ⟨fun t => ?_, hl.2⟩, hK⟩, h1⟩
        show Env.get (live.map fun t => (t, S'.env.get t)) t = Env.get (live.map fun t => (t, S1.env.get t)) t
        rw [get_map (f := fun t => S'.env.get t), get_map (f := fun t => S1.env.get t), hl.1]
      | exit id => exact hK.1.elim
      | ret => exact hK.1.elim
    · cases x with
      | normal =>
        obtain ⟨⟨S1, hl, hK⟩, h1⟩ := hK
        exact ⟨S1, hl, hK, by rw [← hl.2]; exact h1⟩
      | exit id => exact hK.1.elim
      | ret => exact hK.1.elim
  | seq a b iha ihb =>
    intro lc S K hl h0 h
    simp only [lowCode, Option.bind_eq_some_iff, Option.map_eq_some_iff] at hl
    obtain ⟨a', ha, b', hb, rfl⟩ := hl
    refine AWP.seq (AWP.mono (iha a' S _ ha h0 h) fun x S' hK => ?_)
    cases x with
    | normal => exact ihb b' S' K hb hK.2 hK.1
    | exit id => exact hK
    | ret => exact hK
  | cond c a b iha ihb =>
    intro lc S K hl h0 h
    simp only [lowCode, Option.bind_eq_some_iff, Option.map_eq_some_iff] at hl
    obtain ⟨c', hc, a', ha, b', hb, rfl⟩ := hl
    simp only [vck] at h
    unfold condS at h
    split at h
    · rename_i t ht
      have hk : ∀ b, t = b → Like S (knowO S c' b) := fun b e => by
        subst e
        cases c' with
        | tmp s => exact know_like ht
        | cst v => exact Like.refl _
      have hn : ∀ b, n0 ≤ (knowO S c' b).heap.length := fun b => by cases c' <;> exact h0
      exact AWP.cond (c'.ev S.env) (fun A φ act w hs => Z16 hs hc) ht (fun e => AWP.like (hk _ e) (iha a' _ K ha (hn _) (h.1 e))) (fun e => AWP.like (hk _ e) (ihb b' _ K hb (hn _) (h.2 e)))
    · exact h.elim
  | block id b ih =>
    intro lc S K hl h0 h
    simp only [lowCode, Option.map_eq_some_iff] at hl
    obtain ⟨b', hb, rfl⟩ := hl
    refine AWP.block (AWP.mono (ih b' S _ hb h0 h) fun x S' hK => ?_)
    cases x with
    | normal => exact hK
    | exit j =>
      obtain ⟨hK, h1⟩ := hK
      simp only [blockK] at hK ⊢
      split
      · rename_i e; rw [if_pos e] at hK; exact ⟨hK, h1⟩
      · rename_i e; rw [if_neg e] at hK; exact ⟨hK, h1⟩
    | ret => exact hK
  | loop b ih =>
    intro lc S K hl h0 h
    simp only [lowCode, Option.map_eq_some_iff] at hl
    obtain ⟨b', hb, rfl⟩ := hl
    obtain ⟨I, k, hI, hround⟩ := h
    refine AWPn.enter hI h0 fun S1 h1 hI1 => ?_
    refine AWP.loop (fun k S => I k S ∧ n0 ≤ S.heap.length) k ⟨hI1, h1⟩ fun k S2 ⟨h2, h3⟩ => ?_
    have := AWP.wk (K := fun x S' => match x with | .normal => ∃ k', k' < k ∧ I k' S' | x => K x S') (S := S2) (c := b) (P := P) (n := n) (n0 := n0) (AWP.mono (ih b' S2 _ hb h3 (hround k S2 h2)) fun x S' ⟨hK, hl⟩ => by
      cases x with
      | normal =>
        obtain ⟨k', hk, hK⟩ := hK
        rcases hK with hK | ⟨S'', g1, g2, g3⟩
        · exact .inl ⟨⟨k', hk, hK⟩, hl⟩
        · exact .inr ⟨S'', g1, g2, k', hk, g3⟩
      | exit id =>
        rcases hK with hK | ⟨S'', g1, g2, g3⟩
        · exact .inl ⟨hK, hl⟩
        · exact .inr ⟨S'', g1, g2, g3⟩
      | ret =>
        rcases hK with hK | ⟨S'', g1, g2, g3⟩
        · exact .inl ⟨hK, hl⟩
        · exact .inr ⟨S'', g1, g2, g3⟩)
    refine AWP.mono this fun x S' hK => ?_
    cases x with
    | normal => obtain ⟨⟨k', hk, hK⟩, hl⟩ := hK; exact ⟨k', hk, hK, hl⟩
    | exit id => exact hK
    | ret => exact hK
  | _ => intro lc S K hl; simp [lowCode] at hl

/-- A call, from what is asked of the body. -/
theorem ACalls.of_vck {P : Program} {T : Tab} (hT : TabOK P T) {f : FuncId} {fn : Func} {c : Code} {lc : LCode} {rs : List LRes} (live : List Nat) (hf : P.funcs[f]? = some fn)
    (hname : (fn.name == "runtime.NumGoroutine") = false) (hb : fn.body = some c) (hl : lowCode P fn.ntmps c = some lc) (hr : lowRess P fn.results.toList = some rs) {args : List AV} {H : Heap}
    {Post : AV → Heap → Prop} (ha : args.length ≤ fn.ntmps) (h : vck T H.length live lc ⟨Z1d 0 args, H⟩ (retK rs Post)) : ACalls P f args H Post := by
  refine ⟨⟨fn, hf, hname, by rw [hb]; rfl⟩, fun A φ w vals hs hz hrel => ?_⟩
  refine calls_of_wp hf hb ?_
  have hsim : Sim P A fn.ntmps φ ⟨Z1d 0 args, H⟩ { tmps := vals ++ Array.replicate (fn.ntmps - vals.size) undef, defers := [] } w := by
    refine ⟨hs, by simp; omega, rfl, fun t => ?_⟩
    simp only [envFrom_get, Nat.zero_le, if_true, Nat.sub_zero]
    by_cases ht : t < args.length
    · rw [List.getD_eq_getElem?_getD, List.getElem?_eq_getElem ht, Array.getD_eq_getD_getElem?, Array.getElem?_append_left (by omega), Array.getElem?_eq_getElem (by omega)]
      exact hrel t _ _ (List.getElem?_eq_getElem ht) (Array.getElem?_eq_getElem (by omega))
    · rw [List.getD_eq_getElem?_getD, List.getElem?_eq_none (by omega)]
      exact .undef _
  refine vck_sound hT c lc _ _ hl (Nat.le_refl _) h A φ _ w hsim _ fun x S' φ' a' w' hK hs' he => ?_
  have fin : resQ S' rs ∧ Post (resV S' rs) S'.heap → a'.defers = [] ∧ ∃ v, (results fn a'.tmps).run P w' = .ok v w' ∧
      ∃ v' r H' φ', Ending.returned v = .returned v' ∧ Post r H' ∧ SimH P A φ' H' w' ∧ Rel φ' (Mb A φ' H') w' r v' ∧ Ext H.length φ H w φ' H' w' := fun ⟨h1, h2⟩ => by
    obtain ⟨v, hv, hrv⟩ := run_results hs' hr h1
    exact ⟨hs'.defs, v, hv, v, _, _, φ', rfl, h2, hs'.heap, hrv, he⟩
  cases x with
  | normal => exact fin hK.1
  | exit id => exact hK.1.elim
  | ret => exact fin hK.1

end Go.Ago

/- The laws by which a body is reckoned through. Conditions: none. -/
set_option linter.unusedSimpArgs false
set_option linter.unusedVariables false
namespace Go.Ago

def nf (S : State) : State := S
theorem nf_mk {e : Env} {H : Heap} : nf ⟨e, H⟩ = ⟨e, H⟩ := rfl

def regK (live : List Nat) (K : AExit → State → Prop) : State → Prop := fun S' => K .normal (S'.prune live)
def vckTo (T : Tab) (n0 : Nat) (live : List Nat) (lc : LCode) (K : AExit → State → Prop) : State → Prop := fun S => vck T n0 live lc S K
def opK (T : Tab) (draw : Bool) (base : Nat) (pairs : List (Nat × Nat)) (K : State → Prop) (dst : Option Nat) (os : List LOper) (S : State) (acc : Feet) (news : List HO) : Delta → Prop :=
  fun δ => RGk T draw base pairs K os ((S.app dst δ).grow news) (feet draw δ.foot acc)

/-- A guarded operation, its guard looked up. -/
def guardG (x : AV) (g : Nat) (want : Bool) (T : Tab) (draw : Bool) (base : Nat) (pairs : List (Nat × Nat)) (K : State → Prop) (dst : Option Nat) (op : LOp) (os : List LOper) (S : State) (acc : Feet) : Prop :=
  guardS x want
    (stepK (evT T draw base (S.know g want).env S.heap op) (opK T draw base pairs K dst os (S.know g want) acc (evN T draw (S.know g want).env S.heap op)))
    (RGk T draw base pairs K os ((S.know g (!want)).app dst skipD) (feet draw ([], []) acc))
    (RGk T draw base pairs K os (S.app dst skipD) (feet draw ([], []) acc))

/-- An 'if', its test looked up. -/
def condG (x : AV) (T : Tab) (n0 : Nat) (live : List Nat) (a b : LCode) (c : Opd) (S : State) (K : AExit → State → Prop) : Prop :=
  condS x (vck T n0 live a (knowO S c true) K) (vck T n0 live b (knowO S c false) K)

/-- A test on nil, its slice looked up. -/
def nilG (x : AV) (neg : Bool) (dst : Nat) (S : State) (live : List Nat) (K : AExit → State → Prop) : Prop := nilS x neg fun b => K .normal ((S.app (some dst) ⟨.d (.bool b), [], []⟩).prune live)

def nilTo (neg : Bool) (dst : Nat) (x : Opd) (live : List Nat) (K : AExit → State → Prop) : State → Prop := fun S => nilS (x.ev S.env) neg fun b => K .normal ((S.app (some dst) ⟨.d (.bool b), [], []⟩).prune live)

/-- A loop that is come to. -/
def Loop (T : Tab) (n0 : Nat) (live : List Nat) (b : LCode) (S : State) (K : AExit → State → Prop) : Prop := vck T n0 live (.loop b) S K

section
variable {T : Tab} {n0 : Nat} {live : List Nat} {S : State} {K : AExit → State → Prop} {a b : LCode}

theorem Z1a : vck T n0 live .skip S K ↔ K .normal S := Iff.rfl
theorem Z2b : vck T n0 live .ret S K ↔ K .ret S := Iff.rfl
theorem Z1k {id : Nat} : vck T n0 live (.exit id) S K ↔ K (.exit id) S := Iff.rfl
theorem Z05 {draw : Bool} {los : List LOper} {pairs : List (Nat × Nat)} :
    vck T n0 live (.region draw los pairs) S K ↔ RGk T draw (nf S).heap.length pairs (regK live K) los (Z0c S (Z3e los)) [] := Iff.rfl
theorem Z2v {los : List LOper} {neg : Bool} {dst : Nat} {x : Opd} : vck T n0 live (.nilq los neg dst x) S K ↔ RGk T false (nf S).heap.length [] (nilTo neg dst x live K) los (Z0c S (Z3e los)) [] := Iff.rfl
theorem Z2r {neg : Bool} {dst : Nat} {x : Opd} : nilTo neg dst x live K S ↔ nilG (x.ev (nf S).env) neg dst (nf S) live K := Iff.rfl
theorem nilG_d {neg : Bool} {dst : Nat} {rows : List (List DV)} {full : Bool} : nilG (.d (.list rows full)) neg dst S live K ↔ K .normal ((S.app (some dst) ⟨.d (.bool neg), [], []⟩).prune live) ∧ (rows.length = 0 → K .normal ((S.app (some dst) ⟨.d (.bool (!neg)), [], []⟩).prune live)) := Iff.rfl
theorem nilG_r {neg : Bool} {dst : Nat} {id sz row len : Nat} {room : Bool} : nilG (.ref id sz row len room) neg dst S live K ↔ K .normal ((S.app (some dst) ⟨.d (.bool neg), [], []⟩).prune live) ∧ (len = 0 → K .normal ((S.app (some dst) ⟨.d (.bool (!neg)), [], []⟩).prune live)) := Iff.rfl
theorem vck_mnext {t1 t2 : Nat} {x : Opd} : vck T n0 live (.mnext t1 x t2) S K ↔ nextX (x.ev (nf S).env) (nf S) t1 t2 live K := Iff.rfl
theorem nextX_p {id t1 t2 : Nat} : nextX (.ptr id 1 0 0) S t1 t2 live K ↔ nextG ((nf S).heap.at id) (nf S) id t1 t2 live K := Iff.rfl
theorem nextG_i {id m n t1 t2 : Nat} {seen : List Nat} : nextG (.iter m n seen) S id t1 t2 live K ↔ nextM ((nf S).heap.at m) (nf S) id m n seen t1 t2 live K := Iff.rfl
theorem nextM_m {id m n t1 t2 : Nat} {seen : List Nat} {es : List (Int × Int)} : nextM (.mapo es) S id m n seen t1 t2 live K ↔
    es.length = n ∧ (∀ i, i < es.length → i ∉ seen → K .normal (((S.app (some t1) ⟨.undef, [(id, .iter m n (seen ++ [i]))], []⟩).app (some t2) ⟨.d (.bool true), [], []⟩).prune live)) ∧
      ((∀ i, i < es.length → i ∈ seen) → K .normal (((S.app (some t1) ⟨.undef, [], []⟩).app (some t2) ⟨.d (.bool false), [], []⟩).prune live)) := Iff.rfl
theorem Z1g : vck T n0 live (.seq a b) S K ↔ vck T n0 live a S (thenK (vckTo T n0 live b K) K) := Iff.rfl
theorem Z19 {c : Opd} : vck T n0 live (.cond c a b) S K ↔ condG (c.ev (nf S).env) T n0 live a b c (nf S) K := Iff.rfl
theorem Z0d {id : Nat} : vck T n0 live (.block id b) S K ↔ vck T n0 live b S (blockK id K) := Iff.rfl
theorem Z1l : vck T n0 live (.loop b) S K ↔ Loop T n0 live b (nf S) K := Iff.rfl

theorem Z2c {t : Bool} {c : Opd} : condG (.d (.bool t)) T n0 live a b c S K ↔ boolK t (vck T n0 live a (knowO S c true) K) (vck T n0 live b (knowO S c false) K) := Iff.rfl

theorem Z0m : vckTo T n0 live b K S ↔ vck T n0 live b S K := Iff.rfl
theorem Z20 {f : State → Prop} : thenK f K .normal S ↔ f S := Iff.rfl
theorem Z30 {f : State → Prop} {id : Nat} : thenK f K (.exit id) S ↔ K (.exit id) S := Iff.rfl
theorem Z33 {f : State → Prop} : thenK f K .ret S ↔ K .ret S := Iff.rfl
theorem Z24 {id : Nat} : blockK id K .normal S ↔ K .normal S := Iff.rfl
theorem Z1j {id : Nat} : blockK id K (.exit id) S ↔ K .normal S := by simp [blockK]
theorem Z2m {id j : Nat} (h : (id == j) = false) : blockK id K (.exit j) S ↔ K (.exit j) S := by
  have : ¬ j = id := fun e => by simp [e] at h
  simp [blockK, this]
theorem Z28 {id : Nat} : blockK id K .ret S ↔ K .ret S := Iff.rfl
theorem Z1z : regK live K S ↔ K .normal (S.prune live) := Iff.rfl
theorem Z3r {rs : List LRes} {Post : AV → Heap → Prop} : retK rs Post .ret S ↔ resQ (nf S) rs ∧ Post (resV (nf S) rs) (nf S).heap := Iff.rfl
theorem retK_n {rs : List LRes} {Post : AV → Heap → Prop} : retK rs Post .normal S ↔ resQ (nf S) rs ∧ Post (resV (nf S) rs) (nf S).heap := Iff.rfl
theorem Z3n {I : Nat → State → Prop} {k : Nat} : loopV n0 K I k .normal S ↔ ∃ k', k' < k ∧ Wk n0 (I k') (nf S) := Iff.rfl
theorem Z3p {I : Nat → State → Prop} {k id : Nat} : loopV n0 K I k (.exit id) S ↔ Wk n0 (K (.exit id)) (nf S) := Iff.rfl
theorem Z3o {I : Nat → State → Prop} {k : Nat} : loopV n0 K I k .ret S ↔ Wk n0 (K .ret) (nf S) := Iff.rfl

end

section
variable {T : Tab} {base : Nat} {pairs : List (Nat × Nat)} {K : State → Prop} {S : State} {acc : Feet} {dst : Option Nat} {op : LOp} {os : List LOper} {draw : Bool} {news : List HO}
theorem Z09 : RGk T false base pairs K [] S acc ↔ K S := Iff.rfl
theorem Z18 : RGk T true base pairs K [] S acc ↔ chk pairs acc.reverse = true ∧ K S := Iff.rfl
theorem Z34 : RGk T draw base pairs K (⟨dst, op, none⟩ :: os) S acc ↔ stepK (evT T draw base S.env S.heap op) (opK T draw base pairs K dst os S acc (evN T draw S.env S.heap op)) := Iff.rfl
theorem Z1c {g : Nat} {want : Bool} : RGk T draw base pairs K (⟨dst, op, some (g, want)⟩ :: os) S acc ↔ guardG (S.env.get g) g want T draw base pairs K dst op os S acc := Iff.rfl
theorem Z37 {δ : Delta} : opK T draw base pairs K dst os S acc news δ ↔ RGk T draw base pairs K os ((S.app dst δ).grow news) (feet draw δ.foot acc) := Iff.rfl
theorem Z1y {e : Env} {H : Heap} : State.grow ⟨e, H⟩ news = ⟨e, H ++ news⟩ := rfl
theorem Z2j {b : Bool} {g : Nat} : guardG (.d (.bool b)) g true T draw base pairs K dst op os S acc ↔
    boolK b (stepK (evT T draw base (S.know g true).env S.heap op) (opK T draw base pairs K dst os (S.know g true) acc (evN T draw (S.know g true).env S.heap op))) (RGk T draw base pairs K os ((S.know g false).app dst skipD) (feet draw ([], []) acc)) := Iff.rfl
theorem Z2f {b : Bool} {g : Nat} : guardG (.d (.bool b)) g false T draw base pairs K dst op os S acc ↔
    boolK b (RGk T draw base pairs K os ((S.know g true).app dst skipD) (feet draw ([], []) acc)) (stepK (evT T draw base (S.know g false).env S.heap op) (opK T draw base pairs K dst os (S.know g false) acc (evN T draw (S.know g false).env S.heap op))) := And.comm
theorem Z1o {g : Nat} {want : Bool} : guardG (.tup []) g want T draw base pairs K dst op os S acc ↔ RGk T draw base pairs K os (S.app dst skipD) (feet draw ([], []) acc) := Iff.rfl
theorem Z36 {f : List Nat × List Nat} : feet false f acc = [] := rfl
theorem Z47 {f : List Nat × List Nat} : feet true f acc = f :: acc := rfl
theorem Z1x {x : AV} {ups : List (Nat × HO)} {rd : List Nat} : Delta.foot ⟨x, ups, rd⟩ = (rd, ups.map (·.1)) := rfl
theorem Z02 {t : Nat} {x : AV} {e : Env} : Env.get ((t, x) :: e) t = x := if_pos rfl
theorem Z00 {t t' : Nat} {x : AV} {e : Env} (h : (t == t') = false) : Env.get ((t, x) :: e) t' = Env.get e t' := if_neg (by simpa using h)
theorem get_nil {t : Nat} : Env.get [] t = .undef := rfl
theorem Z35 {t : Nat} {e : Env} {H : Heap} {x : AV} {rd : List Nat} : State.app ⟨e, H⟩ (some t) ⟨x, [], rd⟩ = ⟨(t, x) :: e, H⟩ := rfl
theorem Z45 {e : Env} {H : Heap} {x : AV} {rd : List Nat} : State.app ⟨e, H⟩ none ⟨x, [], rd⟩ = ⟨e, H⟩ := rfl
theorem Z3w {e : Env} {H : Heap} {x : AV} {rd : List Nat} {i : Nat} {o : HO} {ups : List (Nat × HO)} : State.app ⟨e, H⟩ dst ⟨x, (i, o) :: ups, rd⟩ = State.app ⟨e, H.set i o⟩ dst ⟨x, ups, rd⟩ := rfl
theorem Z27 {t : Nat} {e : Env} {H : Heap} : State.app ⟨e, H⟩ (some t) skipD = ⟨(t, .tup []) :: e, H⟩ := rfl
theorem Z1m {e : Env} {H : Heap} : State.app ⟨e, H⟩ none skipD = ⟨e, H⟩ := rfl
theorem Z2a {e : Env} {H : Heap} {g : Nat} {b : Bool} : State.know ⟨e, H⟩ g b = ⟨(g, .d (.bool b)) :: e, H⟩ := rfl
theorem Z2e {g : Nat} {b : Bool} : knowO S (.tmp g) b = S.know g b := rfl
theorem Z3l {v : AV} {b : Bool} : knowO S (.cst v) b = S := rfl
end

end Go.Ago

/- Contracts as data, and tables of them. Conditions: none. -/
set_option linter.unusedSimpArgs false
set_option linter.unusedVariables false
namespace Go.Ago

/-- What is known of a function: for each 'x' its arguments and its answer. -/
structure Sp where
  A : Type
  enc : A → List AV
  out : A → SpecR

open Classical in
noncomputable def Sp.at (s : Sp) (args : List AV) : SpecR := if h : ∃ x, s.enc x = args then s.out h.choose else .none

theorem Sp.at_enc {s : Sp} (hi : ∀ x y, s.enc x = s.enc y → x = y) (x : s.A) : s.at (s.enc x) = s.out x := by
  have h : ∃ y, s.enc y = s.enc x := ⟨x, rfl⟩
  unfold Sp.at
  rw [dif_pos h, hi _ _ h.choose_spec]

def SpecR.met (P : Program) (g : FuncId) (args : List AV) : SpecR → Prop
  | .data ok val fresh => ok → Plain val ∧ ACalls P g args [] fun r H' => Frz H' r val ∧ (fresh = true → Fresh H' r)
  | .rows ok sz l => ok → (∀ r ∈ l, r.length = sz) ∧ ACalls P g args [] fun r H' => IsRows H' r sz l
  | .none => True

def Sp.Ok (P : Program) (g : FuncId) (s : Sp) : Prop := ∀ x, (s.out x).met P g (s.enc x)

noncomputable def Tab.add (T : Tab) (g : FuncId) (s : Sp) : Tab := ⟨fun g' => if g' = g then s.at else T.F g', T.G⟩
noncomputable def Tab.addG (T : Tab) (g : FuncId) (e : List AV → Heap → Option Eff) : Tab := ⟨T.F, fun g' => if g' = g then e else T.G g'⟩
def Tab.none : Tab := ⟨fun _ _ => .none, fun _ _ _ => .none⟩

theorem TabOK.none {P : Program} : TabOK P Tab.none where
  F := ⟨fun g args ok val fresh h => by simp [Tab.none] at h, fun g args ok sz rows h => by simp [Tab.none] at h⟩
  G := fun g args H e h => by simp [Tab.none] at h
  K := fun g args H e t h => by simp [Tab.none] at h

theorem TabOK.add {P : Program} {T : Tab} (hT : TabOK P T) {g : FuncId} {s : Sp} (hs : s.Ok P g) : TabOK P (T.add g s) where
  F := ⟨fun g' args ok val fresh h hok => by
      simp only [Tab.add] at h
      split at h
      · rename_i e; subst e
        unfold Sp.at at h
        split at h
        · rename_i hx
          have := hs hx.choose
          rw [h, hx.choose_spec] at this
          exact this hok
        · cases h
      · exact hT.F.data _ _ _ _ _ h hok,
    fun g' args ok sz rows h hok => by
      simp only [Tab.add] at h
      split at h
      · rename_i e; subst e
        unfold Sp.at at h
        split at h
        · rename_i hx
          have := hs hx.choose
          rw [h, hx.choose_spec] at this
          exact this hok
        · cases h
      · exact hT.F.rows _ _ _ _ _ h hok⟩
  G := hT.G
  K := hT.K

theorem TabOK.addG {P : Program} {T : Tab} (hT : TabOK P T) {g : FuncId} {E : List AV → Heap → Option Eff}
    (hs : ∀ args H e, E args H = some e → e.ok → ACalls P g args H fun r H' => r = e.val ∧ H' = applyUps H e.ups ++ e.news)
    (hk : ∀ args H e t, E args H = some e → e.take = some t → e.ok → t.Ok P g args H e.val) : TabOK P (T.addG g E) where
  F := hT.F
  G := fun g' args H e h hok => by
    simp only [Tab.addG] at h
    split at h
    · rename_i e; subst e; exact hs _ _ _ h hok
    · exact hT.G _ _ _ _ h hok
  K := fun g' args H e t h ht hok => by
    simp only [Tab.addG] at h
    split at h
    · rename_i e; subst e; exact hk _ _ _ _ h ht hok
    · exact hT.K _ _ _ _ _ h ht hok

/-- The table knows this contract at this number. -/
structure Knows (T : Tab) (g : FuncId) (s : Sp) : Prop where
  F : T.F g = s.at
  G : ∀ args H, T.G g args H = .none

structure KnowsG (T : Tab) (g : FuncId) (e : List AV → Heap → Option Eff) : Prop where
  G : T.G g = e

theorem Knows.hit {T : Tab} {g : FuncId} {s : Sp} (h : ∀ args H, T.G g args H = .none) : Knows (T.add g s) g s := ⟨by simp [Tab.add], h⟩
theorem Knows.next {T : Tab} {g g' : FuncId} {s s' : Sp} (hn : (g == g') = false) (h : Knows T g s) : Knows (T.add g' s') g s :=
  ⟨by have : ¬ g = g' := by simpa using hn
      simp [Tab.add, this, h.F], h.G⟩
theorem Knows.nextG {T : Tab} {g g' : FuncId} {s : Sp} {e : List AV → Heap → Option Eff} (hn : (g == g') = false) (h : Knows T g s) : Knows (T.addG g' e) g s :=
  ⟨h.F, fun args H => by
    have : ¬ g = g' := by simpa using hn
    simp [Tab.addG, this, h.G]⟩

/-! ### Results as data -/
/-- A list of which nothing is known behind its end. -/
def DV.less : DV → DV
  | .list rows _ => .list rows false
  | x => x

mutual
/-- A value as data, where it can be looked at. -/
def AV.frz (H : Heap) : AV → Option AV
  | .undef => some .undef
  | .d x => some (.d x.less)
  | .ref id sz row len _ =>
    match H.at id with
    | .dvec sz' rows => if sz' = sz ∧ row + len ≤ rows.length then some (.d (.list ((rows.drop row).take len) false)) else none
    | _ => none
  | .dptr cs j => some (.dptr cs j)
  | .ptr id sz row j => ((H.at id).drow sz row).map fun ds => .dptr ds j
  | .agg cs => (AV.frzL H cs).map .agg
  | .tup cs => (AV.frzL H cs).map .tup
  | _ => none
def AV.frzL (H : Heap) : List AV → Option (List AV)
  | [] => some []
  | x :: xs => match AV.frz H x, AV.frzL H xs with
    | some y, some ys => some (y :: ys)
    | _, _ => none
end

mutual
theorem AV.frz_spec {H : Heap} : ∀ (x y : AV), AV.frz H x = some y → Frz H x y ∧ Plain y
  | .undef, y, h => by simp [AV.frz] at h; subst h; exact ⟨.undef _, .undef⟩
  | .d x, y, h => by
    simp [AV.frz] at h; subst h
    cases x <;> first | exact ⟨.d _, .d _⟩ | exact ⟨.less _ _, .d _⟩
  | .ref id sz row len room, y, h => by
    simp only [AV.frz] at h
    split at h
    · rename_i sz' rows heq
      split at h
      · rename_i hc; obtain ⟨rfl, hc⟩ := hc
        simp at h; subst h
        exact ⟨.ref id sz' row len room rows heq hc, .d _⟩
      · cases h
    · cases h
  | .agg cs, y, h => by
    simp only [AV.frz, Option.map_eq_some_iff] at h
    obtain ⟨ys, h1, rfl⟩ := h
    obtain ⟨g1, g2, g3⟩ := AV.frzL_spec cs ys h1
    exact ⟨.agg _ _ g1 g2, .agg _ g3⟩
  | .tup cs, y, h => by
    simp only [AV.frz, Option.map_eq_some_iff] at h
    obtain ⟨ys, h1, rfl⟩ := h
    obtain ⟨g1, g2, g3⟩ := AV.frzL_spec cs ys h1
    exact ⟨.tup _ _ g1 g2, .tup _ g3⟩
  | .ptr id sz row j, y, h => by
    simp only [AV.frz, Option.map_eq_some_iff] at h
    obtain ⟨ds, h1, rfl⟩ := h
    exact ⟨.ptr id sz row j ds h1, .dptr _ _⟩
  | .dptr cs j, y, h => by simp [AV.frz] at h; subst h; exact ⟨.dptr _ _, .dptr _ _⟩
  | .clo .., y, h => by simp [AV.frz] at h
  | .rcap .., y, h => by simp [AV.frz] at h
  | .mapr .., y, h => by simp [AV.frz] at h
theorem AV.frzL_spec {H : Heap} : ∀ (xs ys : List AV), AV.frzL H xs = some ys → ys.length = xs.length ∧ (∀ (i : Nat) (x x' : AV), xs[i]? = some x → ys[i]? = some x' → Frz H x x') ∧ ∀ y ∈ ys, Plain y
  | [], ys, h => by simp [AV.frzL] at h; subst h; exact ⟨rfl, fun i x x' h => by simp at h, fun y h => by simp at h⟩
  | x :: xs, ys, h => by
    simp only [AV.frzL] at h
    split at h
    · rename_i y ys' h1 h2
      simp at h; subst h
      obtain ⟨g1, g2, g3⟩ := AV.frzL_spec xs ys' h2
      obtain ⟨k1, k2⟩ := AV.frz_spec x y h1
      refine ⟨by simp [g1], fun i => ?_, fun z hz => ?_⟩
      · cases i with
        | zero => intro a b e1 e2; simp at e1 e2; subst e1; subst e2; exact k1
        | succ i => intro a b e1 e2; exact g2 i a b (by simpa using e1) (by simpa using e2)
      · rcases List.mem_cons.1 hz with rfl | hz
        · exact k2
        · exact g3 z hz
    · cases h
end

mutual
/-- A value without ids. -/
def AV.plainB : AV → Bool
  | .d _ => true
  | .dptr _ _ => true
  | .undef => true
  | .agg cs => AV.plainL cs
  | .tup cs => AV.plainL cs
  | _ => false
def AV.plainL : List AV → Bool
  | [] => true
  | x :: xs => AV.plainB x && AV.plainL xs
end

mutual
/-- A value without ids, and without lists that have something in them. -/
def AV.scalB : AV → Bool
  | .d x => x.scal
  | .undef => true
  | .agg cs => AV.scalL cs
  | .tup cs => AV.scalL cs
  | _ => false
def AV.scalL : List AV → Bool
  | [] => true
  | x :: xs => AV.scalB x && AV.scalL xs
end

mutual
theorem AV.plain_spec : ∀ (x : AV), AV.plainB x = true → Plain x
  | .d x, _ => .d x
  | .undef, _ => .undef
  | .agg cs, h => .agg cs (AV.plainL_spec cs (by simpa [AV.plainB] using h))
  | .tup cs, h => .tup cs (AV.plainL_spec cs (by simpa [AV.plainB] using h))
  | .ptr .., h => by simp [AV.plainB] at h
  | .dptr cs j, _ => .dptr cs j
  | .ref .., h => by simp [AV.plainB] at h
  | .clo .., h => by simp [AV.plainB] at h
  | .rcap .., h => by simp [AV.plainB] at h
  | .mapr .., h => by simp [AV.plainB] at h
theorem AV.plainL_spec : ∀ (xs : List AV), AV.plainL xs = true → ∀ x ∈ xs, Plain x
  | [], _, x, hx => by simp at hx
  | y :: ys, h, x, hx => by
    simp only [AV.plainL, Bool.and_eq_true] at h
    rcases List.mem_cons.1 hx with hx | hx
    · rw [hx]; exact AV.plain_spec y h.1
    · exact AV.plainL_spec ys h.2 x hx
end

mutual
theorem AV.scal_spec {H : Heap} : ∀ (x : AV), AV.scalB x = true → Fresh H x ∧ Frz H x x ∧ Plain x
  | .d x, h => ⟨.d x (by simpa [AV.scalB] using h), .d x, .d x⟩
  | .undef, _ => ⟨.undef, .undef _, .undef⟩
  | .agg cs, h => by
    have := AV.scalL_spec (H := H) cs (by simpa [AV.scalB] using h)
    exact ⟨.agg cs fun x hx => (this x hx).1, .agg cs cs rfl fun i x x' h1 h2 => by
      rw [h1] at h2; simp at h2; subst h2; exact (this x (List.mem_of_getElem? h1)).2.1, .agg cs fun x hx => (this x hx).2.2⟩
  | .tup cs, h => by
    have := AV.scalL_spec (H := H) cs (by simpa [AV.scalB] using h)
    exact ⟨.tup cs fun x hx => (this x hx).1, .tup cs cs rfl fun i x x' h1 h2 => by
      rw [h1] at h2; simp at h2; subst h2; exact (this x (List.mem_of_getElem? h1)).2.1, .tup cs fun x hx => (this x hx).2.2⟩
  | .ptr .., h => by simp [AV.scalB] at h
  | .dptr .., h => by simp [AV.scalB] at h
  | .ref .., h => by simp [AV.scalB] at h
  | .clo .., h => by simp [AV.scalB] at h
  | .rcap .., h => by simp [AV.scalB] at h
  | .mapr .., h => by simp [AV.scalB] at h
theorem AV.scalL_spec {H : Heap} : ∀ (xs : List AV), AV.scalL xs = true → ∀ x ∈ xs, Fresh H x ∧ Frz H x x ∧ Plain x
  | [], _, x, hx => by simp at hx
  | y :: ys, h, x, hx => by
    simp only [AV.scalL, Bool.and_eq_true] at h
    rcases List.mem_cons.1 hx with hx | hx
    · rw [hx]; exact AV.scal_spec y h.1
    · exact AV.scalL_spec ys h.2 x hx
end

mutual
/-- Lists in it are rows of the call's own, without lists in them. -/
def AV.freshP (H : Heap) : AV → Prop
  | .d x => x.scal = true
  | .undef => True
  | .ref id _ _ _ _ => (match H.at id with
    | .dvec _ rows => ∀ r ∈ rows, ∀ x ∈ r, DV.scal x = true
    | _ => False)
  | .agg cs => AV.freshL H cs
  | .tup cs => AV.freshL H cs
  | _ => False
def AV.freshL (H : Heap) : List AV → Prop
  | [] => True
  | x :: xs => AV.freshP H x ∧ AV.freshL H xs
end

mutual
theorem AV.fresh_spec {H : Heap} : ∀ (x y : AV), AV.freshP H x → AV.frz H x = some y → Fresh H x
  | .d x, _, h, _ => .d x (by simpa [AV.freshP] using h)
  | .undef, _, _, _ => .undef
  | .ref id sz row len room, _, h, hf => by
    simp only [AV.freshP] at h
    simp only [AV.frz] at hf
    split at h
    · rename_i sz' rows heq
      simp only [heq] at hf
      split at hf
      · rename_i hc
        obtain ⟨rfl, _⟩ := hc
        exact .ref id _ row len room rows heq h
      · cases hf
    · exact h.elim
  | .agg cs, y, h, hf => by
    simp only [AV.frz, Option.map_eq_some_iff] at hf
    obtain ⟨ys, h1, rfl⟩ := hf
    exact .agg cs (AV.freshL_spec cs ys (by simpa [AV.freshP] using h) h1)
  | .tup cs, y, h, hf => by
    simp only [AV.frz, Option.map_eq_some_iff] at hf
    obtain ⟨ys, h1, rfl⟩ := hf
    exact .tup cs (AV.freshL_spec cs ys (by simpa [AV.freshP] using h) h1)
  | .ptr .., _, h, _ => by simp [AV.freshP] at h
  | .dptr .., _, h, _ => by simp [AV.freshP] at h
  | .clo .., _, h, _ => by simp [AV.freshP] at h
  | .rcap .., _, h, _ => by simp [AV.freshP] at h
  | .mapr .., _, h, _ => by simp [AV.freshP] at h
theorem AV.freshL_spec {H : Heap} : ∀ (xs ys : List AV), AV.freshL H xs → AV.frzL H xs = some ys → ∀ x ∈ xs, Fresh H x
  | [], _, _, _, x, hx => by simp at hx
  | y :: l, ys, h, hf, x, hx => by
    simp only [AV.freshL] at h
    simp only [AV.frzL] at hf
    split at hf
    · rename_i y' ys' h1 h2
      rcases List.mem_cons.1 hx with hx | hx
      · rw [hx]; exact AV.fresh_spec y y' h.1 h1
      · exact AV.freshL_spec l ys' h.2 h2 x hx
    · cases hf
end

/-- What a body answers, as data. -/
def RetD (v : AV) : AV → Heap → Prop := fun r H => AV.frz H r = some v
/-- What a body answers, as data without lists. -/
def RetS (v : AV) : AV → Heap → Prop := fun r H => r = v
def RetRows (sz : Nat) (rows : List (List DV)) : AV → Heap → Prop := fun r H => IsRows H r sz rows

theorem SpecR.met_of_scal {P : Program} {g : FuncId} {args : List AV} {ok : Prop} {v : AV} (hs : ok → AV.scalB v = true) (h : ok → ACalls P g args [] (RetS v)) : (SpecR.data ok v true).met P g args := fun hok =>
  ⟨(AV.scal_spec (H := []) v (hs hok)).2.2, (h hok).mono fun r H' e => by cases e; exact ⟨(AV.scal_spec v (hs hok)).2.1, fun _ => (AV.scal_spec v (hs hok)).1⟩⟩

theorem SpecR.met_of_data {P : Program} {g : FuncId} {args : List AV} {ok : Prop} {v : AV} (hp : ok → AV.plainB v = true) (h : ok → ACalls P g args [] (RetD v)) : (SpecR.data ok v false).met P g args := fun hok =>
  ⟨AV.plain_spec v (hp hok), (h hok).mono fun r H' e => ⟨(AV.frz_spec _ _ e).1, fun h => by cases h⟩⟩

theorem SpecR.met_of_rows {P : Program} {g : FuncId} {args : List AV} {ok : Prop} {sz : Nat} {rows : List (List DV)} (hr : ok → ∀ r ∈ rows, r.length = sz) (h : ok → ACalls P g args [] (RetRows sz rows)) : (SpecR.rows ok sz rows).met P g args := fun hok =>
  ⟨hr hok, h hok⟩

/-- What a body answers, as data whose lists are its own. -/
def RetF (v : AV) : AV → Heap → Prop := fun r H => AV.frz H r = some v ∧ AV.freshP H r

/-- What is asked of a body by one answer. -/
def SpecR.asks (f : (AV → Heap → Prop) → Prop) : SpecR → Prop
  | .data ok val true => ok → (AV.scalB val = true ∧ f (RetS val)) ∨ (AV.plainB val = true ∧ f (RetF val))
  | .data ok val false => ok → AV.plainB val = true ∧ f (RetD val)
  | .rows ok sz l => ok → (∀ r ∈ l, r.length = sz) ∧ f (RetRows sz l)
  | .none => True

/-- What is asked of a body by a contract. -/
def Sp.Body (s : Sp) (T : Tab) (live : List Nat) (lc : LCode) (rs : List LRes) : Prop :=
  ∀ x, (s.out x).asks fun Post => vck T 0 live lc ⟨Z1d 0 (s.enc x), []⟩ (retK rs Post)

theorem Sp.Body.ok {P : Program} {T : Tab} (hT : TabOK P T) {s : Sp} {f : FuncId} {fn : Func} {c : Code} {lc : LCode} {rs : List LRes} {live : List Nat} (h : s.Body T live lc rs) (hf : P.funcs[f]? = some fn)
    (hname : (fn.name == "runtime.NumGoroutine") = false) (hb : fn.body = some c) (hl : lowCode P fn.ntmps c = some lc) (hr : lowRess P fn.results.toList = some rs) (ha : ∀ x, (s.enc x).length ≤ fn.ntmps) : s.Ok P f := by
  intro x
  have hx := h x
  have go : ∀ {Post : AV → Heap → Prop}, vck T 0 live lc ⟨Z1d 0 (s.enc x), []⟩ (retK rs Post) → ACalls P f (s.enc x) [] Post := fun hv =>
    ACalls.of_vck hT live hf hname hb hl hr (ha x) hv
  revert hx
  cases s.out x with
  | data ok val fresh =>
    cases fresh with
    | true =>
      intro hx hok
      rcases hx hok with ⟨h1, h2⟩ | ⟨h1, h2⟩
      · exact SpecR.met_of_scal (ok := True) (fun _ => h1) (fun _ => go h2) trivial
      · exact ⟨AV.plain_spec val h1, (go h2).mono fun r H' e => ⟨(AV.frz_spec _ _ e.1).1, fun _ => AV.fresh_spec _ _ e.2 e.1⟩⟩
    | false => exact fun hx => SpecR.met_of_data (fun hok => (hx hok).1) fun hok => go (hx hok).2
  | rows ok sz l => exact fun hx => SpecR.met_of_rows (fun hok => (hx hok).1) fun hok => go (hx hok).2
  | none => exact fun _ => trivial

/-! ### Loops by families of states -/
/-- A state that, said with the slots of 'L' and some of its ids, is one of the family, closer to the end. -/
def Z44 {α : Type} (L : List Nat) (st : α → State) (Inv : α → Prop) (m : α → Nat) (k : Nat) (S : State) : Prop :=
  ∃ x, Says 0 S (st x) ∧ Inv x ∧ m x < k

theorem Z44.mk {α : Type} {L : List Nat} {st : α → State} {Inv : α → Prop} {m : α → Nat} {k : Nat} {S : State} (ρ : List Nat) (x : α) (h1 : ρ.Nodup) (h2 : ∀ i ∈ ρ, i < S.heap.length)
    (h3 : S.can ρ L = st x) (h4 : Inv x) (h5 : m x < k) : Z44 L st Inv m k S := ⟨x, h3 ▸ (can_weak h1 (fun i hi => by omega) h2).says, h4, h5⟩

theorem Z44.says {α : Type} {L : List Nat} {st : α → State} {Inv : α → Prop} {m : α → Nat} {k : Nat} {S S' : State} (h : Says 0 S S') (hf : Z44 L st Inv m k S') : Z44 L st Inv m k S :=
  let ⟨x, h1, h2, h3⟩ := hf; ⟨x, h.trans h1, h2, h3⟩

def famK {α : Type} (L : List Nat) (st : α → State) (Inv : α → Prop) (m : α → Nat) (k : Nat) (K : AExit → State → Prop) : AExit → State → Prop
  | .normal, S => Z44 L st Inv m k S
  | x, S => K x S

section
variable {α : Type} {L : List Nat} {st : α → State} {Inv : α → Prop} {m : α → Nat} {k : Nat} {K : AExit → State → Prop} {S : State}
theorem Z41 : famK L st Inv m k K .normal S ↔ Z44 L st Inv m k (nf S) := Iff.rfl
theorem Z3x {id : Nat} : famK L st Inv m k K (.exit id) S ↔ K (.exit id) S := Iff.rfl
theorem Z4b : famK L st Inv m k K .ret S ↔ K .ret S := Iff.rfl

theorem nextX_mono {x : AV} {S : State} {t1 t2 : Nat} {live : List Nat} {K K' : AExit → State → Prop} (h : ∀ x S', K x S' → K' x S') (hv : nextX x S t1 t2 live K) : nextX x S t1 t2 live K' := by
  unfold nextX at hv ⊢
  split at hv
  · unfold nextG at hv ⊢
    generalize S.heap.at _ = o at hv ⊢
    cases o with
    | iter m n seen =>
      simp only at hv ⊢
      unfold nextM at hv ⊢
      generalize S.heap.at m = o at hv ⊢
      cases o with
      | mapo es => exact ⟨hv.1, fun i h1 h2 => h _ _ (hv.2.1 i h1 h2), fun h1 => h _ _ (hv.2.2 h1)⟩
      | _ => exact hv.elim
    | _ => exact hv.elim
  · exact hv.elim

theorem vck_mono {T : Tab} {n0 : Nat} {live : List Nat} : ∀ (lc : LCode) (S : State) (K K' : AExit → State → Prop), (∀ x S', K x S' → K' x S') → vck T n0 live lc S K → vck T n0 live lc S K' := by
  have wk : ∀ {X X' : State → Prop} {S : State}, (∀ S', X S' → X' S') → Wk n0 X S → Wk n0 X' S := fun h hw => by
    rcases hw with hw | ⟨S', h1, h2, h3⟩
    · exact .inl (h _ hw)
    · exact .inr ⟨S', h1, h2, h _ h3⟩
  have rg : ∀ {draw : Bool} {base : Nat} {pairs : List (Nat × Nat)} {X X' : State → Prop}, (∀ S', X S' → X' S') → ∀ (los : List LOper) (S : State) (acc : Feet), RGk T draw base pairs X los S acc → RGk T draw base pairs X' los S acc := by
    intro draw base pairs X X' h los
    induction los with
    | nil => intro S acc hr; cases draw <;> first | exact ⟨hr.1, h _ hr.2⟩ | exact h _ hr
    | cons o os ih =>
      intro S acc hr
      obtain ⟨dst, op, guard⟩ := o
      cases guard with
      | none => exact ⟨hr.1, ih _ _ hr.2⟩
      | some gw =>
        obtain ⟨g, want⟩ := gw
        simp only [RGk, guardS] at hr ⊢
        split at hr
        · exact ⟨fun e => ⟨(hr.1 e).1, ih _ _ (hr.1 e).2⟩, fun e => ih _ _ (hr.2 e)⟩
        · exact ih _ _ hr
        · exact hr
  intro lc
  induction lc with
  | skip => intro S K K' h hv; exact h _ _ hv
  | ret => intro S K K' h hv; exact h _ _ hv
  | exit id => intro S K K' h hv; exact h _ _ hv
  | region draw los pairs => intro S K K' h hv; exact rg (fun S' hS => h _ _ hS) _ _ _ hv
  | nilq los neg dst x =>
    intro S K K' h hv
    refine rg (fun S' hS => ?_) _ _ _ hv
    simp only [nilS] at hS ⊢
    split at hS
    · exact ⟨h _ _ hS.1, fun e => h _ _ (hS.2 e)⟩
    · exact ⟨h _ _ hS.1, fun e => h _ _ (hS.2 e)⟩
    · exact hS
  | mnext t1 x t2 =>
    intro S K K' h hv
    exact nextX_mono h hv
  | seq a b iha ihb =>
    intro S K K' h hv
    refine iha _ _ _ (fun x S' hx => ?_) hv
    cases x with
    | normal => exact ihb _ _ _ h hx
    | exit id => exact h _ _ hx
    | ret => exact h _ _ hx
  | cond c a b iha ihb =>
    intro S K K' h hv
    simp only [vck, condS] at hv ⊢
    split at hv
    · exact ⟨fun e => iha _ _ _ h (hv.1 e), fun e => ihb _ _ _ h (hv.2 e)⟩
    · exact hv
  | block id b ih =>
    intro S K K' h hv
    refine ih _ _ _ (fun x S' hx => ?_) hv
    cases x with
    | normal => exact h _ _ hx
    | exit j =>
      simp only [blockK] at hx ⊢
      split
      · rename_i e; rw [if_pos e] at hx; exact h _ _ hx
      · rename_i e; rw [if_neg e] at hx; exact h _ _ hx
    | ret => exact h _ _ hx
  | loop b ih =>
    intro S K K' h ⟨I, k, h1, h2⟩
    refine ⟨I, k, h1, fun k S hI => ih _ _ _ (fun x S' hx => ?_) (h2 k S hI)⟩
    cases x with
    | normal => exact hx
    | exit j => exact wk (fun S' => h _ S') hx
    | ret => exact wk (fun S' => h _ S') hx

/-- A loop, by a family of states. -/
theorem Loop.fam {T : Tab} {live : List Nat} {b : LCode} (L : List Nat) (st : α → State) (Inv : α → Prop) (m : α → Nat) (x0 : α) (ρ : List Nat) (h1 : ρ.Nodup) (h2 : ∀ i ∈ ρ, i < S.heap.length)
    (h3 : S.can ρ L = st x0) (h4 : Inv x0) (h : ∀ x, Inv x → vck T 0 live b (st x) (famK L st Inv m (m x) K)) : Loop T 0 live b S K := by
  refine ⟨fun k S => ∃ x, S = st x ∧ Inv x ∧ m x = k, m x0, Wk.can ρ L h1 h2 ⟨x0, h3, h4, rfl⟩, ?_⟩
  rintro k S ⟨x, rfl, hI, rfl⟩
  refine vck_mono _ _ _ _ (fun e S' hK => ?_) (h x hI)
  cases e with
  | normal =>
    obtain ⟨x', g3, g4, g5⟩ := hK
    exact ⟨m x', g5, .inr ⟨_, g3, Nat.zero_le _, x', rfl, g4, rfl⟩⟩
  | exit id => exact .inl hK
  | ret => exact .inl hK

/-- As 'Loop.fam', from a state that says less. -/
theorem Loop.says {T : Tab} {n0 : Nat} {live : List Nat} {b : LCode} {S S' : State} {K : AExit → State → Prop} (h : Says n0 S S') (hl : n0 ≤ S'.heap.length) (hf : Loop T n0 live b S' K) : Loop T n0 live b S K := by
  obtain ⟨I, k, h1, h2⟩ := hf
  exact ⟨I, k, h1.says h hl, h2⟩

/-- Two pieces of code that meet: what holds between them. -/
theorem vck_cut {T : Tab} {n0 : Nat} {live : List Nat} {a b : LCode} (X : State → Prop) (ha : vck T n0 live a S (thenK X K)) (hb : ∀ S', X S' → vck T n0 live b S' K) : vck T n0 live (.seq a b) S K :=
  vck_mono a _ _ _ (fun x S' hx => by
    cases x with
    | normal => exact hb _ hx
    | exit id => exact hx
    | ret => exact hx) ha
end

end Go.Ago

/- Small words for rows. Conditions: none. -/
set_option linter.unusedSimpArgs false
set_option linter.unusedVariables false
namespace Go.Ago

theorem trodAll_len {H : Type} {enc : TypeId × Value → H} {P : Program} {w : World} {base : Nat} {spare : Nat → Bool} {held : Bool} : ∀ {ts : List TypeId} {vs : List Value} {ds : List (DataW H)} {p : List MemPlace},
    DataW.TrodAll enc P w base spare held ts vs ds p → ds.length = ts.length := by
  intro ts
  induction ts with
  | nil => intro vs ds p h; cases vs <;> cases ds <;> first | rfl | exact h.elim
  | cons t ts ih =>
    intro vs ds p h
    cases vs with
    | nil => cases ds <;> exact h.elim
    | cons v vs =>
      cases ds with
      | nil => exact h.elim
      | cons d ds =>
        obtain ⟨p, q, _, h2, _⟩ := h
        simp [ih h2]

theorem HasAll.nil_inv {xs : List (List DV)} (h : HasAll [] xs) : xs = [] := by cases h; rfl
theorem HasAll.cons_inv {s : Sh} {ss : List Sh} {xs : List (List DV)} (h : HasAll (s :: ss) xs) : ∃ d ds, xs = d :: ds ∧ s.has d ∧ HasAll ss ds := by
  cases h with | cons h1 h2 => exact ⟨_, _, rfl, h1, h2⟩

theorem wf_i64 {n : Int} (h : (Lit.int .i64 n).wf = true) : -9223372036854775808 ≤ n ∧ n ≤ 9223372036854775807 := by
  simp [Lit.wf, IntKind.min, IntKind.max, IntKind.signed, IntKind.bits] at h; omega
theorem wf_u64 {n : Int} (h : (Lit.int .u64 n).wf = true) : 0 ≤ n ∧ n ≤ 18446744073709551615 := by
  simp [Lit.wf, IntKind.min, IntKind.max, IntKind.signed, IntKind.bits] at h; omega

theorem has_i64 {cs : List DV} (h : (Sh.int .i64).has cs) : ∃ n : Int, cs = [.int .i64 n] ∧ -9223372036854775808 ≤ n ∧ n ≤ 9223372036854775807 := by
  simp only [Sh.has] at h
  obtain ⟨n, rfl, hw⟩ := h
  exact ⟨n, rfl, wf_i64 hw⟩
theorem has_u64 {cs : List DV} (h : (Sh.int .u64).has cs) : ∃ n : Int, cs = [.int .u64 n] ∧ 0 ≤ n ∧ n ≤ 18446744073709551615 := by
  simp only [Sh.has] at h
  obtain ⟨n, rfl, hw⟩ := h
  exact ⟨n, rfl, wf_u64 hw⟩
theorem has_bool {cs : List DV} (h : Sh.bool.has cs) : ∃ b : Bool, cs = [.bool b] := by simpa only [Sh.has] using h
theorem hasL_cons {s : Sh} {l : List Sh} {cs : List DV} (h : Sh.hasL (s :: l) cs) : ∃ a b, cs = a ++ b ∧ s.has a ∧ Sh.hasL l b := by simpa only [Sh.hasL] using h
theorem hasL_nil {cs : List DV} (h : Sh.hasL [] cs) : cs = [] := by simpa only [Sh.hasL] using h
theorem has_st {l : List Sh} {cs : List DV} (h : (Sh.st l).has cs) : Sh.hasL l cs := by simpa only [Sh.has] using h
theorem has_sl {s : Sh} {cs : List DV} (h : (Sh.sl s).has cs) : ∃ rows full, cs = [.list rows full] ∧ rows.length ≤ maxLen ∧ ∀ r ∈ rows, s.has r := by simpa only [Sh.has] using h

end Go.Ago

/- The program's plain data as lists of cells. Conditions: none. -/
set_option linter.unusedSimpArgs false
set_option linter.unusedVariables false
namespace Go.Ago

def rowI (n : Int) : List DV := [.int .i64 n]
def rowU (n : Int) : List DV := [.int .u64 n]
structure RatG where
  num : Int
  den : Int
  deriving DecidableEq, Inhabited
def RatG.row (x : RatG) : List DV := [.int .i64 x.num, .int .i64 x.den]
structure LocG where
  atom : Bool
  init : Int
  deriving DecidableEq, Inhabited
def LocG.row (x : LocG) : List DV := [.bool x.atom, .int .i64 x.init]
structure ActG where
  kind : Int
  loc : Int
  old : Int
  new : Int
  deriving DecidableEq, Inhabited
def ActG.row (a : ActG) : List DV := [.int .i64 a.kind, .int .i64 a.loc, .int .i64 a.old, .int .i64 a.new]
def ActG.av (a : ActG) : AV := .agg [.d (.int .i64 a.kind), .d (.int .i64 a.loc), .d (.int .i64 a.old), .d (.int .i64 a.new)]
structure StepG where
  thread : Int
  act : ActG
  when : RatG
  deriving DecidableEq, Inhabited
def StepG.row (s : StepG) : List DV := [.int .i64 s.thread, .int .i64 s.act.kind, .int .i64 s.act.loc, .int .i64 s.act.old, .int .i64 s.act.new, .int .i64 s.when.num, .int .i64 s.when.den]
structure StampG where
  when : RatG
  val : Int
  deriving DecidableEq, Inhabited
def StampG.row (s : StampG) : List DV := [.int .i64 s.when.num, .int .i64 s.when.den, .int .i64 s.val]

theorem getD_lt {α : Type} {l : List α} {i : Nat} {d : α} (h : i < l.length) : l.getD i d = l[i] := by
  rw [List.getD_eq_getElem?_getD, List.getElem?_eq_getElem h]; rfl

theorem map_getD {α : Type} {f : α → List DV} {l : List α} {k : Nat} {d : α} (h : k < l.length) : (l.map f).getD k [] = f (l.getD k d) := by
  rw [List.getD_eq_getElem?_getD, List.getD_eq_getElem?_getD, List.getElem?_map, List.getElem?_eq_getElem h]; rfl

theorem rows_len {α : Type} {f : α → List DV} {sz : Nat} (h : ∀ x, (f x).length = sz) (l : List α) : ∀ r ∈ l.map f, r.length = sz := fun r hr => by
  obtain ⟨x, _, rfl⟩ := List.mem_map.1 hr; exact h x

theorem Z3i {α : Type} {f : α → List DV} (h : ∀ x y, f x = f y → x = y) {l l' : List α} (e : l.map f = l'.map f) : l = l' :=
  (List.map_inj_right (fun x y => h x y)).1 e

theorem rowI_inj (x y : Int) (h : rowI x = rowI y) : x = y := by simpa [rowI] using h
theorem RatG.row_inj (x y : RatG) (h : x.row = y.row) : x = y := by
  obtain ⟨a, b⟩ := x; obtain ⟨c, d⟩ := y; simpa [RatG.row] using h
theorem LocG.row_inj (x y : LocG) (h : x.row = y.row) : x = y := by
  obtain ⟨a, b⟩ := x; obtain ⟨c, d⟩ := y; simpa [LocG.row] using h
theorem ActG.row_inj (x y : ActG) (h : x.row = y.row) : x = y := by
  obtain ⟨a, b, c, d⟩ := x; obtain ⟨a', b', c', d'⟩ := y; simpa [ActG.row] using h
theorem ActG.av_inj (x y : ActG) (h : x.av = y.av) : x = y := by
  obtain ⟨a, b, c, d⟩ := x; obtain ⟨a', b', c', d'⟩ := y; simpa [ActG.av] using h
theorem StampG.row_inj (x y : StampG) (h : x.row = y.row) : x = y := by
  obtain ⟨⟨a, b⟩, c⟩ := x; obtain ⟨⟨a', b'⟩, c'⟩ := y
  simp [StampG.row] at h; simp [h]
theorem StepG.row_inj (x y : StepG) (h : x.row = y.row) : x = y := by
  obtain ⟨t, ⟨a, b, c, d⟩, ⟨e, f⟩⟩ := x; obtain ⟨t', ⟨a', b', c', d'⟩, ⟨e', f'⟩⟩ := y
  simp [StepG.row] at h; simp [h]

/-- A list that reads as rows of a kind. -/
theorem has_list {α : Type} {s : Sh} {f : α → List DV} {ok : α → Prop} (h : ∀ r, s.has r → ∃ x, r = f x ∧ ok x) {cs : List DV} (hc : (Sh.sl s).has cs) :
    ∃ (l : List α) (full : Bool), cs = [.list (l.map f) full] ∧ (∀ x ∈ l, ok x) ∧ l.length ≤ maxLen := by
  obtain ⟨rows, full, rfl, hl, hr⟩ := has_sl hc
  have : ∃ l : List α, rows = l.map f ∧ ∀ x ∈ l, ok x := by
    clear hl hc
    induction rows with
    | nil => exact ⟨[], rfl, fun x h => by simp at h⟩
    | cons r rs ih =>
      obtain ⟨l, h1, h2⟩ := ih (fun r' hr' => hr r' (by simp [hr']))
      obtain ⟨x, h3, h4⟩ := h r (hr r (by simp))
      exact ⟨x :: l, by simp [h1, h3], fun y hy => by
        rcases List.mem_cons.1 hy with rfl | hy
        · exact h4
        · exact h2 y hy⟩
  obtain ⟨l, rfl, h2⟩ := this
  exact ⟨l, full, rfl, h2, by simpa using hl⟩

def inI (n : Int) : Prop := -9223372036854775808 ≤ n ∧ n ≤ 9223372036854775807
abbrev shLoc : Sh := .st [.bool, .int .i64]
def RatG.inn (x : RatG) : Prop := inI x.num ∧ inI x.den
def LocG.inn (x : LocG) : Prop := inI x.init
def ActG.inn (x : ActG) : Prop := inI x.kind ∧ inI x.loc ∧ inI x.old ∧ inI x.new
def StepG.inn (x : StepG) : Prop := inI x.thread ∧ x.act.inn ∧ x.when.inn

theorem has_loc {r : List DV} (h : shLoc.has r) : ∃ x : LocG, r = x.row ∧ x.inn := by
  obtain ⟨x, y, rfl, h1, h2⟩ := hasL_cons (has_st h)
  obtain ⟨z, u, rfl, h3, h4⟩ := hasL_cons h2
  obtain rfl := hasL_nil h4
  obtain ⟨a, rfl⟩ := has_bool h1
  obtain ⟨b, rfl, hb⟩ := has_i64 h3
  exact ⟨⟨a, b⟩, rfl, hb⟩
/-! ### slices.Clone, at any type -/
def cloneS (sz bytes : Nat) : Sp := ⟨List (List DV) × Bool, fun x => [.d (.list x.1 x.2)], fun x => .rows ((∀ r ∈ x.1, r.length = sz) ∧ roomy x.1.length bytes) sz x.1⟩
theorem at_clone (sz bytes : Nat) (l : List (List DV)) (full : Bool) : (cloneS sz bytes).at [.d (.list l full)] = .rows ((∀ r ∈ l, r.length = sz) ∧ roomy l.length bytes) sz l :=
  Sp.at_enc (s := cloneS sz bytes) (fun x y h => by obtain ⟨a, b⟩ := x; obtain ⟨c, d⟩ := y; simpa [cloneS] using h) (l, full)


/-! ### Laws -/
def sp_true : Sp := ⟨Unit, fun _ => [], fun _ => .data True (.d (.bool true)) true⟩
theorem at_true : sp_true.at [] = .data True (.d (.bool true)) true := Sp.at_enc (s := sp_true) (fun x y h => rfl) ()
abbrev Holds (T : Tab) (V : List Nat) (lc : LCode) (R : List LRes) (args : List AV) : Prop := vck T 0 V lc ⟨Z1d 0 args, []⟩ (retK R (RetS (.d (.bool true))))

end Go.Ago

/- Lists under a row's function, reckoned with as wholes. Conditions: none. -/
set_option linter.unusedSimpArgs false
set_option linter.unusedVariables false
namespace Go.Ago

section
variable {α : Type} [Inhabited α] {f : α → List DV} {l : List α} {k : Delta → Prop}

theorem stepK_idx_map {sz : Nat} {full : Bool} {kd : IntKind} {n : Int} (hf : ∀ x, (f x).length = sz) :
    stepK (evIdxAddr sz (.d (.list (l.map f) full)) (.d (.int kd n))) k ↔ (0 ≤ n ∧ n < l.length) ∧ k ⟨.dptr (f (l.getD n.toNat default)) 0, [], []⟩ := by
  simp only [evIdxAddr, Z1i, List.length_map]
  constructor
  · rintro ⟨⟨h1, h2, h3⟩, h4⟩
    rw [map_getD (d := default) (by omega)] at h4
    exact ⟨⟨h1, h2⟩, h4⟩
  · rintro ⟨⟨h1, h2⟩, h4⟩
    rw [map_getD (d := default) (by omega)]
    exact ⟨⟨h1, h2, hf _⟩, h4⟩

theorem Z04 {sz sz0 id row len : Nat} {room : Bool} {kd : IntKind} {n : Int} :
    stepK (evIdxAddr sz (.ref id sz0 row len room) (.d (.int kd n))) k ↔ (sz0 = sz ∧ 0 ≤ n ∧ n < len) ∧ k ⟨.ptr id sz0 (row + n.toNat) 0, [], []⟩ := Iff.rfl

/-- A load out of an object. -/
def evLoadO (o : HO) (id : Nat) (agg : Bool) (sz sz0 row j : Nat) : Out :=
  match o with
  | .vec sz' rows => ⟨sz' = sz0 ∧ row < rows.length ∧ loadQ agg sz j (rows.getD row []).length, ⟨loadT agg sz j (rows.getD row []), [], [id]⟩⟩
  | .dvec sz' rows => ⟨sz' = sz0 ∧ row < rows.length ∧ loadQ agg sz j (rows.getD row []).length, ⟨loadDT agg sz j (rows.getD row []), [], [id]⟩⟩
  | _ => .no
theorem Z0k {H : Heap} {agg : Bool} {sz id sz0 row j : Nat} : evLoad H agg sz (.ptr id sz0 row j) = evLoadO (H.at id) id agg sz sz0 row j := rfl
theorem Z0a {H : Heap} {agg : Bool} {sz j : Nat} {cs : List DV} : evLoad H agg sz (.dptr cs j) = .v (loadQ agg sz j cs.length) (loadDT agg sz j cs) := rfl

theorem Z1h {id : Nat} {agg : Bool} {sz sz0 row j sz' : Nat} {rows : List (List AV)} : evLoadO (.vec sz' rows) id agg sz sz0 row j = ⟨sz' = sz0 ∧ row < rows.length ∧ loadQ agg sz j (rows.getD row []).length, ⟨loadT agg sz j (rows.getD row []), [], [id]⟩⟩ := rfl
theorem Z0g {id : Nat} {agg : Bool} {sz sz0 row j sz' : Nat} {r : List DV} : evLoadO (.dvec sz' [r]) id agg sz sz0 row j = ⟨sz' = sz0 ∧ row < 1 ∧ loadQ agg sz j ([r].getD row []).length, ⟨loadDT agg sz j ([r].getD row []), [], [id]⟩⟩ := rfl

theorem Z03 {id : Nat} {agg : Bool} {sz sz0 row j sz' : Nat} :
    stepK (evLoadO (.dvec sz' (l.map f)) id agg sz sz0 row j) k ↔ (sz' = sz0 ∧ row < l.length ∧ loadQ agg sz j (f (l.getD row default)).length) ∧ k ⟨loadDT agg sz j (f (l.getD row default)), [], [id]⟩ := by
  simp only [evLoadO, Z17, List.length_map]
  constructor
  · rintro ⟨⟨h1, h2, h3⟩, h4⟩
    rw [map_getD (d := default) h2] at h3 h4
    exact ⟨⟨h1, h2, h3⟩, h4⟩
  · rintro ⟨⟨h1, h2, h3⟩, h4⟩
    rw [map_getD (d := default) h2]
    exact ⟨⟨h1, h2, h3⟩, h4⟩

/-- A store into an object. -/
def evStoreO (o : HO) (id sz sz0 row j : Nat) (x : AV) : Out :=
  match o with
  | .vec sz' rows => ⟨sz' = sz0 ∧ row < rows.length ∧ Z3t x ∧ (Z31 x).length = sz ∧ j + (Z31 x).length ≤ sz', ⟨.tup [], [(id, .vec sz' (rows.set row (putRow j (Z31 x) (rows.getD row []))))], []⟩⟩
  | .dvec sz' rows =>
    match Z3g (Z31 x) with
    | some ds => ⟨sz' = sz0 ∧ row < rows.length ∧ Z3t x ∧ (Z31 x).length = sz ∧ j + (Z31 x).length ≤ sz', ⟨.tup [], [(id, .dvec sz' (rows.set row (putRow j ds (rows.getD row []))))], []⟩⟩
    | none => .no
  | _ => .no
theorem Z0b {H : Heap} {sz id sz0 row j : Nat} {x : AV} : evStore H sz (.ptr id sz0 row j) x = evStoreO (H.at id) id sz sz0 row j x := rfl
theorem Z0n {id sz sz0 row j sz' : Nat} {rows : List (List AV)} {x : AV} : evStoreO (.vec sz' rows) id sz sz0 row j x = ⟨sz' = sz0 ∧ row < rows.length ∧ Z3t x ∧ (Z31 x).length = sz ∧ j + (Z31 x).length ≤ sz', ⟨.tup [], [(id, .vec sz' (rows.set row (putRow j (Z31 x) (rows.getD row []))))], []⟩⟩ := rfl

/-- One cell of a row anew. -/
theorem Z01 {id sz sz0 row j sz' : Nat} {x : DV} :
    stepK (evStoreO (.dvec sz' (l.map f)) id sz sz0 row j (.d x)) k ↔ (sz' = sz0 ∧ row < l.length ∧ 1 = sz ∧ j + 1 ≤ sz') ∧ k ⟨.tup [], [(id, .dvec sz' ((l.map f).set row (putRow j [x] (f (l.getD row default)))))], []⟩ := by
  simp only [evStoreO, Z17, List.length_map, Z31, Z3g, Option.map_some, Z3t, List.length_cons, List.length_nil, Nat.zero_add, true_and]
  constructor
  · rintro ⟨⟨h1, h2, h3⟩, h4⟩
    rw [map_getD (d := default) h2] at h4
    exact ⟨⟨h1, h2, h3⟩, h4⟩
  · rintro ⟨⟨h1, h2, h3⟩, h4⟩
    rw [map_getD (d := default) h2]
    exact ⟨⟨h1, h2, h3⟩, h4⟩

end

theorem idx_I {l : List Int} {full : Bool} {kd : IntKind} {n : Int} {k : Delta → Prop} : stepK (evIdxAddr 1 (.d (.list (l.map rowI) full)) (.d (.int kd n))) k ↔ (0 ≤ n ∧ n < l.length) ∧ k ⟨.dptr (rowI (l.getD n.toNat default)) 0, [], []⟩ := stepK_idx_map (fun _ => rfl)
theorem idx_U {l : List Int} {full : Bool} {kd : IntKind} {n : Int} {k : Delta → Prop} : stepK (evIdxAddr 1 (.d (.list (l.map rowU) full)) (.d (.int kd n))) k ↔ (0 ≤ n ∧ n < l.length) ∧ k ⟨.dptr (rowU (l.getD n.toNat default)) 0, [], []⟩ := stepK_idx_map (fun _ => rfl)
theorem Z3h {l : List RatG} {full : Bool} {kd : IntKind} {n : Int} {k : Delta → Prop} : stepK (evIdxAddr 2 (.d (.list (l.map RatG.row) full)) (.d (.int kd n))) k ↔ (0 ≤ n ∧ n < l.length) ∧ k ⟨.dptr (RatG.row (l.getD n.toNat default)) 0, [], []⟩ := stepK_idx_map (fun _ => rfl)
theorem Z3k {l : List LocG} {full : Bool} {kd : IntKind} {n : Int} {k : Delta → Prop} : stepK (evIdxAddr 2 (.d (.list (l.map LocG.row) full)) (.d (.int kd n))) k ↔ (0 ≤ n ∧ n < l.length) ∧ k ⟨.dptr (LocG.row (l.getD n.toNat default)) 0, [], []⟩ := stepK_idx_map (fun _ => rfl)
theorem Z3j {l : List ActG} {full : Bool} {kd : IntKind} {n : Int} {k : Delta → Prop} : stepK (evIdxAddr 4 (.d (.list (l.map ActG.row) full)) (.d (.int kd n))) k ↔ (0 ≤ n ∧ n < l.length) ∧ k ⟨.dptr (ActG.row (l.getD n.toNat default)) 0, [], []⟩ := stepK_idx_map (fun _ => rfl)
theorem Z2n {l : List StepG} {full : Bool} {kd : IntKind} {n : Int} {k : Delta → Prop} : stepK (evIdxAddr 7 (.d (.list (l.map StepG.row) full)) (.d (.int kd n))) k ↔ (0 ≤ n ∧ n < l.length) ∧ k ⟨.dptr (StepG.row (l.getD n.toNat default)) 0, [], []⟩ := stepK_idx_map (fun _ => rfl)
theorem Z1p {l : List StampG} {full : Bool} {kd : IntKind} {n : Int} {k : Delta → Prop} : stepK (evIdxAddr 3 (.d (.list (l.map StampG.row) full)) (.d (.int kd n))) k ↔ (0 ≤ n ∧ n < l.length) ∧ k ⟨.dptr (StampG.row (l.getD n.toNat default)) 0, [], []⟩ := stepK_idx_map (fun _ => rfl)

theorem Z21 {sz j : Nat} {r : List DV} : loadDT false sz j r = .d (r.getD j .nilp) := rfl
theorem Z2k {sz j : Nat} {r : List DV} : loadDT true sz j r = .agg (((r.drop j).take sz).map .d) := rfl

theorem take_map_len {α : Type} {f : α → List DV} {l : List α} : (l.map f).take l.length = l.map f := List.take_of_length_le (by simp)

theorem Z0l {n : Nat} {a : DV} : drows (List.replicate n [.d a]) = some (List.replicate n [a]) := by
  induction n with
  | zero => rfl
  | succ n ih => simp [List.replicate_succ, drows, Z3g, ih]
theorem Z0r {n : Nat} {a b : DV} : drows (List.replicate n [.d a, .d b]) = some (List.replicate n [a, b]) := by
  induction n with
  | zero => rfl
  | succ n ih => simp [List.replicate_succ, drows, Z3g, ih]
theorem Z0s {n : Nat} {a b c : DV} : drows (List.replicate n [.d a, .d b, .d c]) = some (List.replicate n [a, b, c]) := by
  induction n with
  | zero => rfl
  | succ n ih => simp [List.replicate_succ, drows, Z3g, ih]
theorem Z0t {n : Nat} {a b c d : DV} : drows (List.replicate n [.d a, .d b, .d c, .d d]) = some (List.replicate n [a, b, c, d]) := by
  induction n with
  | zero => rfl
  | succ n ih => simp [List.replicate_succ, drows, Z3g, ih]
theorem Z0u {n : Nat} {a b c d e : DV} : drows (List.replicate n [.d a, .d b, .d c, .d d, .d e]) = some (List.replicate n [a, b, c, d, e]) := by
  induction n with
  | zero => rfl
  | succ n ih => simp [List.replicate_succ, drows, Z3g, ih]
theorem Z0v {n : Nat} {a b c d e f : DV} : drows (List.replicate n [.d a, .d b, .d c, .d d, .d e, .d f]) = some (List.replicate n [a, b, c, d, e, f]) := by
  induction n with
  | zero => rfl
  | succ n ih => simp [List.replicate_succ, drows, Z3g, ih]
theorem Z0w {n : Nat} {a b c d e f g : DV} : drows (List.replicate n [.d a, .d b, .d c, .d d, .d e, .d f, .d g]) = some (List.replicate n [a, b, c, d, e, f, g]) := by
  induction n with
  | zero => rfl
  | succ n ih => simp [List.replicate_succ, drows, Z3g, ih]
theorem Z0x {n : Nat} {a b c d e f g h : DV} : drows (List.replicate n [.d a, .d b, .d c, .d d, .d e, .d f, .d g, .d h]) = some (List.replicate n [a, b, c, d, e, f, g, h]) := by
  induction n with
  | zero => rfl
  | succ n ih => simp [List.replicate_succ, drows, Z3g, ih]

theorem roomy_of {n b : Nat} (h1 : n ≤ 1048576) (h2 : b ≤ 1048576) : roomy n b := by
  refine ⟨by omega, ?_⟩
  have := Nat.mul_le_mul h1 h2
  omega

/-! Rows put together again. -/
theorem Z2t {l : List Int} {i : Nat} {x : Int} : (l.map rowI).set i [.int .i64 x] = (l.set i x).map rowI := by rw [List.map_set]; rfl
theorem set_rowU {l : List Int} {i : Nat} {x : Int} : (l.map rowU).set i [.int .u64 x] = (l.set i x).map rowU := by rw [List.map_set]; rfl
theorem Z2l {l : List Int} {x : Int} : l.map rowI ++ [[.int .i64 x]] = (l ++ [x]).map rowI := by simp [rowI]
theorem app_rowU {l : List Int} {x : Int} : l.map rowU ++ [[.int .u64 x]] = (l ++ [x]).map rowU := by simp [rowU]
theorem Z2s {n : Nat} {x : Int} : List.replicate n [DV.int .i64 x] = (List.replicate n x).map rowI := by simp [rowI]
theorem rep_rowU {n : Nat} {x : Int} : List.replicate n [DV.int .u64 x] = (List.replicate n x).map rowU := by simp [rowU]
theorem Z14 {l : List RatG} {i : Nat} {a b : Int} : (l.map RatG.row).set i [.int .i64 a, .int .i64 b] = (l.set i ⟨a, b⟩).map RatG.row := by rw [List.map_set]; rfl
theorem Z0q {l : List RatG} {a b : Int} : l.map RatG.row ++ [[.int .i64 a, .int .i64 b]] = (l ++ [(⟨a, b⟩ : RatG)]).map RatG.row := by simp [RatG.row]
theorem Z12 {n : Nat} {a b : Int} : List.replicate n [DV.int .i64 a, .int .i64 b] = (List.replicate n (⟨a, b⟩ : RatG)).map RatG.row := by simp [RatG.row]
theorem Z13 {l : List LocG} {i : Nat} {a : Bool} {b : Int} : (l.map LocG.row).set i [.bool a, .int .i64 b] = (l.set i ⟨a, b⟩).map LocG.row := by rw [List.map_set]; rfl
theorem Z0p {l : List LocG} {a : Bool} {b : Int} : l.map LocG.row ++ [[.bool a, .int .i64 b]] = (l ++ [(⟨a, b⟩ : LocG)]).map LocG.row := by simp [LocG.row]
theorem Z0o {l : List ActG} {a b c d : Int} : l.map ActG.row ++ [[.int .i64 a, .int .i64 b, .int .i64 c, .int .i64 d]] = (l ++ [(⟨a, b, c, d⟩ : ActG)]).map ActG.row := by simp [ActG.row]
theorem Z0e {l : List StepG} {t a b c d e f : Int} : l.map StepG.row ++ [[.int .i64 t, .int .i64 a, .int .i64 b, .int .i64 c, .int .i64 d, .int .i64 e, .int .i64 f]] = (l ++ [(⟨t, ⟨a, b, c, d⟩, ⟨e, f⟩⟩ : StepG)]).map StepG.row := by simp [StepG.row]
theorem Z1v {l : List Int} : (∀ r ∈ l.map rowI, ∀ x ∈ r, DV.scal x = true) ↔ True := ⟨fun _ => trivial, fun _ r hr x hx => by
  obtain ⟨n, _, rfl⟩ := List.mem_map.1 hr; simp [rowI] at hx; subst hx; rfl⟩
theorem scal_rowU {l : List Int} : (∀ r ∈ l.map rowU, ∀ x ∈ r, DV.scal x = true) ↔ True := ⟨fun _ => trivial, fun _ r hr x hx => by
  obtain ⟨n, _, rfl⟩ := List.mem_map.1 hr; simp [rowU] at hx; subst hx; rfl⟩
theorem Z0h {l : List RatG} : (∀ r ∈ l.map RatG.row, ∀ x ∈ r, DV.scal x = true) ↔ True := ⟨fun _ => trivial, fun _ r hr x hx => by
  obtain ⟨n, _, rfl⟩ := List.mem_map.1 hr; simp [RatG.row] at hx; rcases hx with rfl | rfl <;> rfl⟩
theorem Z07 {l : List StepG} : (∀ r ∈ l.map StepG.row, ∀ x ∈ r, DV.scal x = true) ↔ True := ⟨fun _ => trivial, fun _ r hr x hx => by
  obtain ⟨n, _, rfl⟩ := List.mem_map.1 hr; simp [StepG.row] at hx; rcases hx with rfl | rfl | rfl | rfl | rfl | rfl | rfl <;> rfl⟩

theorem Z2g {k : IntKind} {n : Int} : DV.scal (.int k n) = true := rfl
theorem Z1u {b : Bool} : DV.scal (.bool b) = true := rfl
theorem Z2h {full : Bool} : DV.scal (.list [] full) = true := rfl
theorem take_map_ge {α : Type} {f : α → List DV} {l : List α} {n : Nat} (h : l.length ≤ n) : (l.map f).take n = l.map f := List.take_of_length_le (by simpa using h)

theorem lens_I {l : List Int} : (∀ r ∈ l.map rowI, r.length = 1) ↔ True := ⟨fun _ => trivial, fun _ => rows_len (f := rowI) (fun _ => rfl) l⟩
theorem Z3m {l : List Int} : (∀ r ∈ List.map (fun x => List.map AV.d x) (l.map rowI), r.length = 1) ↔ True := ⟨fun _ => trivial, fun _ r hr => by
  obtain ⟨x, hx, rfl⟩ := List.mem_map.1 hr
  simpa using rows_len (f := rowI) (sz := 1) (fun _ => rfl) l x hx⟩
theorem lens_U {l : List Int} : (∀ r ∈ l.map rowU, r.length = 1) ↔ True := ⟨fun _ => trivial, fun _ => rows_len (f := rowU) (fun _ => rfl) l⟩
theorem lensA_U {l : List Int} : (∀ r ∈ List.map (fun x => List.map AV.d x) (l.map rowU), r.length = 1) ↔ True := ⟨fun _ => trivial, fun _ r hr => by
  obtain ⟨x, hx, rfl⟩ := List.mem_map.1 hr
  simpa using rows_len (f := rowU) (sz := 1) (fun _ => rfl) l x hx⟩
theorem Z2q {l : List RatG} : (∀ r ∈ l.map RatG.row, r.length = 2) ↔ True := ⟨fun _ => trivial, fun _ => rows_len (f := RatG.row) (fun _ => rfl) l⟩
theorem Z1s {l : List RatG} : (∀ r ∈ List.map (fun x => List.map AV.d x) (l.map RatG.row), r.length = 2) ↔ True := ⟨fun _ => trivial, fun _ r hr => by
  obtain ⟨x, hx, rfl⟩ := List.mem_map.1 hr
  simpa using rows_len (f := RatG.row) (sz := 2) (fun _ => rfl) l x hx⟩
theorem Z2p {l : List LocG} : (∀ r ∈ l.map LocG.row, r.length = 2) ↔ True := ⟨fun _ => trivial, fun _ => rows_len (f := LocG.row) (fun _ => rfl) l⟩
theorem Z1r {l : List LocG} : (∀ r ∈ List.map (fun x => List.map AV.d x) (l.map LocG.row), r.length = 2) ↔ True := ⟨fun _ => trivial, fun _ r hr => by
  obtain ⟨x, hx, rfl⟩ := List.mem_map.1 hr
  simpa using rows_len (f := LocG.row) (sz := 2) (fun _ => rfl) l x hx⟩
theorem Z2o {l : List ActG} : (∀ r ∈ l.map ActG.row, r.length = 4) ↔ True := ⟨fun _ => trivial, fun _ => rows_len (f := ActG.row) (fun _ => rfl) l⟩
theorem Z1q {l : List ActG} : (∀ r ∈ List.map (fun x => List.map AV.d x) (l.map ActG.row), r.length = 4) ↔ True := ⟨fun _ => trivial, fun _ r hr => by
  obtain ⟨x, hx, rfl⟩ := List.mem_map.1 hr
  simpa using rows_len (f := ActG.row) (sz := 4) (fun _ => rfl) l x hx⟩
theorem Z1t {l : List StepG} : (∀ r ∈ l.map StepG.row, r.length = 7) ↔ True := ⟨fun _ => trivial, fun _ => rows_len (f := StepG.row) (fun _ => rfl) l⟩
theorem Z10 {l : List StepG} : (∀ r ∈ List.map (fun x => List.map AV.d x) (l.map StepG.row), r.length = 7) ↔ True := ⟨fun _ => trivial, fun _ r hr => by
  obtain ⟨x, hx, rfl⟩ := List.mem_map.1 hr
  simpa using rows_len (f := StepG.row) (sz := 7) (fun _ => rfl) l x hx⟩
theorem Z11 {l : List StampG} : (∀ r ∈ l.map StampG.row, r.length = 3) ↔ True := ⟨fun _ => trivial, fun _ => rows_len (f := StampG.row) (fun _ => rfl) l⟩
theorem Z0f {l : List StampG} : (∀ r ∈ List.map (fun x => List.map AV.d x) (l.map StampG.row), r.length = 3) ↔ True := ⟨fun _ => trivial, fun _ r hr => by
  obtain ⟨x, hx, rfl⟩ := List.mem_map.1 hr
  simpa using rows_len (f := StampG.row) (sz := 3) (fun _ => rfl) l x hx⟩

theorem ActG.eta {a : ActG} : (⟨a.kind, a.loc, a.old, a.new⟩ : ActG) = a := rfl
theorem RatG.eta {a : RatG} : (⟨a.num, a.den⟩ : RatG) = a := rfl
theorem LocG.eta {a : LocG} : (⟨a.atom, a.init⟩ : LocG) = a := rfl

theorem Z1w {α : Type} {f : α → List DV} {l : List α} {n : Nat} : (l.map f).take n = (l.take n).map f := List.map_take.symm
theorem Z23 {α : Type} {f : α → List DV} {l : List α} {n : Nat} : (l.map f).drop n = (l.drop n).map f := List.map_drop.symm

end Go.Ago
