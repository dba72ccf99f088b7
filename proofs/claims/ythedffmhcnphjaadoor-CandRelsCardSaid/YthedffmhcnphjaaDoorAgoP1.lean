/- An abstract machine with pure data for the kit's model of Go: values, heap, the relation to concrete values and worlds, and its monotonicity. Conditions: none. -/
import Derived.Orders
import Derived.WalkKit
import Derived.Laws.Externs
import Derived.LoopN
import Derived.Laws.StructEq
import Derived.ChangeKeysEq
import Derived.IntWalk
set_option linter.unusedSimpArgs false
set_option linter.unusedVariables false
namespace Go.Ago

/-- Data that nobody changes any more: scalars, and lists of rows of cells. -/
inductive DV where
  | int (k : IntKind) (n : Int)
  | bool (b : Bool)
  | str (s : ByteArray)
  | flt (k : FloatKind) (b : Nat)
  | nan (k : FloatKind)
  | nilp
  | nilm
  | nilf
  | fn (f : FuncId)
  | list (rows : List (List DV)) (full : Bool)
  deriving Inhabited

/-- Values of the abstract machine. -/
inductive AV where
  | undef
  | d (x : DV)
  | agg (cells : List AV)
  | tup (vs : List AV)
  | ptr (id sz row j : Nat)
  | dptr (cells : List DV) (j : Nat)
  | ref (id sz row len : Nat) (room : Bool)
  | clo (f : FuncId) (caps : List AV)
  | rcap (id sz row len cap : Nat)
  | mapr (id : Nat)
  deriving Inhabited

/-- What lies at an id of the heap: nothing that may be used (not yet, or no more), or rows of cells. -/
inductive HO where
  | dead
  | vec (sz : Nat) (rows : List (List AV))
  | dvec (sz : Nat) (rows : List (List DV))
  | mapo (es : List (Int × Int))
  | iter (m n : Nat) (seen : List Nat)
  deriving Inhabited

abbrev Heap := List HO

def HO.alive : HO → Prop
  | .dead => False
  | _ => True

/-- The rows of an object. -/
def HO.rows : HO → Option (Nat × List (List AV))
  | .vec sz rows => some (sz, rows)
  | .dvec sz rows => some (sz, rows.map (·.map .d))
  | _ => none

def Heap.at (H : Heap) (i : Nat) : HO := H.getD i .dead

/-- The blocks of what is alive. -/
def own (φ : Nat → Option (Nat × Nat)) (H : Heap) (b : Nat) : Prop := ∃ i o, (Heap.at H i).alive ∧ φ i = some (b, o)

/-- The data relation: 'M' are the blocks that may still change. -/
inductive RelD (M : Nat → Prop) (w : World) : DV → Value → Prop
  | int (k : IntKind) (n : Int) : RelD M w (.int k n) (.int k n)
  | bool (b : Bool) : RelD M w (.bool b) (.bool b)
  | str (s : ByteArray) : RelD M w (.str s) (.string s)
  | flt (k : FloatKind) (b : Nat) : RelD M w (.flt k b) (.float k b)
  | nan (k : FloatKind) (b : Nat) (h : (k.format.read b).isNaN = true) : RelD M w (.nan k) (.float k b)
  | nilp : RelD M w .nilp (.pointer none)
  | nilm : RelD M w .nilm (.map none)
  | nilf : RelD M w .nilf .nilFunc
  | fn (f : FuncId) : RelD M w (.fn f) (.func (.func f) #[] #[])
  | nil (full : Bool) (a : Option Addr) (cap : Nat) (hfull : full = true → cap = 0) : RelD M w (.list [] full) (.slice a 0 cap)
  | list (rows : List (List DV)) (full : Bool) (sz b off cap : Nat) (f : Nat → Nat → Value) (hb : b < w.heap.size) (hM : ¬ M b) (hsz : ∀ r ∈ rows, r.length = sz) (hcap : rows.length ≤ cap) (hfull : full = true → cap = rows.length)
      (hc : ∀ (i : Nat) (r : List DV) (j : Nat) (x : DV), rows[i]? = some r → r[j]? = some x → w.cell? ⟨b, off + (i * sz + j), none⟩ = some (f i j))
      (hr : ∀ (i : Nat) (r : List DV) (j : Nat) (x : DV), rows[i]? = some r → r[j]? = some x → RelD M w x (f i j)) :
      RelD M w (.list rows full) (.slice (some ⟨b, off, none⟩) rows.length cap)

/-- The relation of values. -/
inductive Rel (φ : Nat → Option (Nat × Nat)) (M : Nat → Prop) (w : World) : AV → Value → Prop
  | undef (v : Value) : Rel φ M w .undef v
  | d (x : DV) (v : Value) (h : RelD M w x v) : Rel φ M w (.d x) v
  | agg (cells : List AV) (vs : Array Value) (hl : vs.size = cells.length)
      (h : ∀ (i : Nat) (x : AV) (v : Value), cells[i]? = some x → vs[i]? = some v → Rel φ M w x v) : Rel φ M w (.agg cells) (.agg vs)
  | tup (cells : List AV) (vs : Array Value) (hl : vs.size = cells.length)
      (h : ∀ (i : Nat) (x : AV) (v : Value), cells[i]? = some x → vs[i]? = some v → Rel φ M w x v) : Rel φ M w (.tup cells) (.tuple vs)
  | ptr (id sz row j b o : Nat) (hb : φ id = some (b, o)) : Rel φ M w (.ptr id sz row j) (.pointer (some ⟨b, o + row * sz + j, none⟩))
  | dptr (cells : List DV) (j b off : Nat) (f : Nat → Value) (hlt : b < w.heap.size) (hM : ¬ M b)
      (hc : ∀ (i : Nat) (x : DV), cells[i]? = some x → w.cell? ⟨b, off + i, none⟩ = some (f i)) (hr : ∀ (i : Nat) (x : DV), cells[i]? = some x → RelD M w x (f i)) :
      Rel φ M w (.dptr cells j) (.pointer (some ⟨b, off + j, none⟩))
  | ref0 (id sz row : Nat) (room : Bool) (a : Option Addr) : Rel φ M w (.ref id sz row 0 room) (.slice a 0 0)
  | ref (id sz row len b o cap : Nat) (room : Bool) (c : Array Value) (T : TypeId) (hb : φ id = some (b, o)) (hcap : len ≤ cap) (hroom : room = false → cap = len)
      (hheap : w.heap[b]? = some (.cells c T (0, 0))) (hfit : o + (row + cap) * sz ≤ c.size) : Rel φ M w (.ref id sz row len room) (.slice (some ⟨b, o + row * sz, none⟩) len cap)
  | clo (f : FuncId) (caps : List AV) (vs : Array Value) (hl : vs.size = caps.length)
      (h : ∀ (i : Nat) (x : AV) (v : Value), caps[i]? = some x → vs[i]? = some v → Rel φ M w x v) : Rel φ M w (.clo f caps) (.func (.func f) #[] vs)
  | rcap (id sz row len b o cap : Nat) (c : Array Value) (T : TypeId) (hb : φ id = some (b, o)) (hcap : len ≤ cap)
      (hheap : w.heap[b]? = some (.cells c T (0, 0))) (hfit : o + (row + cap) * sz ≤ c.size) : Rel φ M w (.rcap id sz row len cap) (.slice (some ⟨b, o + row * sz, none⟩) len cap)
  | mapr (id b o : Nat) (hb : φ id = some (b, o)) : Rel φ M w (.mapr id) (.map (some b))

/-- A map of whole numbers, as it lies in memory: nothing was ever taken out of it. -/
def mapEnts (es : List (Int × Int)) : Array MapEntry := (es.zipIdx.map fun p => ⟨.int .i64 p.1.1, .int .i64 p.1.2, p.2⟩).toArray

/-- What a map, or one's walk through it, is in a world. -/
def RelX (φ : Nat → Option (Nat × Nat)) (w : World) (b o : Nat) : HO → Prop
  | .mapo es => o = 0 ∧ w.heap[b]? = some (.map (mapEnts es) es.length)
  | .iter m n seen => o = 0 ∧ ∃ bm om, φ m = some (bm, om) ∧ w.heap[b]? = some (.mapIter (some bm) n seen.toArray n)
  | _ => True

theorem RelX.on {φ φ' : Nat → Option (Nat × Nat)} {w w' : World} {b o : Nat} {x : HO} (h : RelX φ w b o x) (hφ : ∀ i p, φ i = some p → φ' i = some p) (hw : w'.heap[b]? = w.heap[b]?) : RelX φ' w' b o x := by
  cases x with
  | mapo es => exact ⟨h.1, hw.trans h.2⟩
  | iter m n seen => obtain ⟨h0, bm, om, h1, h2⟩ := h; exact ⟨h0, bm, om, hφ _ _ h1, hw.trans h2⟩
  | _ => trivial

theorem RelX.rows {φ : Nat → Option (Nat × Nat)} {w : World} {b o sz : Nat} {rows : List (List AV)} {x : HO} (h : x.rows = some (sz, rows)) : RelX φ w b o x := by
  cases x <;> first | trivial | cases h

/-- What one heap object is in a world. -/
def RelO (φ : Nat → Option (Nat × Nat)) (M : Nat → Prop) (w : World) (b o : Nat) (x : HO) : Prop :=
  ∀ sz rows, x.rows = some (sz, rows) → ∃ c T, w.heap[b]? = some (.cells c T (0, 0)) ∧ o + rows.length * sz ≤ c.size ∧ (∀ r ∈ rows, r.length = sz) ∧
      ∀ (i : Nat) (r : List AV) (j : Nat) (x : AV), rows[i]? = some r → r[j]? = some x → ∃ v, c[o + i * sz + j]? = some v ∧ Rel φ M w x v

/-- The table of math/bits that a trailing zero is looked up in: by a product with one number, shifted, is told which bit it was. -/
def deB (t : Nat) : Nat := (285870213051353865 * 2 ^ t) % 2 ^ 64 / 2 ^ 58
def tabNum (i : Nat) : Nat := ((List.range 64).find? fun t => deB t == i).getD 0
def tabCells : List DV := (List.range 64).map fun i => .int .u8 (tabNum i)
def tabOf (P : Program) (b : Nat) : Bool := match P.globals[b]? with
  | some g => g.name == "math/bits.deBruijn64tab"
  | none => false
def TableAt (w : World) (b : Nat) : Prop := ∀ i, i < 64 → w.cell? ⟨b, i, none⟩ = some (.int .u8 (tabNum i))
/-- Where the program has that table, it is there, and nobody changes it. -/
def TabIn (P : Program) (M : Nat → Prop) (w : World) : Prop := ∀ b, tabOf P b = true → ¬ M b ∧ TableAt w b

/-- A heap and a world: 'A' are blocks of others that may still change. -/
structure SimH (P : Program) (A : Nat → Prop) (φ : Nat → Option (Nat × Nat)) (H : Heap) (w : World) : Prop where
  dom : ∀ i b o, φ i = some (b, o) → i < H.length ∧ b < w.heap.size
  there : ∀ i sz rows, (Heap.at H i).rows = some (sz, rows) → rows ≠ [] → ∃ b o, φ i = some (b, o)
  inj : ∀ i j b o o', (Heap.at H i).alive → (Heap.at H j).alive → φ i = some (b, o) → φ j = some (b, o') → i = j
  amb : ∀ b, A b → b < w.heap.size
  apart : ∀ b, A b → ¬ own φ H b
  objs : ∀ i b o, (Heap.at H i).alive → φ i = some (b, o) → RelO φ (fun b => A b ∨ own φ H b) w b o (Heap.at H i)
  tab : TabIn P (fun b => A b ∨ own φ H b) w
  objx : ∀ i b o, (Heap.at H i).alive → φ i = some (b, o) → RelX φ w b o (Heap.at H i)

abbrev Mb (A : Nat → Prop) (φ : Nat → Option (Nat × Nat)) (H : Heap) : Nat → Prop := fun b => A b ∨ own φ H b

/-- How a world has gone on: blocks outside of 'M' are as they were; rows of cells keep their size. -/
structure Pres (M : Nat → Prop) (w w' : World) : Prop where
  size : w.heap.size ≤ w'.heap.size
  same : ∀ b, b < w.heap.size → ¬ M b → w'.heap[b]? = w.heap[b]?
  keep : ∀ (b : Nat) (c : Array Value) (T : TypeId), w.heap[b]? = some (.cells c T (0, 0)) → ∃ c', w'.heap[b]? = some (.cells c' T (0, 0)) ∧ c'.size = c.size
  os : w'.os = w.os ∧ w'.output = w.output ∧ w'.tape = w.tape ∧ w.drawn ≤ w'.drawn
  fz : ∀ a : Addr, a.block < w.heap.size → w'.frozen? a = w.frozen? a

theorem Pres.refl (M : Nat → Prop) (w : World) : Pres M w w := ⟨Nat.le_refl _, fun _ _ _ => rfl, fun _ c _ h => ⟨c, h, rfl⟩, ⟨rfl, rfl, rfl, Nat.le_refl _⟩, fun _ _ => rfl⟩

theorem Pres.trans {M M' : Nat → Prop} {w w' w'' : World} (h : Pres M w w') (h' : Pres M' w' w'') (hm : ∀ b, M' b → M b ∨ w.heap.size ≤ b) : Pres M w w'' where
  size := Nat.le_trans h.size h'.size
  same b hb hM := by
    rw [h'.same b (Nat.lt_of_lt_of_le hb h.size) (fun hm' => (hm b hm').elim hM (fun hle => by omega)), h.same b hb hM]
  keep b c T hc := by
    obtain ⟨c1, h1, e1⟩ := h.keep b c T hc
    obtain ⟨c2, h2, e2⟩ := h'.keep b c1 T h1
    exact ⟨c2, h2, e2.trans e1⟩
  os := ⟨h'.os.1.trans h.os.1, h'.os.2.1.trans h.os.2.1, h'.os.2.2.1.trans h.os.2.2.1, Nat.le_trans h.os.2.2.2 h'.os.2.2.2⟩
  fz a ha := (h'.fz a (Nat.lt_of_lt_of_le ha h.size)).trans (h.fz a ha)

theorem block_lt {w : World} {a : Addr} {v : Value} (h : w.cell? a = some v) : a.block < w.heap.size := by
  unfold World.cell? at h
  rcases Nat.lt_or_ge a.block w.heap.size with hl | hl
  · exact hl
  · simp [Array.getElem?_eq_none hl] at h

theorem cell_of_block {w w' : World} {a : Addr} (h : w'.heap[a.block]? = w.heap[a.block]?) : w'.cell? a = w.cell? a := by
  unfold World.cell?; rw [h]

theorem TableAt.lt {w : World} {b : Nat} (h : TableAt w b) : b < w.heap.size := block_lt (h 0 (by omega))

theorem TabIn.mono {P : Program} {M M1 M' : Nat → Prop} {w w' : World} (h : TabIn P M w) (hp : Pres M1 w w') (h1 : ∀ b, M1 b → M b) (hm : ∀ b, M' b → M b ∨ w.heap.size ≤ b) : TabIn P M' w' := fun b hb => by
  obtain ⟨g1, g2⟩ := h b hb
  have hlt := g2.lt
  refine ⟨fun h' => ?_, fun i hi => ?_⟩
  · rcases hm b h' with h3 | h3
    · exact g1 h3
    · omega
  · rw [cell_of_block (w := w) (hp.same b hlt (fun h3 => g1 (h1 b h3)))]; exact g2 i hi

theorem TabIn.less {P : Program} {M M' : Nat → Prop} {w : World} (h : TabIn P M w) (hm : ∀ b, M' b → M b) : TabIn P M' w := fun b hb => ⟨fun h' => (h b hb).1 (hm b h'), (h b hb).2⟩

theorem TabIn.rel {P : Program} {φ : Nat → Option (Nat × Nat)} {M : Nat → Prop} {w : World} (h : TabIn P M w) {b : Nat} (hb : tabOf P b = true) : Rel φ M w (.dptr tabCells 0) (.pointer (some ⟨b, 0, none⟩)) := by
  obtain ⟨g1, g2⟩ := h b hb
  refine Rel.dptr (off := 0) tabCells 0 b (fun i => .int .u8 (tabNum i)) g2.lt g1 (fun i x hx => ?_) (fun i x hx => ?_)
  · have hi : i < 64 := by
      rcases Nat.lt_or_ge i 64 with hl | hl
      · exact hl
      · rw [List.getElem?_eq_none (by simpa [tabCells] using hl)] at hx; cases hx
    rw [Nat.zero_add]; exact g2 i hi
  · have hi : i < 64 := by
      rcases Nat.lt_or_ge i 64 with hl | hl
      · exact hl
      · rw [List.getElem?_eq_none (by simpa [tabCells] using hl)] at hx; cases hx
    simp only [tabCells, List.getElem?_map, List.getElem?_range hi, Option.map_some, Option.some.injEq] at hx
    subst hx
    exact .int _ _

theorem RelD.mono {M M' : Nat → Prop} {w w' : World} {x : DV} {v : Value} (h : RelD M w x v) (hz : w.heap.size ≤ w'.heap.size)
    (hs : ∀ b, b < w.heap.size → ¬ M b → w'.heap[b]? = w.heap[b]?) (hm : ∀ b, M' b → M b ∨ w.heap.size ≤ b) : RelD M' w' x v := by
  induction h with
  | list rows full sz b off cap f hb hM hsz hcap hfull hc hr ih =>
    refine .list rows full sz b off cap f (Nat.lt_of_lt_of_le hb hz) (fun hm' => ?_) hsz hcap hfull (fun i r j x h1 h2 => ?_) ih
    · rcases hm b hm' with h | h
      · exact hM h
      · omega
    · rw [cell_of_block (w := w) (hs b hb hM)]; exact hc i r j x h1 h2
  | nil full a cap hfull => exact .nil full a cap hfull
  | nan k b h => exact .nan k b h
  | _ => constructor

theorem Rel.mono {φ φ' : Nat → Option (Nat × Nat)} {M M' : Nat → Prop} {w w' : World} {x : AV} {v : Value} (h : Rel φ M w x v)
    (hφ : ∀ i b, φ i = some b → φ' i = some b) (hp : Pres M w w') (hm : ∀ b, M' b → M b ∨ w.heap.size ≤ b) : Rel φ' M' w' x v := by
  induction h with
  | undef v => exact .undef v
  | d x v h => exact .d x v (h.mono hp.size hp.same hm)
  | agg cells vs hl h ih => exact .agg cells vs hl ih
  | tup cells vs hl h ih => exact .tup cells vs hl ih
  | ptr id sz row j b o hb => exact .ptr id sz row j b o (hφ _ _ hb)
  | ref0 id sz row room a => exact .ref0 id sz row room a
  | dptr cells j b off f hlt hM hc hr =>
    refine .dptr cells j b off f (Nat.lt_of_lt_of_le hlt hp.size) (fun hm' => ?_) (fun i x h1 => ?_) (fun i x h1 => (hr i x h1).mono hp.size hp.same hm)
    · rcases hm b hm' with h | h
      · exact hM h
      · omega
    · rw [cell_of_block (w := w) (hp.same b hlt hM)]; exact hc i x h1
  | ref id sz row len b o cap room c T hb hcap hroom hheap hfit =>
    obtain ⟨c', h1, h2⟩ := hp.keep b c T hheap
    exact .ref id sz row len b o cap room c' T (hφ _ _ hb) hcap hroom h1 (h2 ▸ hfit)
  | clo f caps vs hl h ih => exact .clo f caps vs hl ih
  | rcap id sz row len b o cap c T hb hcap hheap hfit =>
    obtain ⟨c', h1, h2⟩ := hp.keep b c T hheap
    exact .rcap id sz row len b o cap c' T (hφ _ _ hb) hcap h1 (h2 ▸ hfit)
  | mapr id b o hb => exact .mapr id b o (hφ _ _ hb)

end Go.Ago

/- The abstract state, what a step Z3e, and the semantic triple AWP with its structural rules. Conditions: none. -/
set_option linter.unusedSimpArgs false
set_option linter.unusedVariables false
namespace Go.Ago

abbrev Env := List (Nat × AV)

def Env.get (e : Env) (t : Nat) : AV :=
  match e with
  | [] => .undef
  | (i, x) :: r => if i = t then x else Env.get r t

def Env.put (e : Env) (dst : Option Nat) (x : AV) : Env :=
  match dst with
  | some t => (t, x) :: e
  | none => e

structure State where
  env : Env
  heap : Heap

structure Sim (P : Program) (A : Nat → Prop) (n : Nat) (φ : Nat → Option (Nat × Nat)) (S : State) (a : Act) (w : World) : Prop where
  heap : SimH P A φ S.heap w
  size : a.tmps.size = n
  defs : a.defers = []
  slots : ∀ t, Rel φ (Mb A φ S.heap) w (S.env.get t) (a.tmps.getD t undef)

/-- From one state to a later one: the first 'n0' ids stay where they are; blocks that are not ours stay as they are. -/
structure Ext (n0 : Nat) (φ : Nat → Option (Nat × Nat)) (H : Heap) (w : World) (φ' : Nat → Option (Nat × Nat)) (H' : Heap) (w' : World) : Prop where
  ids : ∀ i, i < n0 → φ' i = φ i
  pres : Pres (own φ H) w w'
  mono : ∀ b, own φ' H' b → own φ H b ∨ w.heap.size ≤ b

theorem Ext.refl (n0 : Nat) (φ : Nat → Option (Nat × Nat)) (H : Heap) (w : World) : Ext n0 φ H w φ H w :=
  ⟨fun _ _ => rfl, Pres.refl _ _, fun _ h => .inl h⟩

theorem Ext.trans {n0 : Nat} {φ φ' φ'' : Nat → Option (Nat × Nat)} {H H' H'' : Heap} {w w' w'' : World} (h : Ext n0 φ H w φ' H' w') (h' : Ext n0 φ' H' w' φ'' H'' w'') :
    Ext n0 φ H w φ'' H'' w'' where
  ids i hi := (h'.ids i hi).trans (h.ids i hi)
  pres := h.pres.trans h'.pres h.mono
  mono b hb := by
    rcases h'.mono b hb with h1 | h1
    · exact h.mono b h1
    · exact .inr (Nat.le_trans h.pres.size h1)

inductive AExit where
  | normal
  | exit (id : Nat)
  | ret

def AExit.up : AExit → Exit
  | .normal => .normal
  | .exit id => .exit id
  | .ret => .ret

/-- The triple: whatever simulates 'S', the code comes to an end that simulates one that 'K' takes. -/
def AWP (P : Program) (n n0 : Nat) (c : Code) (S : State) (K : AExit → State → Prop) : Prop :=
  ∀ (A : Nat → Prop) (φ : Nat → Option (Nat × Nat)) (a : Act) (w : World), Sim P A n φ S a w → ∀ Q : Exit → Act → World → Prop,
    (∀ (x : AExit) (S' : State) (φ' : Nat → Option (Nat × Nat)) (a' : Act) (w' : World), K x S' → Sim P A n φ' S' a' w' → Ext n0 φ S.heap w φ' S'.heap w' → Q x.up a' w') → c.wp P Q a w

section
variable {P : Program} {n n0 : Nat} {S : State} {K : AExit → State → Prop}

theorem AWP.mono {c : Code} {K' : AExit → State → Prop} (h : AWP P n n0 c S K) (hk : ∀ x S', K x S' → K' x S') : AWP P n n0 c S K' :=
  fun A φ a w hs Q hq => h A φ a w hs Q fun x S' φ' a' w' hK => hq x S' φ' a' w' (hk _ _ hK)

theorem AWP.skip (h : K .normal S) : AWP P n n0 .skip S K :=
  fun _ φ _ w hs _ hq => wp_skip (hq .normal S φ _ w h hs (Ext.refl _ _ _ _))

theorem AWP.ret (h : K .ret S) : AWP P n n0 .ret S K :=
  fun _ φ _ w hs _ hq => wp_ret (hq .ret S φ _ w h hs (Ext.refl _ _ _ _))

theorem AWP.exit {id : Nat} (h : K (.exit id) S) : AWP P n n0 (.exit id) S K :=
  fun _ φ _ w hs _ hq => wp_exit (hq (.exit id) S φ _ w h hs (Ext.refl _ _ _ _))

/-- What is done behind the first of two. -/
def thenK (f : State → Prop) (K : AExit → State → Prop) : AExit → State → Prop
  | .normal, S => f S
  | x, S => K x S

theorem AWP.seq {c d : Code} (h : AWP P n n0 c S (thenK (fun S' => AWP P n n0 d S' K) K)) : AWP P n n0 (.seq c d) S K := by
  intro A φ a w hs Q hq
  refine wp_seq (h A φ a w hs _ ?_)
  intro x S' φ' a' w' hK hs' he
  cases x with
  | normal => exact hK A φ' a' w' hs' Q fun x2 S2 φ2 a2 w2 hK2 hs2 he2 => hq x2 S2 φ2 a2 w2 hK2 hs2 (he.trans he2)
  | exit id => exact hq (.exit id) S' φ' a' w' hK hs' he
  | ret => exact hq .ret S' φ' a' w' hK hs' he

def blockK (id : Nat) (K : AExit → State → Prop) : AExit → State → Prop
  | .exit j, S => if j = id then K .normal S else K (.exit j) S
  | x, S => K x S

theorem AWP.block {id : Nat} {c : Code} (h : AWP P n n0 c S (blockK id K)) : AWP P n n0 (.block id c) S K := by
  intro A φ a w hs Q hq
  refine wp_block (h A φ a w hs _ ?_)
  intro x S' φ' a' w' hK hs' he
  cases x with
  | normal => exact hq .normal S' φ' a' w' hK hs' he
  | ret => exact hq .ret S' φ' a' w' hK hs' he
  | exit j =>
    simp only [blockK] at hK
    by_cases hj : j = id
    · rw [if_pos hj] at hK
      simpa [AExit.up, Exit.inBlock, hj] using hq .normal S' φ' a' w' hK hs' he
    · rw [if_neg hj] at hK
      simpa [AExit.up, Exit.inBlock, hj] using hq (.exit j) S' φ' a' w' hK hs' he

theorem Rel.bool_inv {φ : Nat → Option (Nat × Nat)} {M : Nat → Prop} {w : World} {b : Bool} {v : Value} (h : Rel φ M w (.d (.bool b)) v) : v = .bool b := by
  cases h with
  | d x v h => cases h; rfl

theorem AWP.cond {c : Operand} {d e : Code} (v : AV) (hc : ∀ A φ a w, Sim P A n φ S a w → Rel φ (Mb A φ S.heap) w v (a.eval c)) {b : Bool} (hv : v = .d (.bool b))
    (ht : b = true → AWP P n n0 d S K) (he : b = false → AWP P n n0 e S K) : AWP P n n0 (.cond c d e) S K := by
  intro A φ a w hs Q hq
  have hr := hc A φ a w hs
  subst hv
  have hb : a.eval c = .bool b := Rel.bool_inv hr
  refine wp_cond hb ?_
  cases b with
  | true => exact ht rfl A φ a w hs Q hq
  | false => exact he rfl A φ a w hs Q hq

theorem rounds_mono {c : Code} {Q : Exit → Act → World → Prop} : ∀ (m : Nat) (a : Act) (w : World), Code.rounds P c Q m a w → Code.rounds P c Q (m + 1) a w := by
  intro m
  induction m with
  | zero => intro a w h; exact h.elim
  | succ m ih =>
    intro a w h
    refine wp_mono h ?_
    intro e a w he
    cases e with
    | normal => exact ih a w he
    | _ => exact he

theorem rounds_le {c : Code} {Q : Exit → Act → World → Prop} {m m' : Nat} (hm : m ≤ m') {a : Act} {w : World} (h : Code.rounds P c Q m a w) : Code.rounds P c Q m' a w := by
  induction hm with
  | refl => exact h
  | step _ ih => exact rounds_mono _ _ _ ih

def loopK (k : Nat) (I : Nat → State → Prop) (K : AExit → State → Prop) : AExit → State → Prop
  | .normal, S => ∃ k', k' < k ∧ I k' S
  | x, S => K x S

/-- A loop: an invariant with an index that every round lowers. -/
theorem AWP.loop {c : Code} (I : Nat → State → Prop) (k : Nat) (h0 : I k S) (round : ∀ k S, I k S → AWP P n n0 c S (loopK k I K)) : AWP P n n0 (.loop c) S K := by
  intro A φ a w hs Q hq
  suffices h : ∀ (k : Nat) (S1 : State) (φ1 : Nat → Option (Nat × Nat)) (a1 : Act) (w1 : World), I k S1 → Sim P A n φ1 S1 a1 w1 → Ext n0 φ S.heap w φ1 S1.heap w1 → Code.rounds P c Q (k + 1) a1 w1 from
    wp_loop_rounds (k + 1) (h k S φ a w h0 hs (Ext.refl _ _ _ _))
  intro k
  induction k using Nat.strongRecOn with
  | _ k ih =>
    intro S1 φ1 a1 w1 hI hs1 he1
    refine round k S1 hI A φ1 a1 w1 hs1 _ ?_
    intro x S2 φ2 a2 w2 hK hs2 he2
    cases x with
    | normal =>
      obtain ⟨k', hlt, hI'⟩ := hK
      exact rounds_le (by omega) (ih k' hlt S2 φ2 a2 w2 hI' hs2 (he1.trans he2))
    | exit id => exact hq (.exit id) S2 φ2 a2 w2 hK hs2 (he1.trans he2)
    | ret => exact hq .ret S2 φ2 a2 w2 hK hs2 (he1.trans he2)

end

/-! ### Forgetting, and other names for ids -/
mutual
def AV.ren (ρ : Nat → Nat) : AV → AV
  | .agg cs => .agg (AV.renL ρ cs)
  | .tup cs => .tup (AV.renL ρ cs)
  | .ptr id sz row j => .ptr (ρ id) sz row j
  | .ref id sz row len room => .ref (ρ id) sz row len room
  | .clo f caps => .clo f (AV.renL ρ caps)
  | .rcap id sz row len cap => .rcap (ρ id) sz row len cap
  | .mapr id => .mapr (ρ id)
  | .undef => .undef
  | .d x => .d x
  | .dptr cs j => .dptr cs j
def AV.renL (ρ : Nat → Nat) : List AV → List AV
  | [] => []
  | x :: xs => AV.ren ρ x :: AV.renL ρ xs
end

theorem AV.renL_map (ρ : Nat → Nat) (xs : List AV) : AV.renL ρ xs = xs.map (AV.ren ρ) := by
  induction xs with
  | nil => simp [AV.renL]
  | cons x xs ih => simp [AV.renL, ih]

def HO.ren (ρ : Nat → Nat) : HO → HO
  | .vec sz rows => .vec sz (rows.map (·.map (AV.ren ρ)))
  | .dvec sz rows => .dvec sz rows
  | .mapo es => .mapo es
  | .iter m n seen => .iter (ρ m) n seen
  | .dead => .dead

theorem HO.ren_rows (ρ : Nat → Nat) (o : HO) : (o.ren ρ).rows = o.rows.map fun p => (p.1, p.2.map (·.map (AV.ren ρ))) := by
  cases o <;> simp [HO.ren, HO.rows, AV.ren]

theorem HO.ren_alive (ρ : Nat → Nat) (o : HO) : (o.ren ρ).alive ↔ o.alive := by cases o <;> simp [HO.ren, HO.alive]

theorem Rel.unren {φ φ' : Nat → Option (Nat × Nat)} {M : Nat → Prop} {w : World} (ρ : Nat → Nat) (hφ : ∀ i, φ' i = φ (ρ i)) {y : AV} {v : Value} (h : Rel φ M w y v) :
    ∀ x : AV, y = x.ren ρ → Rel φ' M w x v := by
  induction h with
  | undef v => intro x hx; cases x <;> simp [AV.ren] at hx; exact .undef v
  | d z v h => intro x hx; cases x <;> simp [AV.ren] at hx; subst hx; exact .d _ v h
  | agg cells vs hl h ih =>
    intro x hx; cases x <;> simp [AV.ren] at hx
    rename_i cs
    subst hx
    rw [AV.renL_map] at hl ih
    exact .agg cs vs (by simpa using hl) (fun i x v h1 h2 => ih i (x.ren ρ) v (by simp [h1]) h2 x rfl)
  | tup cells vs hl h ih =>
    intro x hx; cases x <;> simp [AV.ren] at hx
    rename_i cs
    subst hx
    rw [AV.renL_map] at hl ih
    exact .tup cs vs (by simpa using hl) (fun i x v h1 h2 => ih i (x.ren ρ) v (by simp [h1]) h2 x rfl)
  | ptr id sz row j b o hb =>
    intro x hx; cases x <;> simp [AV.ren] at hx
    obtain ⟨rfl, rfl, rfl, rfl⟩ := hx
    exact .ptr _ _ _ _ b o (by rw [hφ]; exact hb)
  | dptr cells j b off f hlt hM hc hr =>
    intro x hx; cases x <;> simp [AV.ren] at hx
    obtain ⟨rfl, rfl⟩ := hx
    exact .dptr _ _ b off f hlt hM hc hr
  | ref0 id sz row room a =>
    intro x hx; cases x <;> simp [AV.ren] at hx
    obtain ⟨rfl, rfl, rfl, rfl, rfl⟩ := hx
    exact .ref0 _ _ _ _ _
  | ref id sz row len b o cap room c T hb hcap hroom hheap hfit =>
    intro x hx; cases x <;> simp [AV.ren] at hx
    obtain ⟨rfl, rfl, rfl, rfl, rfl⟩ := hx
    exact .ref _ _ _ _ b o cap _ c T (by rw [hφ]; exact hb) hcap hroom hheap hfit
  | clo f caps vs hl h ih =>
    intro x hx; cases x <;> simp [AV.ren] at hx
    rename_i f' cs
    obtain ⟨rfl, hx⟩ := hx
    subst hx
    rw [AV.renL_map] at hl ih
    exact .clo _ cs vs (by simpa using hl) (fun i x v h1 h2 => ih i (x.ren ρ) v (by simp [h1]) h2 x rfl)
  | rcap id sz row len b o cap c T hb hcap hheap hfit =>
    intro x hx; cases x <;> simp [AV.ren] at hx
    obtain ⟨rfl, rfl, rfl, rfl, rfl⟩ := hx
    exact .rcap _ _ _ _ b o _ c T (by rw [hφ]; exact hb) hcap hheap hfit
  | mapr id b o hb =>
    intro x hx; cases x <;> simp [AV.ren] at hx
    subst hx
    exact .mapr _ b o (by rw [hφ]; exact hb)

theorem RelX.unren {φ φ' : Nat → Option (Nat × Nat)} {w : World} (ρ : Nat → Nat) (hφ : ∀ i, φ' i = φ (ρ i)) {b o : Nat} {x : HO} (h : RelX φ w b o (x.ren ρ)) : RelX φ' w b o x := by
  cases x with
  | mapo es => exact h
  | iter m n seen => obtain ⟨h0, bm, om, h1, h2⟩ := h; exact ⟨h0, bm, om, by rw [hφ]; exact h1, h2⟩
  | _ => trivial

theorem RelX.ren {φ φ' : Nat → Option (Nat × Nat)} {w : World} (ρ : Nat → Nat) (hφ : ∀ i, φ' (ρ i) = φ i) {b o : Nat} {x : HO} (h : RelX φ w b o x) : RelX φ' w b o (x.ren ρ) := by
  cases x with
  | mapo es => exact h
  | iter m n seen => obtain ⟨h0, bm, om, h1, h2⟩ := h; exact ⟨h0, bm, om, by rw [hφ]; exact h1, h2⟩
  | _ => trivial

/-- Fewer blocks may still change. -/
theorem RelD.less {M M' : Nat → Prop} {w : World} {x : DV} {v : Value} (h : RelD M w x v) (hm : ∀ b, M' b → M b) : RelD M' w x v :=
  h.mono (Nat.le_refl _) (fun _ _ _ => rfl) (fun b hb => .inl (hm b hb))

theorem Rel.less {φ : Nat → Option (Nat × Nat)} {M M' : Nat → Prop} {w : World} {x : AV} {v : Value} (h : Rel φ M w x v) (hm : ∀ b, M' b → M b) : Rel φ M' w x v :=
  h.mono (fun _ _ h => h) (Pres.refl M w) (fun b hb => .inl (hm b hb))

/-- 'S'' says less than 'S': slots forgotten, objects given up, ids named anew by 'ρ'. -/
structure Weak (n0 : Nat) (ρ : List Nat) (S S' : State) : Prop where
  fix : ∀ i, i < n0 → ρ.getD i S.heap.length = i
  env : ∀ t, S'.env.get t = .undef ∨ S.env.get t = (S'.env.get t).ren (fun i => ρ.getD i S.heap.length)
  len : ρ.length ≤ S'.heap.length
  objs : ∀ i, (S'.heap.at i).alive → S.heap.at (ρ.getD i S.heap.length) = (S'.heap.at i).ren (fun i => ρ.getD i S.heap.length)
  inj : ∀ i j, (S'.heap.at i).alive → (S'.heap.at j).alive → ρ.getD i S.heap.length = ρ.getD j S.heap.length → i = j

theorem Heap.at_lt {H : Heap} {i : Nat} (h : (H.at i).alive) : i < H.length := by
  rcases Nat.lt_or_ge i H.length with hl | hl
  · exact hl
  · unfold Heap.at at h
    rw [List.getD_eq_getElem?_getD, List.getElem?_eq_none hl] at h
    exact h.elim

theorem Weak.sim {P : Program} {n0 : Nat} {ρ : List Nat} {S S' : State} (h : Weak n0 ρ S S') {A : Nat → Prop} {n : Nat} {φ : Nat → Option (Nat × Nat)} {a : Act} {w : World} (hs : Sim P A n φ S a w) :
    Sim P A n (fun i => φ (ρ.getD i S.heap.length)) S' a w ∧ Ext n0 φ S.heap w (fun i => φ (ρ.getD i S.heap.length)) S'.heap w := by
  generalize hρ : (fun i => ρ.getD i S.heap.length) = σ
  have hσ : ∀ i, ρ.getD i S.heap.length = σ i := fun i => by rw [← hρ]
  have henv := h.env
  have hobjs := h.objs
  have hinj := h.inj
  have hfix := h.fix
  simp only [hρ, hσ] at henv hobjs hinj hfix
  simp only [hσ]
  have halive : ∀ i, (S'.heap.at i).alive → (S.heap.at (σ i)).alive := fun i hi => by
    rw [hobjs i hi]; exact (HO.ren_alive _ _).2 hi
  have hown : ∀ b, own (fun i => φ (σ i)) S'.heap b → own φ S.heap b := fun b ⟨i, o, hi, hb⟩ => ⟨_, o, halive i hi, hb⟩
  have hM : ∀ b, Mb A (fun i => φ (σ i)) S'.heap b → Mb A φ S.heap b := fun b hb => hb.imp id (hown b)
  refine ⟨⟨⟨?_, ?_, ?_, hs.heap.amb, fun b hA ho => hs.heap.apart b hA (hown b ho), ?_, hs.heap.tab.less hM, fun i b o hi hb => RelX.unren (φ := φ) σ (fun _ => rfl) (by rw [← hobjs i hi]; exact hs.heap.objx _ b o (halive i hi) hb)⟩, hs.size, hs.defs, ?_⟩, ⟨fun i hi => by rw [hfix i hi], Pres.refl _ _, fun b hb => .inl (hown b hb)⟩⟩
  · intro i b o hb
    refine ⟨?_, (hs.heap.dom _ _ _ hb).2⟩
    rcases Nat.lt_or_ge i ρ.length with hl | hl
    · exact Nat.lt_of_lt_of_le hl h.len
    · have hg : σ i = S.heap.length := by rw [← hσ, List.getD_eq_getElem?_getD, List.getElem?_eq_none hl]; rfl
      have hb' : φ (σ i) = some (b, o) := hb
      rw [hg] at hb'
      exact absurd (hs.heap.dom _ _ _ hb').1 (Nat.lt_irrefl _)
  · intro i sz rows hi hne
    have hal : (S'.heap.at i).alive := by cases h0 : S'.heap.at i <;> simp_all [HO.rows, HO.alive]
    exact hs.heap.there _ sz (rows.map (·.map (AV.ren σ))) (by rw [hobjs i hal, HO.ren_rows, hi]; rfl) (by simpa using hne)
  · intro i j b o o' hi hj h1 h2
    exact hinj i j hi hj (hs.heap.inj _ _ b o o' (halive i hi) (halive j hj) h1 h2)
  · intro i b o hi hb
    intro sz rows hro
    have ho := hs.heap.objs _ b o (halive i hi) hb sz (rows.map (·.map (AV.ren σ))) (by rw [hobjs i hi, HO.ren_rows, hro]; rfl)
    obtain ⟨c, T, h1, h2, h3, h4⟩ := ho
    refine ⟨c, T, h1, by simpa using h2, fun r hr => ?_, fun i r j x hr hx => ?_⟩
    · have := h3 (r.map (AV.ren σ)) (List.mem_map_of_mem hr)
      simpa using this
    · obtain ⟨v, hv, hrel⟩ := h4 i (r.map (AV.ren σ)) j (x.ren σ) (by simp [hr]) (by simp [hx])
      exact ⟨v, hv, (Rel.unren σ (fun _ => rfl) hrel x rfl).less hM⟩
  · intro t
    rcases henv t with he | he
    · rw [he]; exact .undef _
    · have := hs.slots t
      rw [he] at this
      exact (Rel.unren σ (fun _ => rfl) this _ rfl).less hM

/-- 'S'' says no more than 'S'. -/
def Says (n0 : Nat) (S S' : State) : Prop :=
  ∀ (P : Program) (A : Nat → Prop) (n : Nat) (φ : Nat → Option (Nat × Nat)) (a : Act) (w : World), Sim P A n φ S a w → ∃ φ', Sim P A n φ' S' a w ∧ Ext n0 φ S.heap w φ' S'.heap w

theorem Weak.says {n0 : Nat} {ρ : List Nat} {S S' : State} (h : Weak n0 ρ S S') : Says n0 S S' := fun P A n φ a w hs => ⟨_, h.sim hs⟩

theorem Says.refl {n0 : Nat} {S : State} : Says n0 S S := fun P A n φ a w hs => ⟨φ, hs, Ext.refl _ _ _ _⟩

theorem Says.trans {n0 : Nat} {S S' S'' : State} (h : Says n0 S S') (h' : Says n0 S' S'') : Says n0 S S'' := fun P A n φ a w hs => by
  obtain ⟨φ1, h1, e1⟩ := h P A n φ a w hs
  obtain ⟨φ2, h2, e2⟩ := h' P A n φ1 a w h1
  exact ⟨φ2, h2, e1.trans e2⟩

theorem AWP.weaken {P : Program} {n n0 : Nat} {S S' : State} {K : AExit → State → Prop} {c : Code} (hw : Says n0 S S') (h : AWP P n n0 c S' K) : AWP P n n0 c S K := by
  intro A φ a w hs Q hq
  obtain ⟨φ', hs', he⟩ := hw P A n φ a w hs
  exact h A _ a w hs' Q fun x S2 φ2 a2 w2 hK hs2 he2 => hq x S2 φ2 a2 w2 hK hs2 (he.trans he2)

end Go.Ago

/- The operations of the abstract machine: what each asks and what it answers ('actK'). Conditions: none. -/
set_option linter.unusedSimpArgs false
set_option linter.unusedVariables false
namespace Go.Ago

inductive Opd where
  | tmp (t : Nat)
  | cst (v : AV)
  deriving Inhabited

def Opd.ev (e : Env) : Opd → AV
  | .tmp t => e.get t
  | .cst v => v

structure Delta where
  val : AV
  ups : List (Nat × HO) := []
  rd : List Nat := []

inductive EqPlan where
  | bool
  | func
  | flat (ks : List Bool)
  deriving DecidableEq, Inhabited

/-- Operations on floats. -/
inductive FOp where
  | bin (op : BinOp)
  | ofInt (k : FloatKind)
  | bits
  | ofBits
  | cap
  deriving Inhabited

/-- A result, or some NaN: which, nobody says. -/
def quoV (k : FloatKind) : Option Nat → DV
  | some r => .flt k r
  | none => .nan k

/-- A NaN on one side at least. -/
def nanBin (op : BinOp) : Option DV :=
  match op with
  | .eql | .lss | .leq | .gtr | .geq => some (.bool false)
  | .neq => some (.bool true)
  | _ => none

def fltBin (op : BinOp) (k : FloatKind) (a b : Nat) : Option DV :=
  match op with
  | .add => (k.format.add a b).map (.flt k)
  | .sub => (k.format.sub a b).map (.flt k)
  | .mul => (k.format.mul a b).map (.flt k)
  | .quo => some (quoV k (k.format.div a b))
  | .eql => some (.bool (k.format.order a b == some .eq))
  | .neq => some (.bool (k.format.order a b != some .eq))
  | .lss => some (.bool (k.format.order a b == some .lt))
  | .leq => some (.bool (k.format.order a b == some .lt || k.format.order a b == some .eq))
  | .gtr => some (.bool (k.format.order a b == some .gt))
  | .geq => some (.bool (k.format.order a b == some .gt || k.format.order a b == some .eq))
  | _ => none

def fltV (f : FOp) (x y : AV) : Option DV :=
  match f, x, y with
  | .bin op, .d (.flt k a), .d (.flt k' b) => if k = k' then fltBin op k a b else none
  | .bin op, .d (.nan k), .d (.flt k' _) => if k = k' then nanBin op else none
  | .bin op, .d (.flt k _), .d (.nan k') => if k = k' then nanBin op else none
  | .bin op, .d (.nan k), .d (.nan k') => if k = k' then nanBin op else none
  | .ofInt k, .d (.int _ n), _ => some (.flt k (k.nearest n))
  | .bits, .d (.flt .f64 b), _ => some (.int .u64 b)
  | .ofBits, .d (.int .u64 n), _ => some (.flt .f64 n.toNat)
  | .cap, .rcap _ _ _ _ c, _ => some (.int .i64 c)
  | _, _, _ => none

inductive LOp where
  | mv (x : Opd)
  | pick (c a b : Opd)
  | alloc (c sz : Nat) (zero : List AV)
  | box (c : Nat) (x : Opd)
  | build (zero : List AV) (parts : List (Nat × Nat × Opd))
  | bslice (c sz len : Nat) (zero : List AV) (parts : List (Nat × Opd))
  | load (agg : Bool) (sz : Nat) (a : Opd)
  | store (sz : Nat) (a x : Opd)
  | nilchk (x : Opd)
  | bin (op : BinOp) (x y : Opd)
  | eq (neg : Bool) (pl : EqPlan) (x y : Opd)
  | un (op : UnOp) (x : Opd)
  | conv (k : IntKind) (x : Opd)
  | fl (f : FOp) (x y : Opd)
  | fieldAddr (off : Nat) (x : Opd)
  | field (agg : Bool) (off sz : Nat) (x : Opd)
  | idxAddr (sz : Nat) (x i : Opd)
  | idxArrAddr (len sz : Nat) (x i : Opd)
  | idxArr (agg : Bool) (len sz : Nat) (x i : Opd)
  | mkslice (c sz bytes : Nat) (zero : List AV) (len cap : Opd)
  | slice (sz : Nat) (x : Opd) (lo hi max : Option Opd)
  | extract (i : Nat) (x : Opd)
  | mkfn (f : FuncId) (caps : List Opd)
  | call (c : Nat) (imp : Bool) (f : Opd) (args : List Opd)
  | append (c sz bytes : Nat) (x y : Opd)
  | copy (sz : Nat) (x y : Opd)
  | len (x : Opd)
  | maxi (x y : Opd)
  | mini (x y : Opd)
  | max3 (x y z : Opd)
  | apart (x y : Opd)
  | appz (c sz bytes : Nat) (zero : List AV) (x l : Opd)
  | mapNew (c : Nat)
  | mapSet (m k x : Opd)
  | mapGet (ok : Bool) (m k : Opd)
  | mapRange (c : Nat) (m : Opd)
  | mapEntry (it : Opd)
  deriving Inhabited

/-- Does it use the id that is kept for it? -/
def LOp.isNew : LOp → Bool
  | .alloc .. | .box .. | .bslice .. | .mkslice .. | .append .. | .appz .. | .mapNew .. | .mapRange .. => true
  | .call _ imp _ _ => imp
  | _ => false

/-- Does it neither read nor change the heap? -/
def LOp.still : LOp → Bool
  | .mv .. | .pick .. | .build .. | .nilchk .. | .bin .. | .eq .. | .un .. | .conv .. | .fl .. | .fieldAddr .. | .field .. | .idxAddr .. | .idxArrAddr .. | .idxArr .. | .slice .. | .extract .. | .mkfn .. | .len .. | .maxi .. | .mini .. | .max3 .. => true
  | _ => false

/-! ### Small words -/
def pickV (b : Bool) : AV → AV → AV
  | .d (.bool x), .d (.bool y) => .d (.bool (if b then x else y))
  | .d (.int k x), .d (.int k' y) => if k = k' then .d (.int k (if b then x else y)) else if b then .d (.int k x) else .d (.int k' y)
  | x, y => if b then x else y

theorem pickV_eq (b : Bool) (x y : AV) : pickV b x y = if b then x else y := by
  unfold pickV; split <;> (try split) <;> cases b <;> simp_all

/-- The cells of a value that can be stored. -/
def AV.leaf : AV → Bool
  | .undef | .agg _ | .tup _ => false
  | _ => true

def AV.cellsOf : AV → Option (List AV)
  | .agg cs => if cs.all AV.leaf then some cs else none
  | .undef | .tup _ => none
  | x => some [x]

def Z3g : List AV → Option (List DV)
  | [] => some []
  | .d x :: r => (Z3g r).map (x :: ·)
  | _ => none

theorem dcells_map : ∀ (l : List AV) (ds : List DV), Z3g l = some ds → l = ds.map .d := by
  intro l
  induction l with
  | nil => intro ds h; simp [Z3g] at h; subst h; rfl
  | cons x r ih =>
    intro ds h
    cases x <;> simp [Z3g] at h
    obtain ⟨ds', h1, rfl⟩ := h
    simp [ih ds' h1]

def loadRow (agg : Bool) (sz j : Nat) (r : List AV) : Option AV :=
  if agg then (if j + sz ≤ r.length then some (.agg ((r.drop j).take sz)) else none) else r[j]?

def loadRowD (agg : Bool) (sz j : Nat) (r : List DV) : Option AV :=
  if agg then (if j + sz ≤ r.length then some (.agg (((r.drop j).take sz).map .d)) else none) else (r[j]?).map .d

theorem loadRowD_eq (agg : Bool) (sz j : Nat) (r : List DV) : loadRow agg sz j (r.map .d) = loadRowD agg sz j r := by
  unfold loadRow loadRowD
  cases agg <;> simp [List.map_drop, List.map_take]

def putRow {α : Type} (j : Nat) (cs r : List α) : List α := r.take j ++ cs ++ r.drop (j + cs.length)

/-- An object with cells of one row put anew. -/
def HO.put (o : HO) (row j : Nat) (cs : List AV) : Option HO :=
  match o with
  | .vec sz rows => (rows[row]?).bind fun r => if j + cs.length ≤ sz then some (.vec sz (rows.set row (putRow j cs r))) else none
  | .dvec sz rows => (rows[row]?).bind fun r => (Z3g cs).bind fun ds => if j + cs.length ≤ sz then some (.dvec sz (rows.set row (putRow j ds r))) else none
  | _ => none

/-- One row of an object. -/
def HO.row (o : HO) (sz row : Nat) : Option (List AV) :=
  match o with
  | .vec sz' rows => if sz' = sz then rows[row]? else none
  | .dvec sz' rows => if sz' = sz then (rows[row]?).map (·.map .d) else none
  | _ => none

def buildA (cells : List AV) : List (Nat × Nat × AV) → Option (List AV)
  | [] => some cells
  | (off, size, v) :: r => v.cellsOf.bind fun cs => if cs.length = size ∧ off + size ≤ cells.length then buildA (putRow off cs cells) r else none

def buildR (sz : Nat) (rows : List (List AV)) : List (Nat × AV) → Option (List (List AV))
  | [] => some rows
  | (i, v) :: r => v.cellsOf.bind fun cs => if cs.length = sz ∧ i < rows.length then buildR sz (rows.set i cs) r else none

def drows : List (List AV) → Option (List (List DV))
  | [] => some []
  | r :: rs => (Z3g r).bind fun d => (drows rs).map (d :: ·)

theorem drows_map : ∀ (l : List (List AV)) (ds : List (List DV)), drows l = some ds → l = ds.map (·.map .d) := by
  intro l
  induction l with
  | nil => intro ds h; simp [drows] at h; subst h; rfl
  | cons x r ih =>
    intro ds h
    simp only [drows, Option.bind_eq_some_iff, Option.map_eq_some_iff] at h
    obtain ⟨d, h1, ds', h2, rfl⟩ := h
    simp [ih ds' h2, dcells_map x d h1]

/-- An object with these rows: as data, if they are. -/
def mkVec (sz : Nat) (rows : List (List AV)) : HO :=
  match drows rows with
  | some ds => .dvec sz ds
  | none => .vec sz rows

theorem mkVec_rows (sz : Nat) (rows : List (List AV)) : (mkVec sz rows).rows = some (sz, rows) := by
  unfold mkVec
  split
  · rename_i ds h; simp [HO.rows, ← drows_map rows ds h]
  · rfl

/-- Rows that are read as a source: rows of cells, and what object they lie in. -/
inductive Src where
  | rows (l : List (List AV))
  | drows (l : List (List DV))

def Src.all : Src → List (List AV)
  | .rows l => l
  | .drows l => l.map (·.map .d)

def Z40 (H : Heap) (sz : Nat) : AV → Option (Src × List Nat)
  | .ref id sz' row len _ =>
    match H.at id with
    | .vec sz2 rows => if sz' = sz ∧ sz2 = sz ∧ row + len ≤ rows.length then some (.rows ((rows.drop row).take len), [id]) else none
    | .dvec sz2 rows => if sz' = sz ∧ sz2 = sz ∧ row + len ≤ rows.length then some (.drows ((rows.drop row).take len), [id]) else none
    | _ => none
  | .d (.list rows _) => some (.drows rows, [])
  | _ => none

def Src.len : Src → Nat
  | .rows l => l.length
  | .drows l => l.length

/-- Two sources, one behind the other, as an object. -/
def joinV (sz : Nat) : Src → Src → HO
  | .drows a, .drows b => .dvec sz (a ++ b)
  | .drows a, .rows b => .vec sz (a.map (·.map .d) ++ b)
  | .rows a, .drows b => .vec sz (a ++ b.map (·.map .d))
  | .rows a, .rows b => .vec sz (a ++ b)

theorem joinV_rows (sz : Nat) (a b : Src) : (joinV sz a b).rows = some (sz, a.all ++ b.all) := by
  cases a <;> cases b <;> simp [joinV, HO.rows, Src.all]

/-- An object whose rows from 'at' on are others. -/
def HO.splice (o : HO) (at_ : Nat) (s : Src) (m : Nat) : Option HO :=
  match o, s with
  | .dvec sz rows, .drows l => some (.dvec sz (rows.take at_ ++ l.take m ++ rows.drop (at_ + m)))
  | .vec sz rows, s => some (.vec sz (rows.take at_ ++ s.all.take m ++ rows.drop (at_ + m)))
  | _, _ => none

def binI (op : BinOp) (ka : IntKind) (a : Int) (kb : IntKind) (b : Int) (k : DV → Prop) : Prop :=
  match op with
  | .add => ka = kb ∧ k (.int ka (ka.wrap (a + b)))
  | .sub => ka = kb ∧ k (.int ka (ka.wrap (a - b)))
  | .mul => ka = kb ∧ k (.int ka (ka.wrap (a * b)))
  | .quo => ka = kb ∧ b ≠ 0 ∧ k (.int ka (ka.wrap (a.tdiv b)))
  | .rem => ka = kb ∧ b ≠ 0 ∧ k (.int ka (a.tmod b))
  | .and => ka = kb ∧ k (.int ka (bits .and ka a b))
  | .or => ka = kb ∧ k (.int ka (bits .or ka a b))
  | .xor => ka = kb ∧ k (.int ka (bits .xor ka a b))
  | .andNot => ka = kb ∧ k (.int ka (bits .andNot ka a b))
  | .shl => 0 ≤ b ∧ k (.int ka (ka.wrap (a * 2 ^ (min b.toNat ka.bits))))
  | .shr => 0 ≤ b ∧ k (.int ka (a.fdiv (2 ^ (min b.toNat ka.bits))))
  | .eql => ka = kb ∧ k (.bool (decide (a = b)))
  | .neq => ka = kb ∧ k (.bool (!decide (a = b)))
  | .lss => ka = kb ∧ k (.bool (decide (a < b)))
  | .leq => ka = kb ∧ k (.bool (decide (a ≤ b)))
  | .gtr => ka = kb ∧ k (.bool (decide (b < a)))
  | .geq => ka = kb ∧ k (.bool (decide (b ≤ a)))

/-- Are two cells the same? 'true': whole numbers, 'false': bools. -/
def eqC1 : Bool → AV → AV → Option Bool
  | true, .d (.int k a), .d (.int k' b) => if k = k' then some (decide (a = b)) else none
  | false, .d (.bool a), .d (.bool b) => some (a == b)
  | _, _, _ => none

def eqK : List Bool → List AV → List AV → Option Bool
  | [], [], [] => some true
  | k :: ks, x :: xs, y :: ys => (eqC1 k x y).bind fun b => (eqK ks xs ys).map (b && ·)
  | _, _, _ => none

def eqV (pl : EqPlan) (x y : AV) : Option Bool :=
  match pl with
  | .bool => (match x, y with
    | .d (.bool a), .d (.bool b) => some (a == b)
    | _, _ => none)
  | .flat ks => (match x, y with
    | .agg xs, .agg ys => eqK ks xs ys
    | _, _ => none)
  | .func => (match x, y with
    | .d .nilf, .d .nilf => some true
    | .d .nilf, .d (.fn _) => some false
    | .d .nilf, .clo _ _ => some false
    | .d (.fn _), .d .nilf => some false
    | .clo _ _, .d .nilf => some false
    | _, _ => none)

def Z43 (e : Env) (x : Opd) : Option Int :=
  match x.ev e with
  | .d (.int _ n) => some n
  | _ => none

def intOr (e : Env) (x : Option Opd) (n : Int) : Option Int :=
  match x with
  | some x => Z43 e x
  | none => some n

/-- One row of an object, as data. -/
def HO.drow (o : HO) (sz row : Nat) : Option (List DV) :=
  match o with
  | .vec sz' rows => if sz' = sz then (rows[row]?).bind Z3g else none
  | .dvec sz' rows => if sz' = sz then rows[row]? else none
  | _ => none

theorem HO.drow_rows {o : HO} {sz row : Nat} {ds : List DV} (h : o.drow sz row = some ds) : ∃ rows, o.rows = some (sz, rows) ∧ rows[row]? = some (ds.map .d) := by
  cases o with
  | dead | mapo | iter => simp [HO.drow] at h
  | vec sz' rows =>
    simp only [HO.drow] at h
    split at h
    · rename_i e; subst e
      rw [Option.bind_eq_some_iff] at h
      obtain ⟨r, h1, h2⟩ := h
      exact ⟨rows, rfl, by rw [h1, ← dcells_map _ _ h2]⟩
    · cases h
  | dvec sz' rows =>
    simp only [HO.drow] at h
    split at h
    · rename_i e; subst e
      exact ⟨_, rfl, by rw [List.getElem?_map, h]; rfl⟩
    · cases h

/-! ### What a call may come to -/
/-- A value without ids. -/
inductive Plain : AV → Prop
  | undef : Plain .undef
  | d (x : DV) : Plain (.d x)
  | dptr (cs : List DV) (j : Nat) : Plain (.dptr cs j)
  | agg (cs : List AV) (h : ∀ x ∈ cs, Plain x) : Plain (.agg cs)
  | tup (cs : List AV) (h : ∀ x ∈ cs, Plain x) : Plain (.tup cs)

def DV.scal : DV → Bool
  | .list rows _ => rows.isEmpty
  | _ => true

/-- An argument as data: rows of data of our own are looked at, their ids told. -/
inductive View (H : Heap) : AV → AV → List Nat → Prop
  | undef : View H .undef .undef []
  | d (x : DV) : View H (.d x) (.d x) []
  | ref (id sz row len : Nat) (room : Bool) (rows : List (List DV)) (h : H.at id = .dvec sz rows) (hl : row + len ≤ rows.length) :
      View H (.ref id sz row len room) (.d (.list ((rows.drop row).take len) false)) [id]
  | deep (id sz row len : Nat) (room : Bool) (rows : List (List AV)) (rows' : List (List DV)) (ids : List Nat) (m : Nat → Nat → List Nat) (h : (H.at id).rows = some (sz, rows)) (hl : row + len ≤ rows.length)
      (hl' : rows'.length = len) (hr : ∀ (i : Nat) (r : List AV) (r' : List DV), rows[row + i]? = some r → rows'[i]? = some r' → r'.length = r.length)
      (hm : ∀ i j, ∀ k ∈ m i j, k ∈ ids)
      (hc : ∀ (i : Nat) (r : List AV) (r' : List DV) (j : Nat) (x : AV) (x' : DV), rows[row + i]? = some r → rows'[i]? = some r' → r[j]? = some x → r'[j]? = some x' → View H x (.d x') (m i j)) :
      View H (.ref id sz row len room) (.d (.list rows' false)) (id :: ids)
  | dptr (cs : List DV) (j : Nat) : View H (.dptr cs j) (.dptr cs j) []
  | ptr (id sz row j : Nat) (ds : List DV) (h : (H.at id).drow sz row = some ds) : View H (.ptr id sz row j) (.dptr ds j) [id]
  | agg (cs cs' : List AV) (ids : List (List Nat)) (hl : cs'.length = cs.length) (hi : ids.length = cs.length)
      (h : ∀ (i : Nat) (x x' : AV) (l : List Nat), cs[i]? = some x → cs'[i]? = some x' → ids[i]? = some l → View H x x' l) : View H (.agg cs) (.agg cs') ids.flatten

/-- A result as data. -/
inductive Frz (H : Heap) : AV → AV → Prop
  | undef (x : AV) : Frz H x .undef
  | d (x : DV) : Frz H (.d x) (.d x)
  | less (rows : List (List DV)) (full : Bool) : Frz H (.d (.list rows full)) (.d (.list rows false))
  | ref (id sz row len : Nat) (room : Bool) (rows : List (List DV)) (h : H.at id = .dvec sz rows) (hl : row + len ≤ rows.length) :
      Frz H (.ref id sz row len room) (.d (.list ((rows.drop row).take len) false))
  | deep (id sz row len : Nat) (room : Bool) (rows : List (List AV)) (rows' : List (List DV)) (h : (H.at id).rows = some (sz, rows)) (hl : row + len ≤ rows.length)
      (hl' : rows'.length = len) (hr : ∀ r ∈ rows', r.length = sz)
      (hc : ∀ (i : Nat) (r : List AV) (r' : List DV) (j : Nat) (x : AV) (x' : DV), rows[row + i]? = some r → rows'[i]? = some r' → r[j]? = some x → r'[j]? = some x' → Frz H x (.d x')) :
      Frz H (.ref id sz row len room) (.d (.list rows' false))
  | dptr (cs : List DV) (j : Nat) : Frz H (.dptr cs j) (.dptr cs j)
  | ptr (id sz row j : Nat) (ds : List DV) (h : (H.at id).drow sz row = some ds) : Frz H (.ptr id sz row j) (.dptr ds j)
  | agg (cs cs' : List AV) (hl : cs'.length = cs.length) (h : ∀ (i : Nat) (x x' : AV), cs[i]? = some x → cs'[i]? = some x' → Frz H x x') : Frz H (.agg cs) (.agg cs')
  | tup (cs cs' : List AV) (hl : cs'.length = cs.length) (h : ∀ (i : Nat) (x x' : AV), cs[i]? = some x → cs'[i]? = some x' → Frz H x x') : Frz H (.tup cs) (.tup cs')

/-- Lists in it come out of the call's own rows alone. -/
inductive Fresh (H : Heap) : AV → Prop
  | d (x : DV) (h : x.scal = true) : Fresh H (.d x)
  | undef : Fresh H .undef
  | ref (id sz row len : Nat) (room : Bool) (rows : List (List DV)) (h : H.at id = .dvec sz rows) (hs : ∀ r ∈ rows, ∀ x ∈ r, x.scal = true) : Fresh H (.ref id sz row len room)
  | agg (cs : List AV) (h : ∀ x ∈ cs, Fresh H x) : Fresh H (.agg cs)
  | tup (cs : List AV) (h : ∀ x ∈ cs, Fresh H x) : Fresh H (.tup cs)

end Go.Ago

/- What an operation asks and answers ('actK'), regions ('RG'), and what a call may come to. Conditions: none. -/
set_option linter.unusedSimpArgs false
set_option linter.unusedVariables false
namespace Go.Ago

def Enters (P : Program) (f : FuncId) : Prop := ∃ fn, P.funcs[f]? = some fn ∧ (fn.name == "runtime.NumGoroutine") = false ∧ fn.body.isNone = false

/-- A call of abstract values, over a heap: it returns, and its result and the heap then are among 'Post'. -/
def ACalls (P : Program) (f : FuncId) (args : List AV) (H : Heap) (Post : AV → Heap → Prop) : Prop :=
  Enters P f ∧ ∀ (A : Nat → Prop) (φ : Nat → Option (Nat × Nat)) (w : World) (vals : Array Value), SimH P A φ H w → vals.size = args.length →
    (∀ (i : Nat) (x : AV) (v : Value), args[i]? = some x → vals[i]? = some v → Rel φ (Mb A φ H) w x v) →
    Calls P f vals w fun e w' => ∃ v r H' φ', e = .returned v ∧ Post r H' ∧ SimH P A φ' H' w' ∧ Rel φ' (Mb A φ' H') w' r v ∧ Ext H.length φ H w φ' H' w'

theorem ACalls.mono {P : Program} {f : FuncId} {args : List AV} {H : Heap} {Post Post' : AV → Heap → Prop} (h : ACalls P f args H Post) (hp : ∀ r H', Post r H' → Post' r H') :
    ACalls P f args H Post' :=
  ⟨h.1, fun A φ w vals hs hz hr => (h.2 A φ w vals hs hz hr).mono fun e w' ⟨v, r, H', φ', h1, h2, h3⟩ => ⟨v, r, H', φ', h1, hp _ _ h2, h3⟩⟩

/-- Rows that the call made. -/
def IsRows (H : Heap) (r : AV) (sz : Nat) (rows : List (List DV)) : Prop :=
  (∃ id room, r = .ref id sz 0 rows.length room ∧ H.at id = .dvec sz rows) ∨ (rows = [] ∧ r = .d (.list [] true))

/-- Arguments as data. -/
def Views (H : Heap) (args args' : List AV) (ids : List Nat) : Prop :=
  ∃ l : List (List Nat), args'.length = args.length ∧ l.length = args.length ∧ ids = l.flatten ∧
    ∀ (i : Nat) (x x' : AV) (m : List Nat), args[i]? = some x → args'[i]? = some x' → l[i]? = some m → View H x x' m

def callData (P : Program) (H : Heap) (f : FuncId) (args : List AV) (k : Delta → Prop) : Prop :=
  ∃ args' ids x, Views H args args' ids ∧ Plain x ∧ ((ACalls P f args' [] (fun r H' => Frz H' r x ∧ (ids = [] ∨ Fresh H' r)) ∧ k ⟨x, [], ids⟩) ∨ (ACalls P f args' [] (fun r H' => Frz H' r x) ∧ k ⟨x, ids.map (fun i => (i, HO.dead)), []⟩))

def callImp (P : Program) (H : Heap) (new : Nat) (f : FuncId) (args : List AV) (k : Delta → Prop) : Prop :=
  ∃ args' ids sz rows, Views H args args' ids ∧ (∀ r ∈ rows, r.length = sz) ∧ (ids = [] ∨ ∀ r ∈ rows, ∀ x ∈ r, DV.scal x = true) ∧
    ACalls P f args' [] (fun r H' => IsRows H' r sz rows) ∧ k ⟨.ref new sz 0 rows.length true, [(new, .dvec sz rows)], ids⟩

def two (n i1 i2 : Nat) (i : Nat) : Nat := match i with | 0 => i1 | 1 => i2 | k + 2 => n + k
/-- A call that takes rows of ours over, beside others that it reads, and gives new ones. -/
def callTake (P : Program) (H : Heap) (new : Nat) (f : FuncId) (args : List AV) (k : Delta → Prop) : Prop :=
  ∃ (i1 i2 : Nat) (a' : List AV) (sz : Nat) (rows rows2 rows' : List (List DV)), i1 ≠ i2 ∧ (∀ n, args = a'.map (AV.ren (two n i1 i2))) ∧ H.at i1 = .dvec sz rows ∧ H.at i2 = .dvec sz rows2 ∧
    ACalls P f a' [.dvec sz rows, .dvec sz rows2] (fun r H1 => r = .ref 2 sz 0 rows'.length true ∧ H1 = [.dead, .dvec sz rows2, .dvec sz rows']) ∧ k ⟨.ref new sz 0 rows'.length true, [(i1, .dead), (new, .dvec sz rows')], [i2]⟩

def one (n i1 : Nat) (i : Nat) : Nat := match i with | 0 => i1 | k + 1 => n + k
/-- A call that is handed rows of ours, leaves them, and gives data. -/
def callKeep (P : Program) (H : Heap) (f : FuncId) (args : List AV) (k : Delta → Prop) : Prop :=
  ∃ (i1 : Nat) (a' : List AV) (sz : Nat) (rows : List (List DV)) (x : AV), (∀ n, args = a'.map (AV.ren (one n i1))) ∧ H.at i1 = .dvec sz rows ∧ (∀ ρ : Nat → Nat, x.ren ρ = x) ∧ ACalls P f a' [.dvec sz rows] (fun r H1 => r = x ∧ H1 = [.dvec sz rows]) ∧ k ⟨x, [], [i1]⟩

def fnOf : AV → Option (FuncId × List AV)
  | .d (.fn f) => some (f, [])
  | .clo f caps => some (f, caps)
  | _ => none

def actLoad (H : Heap) (agg : Bool) (sz : Nat) (a : AV) (k : Delta → Prop) : Prop :=
  match a with
  | .ptr id sz0 row j => ∃ r, (H.at id).row sz0 row = some r ∧ ∃ x, loadRow agg sz j r = some x ∧ k ⟨x, [], [id]⟩
  | .dptr cs j => ∃ x, loadRowD agg sz j cs = some x ∧ k ⟨x, [], []⟩
  | _ => False

def actStore (H : Heap) (sz : Nat) (a x : AV) (k : Delta → Prop) : Prop :=
  match a with
  | .ptr id sz0 row j => ∃ cs, x.cellsOf = some cs ∧ cs.length = sz ∧ (∃ r, (H.at id).row sz0 row = some r) ∧ ∃ o, (H.at id).put row j cs = some o ∧ k ⟨.tup [], [(id, o)], []⟩
  | _ => False

def actBin (op : BinOp) (x y : AV) (k : DV → Prop) : Prop :=
  match x, y with
  | .d (.int ka a), .d (.int kb b) => binI op ka a kb b k
  | _, _ => False

def actUn (op : UnOp) (x : AV) (k : DV → Prop) : Prop :=
  match op, x with
  | .neg, .d (.int ka a) => k (.int ka (ka.wrap (0 - a)))
  | .xor, .d (.int ka a) => k (.int ka (bits .xor ka (if ka.signed then -1 else ka.max) a))
  | .not, .d (.bool b) => k (.bool (!b))
  | _, _ => False

def actIdxAddr (sz : Nat) (x i : AV) (k : AV → Prop) : Prop :=
  match x, i with
  | .ref id sz0 row len _, .d (.int _ n) => sz0 = sz ∧ 0 ≤ n ∧ n < len ∧ k (.ptr id sz0 (row + n.toNat) 0)
  | .d (.list rows _), .d (.int _ n) => 0 ≤ n ∧ ∃ r, rows[n.toNat]? = some r ∧ r.length = sz ∧ k (.dptr r 0)
  | _, _ => False

def actIdxArr (agg : Bool) (len sz : Nat) (x i : AV) (k : AV → Prop) : Prop :=
  match x, i with
  | .agg cs, .d (.int _ n) => 0 ≤ n ∧ n < len ∧ ∃ v, loadRow agg sz (n.toNat * sz) cs = some v ∧ k v
  | _, _ => False

def actIdxArrAddr (len sz : Nat) (x i : AV) (k : AV → Prop) : Prop :=
  match x, i with
  | .ptr id sz0 row j, .d (.int _ n) => 0 ≤ n ∧ n < len ∧ k (.ptr id sz0 row (j + n.toNat * sz))
  | .dptr cs j, .d (.int _ n) => 0 ≤ n ∧ n < len ∧ k (.dptr cs (j + n.toNat * sz))
  | _, _ => False

def actSlice (sz : Nat) (e : Env) (x : AV) (lo hi mx : Option Opd) (k : AV → Prop) : Prop :=
  match x with
  | .ref id sz0 row len room => sz0 = sz ∧ ∃ l h m, intOr e lo 0 = some l ∧ intOr e hi len = some h ∧ intOr e mx h = some m ∧ 0 ≤ l ∧ l ≤ h ∧ h ≤ m ∧ m ≤ len ∧ (mx.isSome → hi.isSome) ∧
      k (.ref id sz0 (row + l.toNat) (h.toNat - l.toNat) (if mx.isSome then decide (m ≠ h) else (if h = len then room else true)))
  | .d (.list rows full) => (∀ r ∈ rows, r.length = sz) ∧ ∃ l h m, intOr e lo 0 = some l ∧ intOr e hi rows.length = some h ∧ intOr e mx h = some m ∧ 0 ≤ l ∧ l ≤ h ∧ h ≤ m ∧ m ≤ rows.length ∧ (mx.isSome → hi.isSome) ∧
      k (.d (.list ((rows.take h.toNat).drop l.toNat) (if mx.isSome then decide (m = h) else (full && decide (h = rows.length)))))
  | .rcap id sz0 row len cap => sz0 = sz ∧ mx = none ∧ ∃ l h, intOr e lo 0 = some l ∧ intOr e hi len = some h ∧ 0 ≤ l ∧ l ≤ h ∧ h ≤ cap ∧
      k (if lo.isSome = true ∨ (len : Int) < h then .ref id sz0 (row + l.toNat) (h.toNat - l.toNat) true else .rcap id sz0 row h.toNat cap)
  | _ => False

/-- The most rows that an append or a make may come to. -/
def roomy (n bytes : Nat) : Prop := n ≤ 2 ^ 47 ∧ n * bytes ≤ 2 ^ 47

/-- So many zeros behind a slice that has no room for them. -/
def actAppz (H : Heap) (new sz bytes : Nat) (zero : List AV) (x l : AV) (k : Delta → Prop) : Prop :=
  match x, l with
  | .rcap id sz0 row len cap, .d (.int _ n) => ∃ d i1, sz0 = sz ∧ Z40 H sz (.ref id sz0 row len true) = some (d, i1) ∧ 0 < n ∧ cap < len + n.toNat ∧ roomy (len + n.toNat) bytes ∧
      k ⟨.ref new sz 0 (len + n.toNat) true, [(new, joinV sz d (.rows (List.replicate n.toNat zero)))], i1⟩
  | _, _ => False

/-- Do a list that nobody changes and rows of ours lie in one place? -/
def actApart (H : Heap) (x y : AV) (k : Delta → Prop) : Prop :=
  match x, y with
  | .d (.list rows _), .ref id sz _ _ _ => 0 < sz ∧ (∀ r ∈ rows, 0 < r.length) ∧ (∃ r, (H.at id).rows = some r) ∧ k ⟨.d (.bool false), [], [id]⟩
  | .ref id1 sz1 _ _ _, .ref id sz _ _ _ => 0 < sz ∧ 0 < sz1 ∧ id1 ≠ id ∧ (∃ r, (H.at id1).rows = some r) ∧ (∃ r, (H.at id).rows = some r) ∧ k ⟨.d (.bool false), [], [id1, id]⟩
  | _, _ => False

def Src.leaf : Src → Bool
  | .rows l => l.all (·.all AV.leaf)
  | .drows _ => true
/-- .. of the first 'n' rows. -/
def Src.leafN (n : Nat) : Src → Bool
  | .rows l => (l.take n).all (·.all AV.leaf)
  | .drows _ => true

def actAppend (H : Heap) (new sz bytes : Nat) (x y : AV) (k : Delta → Prop) : Prop :=
  match x with
  | .ref id sz0 row len _ => ∃ d i1 s i2, sz0 = sz ∧ Z40 H sz x = some (d, i1) ∧ Z40 H sz y = some (s, i2) ∧ (∀ r ∈ s.all, r.length = sz) ∧ s.leaf = true ∧ roomy (d.len + s.len) bytes ∧
      k ⟨.ref new sz 0 (d.len + s.len) true, [(id, .dead), (new, joinV sz d s)], i2⟩
  | .d (.list rows true) => ∃ s i2, Z40 H sz y = some (s, i2) ∧ (∀ r ∈ rows, r.length = sz) ∧ (∀ r ∈ s.all, r.length = sz) ∧ s.leaf = true ∧ (rows = [] ∨ 0 < s.len) ∧ roomy (rows.length + s.len) bytes ∧
      k ⟨.ref new sz 0 (rows.length + s.len) true, [(new, joinV sz (.drows rows) s)], i2⟩
  | .rcap id sz0 row len cap => ∃ d i1 s i2, sz0 = sz ∧ Z40 H sz (.ref id sz0 row len true) = some (d, i1) ∧ Z40 H sz y = some (s, i2) ∧ (∀ r ∈ s.all, r.length = sz) ∧ cap < d.len + s.len ∧ roomy (d.len + s.len) bytes ∧
      k ⟨.ref new sz 0 (d.len + s.len) true, [(new, joinV sz d s)], i1 ++ i2⟩
  | _ => False

def actCopy (H : Heap) (sz : Nat) (x y : AV) (k : Delta → Prop) : Prop :=
  match x with
  | .ref id sz0 row len _ => ∃ s i2 o, Z40 H sz y = some (s, i2) ∧ (∀ r ∈ s.all, r.length = sz) ∧ s.leafN (min len s.len) = true ∧ (∃ d i1, Z40 H sz x = some (d, i1)) ∧ (H.at id).splice row s (min len s.len) = some o ∧
      k ⟨.d (.int .i64 (min len s.len : Nat)), [(id, o)], i2⟩
  | _ => False

def actLen (x : AV) (k : DV → Prop) : Prop :=
  match x with
  | .ref _ _ _ len _ => k (.int .i64 len)
  | .d (.list rows _) => k (.int .i64 rows.length)
  | .rcap _ _ _ len _ => k (.int .i64 len)
  | _ => False

def actMk (sz bytes : Nat) (zero : List AV) (l c : AV) (k : Nat → Prop) : Prop :=
  match l, c with
  | .d (.int _ n), .d (.int _ m) => 0 ≤ n ∧ n ≤ m ∧ roomy m.toNat bytes ∧ k n.toNat
  | _, _ => False

def actInt2 (x y : AV) (k : IntKind → Int → Int → Prop) : Prop :=
  match x, y with
  | .d (.int ka a), .d (.int _ b) => k ka a b
  | _, _ => False

def max2I (a b : Int) : Int := if b > a then b else a
def actInt3 (x y z : AV) (k : IntKind → Int → Int → Int → Prop) : Prop :=
  match x, y, z with
  | .d (.int ka a), .d (.int _ b), .d (.int _ c) => k ka a b c
  | _, _, _ => False

def val (k : Delta → Prop) (x : AV) : Prop := k ⟨x, [], []⟩

/-! ### Maps of whole numbers -/
def mGet (es : List (Int × Int)) (a : Int) : Option Int := (es.find? fun p => decide (p.1 = a)).map (·.2)
def mPut (es : List (Int × Int)) (a b : Int) : List (Int × Int) :=
  match es.findIdx? fun p => decide (p.1 = a) with
  | some i => es.set i (a, b)
  | none => es ++ [(a, b)]
def mVal (ok : Bool) (x : Option Int) : AV := if ok then .tup [.d (.int .i64 (x.getD 0)), .d (.bool x.isSome)] else .d (.int .i64 (x.getD 0))

def actK (P : Program) (base : Nat) (e : Env) (H : Heap) (o : LOp) (k : Delta → Prop) : Prop :=
  match o with
  | .mv x => val k (x.ev e)
  | .pick c a b => ∃ t, c.ev e = .d (.bool t) ∧ val k (pickV t (a.ev e) (b.ev e))
  | .alloc c sz zero => k ⟨.ptr (base + c) sz 0 0, [(base + c, .vec sz [zero])], []⟩
  | .box c x => ∃ cs, (x.ev e).cellsOf = some cs ∧ k ⟨.ptr (base + c) cs.length 0 0, [(base + c, .vec cs.length [cs])], []⟩
  | .build zero parts => ∃ cs, buildA zero (parts.map fun p => (p.1, p.2.1, p.2.2.ev e)) = some cs ∧ val k (.agg cs)
  | .bslice c sz len zero parts => ∃ rows, buildR sz (List.replicate len zero) (parts.map fun p => (p.1, p.2.ev e)) = some rows ∧
      k ⟨.ref (base + c) sz 0 len true, [(base + c, mkVec sz rows)], []⟩
  | .load agg sz a => actLoad H agg sz (a.ev e) k
  | .store sz a x => actStore H sz (a.ev e) (x.ev e) k
  | .nilchk x => (match x.ev e with | .ptr .. | .dptr .. | .clo .. | .d (.fn _) => True | _ => False) ∧ val k (x.ev e)
  | .bin op x y => actBin op (x.ev e) (y.ev e) fun v => val k (.d v)
  | .eq neg pl x y => ∃ b, eqV pl (x.ev e) (y.ev e) = some b ∧ val k (.d (.bool (if neg then !b else b)))
  | .un op x => actUn op (x.ev e) fun v => val k (.d v)
  | .conv kd x => ∃ n, Z43 e x = some n ∧ val k (.d (.int kd (kd.wrap n)))
  | .fl f x y => ∃ v, fltV f (x.ev e) (y.ev e) = some v ∧ val k (.d v)
  | .fieldAddr off x => (match x.ev e with | .ptr id sz row j => val k (.ptr id sz row (j + off)) | .dptr cs j => val k (.dptr cs (j + off)) | _ => False)
  | .field agg off sz x => (match x.ev e with | .agg cs => ∃ v, loadRow agg sz off cs = some v ∧ val k v | _ => False)
  | .idxAddr sz x i => actIdxAddr sz (x.ev e) (i.ev e) (val k)
  | .idxArrAddr len sz x i => actIdxArrAddr len sz (x.ev e) (i.ev e) (val k)
  | .idxArr agg len sz x i => actIdxArr agg len sz (x.ev e) (i.ev e) (val k)
  | .mkslice c sz bytes zero l m => actMk sz bytes zero (l.ev e) (m.ev e) fun n => k ⟨.ref (base + c) sz 0 n true, [(base + c, mkVec sz (List.replicate n zero))], []⟩
  | .slice sz x lo hi mx => actSlice sz e (x.ev e) lo hi mx (val k)
  | .extract i x => (match x.ev e with | .tup vs => ∃ v, vs[i]? = some v ∧ val k v | _ => False)
  | .mkfn f caps => val k (match caps with | [] => .d (.fn f) | _ => .clo f (caps.map (·.ev e)))
  | .call c imp f args => ∃ g caps, fnOf (f.ev e) = some (g, caps) ∧ (callData P H g (args.map (·.ev e) ++ caps) k ∨ imp = true ∧ callImp P H (base + c) g (args.map (·.ev e) ++ caps) k ∨ imp = true ∧ callTake P H (base + c) g (args.map (·.ev e) ++ caps) k ∨ callKeep P H g (args.map (·.ev e) ++ caps) k)
  | .append c sz bytes x y => actAppend H (base + c) sz bytes (x.ev e) (y.ev e) k
  | .copy sz x y => actCopy H sz (x.ev e) (y.ev e) k
  | .len x => actLen (x.ev e) fun v => val k (.d v)
  | .apart x y => actApart H (x.ev e) (y.ev e) k
  | .mapNew c => k ⟨.mapr (base + c), [(base + c, .mapo [])], []⟩
  | .mapSet m a x => ∃ id es a' b', m.ev e = .mapr id ∧ H.at id = .mapo es ∧ a.ev e = .d (.int .i64 a') ∧ x.ev e = .d (.int .i64 b') ∧ k ⟨.tup [], [(id, .mapo (mPut es a' b'))], []⟩
  | .mapGet ok m a => ∃ id es a', m.ev e = .mapr id ∧ H.at id = .mapo es ∧ a.ev e = .d (.int .i64 a') ∧ k ⟨mVal ok (mGet es a'), [], [id]⟩
  | .mapRange c m => ∃ id es, m.ev e = .mapr id ∧ H.at id = .mapo es ∧ k ⟨.ptr (base + c) 1 0 0, [(base + c, .iter id es.length [])], [id]⟩
  | .mapEntry it => ∃ id m es seen i p, it.ev e = .ptr id 1 0 0 ∧ H.at id = .iter m es.length (seen ++ [i]) ∧ H.at m = .mapo es ∧ es[i]? = some p ∧ k ⟨.tup [.d (.int .i64 p.1), .d (.int .i64 p.2)], [], [id, m]⟩
  | .appz c sz bytes zero x l => actAppz H (base + c) sz bytes zero (x.ev e) (l.ev e) k
  | .maxi x y => actInt2 (x.ev e) (y.ev e) fun kd a b => val k (.d (.int kd (if b > a then b else a)))
  | .mini x y => actInt2 (x.ev e) (y.ev e) fun kd a b => val k (.d (.int kd (if b < a then b else a)))
  | .max3 x y z => actInt3 (x.ev e) (y.ev e) (z.ev e) fun kd a b c => val k (.d (.int kd (max2I (max2I a b) c)))

def State.app (S : State) (dst : Option Nat) (δ : Delta) : State :=
  { env := S.env.put dst δ.val, heap := δ.ups.foldl (fun H p => H.set p.1 p.2) S.heap }

structure LOper where
  dst : Option Nat
  op : LOp
  guard : Option (Nat × Bool)
  deriving Inhabited

/-- What operations of a region touched: for each what it read, what it changed. -/
abbrev Feet := List (List Nat × List Nat)

def Z3u (a b : List Nat × List Nat) : Bool := a.2.all (fun i => !b.1.contains i && !b.2.contains i) && b.2.all (fun i => !a.1.contains i)

def chk (pairs : List (Nat × Nat)) (f : Feet) : Bool := pairs.all fun p => Z3u (f.getD p.1 ([], [])) (f.getD p.2 ([], []))

def RG (P : Program) (draw : Bool) (base : Nat) (pairs : List (Nat × Nat)) (K : State → Prop) : List LOper → State → Feet → Prop
  | [], S, acc => chk pairs acc.reverse = true ∧ K S
  | o :: os, S, acc =>
    let go : Prop :=
      (actK P base S.env S.heap o.op fun δ => RG P draw base pairs K os (S.app o.dst δ) ((δ.rd, δ.ups.map (·.1)) :: acc)) ∨
      (draw = false ∧ ∃ c imp f args g caps, o.op = .call c imp f args ∧ fnOf (f.ev S.env) = some (g, caps) ∧
        ACalls P g (args.map (·.ev S.env) ++ caps) S.heap fun r H' => S.heap.length ≤ H'.length ∧ RG P draw base pairs K os ({ S with heap := H' }.app o.dst ⟨r, [], []⟩) (([], []) :: acc))
    let skip : Prop := RG P draw base pairs K os (S.app o.dst ⟨.tup [], [], []⟩) (([], []) :: acc)
    match o.guard with
    | none => go
    | some (g, want) =>
      match S.env.get g with
      | .d (.bool b) => (b = want → go) ∧ (b ≠ want → skip)
      | .tup [] => skip
      | _ => False

/-! ### Each operation is decided: what is asked holds of one answer -/
theorem actK_ex {P : Program} {base : Nat} {e : Env} {H : Heap} {o : LOp} {k : Delta → Prop} (h : actK P base e H o k) : ∃ δ, actK P base e H o (· = δ) ∧ k δ := by
  cases o with
  | mv x => exact ⟨_, rfl, h⟩
  | pick c a b => obtain ⟨t, h1, h2⟩ := h; exact ⟨_, ⟨t, h1, rfl⟩, h2⟩
  | alloc c sz zero => exact ⟨_, rfl, h⟩
  | box c x => obtain ⟨cs, h1, h2⟩ := h; exact ⟨_, ⟨cs, h1, rfl⟩, h2⟩
  | build zero parts => obtain ⟨cs, h1, h2⟩ := h; exact ⟨_, ⟨cs, h1, rfl⟩, h2⟩
  | bslice c sz len zero parts => obtain ⟨cs, h1, h2⟩ := h; exact ⟨_, ⟨cs, h1, rfl⟩, h2⟩
  | load agg sz a =>
    simp only [actK, actLoad] at h ⊢
    split at h
    · obtain ⟨r, h1, x, h2, h3⟩ := h; exact ⟨_, ⟨r, h1, x, h2, rfl⟩, h3⟩
    · obtain ⟨x, h2, h3⟩ := h; exact ⟨_, ⟨x, h2, rfl⟩, h3⟩
    · exact h.elim
  | store sz a x =>
    simp only [actK, actStore] at h ⊢
    split at h
    · obtain ⟨cs, h1, h2, h3, o, h4, h5⟩ := h; exact ⟨_, ⟨cs, h1, h2, h3, o, h4, rfl⟩, h5⟩
    · exact h.elim
  | nilchk x => exact ⟨_, ⟨h.1, rfl⟩, h.2⟩
  | bin op x y =>
    simp only [actK, actBin] at h ⊢
    split at h
    · cases op <;> simp only [binI] at h ⊢ <;> (try obtain ⟨h0, h1, h2⟩ := h) <;> (try obtain ⟨h0, h2⟩ := h) <;>
        first | exact ⟨_, ⟨h0, h1, rfl⟩, h2⟩ | exact ⟨_, ⟨h0, rfl⟩, h2⟩
    · exact h.elim
  | eq neg pl x y => obtain ⟨b, h1, h2⟩ := h; exact ⟨_, ⟨b, h1, rfl⟩, h2⟩
  | un op x =>
    simp only [actK, actUn] at h ⊢
    split at h <;> first | exact ⟨_, rfl, h⟩ | exact h.elim
  | conv kd x => obtain ⟨b, h1, h2⟩ := h; exact ⟨_, ⟨b, h1, rfl⟩, h2⟩
  | fl f x y => obtain ⟨b, h1, h2⟩ := h; exact ⟨_, ⟨b, h1, rfl⟩, h2⟩
  | fieldAddr off x =>
    simp only [actK] at h ⊢
    split at h <;> first | exact ⟨_, rfl, h⟩ | exact h.elim
  | field agg off sz x =>
    simp only [actK] at h ⊢
    split at h
    · obtain ⟨b, h1, h2⟩ := h; exact ⟨_, ⟨b, h1, rfl⟩, h2⟩
    · exact h.elim
  | idxAddr sz x i =>
    simp only [actK, actIdxAddr] at h ⊢
    split at h
    · obtain ⟨h1, h2, h3, h4⟩ := h; exact ⟨_, ⟨h1, h2, h3, rfl⟩, h4⟩
    · obtain ⟨h1, r, h2, h3, h4⟩ := h; exact ⟨_, ⟨h1, r, h2, h3, rfl⟩, h4⟩
    · exact h.elim
  | idxArrAddr len sz x i =>
    simp only [actK, actIdxArrAddr] at h ⊢
    split at h
    · obtain ⟨h1, h2, h4⟩ := h; exact ⟨_, ⟨h1, h2, rfl⟩, h4⟩
    · obtain ⟨h1, h2, h4⟩ := h; exact ⟨_, ⟨h1, h2, rfl⟩, h4⟩
    · exact h.elim
  | idxArr agg len sz x i =>
    simp only [actK, actIdxArr] at h ⊢
    split at h
    · obtain ⟨h1, h2, v, h3, h4⟩ := h; exact ⟨_, ⟨h1, h2, v, h3, rfl⟩, h4⟩
    · exact h.elim
  | mkslice c sz bytes zero l m =>
    simp only [actK, actMk] at h ⊢
    split at h
    · obtain ⟨h1, h2, h3, h4⟩ := h; exact ⟨_, ⟨h1, h2, h3, rfl⟩, h4⟩
    · exact h.elim
  | slice sz x lo hi mx =>
    simp only [actK, actSlice] at h ⊢
    split at h
    · obtain ⟨h0, l, hh, m, h1, h2, h3, h4, h5, h6, h7, h8, h9⟩ := h; exact ⟨_, ⟨h0, l, hh, m, h1, h2, h3, h4, h5, h6, h7, h8, rfl⟩, h9⟩
    · obtain ⟨h0, l, hh, m, h1, h2, h3, h4, h5, h6, h7, h8, h9⟩ := h; exact ⟨_, ⟨h0, l, hh, m, h1, h2, h3, h4, h5, h6, h7, h8, rfl⟩, h9⟩
    · obtain ⟨h0, hm, l, hh, h1, h2, h3, h4, h5, h6⟩ := h; exact ⟨_, ⟨h0, hm, l, hh, h1, h2, h3, h4, h5, rfl⟩, h6⟩
    · exact h.elim
  | extract i x =>
    simp only [actK] at h ⊢
    split at h
    · obtain ⟨b, h1, h2⟩ := h; exact ⟨_, ⟨b, h1, rfl⟩, h2⟩
    · exact h.elim
  | mkfn f caps => exact ⟨_, rfl, h⟩
  | call c imp f args =>
    obtain ⟨g, caps, h0, h | ⟨hi, h⟩ | ⟨hi, h⟩ | h⟩ := h
    · obtain ⟨args', ids, x, h1, h2, ⟨h3, h4⟩ | ⟨h3, h4⟩⟩ := h
      · exact ⟨_, ⟨g, caps, h0, .inl ⟨args', ids, x, h1, h2, .inl ⟨h3, rfl⟩⟩⟩, h4⟩
      · exact ⟨_, ⟨g, caps, h0, .inl ⟨args', ids, x, h1, h2, .inr ⟨h3, rfl⟩⟩⟩, h4⟩
    · obtain ⟨args', ids, sz, rows, h1, h2, h3, h4, h5⟩ := h
      exact ⟨_, ⟨g, caps, h0, .inr (.inl ⟨hi, args', ids, sz, rows, h1, h2, h3, h4, rfl⟩)⟩, h5⟩
    · obtain ⟨i1, i2, a', sz, rows, rows2, rows', h1, h2, h3, h4, h5, h6⟩ := h
      exact ⟨_, ⟨g, caps, h0, .inr (.inr (.inl ⟨hi, i1, i2, a', sz, rows, rows2, rows', h1, h2, h3, h4, h5, rfl⟩))⟩, h6⟩
    · obtain ⟨i1, a', sz, rows, x, h1, h2, h3, h4, h5⟩ := h
      exact ⟨_, ⟨g, caps, h0, .inr (.inr (.inr ⟨i1, a', sz, rows, x, h1, h2, h3, h4, rfl⟩))⟩, h5⟩
  | append c sz bytes x y =>
    simp only [actK, actAppend] at h ⊢
    split at h
    · obtain ⟨d, i1, s, i2, h0, h1, h2, h3, h3', h4, h5⟩ := h; exact ⟨_, ⟨d, i1, s, i2, h0, h1, h2, h3, h3', h4, rfl⟩, h5⟩
    · obtain ⟨s, i2, h1, h2, h3, h3', h4, h5, h6⟩ := h; exact ⟨_, ⟨s, i2, h1, h2, h3, h3', h4, h5, rfl⟩, h6⟩
    · obtain ⟨d, i1, s, i2, h0, h1, h2, h3, h3', h4, h5⟩ := h; exact ⟨_, ⟨d, i1, s, i2, h0, h1, h2, h3, h3', h4, rfl⟩, h5⟩
    · exact h.elim
  | copy sz x y =>
    simp only [actK, actCopy] at h ⊢
    split at h
    · obtain ⟨s, i2, o, h1, h1', h1'', h2, h3, h4⟩ := h; exact ⟨_, ⟨s, i2, o, h1, h1', h1'', h2, h3, rfl⟩, h4⟩
    · exact h.elim
  | appz c sz bytes zero x l =>
    simp only [actK, actAppz] at h ⊢
    split at h
    · obtain ⟨d, i1, h0, h1, h2, h3, h4, h5⟩ := h; exact ⟨_, ⟨d, i1, h0, h1, h2, h3, h4, rfl⟩, h5⟩
    · exact h.elim
  | mapNew c => exact ⟨_, rfl, h⟩
  | mapSet m a x => obtain ⟨id, es, a', b', h1, h2, h3, h4, h5⟩ := h; exact ⟨_, ⟨id, es, a', b', h1, h2, h3, h4, rfl⟩, h5⟩
  | mapGet ok m a => obtain ⟨id, es, a', h1, h2, h3, h5⟩ := h; exact ⟨_, ⟨id, es, a', h1, h2, h3, rfl⟩, h5⟩
  | mapRange c m => obtain ⟨id, es, h1, h2, h5⟩ := h; exact ⟨_, ⟨id, es, h1, h2, rfl⟩, h5⟩
  | mapEntry it => obtain ⟨id, m, es, seen, i, p, h1, h2, h3, h4, h5⟩ := h; exact ⟨_, ⟨id, m, es, seen, i, p, h1, h2, h3, h4, rfl⟩, h5⟩
  | apart x y =>
    simp only [actK, actApart] at h ⊢
    split at h
    · obtain ⟨h1, h2, h3, h4⟩ := h; exact ⟨_, ⟨h1, h2, h3, rfl⟩, h4⟩
    · obtain ⟨h1, h2, h3, h4, h5, h6⟩ := h; exact ⟨_, ⟨h1, h2, h3, h4, h5, rfl⟩, h6⟩
    · exact h.elim
  | len x =>
    simp only [actK, actLen] at h ⊢
    split at h <;> first | exact ⟨_, rfl, h⟩ | exact h.elim
  | maxi x y =>
    simp only [actK, actInt2] at h ⊢
    split at h <;> first | exact ⟨_, rfl, h⟩ | exact h.elim
  | mini x y =>
    simp only [actK, actInt2] at h ⊢
    split at h <;> first | exact ⟨_, rfl, h⟩ | exact h.elim
  | max3 x y z =>
    simp only [actK, actInt3] at h ⊢
    split at h <;> first | exact ⟨_, rfl, h⟩ | exact h.elim

end Go.Ago

/- How the relation of heaps goes on: a new object, one given up, one changed. Conditions: none. -/
set_option linter.unusedSimpArgs false
set_option linter.unusedVariables false
namespace Go.Ago

theorem Heap.at_set {H : Heap} {i j : Nat} {o : HO} (hi : i < H.length) : Heap.at (H.set i o) j = if i = j then o else H.at j := by
  unfold Heap.at
  simp only [List.getD_eq_getElem?_getD, List.getElem?_set]
  by_cases h : i = j
  · subst h; simp [hi]
  · simp [h]

theorem HO.alive_of {o : HO} (h : ∃ sz rows, o.rows = some (sz, rows)) : o.alive := by
  obtain ⟨sz, rows, h⟩ := h
  cases o <;> first | trivial | cases h

/-- From 'φ', 'H', 'w' on: all that was related stays so. -/
structure Onward (A : Nat → Prop) (φ : Nat → Option (Nat × Nat)) (H : Heap) (w : World) (φ' : Nat → Option (Nat × Nat)) (H' : Heap) (w' : World) : Prop where
  ids : ∀ i p, φ i = some p → φ' i = some p
  pres : Pres (own φ H) w w'
  mono : ∀ b, own φ' H' b → own φ H b ∨ w.heap.size ≤ b

theorem Onward.rel {A : Nat → Prop} {φ φ' : Nat → Option (Nat × Nat)} {H H' : Heap} {w w' : World} (h : Onward A φ H w φ' H' w') {x : AV} {v : Value} (hr : Rel φ (Mb A φ H) w x v) :
    Rel φ' (Mb A φ' H') w' x v := by
  refine hr.mono (fun i b hb => h.ids i b hb) ⟨h.pres.size, fun b hb hM => h.pres.same b hb (fun ho => hM (.inr ho)), h.pres.keep, h.pres.os, h.pres.fz⟩ (fun b hb => ?_)
  rcases hb with hA | ho
  · exact .inl (.inl hA)
  · rcases h.mono b ho with h1 | h1
    · exact .inl (.inr h1)
    · exact .inr h1

theorem Onward.tab {P : Program} {A : Nat → Prop} {φ φ' : Nat → Option (Nat × Nat)} {H H' : Heap} {w w' : World} (h : Onward A φ H w φ' H' w') (ht : TabIn P (Mb A φ H) w) : TabIn P (Mb A φ' H') w' :=
  ht.mono h.pres (fun b hb => .inr hb) (fun b hb => by
    rcases hb with hA | ho
    · exact .inl (.inl hA)
    · rcases h.mono b ho with h1 | h1
      · exact .inl (.inr h1)
      · exact .inr h1)

theorem Pres.alloc (M : Nat → Prop) (w : World) (d : Array Value) (U : TypeId) : Pres M w (w.alloc (.cells d U)) := by
  refine ⟨by simp, fun b hb _ => ?_, fun b c T hc => ⟨c, ?_, rfl⟩, ⟨rfl, rfl, rfl, Nat.le_refl _⟩, fun a _ => Go.RowKit.frozen?_alloc_cells _ _ _ _⟩
  · simp only [World.alloc]; rw [Array.getElem?_push_lt hb]; exact (Array.getElem?_eq_getElem hb).symm
  · have hb : b < w.heap.size := by
      rcases Nat.lt_or_ge b w.heap.size with h | h
      · exact h
      · simp [Array.getElem?_eq_none h] at hc
    simp only [World.alloc]; rw [Array.getElem?_push_lt hb, ← Array.getElem?_eq_getElem hb]; exact hc

theorem alloc_at (w : World) (o : Obj) : (w.alloc o).heap[w.heap.size]? = some o := by unfold World.alloc; simp

/-- A new object in a new block. -/
theorem SimH.new {P : Program} {A : Nat → Prop} {φ : Nat → Option (Nat × Nat)} {H : Heap} {w : World} (h : SimH P A φ H w) {i : Nat} (hi : i < H.length) (hφ : φ i = none) {o : HO} {sz : Nat}
    {rows : List (List AV)} (ho : o.rows = some (sz, rows)) {c : Array Value} {T : TypeId} (hsz : rows.length * sz ≤ c.size) (hrow : ∀ r ∈ rows, r.length = sz)
    (hc : ∀ (k : Nat) (r : List AV) (j : Nat) (x : AV), rows[k]? = some r → r[j]? = some x → ∃ v, c[k * sz + j]? = some v ∧ Rel φ (Mb A φ H) w x v) :
    SimH P A (fun j => if j = i then some (w.heap.size, 0) else φ j) (H.set i o) (w.alloc (.cells c T)) ∧
      Onward A φ H w (fun j => if j = i then some (w.heap.size, 0) else φ j) (H.set i o) (w.alloc (.cells c T)) := by
  have hmono : ∀ b, own (fun j => if j = i then some (w.heap.size, 0) else φ j) (H.set i o) b → own φ H b ∨ w.heap.size ≤ b := by
    intro b ⟨j, o', hal, hb⟩
    by_cases hj : j = i
    · simp only [hj, if_true, Option.some.injEq, Prod.mk.injEq] at hb
      exact .inr (by omega)
    · simp only [hj, if_false] at hb
      rw [Heap.at_set hi, if_neg (fun h => hj h.symm)] at hal
      exact .inl ⟨j, o', hal, hb⟩
  have hon : Onward A φ H w (fun j => if j = i then some (w.heap.size, 0) else φ j) (H.set i o) (w.alloc (.cells c T)) := by
    refine ⟨fun j p hp => ?_, Pres.alloc _ _ _ _, hmono⟩
    by_cases hj : j = i
    · subst hj; rw [hφ] at hp; cases hp
    · simp [hj, hp]
  refine ⟨⟨fun j b o' hb => ?_, fun j sz' rows' hr hne => ?_, fun j k b o1 o2 hj hk h1 h2 => ?_, fun b hA => ?_, fun b hA ho' => ?_, fun j b o' hal hb => ?_, hon.tab h.tab, fun j b o' hal hb => by
    rw [Heap.at_set hi] at hal ⊢
    by_cases hj : j = i
    · rw [if_pos hj.symm]; exact RelX.rows ho
    · rw [if_neg (fun h => hj h.symm)] at hal ⊢
      simp only [hj, if_false] at hb
      have hlt := (h.dom j b o' hb).2
      exact (h.objx j b o' hal hb).on hon.ids (by simp only [World.alloc]; rw [Array.getElem?_push_lt hlt, ← Array.getElem?_eq_getElem hlt])⟩, hon⟩
  · rw [List.length_set]
    by_cases hj : j = i
    · simp only [hj, if_true, Option.some.injEq, Prod.mk.injEq] at hb
      refine ⟨hj ▸ hi, ?_⟩
      simp; omega
    · simp only [hj, if_false] at hb
      have := h.dom j b o' hb
      exact ⟨this.1, by simp; omega⟩
  · by_cases hj : j = i
    · exact ⟨w.heap.size, 0, by simp [hj]⟩
    · rw [Heap.at_set hi, if_neg (fun h => hj h.symm)] at hr
      obtain ⟨b, o', hb⟩ := h.there j sz' rows' hr hne
      exact ⟨b, o', by simp [hj, hb]⟩
  · rw [Heap.at_set hi] at hj hk
    by_cases hji : j = i
    · by_cases hki : k = i
      · omega
      · simp only [hji, if_true, Option.some.injEq, Prod.mk.injEq] at h1
        simp only [hki, if_false] at h2
        have := (h.dom k b o2 h2).2
        omega
    · by_cases hki : k = i
      · simp only [hki, if_true, Option.some.injEq, Prod.mk.injEq] at h2
        simp only [hji, if_false] at h1
        have := (h.dom j b o1 h1).2
        omega
      · simp only [hji, if_false] at h1
        simp only [hki, if_false] at h2
        rw [if_neg (fun h => hji h.symm)] at hj
        rw [if_neg (fun h => hki h.symm)] at hk
        exact h.inj j k b o1 o2 hj hk h1 h2
  · have := h.amb b hA; simp; omega
  · rcases hmono b ho' with h1 | h1
    · exact h.apart b hA h1
    · have := h.amb b hA; omega
  · rw [Heap.at_set hi] at hal
    rw [Heap.at_set hi]
    by_cases hj : j = i
    · subst hj
      simp only [if_true, Option.some.injEq, Prod.mk.injEq] at hb
      obtain ⟨rfl, rfl⟩ := hb
      simp only [if_true]
      intro sz' rows' hr
      rw [ho] at hr
      simp only [Option.some.injEq, Prod.mk.injEq] at hr
      obtain ⟨rfl, rfl⟩ := hr
      refine ⟨c, T, alloc_at _ _, by omega, hrow, fun k r j x hk hx => ?_⟩
      obtain ⟨v, hv, hrel⟩ := hc k r j x hk hx
      exact ⟨v, by rw [Nat.zero_add]; exact hv, hon.rel hrel⟩
    · rw [if_neg (fun h => hj h.symm)] at hal ⊢
      simp only [hj, if_false] at hb
      intro sz' rows' hr
      obtain ⟨c1, T1, e1, e2, e3, e4⟩ := h.objs j b o' hal hb sz' rows' hr
      have hlt := (h.dom j b o' hb).2
      refine ⟨c1, T1, ?_, e2, e3, fun k r j x hk hx => ?_⟩
      · simp only [World.alloc]; rw [Array.getElem?_push_lt hlt, ← Array.getElem?_eq_getElem hlt]; exact e1
      · obtain ⟨v, hv, hrel⟩ := e4 k r j x hk hx
        exact ⟨v, hv, hon.rel hrel⟩

/-- An object that has no rows needs no block. -/
theorem SimH.void {P : Program} {A : Nat → Prop} {φ : Nat → Option (Nat × Nat)} {H : Heap} {w : World} (h : SimH P A φ H w) {i : Nat} (hi : i < H.length) (hφ : φ i = none) {o : HO} {sz : Nat}
    (ho : o.rows = some (sz, [])) : SimH P A φ (H.set i o) w ∧ Onward A φ H w φ (H.set i o) w := by
  have hmono : ∀ b, own φ (H.set i o) b → own φ H b := by
    intro b ⟨j, o', hal, hb⟩
    by_cases hj : j = i
    · rw [hj, hφ] at hb; cases hb
    · rw [Heap.at_set hi, if_neg (fun h => hj h.symm)] at hal
      exact ⟨j, o', hal, hb⟩
  have hne : ∀ j b o', φ j = some (b, o') → j ≠ i := fun j b o' hb hj => by rw [hj, hφ] at hb; cases hb
  have hon : Onward A φ H w φ (H.set i o) w := ⟨fun _ _ h => h, Pres.refl _ _, fun b hb => .inl (hmono b hb)⟩
  refine ⟨⟨fun j b o' hb => ?_, fun j sz' rows' hr hn => ?_, fun j k b o1 o2 hj hk h1 h2 => ?_, h.amb, fun b hA ho' => h.apart b hA (hmono b ho'), fun j b o' hal hb => ?_, hon.tab h.tab, fun j b o' hal hb => by
    rw [Heap.at_set hi, if_neg (fun e => hne j b o' hb e.symm)] at hal ⊢
    exact h.objx j b o' hal hb⟩, hon⟩
  · rw [List.length_set]; exact h.dom j b o' hb
  · rw [Heap.at_set hi] at hr
    by_cases hj : i = j
    · rw [if_pos hj, ho] at hr
      simp only [Option.some.injEq, Prod.mk.injEq] at hr
      exact absurd hr.2.symm hn
    · rw [if_neg hj] at hr; exact h.there j sz' rows' hr hn
  · rw [Heap.at_set hi, if_neg (fun e => hne j b o1 h1 e.symm)] at hj
    rw [Heap.at_set hi, if_neg (fun e => hne k b o2 h2 e.symm)] at hk
    exact h.inj j k b o1 o2 hj hk h1 h2
  · rw [Heap.at_set hi, if_neg (fun e => hne j b o' hb e.symm)] at hal ⊢
    intro sz' rows' hr
    obtain ⟨c1, T1, e1, e2, e3, e4⟩ := h.objs j b o' hal hb sz' rows' hr
    exact ⟨c1, T1, e1, e2, e3, fun k r j x hk hx => by obtain ⟨v, hv, hrel⟩ := e4 k r j x hk hx; exact ⟨v, hv, hon.rel hrel⟩⟩

/-- An object is given up. -/
theorem SimH.kill {P : Program} {A : Nat → Prop} {φ : Nat → Option (Nat × Nat)} {H : Heap} {w : World} (h : SimH P A φ H w) (i : Nat) :
    SimH P A φ (H.set i .dead) w ∧ Onward A φ H w φ (H.set i .dead) w := by
  have hat : ∀ j, (Heap.at (H.set i .dead) j).alive → Heap.at (H.set i .dead) j = H.at j := by
    intro j hj
    rcases Nat.lt_or_ge i H.length with hi | hi
    · rw [Heap.at_set hi] at hj ⊢
      by_cases e : i = j
      · rw [if_pos e] at hj; exact hj.elim
      · rw [if_neg e]
    · rw [List.set_eq_of_length_le hi]
  have hmono : ∀ b, own φ (H.set i .dead) b → own φ H b := fun b ⟨j, o', hal, hb⟩ => ⟨j, o', by rw [← hat j hal]; exact hal, hb⟩
  have hon : Onward A φ H w φ (H.set i .dead) w := ⟨fun _ _ h => h, Pres.refl _ _, fun b hb => .inl (hmono b hb)⟩
  refine ⟨⟨fun j b o' hb => ?_, fun j sz' rows' hr hn => ?_, fun j k b o1 o2 hj hk h1 h2 => ?_, h.amb, fun b hA ho' => h.apart b hA (hmono b ho'), fun j b o' hal hb => ?_, hon.tab h.tab, fun j b o' hal hb => by
    rw [hat j hal]; exact h.objx j b o' (by rw [← hat j hal]; exact hal) hb⟩, hon⟩
  · rw [List.length_set]; exact h.dom j b o' hb
  · exact h.there j sz' rows' (by rw [← hat j (HO.alive_of ⟨_, _, hr⟩)]; exact hr) hn
  · exact h.inj j k b o1 o2 (by rw [← hat j hj]; exact hj) (by rw [← hat k hk]; exact hk) h1 h2
  · intro sz' rows' hr
    have hal' : (H.at j).alive := by rw [← hat j hal]; exact hal
    rw [hat j hal] at hr
    obtain ⟨c1, T1, e1, e2, e3, e4⟩ := h.objs j b o' hal' hb sz' rows' hr
    exact ⟨c1, T1, e1, e2, e3, fun k r j x hk hx => by obtain ⟨v, hv, hrel⟩ := e4 k r j x hk hx; exact ⟨v, hv, hon.rel hrel⟩⟩

/-- The cells of one block of ours are others. -/
def World.setBlock (w : World) (b : Nat) (c : Array Value) (T : TypeId) : World := { w with heap := w.heap.setIfInBounds b (.cells c T (0, 0)) }

theorem setBlock_at (w : World) (b : Nat) (c : Array Value) (T : TypeId) (hb : b < w.heap.size) : (World.setBlock w b c T).heap[b]? = some (.cells c T (0, 0)) := by
  simp [World.setBlock, hb]

theorem setBlock_other (w : World) (b b' : Nat) (c : Array Value) (T : TypeId) (h : b ≠ b') : (World.setBlock w b c T).heap[b']? = w.heap[b']? := by
  simp [World.setBlock, Array.getElem?_setIfInBounds, h]

theorem Pres.setBlock {M : Nat → Prop} {w : World} {b : Nat} {c c' : Array Value} {T : TypeId} (hM : M b) (hc : w.heap[b]? = some (.cells c T (0, 0))) (hs : c'.size = c.size) :
    Pres M w (World.setBlock w b c' T) := by
  have hb : b < w.heap.size := by
    rcases Nat.lt_or_ge b w.heap.size with h | h
    · exact h
    · simp [Array.getElem?_eq_none h] at hc
  refine ⟨by simp [World.setBlock], fun b' hb' hn => setBlock_other w b b' c' T (fun e => hn (e ▸ hM)), fun b' c1 T1 h1 => ?_, ⟨rfl, rfl, rfl, Nat.le_refl _⟩, fun a _ => ?_⟩
  rotate_left
  · unfold World.frozen?
    by_cases e : b = a.block
    · rw [← e, setBlock_at w b c' T hb, hc]
    · rw [setBlock_other w b a.block c' T e]
  by_cases e : b = b'
  · subst e
    rw [hc] at h1
    simp only [Option.some.injEq, Obj.cells.injEq] at h1
    obtain ⟨rfl, rfl, _⟩ := h1
    exact ⟨c', setBlock_at w b c' T hb, hs⟩
  · exact ⟨c1, by rw [setBlock_other w b b' c' T e]; exact h1, rfl⟩

/-- The object at 'i' has other rows, and its block other cells. It may take the place of another id that is given up, and begin later in the block. -/
theorem SimH.change {P : Program} {A : Nat → Prop} {φ : Nat → Option (Nat × Nat)} {H : Heap} {w : World} (h : SimH P A φ H w) {i b o : Nat} (hal : (H.at i).alive) (hb : φ i = some (b, o))
    {c c' : Array Value} {T : TypeId} (hblk : w.heap[b]? = some (.cells c T (0, 0))) (hs : c'.size = c.size) {x : HO} {sz : Nat} {rows : List (List AV)}
    (hx : x.rows = some (sz, rows)) (hfit : o + rows.length * sz ≤ c.size) (hrow : ∀ r ∈ rows, r.length = sz)
    (hc : ∀ (k : Nat) (r : List AV) (j : Nat) (y : AV), rows[k]? = some r → r[j]? = some y → ∃ v, c'[o + k * sz + j]? = some v ∧ Rel φ (Mb A φ H) w y v) :
    SimH P A φ (H.set i x) (World.setBlock w b c' T) ∧ Onward A φ H w φ (H.set i x) (World.setBlock w b c' T) := by
  have hi : i < H.length := Heap.at_lt hal
  have hown : own φ H b := ⟨i, o, hal, hb⟩
  have hxal : x.alive := HO.alive_of ⟨_, _, hx⟩
  have hmono : ∀ b', own φ (H.set i x) b' → own φ H b' := by
    intro b' ⟨j, o', hj, hb'⟩
    rw [Heap.at_set hi] at hj
    by_cases e : i = j
    · subst e; exact ⟨i, o', hal, hb'⟩
    · rw [if_neg e] at hj; exact ⟨j, o', hj, hb'⟩
  have hon : Onward A φ H w φ (H.set i x) (World.setBlock w b c' T) := ⟨fun _ _ h => h, Pres.setBlock hown hblk hs, fun b' hb' => .inl (hmono b' hb')⟩
  have hsz : (World.setBlock w b c' T).heap.size = w.heap.size := by simp [World.setBlock]
  have hlt := (h.dom i b o hb).2
  refine ⟨⟨fun j b' o' hb' => ?_, fun j sz' rows' hr hn => ?_, fun j k b' o1 o2 hj hk h1 h2 => ?_, fun b' hA => by rw [hsz]; exact h.amb b' hA, fun b' hA ho' => h.apart b' hA (hmono b' ho'), fun j b' o' hj hb' => ?_, hon.tab h.tab, fun j b' o' hj hb' => by
    rw [Heap.at_set hi] at hj ⊢
    by_cases e : i = j
    · rw [if_pos e]; exact RelX.rows hx
    · rw [if_neg e] at hj ⊢
      have hne : b ≠ b' := fun e' => e (h.inj i j b o o' hal hj hb (e' ▸ hb'))
      exact (h.objx j b' o' hj hb').on (fun _ _ h => h) (setBlock_other w b b' c' T hne)⟩, hon⟩
  · rw [List.length_set, hsz]; exact h.dom j b' o' hb'
  · rw [Heap.at_set hi] at hr
    by_cases e : i = j
    · subst e; exact ⟨b, o, hb⟩
    · rw [if_neg e] at hr; exact h.there j sz' rows' hr hn
  · rw [Heap.at_set hi] at hj hk
    refine h.inj j k b' o1 o2 ?_ ?_ h1 h2
    · by_cases e : i = j
      · subst e; exact hal
      · rw [if_neg e] at hj; exact hj
    · by_cases e : i = k
      · subst e; exact hal
      · rw [if_neg e] at hk; exact hk
  · intro sz' rows' hr
    rw [Heap.at_set hi] at hj hr
    by_cases e : i = j
    · subst e
      rw [hb] at hb'
      simp only [Option.some.injEq, Prod.mk.injEq] at hb'
      obtain ⟨rfl, rfl⟩ := hb'
      rw [if_pos rfl, hx] at hr
      simp only [Option.some.injEq, Prod.mk.injEq] at hr
      obtain ⟨rfl, rfl⟩ := hr
      exact ⟨c', T, setBlock_at w b c' T hlt, by omega, hrow, fun k r j y hk hy => by obtain ⟨v, hv, hrel⟩ := hc k r j y hk hy; exact ⟨v, hv, hon.rel hrel⟩⟩
    · rw [if_neg e] at hj hr
      have hne : b ≠ b' := fun e' => e (h.inj i j b o o' hal hj hb (e' ▸ hb'))
      obtain ⟨c1, T1, e1, e2, e3, e4⟩ := h.objs j b' o' hj hb' sz' rows' hr
      exact ⟨c1, T1, by rw [setBlock_other w b b' c' T hne]; exact e1, e2, e3, fun k r j y hk hy => by obtain ⟨v, hv, hrel⟩ := e4 k r j y hk hy; exact ⟨v, hv, hon.rel hrel⟩⟩

/-- The object at 'i' is given up, and another id has its block, from somewhere on, with other cells. -/
theorem SimH.move {P : Program} {A : Nat → Prop} {φ : Nat → Option (Nat × Nat)} {H : Heap} {w : World} (h : SimH P A φ H w) {i b o : Nat} (hal : (H.at i).alive) (hb : φ i = some (b, o))
    {n o2 : Nat} (hn : n < H.length) (hφ : φ n = none) {c c' : Array Value} {T : TypeId} (hblk : w.heap[b]? = some (.cells c T (0, 0))) (hs : c'.size = c.size) {x : HO} {sz : Nat}
    {rows : List (List AV)} (hx : x.rows = some (sz, rows)) (hfit : o2 + rows.length * sz ≤ c.size) (hrow : ∀ r ∈ rows, r.length = sz)
    (hc : ∀ (k : Nat) (r : List AV) (j : Nat) (y : AV), rows[k]? = some r → r[j]? = some y → ∃ v, c'[o2 + k * sz + j]? = some v ∧ Rel φ (Mb A φ H) w y v) :
    SimH P A (fun j => if j = n then some (b, o2) else φ j) ((H.set i .dead).set n x) (World.setBlock w b c' T) ∧
      Onward A φ H w (fun j => if j = n then some (b, o2) else φ j) ((H.set i .dead).set n x) (World.setBlock w b c' T) := by
  have hi : i < H.length := Heap.at_lt hal
  have hne : n ≠ i := fun e => by rw [e, hb] at hφ; cases hφ
  have hown : own φ H b := ⟨i, o, hal, hb⟩
  have hlt := (h.dom i b o hb).2
  have hat : ∀ j, Heap.at ((H.set i .dead).set n x) j = if n = j then x else if i = j then .dead else H.at j := fun j => by
    rw [Heap.at_set (by rw [List.length_set]; exact hn), Heap.at_set hi]
  have hold : ∀ j, j ≠ n → (Heap.at ((H.set i .dead).set n x) j).alive → j ≠ i ∧ (H.at j).alive ∧ Heap.at ((H.set i .dead).set n x) j = H.at j := by
    intro j hj hal'
    rw [hat, if_neg (fun e => hj e.symm)] at hal' ⊢
    by_cases e : i = j
    · rw [if_pos e] at hal'; exact hal'.elim
    · rw [if_neg e] at hal' ⊢; exact ⟨fun e' => e e'.symm, hal', rfl⟩
  have hmono : ∀ b', own (fun j => if j = n then some (b, o2) else φ j) ((H.set i .dead).set n x) b' → own φ H b' := by
    intro b' ⟨j, o', hj, hb'⟩
    by_cases e : j = n
    · simp only [e, if_true, Option.some.injEq, Prod.mk.injEq] at hb'
      exact hb'.1 ▸ hown
    · simp only [e, if_false] at hb'
      exact ⟨j, o', (hold j e hj).2.1, hb'⟩
  have hon : Onward A φ H w (fun j => if j = n then some (b, o2) else φ j) ((H.set i .dead).set n x) (World.setBlock w b c' T) := by
    refine ⟨fun j p hp => ?_, Pres.setBlock hown hblk hs, fun b' hb' => .inl (hmono b' hb')⟩
    by_cases e : j = n
    · subst e; rw [hφ] at hp; cases hp
    · simp [e, hp]
  have hsz : (World.setBlock w b c' T).heap.size = w.heap.size := by simp [World.setBlock]
  have hblkne : ∀ j b' o', j ≠ i → (H.at j).alive → φ j = some (b', o') → b ≠ b' := fun j b' o' hj hal' hb' e => hj (h.inj i j b o o' hal hal' hb (e ▸ hb')).symm
  refine ⟨⟨fun j b' o' hb' => ?_, fun j sz' rows' hr hn' => ?_, fun j k b' o1 o3 hj hk h1 h2 => ?_, fun b' hA => by rw [hsz]; exact h.amb b' hA, fun b' hA ho' => h.apart b' hA (hmono b' ho'), fun j b' o' hj hb' => ?_, hon.tab h.tab, fun j b' o' hj hb' => by
    by_cases e : j = n
    · rw [e, hat, if_pos rfl]; exact RelX.rows hx
    · obtain ⟨f1, f2, f3⟩ := hold j e hj
      simp only [e, if_false] at hb'
      rw [f3]
      exact (h.objx j b' o' f2 hb').on hon.ids (setBlock_other w b b' c' T (hblkne j b' o' f1 f2 hb'))⟩, hon⟩
  · rw [List.length_set, List.length_set, hsz]
    by_cases e : j = n
    · simp only [e, if_true, Option.some.injEq, Prod.mk.injEq] at hb'
      exact ⟨e ▸ hn, hb'.1 ▸ hlt⟩
    · simp only [e, if_false] at hb'; exact h.dom j b' o' hb'
  · by_cases e : j = n
    · exact ⟨b, o2, by simp [e]⟩
    · obtain ⟨e1, e2, e3⟩ := hold j e (HO.alive_of ⟨_, _, hr⟩)
      obtain ⟨b', o', hb'⟩ := h.there j sz' rows' (by rw [← e3]; exact hr) hn'
      exact ⟨b', o', by simp [e, hb']⟩
  · by_cases e : j = n
    · by_cases e' : k = n
      · omega
      · simp only [e, if_true, Option.some.injEq, Prod.mk.injEq] at h1
        simp only [e', if_false] at h2
        obtain ⟨f1, f2, f3⟩ := hold k e' hk
        exact absurd h1.1 (hblkne k b' o3 f1 f2 h2)
    · by_cases e' : k = n
      · simp only [e', if_true, Option.some.injEq, Prod.mk.injEq] at h2
        simp only [e, if_false] at h1
        obtain ⟨f1, f2, f3⟩ := hold j e hj
        exact absurd h2.1 (hblkne j b' o1 f1 f2 h1)
      · simp only [e, if_false] at h1
        simp only [e', if_false] at h2
        exact h.inj j k b' o1 o3 (hold j e hj).2.1 (hold k e' hk).2.1 h1 h2
  · intro sz' rows' hr
    by_cases e : j = n
    · simp only [e, if_true, Option.some.injEq, Prod.mk.injEq] at hb'
      obtain ⟨rfl, rfl⟩ := hb'
      rw [e, hat, if_pos rfl, hx] at hr
      simp only [Option.some.injEq, Prod.mk.injEq] at hr
      obtain ⟨rfl, rfl⟩ := hr
      exact ⟨c', T, setBlock_at w b c' T hlt, by omega, hrow, fun k r j y hk hy => by obtain ⟨v, hv, hrel⟩ := hc k r j y hk hy; exact ⟨v, hv, hon.rel hrel⟩⟩
    · obtain ⟨f1, f2, f3⟩ := hold j e hj
      simp only [e, if_false] at hb'
      rw [f3] at hr
      obtain ⟨c1, T1, e1, e2, e3, e4⟩ := h.objs j b' o' f2 hb' sz' rows' hr
      exact ⟨c1, T1, by rw [setBlock_other w b b' c' T (hblkne j b' o' f1 f2 hb')]; exact e1, e2, e3, fun k r j y hk hy => by obtain ⟨v, hv, hrel⟩ := e4 k r j y hk hy; exact ⟨v, hv, hon.rel hrel⟩⟩

/-! ### Maps -/
theorem Pres.allocO (M : Nat → Prop) (w : World) (q : Obj) : Pres M w (w.alloc q) := by
  have hold : ∀ b, b < w.heap.size → (w.alloc q).heap[b]? = w.heap[b]? := fun b hb => by
    simp only [World.alloc]; rw [Array.getElem?_push_lt hb]; exact (Array.getElem?_eq_getElem hb).symm
  refine ⟨by simp, fun b hb _ => hold b hb, fun b c T hc => ⟨c, ?_, rfl⟩, ⟨rfl, rfl, rfl, Nat.le_refl _⟩, fun a ha => ?_⟩
  · have hb : b < w.heap.size := by
      rcases Nat.lt_or_ge b w.heap.size with h | h
      · exact h
      · simp [Array.getElem?_eq_none h] at hc
    rw [hold b hb]; exact hc
  · unfold World.frozen?; rw [hold _ ha]

/-- A new map, or walk, in a new block. -/
theorem SimH.newX {P : Program} {A : Nat → Prop} {φ : Nat → Option (Nat × Nat)} {H : Heap} {w : World} (h : SimH P A φ H w) {i : Nat} (hi : i < H.length) (hφ : φ i = none) {o : HO} (ho : o.rows = none) {q : Obj}
    (hx : RelX (fun j => if j = i then some (w.heap.size, 0) else φ j) (w.alloc q) w.heap.size 0 o) :
    SimH P A (fun j => if j = i then some (w.heap.size, 0) else φ j) (H.set i o) (w.alloc q) ∧ Onward A φ H w (fun j => if j = i then some (w.heap.size, 0) else φ j) (H.set i o) (w.alloc q) := by
  have hold : ∀ b, b < w.heap.size → (w.alloc q).heap[b]? = w.heap[b]? := fun b hb => by
    simp only [World.alloc]; rw [Array.getElem?_push_lt hb]; exact (Array.getElem?_eq_getElem hb).symm
  have hmono : ∀ b, own (fun j => if j = i then some (w.heap.size, 0) else φ j) (H.set i o) b → own φ H b ∨ w.heap.size ≤ b := by
    intro b ⟨j, o', hal, hb⟩
    by_cases hj : j = i
    · simp only [hj, if_true, Option.some.injEq, Prod.mk.injEq] at hb
      exact .inr (by omega)
    · simp only [hj, if_false] at hb
      rw [Heap.at_set hi, if_neg (fun h => hj h.symm)] at hal
      exact .inl ⟨j, o', hal, hb⟩
  have hon : Onward A φ H w (fun j => if j = i then some (w.heap.size, 0) else φ j) (H.set i o) (w.alloc q) := by
    refine ⟨fun j p hp => ?_, Pres.allocO _ _ _, hmono⟩
    by_cases hj : j = i
    · subst hj; rw [hφ] at hp; cases hp
    · simp [hj, hp]
  refine ⟨⟨fun j b o' hb => ?_, fun j sz' rows' hr hne => ?_, fun j k b o1 o2 hj hk h1 h2 => ?_, fun b hA => ?_, fun b hA ho' => ?_, fun j b o' hal hb => ?_, hon.tab h.tab, fun j b o' hal hb => ?_⟩, hon⟩
  · rw [List.length_set]
    by_cases hj : j = i
    · simp only [hj, if_true, Option.some.injEq, Prod.mk.injEq] at hb
      refine ⟨hj ▸ hi, ?_⟩
      simp; omega
    · simp only [hj, if_false] at hb
      have := h.dom j b o' hb
      exact ⟨this.1, by simp; omega⟩
  · by_cases hj : j = i
    · exact ⟨w.heap.size, 0, by simp [hj]⟩
    · rw [Heap.at_set hi, if_neg (fun h => hj h.symm)] at hr
      obtain ⟨b, o', hb⟩ := h.there j sz' rows' hr hne
      exact ⟨b, o', by simp [hj, hb]⟩
  · rw [Heap.at_set hi] at hj hk
    by_cases hji : j = i
    · by_cases hki : k = i
      · omega
      · simp only [hji, if_true, Option.some.injEq, Prod.mk.injEq] at h1
        simp only [hki, if_false] at h2
        have := (h.dom k b o2 h2).2
        omega
    · by_cases hki : k = i
      · simp only [hki, if_true, Option.some.injEq, Prod.mk.injEq] at h2
        simp only [hji, if_false] at h1
        have := (h.dom j b o1 h1).2
        omega
      · simp only [hji, if_false] at h1
        simp only [hki, if_false] at h2
        rw [if_neg (fun h => hji h.symm)] at hj
        rw [if_neg (fun h => hki h.symm)] at hk
        exact h.inj j k b o1 o2 hj hk h1 h2
  · have := h.amb b hA; simp; omega
  · rcases hmono b ho' with h1 | h1
    · exact h.apart b hA h1
    · have := h.amb b hA; omega
  · rw [Heap.at_set hi] at hal
    rw [Heap.at_set hi]
    intro sz' rows' hr
    by_cases hj : j = i
    · rw [if_pos hj.symm, ho] at hr; cases hr
    · rw [if_neg (fun h => hj h.symm)] at hal hr
      simp only [hj, if_false] at hb
      obtain ⟨c1, T1, e1, e2, e3, e4⟩ := h.objs j b o' hal hb sz' rows' hr
      exact ⟨c1, T1, by rw [hold _ (h.dom j b o' hb).2]; exact e1, e2, e3, fun k r j x hk hx => by obtain ⟨v, hv, hrel⟩ := e4 k r j x hk hx; exact ⟨v, hv, hon.rel hrel⟩⟩
  · rw [Heap.at_set hi] at hal ⊢
    by_cases hj : j = i
    · rw [if_pos hj.symm]
      simp only [hj, if_true, Option.some.injEq, Prod.mk.injEq] at hb
      rw [← hb.1, ← hb.2]; exact hx
    · rw [if_neg (fun h => hj h.symm)] at hal ⊢
      simp only [hj, if_false] at hb
      exact (h.objx j b o' hal hb).on hon.ids (hold _ (h.dom j b o' hb).2)

def World.setO (w : World) (b : Nat) (q : Obj) : World := { w with heap := w.heap.setIfInBounds b q }
theorem setO_at (w : World) (b : Nat) (q : Obj) (hb : b < w.heap.size) : (World.setO w b q).heap[b]? = some q := by simp [World.setO, hb]
theorem setO_other (w : World) (b b' : Nat) (q : Obj) (h : b ≠ b') : (World.setO w b q).heap[b']? = w.heap[b']? := by simp [World.setO, Array.getElem?_setIfInBounds, h]

/-- A map of ours, or a walk, is another one. -/
theorem SimH.changeX {P : Program} {A : Nat → Prop} {φ : Nat → Option (Nat × Nat)} {H : Heap} {w w1 : World} (h : SimH P A φ H w) {i b o : Nat} (hal : (H.at i).alive) (hb : φ i = some (b, o))
    (h1 : w1.heap = w.heap ∧ w1.os = w.os ∧ w1.output = w.output ∧ w1.tape = w.tape ∧ w.drawn ≤ w1.drawn) {q0 q : Obj} (hblk : w.heap[b]? = some q0) (hq0 : ∀ c T, q0 ≠ .cells c T (0, 0)) {x : HO} (hx0 : x.rows = none) (hxa : x.alive)
    (hx : RelX φ (World.setO w1 b q) b o x) (hf : ∀ a : Addr, (World.setO w1 b q).frozen? a = w.frozen? a) :
    SimH P A φ (H.set i x) (World.setO w1 b q) ∧ Onward A φ H w φ (H.set i x) (World.setO w1 b q) := by
  have hi : i < H.length := Heap.at_lt hal
  have hown : own φ H b := ⟨i, o, hal, hb⟩
  have hlt := (h.dom i b o hb).2
  have hsz : (World.setO w1 b q).heap.size = w.heap.size := by simp [World.setO, h1.1]
  have hoth : ∀ b', b ≠ b' → (World.setO w1 b q).heap[b']? = w.heap[b']? := fun b' e => by rw [setO_other _ _ _ _ e, h1.1]
  have hmono : ∀ b', own φ (H.set i x) b' → own φ H b' := by
    intro b' ⟨j, o', hj, hb'⟩
    rw [Heap.at_set hi] at hj
    by_cases e : i = j
    · subst e; exact ⟨i, o', hal, hb'⟩
    · rw [if_neg e] at hj; exact ⟨j, o', hj, hb'⟩
  have hon : Onward A φ H w φ (H.set i x) (World.setO w1 b q) := ⟨fun _ _ h => h, ⟨by rw [hsz]; exact Nat.le_refl _, fun b' _ hn => hoth b' (fun e => hn (e ▸ hown)), fun b' c T hc => ⟨c, by rw [hoth b' (fun e => by rw [← e, hblk] at hc; exact hq0 c T (Option.some.inj hc))]; exact hc, rfl⟩, h1.2, fun a _ => hf a⟩, fun b' hb' => .inl (hmono b' hb')⟩
  refine ⟨⟨fun j b' o' hb' => ?_, fun j sz' rows' hr hn => ?_, fun j k b' o1 o2 hj hk h1 h2 => ?_, fun b' hA => by rw [hsz]; exact h.amb b' hA, fun b' hA ho' => h.apart b' hA (hmono b' ho'), fun j b' o' hj hb' => ?_, hon.tab h.tab, fun j b' o' hj hb' => ?_⟩, hon⟩
  · rw [List.length_set, hsz]; exact h.dom j b' o' hb'
  · rw [Heap.at_set hi] at hr
    by_cases e : i = j
    · rw [if_pos e, hx0] at hr; cases hr
    · rw [if_neg e] at hr; exact h.there j sz' rows' hr hn
  · rw [Heap.at_set hi] at hj hk
    refine h.inj j k b' o1 o2 ?_ ?_ h1 h2
    · by_cases e : i = j
      · subst e; exact hal
      · rw [if_neg e] at hj; exact hj
    · by_cases e : i = k
      · subst e; exact hal
      · rw [if_neg e] at hk; exact hk
  · intro sz' rows' hr
    rw [Heap.at_set hi] at hj hr
    by_cases e : i = j
    · rw [if_pos e, hx0] at hr; cases hr
    · rw [if_neg e] at hj hr
      have hne : b ≠ b' := fun e' => e (h.inj i j b o o' hal hj hb (e' ▸ hb'))
      obtain ⟨c1, T1, e1, e2, e3, e4⟩ := h.objs j b' o' hj hb' sz' rows' hr
      exact ⟨c1, T1, by rw [hoth b' hne]; exact e1, e2, e3, fun k r j y hk hy => by obtain ⟨v, hv, hrel⟩ := e4 k r j y hk hy; exact ⟨v, hv, hon.rel hrel⟩⟩
  · rw [Heap.at_set hi] at hj ⊢
    by_cases e : i = j
    · subst e
      rw [if_pos rfl]
      rw [hb] at hb'
      simp only [Option.some.injEq, Prod.mk.injEq] at hb'
      rw [← hb'.1, ← hb'.2]; exact hx
    · rw [if_neg e] at hj ⊢
      have hne : b ≠ b' := fun e' => e (h.inj i j b o o' hal hj hb (e' ▸ hb'))
      exact (h.objx j b' o' hj hb').on (fun _ _ h => h) (hoth b' hne)

theorem Onward.trans {A : Nat → Prop} {φ φ' φ'' : Nat → Option (Nat × Nat)} {H H' H'' : Heap} {w w' w'' : World} (h : Onward A φ H w φ' H' w') (h' : Onward A φ' H' w' φ'' H'' w'') :
    Onward A φ H w φ'' H'' w'' :=
  ⟨fun i p hp => h'.ids i p (h.ids i p hp), h.pres.trans h'.pres h.mono, fun b hb => by
    rcases h'.mono b hb with h1 | h1
    · exact h.mono b h1
    · exact .inr (Nat.le_trans h.pres.size h1)⟩

end Go.Ago

/- Runs of the model's small operations on cells, over worlds given by blocks. Conditions: none. -/
set_option linter.unusedSimpArgs false
set_option linter.unusedVariables false
namespace Go.Ago

def arrPut (c : Array Value) (o : Nat) : List Value → Array Value
  | [] => c
  | v :: vs => arrPut (c.setIfInBounds o v) (o + 1) vs

theorem arrPut_size : ∀ (vs : List Value) (c : Array Value) (o : Nat), (arrPut c o vs).size = c.size := by
  intro vs
  induction vs with
  | nil => intro c o; rfl
  | cons v vs ih => intro c o; simp [arrPut, ih]

theorem arrPut_get : ∀ (vs : List Value) (c : Array Value) (o k : Nat), o + vs.length ≤ c.size →
    (arrPut c o vs)[k]? = if o ≤ k ∧ k < o + vs.length then vs[k - o]? else c[k]? := by
  intro vs
  induction vs with
  | nil => intro c o k h; simp [arrPut]; omega
  | cons v vs ih =>
    intro c o k h
    simp only [arrPut, List.length_cons] at h ⊢
    rw [ih _ _ _ (by simp; omega)]
    by_cases h1 : o + 1 ≤ k ∧ k < o + 1 + vs.length
    · rw [if_pos h1, if_pos (by omega)]
      obtain ⟨d, hd⟩ : ∃ d, k - o = d + 1 := ⟨k - o - 1, by omega⟩
      rw [hd, List.getElem?_cons_succ, show k - (o + 1) = d by omega]
    · rw [if_neg h1]
      by_cases h2 : k = o
      · subst h2
        rw [if_pos (by omega)]
        simp only [Nat.sub_self, List.getElem?_cons_zero]
        rw [Array.getElem?_setIfInBounds_self_of_lt (by omega)]
      · rw [if_neg (by omega), Array.getElem?_setIfInBounds_ne (fun e => h2 e.symm)]

theorem setCell_block {w : World} {b o : Nat} {c : Array Value} {T : TypeId} (hb : w.heap[b]? = some (.cells c T (0, 0))) (v : Value) :
    w.setCell ⟨b, o, none⟩ v = World.setBlock w b (c.setIfInBounds o v) T := by
  have hlt : b < w.heap.size := by
    rcases Nat.lt_or_ge b w.heap.size with h | h
    · exact h
    · simp [Array.getElem?_eq_none h] at hb
  have hget : w.heap[b] = .cells c T (0, 0) := by rw [Array.getElem?_eq_getElem hlt] at hb; exact Option.some.inj hb
  unfold World.setCell World.setBlock
  congr 1
  apply Array.ext_getElem?
  intro k
  simp only [Array.getElem?_modify, Array.getElem?_setIfInBounds, hlt]
  by_cases e : b = k
  · subst e; simp [hget, hlt]
  · simp [e]

theorem cell_block {w : World} {b : Nat} {c : Array Value} {T : TypeId} (hb : w.heap[b]? = some (.cells c T (0, 0))) (o : Nat) : w.cell? ⟨b, o, none⟩ = c[o]? := by
  simp [World.cell?, hb]

theorem frozen_block {w : World} {b : Nat} {c : Array Value} {T : TypeId} (hb : w.heap[b]? = some (.cells c T (0, 0))) (o : Nat) : w.frozen? ⟨b, o, none⟩ = false := by
  simp [World.frozen?, hb]

theorem addr_add (b o n : Nat) : Addr.add ⟨b, o, none⟩ n = ⟨b, o + n, none⟩ := by
  unfold Addr.add
  split
  · subst_vars; rfl
  · rfl

theorem setBlock_setBlock (w : World) (b : Nat) (c c' : Array Value) (T : TypeId) : World.setBlock (World.setBlock w b c T) b c' T = World.setBlock w b c' T := by
  unfold World.setBlock
  congr 1
  apply Array.ext_getElem?
  intro k
  simp only [Array.getElem?_setIfInBounds, Array.size_setIfInBounds]
  by_cases e : b = k
  · subst e; by_cases h : b < w.heap.size <;> simp [h]
  · simp [e]

theorem setBlock_same {w : World} {b : Nat} {c : Array Value} {T : TypeId} (hb : w.heap[b]? = some (.cells c T (0, 0))) : World.setBlock w b c T = w := by
  have hlt : b < w.heap.size := by
    rcases Nat.lt_or_ge b w.heap.size with h | h
    · exact h
    · simp [Array.getElem?_eq_none h] at hb
  have : w.heap.setIfInBounds b (.cells c T (0, 0)) = w.heap := by
    apply Array.ext_getElem?
    intro k
    rw [Array.getElem?_setIfInBounds]
    by_cases e : b = k
    · subst e; simp [hlt]; rw [Array.getElem?_eq_getElem hlt] at hb; exact (Option.some.inj hb).symm
    · simp [e]
  unfold World.setBlock
  rw [this]

theorem run_storeCells {P : Program} : ∀ (vs : List Value) (w : World) (b o i : Nat) (c : Array Value) (T : TypeId), w.heap[b]? = some (.cells c T (0, 0)) →
    o + i + vs.length ≤ c.size → (∀ v ∈ vs, v.oneCell' = true) → (storeCells ⟨b, o, none⟩ vs i).run P w = .ok () (World.setBlock w b (arrPut c (o + i) vs) T) := by
  intro vs
  induction vs with
  | nil => intro w b o i c T hb hs hv; simp [storeCells, arrPut, setBlock_same hb]
  | cons v vs ih =>
    intro w b o i c T hb hs hv
    have hlt : b < w.heap.size := by
      rcases Nat.lt_or_ge b w.heap.size with h | h
      · exact h
      · simp [Array.getElem?_eq_none h] at hb
    simp only [List.length_cons] at hs
    have hcell : w.cell? ⟨b, o + i, none⟩ = some c[o + i] := by rw [cell_block hb, Array.getElem?_eq_getElem]
    simp only [storeCells, Sem.run_bind, addr_add]
    rw [run_store P w _ v _ (hv v (by simp)), hcell]
    simp only [frozen_block hb, Bool.false_eq_true, if_false, Result.andThen_ok]
    rw [setCell_block hb, ih (World.setBlock w b (c.setIfInBounds (o + i) v) T) b o (i + 1) _ T (setBlock_at w b _ T hlt) (by simp; omega) (fun v' h' => hv v' (by simp [h']))]
    rw [setBlock_setBlock]
    rfl

theorem run_loadCells_at {P : Program} {w : World} {b o : Nat} (vs : List Value) (h : ∀ j v, vs[j]? = some v → w.cell? ⟨b, o + j, none⟩ = some v) :
    (loadCells ⟨b, o, none⟩ vs.length).run P w = .ok vs.toArray w := by
  refine run_loadCells_list (P := P) w ⟨b, o, none⟩ vs (fun j v hv => ?_)
  rw [addr_add]; exact h j v hv

/-! ### What a program says of a type -/
def lowSz (P : Program) (t : TypeId) : Option Nat := (P.info? t).map (·.size)

def lowAgg (P : Program) (t : TypeId) : Option Bool :=
  match P.underlying t with
  | some (.struct _) => some true
  | some (.array _ _) => some true
  | some _ => some false
  | none => none

theorem run_typeInfo {P : Program} {t : TypeId} {i : TypeInfo} (h : P.info? t = some i) (w : World) : (typeInfo t).run P w = .ok i w := by
  simp [typeInfo, h]

theorem Z3v {P : Program} {t : TypeId} {n : Nat} (h : lowSz P t = some n) (w : World) : (sizeOf t).run P w = .ok n w := by
  unfold lowSz at h
  obtain ⟨i, h1, h2⟩ := Option.map_eq_some_iff.1 h
  simp [sizeOf, run_typeInfo h1, h2]

theorem run_isAgg {P : Program} {t : TypeId} {b : Bool} (h : lowAgg P t = some b) (w : World) : (isAgg t).run P w = .ok b w := by
  unfold lowAgg at h
  split at h <;> simp at h <;> subst h
  · rename_i d hd; simp [isAgg, run_underlying hd]
  · rename_i d hd; simp [isAgg, run_underlying hd]
  · rename_i d hs ha hd
    simp only [isAgg, Sem.run_bind, run_underlying hd, Result.andThen_ok]
    rfl

theorem run_zeroValue {P : Program} {t : TypeId} {i : TypeInfo} {z : Value} (h : P.info? t = some i) (hz : i.zero = some z) (w : World) : (zeroValue t).run P w = .ok z w := by
  simp [zeroValue, run_typeInfo h, hz]

theorem run_loadVar_agg {P : Program} {t : TypeId} {w : World} {b o : Nat} (ha : lowAgg P t = some true) (vs : List Value) (hn : lowSz P t = some vs.length)
    (h : ∀ j v, vs[j]? = some v → w.cell? ⟨b, o + j, none⟩ = some v) : (loadVar t ⟨b, o, none⟩).run P w = .ok (.agg vs.toArray) w := by
  simp [loadVar, run_isAgg ha, Z3v hn, run_loadCells_at vs h]

theorem run_loadVar_one {P : Program} {t : TypeId} {w : World} {a : Addr} (ha : lowAgg P t = some false) {v : Value} (h : w.cell? a = some v) : (loadVar t a).run P w = .ok v w := by
  simp [loadVar, run_isAgg ha, h]

theorem run_storeVar {P : Program} {t : TypeId} {w : World} {b o : Nat} {c : Array Value} {T : TypeId} {v : Value} (hn : lowSz P t = some v.cells.size)
    (hb : w.heap[b]? = some (.cells c T (0, 0))) (hs : o + v.cells.size ≤ c.size) (hv : ∀ x ∈ v.cells.toList, x.oneCell' = true) :
    (storeVar t ⟨b, o, none⟩ v).run P w = .ok () (World.setBlock w b (arrPut c o v.cells.toList) T) := by
  simp only [storeVar, Sem.run_bind, Z3v hn, Result.andThen_ok]
  simp only [ne_eq, not_true_eq_false, if_false, Sem.run_bind, Sem.run_pure, Result.andThen_ok, pure_bind]
  have := run_storeCells (P := P) v.cells.toList w b o 0 c T hb (by simpa using hs) hv
  simpa using this

end Go.Ago

/- From the model's operations to those of the abstract machine: 'low', with what the program says of types. Conditions: none. -/
set_option linter.unusedSimpArgs false
set_option linter.unusedVariables false
namespace Go.Ago

def cval : Value → Option AV
  | .bool b => some (.d (.bool b))
  | .int k n => some (.d (.int k n))
  | .string s => some (.d (.str s))
  | .float k b => some (.d (.flt k b))
  | .pointer none => some (.d .nilp)
  | .slice none 0 0 => some (.d (.list [] true))
  | .map none => some (.d .nilm)
  | .nilFunc => some (.d .nilf)
  | _ => none

theorem cval_rel {φ : Nat → Option (Nat × Nat)} {M : Nat → Prop} {w : World} {v : Value} {x : AV} (h : cval v = some x) : Rel φ M w x v ∧ x.leaf = true := by
  unfold cval at h
  split at h <;> simp at h <;> subst h <;> refine ⟨.d _ _ ?_, rfl⟩
  · exact .bool _
  · exact .int _ _
  · exact .str _
  · exact .flt _ _
  · exact .nilp
  · exact .nil _ _ _ (fun _ => rfl)
  · exact .nilm
  · exact .nilf

def Z3z (P : Program) : Operand → Option Opd
  | .tmp t => some (.tmp t)
  | .const v => (cval v).map .cst
  | .global g => if tabOf P g then some (.cst (.dptr tabCells 0)) else none
  | .func f => some (.cst (.d (.fn f)))

theorem Z16 {P : Program} {A : Nat → Prop} {n : Nat} {φ : Nat → Option (Nat × Nat)} {S : State} {a : Act} {w : World} (hs : Sim P A n φ S a w) {x : Operand} {y : Opd} (h : Z3z P x = some y) :
    Rel φ (Mb A φ S.heap) w (y.ev S.env) (a.eval x) := by
  cases x with
  | tmp t => simp [Z3z] at h; subst h; exact hs.slots t
  | const v =>
    simp only [Z3z, Option.map_eq_some_iff] at h
    obtain ⟨z, hz, rfl⟩ := h
    exact (cval_rel hz).1
  | global g =>
    simp only [Z3z] at h
    split at h
    · rename_i hg
      simp only [Option.some.injEq] at h; subst h
      exact hs.heap.tab.rel hg
    · cases h
  | func f => simp [Z3z] at h; subst h; exact .d _ _ (.fn f)

def lowOpds (P : Program) : List Operand → Option (List Opd)
  | [] => some []
  | x :: xs => (Z3z P x).bind fun y => (lowOpds P xs).map (y :: ·)

theorem lowOpds_get {P : Program} : ∀ (xs : List Operand) (ys : List Opd), lowOpds P xs = some ys → ys.length = xs.length ∧ ∀ (i : Nat) (x : Operand) (y : Opd), xs[i]? = some x → ys[i]? = some y → Z3z P x = some y := by
  intro xs
  induction xs with
  | nil => intro ys h; simp [lowOpds] at h; subst h; simp
  | cons x xs ih =>
    intro ys h
    simp only [lowOpds, Option.bind_eq_some_iff, Option.map_eq_some_iff] at h
    obtain ⟨y, hy, ys', hys, rfl⟩ := h
    obtain ⟨h1, h2⟩ := ih ys' hys
    refine ⟨by simp [h1], fun i => ?_⟩
    cases i with
    | zero => intro x' y' hx' hy'; simp at hx' hy'; subst hx'; subst hy'; exact hy
    | succ i => intro x' y' hx' hy'; simp at hx' hy'; exact h2 i x' y' hx' hy'

def lowO (P : Program) (x : Option Operand) : Option (Option Opd) :=
  match x with
  | none => some none
  | some x => (Z3z P x).map some

def cvals : List Value → Option (List AV)
  | [] => some []
  | x :: xs => (cval x).bind fun y => (cvals xs).map (y :: ·)

theorem cvals_get : ∀ (xs : List Value) (ys : List AV), cvals xs = some ys → ys.length = xs.length ∧ ∀ (i : Nat) (x : Value) (y : AV), xs[i]? = some x → ys[i]? = some y → cval x = some y := by
  intro xs
  induction xs with
  | nil => intro ys h; simp [cvals] at h; subst h; simp
  | cons x xs ih =>
    intro ys h
    simp only [cvals, Option.bind_eq_some_iff, Option.map_eq_some_iff] at h
    obtain ⟨y, hy, ys', hys, rfl⟩ := h
    obtain ⟨h1, h2⟩ := ih ys' hys
    refine ⟨by simp [h1], fun i => ?_⟩
    cases i with
    | zero => intro x' y' hx' hy'; simp at hx' hy'; subst hx'; subst hy'; exact hy
    | succ i => intro x' y' hx' hy'; simp at hx' hy'; exact h2 i x' y' hx' hy'

/-- The cells of a type's zero value. -/
def zeroA (P : Program) (t : TypeId) : Option (List AV) :=
  (P.info? t).bind fun i => i.zero.bind fun z => (cvals z.cells.toList).bind fun l => if l.length = i.size then some l else none

def flatFields (P : Program) (rec : TypeId → Option (List Bool)) : List Field → Nat → Option (List Bool)
  | [], _ => some []
  | f :: fs, n => if f.name = "_" ∨ f.offset ≠ n then none else (rec f.type).bind fun l => if lowSz P f.type = some l.length ∧ (lowAgg P f.type = some true ∨ lowAgg P f.type = some false ∧ l.length = 1) then (flatFields P rec fs (n + l.length)).map (l ++ ·) else none

/-- How a struct or an array is compared: cells of whole numbers and bools alone, none of them left out. -/
def flatEq (P : Program) : Nat → TypeId → Option (List Bool)
  | 0, _ => none
  | d + 1, t =>
    match P.underlying t with
    | some (.int _) => some [true]
    | some .bool => some [false]
    | some (.struct fs) => if P.stoodInHeld t then none else flatFields P (flatEq P d) fs.toList 0
    | some (.array len e) => (match P.underlying e with
      | some (.int _) => if lowSz P e = some 1 ∧ (P.info? e).isSome then some (List.replicate len true) else none
      | _ => none)
    | _ => none

def eqPlan (P : Program) (t : TypeId) : Option EqPlan :=
  match P.underlying t with
  | some .bool => some .bool
  | some (.func _ _ _) => some .func
  | some (.struct _) => if P.eqGuardType P.depth t then none else (flatEq P 8 t).map .flat
  | some (.array _ _) => if P.eqGuardType P.depth t then none else (flatEq P 8 t).map .flat
  | _ => none

def lowParts (P : Program) (fs : Array Field) : List (Nat × Operand) → Option (List (Nat × Nat × Opd))
  | [] => some []
  | (i, x) :: r => (fs[i]?).bind fun f => (lowSz P f.type).bind fun sz => (Z3z P x).bind fun y => (lowParts P fs r).map ((f.offset, sz, y) :: ·)

def lowPartsA (P : Program) (sz : Nat) : List (Nat × Operand) → Option (List (Nat × Nat × Opd))
  | [] => some []
  | (i, x) :: r => (Z3z P x).bind fun y => (lowPartsA P sz r).map ((i * sz, sz, y) :: ·)

def lowPartsS (P : Program) : List (Nat × Operand) → Option (List (Nat × Opd))
  | [] => some []
  | (i, x) :: r => (Z3z P x).bind fun y => (lowPartsS P r).map ((i, y) :: ·)

/-- Is it slices.overlaps, at elements that have a size? -/
def ovlF (P : Program) (fn : Func) : Bool :=
  fn.origin == "slices.overlaps" && !(fn.name == "runtime.NumGoroutine") && (Extern.allGenericRows.lookup fn.name).isNone && (Extern.allTypedRows.lookup fn.name).isNone && (Extern.allRows.lookup fn.name).isNone &&
  (match fn.params[0]? with
  | some t => (match P.underlying t with
    | some (.slice e) => (lowSz P e).isSome
    | _ => false)
  | none => false)

/-- Functions without a body that the machine stands in for: what they do. -/
def externF (P : Program) : Opd → Option FOp
  | .cst (.d (.fn g)) =>
    (match P.funcs[g]? with
    | some fn => if fn.body.isNone then
        (if (Extern.findNext fn).isNone then
          (if fn.name = "math.Float64bits" then some .bits else if fn.name = "math.Float64frombits" then some .ofBits else none) else none) else none
    | none => none)
  | _ => none

def externO (P : Program) : Opd → Bool
  | .cst (.d (.fn g)) =>
    (match P.funcs[g]? with
    | some fn => fn.body.isNone && (Extern.findNext fn).isNone && ovlF P fn
    | none => false)
  | _ => false

/-- Is it a type of maps from whole numbers to whole numbers? -/
def lowMap (P : Program) (t : TypeId) : Bool :=
  match P.underlying t with
  | some (.map k e) => (match P.underlying k with
    | some (.int _) => (match (P.info? e).bind (·.zero) with
      | some (.int .i64 0) => true
      | _ => false)
    | _ => false)
  | _ => false
theorem lowMap_spec {P : Program} {t : TypeId} (h : lowMap P t = true) : ∃ k e kd i, P.underlying t = some (.map k e) ∧ P.underlying k = some (.int kd) ∧ P.info? e = some i ∧ i.zero = some (.int .i64 0) := by
  unfold lowMap at h
  split at h
  · rename_i k e h1
    split at h
    · rename_i kd h2
      split at h
      · rename_i h3
        obtain ⟨i, h4, h5⟩ := Option.bind_eq_some_iff.1 h3
        exact ⟨k, e, kd, i, h1, h2, h4, h5⟩
      · cases h
    · cases h
  · cases h

/-- An operation of the model as one of ours; 'c': the number of the id that it may use. -/
def low (P : Program) (c : Nat) (ty : TypeId) (o : Op) : Option LOp :=
  match o with
  | .move x => (Z3z P x).map .mv
  | .assign x => (Z3z P x).map .mv
  | .pick x a b => (Z3z P x).bind fun x => (Z3z P a).bind fun a => (Z3z P b).map fun b => .pick x a b
  | .alloc t => (lowSz P t).bind fun sz => (zeroA P t).map fun z => .alloc c sz z
  | .box _ x => (Z3z P x).map fun x => .box c x
  | .build t parts =>
    match P.underlying t with
    | some (.struct fs) => (zeroA P t).bind fun z => (if fs.all (fun f => (lowSz P f.type).isSome) then some () else none).bind fun _ => (lowParts P fs parts.toList).map fun ps => .build z ps
    | some (.array _ e) => (zeroA P t).bind fun z => (lowSz P e).bind fun sz => (lowPartsA P sz parts.toList).map fun ps => .build z ps
    | _ => none
  | .buildSlice t len parts =>
    match P.underlying t with
    | some (.slice e) => if len = 0 ∧ parts.size = 0 then (lowSz P e).map fun _ => .mv (.cst (.d (.list [] true))) else (lowSz P e).bind fun sz => (zeroA P e).bind fun z => if 0 < sz ∧ 0 < len ∧ len * sz ≤ 2 ^ 20 then (lowPartsS P parts.toList).map fun ps => .bslice c sz len z ps else none
    | _ => none
  | .load t a => (lowAgg P t).bind fun g => (lowSz P t).bind fun sz => (Z3z P a).map fun a => .load g sz a
  | .store t a x => (lowSz P t).bind fun sz => (Z3z P a).bind fun a => (Z3z P x).map fun x => .store sz a x
  | .nilCheck x => (Z3z P x).map .nilchk
  | .binOp op t x y _ =>
    (Z3z P x).bind fun x => (Z3z P y).bind fun y =>
      match op with
      | .eql => (match P.underlying t with | some (.int _) => some (.bin .eql x y) | some (.float _) => some (.fl (.bin .eql) x y) | _ => (eqPlan P t).map fun p => .eq false p x y)
      | .neq => (match P.underlying t with | some (.int _) => some (.bin .neq x y) | some (.float _) => some (.fl (.bin .neq) x y) | _ => (eqPlan P t).map fun p => .eq true p x y)
      | op => (match P.underlying t with | some (.float _) => some (.fl (.bin op) x y) | _ => some (.bin op x y))
  | .unOp op _ x => (Z3z P x).map fun x => .un op x
  | .convert s d x =>
    match P.underlying s, P.underlying d with
    | some _, some (.int k) => (Z3z P x).map fun x => .conv k x
    | some (.int _), some (.float k) => (Z3z P x).map fun x => .fl (.ofInt k) x x
    | _, _ => none
  | .fieldAddr s x f =>
    match P.underlying s with
    | some (.struct fs) => (fs[f]?).bind fun fd => (lowSz P fd.type).bind fun sz => if sz = 0 then none else (Z3z P x).map fun x => .fieldAddr fd.offset x
    | _ => none
  | .field s x f =>
    match P.underlying s with
    | some (.struct fs) => (fs[f]?).bind fun fd => (lowAgg P fd.type).bind fun g => (lowSz P fd.type).bind fun sz => (Z3z P x).map fun x => .field g fd.offset sz x
    | _ => none
  | .indexAddr t x i =>
    match P.underlying t with
    | some (.slice e) => (lowSz P e).bind fun sz => (Z3z P x).bind fun x => (Z3z P i).map fun i => .idxAddr sz x i
    | some (.array len e) => (lowSz P e).bind fun sz => (Z3z P x).bind fun x => (Z3z P i).map fun i => .idxArrAddr len sz x i
    | _ => none
  | .index t x i =>
    match P.underlying t with
    | some (.array len e) => (lowAgg P e).bind fun g => (lowSz P e).bind fun sz => (Z3z P x).bind fun x => (Z3z P i).map fun i => .idxArr g len sz x i
    | _ => none
  | .makeSlice t l m =>
    match P.underlying t with
    | some (.slice e) => (P.info? e).bind fun i => (zeroA P e).bind fun z => (Z3z P l).bind fun l => (Z3z P m).map fun m => .mkslice c i.size i.bytes z l m
    | _ => none
  | .slice t x lo hi mx =>
    match P.underlying t with
    | some (.slice e) => (lowSz P e).bind fun sz => (Z3z P x).bind fun x => (lowO P lo).bind fun lo => (lowO P hi).bind fun hi => (lowO P mx).map fun mx => .slice sz x lo hi mx
    | _ => none
  | .extract x i => (Z3z P x).map fun x => .extract i x
  | .makeFunc (.func f) first caps => if first.isEmpty then (lowOpds P caps.toList).map fun cs => .mkfn f cs else none
  | .call { callee := .value f, args, .. } => (Z3z P f).bind fun f => (lowOpds P args.toList).bind fun xs =>
      match externF P f with
      | none => if externO P f then (match xs with | [x, y] => some (.apart x y) | _ => none) else some (.call c (match P.underlying ty with | some (.slice _) => true | _ => false) f xs)
      | some g => (match xs with | [x] => some (.fl g x x) | _ => none)
  | .call { callee := .builtin b, args, argTypes } =>
    (lowOpds P args.toList).bind fun xs =>
      match b, xs with
      | .append, [x, y] =>
        (match (argTypes[0]?).bind P.underlying, (argTypes[1]?).bind P.underlying with
        | some (.slice e), some (.slice _) => (P.info? e).bind fun i => (zeroA P e).map fun _ => .append c i.size i.bytes x y
        | some (.slice e), some (.int _) => (P.info? e).bind fun i => (zeroA P e).bind fun z => if 0 < i.size then some (.appz c i.size i.bytes z x y) else none
        | _, _ => none)
      | .copy, [x, y] =>
        (match (argTypes[0]?).bind P.underlying with
        | some (.slice e) => (lowSz P e).map fun sz => .copy sz x y
        | _ => none)
      | .len, [x] =>
        (match (argTypes[0]?).bind P.underlying with
        | some (.slice _) => some (.len x)
        | _ => none)
      | .cap, [x] =>
        (match (argTypes[0]?).bind P.underlying with
        | some (.slice _) => some (.fl .cap x x)
        | _ => none)
      | .max, [x, y] => some (.maxi x y)
      | .min, [x, y] => some (.mini x y)
      | .max, [x, y, z] => some (.max3 x y z)
      | _, _ => none
  | .makeMap t none => if lowMap P t then some (.mapNew c) else none
  | .mapUpdate t m k x => if lowMap P t then (Z3z P m).bind fun m => (Z3z P k).bind fun k => (Z3z P x).map fun x => .mapSet m k x else none
  | .lookup t m k ok => if lowMap P t then (Z3z P m).bind fun m => (Z3z P k).map fun k => .mapGet ok m k else none
  | .range t m => if lowMap P t then (Z3z P m).map fun m => .mapRange c m else none
  | .entry it => (Z3z P it).map .mapEntry
  | _ => none

end Go.Ago

/- Lists of related cells, and the runs of those operations that leave the world alone. Conditions: none. -/
set_option linter.unusedSimpArgs false
set_option linter.unusedVariables false
namespace Go.Ago

section
variable {φ : Nat → Option (Nat × Nat)} {M : Nat → Prop} {w : World} {P : Program}

/-- Two lists, cell by cell. -/
structure RelL (φ : Nat → Option (Nat × Nat)) (M : Nat → Prop) (w : World) (xs : List AV) (vs : List Value) : Prop where
  len : vs.length = xs.length
  get : ∀ (i : Nat) (x : AV) (v : Value), xs[i]? = some x → vs[i]? = some v → Rel φ M w x v

theorem RelL.nil : RelL φ M w [] [] := ⟨rfl, fun i x v h => by simp at h⟩

theorem RelL.take {xs : List AV} {vs : List Value} (h : RelL φ M w xs vs) (n : Nat) : RelL φ M w (xs.take n) (vs.take n) := by
  refine ⟨by simp [h.len], fun i x v h1 h2 => ?_⟩
  rw [List.getElem?_take] at h1 h2
  split at h1
  · rename_i hi; rw [if_pos hi] at h2; exact h.get i x v h1 h2
  · cases h1

theorem RelL.drop {xs : List AV} {vs : List Value} (h : RelL φ M w xs vs) (n : Nat) : RelL φ M w (xs.drop n) (vs.drop n) := by
  refine ⟨by simp [h.len], fun i x v h1 h2 => ?_⟩
  rw [List.getElem?_drop] at h1 h2
  exact h.get _ x v h1 h2

theorem RelL.append {xs ys : List AV} {vs us : List Value} (h : RelL φ M w xs vs) (h' : RelL φ M w ys us) : RelL φ M w (xs ++ ys) (vs ++ us) := by
  refine ⟨by simp [h.len, h'.len], fun i x v h1 h2 => ?_⟩
  rw [List.getElem?_append] at h1 h2
  rw [h.len] at h2
  split at h1
  · rename_i hi; rw [if_pos hi] at h2; exact h.get i x v h1 h2
  · rename_i hi; rw [if_neg hi] at h2; exact h'.get _ x v h1 h2

theorem RelL.putRow {xs ys : List AV} {vs us : List Value} (h : RelL φ M w xs vs) (h' : RelL φ M w ys us) (j : Nat) : RelL φ M w (Ago.putRow j ys xs) (Ago.putRow j us vs) := by
  unfold Ago.putRow
  rw [h'.len]
  exact ((h.take j).append h').append (h.drop _)

theorem RelL.at {xs : List AV} {vs : List Value} (h : RelL φ M w xs vs) {i : Nat} {x : AV} (hx : xs[i]? = some x) : ∃ v, vs[i]? = some v ∧ Rel φ M w x v := by
  have hi : i < vs.length := by
    rw [h.len]
    rcases Nat.lt_or_ge i xs.length with hl | hl
    · exact hl
    · rw [List.getElem?_eq_none hl] at hx; cases hx
  exact ⟨vs[i], List.getElem?_eq_getElem hi, h.get i x _ hx (List.getElem?_eq_getElem hi)⟩

theorem Rel.agg_inv {cs : List AV} {v : Value} (h : Rel φ M w (.agg cs) v) : ∃ vs : Array Value, v = .agg vs ∧ RelL φ M w cs vs.toList := by
  cases h with
  | agg cells vs hl h => exact ⟨vs, rfl, by simpa using hl, fun i x v h1 h2 => h i x v h1 (by simpa using h2)⟩

theorem Rel.tup_inv {cs : List AV} {v : Value} (h : Rel φ M w (.tup cs) v) : ∃ vs : Array Value, v = .tuple vs ∧ RelL φ M w cs vs.toList := by
  cases h with
  | tup cells vs hl h => exact ⟨vs, rfl, by simpa using hl, fun i x v h1 h2 => h i x v h1 (by simpa using h2)⟩

theorem RelL.agg {cs : List AV} {vs : List Value} (h : RelL φ M w cs vs) : Rel φ M w (.agg cs) (.agg vs.toArray) :=
  .agg cs vs.toArray (by simpa using h.len) (fun i x v h1 h2 => h.get i x v h1 (by simpa using h2))

theorem RelL.agg' {cs : List AV} {vs : Array Value} (h : RelL φ M w cs vs.toList) : Rel φ M w (.agg cs) (.agg vs) :=
  .agg cs vs (by simpa using h.len) (fun i x v h1 h2 => h.get i x v h1 (by simpa using h2))

theorem Rel.int_inv {k : IntKind} {n : Int} {v : Value} (h : Rel φ M w (.d (.int k n)) v) : v = .int k n := by
  cases h with
  | d x v h => cases h; rfl

theorem Rel.leaf_one {x : AV} {v : Value} (h : Rel φ M w x v) (hl : x.leaf = true) : v.oneCell' = true := by
  cases h with
  | d x v h => cases h <;> rfl
  | undef v => cases hl
  | agg => cases hl
  | tup => cases hl
  | _ => rfl

theorem Rel.leaf_cells {x : AV} {v : Value} (h : Rel φ M w x v) (hl : x.leaf = true) : v.cells = #[v] := by
  have := h.leaf_one hl
  cases v <;> first | rfl | (simp [Value.oneCell'] at this)

/-- The cells of a value. -/
theorem cellsOf_rel {x : AV} {v : Value} {cs : List AV} (h : Rel φ M w x v) (hc : x.cellsOf = some cs) :
    RelL φ M w cs v.cells.toList ∧ (∀ u ∈ v.cells.toList, u.oneCell' = true) ∧ cs.all AV.leaf = true := by
  have single : ∀ (y : AV), y = x → y.leaf = true → cs = [y] → RelL φ M w cs v.cells.toList ∧ (∀ u ∈ v.cells.toList, u.oneCell' = true) ∧ cs.all AV.leaf = true := by
    intro y hy hl hcs
    subst hy
    rw [h.leaf_cells hl, hcs]
    refine ⟨⟨rfl, fun i z u h1 h2 => ?_⟩, fun u hu => ?_, by simp [hl]⟩
    · cases i with
      | zero => simp at h1 h2; subst h1; subst h2; exact h
      | succ i => simp at h1
    · simp at hu; subst hu; exact h.leaf_one hl
  cases x with
  | agg l =>
    simp only [AV.cellsOf] at hc
    split at hc
    · rename_i hall
      simp only [Option.some.injEq] at hc; subst hc
      obtain ⟨vs, rfl, hr⟩ := h.agg_inv
      refine ⟨hr, fun u hu => ?_, hall⟩
      obtain ⟨i, hi, hu'⟩ := List.mem_iff_getElem.1 hu
      have hi' : i < l.length := by rw [← hr.len]; exact hi
      have hi2 : i < vs.toList.length := hi
      have := hr.get i l[i] u (List.getElem?_eq_getElem hi') (by rw [List.getElem?_eq_getElem hi2]; exact congrArg some hu')
      exact this.leaf_one (List.all_eq_true.1 hall _ (List.getElem_mem hi'))
    · cases hc
  | undef => cases hc
  | tup => cases hc
  | d y => simp [AV.cellsOf] at hc; exact single (.d y) rfl rfl hc.symm
  | ptr => simp [AV.cellsOf] at hc; exact single _ rfl rfl hc.symm
  | dptr => simp [AV.cellsOf] at hc; exact single _ rfl rfl hc.symm
  | ref => simp [AV.cellsOf] at hc; exact single _ rfl rfl hc.symm
  | clo => simp [AV.cellsOf] at hc; exact single _ rfl rfl hc.symm
  | rcap => simp [AV.cellsOf] at hc; exact single _ rfl rfl hc.symm
  | mapr => simp [AV.cellsOf] at hc; exact single _ rfl rfl hc.symm

theorem zeroA_spec {t : TypeId} {z : List AV} (h : zeroA P t = some z) :
    ∃ (i : TypeInfo) (v : Value), P.info? t = some i ∧ i.zero = some v ∧ i.size = z.length ∧ (∀ (φ : Nat → Option (Nat × Nat)) (M : Nat → Prop) (w : World), RelL φ M w z v.cells.toList) ∧
      lowSz P t = some z.length ∧ z.all AV.leaf = true := by
  unfold zeroA at h
  obtain ⟨i, h1, h⟩ := Option.bind_eq_some_iff.1 h
  obtain ⟨v, h2, h⟩ := Option.bind_eq_some_iff.1 h
  obtain ⟨l, h3, h⟩ := Option.bind_eq_some_iff.1 h
  split at h
  · rename_i hlen
    simp only [Option.some.injEq] at h; subst h
    obtain ⟨g1, g2⟩ := cvals_get _ _ h3
    have hget : ∀ (j : Nat) (x : AV), l[j]? = some x → ∃ u, v.cells.toList[j]? = some u ∧ cval u = some x := by
      intro j x hx
      have hj : j < l.length := by
        rcases Nat.lt_or_ge j l.length with hl | hl
        · exact hl
        · rw [List.getElem?_eq_none hl] at hx; cases hx
      have hj' : j < v.cells.toList.length := by omega
      exact ⟨_, List.getElem?_eq_getElem hj', g2 j _ x (List.getElem?_eq_getElem hj') hx⟩
    refine ⟨i, v, h1, h2, hlen.symm, fun φ M w => ⟨g1.symm, fun j x u hx hu => ?_⟩, by simp [lowSz, h1, hlen], List.all_eq_true.2 fun x hx => ?_⟩
    · obtain ⟨u', hu', hc⟩ := hget j x hx
      rw [hu] at hu'; cases hu'
      exact (cval_rel hc).1
    · obtain ⟨j, hj, rfl⟩ := List.mem_iff_getElem.1 hx
      obtain ⟨u', hu', hc⟩ := hget j _ (List.getElem?_eq_getElem hj)
      exact (cval_rel (φ := fun _ => none) (M := fun _ => False) (w := default) hc).2
  · cases h

/-! ### Whole numbers -/
theorem run_bin {op : BinOp} {t : TypeId} {xo yo : Operand} {x y : AV} {vx vy : Value} (hx : Rel φ M w x vx) (hy : Rel φ M w y vy) {k : DV → Prop} (h : actBin op x y k) :
    ∃ v z, (do eqGuard op t xo yo vx vy; binOp op t vx vy : Sem Value).run P w = .ok v w ∧ RelD M w z v ∧ k z := by
  unfold actBin at h
  split at h
  · rename_i ka a kb b
    have e1 := hx.int_inv
    have e2 := hy.int_inv
    subst e1; subst e2
    cases op <;> simp only [binI] at h
    case add => obtain ⟨rfl, h⟩ := h; exact ⟨_, _, by simp [go_sem, Op.intArith], .int _ _, h⟩
    case sub => obtain ⟨rfl, h⟩ := h; exact ⟨_, _, by simp [go_sem, Op.intArith], .int _ _, h⟩
    case mul => obtain ⟨rfl, h⟩ := h; exact ⟨_, _, by simp [go_sem, Op.intArith], .int _ _, h⟩
    case quo => obtain ⟨rfl, h0, h⟩ := h; exact ⟨_, _, by simp [go_sem, Op.intDiv, h0]  , .int _ _, h⟩
    case rem => obtain ⟨rfl, h0, h⟩ := h; exact ⟨_, _, by simp [go_sem, Op.intDiv, h0]  , .int _ _, h⟩
    case and => obtain ⟨rfl, h⟩ := h; exact ⟨_, _, by simp [go_sem]  , .int _ _, h⟩
    case or => obtain ⟨rfl, h⟩ := h; exact ⟨_, _, by simp [go_sem]  , .int _ _, h⟩
    case xor => obtain ⟨rfl, h⟩ := h; exact ⟨_, _, by simp [go_sem]  , .int _ _, h⟩
    case andNot => obtain ⟨rfl, h⟩ := h; exact ⟨_, _, by simp [go_sem]  , .int _ _, h⟩
    case shl => obtain ⟨h0, h⟩ := h; exact ⟨_, _, by simp [go_sem, Op.shift, Int.not_lt.2 h0]  , .int _ _, h⟩
    case shr => obtain ⟨h0, h⟩ := h; exact ⟨_, _, by simp [go_sem, Op.shift, Int.not_lt.2 h0]  , .int _ _, h⟩
    case eql => obtain ⟨rfl, h⟩ := h; exact ⟨.bool (decide (a = b)), _, by simp only [eqGuard_at_int, pure_bind, binOp_eql]; rfl, .bool _, h⟩
    case neq => obtain ⟨rfl, h⟩ := h; exact ⟨.bool (!decide (a = b)), _, by simp only [eqGuard_at_int, pure_bind, binOp_neq]; rfl, .bool _, h⟩
    case lss => obtain ⟨rfl, h⟩ := h; exact ⟨_, _, by simp [go_sem]  , .bool _, h⟩
    case leq => obtain ⟨rfl, h⟩ := h; exact ⟨_, _, by simp [go_sem]  , .bool _, h⟩
    case gtr => obtain ⟨rfl, h⟩ := h; exact ⟨_, _, by simp [go_sem]  , .bool _, h⟩
    case geq => obtain ⟨rfl, h⟩ := h; exact ⟨_, _, by simp [go_sem]  , .bool _, h⟩
  · exact h.elim

theorem nan_order {k : FloatKind} {b : Nat} (h : (k.format.read b).isNaN = true) (c : Nat) : k.format.order b c = none ∧ k.format.order c b = none := by
  unfold Ieee.Format.order
  cases hb : k.format.read b with
  | nan s f => exact ⟨rfl, by cases k.format.read c <;> rfl⟩
  | number => rw [hb] at h; cases h
  | infinity => rw [hb] at h; cases h

theorem run_nanBin {op : BinOp} {t : TypeId} {xo yo : Operand} {k : FloatKind} {a b : Nat} {z : DV} (hn : k.format.order a b = none) (h : nanBin op = some z) :
    ∃ v, (do eqGuard op t xo yo (.float k a) (.float k b); binOp op t (.float k a) (.float k b) : Sem Value).run P w = .ok v w ∧ RelD M w z v := by
  cases op <;> simp only [nanBin] at h <;> try (cases h; done)
  all_goals (simp only [Option.some.injEq] at h; subst h; exact ⟨.bool _, by simp only [eqGuard_at_float, pure_bind]; simp [binOp, Op.floatCmp, hn], .bool _⟩)

theorem nan_bits (k : FloatKind) (x y t : Nat) : (k.format.read ((Question.nanBits k x y).cut t)).isNaN = true := by
  cases k with
  | f64 =>
    show (Ieee.double.read ((t % 2) * 2 ^ 63 + 0x7ff0000000000000 + 1 + (t / 2) % (2 ^ 52 - 1))).isNaN = true
    unfold Ieee.Format.read
    simp only [show Ieee.double.signWeight = 9223372036854775808 from rfl, show Ieee.double.binade = 4503599627370496 from rfl, show Ieee.double.infRung = 9218868437227405312 from rfl]
    have e : ((t % 2) * 2 ^ 63 + 0x7ff0000000000000 + 1 + (t / 2) % (2 ^ 52 - 1)) % 9223372036854775808 = 9218868437227405313 + (t / 2) % (2 ^ 52 - 1) := by omega
    rw [e, if_neg (by omega), if_neg (by omega), if_neg (by omega)]
    rfl
  | f32 =>
    show (Ieee.single.read ((t % 2) * 2 ^ 31 + 0x7f800000 + 1 + (t / 2) % (2 ^ 23 - 1))).isNaN = true
    unfold Ieee.Format.read
    simp only [show Ieee.single.signWeight = 2147483648 from rfl, show Ieee.single.binade = 8388608 from rfl, show Ieee.single.infRung = 2139095040 from rfl]
    have e : ((t % 2) * 2 ^ 31 + 0x7f800000 + 1 + (t / 2) % (2 ^ 23 - 1)) % 2147483648 = 2139095041 + (t / 2) % (2 ^ 23 - 1) := by omega
    rw [e, if_neg (by omega), if_neg (by omega), if_neg (by omega)]
    rfl

theorem run_fltBin {op : BinOp} {t : TypeId} {xo yo : Operand} {x y : AV} {vx vy : Value} (hx : Rel φ M w x vx) (hy : Rel φ M w y vy) {z : DV} (h : fltV (.bin op) x y = some z) :
    ∃ v w', (do eqGuard op t xo yo vx vy; binOp op t vx vy : Sem Value).run P w = .ok v w' ∧ (w' = w ∨ w' = w.drew) ∧ RelD M w' z v := by
  unfold fltV at h
  split at h
  case h_1 op' k a k' b he =>
    cases he
    split at h
    · rename_i e; subst e
      have e1 : vx = .float k a := by
        cases hx with
        | d _ _ h => cases h; rfl
      have e2 : vy = .float k b := by
        cases hy with
        | d _ _ h => cases h; rfl
      subst e1; subst e2
      cases op <;> simp only [fltBin] at h
      case add => obtain ⟨r, hr, rfl⟩ := Option.map_eq_some_iff.1 h; exact ⟨.float k r, w, by simp [go_sem, binOp, Op.floatArith, hr], .inl rfl, .flt _ _⟩
      case sub => obtain ⟨r, hr, rfl⟩ := Option.map_eq_some_iff.1 h; exact ⟨.float k r, w, by simp [go_sem, binOp, Op.floatArith, hr], .inl rfl, .flt _ _⟩
      case mul => obtain ⟨r, hr, rfl⟩ := Option.map_eq_some_iff.1 h; exact ⟨.float k r, w, by simp [go_sem, binOp, Op.floatArith, hr], .inl rfl, .flt _ _⟩
      case quo =>
        simp only [Option.some.injEq] at h; subst h
        cases hr : k.format.div a b with
        | some r => exact ⟨.float k r, w, by simp [go_sem, binOp, Op.floatArith, hr], .inl rfl, .flt _ _⟩
        | none => exact ⟨.float k ((Question.nanBits k a b).cut (w.tape w.drawn (.nanBits k a b))), w.drew, by simp [go_sem, binOp, Op.floatArith, hr, Question.forced], .inr rfl, .nan _ _ (nan_bits k a b _)⟩
      case eql => simp only [Option.some.injEq] at h; subst h; exact ⟨.bool _, w, by simp only [eqGuard_at_float, pure_bind]; simp [binOp, Op.floatCmp], .inl rfl, .bool _⟩
      case neq => simp only [Option.some.injEq] at h; subst h; exact ⟨.bool _, w, by simp only [eqGuard_at_float, pure_bind]; simp [binOp, Op.floatCmp], .inl rfl, .bool _⟩
      case lss => simp only [Option.some.injEq] at h; subst h; exact ⟨.bool _, w, by simp only [eqGuard_at_float, pure_bind]; simp [binOp, Op.floatCmp], .inl rfl, .bool _⟩
      case leq => simp only [Option.some.injEq] at h; subst h; exact ⟨.bool _, w, by simp only [eqGuard_at_float, pure_bind]; simp [binOp, Op.floatCmp], .inl rfl, .bool _⟩
      case gtr => simp only [Option.some.injEq] at h; subst h; exact ⟨.bool _, w, by simp only [eqGuard_at_float, pure_bind]; simp [binOp, Op.floatCmp], .inl rfl, .bool _⟩
      case geq => simp only [Option.some.injEq] at h; subst h; exact ⟨.bool _, w, by simp only [eqGuard_at_float, pure_bind]; simp [binOp, Op.floatCmp], .inl rfl, .bool _⟩
      all_goals cases h
    · cases h
  case h_2 op' k k' b he =>
    cases he
    split at h
    · rename_i e; subst e
      obtain ⟨a, e1, ha⟩ : ∃ a, vx = .float k a ∧ (k.format.read a).isNaN = true := by
        cases hx with
        | d _ _ h => cases h with | nan _ a h => exact ⟨a, rfl, h⟩
      have e2 : vy = .float k b := by
        cases hy with
        | d _ _ h => cases h; rfl
      subst e1; subst e2
      obtain ⟨v, h1, h2⟩ := run_nanBin (P := P) (M := M) (w := w) (t := t) (xo := xo) (yo := yo) (nan_order ha b).1 h
      exact ⟨v, w, h1, .inl rfl, h2⟩
    · cases h
  case h_3 op' k a k' he =>
    cases he
    split at h
    · rename_i e; subst e
      obtain ⟨b, e1, hb⟩ : ∃ a, vy = .float k a ∧ (k.format.read a).isNaN = true := by
        cases hy with
        | d _ _ h => cases h with | nan _ a h => exact ⟨a, rfl, h⟩
      have e2 : vx = .float k a := by
        cases hx with
        | d _ _ h => cases h; rfl
      subst e1; subst e2
      obtain ⟨v, h1, h2⟩ := run_nanBin (P := P) (M := M) (w := w) (t := t) (xo := xo) (yo := yo) (nan_order hb a).2 h
      exact ⟨v, w, h1, .inl rfl, h2⟩
    · cases h
  case h_4 op' k k' he =>
    cases he
    split at h
    · rename_i e; subst e
      obtain ⟨a, e1, ha⟩ : ∃ a, vx = .float k a ∧ (k.format.read a).isNaN = true := by
        cases hx with
        | d _ _ h => cases h with | nan _ a h => exact ⟨a, rfl, h⟩
      obtain ⟨b, e2, hb⟩ : ∃ a, vy = .float k a ∧ (k.format.read a).isNaN = true := by
        cases hy with
        | d _ _ h => cases h with | nan _ a h => exact ⟨a, rfl, h⟩
      subst e1; subst e2
      obtain ⟨v, h1, h2⟩ := run_nanBin (P := P) (M := M) (w := w) (t := t) (xo := xo) (yo := yo) (nan_order ha b).1 h
      exact ⟨v, w, h1, .inl rfl, h2⟩
    · cases h
  all_goals first | (rename_i he; cases he; done) | cases h | (rename_i he _; cases he) | skip

theorem run_un {op : UnOp} {x : AV} {vx : Value} (hx : Rel φ M w x vx) {k : DV → Prop} (h : actUn op x k) : ∃ v z, (Op.unary op vx).run P w = .ok v w ∧ RelD M w z v ∧ k z := by
  unfold actUn at h
  split at h
  · have e1 := hx.int_inv; subst e1; exact ⟨_, _, by simp [Op.unary, Op.intArith]  , .int _ _, h⟩
  · have e1 := hx.int_inv; subst e1; exact ⟨_, _, by simp [Op.unary, go_sem]  , .int _ _, h⟩
  · have e1 := Rel.bool_inv hx; subst e1; exact ⟨_, _, by simp [Op.unary]  , .bool _, h⟩
  · exact h.elim

end
end Go.Ago

/- Runs of loads, stores, addresses, slices: what the world does, and what the abstract heap does. Conditions: none. -/
set_option linter.unusedSimpArgs false
set_option linter.unusedVariables false
namespace Go.Ago

section
variable {A : Nat → Prop} {φ : Nat → Option (Nat × Nat)} {H : Heap} {w : World} {P : Program}

theorem HO.row_rows {o : HO} {sz row : Nat} {r : List AV} (h : o.row sz row = some r) : ∃ rows, o.rows = some (sz, rows) ∧ rows[row]? = some r := by
  cases o with
  | dead | mapo | iter => cases h
  | vec sz' rows =>
    simp only [HO.row] at h
    split at h
    · subst_vars; exact ⟨rows, rfl, h⟩
    · cases h
  | dvec sz' rows =>
    simp only [HO.row] at h
    split at h
    · subst_vars; exact ⟨_, rfl, by simpa using h⟩
    · cases h

/-- The cells of one row of ours, as they lie in memory. -/
theorem row_cells (hs : SimH P A φ H w) {id sz row b o : Nat} {r : List AV} (hr : (H.at id).row sz row = some r) (hb : φ id = some (b, o)) :
    ∃ c T, w.heap[b]? = some (.cells c T (0, 0)) ∧ r.length = sz ∧ o + (row + 1) * sz ≤ c.size ∧ RelL φ (Mb A φ H) w r ((c.toList.drop (o + row * sz)).take sz) := by
  obtain ⟨rows, h1, h2⟩ := HO.row_rows hr
  obtain ⟨c, T, e1, e2, e3, e4⟩ := hs.objs id b o (HO.alive_of ⟨_, _, h1⟩) hb sz rows h1
  have hrow : row < rows.length := by
    rcases Nat.lt_or_ge row rows.length with hl | hl
    · exact hl
    · rw [List.getElem?_eq_none hl] at h2; cases h2
  have hlen := e3 r (List.mem_of_getElem? h2)
  have hfit : o + (row + 1) * sz ≤ c.size := by
    have : (row + 1) * sz ≤ rows.length * sz := Nat.mul_le_mul_right _ hrow
    omega
  refine ⟨c, T, e1, hlen, hfit, ?_, fun i x v hx hv => ?_⟩
  · rw [Nat.add_mul] at hfit
    simp; omega
  · obtain ⟨u, hu, hrel⟩ := e4 row r i x h2 hx
    rw [List.getElem?_take] at hv
    split at hv
    · rw [List.getElem?_drop] at hv
      have : c[o + row * sz + i]? = some v := by rw [← Array.getElem?_toList]; exact hv
      rw [hu] at this; cases this; exact hrel
    · cases hv

theorem loadRow_rel {r : List AV} {vs : List Value} {M : Nat → Prop} (h : RelL φ M w r vs) {g : Bool} {sz j : Nat} {x : AV} (hl : loadRow g sz j r = some x) :
    (g = true ∧ j + sz ≤ r.length ∧ Rel φ M w x (.agg ((vs.drop j).take sz).toArray)) ∨ (g = false ∧ ∃ v, vs[j]? = some v ∧ Rel φ M w x v) := by
  unfold loadRow at hl
  cases g with
  | true =>
    simp only [if_true] at hl
    split at hl
    · simp only [Option.some.injEq] at hl; subst hl
      rename_i hj
      exact .inl ⟨rfl, hj, ((h.drop j).take sz).agg⟩
    · cases hl
  | false =>
    simp only [Bool.false_eq_true, if_false] at hl
    obtain ⟨v, hv, hr⟩ := h.at hl
    exact .inr ⟨rfl, v, hv, hr⟩

/-- A read of cells whose values are known. -/
theorem run_loadAt {t : TypeId} {g : Bool} {sz b q : Nat} (hg : lowAgg P t = some g) (hsz : lowSz P t = some sz) {M : Nat → Prop} {r : List AV} {vs : List Value} (h : RelL φ M w r vs)
    (hc : ∀ j v, vs[j]? = some v → w.cell? ⟨b, q + j, none⟩ = some v) {j : Nat} {x : AV} (hl : loadRow g sz j r = some x) :
    ∃ v, (Instr.loadAt t (.pointer (some ⟨b, q + j, none⟩))).run P w = .ok v w ∧ Rel φ M w x v := by
  rcases loadRow_rel h hl with ⟨rfl, hj, hr⟩ | ⟨rfl, v, hv, hr⟩
  · refine ⟨_, ?_, hr⟩
    have hlen : ((vs.drop j).take sz).length = sz := by have := h.len; simp; omega
    simp only [Instr.loadAt, Instr.sureAddr, pure_bind]
    refine run_loadVar_agg hg _ (by rw [hlen]; exact hsz) (fun i v hv => ?_)
    rw [List.getElem?_take] at hv
    split at hv
    · rw [List.getElem?_drop] at hv
      have := hc (j + i) v hv
      rwa [← Nat.add_assoc] at this
    · cases hv
  · refine ⟨v, ?_, hr⟩
    simp only [Instr.loadAt, Instr.sureAddr, pure_bind]
    exact run_loadVar_one hg (hc j v hv)

theorem run_load_op (hs : SimH P A φ H w) {t : TypeId} {g : Bool} {sz : Nat} (hg : lowAgg P t = some g) (hsz : lowSz P t = some sz) {x : AV} {vx : Value}
    (hx : Rel φ (Mb A φ H) w x vx) {k : Delta → Prop} (h : actLoad H g sz x k) : ∃ v z ids, (Instr.loadAt t vx).run P w = .ok v w ∧ Rel φ (Mb A φ H) w z v ∧ k ⟨z, [], ids⟩ := by
  unfold actLoad at h
  split at h
  · rename_i id sz0 row j
    obtain ⟨r, hr, z, hz, hk⟩ := h
    cases hx with
    | ptr _ _ _ _ b o hb =>
      obtain ⟨c, T, e1, e2, e3, e4⟩ := row_cells hs hr hb
      obtain ⟨v, h1, h2⟩ := run_loadAt (P := P) hg hsz e4 (b := b) (q := o + row * sz0) (fun i v hv => by
        rw [cell_block e1]
        rw [List.getElem?_take] at hv
        split at hv
        · rw [List.getElem?_drop] at hv
          rw [← Array.getElem?_toList]; exact hv
        · cases hv) hz
      exact ⟨v, z, _, h1, h2, hk⟩
  · rename_i cs j
    obtain ⟨z, hz, hk⟩ := h
    cases hx with
    | dptr _ _ b off f hlt hM hc hr =>
      rw [← loadRowD_eq] at hz
      have hrl : RelL φ (Mb A φ H) w (cs.map .d) ((List.range cs.length).map f) := by
        refine ⟨by simp, fun i x v hx hv => ?_⟩
        simp only [List.getElem?_map, Option.map_eq_some_iff] at hx hv
        obtain ⟨y, hy, rfl⟩ := hx
        obtain ⟨i', hi', rfl⟩ := hv
        rw [List.getElem?_range] at hi'
        · cases hi'; exact .d _ _ (hr i y hy)
        · rcases Nat.lt_or_ge i cs.length with hl | hl
          · exact hl
          · rw [List.getElem?_eq_none hl] at hy; cases hy
      obtain ⟨v, h1, h2⟩ := run_loadAt (P := P) hg hsz hrl (b := b) (q := off) (fun i v hv => by
        simp only [List.getElem?_map, Option.map_eq_some_iff] at hv
        obtain ⟨i', hi', rfl⟩ := hv
        have hlt' : i < cs.length := by
          rcases Nat.lt_or_ge i cs.length with hl | hl
          · exact hl
          · rw [List.getElem?_eq_none (by simpa using hl)] at hi'; cases hi'
        rw [List.getElem?_range hlt'] at hi'
        cases hi'
        exact hc i cs[i] (List.getElem?_eq_getElem hlt')) hz
      exact ⟨v, z, _, h1, h2, hk⟩
  · exact h.elim

theorem putRow_get {α : Type} (j : Nat) (cs r : List α) (h : j + cs.length ≤ r.length) (i : Nat) :
    (putRow j cs r)[i]? = if j ≤ i ∧ i < j + cs.length then cs[i - j]? else r[i]? := by
  unfold putRow
  rw [List.append_assoc, List.getElem?_append]
  simp only [List.length_take, Nat.min_eq_left (show j ≤ r.length by omega)]
  by_cases h1 : i < j
  · rw [if_pos h1, if_neg (by omega), List.getElem?_take, if_pos h1]
  · rw [if_neg h1, List.getElem?_append]
    by_cases h2 : i - j < cs.length
    · rw [if_pos h2, if_pos (by omega)]
    · rw [if_neg h2, if_neg (by omega), List.getElem?_drop]
      congr 1; omega

theorem HO.put_rows {o o' : HO} {sz row j : Nat} {cs : List AV} {rows : List (List AV)} (h : o.rows = some (sz, rows)) (hp : o.put row j cs = some o') :
    ∃ r, rows[row]? = some r ∧ j + cs.length ≤ sz ∧ o'.rows = some (sz, rows.set row (putRow j cs r)) := by
  cases o with
  | dead | mapo | iter => cases h
  | vec sz' rows' =>
    simp only [HO.rows, Option.some.injEq, Prod.mk.injEq] at h; obtain ⟨rfl, rfl⟩ := h
    simp only [HO.put, Option.bind_eq_some_iff] at hp
    obtain ⟨r, h1, h2⟩ := hp
    split at h2
    · cases h2; exact ⟨r, h1, by assumption, rfl⟩
    · cases h2
  | dvec sz' rows' =>
    simp only [HO.rows, Option.some.injEq, Prod.mk.injEq] at h; obtain ⟨rfl, rfl⟩ := h
    simp only [HO.put, Option.bind_eq_some_iff] at hp
    obtain ⟨r, h1, ds, h3, h2⟩ := hp
    split at h2
    · cases h2
      refine ⟨r.map .d, by simp [h1], by assumption, ?_⟩
      have hds := dcells_map _ _ h3
      subst hds
      simp [HO.rows, List.map_set, putRow, List.map_take, List.map_drop]
    · cases h2

theorem run_store_op (hs : SimH P A φ H w) {t : TypeId} {sz : Nat} (hsz : lowSz P t = some sz) {x y : AV} {vx vy : Value} (hx : Rel φ (Mb A φ H) w x vx)
    (hy : Rel φ (Mb A φ H) w y vy) {k : Delta → Prop} (h : actStore H sz x y k) :
    ∃ w' id o, (Instr.storeAt t vx vy).run P w = .ok () w' ∧ SimH P A φ (H.set id o) w' ∧ Onward A φ H w φ (H.set id o) w' ∧ k ⟨.tup [], [(id, o)], []⟩ := by
  unfold actStore at h
  split at h
  · rename_i id sz0 row j
    obtain ⟨cs, h1, h2, ⟨r0, h3⟩, o', h4, hk⟩ := h
    cases hx with
    | ptr _ _ _ _ b o hb =>
      obtain ⟨hrl, hone, hleaf⟩ := cellsOf_rel hy h1
      obtain ⟨rows, g1, g2⟩ := HO.row_rows h3
      obtain ⟨r, g3, g4, g5⟩ := HO.put_rows g1 h4
      rw [g2] at g3; cases g3
      have hal : (H.at id).alive := HO.alive_of ⟨_, _, g1⟩
      obtain ⟨c, T, e1, e2, e3, e4⟩ := hs.objs id b o hal hb sz0 rows g1
      have hrow : row < rows.length := by
        rcases Nat.lt_or_ge row rows.length with hl | hl
        · exact hl
        · rw [List.getElem?_eq_none hl] at g2; cases g2
      have hr0 := e3 r0 (List.mem_of_getElem? g2)
      have hcs : vy.cells.size = cs.length := by have := hrl.len; simpa using this
      have hfit : (row + 1) * sz0 ≤ rows.length * sz0 := Nat.mul_le_mul_right _ hrow
      rw [Nat.add_mul] at hfit
      have hrun := run_storeVar (P := P) (t := t) (w := w) (b := b) (o := o + row * sz0 + j) (c := c) (T := T) (v := vy) (by rw [hcs, h2]; exact hsz) e1 (by omega) hone
      refine ⟨_, id, o', by simp only [Instr.storeAt, Instr.sureAddr, pure_bind]; exact hrun, ?_⟩
      have hch := hs.change hal hb e1 (c' := arrPut c (o + row * sz0 + j) vy.cells.toList) (arrPut_size _ _ _) g5 (by simpa using e2) (fun q hq => by
        rcases List.mem_or_eq_of_mem_set hq with hq | hq
        · exact e3 q hq
        · subst hq; simp [putRow]; omega) (fun kk q i z hq hz => by
          rw [arrPut_get _ _ _ _ (by simp only [Array.length_toList]; omega)]
          simp only [Array.length_toList]
          rw [List.getElem?_set] at hq
          by_cases hkk : row = kk
          · subst hkk
            rw [if_pos rfl, if_pos hrow] at hq
            cases hq
            rw [putRow_get _ _ _ (by omega)] at hz
            by_cases hin : j ≤ i ∧ i < j + cs.length
            · rw [if_pos hin] at hz
              rw [if_pos (by omega), show o + row * sz0 + i - (o + row * sz0 + j) = i - j by omega]
              exact hrl.at hz
            · rw [if_neg hin] at hz
              rw [if_neg (by omega)]
              exact e4 row r0 i z g2 hz
          · rw [if_neg hkk] at hq
            have hi : i < sz0 := by
              have := e3 q (List.mem_of_getElem? hq)
              rcases Nat.lt_or_ge i q.length with hl | hl
              · omega
              · rw [List.getElem?_eq_none hl] at hz; cases hz
            have hnot : ¬ (o + row * sz0 + j ≤ o + kk * sz0 + i ∧ o + kk * sz0 + i < o + row * sz0 + j + vy.cells.size) := by
              rcases Nat.lt_or_gt_of_ne hkk with hlt | hgt
              · have := Nat.mul_le_mul_right sz0 hlt
                rw [Nat.succ_mul] at this
                omega
              · have := Nat.mul_le_mul_right sz0 hgt
                rw [Nat.succ_mul] at this
                omega
            rw [if_neg hnot]
            exact e4 kk q i z hq hz)
      exact ⟨hch.1, hch.2, hk⟩
  · exact h.elim

end
end Go.Ago

/- Runs of addresses and slices. Conditions: none. -/
set_option linter.unusedSimpArgs false
set_option linter.unusedVariables false
namespace Go.Ago

section
variable {φ : Nat → Option (Nat × Nat)} {M : Nat → Prop} {w : World} {P : Program}

theorem run_fieldAddr {s : TypeId} {fs : Array Field} {f : Nat} {fd : Field} {sz : Nat} (h1 : P.underlying s = some (.struct fs)) (h2 : fs[f]? = some fd) (h3 : lowSz P fd.type = some sz) (h4 : sz ≠ 0)
    (b q : Nat) : (Instr.fieldAt s (.pointer (some ⟨b, q, none⟩)) f).run P w = .ok (.pointer (some ⟨b, q + fd.offset, none⟩)) w := by
  simp [Instr.fieldAt, run_underlying h1, h2, Instr.sureAddr, fieldPlace, Z3v h3, h4, addr_add]

theorem run_field_op {s : TypeId} {fs : Array Field} {f : Nat} {fd : Field} {sz : Nat} {g : Bool} (h1 : P.underlying s = some (.struct fs)) (h2 : fs[f]? = some fd) (h3 : lowSz P fd.type = some sz)
    (h4 : lowAgg P fd.type = some g) {cs : List AV} {vx : Value} (hx : Rel φ M w (.agg cs) vx) {x : AV} (hl : loadRow g sz fd.offset cs = some x) :
    ∃ v, (Instr.field s vx f).run P w = .ok v w ∧ Rel φ M w x v := by
  obtain ⟨vs, rfl, hr⟩ := hx.agg_inv
  rcases loadRow_rel hr hl with ⟨rfl, hj, h⟩ | ⟨rfl, v, hv, h⟩
  · refine ⟨_, ?_, h⟩
    simp only [Instr.field, Sem.run_bind, run_underlying h1, Result.andThen_ok, h2, asAgg, Sem.run_pure, part, run_isAgg h4, Z3v h3, if_true]
    congr 2
    apply Array.ext'
    simp [Array.toList_extract, List.extract_eq_take_drop]
  · refine ⟨v, ?_, h⟩
    have hv' : vs[fd.offset]? = some v := by rw [← Array.getElem?_toList]; exact hv
    simp [Instr.field, run_underlying h1, h2, asAgg, part, run_isAgg h4, hv']

theorem run_idxArr_op {t e : TypeId} {len sz : Nat} {g : Bool} (h1 : P.underlying t = some (.array len e)) (h3 : lowSz P e = some sz) (h4 : lowAgg P e = some g) {x i : AV} {vx vi : Value}
    (hx : Rel φ M w x vx) (hi : Rel φ M w i vi) {k : AV → Prop} (h : actIdxArr g len sz x i k) : ∃ v z, (Instr.index t vx vi).run P w = .ok v w ∧ Rel φ M w z v ∧ k z := by
  unfold actIdxArr at h
  split at h
  · rename_i cs kd n
    obtain ⟨h0, hn, z, hl, hk⟩ := h
    obtain ⟨vs, rfl, hr⟩ := hx.agg_inv
    have e2 := hi.int_inv; subst e2
    rcases loadRow_rel hr hl with ⟨rfl, hj, h⟩ | ⟨rfl, v, hv, h⟩
    · refine ⟨_, z, ?_, h, hk⟩
      simp only [Instr.index, asIntOf, Sem.run_bind, Sem.run_pure, run_underlying h1, Result.andThen_ok, part, run_isAgg h4, Z3v h3, if_true]
      simp only [h0, hn, and_self, if_true, Sem.run_bind, Z3v h3, Result.andThen_ok, run_isAgg h4, Sem.run_pure]
      congr 2
      apply Array.ext'
      simp [Array.toList_extract, List.extract_eq_take_drop]
    · refine ⟨v, z, ?_, h, hk⟩
      have hv' : vs[n.toNat * sz]? = some v := by rw [← Array.getElem?_toList]; exact hv
      simp [Instr.index, asIntOf, run_underlying h1, h0, hn, part, run_isAgg h4, Z3v h3, hv']
  · exact h.elim

theorem run_idxAddr_op {t e : TypeId} {sz : Nat} (h1 : P.underlying t = some (.slice e)) (h3 : lowSz P e = some sz) {x i : AV} {vx vi : Value}
    (hx : Rel φ M w x vx) (hi : Rel φ M w i vi) {k : AV → Prop} (h : actIdxAddr sz x i k) : ∃ v z, (Instr.indexAt t vx vi).run P w = .ok v w ∧ Rel φ M w z v ∧ k z := by
  unfold actIdxAddr at h
  split at h
  · rename_i id sz0 row len room kd n
    obtain ⟨rfl, h0, hn, hk⟩ := h
    have e2 := hi.int_inv; subst e2
    cases hx with
    | ref0 _ _ _ _ a => omega
    | ref _ _ _ _ b o cap _ c T hb hcap hroom hheap hfit =>
      refine ⟨_, _, ?_, .ptr id sz0 (row + n.toNat) 0 b o hb, hk⟩
      simp only [Instr.indexAt, asIntOf, Sem.run_bind, Sem.run_pure, run_underlying h1, Result.andThen_ok, h0, hn, and_self, if_true, Z3v h3, addr_add]
      congr 4
      rw [Nat.add_mul]; omega
  · rename_i rows full kd n
    obtain ⟨h0, r, hr, hlen, hk⟩ := h
    have e2 := hi.int_inv; subst e2
    have hn : n.toNat < rows.length := by
      rcases Nat.lt_or_ge n.toNat rows.length with hl | hl
      · exact hl
      · rw [List.getElem?_eq_none hl] at hr; cases hr
    cases hx with
    | d _ _ hx =>
      cases hx with
      | nil => simp at hr
      | list _ _ sz' b off cap f hb hM hsz hcap hfull hc hrr =>
        have hsz' := hsz r (List.mem_of_getElem? hr)
        have e : sz' = sz := by omega
        subst e
        refine ⟨_, _, ?_, .dptr r 0 b (off + n.toNat * sz') (f n.toNat) hb hM (fun j y hy => ?_) (fun j y hy => hrr n.toNat r j y hr hy), hk⟩
        · simp only [Instr.indexAt, asIntOf, Sem.run_bind, Sem.run_pure, run_underlying h1, Result.andThen_ok]
          rw [if_pos ⟨h0, by omega⟩]
          simp only [Sem.run_bind, Z3v h3, Result.andThen_ok, Sem.run_pure, addr_add, Nat.add_zero]
        · have := hc n.toNat r j y hr hy
          rwa [← Nat.add_assoc] at this
  · exact h.elim

theorem run_idxArrAddr_op {t e : TypeId} {len sz : Nat} (h1 : P.underlying t = some (.array len e)) (h3 : lowSz P e = some sz) {x i : AV} {vx vi : Value}
    (hx : Rel φ M w x vx) (hi : Rel φ M w i vi) {k : AV → Prop} (h : actIdxArrAddr len sz x i k) : ∃ v z, (Instr.indexAt t vx vi).run P w = .ok v w ∧ Rel φ M w z v ∧ k z := by
  unfold actIdxArrAddr at h
  split at h
  · rename_i id sz0 row j kd n
    obtain ⟨h0, hn, hk⟩ := h
    have e2 := hi.int_inv; subst e2
    cases hx with
    | ptr _ _ _ _ b o hb =>
      refine ⟨_, _, ?_, .ptr id sz0 row (j + n.toNat * sz) b o hb, hk⟩
      simp only [Instr.indexAt, asIntOf, Sem.run_bind, Sem.run_pure, run_underlying h1, Result.andThen_ok, Instr.sureAddr, h0, hn, and_self, if_true, Z3v h3, addr_add, Nat.add_assoc]
  · rename_i cs j kd n
    obtain ⟨h0, hn, hk⟩ := h
    have e2 := hi.int_inv; subst e2
    cases hx with
    | dptr _ _ b off f hlt hM hc hr =>
      refine ⟨_, _, ?_, .dptr cs (j + n.toNat * sz) b off f hlt hM hc hr, hk⟩
      simp only [Instr.indexAt, asIntOf, Sem.run_bind, Sem.run_pure, run_underlying h1, Result.andThen_ok, Instr.sureAddr, h0, hn, and_self, if_true, Z3v h3, addr_add, Nat.add_assoc]
  · exact h.elim

/-- A bound that is there, or not. -/
def OI (v : Option Value) (d n : Int) : Prop := (v = none ∧ n = d) ∨ ∃ k, v = some (.int k n)

theorem run_sliceBound {v : Value} {k : IntKind} {i : Int} {y : Nat} {cd : BoundsCode} (hv : v = .int k i) (h0 : 0 ≤ i) (h1 : i ≤ y) : (Instr.sliceBound v y cd).run P w = .ok i.toNat w := by
  subst hv
  simp [Instr.sliceBound, asIntOf, h0, h1]

theorem run_bounds {len cap : Nat} {lo hi mx : Option Value} {l h m : Int} (hl : OI lo 0 l) (hh : OI hi len h) (hm : OI mx h m) (h0 : 0 ≤ l) (h1 : l ≤ h) (h2 : h ≤ m) (h3 : m ≤ cap) (h4 : mx.isSome = true → hi.isSome = true) :
    (Instr.sliceBounds true len cap lo hi mx).run P w = .ok (l.toNat, h.toNat, if mx.isSome then m.toNat else cap) w := by
  rcases hm with ⟨rfl, rfl⟩ | ⟨km, rfl⟩
  · rcases hh with ⟨rfl, rfl⟩ | ⟨kh, rfl⟩
    · rcases hl with ⟨rfl, rfl⟩ | ⟨kl, rfl⟩
      · simp [Instr.sliceBounds]
      · simp [Instr.sliceBounds, run_sliceBound rfl h0 h1]
    · rcases hl with ⟨rfl, rfl⟩ | ⟨kl, rfl⟩
      · simp [Instr.sliceBounds, run_sliceBound (P := P) (w := w) (cd := .sliceAcap) (v := .int kh m) rfl (by omega) h3]
      · simp [Instr.sliceBounds, run_sliceBound (P := P) (w := w) (cd := .sliceAcap) (v := .int kh m) rfl (by omega) h3, run_sliceBound (P := P) (w := w) (cd := .sliceB) (v := .int kl l) (y := m.toNat) rfl h0 (by omega)]
  · obtain ⟨vh, rfl⟩ : ∃ v, hi = some v := Option.isSome_iff_exists.1 (h4 rfl)
    rcases hh with ⟨hh, _⟩ | ⟨kh, hh⟩
    · cases hh
    · cases hh
      have hM : (Instr.sliceBound (.int km m) cap .slice3Acap).run P w = .ok m.toNat w := run_sliceBound rfl (by omega) h3
      have hH : (Instr.sliceBound (.int kh h) m.toNat .slice3B).run P w = .ok h.toNat w := run_sliceBound rfl (by omega) (by omega)
      rcases hl with ⟨rfl, rfl⟩ | ⟨kl, rfl⟩
      · simp [Instr.sliceBounds, hM, hH]
      · have hL : (Instr.sliceBound (.int kl l) h.toNat .slice3C).run P w = .ok l.toNat w := run_sliceBound rfl h0 (by omega)
        simp [Instr.sliceBounds, hM, hH, hL]

theorem run_slice_val {t e : TypeId} {sz : Nat} (h1 : P.underlying t = some (.slice e)) (h3 : lowSz P e = some sz) {a : Option Addr} {len cap : Nat} {lo hi mx : Option Value} {l h m : Int}
    (hl : OI lo 0 l) (hh : OI hi len h) (hm : OI mx h m) (h0 : 0 ≤ l) (hlh : l ≤ h) (hhm : h ≤ m) (hmc : m ≤ cap) (h4 : mx.isSome = true → hi.isSome = true) :
    (Instr.sliceAt t (.slice a len cap) lo hi mx).run P w =
      .ok (.slice (if (if mx.isSome then m.toNat else cap) = l.toNat then a else a.map (·.add (l.toNat * sz))) (h.toNat - l.toNat) ((if mx.isSome then m.toNat else cap) - l.toNat)) w := by
  simp only [Instr.sliceAt, Sem.run_bind, run_underlying h1, Result.andThen_ok, Instr.slice, run_bounds hl hh hm h0 hlh hhm hmc h4, Z3v h3, Sem.run_pure]

theorem run_slice_op {t e : TypeId} {sz : Nat} (h1 : P.underlying t = some (.slice e)) (h3 : lowSz P e = some sz) {env : Env} {x : AV} {vx : Value} (hx : Rel φ M w x vx)
    {lo hi mx : Option Opd} {vlo vhi vmx : Option Value} (hlo : ∀ n d, intOr env lo d = some n → OI vlo d n) (hhi : ∀ n d, intOr env hi d = some n → OI vhi d n) (hmx : ∀ n d, intOr env mx d = some n → OI vmx d n)
    (smx : vmx.isSome = mx.isSome) (shi : vhi.isSome = hi.isSome) {k : AV → Prop} (h : actSlice sz env x lo hi mx k) :
    ∃ v z, (Instr.sliceAt t vx vlo vhi vmx).run P w = .ok v w ∧ Rel φ M w z v ∧ k z := by
  unfold actSlice at h
  split at h
  · rename_i id sz0 row len room
    obtain ⟨rfl, l, hh, m, e1, e2, e3, p1, p2, p3, p4, p5, hk⟩ := h
    cases hx with
    | ref0 _ _ _ _ a =>
      refine ⟨_, _, run_slice_val h1 h3 (hlo _ _ e1) (hhi _ _ e2) (hmx _ _ e3) p1 p2 p3 (by simpa using p4) (by rw [smx, shi]; exact p5), ?_, hk⟩
      have : hh.toNat - l.toNat = 0 := by simp at p4; omega
      rw [this]
      have h0 : (if vmx.isSome = true then m.toNat else 0) - l.toNat = 0 := by split <;> simp at p4 <;> omega
      rw [h0]
      exact .ref0 _ _ _ _ _
    | ref _ _ _ _ b o cap _ c T hb hcap hroom hheap hfit =>
      refine ⟨_, _, run_slice_val h1 h3 (hlo _ _ e1) (hhi _ _ e2) (hmx _ _ e3) p1 p2 p3 (by omega) (by rw [smx, shi]; exact p5), ?_, hk⟩
      have hC : hh.toNat ≤ (if vmx.isSome = true then m.toNat else cap) ∧ (if vmx.isSome = true then m.toNat else cap) ≤ cap := by split <;> omega
      generalize hCC : (if vmx.isSome = true then m.toNat else cap) = C at hC ⊢
      by_cases hz : C = l.toNat
      · rw [if_pos hz]
        have : hh.toNat - l.toNat = 0 := by omega
        rw [this, show C - l.toNat = 0 by omega]
        exact .ref0 _ _ _ _ _
      · rw [if_neg hz]
        have hadd : (some (⟨b, o + row * sz0, none⟩ : Addr)).map (·.add (l.toNat * sz0)) = some ⟨b, o + (row + l.toNat) * sz0, none⟩ := by
          simp only [Option.map_some, addr_add, Nat.add_mul, Nat.add_assoc]
        rw [hadd]
        refine .ref id sz0 (row + l.toNat) _ b o (C - l.toNat) _ c T hb (by omega) ?_ hheap ?_
        · intro hr
          rw [← smx] at hr
          by_cases hmm : vmx.isSome = true
          · rw [if_pos hmm] at hr hCC
            simp at hr
            omega
          · rw [if_neg hmm] at hr hCC
            split at hr
            · have := hroom hr; omega
            · cases hr
        · have : row + l.toNat + (C - l.toNat) = row + C := by omega
          rw [this]
          have := Nat.mul_le_mul_right sz0 (show row + C ≤ row + cap by omega)
          omega
  · rename_i rows full
    obtain ⟨hszd, l, hh, m, e1, e2, e3, p1, p2, p3, p4, p5, hk⟩ := h
    cases hx with
    | d _ _ hx =>
      cases hx with
      | nil _ a cap hfull =>
        have hcapm : m ≤ cap := by simp at p4; omega
        refine ⟨_, _, run_slice_val h1 h3 (hlo _ _ e1) (hhi _ _ e2) (hmx _ _ e3) p1 p2 p3 hcapm (by rw [smx, shi]; exact p5), ?_, hk⟩
        have z1 : hh.toNat - l.toNat = 0 := by simp at p4; omega
        have z2 : ((([] : List (List DV)).take hh.toNat).drop l.toNat) = [] := by simp
        rw [z1, z2]
        refine .d _ _ (.nil _ _ _ fun hf => ?_)
        rw [← smx] at hf
        by_cases hmm : vmx.isSome = true
        · rw [if_pos hmm]; simp at p4; omega
        · rw [if_neg hmm] at hf ⊢
          simp only [Bool.and_eq_true] at hf
          have := hfull hf.1; omega
      | list _ _ sz' b off cap f hb hM hsz' hcap hfull hc hrr =>
        refine ⟨_, _, run_slice_val h1 h3 (hlo _ _ e1) (hhi _ _ e2) (hmx _ _ e3) p1 p2 p3 (by omega) (by rw [smx, shi]; exact p5), ?_, hk⟩
        have hC : hh.toNat ≤ (if vmx.isSome = true then m.toNat else cap) ∧ (if vmx.isSome = true then m.toNat else cap) ≤ cap := by split <;> omega
        have hf' : (if mx.isSome = true then decide (m = hh) else (full && decide (hh = (rows.length : Int)))) = true → (if vmx.isSome = true then m.toNat else cap) = hh.toNat := by
          intro hf
          rw [← smx] at hf
          by_cases hmm : vmx.isSome = true
          · rw [if_pos hmm] at hf ⊢; simp at hf; omega
          · rw [if_neg hmm] at hf ⊢
            simp only [Bool.and_eq_true, decide_eq_true_eq] at hf
            have := hfull hf.1; omega
        generalize (if vmx.isSome = true then m.toNat else cap) = C at hC hf' ⊢
        generalize hfl : (if mx.isSome = true then decide (m = hh) else (full && decide (hh = (rows.length : Int)))) = full' at hf' ⊢
        have hlen : ((rows.take hh.toNat).drop l.toNat).length = hh.toNat - l.toNat := by simp; omega
        by_cases hz : hh.toNat = l.toNat
        · have : (rows.take hh.toNat).drop l.toNat = [] := List.eq_nil_of_length_eq_zero (by omega)
          rw [this, show hh.toNat - l.toNat = 0 by omega]
          exact .d _ _ (.nil _ _ _ fun hf => by have := hf' hf; omega)
        · rw [if_neg (show ¬ C = l.toNat by omega)]
          have hrow0 : sz' = sz := by
            have h0 : 0 < rows.length := by omega
            have a1 := hsz' rows[0] (List.getElem_mem h0)
            have a2 := hszd rows[0] (List.getElem_mem h0)
            omega
          subst hrow0
          have hadd : (some (⟨b, off, none⟩ : Addr)).map (·.add (l.toNat * sz')) = some ⟨b, off + l.toNat * sz', none⟩ := by simp only [Option.map_some, addr_add]
          rw [hadd, ← hlen]
          have hget : ∀ (i : Nat) (r : List DV), ((rows.take hh.toNat).drop l.toNat)[i]? = some r → rows[l.toNat + i]? = some r := by
            intro i r hr
            rw [List.getElem?_drop, List.getElem?_take] at hr
            split at hr
            · exact hr
            · cases hr
          refine .d _ _ (.list _ _ sz' b (off + l.toNat * sz') _ (fun i j => f (l.toNat + i) j) hb hM (fun r hr => ?_) (by rw [hlen]; omega) (fun hf => by rw [hlen, hf' hf]) (fun i r j y h1 h2 => ?_) (fun i r j y h1 h2 => hrr _ r j y (hget i r h1) h2))
          · exact hsz' r (List.mem_of_mem_take (List.mem_of_mem_drop hr))
          · have := hc (l.toNat + i) r j y (hget i r h1) h2
            rw [Nat.add_mul] at this
            rw [show off + l.toNat * sz' + (i * sz' + j) = off + (l.toNat * sz' + i * sz' + j) by omega]
            exact this
  · rename_i id sz0 row len cap0
    obtain ⟨rfl, hmx0, l, hh, e1, e2, p1, p2, p3, hk⟩ := h
    subst hmx0
    have hvm : vmx = none := by cases vmx <;> simp at smx <;> rfl
    subst hvm
    cases hx with
    | rcap _ _ _ _ b o cap c T hb hcap hheap hfit =>
      refine ⟨_, _, run_slice_val h1 h3 (hlo _ _ e1) (hhi _ _ e2) (hmx hh hh rfl) p1 p2 (Int.le_refl _) p3 (by simp), ?_, hk⟩
      have hadd : (some (⟨b, o + row * sz0, none⟩ : Addr)).map (·.add (l.toNat * sz0)) = some ⟨b, o + (row + l.toNat) * sz0, none⟩ := by
        simp only [Option.map_some, addr_add, Nat.add_mul, Nat.add_assoc]
      simp only [Option.isSome_none, Bool.false_eq_true, if_false]
      by_cases hc : lo.isSome = true ∨ (len : Int) < hh
      · rw [if_pos hc]
        by_cases hz : cap0 = l.toNat
        · rw [if_pos hz, show hh.toNat - l.toNat = 0 by omega, show cap0 - l.toNat = 0 by omega]
          exact .ref0 _ _ _ _ _
        · rw [if_neg hz, hadd]
          refine .ref id sz0 (row + l.toNat) _ b o (cap0 - l.toNat) _ c T hb (by omega) (fun hf => by cases hf) hheap ?_
          rw [show row + l.toNat + (cap0 - l.toNat) = row + cap0 by omega]; exact hfit
      · rw [if_neg hc]
        have hl0 : l = 0 := by
          cases lo with
          | none => simp [intOr] at e1; omega
          | some y => exact absurd (.inl rfl) hc
        subst hl0
        have : (if cap0 = (0 : Int).toNat then (some ⟨b, o + row * sz0, none⟩ : Option Addr) else (some ⟨b, o + row * sz0, none⟩ : Option Addr).map (·.add ((0 : Int).toNat * sz0))) = some ⟨b, o + row * sz0, none⟩ := by
          rw [hadd]; simp
        rw [this]
        exact .rcap id sz0 row hh.toNat b o cap0 c T hb (by omega) hheap hfit
  · exact h.elim

end
end Go.Ago

/- Rows in memory as grids; the builtin append. Conditions: none. -/
set_option linter.unusedSimpArgs false
set_option linter.unusedVariables false
namespace Go.Ago

section
variable {A : Nat → Prop} {φ : Nat → Option (Nat × Nat)} {M : Nat → Prop} {H : Heap} {w : World} {P : Program}

structure Grid (φ : Nat → Option (Nat × Nat)) (M : Nat → Prop) (w : World) (sz : Nat) (rows : List (List AV)) (vs : List Value) : Prop where
  len : vs.length = rows.length * sz
  row : ∀ r ∈ rows, r.length = sz
  get : ∀ (k : Nat) (r : List AV) (j : Nat) (x : AV), rows[k]? = some r → r[j]? = some x → ∃ v, vs[k * sz + j]? = some v ∧ Rel φ M w x v

theorem lt_of_get {α : Type} {l : List α} {i : Nat} {x : α} (h : l[i]? = some x) : i < l.length := by
  rcases Nat.lt_or_ge i l.length with hl | hl
  · exact hl
  · rw [List.getElem?_eq_none hl] at h; cases h

theorem Grid.nil (sz : Nat) : Grid φ M w sz [] [] := ⟨by simp, fun r h => by simp at h, fun k r j x h => by simp at h⟩

theorem cell_lt {k n j sz : Nat} (hk : k < n) (hj : j < sz) : k * sz + j < n * sz := by
  have := Nat.mul_le_mul_right sz (Nat.succ_le_of_lt hk)
  rw [Nat.succ_mul] at this
  omega

theorem Grid.append {sz : Nat} {r1 r2 : List (List AV)} {v1 v2 : List Value} (h1 : Grid φ M w sz r1 v1) (h2 : Grid φ M w sz r2 v2) : Grid φ M w sz (r1 ++ r2) (v1 ++ v2) := by
  refine ⟨by simp [h1.len, h2.len, Nat.add_mul], fun r hr => ?_, fun k r j x hk hx => ?_⟩
  · rcases List.mem_append.1 hr with h | h
    · exact h1.row r h
    · exact h2.row r h
  · rw [List.getElem?_append] at hk
    split at hk
    · rename_i hlt
      obtain ⟨v, hv, hrel⟩ := h1.get k r j x hk hx
      exact ⟨v, by rw [List.getElem?_append_left (lt_of_get hv)]; exact hv, hrel⟩
    · rename_i hge
      obtain ⟨v, hv, hrel⟩ := h2.get _ r j x hk hx
      refine ⟨v, ?_, hrel⟩
      have : k * sz + j = v1.length + ((k - r1.length) * sz + j) := by
        rw [h1.len, Nat.sub_mul]
        have := Nat.mul_le_mul_right sz (show r1.length ≤ k by omega)
        omega
      rw [this, List.getElem?_append_right (by omega)]
      rw [Nat.add_sub_cancel_left]; exact hv

theorem Grid.sub {sz : Nat} {rows : List (List AV)} {vs : List Value} (h : Grid φ M w sz rows vs) (a n : Nat) : Grid φ M w sz ((rows.drop a).take n) ((vs.drop (a * sz)).take (n * sz)) := by
  refine ⟨?_, fun r hr => h.row r (List.mem_of_mem_drop (List.mem_of_mem_take hr)), fun k r j x hk hx => ?_⟩
  · simp only [List.length_take, List.length_drop, h.len]
    rw [← Nat.sub_mul]
    rcases Nat.le_total n (rows.length - a) with hle | hle
    · rw [Nat.min_eq_left hle, Nat.min_eq_left (Nat.mul_le_mul_right _ hle)]
    · rw [Nat.min_eq_right hle, Nat.min_eq_right (Nat.mul_le_mul_right _ hle)]
  · rw [List.getElem?_take] at hk
    split at hk
    · rename_i hlt
      rw [List.getElem?_drop] at hk
      obtain ⟨v, hv, hrel⟩ := h.get _ r j x hk hx
      have hj : j < sz := by have := lt_of_get hx; rw [h.row r (List.mem_of_getElem? hk)] at this; exact this
      refine ⟨v, ?_, hrel⟩
      rw [List.getElem?_take, if_pos (cell_lt hlt hj), List.getElem?_drop, ← Nat.add_assoc, ← Nat.add_mul]
      exact hv
    · cases hk

theorem Grid.one {sz : Nat} {rows : List (List AV)} {vs : List Value} (h : Grid φ M w sz rows vs) (hl : ∀ r ∈ rows, ∀ x ∈ r, AV.leaf x = true) : ∀ v ∈ vs, v.oneCell' = true := by
  intro v hv
  obtain ⟨i, hi, rfl⟩ := List.mem_iff_getElem.1 hv
  have hi' : i < rows.length * sz := by rw [← h.len]; exact hi
  have hsz : 0 < sz := by
    rcases Nat.eq_zero_or_pos sz with h0 | h0
    · subst h0; simp at hi'
    · exact h0
  have hk : i / sz < rows.length := (Nat.div_lt_iff_lt_mul hsz).2 hi'
  have hj : i % sz < (rows[i / sz]).length := by rw [h.row _ (List.getElem_mem hk)]; exact Nat.mod_lt _ hsz
  obtain ⟨u, hu, hrel⟩ := h.get (i / sz) rows[i / sz] (i % sz) _ (List.getElem?_eq_getElem hk) (List.getElem?_eq_getElem hj)
  have e : i / sz * sz + i % sz = i := by rw [Nat.mul_comm]; exact Nat.div_add_mod i sz
  rw [e, List.getElem?_eq_getElem hi] at hu
  cases hu
  exact hrel.leaf_one (hl _ (List.getElem_mem hk) _ (List.getElem_mem hj))

/-- The rows of an object, as they lie in memory. -/
theorem obj_grid (hs : SimH P A φ H w) {id sz b o : Nat} {rows : List (List AV)} (hr : (H.at id).rows = some (sz, rows)) (hb : φ id = some (b, o)) :
    ∃ c T, w.heap[b]? = some (.cells c T (0, 0)) ∧ o + rows.length * sz ≤ c.size ∧ Grid φ (Mb A φ H) w sz rows ((c.toList.drop o).take (rows.length * sz)) := by
  obtain ⟨c, T, e1, e2, e3, e4⟩ := hs.objs id b o (HO.alive_of ⟨_, _, hr⟩) hb sz rows hr
  refine ⟨c, T, e1, e2, by simp; omega, e3, fun k r j x hk hx => ?_⟩
  obtain ⟨v, hv, hrel⟩ := e4 k r j x hk hx
  have hj : j < sz := by have := lt_of_get hx; rw [e3 r (List.mem_of_getElem? hk)] at this; exact this
  refine ⟨v, ?_, hrel⟩
  rw [List.getElem?_take, if_pos (cell_lt (lt_of_get hk) hj), List.getElem?_drop, Array.getElem?_toList, ← Nat.add_assoc]
  exact hv

theorem srcOf_len {sz : Nat} {y : AV} {s : Src} {ids : List Nat} (h : Z40 H sz y = some (s, ids)) : s.len = s.all.length := by
  cases s <;> simp [Src.len, Src.all]

/-- What a source is in memory: a slice, whose cells can be read. -/
theorem src_run (hs : SimH P A φ H w) {sz : Nat} {y : AV} {vy : Value} (hy : Rel φ (Mb A φ H) w y vy) {s : Src} {ids : List Nat} (h : Z40 H sz y = some (s, ids))
    (hrow : ∀ r ∈ s.all, r.length = sz) :
    ∃ a cap vs, vy = .slice a s.len cap ∧ Grid φ (Mb A φ H) w sz s.all vs ∧
      ∀ n, n ≤ s.len → (Builtin.firstCells sz n vy).run P w = .ok (vs.take (n * sz)).toArray w := by
  have readAll : ∀ (b q n : Nat) (vs : List Value), (∀ i v, vs[i]? = some v → w.cell? ⟨b, q + i, none⟩ = some v) → n * sz ≤ vs.length → ∀ len cap,
      (Builtin.firstCells sz n (.slice (some ⟨b, q, none⟩) len cap)).run P w = .ok (vs.take (n * sz)).toArray w := by
    intro b q n vs hc hle len cap
    have hl : (vs.take (n * sz)).length = n * sz := by simp; omega
    have := run_loadCells_at (P := P) (w := w) (b := b) (o := q) (vs.take (n * sz)) (fun i v hv => by
      rw [List.getElem?_take] at hv
      split at hv
      · exact hc i v hv
      · cases hv)
    rw [hl] at this
    exact this
  have empty : ∀ (a : Option Addr) (n len cap : Nat), n = 0 → (Builtin.firstCells sz n (.slice a len cap)).run P w = .ok #[] w := by
    intro a n len cap hn
    subst hn
    cases a <;> simp [Builtin.firstCells, loadCells, loadCellsFrom]
  unfold Z40 at h
  split at h
  · rename_i id sz' row len room
    have key : ∀ (rows : List (List AV)), (H.at id).rows = some (sz, rows) → sz' = sz → row + len ≤ rows.length → s.all = (rows.drop row).take len → s.len = len →
        ∃ a cap vs, vy = .slice a s.len cap ∧ Grid φ (Mb A φ H) w sz s.all vs ∧ ∀ n, n ≤ s.len → (Builtin.firstCells sz n vy).run P w = .ok (vs.take (n * sz)).toArray w := by
      intro rows hro he hfit hall hlen
      subst he
      cases hy with
      | ref0 _ _ _ _ a =>
        refine ⟨a, 0, [], by rw [hlen], ?_, fun n hn => ?_⟩
        · have : s.all = [] := by rw [hall]; simp
          rw [this]; exact Grid.nil _
        · have hn0 : n = 0 := by omega
          rw [empty a n 0 0 hn0]; simp
      | ref _ _ _ _ b o cap _ c T hb hcap hroom hheap hfit2 =>
        obtain ⟨c1, T1, e1, e2, g⟩ := obj_grid hs hro hb
        refine ⟨_, cap, _, by rw [hlen], by rw [hall]; exact g.sub row len, fun n hn => ?_⟩
        rw [hlen] at hn
        refine readAll b (o + row * sz') n _ (fun i v hv => ?_) ?_ _ _
        · rw [List.getElem?_take] at hv
          split at hv
          · rw [List.getElem?_drop, List.getElem?_take] at hv
            split at hv
            · rw [List.getElem?_drop] at hv
              rw [cell_block e1, ← Array.getElem?_toList, Nat.add_assoc]; exact hv
            · cases hv
          · cases hv
        · have h1 := Nat.mul_le_mul_right sz' hn
          have h2 := Nat.mul_le_mul_right sz' hfit
          rw [Nat.add_mul] at h2
          simp
          omega
    split at h
    · rename_i sz2 rows hat
      split at h
      · rename_i hc
        simp only [Option.some.injEq, Prod.mk.injEq] at h
        obtain ⟨rfl, rfl⟩ := h
        obtain ⟨e1, rfl, e3⟩ := hc
        exact key rows (by rw [hat]; rfl) e1 e3 rfl (by simp [Src.len]; omega)
      · cases h
    · rename_i sz2 rows hat
      split at h
      · rename_i hc
        simp only [Option.some.injEq, Prod.mk.injEq] at h
        obtain ⟨rfl, rfl⟩ := h
        obtain ⟨e1, rfl, e3⟩ := hc
        exact key _ (by rw [hat]; rfl) e1 (by simpa using e3) (by simp [Src.all, List.map_drop, List.map_take]) (by simp [Src.len]; omega)
      · cases h
    · cases h
  · rename_i rows full
    simp only [Option.some.injEq, Prod.mk.injEq] at h
    obtain ⟨rfl, rfl⟩ := h
    cases hy with
    | d _ _ hy =>
      cases hy with
      | nil _ a cap hfull =>
        refine ⟨a, cap, [], by simp [Src.len], by simp only [Src.all, List.map_nil]; exact Grid.nil _, fun n hn => ?_⟩
        have hn0 : n = 0 := by simpa [Src.len] using hn
        rw [empty a n 0 cap hn0]; simp
      | list _ _ sz' b off cap f hb hM hsz hcap hfull hc hr =>
        by_cases hemp : rows = []
        · subst hemp
          refine ⟨some ⟨b, off, none⟩, cap, [], rfl, by simp only [Src.all, List.map_nil]; exact Grid.nil _, fun n hn => ?_⟩
          have hn0 : n = 0 := by simpa [Src.len] using hn
          rw [empty _ n _ cap hn0]; simp
        · have he : sz' = sz := by
            obtain ⟨r, hr0⟩ := List.exists_mem_of_ne_nil rows hemp
            have a1 := hsz r hr0
            have a2 := hrow (r.map .d) (by simp only [Src.all]; exact List.mem_map_of_mem hr0)
            simp at a2; omega
          subst he
          -- the values, cell by cell
          let vs : List Value := (List.range (rows.length * sz')).map fun i => f (i / sz') (i % sz')
          have hvs : ∀ (k j : Nat), k < rows.length → j < sz' → vs[k * sz' + j]? = some (f k j) := by
            intro k j hk hj
            have : k * sz' + j < rows.length * sz' := cell_lt hk hj
            simp only [vs, List.getElem?_map, List.getElem?_range this, Option.map_some]
            have e1 : (k * sz' + j) / sz' = k := by
              rw [Nat.mul_comm, Nat.mul_add_div (by omega), Nat.div_eq_of_lt hj]; omega
            have e2 : (k * sz' + j) % sz' = j := by
              rw [Nat.mul_comm, Nat.mul_add_mod, Nat.mod_eq_of_lt hj]
            rw [e1, e2]
          refine ⟨some ⟨b, off, none⟩, cap, vs, rfl, ⟨by simp [vs, Src.all], hrow, fun k r j x hk hx => ?_⟩, fun n hn => ?_⟩
          · simp only [Src.all, List.getElem?_map, Option.map_eq_some_iff] at hk
            obtain ⟨r', hk', rfl⟩ := hk
            simp only [List.getElem?_map, Option.map_eq_some_iff] at hx
            obtain ⟨y, hy, rfl⟩ := hx
            have hj : j < sz' := by have := lt_of_get hy; rw [hsz r' (List.mem_of_getElem? hk')] at this; exact this
            exact ⟨_, hvs k j (lt_of_get hk') hj, .d _ _ (hr k r' j y hk' hy)⟩
          · simp only [Src.len] at hn
            refine readAll b off n vs (fun i v hv => ?_) (by simp only [vs, List.length_map, List.length_range]; exact Nat.mul_le_mul_right _ hn) _ _
            have hi : i < rows.length * sz' := by have := lt_of_get hv; simpa [vs] using this
            have hsz0 : 0 < sz' := by
              rcases Nat.eq_zero_or_pos sz' with h0 | h0
              · rw [h0] at hi; simp at hi
              · exact h0
            have hk : i / sz' < rows.length := (Nat.div_lt_iff_lt_mul hsz0).2 hi
            have hj : i % sz' < (rows[i / sz']).length := by rw [hsz _ (List.getElem_mem hk)]; exact Nat.mod_lt _ hsz0
            have := hc (i / sz') rows[i / sz'] (i % sz') _ (List.getElem?_eq_getElem hk) (List.getElem?_eq_getElem hj)
            have e : i / sz' * sz' + i % sz' = i := by rw [Nat.mul_comm]; exact Nat.div_add_mod i sz'
            rw [e] at this
            have hv' := hvs (i / sz') (i % sz') hk (Nat.mod_lt _ hsz0)
            rw [e] at hv'
            rw [hv] at hv'; cases hv'
            exact this
  · cases h

theorem SimH.draw (hs : SimH P A φ H w) : SimH P A φ H w.drew ∧ Onward A φ H w φ H w.drew := by
  have hon : Onward A φ H w φ H w.drew := ⟨fun _ _ h => h, ⟨Nat.le_refl _, fun _ _ _ => rfl, fun _ c _ h => ⟨c, h, rfl⟩, ⟨rfl, rfl, rfl, Nat.le_succ _⟩, fun _ _ => rfl⟩, fun b hb => .inl hb⟩
  refine ⟨⟨hs.dom, hs.there, hs.inj, hs.amb, hs.apart, fun i b o hal hb sz rows hr => ?_, hon.tab hs.tab, fun i b o hal hb => (hs.objx i b o hal hb).on (fun _ _ h => h) rfl⟩, hon⟩
  obtain ⟨c, T, e1, e2, e3, e4⟩ := hs.objs i b o hal hb sz rows hr
  exact ⟨c, T, e1, e2, e3, fun k r j x hk hx => by obtain ⟨v, hv, hrel⟩ := e4 k r j x hk hx; exact ⟨v, hv, hon.rel hrel⟩⟩

theorem Grid.on {φ' : Nat → Option (Nat × Nat)} {H' : Heap} {w' : World} (hon : Onward A φ H w φ' H' w') {sz : Nat} {rows : List (List AV)} {vs : List Value} (h : Grid φ (Mb A φ H) w sz rows vs) :
    Grid φ' (Mb A φ' H') w' sz rows vs :=
  ⟨h.len, h.row, fun k r j x hk hx => by obtain ⟨v, hv, hrel⟩ := h.get k r j x hk hx; exact ⟨v, hv, hon.rel hrel⟩⟩

theorem growBy_le (n : Nat) : ∀ (r c : Nat), c < n → Builtin.growBy n r c ≤ n + (n + 768) / 4 := by
  intro r
  induction r with
  | zero => intro c h; simp [Builtin.growBy]; omega
  | succ r ih =>
    intro c h
    simp only [Builtin.growBy]
    split
    · omega
    · by_cases h2 : c + (c + 768) / 4 < n
      · exact ih _ h2
      · cases r with
        | zero => simp only [Builtin.growBy]; omega
        | succ r => simp only [Builtin.growBy]; rw [if_pos (by omega)]; omega

theorem nextcap_le {need cap bytes : Nat} (h : cap < need) (hb : need * bytes ≤ 2 ^ 47) : Builtin.nextslicecap need cap * bytes ≤ 2 ^ 48 := by
  unfold Builtin.nextslicecap
  split
  · omega
  · split
    · have : 2 * cap * bytes ≤ 2 * need * bytes := Nat.mul_le_mul_right _ (by omega)
      rw [Nat.mul_assoc 2 need] at this
      omega
    · rename_i h1 h2
      have h3 := growBy_le need 4 cap h
      have h4 : Builtin.growBy need 4 cap * bytes ≤ 2 * need * bytes := Nat.mul_le_mul_right _ (by omega)
      rw [Nat.mul_assoc 2 need] at h4
      omega

theorem zeroCells_len (z : Array Value) (n : Nat) : (Builtin.zeroCells z n).size = n * z.size := by simp [Builtin.zeroCells]

/-- The heart of an append that makes a new array. -/
theorem new_of_grid (hs : SimH P A φ H w) {nw : Nat} (hn : nw < H.length) (hφ : φ nw = none) {o : HO} {sz : Nat} {rows : List (List AV)} (ho : o.rows = some (sz, rows)) {vs rest : List Value}
    (g : Grid φ (Mb A φ H) w sz rows vs) (T : TypeId) :
    SimH P A (fun j => if j = nw then some (w.heap.size, 0) else φ j) (H.set nw o) (w.alloc (.cells (vs ++ rest).toArray T)) ∧
      Onward A φ H w (fun j => if j = nw then some (w.heap.size, 0) else φ j) (H.set nw o) (w.alloc (.cells (vs ++ rest).toArray T)) := by
  refine hs.new hn hφ ho (by simp [g.len]) g.row (fun k r j x hk hx => ?_)
  obtain ⟨v, hv, hrel⟩ := g.get k r j x hk hx
  refine ⟨v, ?_, hrel⟩
  rw [List.getElem?_toArray, List.getElem?_append_left (lt_of_get hv)]
  exact hv

theorem Rel.ref_head {id sz len b o cap : Nat} {room : Bool} {c : Array Value} {T : TypeId} (hb : φ id = some (b, o)) (hcap : len ≤ cap) (hroom : room = false → cap = len)
    (hheap : w.heap[b]? = some (.cells c T (0, 0))) (hfit : o + cap * sz ≤ c.size) : Rel φ M w (.ref id sz 0 len room) (.slice (some ⟨b, o, none⟩) len cap) := by
  have := Rel.ref (φ := φ) (M := M) (w := w) id sz 0 len b o cap room c T hb hcap hroom hheap (by rw [Nat.zero_add]; exact hfit)
  rwa [Nat.zero_mul, Nat.add_zero] at this

/-- The builtin append. -/
theorem run_append_op (hs : SimH P A φ H w) {nw : Nat} (hn : nw < H.length) (hφ : φ nw = none) {t1 t2 T : TypeId} {e e2 : TypeId} {i : TypeInfo} {z : List AV}
    (h1 : P.underlying t1 = some (.slice e)) (h2 : P.underlying t2 = some (.slice e2)) (h3 : P.info? e = some i) (h4 : zeroA P e = some z) {argTypes : Array TypeId}
    (a1 : argTypes[0]? = some t1) (a2 : argTypes[1]? = some t2) {x y : AV} {vx vy : Value} (hx : Rel φ (Mb A φ H) w x vx) (hy : Rel φ (Mb A φ H) w y vy)
    {k : Delta → Prop} (h : actAppend H nw i.size i.bytes x y k) :
    ∃ (w' : World) (v : Value) (zv : AV) (φ' : Nat → Option (Nat × Nat)) (ups : List (Nat × HO)) (ids : List Nat), (Builtin.append_ argTypes T #[vx, vy]).run P w = .ok v w' ∧
      SimH P A φ' (ups.foldl (fun H p => H.set p.1 p.2) H) w' ∧ Onward A φ H w φ' (ups.foldl (fun H p => H.set p.1 p.2) H) w' ∧
      Rel φ' (Mb A φ' (ups.foldl (fun H p => H.set p.1 p.2) H)) w' zv v ∧ k ⟨zv, ups, ids⟩ ∧ ∀ j, j ≠ nw → φ' j = φ j := by
  obtain ⟨i', zv0, z1, z2, z3, z4, z5, z6⟩ := zeroA_spec h4
  rw [h3] at z1; cases z1
  have hsz : lowSz P e = some i.size := by simp [lowSz, h3]
  -- what runs: the row at its end, in place, or made anew
  have runIn : ∀ (a : Option Addr) (len cap n : Nat) (b : Option Addr) (cap2 : Nat) (new : Array Value) (w2 : World), vx = .slice a len cap → vy = .slice b n cap2 → len + n ≤ cap →
      (Builtin.firstCells i.size n vy).run P w = .ok new w → ((match a with | some a => storeCells (a.add (len * i.size)) new.toList | none => pure ()).run P w = .ok () w2) →
      (Builtin.append_ argTypes T #[vx, vy]).run P w = .ok (.slice a (len + n) cap) w2 := by
    intro a len cap n b cap2 new w2 e1 e2 hle e3 e4
    subst e1; subst e2
    cases a <;> simp [Builtin.append_, a1, a2, run_underlying h1, run_underlying h2, Z3v hsz, Builtin.lenOf, hle, e3] at e4 ⊢
    · exact e4
    · simp [e4]
  have runNew : ∀ (a : Option Addr) (len cap n : Nat) (b : Option Addr) (cap2 : Nat) (old new : Array Value), vx = .slice a len cap → vy = .slice b n cap2 → cap < len + n →
      roomy (len + n) i.bytes → (Builtin.firstCells i.size len vx).run P w.drew = .ok old w.drew → (Builtin.firstCells i.size n vy).run P w.drew = .ok new w.drew →
      ∃ (cap' : Nat) (rest : Array Value), len + n ≤ cap' ∧ rest.size = (cap' - (len + n)) * i.size ∧
        (Builtin.append_ argTypes T #[vx, vy]).run P w = .ok (.slice (some ⟨w.heap.size, 0, none⟩) (len + n) cap') (w.drew.alloc (.cells (old ++ new ++ rest) e)) := by
    intro a len cap n b cap2 old new e1 e2 hlt hroom e3 e4
    subst e1; subst e2
    have hb1 : ¬ (9223372036854775807 : Int) < (len : Int) + (n : Int) := by have := hroom.1; omega
    have hb2 : ¬ 2 ^ 48 < Builtin.nextslicecap (len + n) cap * i.bytes := by have := nextcap_le hlt hroom.2; omega
    refine ⟨Question.cut (.appendCap (len + n) cap e) (w.tape w.drawn (.appendCap (len + n) cap e)),
      Builtin.zeroCells zv0.cells ((Question.cut (.appendCap (len + n) cap e) (w.tape w.drawn (.appendCap (len + n) cap e))) - (len + n)), ?_, ?_, ?_⟩
    · simp [Question.cut]
    · rw [zeroCells_len]
      have := (z4 φ (Mb A φ H) w).len
      simp at this
      rw [this, z3]
    · have hnot : ¬ (len + n ≤ cap) := by omega
      simp [Builtin.append_, a1, a2, run_underlying h1, run_underlying h2, Z3v hsz, Builtin.lenOf, hnot, run_typeInfo h3, hb1, hb2, Question.forced, newRow, run_zeroValue h3 z2, e3, e4]
  obtain ⟨hsd, hond⟩ := hs.draw
  -- a new array: whatever the heap 'H1' is that is left of 'H'
  have finNew : ∀ (x0 : AV) (hx0 : Rel φ (Mb A φ H) w x0 vx) (H1 : Heap) (ids0 : List (Nat × HO)) (d s : Src) (a : Option Addr) (cap : Nat) (b : Option Addr) (cap2 : Nat) (i2 i3 : List Nat), H1 = ids0.foldl (fun H p => H.set p.1 p.2) H →
      SimH P A φ H1 w.drew → Onward A φ H w.drew φ H1 w.drew → H1.length = H.length →
      vx = .slice a d.len cap → vy = .slice b s.len cap2 → cap < d.len + s.len → roomy (d.len + s.len) i.bytes → (∀ r ∈ d.all, r.length = i.size) → (∀ r ∈ s.all, r.length = i.size) →
      (∃ i1, Z40 H i.size x0 = some (d, i1)) → Z40 H i.size y = some (s, i2) →
      k ⟨.ref nw i.size 0 (d.len + s.len) true, ids0 ++ [(nw, joinV i.size d s)], i3⟩ →
      ∃ (w' : World) (v : Value) (zv : AV) (φ' : Nat → Option (Nat × Nat)) (ups : List (Nat × HO)) (ids : List Nat), (Builtin.append_ argTypes T #[vx, vy]).run P w = .ok v w' ∧
        SimH P A φ' (ups.foldl (fun H p => H.set p.1 p.2) H) w' ∧ Onward A φ H w φ' (ups.foldl (fun H p => H.set p.1 p.2) H) w' ∧
        Rel φ' (Mb A φ' (ups.foldl (fun H p => H.set p.1 p.2) H)) w' zv v ∧ k ⟨zv, ups, ids⟩ ∧ ∀ j, j ≠ nw → φ' j = φ j := by
    intro x0 hx0 H1 ids0 d s a cap b cap2 i2 i3 hH1 hs1 hon1 hl1 e1 e2 hlt hroom hrd hrs ⟨i1, hd⟩ hsrc hk
    obtain ⟨ad, capd, vd, ed, gd, fd⟩ := src_run (P := P) hsd (hond.rel hx0) hd hrd
    obtain ⟨as0, caps, vs, es, gs, fs⟩ := src_run (P := P) hsd (hond.rel hy) hsrc hrs
    have f1 := fd d.len (Nat.le_refl _)
    have f2 := fs s.len (Nat.le_refl _)
    rw [srcOf_len hd, List.take_of_length_le (by rw [gd.len]; exact Nat.le_refl _)] at f1
    rw [srcOf_len hsrc, List.take_of_length_le (by rw [gs.len]; exact Nat.le_refl _)] at f2
    rw [← srcOf_len hd] at f1
    rw [← srcOf_len hsrc] at f2
    obtain ⟨cap', rest, hc1, hc2, hrun⟩ := runNew a d.len cap s.len b cap2 _ _ e1 e2 hlt hroom f1 f2
    have hφ1 : φ nw = none := hφ
    obtain ⟨hs2, hon2⟩ := new_of_grid hs1 (nw := nw) (by rw [hl1]; exact hn) hφ1 (joinV_rows i.size d s) ((gd.append gs).on hon1) (rest := rest.toList) e
    have hfold : (ids0 ++ [(nw, joinV i.size d s)]).foldl (fun H p => H.set p.1 p.2) H = H1.set nw (joinV i.size d s) := by rw [List.foldl_append, ← hH1]; rfl
    have harr : (vd ++ vs ++ rest.toList).toArray = vd.toArray ++ vs.toArray ++ rest := by
      apply Array.ext'; simp
    rw [harr] at hs2 hon2
    refine ⟨_, _, .ref nw i.size 0 (d.len + s.len) true, (fun j => if j = nw then some (w.drew.heap.size, 0) else φ j), ids0 ++ [(nw, joinV i.size d s)], i3, hrun, by rw [hfold]; exact hs2, by rw [hfold]; exact (hond.trans hon1).trans hon2, ?_, hk, fun j hj => by simp [hj]⟩
    rw [hfold]
    have hblk := alloc_at w.drew (.cells (vd.toArray ++ vs.toArray ++ rest) e)
    have hself : (fun j => if j = nw then some (w.drew.heap.size, 0) else φ j) nw = some (w.heap.size, 0) := by simp
    refine Rel.ref_head (φ := fun j => if j = nw then some (w.drew.heap.size, 0) else φ j) hself hc1 (fun hf => by cases hf) hblk ?_
    have l1 := gd.len
    have l2 := gs.len
    rw [← srcOf_len hd] at l1
    rw [← srcOf_len hsrc] at l2
    simp only [Array.size_append, List.size_toArray, l1, l2, hc2, Nat.zero_add]
    rw [← Nat.add_mul, ← Nat.add_mul]
    exact Nat.le_of_eq (by congr 1; omega)
  -- nothing is there, and nothing comes
  have finVoid : ∀ (H1 : Heap) (ids0 : List (Nat × HO)) (d s : Src) (a : Option Addr) (b : Option Addr) (cap2 : Nat) (i2 : List Nat), H1 = ids0.foldl (fun H p => H.set p.1 p.2) H →
      SimH P A φ H1 w → Onward A φ H w φ H1 w → H1.length = H.length → vx = .slice a 0 0 → vy = .slice b 0 cap2 → d.len = 0 → s.len = 0 → d.all = [] → s.all = [] →
      (Builtin.firstCells i.size 0 vy).run P w = .ok #[] w →
      k ⟨.ref nw i.size 0 (d.len + s.len) true, ids0 ++ [(nw, joinV i.size d s)], i2⟩ →
      ∃ (w' : World) (v : Value) (zv : AV) (φ' : Nat → Option (Nat × Nat)) (ups : List (Nat × HO)) (ids : List Nat), (Builtin.append_ argTypes T #[vx, vy]).run P w = .ok v w' ∧
        SimH P A φ' (ups.foldl (fun H p => H.set p.1 p.2) H) w' ∧ Onward A φ H w φ' (ups.foldl (fun H p => H.set p.1 p.2) H) w' ∧
        Rel φ' (Mb A φ' (ups.foldl (fun H p => H.set p.1 p.2) H)) w' zv v ∧ k ⟨zv, ups, ids⟩ ∧ ∀ j, j ≠ nw → φ' j = φ j := by
    intro H1 ids0 d s a b cap2 i2 hH1 hs1 hon1 hl1 e1 e2 hd0 hs0 hda hsa hf hk
    have hrun := runIn a 0 0 0 b cap2 #[] w e1 e2 (Nat.le_refl _) hf (by cases a <;> simp [storeCells])
    obtain ⟨hs2, hon2⟩ := hs1.void (i := nw) (by rw [hl1]; exact hn) hφ (o := joinV i.size d s) (sz := i.size) (by rw [joinV_rows, hda, hsa]; rfl)
    have hfold : (ids0 ++ [(nw, joinV i.size d s)]).foldl (fun H p => H.set p.1 p.2) H = H1.set nw (joinV i.size d s) := by rw [List.foldl_append, ← hH1]; rfl
    refine ⟨w, _, .ref nw i.size 0 (d.len + s.len) true, φ, ids0 ++ [(nw, joinV i.size d s)], i2, hrun, by rw [hfold]; exact hs2, by rw [hfold]; exact hon1.trans hon2, ?_, hk, fun j hj => rfl⟩
    rw [hd0, hs0]
    exact .ref0 _ _ _ _ _
  have hx0 := hx
  unfold actAppend at h
  split at h
  · rename_i id sz0 row len room
    obtain ⟨d, i1, s, i2, rfl, hd, hsrc, hrow, hleaf, hroom, hk⟩ := h
    obtain ⟨hsk, honk⟩ := hs.kill id
    have hdlen : d.len = len ∧ ∃ rows, (H.at id).rows = some (i.size, rows) ∧ row + len ≤ rows.length ∧ d.all = (rows.drop row).take len := by
      simp only [Z40] at hd
      split at hd
      · rename_i sz2 rows hat
        split at hd
        · rename_i hc
          simp only [Option.some.injEq, Prod.mk.injEq] at hd
          obtain ⟨rfl, _⟩ := hd
          obtain ⟨_, rfl, e3⟩ := hc
          exact ⟨by simp [Src.len]; omega, rows, by rw [hat]; rfl, e3, rfl⟩
        · cases hd
      · rename_i sz2 rows hat
        split at hd
        · rename_i hc
          simp only [Option.some.injEq, Prod.mk.injEq] at hd
          obtain ⟨rfl, _⟩ := hd
          obtain ⟨_, rfl, e3⟩ := hc
          exact ⟨by simp [Src.len]; omega, _, by rw [hat]; rfl, by simpa using e3, by simp [Src.all, List.map_drop, List.map_take]⟩
        · cases hd
      · cases hd
    obtain ⟨hdl, rows, hro, hfitr, hdall⟩ := hdlen
    have hrd : ∀ r ∈ d.all, r.length = i.size := by
      intro r hr
      rw [hdall] at hr
      have hr' := List.mem_of_mem_drop (List.mem_of_mem_take hr)
      obtain ⟨b, o, hb⟩ := hs.there id i.size rows hro (fun h0 => by rw [h0] at hr'; simp at hr')
      obtain ⟨c, T', e1, e2, e3, e4⟩ := hs.objs id b o (HO.alive_of ⟨_, _, hro⟩) hb i.size rows hro
      exact e3 r hr'
    obtain ⟨as0, caps, vs, es, gs, fs⟩ := src_run (P := P) hs hy hsrc hrow
    have hleaf' : ∀ r ∈ s.all, ∀ z ∈ r, AV.leaf z = true := by
      intro r hr z hz
      cases s with
      | rows l => exact List.all_eq_true.1 (List.all_eq_true.1 hleaf r hr) z hz
      | drows l =>
        simp only [Src.all, List.mem_map] at hr
        obtain ⟨r', _, rfl⟩ := hr
        simp only [List.mem_map] at hz
        obtain ⟨z', _, rfl⟩ := hz
        rfl
    have hlk : (H.set id .dead).length = H.length := by simp
    cases hx with
    | ref0 _ _ _ _ a =>
      by_cases hz : s.len = 0
      · refine finVoid (H.set id .dead) [(id, .dead)] d s a as0 caps i2 rfl hsk honk hlk rfl (by rw [es, hz]) hdl hz (by rw [hdall]; simp) ?_ ?_ hk
        · exact List.eq_nil_of_length_eq_zero (by rw [← srcOf_len hsrc]; exact hz)
        · have := fs 0 (Nat.zero_le _); simpa using this
      · obtain ⟨hsk2, honk2⟩ := hsd.kill id
        exact finNew _ hx0 (H.set id .dead) [(id, .dead)] d s a 0 as0 caps i2 i2 rfl hsk2 honk2 hlk (by rw [hdl]) es (by omega) hroom hrd hrow ⟨i1, hd⟩ hsrc hk
    | ref _ _ _ _ b o cap _ c T' hb hcap hroom' hheap hfit =>
      by_cases hle : len + s.len ≤ cap
      · -- in place
        have hal : (H.at id).alive := HO.alive_of ⟨_, _, hro⟩
        obtain ⟨c1, T1, e1, e2, e3, e4⟩ := hs.objs id b o hal hb i.size rows hro
        rw [hheap] at e1; cases e1
        have hvl : vs.length = s.len * i.size := by rw [gs.len, srcOf_len hsrc]
        have m1 := Nat.mul_le_mul_right i.size hle
        rw [Nat.add_mul] at m1 hfit
        have hst := run_storeCells (P := P) vs w b (o + row * i.size + len * i.size) 0 c T' hheap (by omega) (gs.one hleaf')
        have hrun := runIn _ len cap s.len as0 caps (vs.take (s.len * i.size)).toArray _ rfl es hle (fs s.len (Nat.le_refl _)) (by
          simp only [addr_add]
          rw [List.take_of_length_le (by omega)]
          exact hst)
        obtain ⟨hs2, hon2⟩ := hs.move hal hb hn hφ (o2 := o + row * i.size) hheap (c' := arrPut c (o + row * i.size + len * i.size + 0) vs) (arrPut_size _ _ _) (joinV_rows i.size d s)
          (by
            rw [List.length_append, ← srcOf_len hd, ← srcOf_len hsrc, hdl, Nat.add_mul]
            omega)
          (fun r hr => by
            rcases List.mem_append.1 hr with hr | hr
            · exact hrd r hr
            · exact hrow r hr)
          (fun kk q j z hq hz => by
            rw [List.getElem?_append] at hq
            rw [← srcOf_len hd, hdl] at hq
            have hj : j < i.size := by
              have := lt_of_get hz
              split at hq
              · rw [hrd q (List.mem_of_getElem? hq)] at this; exact this
              · rw [hrow q (List.mem_of_getElem? hq)] at this; exact this
            rw [arrPut_get _ _ _ _ (by omega)]
            split at hq
            · rename_i hlt
              have m2 := cell_lt hlt hj
              rw [if_neg (by omega)]
              rw [hdall, List.getElem?_take, if_pos hlt, List.getElem?_drop] at hq
              obtain ⟨v, hv, hrel⟩ := e4 (row + kk) q j z hq hz
              refine ⟨v, ?_, hrel⟩
              rw [Nat.add_mul, ← Nat.add_assoc] at hv
              exact hv
            · rename_i hge
              obtain ⟨v, hv, hrel⟩ := gs.get (kk - len) q j z hq hz
              have m2 := lt_of_get hv
              have m3 := Nat.mul_le_mul_right i.size (show len ≤ kk by omega)
              rw [Nat.sub_mul] at hv m2
              rw [if_pos (by omega), show o + row * i.size + kk * i.size + j - (o + row * i.size + len * i.size + 0) = kk * i.size - len * i.size + j by omega]
              exact ⟨v, hv, hrel⟩)
        refine ⟨_, _, .ref nw i.size 0 (d.len + s.len) true, _, [(id, .dead), (nw, joinV i.size d s)], i2, hrun, hs2, hon2, ?_, hk, fun j hj => by simp [hj]⟩
        have hlt := (hs.dom id b o hb).2
        have := Rel.ref (φ := fun j => if j = nw then some (b, o + row * i.size) else φ j) (M := Mb A (fun j => if j = nw then some (b, o + row * i.size) else φ j) ([(id, HO.dead), (nw, joinV i.size d s)].foldl (fun H p => H.set p.1 p.2) H))
          (w := World.setBlock w b (arrPut c (o + row * i.size + len * i.size + 0) vs) T') nw i.size 0 (d.len + s.len) b (o + row * i.size) cap true
          (arrPut c (o + row * i.size + len * i.size + 0) vs) T' (by simp) (by omega) (fun hf => by cases hf) (setBlock_at w b _ T' hlt) (by rw [arrPut_size, Nat.zero_add]; omega)
        simpa [hdl] using this
      · obtain ⟨hsk2, honk2⟩ := hsd.kill id
        exact finNew _ hx0 (H.set id .dead) [(id, .dead)] d s _ cap as0 caps i2 i2 rfl hsk2 honk2 hlk (by rw [hdl]) es (by omega) hroom hrd hrow ⟨i1, hd⟩ hsrc hk
  · rename_i rows
    obtain ⟨s, i2, hsrc, hrd, hrow, hleaf, hor, hroom, hk⟩ := h
    obtain ⟨as0, caps, vs, es, gs, fs⟩ := src_run (P := P) hs hy hsrc hrow
    have hrd' : ∀ r ∈ (Src.drows rows).all, r.length = i.size := by
      intro r hr
      simp only [Src.all, List.mem_map] at hr
      obtain ⟨r', h', rfl⟩ := hr
      simpa using hrd r' h'
    obtain ⟨a, cap, ex, hcapx⟩ : ∃ a cap, vx = .slice a rows.length cap ∧ cap = rows.length := by
      cases hx with
      | d _ _ hx =>
        cases hx with
        | nil _ a cap hf => exact ⟨a, cap, rfl, hf rfl⟩
        | list _ _ sz' b off cap f hb hM hsz' hcap hfull hc hr => exact ⟨_, cap, rfl, hfull rfl⟩
    by_cases hz : s.len = 0
    · have hre : rows = [] := by
        rcases hor with h0 | h0
        · exact h0
        · omega
      subst hre
      have hcap0 : cap = 0 := hcapx
      subst hcap0
      refine finVoid H [] (.drows []) s a as0 caps i2 rfl hs ⟨fun _ _ h => h, Pres.refl _ _, fun b hb => .inl hb⟩ rfl ex (by rw [es, hz]) rfl hz rfl ?_ ?_ hk
      · exact List.eq_nil_of_length_eq_zero (by rw [← srcOf_len hsrc]; exact hz)
      · have := fs 0 (Nat.zero_le _); simpa using this
    · exact finNew _ hx0 H [] (.drows rows) s a cap as0 caps i2 i2 rfl hsd ⟨fun _ _ h => h, Pres.refl _ _, fun b hb => .inl hb⟩ rfl ex es (by rw [hcapx]; show rows.length < rows.length + s.len; omega) hroom hrd' hrow ⟨[], rfl⟩ hsrc hk
  · rename_i id sz0 row len cap
    obtain ⟨d, i1, s, i2, rfl, hd, hsrc, hrow, hlt, hroom, hk⟩ := h
    obtain ⟨as0, caps, vs, es, gs, fs⟩ := src_run (P := P) hs hy hsrc hrow
    have hdlen : d.len = len ∧ ∃ rows, (H.at id).rows = some (i.size, rows) ∧ row + len ≤ rows.length ∧ d.all = (rows.drop row).take len := by
      simp only [Z40] at hd
      split at hd
      · rename_i sz2 rows hat
        split at hd
        · rename_i hc
          simp only [Option.some.injEq, Prod.mk.injEq] at hd
          obtain ⟨rfl, _⟩ := hd
          obtain ⟨_, rfl, e3⟩ := hc
          exact ⟨by simp [Src.len]; omega, rows, by rw [hat]; rfl, e3, rfl⟩
        · cases hd
      · rename_i sz2 rows hat
        split at hd
        · rename_i hc
          simp only [Option.some.injEq, Prod.mk.injEq] at hd
          obtain ⟨rfl, _⟩ := hd
          obtain ⟨_, rfl, e3⟩ := hc
          exact ⟨by simp [Src.len]; omega, _, by rw [hat]; rfl, by simpa using e3, by simp [Src.all, List.map_drop, List.map_take]⟩
        · cases hd
      · cases hd
    obtain ⟨hdl, rows, hro, hfitr, hdall⟩ := hdlen
    have hrd : ∀ r ∈ d.all, r.length = i.size := by
      intro r hr
      rw [hdall] at hr
      have hr' := List.mem_of_mem_drop (List.mem_of_mem_take hr)
      obtain ⟨b, o, hb⟩ := hs.there id i.size rows hro (fun h0 => by rw [h0] at hr'; simp at hr')
      obtain ⟨c, T', e1, e2, e3, e4⟩ := hs.objs id b o (HO.alive_of ⟨_, _, hro⟩) hb i.size rows hro
      exact e3 r hr'
    cases hx with
    | rcap _ _ _ _ b o _ c T' hb hcap hheap hfit =>
      exact finNew (.ref id i.size row len true) (.ref _ _ _ _ b o cap _ c T' hb hcap (fun hf => by cases hf) hheap hfit) H [] d s _ cap as0 caps i2 (i1 ++ i2) rfl hsd ⟨fun _ _ h => h, Pres.refl _ _, fun b hb => .inl hb⟩ rfl (by rw [hdl]) es hlt hroom hrd hrow ⟨i1, hd⟩ hsrc hk
  · exact h.elim

end
end Go.Ago

/- Runs of what builds values and rows, of copy, len, min, max, and of comparisons. Conditions: none. -/
set_option linter.unusedSimpArgs false
set_option linter.unusedVariables false
namespace Go.Ago
open Go.IntWalk

section
variable {A : Nat → Prop} {φ : Nat → Option (Nat × Nat)} {M : Nat → Prop} {H : Heap} {w : World} {P : Program}

theorem zip_fold : ∀ (l : List Value) (k off : Nat) (c : Array Value), (l.zipIdx k).foldl (fun cs p => cs.setIfInBounds (off + p.2) p.1) c = arrPut c (off + k) l := by
  intro l
  induction l with
  | nil => intro k off c; rfl
  | cons v l ih => intro k off c; simp only [List.zipIdx_cons, List.foldl_cons, arrPut]; rw [ih]; rfl

theorem zip_fold_arr (v : Array Value) (off : Nat) (c : Array Value) : v.zipIdx.foldl (fun cs (x : Value × Nat) => cs.setIfInBounds (off + x.2) x.1) c = arrPut c off v.toList := by
  rw [← Array.foldl_toList, Array.toList_zipIdx]
  exact zip_fold v.toList 0 off c

theorem arrPut_list (c : Array Value) (o : Nat) (vs : List Value) (h : o + vs.length ≤ c.size) : (arrPut c o vs).toList = putRow o vs c.toList := by
  apply List.ext_getElem?
  intro i
  have e1 := arrPut_get vs c o i h
  have e2 := putRow_get o vs c.toList (by simpa using h) i
  rw [Array.getElem?_toList, e1, e2]
  split
  · rfl
  · rw [Array.getElem?_toList]

theorem run_fill_build {place : Nat → Option (Nat × Nat)} : ∀ (ps : List (Nat × Nat × AV)) (parts : List (Nat × Value)) (cells : List AV) (c : Array Value) (cs : List AV),
    parts.length = ps.length → (∀ (j : Nat) (p : Nat × Nat × AV) (q : Nat × Value), ps[j]? = some p → parts[j]? = some q → place q.1 = some (p.1, p.2.1) ∧ Rel φ M w p.2.2 q.2) →
    RelL φ M w cells c.toList → buildA cells ps = some cs → ∃ c', Instr.fill place c parts = some c' ∧ RelL φ M w cs c'.toList := by
  intro ps
  induction ps with
  | nil =>
    intro parts cells c cs hl hp hr hb
    have : parts = [] := List.eq_nil_of_length_eq_zero hl
    subst this
    simp [buildA] at hb; subst hb
    exact ⟨c, rfl, hr⟩
  | cons p ps ih =>
    intro parts cells c cs hl hp hr hb
    cases parts with
    | nil => simp at hl
    | cons q parts =>
      obtain ⟨off, size, x⟩ := p
      obtain ⟨i, v⟩ := q
      obtain ⟨hpl, hrel⟩ := hp 0 _ _ rfl rfl
      simp only at hpl hrel
      simp only [buildA, Option.bind_eq_some_iff] at hb
      obtain ⟨xs, hx, hb⟩ := hb
      split at hb
      · rename_i hc
        obtain ⟨hrl, hone, hleaf⟩ := cellsOf_rel hrel hx
        have hvs : v.cells.size = size := by have := hrl.len; simp at this; omega
        have hcs : c.size = cells.length := by have := hr.len; simpa using this
        have hput : RelL φ M w (putRow off xs cells) (arrPut c off v.cells.toList).toList := by
          rw [arrPut_list _ _ _ (by simp; omega)]
          exact hr.putRow hrl off
        obtain ⟨c', h1, h2⟩ := ih parts _ _ cs (by simpa using hl) (fun j p q h1 h2 => hp (j + 1) p q (by simpa using h1) (by simpa using h2)) hput hb
        refine ⟨c', ?_, h2⟩
        simp only [Instr.fill, hpl]
        rw [if_neg (by simp; omega)]
        rw [zip_fold_arr]
        exact h1
      · cases hb

theorem lowParts_get {fs : Array Field} : ∀ (l : List (Nat × Operand)) (ps : List (Nat × Nat × Opd)), lowParts P fs l = some ps → ps.length = l.length ∧
    ∀ (j : Nat) (p : Nat × Nat × Opd) (q : Nat × Operand), ps[j]? = some p → l[j]? = some q → ∃ f, fs[q.1]? = some f ∧ f.offset = p.1 ∧ lowSz P f.type = some p.2.1 ∧ Z3z P q.2 = some p.2.2 := by
  intro l
  induction l with
  | nil => intro ps h; simp [lowParts] at h; subst h; simp
  | cons q l ih =>
    intro ps h
    obtain ⟨i, x⟩ := q
    simp only [lowParts, Option.bind_eq_some_iff, Option.map_eq_some_iff] at h
    obtain ⟨f, h1, sz, h2, y, h3, ps', h4, rfl⟩ := h
    obtain ⟨e1, e2⟩ := ih ps' h4
    refine ⟨by simp [e1], fun j => ?_⟩
    cases j with
    | zero => intro p q hp hq; simp at hp hq; subst hp; subst hq; exact ⟨f, h1, rfl, h2, h3⟩
    | succ j => intro p q hp hq; simp at hp hq; exact e2 j p q hp hq

theorem lowPartsA_get {sz : Nat} : ∀ (l : List (Nat × Operand)) (ps : List (Nat × Nat × Opd)), lowPartsA P sz l = some ps → ps.length = l.length ∧
    ∀ (j : Nat) (p : Nat × Nat × Opd) (q : Nat × Operand), ps[j]? = some p → l[j]? = some q → p.1 = q.1 * sz ∧ p.2.1 = sz ∧ Z3z P q.2 = some p.2.2 := by
  intro l
  induction l with
  | nil => intro ps h; simp [lowPartsA] at h; subst h; simp
  | cons q l ih =>
    intro ps h
    obtain ⟨i, x⟩ := q
    simp only [lowPartsA, Option.bind_eq_some_iff, Option.map_eq_some_iff] at h
    obtain ⟨y, h3, ps', h4, rfl⟩ := h
    obtain ⟨e1, e2⟩ := ih ps' h4
    refine ⟨by simp [e1], fun j => ?_⟩
    cases j with
    | zero => intro p q hp hq; simp at hp hq; subst hp; subst hq; exact ⟨rfl, rfl, h3⟩
    | succ j => intro p q hp hq; simp at hp hq; exact e2 j p q hp hq

theorem lowPartsS_get : ∀ (l : List (Nat × Operand)) (ps : List (Nat × Opd)), lowPartsS P l = some ps → ps.length = l.length ∧
    ∀ (j : Nat) (p : Nat × Opd) (q : Nat × Operand), ps[j]? = some p → l[j]? = some q → p.1 = q.1 ∧ Z3z P q.2 = some p.2 := by
  intro l
  induction l with
  | nil => intro ps h; simp [lowPartsS] at h; subst h; simp
  | cons q l ih =>
    intro ps h
    obtain ⟨i, x⟩ := q
    simp only [lowPartsS, Option.bind_eq_some_iff, Option.map_eq_some_iff] at h
    obtain ⟨y, h3, ps', h4, rfl⟩ := h
    obtain ⟨e1, e2⟩ := ih ps' h4
    refine ⟨by simp [e1], fun j => ?_⟩
    cases j with
    | zero => intro p q hp hq; simp at hp hq; subst hp; subst hq; exact ⟨rfl, h3⟩
    | succ j => intro p q hp hq; simp at hp hq; exact e2 j p q hp hq

theorem run_mapM_fields {fs : Array Field} (h : fs.all (fun f => (lowSz P f.type).isSome) = true) :
    (fs.mapM fun f => (do pure (f.offset, ← sizeOf f.type) : Sem (Nat × Nat))).run P w = .ok (fs.map fun f => (f.offset, (lowSz P f.type).getD 0)) w := by
  have hl : ∀ l : List Field, (∀ f ∈ l, (lowSz P f.type).isSome = true) →
      (l.mapM fun f => (do pure (f.offset, ← sizeOf f.type) : Sem (Nat × Nat))).run P w = .ok (l.map fun f => (f.offset, (lowSz P f.type).getD 0)) w := by
    intro l
    induction l with
    | nil => intro _; simp
    | cons f l ih =>
      intro hf
      obtain ⟨n, hn⟩ := Option.isSome_iff_exists.1 (hf f (by simp))
      simp only [List.mapM_cons, Sem.run_bind, Z3v hn, Result.andThen_ok, Sem.run_pure, ih (fun g hg => hf g (by simp [hg])), List.map_cons, hn, Option.getD_some]
  rw [Array.mapM_eq_mapM_toList]
  simp only [Sem.run_map]
  rw [hl fs.toList (fun f hf => by have := Array.all_eq_true_iff_forall_mem.1 h f (by simpa using hf); exact this)]
  simp only [Result.andThen]
  congr 1
  apply Array.ext'
  simp

theorem run_build_struct {t : TypeId} {fs : Array Field} (h1 : P.underlying t = some (.struct fs)) {z : List AV} (hz : zeroA P t = some z) (hall : fs.all (fun f => (lowSz P f.type).isSome) = true)
    {parts : List (Nat × Value)} {ps : List (Nat × Nat × AV)} (hl : parts.length = ps.length)
    (hp : ∀ (j : Nat) (p : Nat × Nat × AV) (q : Nat × Value), ps[j]? = some p → parts[j]? = some q → (∃ f, fs[q.1]? = some f ∧ f.offset = p.1 ∧ lowSz P f.type = some p.2.1) ∧ Rel φ M w p.2.2 q.2)
    {cs : List AV} (hb : buildA z ps = some cs) : ∃ v, (Instr.build t parts.toArray).run P w = .ok v w ∧ Rel φ M w (.agg cs) v := by
  obtain ⟨i, zv, z1, z2, z3, z4, z5, z6⟩ := zeroA_spec hz
  obtain ⟨c', e1, e2⟩ := run_fill_build (φ := φ) (M := M) (w := w) (place := ((fs.map fun f => (f.offset, (lowSz P f.type).getD 0))[·]?)) ps parts z zv.cells cs hl (fun j p q h1 h2 => by
    obtain ⟨⟨f, g1, g2, g3⟩, g4⟩ := hp j p q h1 h2
    refine ⟨?_, g4⟩
    simp [g1, g2, g3]) (z4 φ M w) hb
  refine ⟨_, ?_, e2.agg'⟩
  simp only [Instr.build, Sem.run_bind, run_zeroValue z1 z2, Result.andThen_ok, run_underlying h1, run_mapM_fields hall]
  simp only [e1, Sem.run_pure]

theorem run_build_array {t e : TypeId} {n sz : Nat} (h1 : P.underlying t = some (.array n e)) {z : List AV} (hz : zeroA P t = some z) (hsz : lowSz P e = some sz)
    {parts : List (Nat × Value)} {ps : List (Nat × Nat × AV)} (hl : parts.length = ps.length)
    (hp : ∀ (j : Nat) (p : Nat × Nat × AV) (q : Nat × Value), ps[j]? = some p → parts[j]? = some q → (p.1 = q.1 * sz ∧ p.2.1 = sz) ∧ Rel φ M w p.2.2 q.2)
    {cs : List AV} (hb : buildA z ps = some cs) : ∃ v, (Instr.build t parts.toArray).run P w = .ok v w ∧ Rel φ M w (.agg cs) v := by
  obtain ⟨i, zv, z1, z2, z3, z4, z5, z6⟩ := zeroA_spec hz
  obtain ⟨c', e1, e2⟩ := run_fill_build (φ := φ) (M := M) (w := w) (place := (fun i => some (i * sz, sz))) ps parts z zv.cells cs hl (fun j p q h1 h2 => by
    obtain ⟨⟨g1, g2⟩, g4⟩ := hp j p q h1 h2
    exact ⟨by rw [g1, g2], g4⟩) (z4 φ M w) hb
  refine ⟨_, ?_, e2.agg'⟩
  simp only [Instr.build, Sem.run_bind, run_zeroValue z1 z2, Result.andThen_ok, run_underlying h1, Z3v hsz]
  simp only [e1, Sem.run_pure]

/-- Rows that are all the zero row. -/
theorem zero_grid {z : List AV} {zv : Array Value} (h : RelL φ M w z zv.toList) (n : Nat) :
    Grid φ M w z.length (List.replicate n z) ((Array.range (n * z.length)).map fun i => zv[i % zv.size]!).toList := by
  have hzs : zv.size = z.length := by have := h.len; simpa using this
  refine ⟨by simp, fun r hr => by rw [(List.mem_replicate.1 hr).2], fun k r j x hk hx => ?_⟩
  rw [List.getElem?_replicate] at hk
  split at hk
  · rename_i hkn
    cases hk
    have hj := lt_of_get hx
    have hlt := cell_lt hkn hj
    obtain ⟨v, hv, hrel⟩ := h.at hx
    refine ⟨v, ?_, hrel⟩
    have e2 : (k * z.length + j) % zv.size = j := by rw [hzs, Nat.mul_comm, Nat.mul_add_mod, Nat.mod_eq_of_lt hj]
    rw [Array.getElem?_toList]
    rw [Array.getElem?_map]
    have : (Array.range (n * z.length))[k * z.length + j]? = some (k * z.length + j) := by simp [hlt]
    rw [this]
    simp only [Option.map_some, e2]
    rw [Array.getElem?_toList] at hv
    rw [getElem!_def, hv]
  · cases hk

theorem run_mk_op (hs : SimH P A φ H w) {nw : Nat} (hn : nw < H.length) (hφ : φ nw = none) {t e : TypeId} {i : TypeInfo} {z : List AV} (h1 : P.underlying t = some (.slice e))
    (h3 : P.info? e = some i) (h4 : zeroA P e = some z) {x y : AV} {vx vy : Value} (hx : Rel φ (Mb A φ H) w x vx) (hy : Rel φ (Mb A φ H) w y vy) {k : Nat → Prop}
    (h : actMk i.size i.bytes z x y k) :
    ∃ (w' : World) (v : Value) (n : Nat), (Instr.makeSlice t vx vy).run P w = .ok v w' ∧ k n ∧
      SimH P A (fun j => if j = nw then some (w.heap.size, 0) else φ j) (H.set nw (mkVec i.size (List.replicate n z))) w' ∧
      Onward A φ H w (fun j => if j = nw then some (w.heap.size, 0) else φ j) (H.set nw (mkVec i.size (List.replicate n z))) w' ∧
      Rel (fun j => if j = nw then some (w.heap.size, 0) else φ j) (Mb A (fun j => if j = nw then some (w.heap.size, 0) else φ j) (H.set nw (mkVec i.size (List.replicate n z)))) w' (.ref nw i.size 0 n true) v := by
  unfold actMk at h
  split at h
  · rename_i k1 n k2 m
    obtain ⟨h0, hnm, hroom, hk⟩ := h
    have e1 := hx.int_inv
    have e2 := hy.int_inv
    subst e1; subst e2
    obtain ⟨i', zv, z1, z2, z3, z4, z5, z6⟩ := zeroA_spec h4
    rw [h3] at z1; cases z1
    have hsz : lowSz P e = some i.size := by simp [lowSz, h3]
    obtain ⟨r1, r2⟩ := hroom
    have wn : IntKind.i64.wrap n = n := i64_in n (by omega)
    have wm : IntKind.i64.wrap m = m := i64_in m (by omega)
    have hbm : ¬ ((281474976710656 : Int) < (i.bytes : Int) * m) := by
      have : (i.bytes : Int) * m = ((m.toNat * i.bytes : Nat) : Int) := by
        rw [Int.natCast_mul, Int.toNat_of_nonneg (by omega), Int.mul_comm]
      rw [this]; omega
    have hbn : ¬ ((281474976710656 : Int) < (i.bytes : Int) * n) := by
      have h2 : (i.bytes : Int) * n ≤ (i.bytes : Int) * m := Int.mul_le_mul_of_nonneg_left hnm (Int.natCast_nonneg _)
      omega
    let c : Array Value := (Array.range (m.toNat * i.size)).map fun j => zv.cells[j % zv.cells.size]!
    have hrun : (Instr.makeSlice t (.int k1 n) (.int k2 m)).run P w = .ok (.slice (some ⟨w.heap.size, 0, none⟩) n.toNat m.toNat) (w.alloc (.cells c e)) := by
      have hlm : ¬ m < n := by omega
      have hn0 : ¬ n < 0 := by omega
      have hm0 : ¬ m < 0 := by omega
      by_cases hz0 : m.toNat * i.size = 0
      · have hc : c = #[] := by simp [c, hz0]
        have hz0' : (m ≤ 0 ∨ i.size = 0) := by
          rcases Nat.mul_eq_zero.1 hz0 with h | h
          · left; omega
          · exact .inr h
        simp [Instr.makeSlice, run_underlying h1, asInt, asIntOf, run_typeInfo h3, wn, wm, hm0, hn0, hlm, hbm, Z3v hsz, newRow, hz0, hz0', hc]
        exact congrArg _ (by rw [Array.range_zero']; simp)
      · have hz0' : ¬ (m ≤ 0 ∨ i.size = 0) := fun h => hz0 (by
          rcases h with h | h
          · rw [show m.toNat = 0 by omega, Nat.zero_mul]
          · rw [h, Nat.mul_zero])
        simp [Instr.makeSlice, run_underlying h1, asInt, asIntOf, run_typeInfo h3, wn, wm, hm0, hn0, hlm, hbm, Z3v hsz, newRow, hz0, hz0', run_zeroValue h3 z2, c]
    have g := zero_grid (z4 φ (Mb A φ H) w) m.toNat
    rw [← z3] at g
    have hrow : ∀ (k : Nat) (r : List AV), (List.replicate n.toNat z)[k]? = some r → (List.replicate m.toNat z)[k]? = some r := by
      intro k r hk
      rw [List.getElem?_replicate] at hk ⊢
      split at hk
      · rw [if_pos (by omega)]; exact hk
      · cases hk
    obtain ⟨hs2, hon2⟩ := hs.new hn hφ (mkVec_rows i.size (List.replicate n.toNat z)) (c := c) (T := e) (by
        have := Nat.mul_le_mul_right i.size (show n.toNat ≤ m.toNat by omega)
        simp [c]; exact this) (fun r hr => by rw [(List.mem_replicate.1 hr).2, z3]) (fun k r j x hk hx => by
        obtain ⟨v, hv, hrel⟩ := g.get k r j x (hrow k r hk) hx
        exact ⟨v, by rw [← Array.getElem?_toList]; exact hv, hrel⟩)
    refine ⟨_, _, n.toNat, hrun, hk, hs2, hon2, ?_⟩
    exact Rel.ref_head (φ := fun j => if j = nw then some (w.heap.size, 0) else φ j) (by simp) (by omega) (fun hf => by cases hf) (alloc_at w _) (by simp [c])
  · exact h.elim

/-! ### Literals of slices -/
theorem run_fill_rows {sz : Nat} : ∀ (ps : List (Nat × AV)) (parts : List (Nat × Value)) (rows : List (List AV)) (c : Array Value) (rows' : List (List AV)),
    parts.length = ps.length → (∀ (j : Nat) (p : Nat × AV) (q : Nat × Value), ps[j]? = some p → parts[j]? = some q → p.1 = q.1 ∧ Rel φ M w p.2 q.2) →
    Grid φ M w sz rows c.toList → buildR sz rows ps = some rows' → ∃ c', Instr.fill (fun i => some (i * sz, sz)) c parts = some c' ∧ c'.size = c.size ∧ Grid φ M w sz rows' c'.toList := by
  intro ps
  induction ps with
  | nil =>
    intro parts rows c rows' hl hp hr hb
    have : parts = [] := List.eq_nil_of_length_eq_zero hl
    subst this
    simp [buildR] at hb; subst hb
    exact ⟨c, rfl, rfl, hr⟩
  | cons p ps ih =>
    intro parts rows c rows' hl hp hr hb
    cases parts with
    | nil => simp at hl
    | cons q parts =>
      obtain ⟨i, x⟩ := p
      obtain ⟨i2, v⟩ := q
      obtain ⟨hpl, hrel⟩ := hp 0 _ _ rfl rfl
      simp only at hpl hrel
      subst hpl
      simp only [buildR, Option.bind_eq_some_iff] at hb
      obtain ⟨xs, hx, hb⟩ := hb
      split at hb
      · rename_i hc
        obtain ⟨hrl, hone, hleaf⟩ := cellsOf_rel hrel hx
        have hvs : v.cells.size = sz := by have := hrl.len; simp at this; omega
        have hcs : c.size = rows.length * sz := by have := hr.len; simpa using this
        have hfit : i * sz + sz ≤ c.size := by
          have := Nat.mul_le_mul_right sz (Nat.succ_le_of_lt hc.2)
          rw [Nat.succ_mul] at this
          omega
        have hg : Grid φ M w sz (rows.set i xs) (arrPut c (i * sz) v.cells.toList).toList := by
          refine ⟨by simp [arrPut_size, hcs], fun r hr' => ?_, fun k r j y hk hy => ?_⟩
          · rcases List.mem_or_eq_of_mem_set hr' with h | h
            · exact hr.row r h
            · rw [h]; exact hc.1
          · rw [Array.getElem?_toList, arrPut_get _ _ _ _ (by simp only [Array.length_toList]; omega)]
            simp only [Array.length_toList]
            rw [List.getElem?_set] at hk
            by_cases e : i = k
            · subst e
              rw [if_pos rfl, if_pos hc.2] at hk
              cases hk
              have hj := lt_of_get hy
              rw [if_pos (by omega), show i * sz + j - i * sz = j by omega]
              exact hrl.at hy
            · rw [if_neg e] at hk
              have hj : j < sz := by have := lt_of_get hy; rw [hr.row r (List.mem_of_getElem? hk)] at this; exact this
              have hnot : ¬ (i * sz ≤ k * sz + j ∧ k * sz + j < i * sz + v.cells.size) := by
                rcases Nat.lt_or_gt_of_ne e with hlt | hgt
                · have := Nat.mul_le_mul_right sz hlt
                  rw [Nat.succ_mul] at this
                  omega
                · have := Nat.mul_le_mul_right sz hgt
                  rw [Nat.succ_mul] at this
                  omega
              rw [if_neg hnot]
              obtain ⟨u, hu, hur⟩ := hr.get k r j y hk hy
              exact ⟨u, by rw [← Array.getElem?_toList]; exact hu, hur⟩
        obtain ⟨c', h1, h2, h3⟩ := ih parts _ _ rows' (by simpa using hl) (fun j p q h1 h2 => hp (j + 1) p q (by simpa using h1) (by simpa using h2)) hg hb
        refine ⟨c', ?_, by rw [h2, arrPut_size], h3⟩
        simp only [Instr.fill]
        rw [if_neg (by simp; omega)]
        rw [zip_fold_arr]
        exact h1
      · cases hb

theorem run_bslice_op (hs : SimH P A φ H w) {nw : Nat} (hn : nw < H.length) (hφ : φ nw = none) {t e : TypeId} {len sz : Nat} {z : List AV} (h1 : P.underlying t = some (.slice e))
    (hsz : lowSz P e = some sz) (h4 : zeroA P e = some z) (hpos : 0 < sz ∧ 0 < len ∧ len * sz ≤ 2 ^ 20) {parts : List (Nat × Value)} {ps : List (Nat × AV)} (hl : parts.length = ps.length)
    (hp : ∀ (j : Nat) (p : Nat × AV) (q : Nat × Value), ps[j]? = some p → parts[j]? = some q → p.1 = q.1 ∧ Rel φ (Mb A φ H) w p.2 q.2) {rows : List (List AV)}
    (hb : buildR sz (List.replicate len z) ps = some rows) :
    ∃ (w' : World) (v : Value), (Instr.buildSlice t len parts.toArray).run P w = .ok v w' ∧
      SimH P A (fun j => if j = nw then some (w.heap.size, 0) else φ j) (H.set nw (mkVec sz rows)) w' ∧
      Onward A φ H w (fun j => if j = nw then some (w.heap.size, 0) else φ j) (H.set nw (mkVec sz rows)) w' ∧
      Rel (fun j => if j = nw then some (w.heap.size, 0) else φ j) (Mb A (fun j => if j = nw then some (w.heap.size, 0) else φ j) (H.set nw (mkVec sz rows))) w' (.ref nw sz 0 len true) v := by
  obtain ⟨i, zv, z1, z2, z3, z4, z5, z6⟩ := zeroA_spec h4
  rw [hsz] at z5
  have z5 : sz = z.length := by simpa using z5
  have g := zero_grid (z4 φ (Mb A φ H) w) len
  rw [← z5] at g
  have hrl : ∀ (ps : List (Nat × AV)) (r0 r1 : List (List AV)), buildR sz r0 ps = some r1 → r1.length = r0.length := by
    intro ps
    induction ps with
    | nil => intro r0 r1 h; simp [buildR] at h; rw [h]
    | cons p ps ih =>
      intro r0 r1 h
      simp only [buildR, Option.bind_eq_some_iff] at h
      obtain ⟨xs, hx, h⟩ := h
      split at h
      · rw [ih _ _ h]; simp
      · cases h
  have hlen : rows.length = len := by rw [hrl _ _ _ hb]; simp
  obtain ⟨c', e1, e2, e3⟩ := run_fill_rows ps parts (List.replicate len z) _ rows hl hp g hb
  have hne : ¬ (len * sz = 0) := by
    have := Nat.mul_pos hpos.2.1 hpos.1
    omega
  have hbig : ¬ (2 ^ 24 < len * sz) := by have := hpos.2.2; omega
  have hne' : ¬ (len = 0 ∨ sz = 0) := by omega
  have hrun : (Instr.buildSlice t len parts.toArray).run P w = .ok (.slice (some ⟨w.heap.size, 0, none⟩) len len) (w.alloc (.cells c' e)) := by
    simp [Instr.buildSlice, run_underlying h1, Z3v hsz, hbig, hne', run_zeroValue z1 z2, newRow, e1]
    exact fun hc => absurd hc hne
  obtain ⟨hs2, hon2⟩ := hs.new hn hφ (mkVec_rows sz rows) (c := c') (T := e) (by have := e3.len; simp at this; omega) e3.row (fun k r j x hk hx => by
    obtain ⟨v, hv, hrel⟩ := e3.get k r j x hk hx
    exact ⟨v, by rw [← Array.getElem?_toList]; exact hv, hrel⟩)
  refine ⟨_, _, hrun, hs2, hon2, ?_⟩
  exact Rel.ref_head (φ := fun j => if j = nw then some (w.heap.size, 0) else φ j) (by simp) (Nat.le_refl _) (fun hf => by cases hf) (alloc_at w _) (by rw [e2]; simp)

/-- An append of so many zeros, where there is no room. -/
theorem run_appz_op (hs : SimH P A φ H w) {nw : Nat} (hn : nw < H.length) (hφ : φ nw = none) {t1 t2 T e : TypeId} {k2 : IntKind} {i : TypeInfo} {z : List AV}
    (h1 : P.underlying t1 = some (.slice e)) (h2 : P.underlying t2 = some (.int k2)) (h3 : P.info? e = some i) (h4 : zeroA P e = some z) (hpos : 0 < i.size) {argTypes : Array TypeId}
    (a1 : argTypes[0]? = some t1) (a2 : argTypes[1]? = some t2) {x y : AV} {vx vy : Value} (hx : Rel φ (Mb A φ H) w x vx) (hy : Rel φ (Mb A φ H) w y vy)
    {k : Delta → Prop} (h : actAppz H nw i.size i.bytes z x y k) :
    ∃ (w' : World) (v : Value) (zv : AV) (φ' : Nat → Option (Nat × Nat)) (ups : List (Nat × HO)) (ids : List Nat), (Builtin.append_ argTypes T #[vx, vy]).run P w = .ok v w' ∧
      SimH P A φ' (ups.foldl (fun H p => H.set p.1 p.2) H) w' ∧ Onward A φ H w φ' (ups.foldl (fun H p => H.set p.1 p.2) H) w' ∧
      Rel φ' (Mb A φ' (ups.foldl (fun H p => H.set p.1 p.2) H)) w' zv v ∧ k ⟨zv, ups, ids⟩ ∧ ∀ j, j ≠ nw → φ' j = φ j := by
  obtain ⟨i', zv0, z1, z2, z3, z4, z5, z6⟩ := zeroA_spec h4
  rw [h3] at z1; cases z1
  have hsz : lowSz P e = some i.size := by simp [lowSz, h3]
  unfold actAppz at h
  split at h
  case h_2 => exact h.elim
  rename_i id sz0 row len cap kd n
  obtain ⟨d, i1, rfl, hd, hn0, hcap, hroom, hk⟩ := h
  have ey := hy.int_inv
  subst ey
  have hx2 : ∃ b o, vx = .slice (some ⟨b, o + row * i.size, none⟩) len cap ∧ Rel φ (Mb A φ H) w (.ref id i.size row len true) vx := by
    cases hx with
    | rcap _ _ _ _ b o _ c T' hb hc hheap hfit => exact ⟨b, o, rfl, .ref _ _ _ _ b o cap _ c T' hb hc (fun hf => by cases hf) hheap hfit⟩
  obtain ⟨b, o, rfl, hxr⟩ := hx2
  obtain ⟨m, rfl⟩ : ∃ m : Nat, n = (m : Int) := ⟨n.toNat, by omega⟩
  simp only [Int.toNat_natCast] at hcap hroom hk
  have hm0 : m ≠ 0 := by omega
  obtain ⟨hsd, hond⟩ := hs.draw
  have hdl : d.len = len := by
    simp only [Z40] at hd
    split at hd
    · split at hd
      · rename_i hc
        simp only [Option.some.injEq, Prod.mk.injEq] at hd
        obtain ⟨rfl, _⟩ := hd
        simp [Src.len]; omega
      · cases hd
    · split at hd
      · rename_i hc
        simp only [Option.some.injEq, Prod.mk.injEq] at hd
        obtain ⟨rfl, _⟩ := hd
        simp [Src.len]; omega
      · cases hd
    · cases hd
  have hrd : ∀ r ∈ d.all, r.length = i.size := by
    intro r hr
    have hro : ∃ rows, (H.at id).rows = some (i.size, rows) ∧ r ∈ rows := by
      simp only [Z40] at hd
      split at hd
      · rename_i sz2 rows hat
        split at hd
        · rename_i hc
          simp only [Option.some.injEq, Prod.mk.injEq] at hd
          obtain ⟨rfl, _⟩ := hd
          obtain ⟨_, rfl, e3⟩ := hc
          exact ⟨rows, by rw [hat]; rfl, List.mem_of_mem_drop (List.mem_of_mem_take hr)⟩
        · cases hd
      · rename_i sz2 rows hat
        split at hd
        · rename_i hc
          simp only [Option.some.injEq, Prod.mk.injEq] at hd
          obtain ⟨rfl, _⟩ := hd
          obtain ⟨_, rfl, e3⟩ := hc
          refine ⟨_, by rw [hat]; rfl, ?_⟩
          simp only [Src.all, List.mem_map] at hr
          obtain ⟨r', hr', rfl⟩ := hr
          exact List.mem_map_of_mem (List.mem_of_mem_drop (List.mem_of_mem_take hr'))
        · cases hd
      · cases hd
    obtain ⟨rows, hro, hr'⟩ := hro
    obtain ⟨b, o, hb⟩ := hs.there id i.size rows hro (fun h0 => by rw [h0] at hr'; simp at hr')
    obtain ⟨c, T', e1, e2, e3, e4⟩ := hs.objs id b o (HO.alive_of ⟨_, _, hro⟩) hb i.size rows hro
    exact e3 r hr'
  obtain ⟨ad, capd, vd, ed, gd, fd⟩ := src_run (P := P) hsd (hond.rel hxr) hd hrd
  have f1 := fd d.len (Nat.le_refl _)
  rw [srcOf_len hd, List.take_of_length_le (by rw [gd.len]; exact Nat.le_refl _)] at f1
  rw [← srcOf_len hd, hdl] at f1
  have hz := zero_grid (z4 φ (Mb A φ H) w) m
  rw [← z3] at hz
  have hzs : zv0.cells.size = i.size := by have := (z4 φ (Mb A φ H) w).len; simp at this; omega
  have hzc : Builtin.zeroCells zv0.cells m = (Array.range (m * i.size)).map fun j => zv0.cells[j % zv0.cells.size]! := by unfold Builtin.zeroCells; rw [hzs]
  rw [← hzc] at hz
  have hb1 : ¬ (9223372036854775807 : Int) < (len : Int) + (m : Int) := by have := hroom.1; omega
  have hb2 : ¬ 281474976710656 < Builtin.nextslicecap (len + m) cap * i.bytes := by have := nextcap_le hcap hroom.2; omega
  have hw : IntKind.i64.wrap (m : Int) = m := i64_in _ (by have := hroom.1; omega)
  have hb3 : ¬ (281474976710656 : Int) < (m : Int) * (i.bytes : Int) := by
    rw [← Int.natCast_mul]
    have h5 := hroom.2
    have : m * i.bytes ≤ (len + m) * i.bytes := Nat.mul_le_mul_right _ (by omega)
    omega
  have hneg : ¬ ((m : Int) < 0) := by omega
  have hns : ¬ (m * i.size = 0) := Nat.mul_ne_zero hm0 (by omega)
  have hnot : ¬ (len + m ≤ cap) := by omega
  have hi0 : ¬ i.size = 0 := by omega
  obtain ⟨cap', rest, hc1, hc2, hrun⟩ : ∃ (cap' : Nat) (rest : Array Value), len + m ≤ cap' ∧ rest.size = (cap' - (len + m)) * i.size ∧
        (Builtin.append_ argTypes T #[.slice (some ⟨b, o + row * i.size, none⟩) len cap, .int kd (m : Int)]).run P w = .ok (.slice (some ⟨w.heap.size, 0, none⟩) (len + m) cap') (w.drew.alloc (.cells (vd.toArray ++ Builtin.zeroCells zv0.cells m ++ rest) e)) := by
    refine ⟨Question.cut (.appendCap (len + m) cap e) (w.tape w.drawn (.appendCap (len + m) cap e)),
      Builtin.zeroCells zv0.cells ((Question.cut (.appendCap (len + m) cap e) (w.tape w.drawn (.appendCap (len + m) cap e))) - (len + m)), ?_, ?_, ?_⟩
    · simp [Question.cut]
    · rw [zeroCells_len, hzs]
    · simp [Builtin.append_, a1, a2, run_underlying h1, run_underlying h2, Z3v hsz, asInt, asIntOf, hw, hneg, hnot, run_typeInfo h3, hb1, hb2, hb3, Question.forced, newRow, run_zeroValue h3 z2, f1, hm0, hi0]
      exact fun h => absurd h hns
  obtain ⟨hs2, hon2⟩ := new_of_grid hsd (nw := nw) hn hφ (joinV_rows i.size d (.rows (List.replicate m z))) (gd.append (hz.on hond)) (rest := rest.toList) e
  have harr : (vd ++ (Builtin.zeroCells zv0.cells m).toList ++ rest.toList).toArray = vd.toArray ++ Builtin.zeroCells zv0.cells m ++ rest := by
    apply Array.ext'; simp
  rw [harr] at hs2 hon2
  refine ⟨_, _, .ref nw i.size 0 (len + m) true, (fun j => if j = nw then some (w.drew.heap.size, 0) else φ j), [(nw, joinV i.size d (.rows (List.replicate m z)))], i1, hrun, hs2, hond.trans hon2, ?_, hk, fun j hj => by simp [hj]⟩
  have hblk := alloc_at w.drew (.cells (vd.toArray ++ Builtin.zeroCells zv0.cells m ++ rest) e)
  have hself : (fun j => if j = nw then some (w.drew.heap.size, 0) else φ j) nw = some (w.heap.size, 0) := by simp
  refine Rel.ref_head (φ := fun j => if j = nw then some (w.drew.heap.size, 0) else φ j) hself hc1 (fun hf => by cases hf) hblk ?_
  have l1 := gd.len
  rw [← srcOf_len hd, hdl] at l1
  simp only [Array.size_append, List.size_toArray, l1, zeroCells_len, hzs, hc2, Nat.zero_add]
  rw [← Nat.add_mul, ← Nat.add_mul]
  exact Nat.le_of_eq (by congr 1; omega)

end
end Go.Ago

/- Runs of copy, len, max, min, and of comparisons. Conditions: none. -/
set_option linter.unusedSimpArgs false
set_option linter.unusedVariables false
namespace Go.Ago

section
variable {A : Nat → Prop} {φ : Nat → Option (Nat × Nat)} {M : Nat → Prop} {H : Heap} {w : World} {P : Program}

theorem run_len_op {t T : TypeId} {e : TypeId} (h1 : P.underlying t = some (.slice e)) {argTypes : Array TypeId} (a1 : argTypes[0]? = some t) {x : AV} {vx : Value} (hx : Rel φ M w x vx)
    {k : DV → Prop} (h : actLen x k) : ∃ v z, (Builtin.len_ argTypes T #[vx]).run P w = .ok v w ∧ RelD M w z v ∧ k z := by
  have run : ∀ (a : Option Addr) (len cap : Nat), (Builtin.len_ argTypes T #[.slice a len cap]).run P w = .ok (.int .i64 len) w := by
    intro a len cap
    simp [Builtin.len_, a1, run_underlying h1, goInt]
  unfold actLen at h
  split at h
  · cases hx with
    | ref0 _ _ _ _ a => exact ⟨_, _, run _ _ _, .int _ _, h⟩
    | ref _ _ _ _ b o cap _ c T hb hcap hroom hheap hfit => exact ⟨_, _, run _ _ _, .int _ _, h⟩
  · cases hx with
    | d _ _ hx =>
      cases hx with
      | nil _ a cap hfull => exact ⟨_, _, run _ _ _, .int _ _, h⟩
      | list => exact ⟨_, _, run _ _ _, .int _ _, h⟩
  · cases hx with
    | rcap _ _ _ _ b o cap c T hb hcap hheap hfit => exact ⟨_, _, run _ _ _, .int _ _, h⟩
  · exact h.elim

theorem run_cap_op {t T : TypeId} {e : TypeId} (h1 : P.underlying t = some (.slice e)) {argTypes : Array TypeId} (a1 : argTypes[0]? = some t) {x : AV} {vx : Value} (hx : Rel φ M w x vx)
    {z : DV} (h : fltV .cap x x = some z) : ∃ v, (Builtin.cap_ argTypes T #[vx]).run P w = .ok v w ∧ RelD M w z v := by
  cases x with
  | rcap id sz row len c =>
    simp only [fltV, Option.some.injEq] at h; subst h
    cases hx with
    | rcap _ _ _ _ b o _ cc T hb hcap hheap hfit => exact ⟨_, by simp [Builtin.cap_, a1, run_underlying h1, goInt], .int _ _⟩
  | d v => cases v <;> simp [fltV] at h
  | _ => simp [fltV] at h

theorem run_max_op {T : TypeId} {argTypes : Array TypeId} {x y : AV} {vx vy : Value} (hx : Rel φ M w x vx) (hy : Rel φ M w y vy) {k : DV → Prop}
    (h : actInt2 x y fun kd a b => k (.int kd (if b > a then b else a))) : ∃ v z, (Builtin.max_ argTypes T #[vx, vy]).run P w = .ok v w ∧ RelD M w z v ∧ k z := by
  unfold actInt2 at h
  split at h
  · have e1 := hx.int_inv
    have e2 := hy.int_inv
    subst e1; subst e2
    exact ⟨_, _, by simp [Builtin.max_, Builtin.max2], .int _ _, h⟩
  · exact h.elim

theorem run_max3_op {T : TypeId} {argTypes : Array TypeId} {x y z : AV} {vx vy vz : Value} (hx : Rel φ M w x vx) (hy : Rel φ M w y vy) (hz : Rel φ M w z vz) {k : DV → Prop}
    (h : actInt3 x y z fun kd a b c => k (.int kd (max2I (max2I a b) c))) : ∃ v u, (Builtin.max_ argTypes T #[vx, vy, vz]).run P w = .ok v w ∧ RelD M w u v ∧ k u := by
  unfold actInt3 at h
  split at h
  · have e1 := hx.int_inv
    have e2 := hy.int_inv
    have e3 := hz.int_inv
    subst e1; subst e2; subst e3
    exact ⟨_, _, by simp [Builtin.max_, Builtin.max2]; rfl, .int _ _, h⟩
  · exact h.elim

theorem run_min_op {T : TypeId} {argTypes : Array TypeId} {x y : AV} {vx vy : Value} (hx : Rel φ M w x vx) (hy : Rel φ M w y vy) {k : DV → Prop}
    (h : actInt2 x y fun kd a b => k (.int kd (if b < a then b else a))) : ∃ v z, (Builtin.min_ argTypes T #[vx, vy]).run P w = .ok v w ∧ RelD M w z v ∧ k z := by
  unfold actInt2 at h
  split at h
  · have e1 := hx.int_inv
    have e2 := hy.int_inv
    subst e1; subst e2
    exact ⟨_, _, by simp [Builtin.min_, Builtin.min2], .int _ _, h⟩
  · exact h.elim

/-! ### Comparisons -/
theorem eqK_split : ∀ (k1 k2 : List Bool) (xs ys : List AV) (r : Bool), eqK (k1 ++ k2) xs ys = some r →
    ∃ r1 r2, eqK k1 (xs.take k1.length) (ys.take k1.length) = some r1 ∧ eqK k2 (xs.drop k1.length) (ys.drop k1.length) = some r2 ∧ r = (r1 && r2) := by
  intro k1
  induction k1 with
  | nil => intro k2 xs ys r h; exact ⟨true, r, by simp [eqK], by simpa using h, by simp⟩
  | cons k k1 ih =>
    intro k2 xs ys r h
    cases xs with
    | nil => simp [eqK] at h
    | cons x xs =>
      cases ys with
      | nil => simp [eqK] at h
      | cons y ys =>
        simp only [List.cons_append, eqK, Option.bind_eq_some_iff, Option.map_eq_some_iff] at h
        obtain ⟨b, h1, r', h2, rfl⟩ := h
        obtain ⟨r1, r2, g1, g2, rfl⟩ := ih k2 xs ys r' h2
        exact ⟨b && r1, r2, by simp [eqK, h1, g1], by simpa using g2, by simp [Bool.and_assoc]⟩

theorem eqC1_int {x y : AV} {r : Bool} (h : eqC1 true x y = some r) : ∃ k a b, x = .d (.int k a) ∧ y = .d (.int k b) ∧ r = decide (a = b) := by
  unfold eqC1 at h
  split at h
  · split at h
    · subst_vars; simp only [Option.some.injEq] at h; exact ⟨_, _, _, rfl, rfl, h.symm⟩
    · cases h
  · contradiction
  · cases h

theorem eqC1_bool {x y : AV} {r : Bool} (h : eqC1 false x y = some r) : ∃ a b, x = .d (.bool a) ∧ y = .d (.bool b) ∧ r = (a == b) := by
  unfold eqC1 at h
  split at h
  · contradiction
  · simp only [Option.some.injEq] at h; exact ⟨_, _, rfl, rfl, h.symm⟩
  · cases h

theorem run_part_one {t : TypeId} (h : lowAgg P t = some false) {cs : Array Value} {off : Nat} {v : Value} (hv : cs[off]? = some v) : (part t cs off).run P w = .ok v w := by
  simp [part, run_isAgg h, hv]

theorem run_part_agg {t : TypeId} {n : Nat} (h : lowAgg P t = some true) (hn : lowSz P t = some n) (cs : Array Value) (off : Nat) :
    (part t cs off).run P w = .ok (.agg (cs.extract off (off + n))) w := by
  simp [part, run_isAgg h, Z3v hn]

theorem RelL.extract {xs : List AV} {vs : Array Value} (h : RelL φ M w xs vs.toList) (off n : Nat) : RelL φ M w ((xs.drop off).take n) (vs.extract off (off + n)).toList := by
  have : (vs.extract off (off + n)).toList = (vs.toList.drop off).take n := by simp [Array.toList_extract, List.extract_eq_take_drop]
  rw [this]
  exact (h.drop off).take n

/-- How two values of a type compare that is told by 'flatEq'. -/
def EqGood (P : Program) (t : TypeId) (ks : List Bool) (D : Nat) : Prop :=
  ∀ (φ : Nat → Option (Nat × Nat)) (M : Nat → Prop) (w : World) (xs ys : List AV) (r : Bool), eqK ks xs ys = some r →
    (lowAgg P t = some true → ∀ vs us : Array Value, RelL φ M w xs vs.toList → RelL φ M w ys us.toList → (Op.equalIn D t (.agg vs) (.agg us)).run P w = .ok r w) ∧
    (lowAgg P t = some false → ∀ (x y : AV) (v u : Value), xs = [x] → ys = [y] → Rel φ M w x v → Rel φ M w y u → (Op.equalIn D t v u).run P w = .ok r w)

theorem eqFields_good {rec : TypeId → Option (List Bool)} {D : Nat} (hrec : ∀ t ks, rec t = some ks → EqGood P t ks D) : ∀ (fs : List Field) (n : Nat) (ks : List Bool), flatFields P rec fs n = some ks →
    ∀ (φ : Nat → Option (Nat × Nat)) (M : Nat → Prop) (w : World) (xs ys : List AV) (vs us : Array Value), RelL φ M w xs vs.toList → RelL φ M w ys us.toList → ∀ r, eqK ks (xs.drop n) (ys.drop n) = some r →
      (Op.eqFields D vs us fs).run P w = .ok r w := by
  intro fs
  induction fs with
  | nil =>
    intro n ks h φ M w xs ys vs us hx hy r hr
    simp [flatFields] at h; subst h
    cases h1 : xs.drop n with
    | nil =>
      cases h2 : ys.drop n with
      | nil => rw [h1, h2] at hr; simp [eqK] at hr; subst hr; simp [Op.eqFields]
      | cons => rw [h1, h2] at hr; simp [eqK] at hr
    | cons => rw [h1] at hr; simp [eqK] at hr
  | cons f fs ih =>
    intro n ks h φ M w xs ys vs us hx hy r hr
    simp only [flatFields] at h
    split at h
    · cases h
    · rename_i hc
      obtain ⟨l, h1, h⟩ := Option.bind_eq_some_iff.1 h
      split at h
      · rename_i hsz
        obtain ⟨ks', h2, rfl⟩ := Option.map_eq_some_iff.1 h
        obtain ⟨r1, r2, g1, g2, rfl⟩ := eqK_split _ _ _ _ _ hr
        have hname : f.name ≠ "_" := fun e => hc (.inl e)
        have hoff : f.offset = n := by
          by_cases e : f.offset = n
          · exact e
          · exact absurd (.inr e) hc
        rw [List.drop_drop, List.drop_drop] at g2
        have hrest := ih (n + l.length) ks' h2 φ M w xs ys vs us hx hy r2 g2
        have hgood := hrec f.type l h1 φ M w _ _ r1 g1
        simp only [Op.eqFields, hname, ne_eq, not_false_eq_true, if_true, Sem.run_bind]
        rcases hsz.2 with hb | ⟨hb, hl1⟩
        · have e1 := run_part_agg (w := w) hb hsz.1 vs f.offset
          have e2 := run_part_agg (w := w) hb hsz.1 us f.offset
          have e3 := hgood.1 hb _ _ (hx.extract n l.length) (hy.extract n l.length)
          rw [hoff] at e1 e2
          simp only [hoff, e1, e2, e3, Result.andThen_ok]
          cases r1 <;> simp [hrest]
        · have one : ∀ (zs : List AV) (ws : Array Value), RelL φ M w zs ws.toList → (∃ z, ((zs.drop n).take l.length) = [z]) → ∃ z v, (zs.drop n).take l.length = [z] ∧ ws[n]? = some v ∧ Rel φ M w z v := by
            intro zs ws hz ⟨z, hzz⟩
            have h0 : zs[n]? = some z := by
              have : ((zs.drop n).take l.length)[0]? = some z := by rw [hzz]; rfl
              rw [List.getElem?_take, hl1, if_pos (by omega), List.getElem?_drop] at this
              simpa using this
            obtain ⟨v, hv, hrel⟩ := hz.at h0
            exact ⟨z, v, hzz, by rw [← Array.getElem?_toList]; exact hv, hrel⟩
          have sing : ∀ (k1 : List Bool) (a b : List AV) (r : Bool), k1.length = 1 → eqK k1 a b = some r → (∃ z, a = [z]) ∧ ∃ z, b = [z] := by
            intro k1 a b r hk h
            cases k1 with
            | nil => simp at hk
            | cons k k1 =>
              have : k1 = [] := List.eq_nil_of_length_eq_zero (by simpa using hk)
              subst this
              cases a with
              | nil => simp [eqK] at h
              | cons x a =>
                cases b with
                | nil => simp [eqK] at h
                | cons y b =>
                  simp only [eqK, Option.bind_eq_some_iff, Option.map_eq_some_iff] at h
                  obtain ⟨_, _, r', h', _⟩ := h
                  cases a with
                  | nil =>
                    cases b with
                    | nil => exact ⟨⟨x, rfl⟩, ⟨y, rfl⟩⟩
                    | cons => simp [eqK] at h'
                  | cons => simp [eqK] at h'
          obtain ⟨s1, s2⟩ := sing l _ _ r1 hl1 g1
          obtain ⟨x, v, a1, a2, a3⟩ := one xs vs hx s1
          obtain ⟨y, u, b1, b2, b3⟩ := one ys us hy s2
          have e1 := run_part_one (P := P) (w := w) hb (off := f.offset) (by rw [hoff]; exact a2)
          have e2 := run_part_one (P := P) (w := w) hb (off := f.offset) (by rw [hoff]; exact b2)
          have e3 := hgood.2 hb x y v u a1 b1 a3 b3
          simp only [e1, e2, e3, Result.andThen_ok]
          cases r1 <;> simp [hrest]
      · cases h

theorem eqItems_good {e : TypeId} {k0 : IntKind} (he : P.underlying e = some (.int k0)) (hsz : P.cellsOf e = 1) (D : Nat) {xs ys : List AV} {vs us : Array Value}
    (hx : RelL φ M w xs vs.toList) (hy : RelL φ M w ys us.toList) : ∀ (m n : Nat) (r : Bool), eqK (List.replicate m true) (xs.drop n) (ys.drop n) = some r →
      (Op.eqItems (D + 1) e 1 vs us (List.range' n m)).run P w = .ok r w := by
  have hagg : lowAgg P e = some false := by simp [lowAgg, he]
  intro m
  induction m with
  | zero =>
    intro n r h
    cases h1 : xs.drop n with
    | nil =>
      cases h2 : ys.drop n with
      | nil => rw [h1, h2] at h; simp [eqK] at h; subst h; simp [Op.eqItems]
      | cons => rw [h1, h2] at h; simp [eqK] at h
    | cons => rw [h1] at h; simp [eqK] at h
  | succ m ih =>
    intro n r h
    rw [List.replicate_succ] at h
    cases h1 : xs.drop n with
    | nil => rw [h1] at h; simp [eqK] at h
    | cons x xs' =>
      cases h2 : ys.drop n with
      | nil => rw [h1, h2] at h; simp [eqK] at h
      | cons y ys' =>
        rw [h1, h2] at h
        simp only [eqK, Option.bind_eq_some_iff, Option.map_eq_some_iff] at h
        obtain ⟨b, hb, r', hr', rfl⟩ := h
        obtain ⟨k, p, q, rfl, rfl, rfl⟩ := eqC1_int hb
        have g1 : xs[n]? = some (.d (.int k p)) := by
          have : (xs.drop n)[0]? = some (.d (.int k p)) := by rw [h1]; rfl
          simpa using this
        have g2 : ys[n]? = some (.d (.int k q)) := by
          have : (ys.drop n)[0]? = some (.d (.int k q)) := by rw [h2]; rfl
          simpa using this
        obtain ⟨v, hv, hvr⟩ := hx.at g1
        obtain ⟨u, hu, hur⟩ := hy.at g2
        have ev := hvr.int_inv
        have eu := hur.int_inv
        subst ev; subst eu
        have e1 := run_part_one (P := P) (w := w) hagg (cs := vs) (off := n * 1) (by rw [Nat.mul_one, ← Array.getElem?_toList]; exact hv)
        have e2 := run_part_one (P := P) (w := w) hagg (cs := us) (off := n * 1) (by rw [Nat.mul_one, ← Array.getElem?_toList]; exact hu)
        have hxs : xs.drop (n + 1) = xs' := by rw [← List.drop_drop, h1]; rfl
        have hys : ys.drop (n + 1) = ys' := by rw [← List.drop_drop, h2]; rfl
        have hrest := ih (n + 1) r' (by rw [hxs, hys]; exact hr')
        simp only [List.range'_succ, Op.eqItems, Sem.run_bind, e1, e2, Result.andThen_ok, run_equalIn_int w D e k k0 p q he]
        by_cases hpq : p = q
        · simp [hpq, hrest]
        · simp [hpq]

theorem flatEq_good : ∀ (d : Nat) (t : TypeId) (ks : List Bool), flatEq P d t = some ks → ∀ D, d ≤ D → EqGood P t ks (D + 1) := by
  intro d
  induction d with
  | zero => intro t ks h; simp [flatEq] at h
  | succ d ih =>
    intro t ks h D hD φ M w xs ys r hr
    simp only [flatEq] at h
    split at h
    · rename_i k hu
      simp only [Option.some.injEq] at h; subst h
      refine ⟨fun ha => by simp [lowAgg, hu] at ha, fun _ x y v u hx hy hv hu' => ?_⟩
      subst hx; subst hy
      simp only [eqK, Option.bind_eq_some_iff, Option.map_eq_some_iff] at hr
      obtain ⟨b, hb, r', hr', rfl⟩ := hr
      simp at hr'; subst hr'
      obtain ⟨k', p, q, rfl, rfl, rfl⟩ := eqC1_int hb
      have ev := hv.int_inv
      have eu := hu'.int_inv
      subst ev; subst eu
      rw [run_equalIn_int w D t k' k p q hu]; simp; rfl
    · rename_i hu
      simp only [Option.some.injEq] at h; subst h
      refine ⟨fun ha => by simp [lowAgg, hu] at ha, fun _ x y v u hx hy hv hu' => ?_⟩
      subst hx; subst hy
      simp only [eqK, Option.bind_eq_some_iff, Option.map_eq_some_iff] at hr
      obtain ⟨b, hb, r', hr', rfl⟩ := hr
      simp at hr'; subst hr'
      obtain ⟨p, q, rfl, rfl, rfl⟩ := eqC1_bool hb
      have ev := Rel.bool_inv hv
      have eu := Rel.bool_inv hu'
      subst ev; subst eu
      rw [run_equalIn_bool' w D t p q hu]; simp
    · rename_i fs hu
      split at h
      · cases h
      · rename_i hst
        refine ⟨fun _ vs us hx hy => ?_, fun ha => by simp [lowAgg, hu] at ha⟩
        have hf : P.fieldsOf t = fs := by simp [Program.fieldsOf, hu]
        obtain ⟨D', rfl⟩ : ∃ D', D = D' + 1 := ⟨D - 1, by omega⟩
        rw [run_equalIn_agg w (D' + 1) t vs us (by rw [hf]; exact hu) (by simpa using hst), hf]
        exact eqFields_good (fun t ks h => ih t ks h D' (by omega)) fs.toList 0 ks h φ M w xs ys vs us hx hy r (by simpa using hr)
    · rename_i len e hu
      split at h
      · rename_i k0 he
        split at h
        · rename_i hc
          simp only [Option.some.injEq] at h; subst h
          refine ⟨fun _ vs us hx hy => ?_, fun ha => by simp [lowAgg, hu] at ha⟩
          obtain ⟨i, hi⟩ := Option.isSome_iff_exists.1 hc.2
          have hcell : P.cellsOf e = 1 := by
            have := hc.1
            simp [lowSz, hi] at this
            simp [Program.cellsOf, hi, this]
          obtain ⟨D', rfl⟩ : ∃ D', D = D' + 1 := ⟨D - 1, by omega⟩
          rw [run_equalIn_array w (D' + 1) vs us hu hi, hcell, List.range_eq_range']
          exact eqItems_good he hcell D' hx hy len 0 r (by simpa using hr)
        · cases h
      · cases h
    · cases h

theorem run_equalIn_nilFunc (d : Nat) {t : TypeId} {ps rs : Array TypeId} {vr : Bool} (hu : P.underlying t = some (.func ps rs vr)) : (Op.equalIn (d + 1) t .nilFunc .nilFunc).run P w = .ok true w := by
  simp only [Op.equalIn, Sem.run_bind, run_underlying hu, Result.andThen_ok, Sem.run_pure]

theorem run_equalIn_nilFunc_left (d : Nat) {t : TypeId} {ps rs : Array TypeId} {vr : Bool} (hu : P.underlying t = some (.func ps rs vr)) (f : Fn) (a c : Array Value) :
    (Op.equalIn (d + 1) t .nilFunc (.func f a c)).run P w = .ok false w := by
  simp only [Op.equalIn, Sem.run_bind, run_underlying hu, Result.andThen_ok, Sem.run_pure]

theorem run_equalIn_nilFunc_right (d : Nat) {t : TypeId} {ps rs : Array TypeId} {vr : Bool} (hu : P.underlying t = some (.func ps rs vr)) (f : Fn) (a c : Array Value) :
    (Op.equalIn (d + 1) t (.func f a c) .nilFunc).run P w = .ok false w := by
  simp only [Op.equalIn, Sem.run_bind, run_underlying hu, Result.andThen_ok, Sem.run_pure]

theorem run_eq_op {op : BinOp} {neg : Bool} (hop : op = if neg then .neq else .eql) {t : TypeId} {pl : EqPlan} (hp : eqPlan P t = some pl) {xo yo : Operand} {x y : AV} {vx vy : Value}
    (hx : Rel φ M w x vx) (hy : Rel φ M w y vy) {b : Bool} (h : eqV pl x y = some b) :
    (do eqGuard op t xo yo vx vy; binOp op t vx vy : Sem Value).run P w = .ok (.bool (if neg then !b else b)) w := by
  have fin : ∀ {u v : Value} {c : Bool}, (Op.equalIn 10000 t u v).run P w = .ok c w → (eqGuard op t xo yo u v).run P w = .ok () w → (binOp op t u v = if neg then (do pure (.bool (!(← Op.equal t u v)))) else (do pure (.bool (← Op.equal t u v)))) →
      (do eqGuard op t xo yo u v; binOp op t u v : Sem Value).run P w = .ok (.bool (if neg then !c else c)) w := by
    intro u v c h1 h2 h3
    rw [Sem.run_bind, h2, h3]
    cases neg <;> simp [Op.equal, Op.maxDepth, h1]
  have flat : ∀ ks, pl = .flat ks → P.eqGuardType P.depth t = false → flatEq P 8 t = some ks → lowAgg P t = some true →
      (do eqGuard op t xo yo vx vy; binOp op t vx vy : Sem Value).run P w = .ok (.bool (if neg then !b else b)) w := by
    intro ks hpl hg hfl hagg
    subst hpl
    simp only [eqV] at h
    split at h
    · rename_i xs ys
      obtain ⟨vs, rfl, hrx⟩ := hx.agg_inv
      obtain ⟨us, rfl, hry⟩ := hy.agg_inv
      refine fin ((flatEq_good 8 t ks hfl 9999 (by omega) φ M w xs ys b h).1 hagg vs us hrx hry) (run_eqGuard_agg w op t xo yo vs us hg) ?_
      subst hop; cases neg <;> rfl
    · cases h
  unfold eqPlan at hp
  split at hp
  · rename_i hu
    simp only [Option.some.injEq] at hp; subst hp
    simp only [eqV] at h
    split at h
    · rename_i a c
      have e1 := Rel.bool_inv hx
      have e2 := Rel.bool_inv hy
      subst e1; subst e2
      simp only [Option.some.injEq] at h; subst h
      refine fin (run_equalIn_bool' w 9999 t a c hu) (by rw [eqGuard_at_bool]; rfl) ?_
      subst hop; cases neg <;> rfl
    · cases h
  · rename_i hu
    simp only [Option.some.injEq] at hp; subst hp
    simp only [eqV] at h
    split at h <;> (try (cases h; done)) <;> simp only [Option.some.injEq] at h <;> subst h
    · cases hx with
      | d _ _ hx =>
        cases hy with
        | d _ _ hy =>
          cases hx; cases hy
          refine fin (run_equalIn_nilFunc 9999 hu) (by rw [eqGuard_at_nilFunc]; rfl) ?_
          subst hop; cases neg <;> rfl
    · cases hx with
      | d _ _ hx =>
        cases hy with
        | d _ _ hy =>
          cases hx; cases hy
          refine fin (run_equalIn_nilFunc_left 9999 hu _ _ _) (by rw [eqGuard_at_nilFunc]; rfl) ?_
          subst hop; cases neg <;> rfl
    · cases hx with
      | d _ _ hx =>
        cases hy with
        | clo f caps vs hl hh =>
          cases hx
          refine fin (run_equalIn_nilFunc_left 9999 hu _ _ _) (by rw [eqGuard_at_nilFunc]; rfl) ?_
          subst hop; cases neg <;> rfl
    · cases hx with
      | d _ _ hx =>
        cases hy with
        | d _ _ hy =>
          cases hx; cases hy
          refine fin (run_equalIn_nilFunc_right 9999 hu _ _ _) (by rw [eqGuard_at_func]; rfl) ?_
          subst hop; cases neg <;> rfl
    · cases hx with
      | clo f caps vs hl hh =>
        cases hy with
        | d _ _ hy =>
          cases hy
          refine fin (run_equalIn_nilFunc_right 9999 hu _ _ _) (by rw [eqGuard_at_func]; rfl) ?_
          subst hop; cases neg <;> rfl
  · rename_i fs hu
    split at hp
    · cases hp
    · rename_i hg
      obtain ⟨ks, hk, rfl⟩ := Option.map_eq_some_iff.1 hp
      exact flat ks rfl (by simpa using hg) hk (by simp [lowAgg, hu])
  · rename_i n e hu
    split at hp
    · cases hp
    · rename_i hg
      obtain ⟨ks, hk, rfl⟩ := Option.map_eq_some_iff.1 hp
      exact flat ks rfl (by simpa using hg) hk (by simp [lowAgg, hu])
  · cases hp

/-- The builtin copy. -/
theorem run_copy_op (hs : SimH P A φ H w) {t T : TypeId} {e : TypeId} {sz : Nat} (h1 : P.underlying t = some (.slice e)) (hsz : lowSz P e = some sz) {argTypes : Array TypeId}
    (a1 : argTypes[0]? = some t) {x y : AV} {vx vy : Value} (hx : Rel φ (Mb A φ H) w x vx) (hy : Rel φ (Mb A φ H) w y vy) {k : Delta → Prop} (h : actCopy H sz x y k) :
    ∃ (w' : World) (v : Value) (z : DV) (id : Nat) (o : HO) (ids : List Nat), (Builtin.copy_ argTypes T #[vx, vy]).run P w = .ok v w' ∧ SimH P A φ (H.set id o) w' ∧ Onward A φ H w φ (H.set id o) w' ∧
      RelD (Mb A φ (H.set id o)) w' z v ∧ k ⟨.d z, [(id, o)], ids⟩ := by
  unfold actCopy at h
  split at h
  · rename_i id sz0 row len room
    obtain ⟨s, i2, o, hsrc, hrow, hleaf, ⟨d, i1, hd⟩, hsp, hk⟩ := h
    obtain ⟨as0, caps, vs, es, gs, fs⟩ := src_run (P := P) hs hy hsrc hrow
    have hleaf' : ∀ r ∈ s.all.take (min len s.len), ∀ z ∈ r, AV.leaf z = true := by
      intro r hr z hz
      cases s with
      | rows l => exact List.all_eq_true.1 (List.all_eq_true.1 hleaf r hr) z hz
      | drows l =>
        have hr := List.mem_of_mem_take hr
        simp only [Src.all, List.mem_map] at hr
        obtain ⟨r', _, rfl⟩ := hr
        simp only [List.mem_map] at hz
        obtain ⟨z', _, rfl⟩ := hz
        rfl
    have hdst : ∃ rows, (H.at id).rows = some (sz, rows) ∧ sz0 = sz ∧ row + len ≤ rows.length := by
      simp only [Z40] at hd
      split at hd
      · rename_i sz2 rows hat
        split at hd
        · rename_i hc
          obtain ⟨rfl, rfl, e3⟩ := hc
          exact ⟨rows, by rw [hat]; rfl, rfl, e3⟩
        · cases hd
      · rename_i sz2 rows hat
        split at hd
        · rename_i hc
          obtain ⟨rfl, rfl, e3⟩ := hc
          exact ⟨_, by rw [hat]; rfl, rfl, by simpa using e3⟩
        · cases hd
      · cases hd
    obtain ⟨rows, hro, rfl, hfitr⟩ := hdst
    generalize hm : min len s.len = m at hsp hk hleaf'
    have hmle : m ≤ len ∧ m ≤ s.len := by omega
    have horows : o.rows = some (sz0, rows.take row ++ s.all.take m ++ rows.drop (row + m)) := by
      cases hat : H.at id with
      | dead | mapo | iter => rw [hat] at hro; cases hro
      | vec sz2 rows2 =>
        rw [hat] at hro hsp
        simp only [HO.rows, Option.some.injEq, Prod.mk.injEq] at hro
        obtain ⟨rfl, rfl⟩ := hro
        simp only [HO.splice, Option.some.injEq] at hsp
        subst hsp; rfl
      | dvec sz2 rows2 =>
        rw [hat] at hro hsp
        simp only [HO.rows, Option.some.injEq, Prod.mk.injEq] at hro
        obtain ⟨rfl, rfl⟩ := hro
        cases s with
        | rows l => simp [HO.splice] at hsp
        | drows l =>
          simp only [HO.splice, Option.some.injEq] at hsp
          subst hsp
          simp [HO.rows, Src.all, List.map_take, List.map_drop]
    have hf := fs m hmle.2
    have hvl : (vs.take (m * sz0)).length = m * sz0 := by
      have := gs.len
      rw [← srcOf_len hsrc] at this
      have h2 := Nat.mul_le_mul_right sz0 hmle.2
      simp; omega
    have runC : ∀ (a : Option Addr) (cap : Nat) (w2 : World), vx = .slice a len cap → ((match a with | some a => storeCells a (vs.take (m * sz0)) | none => pure ()).run P w = .ok () w2) →
        (Builtin.copy_ argTypes T #[vx, vy]).run P w = .ok (.int .i64 m) w2 := by
      intro a cap w2 e1 e2
      subst e1
      have hmin : Nat.min s.len len = m := by rw [← hm]; exact Nat.min_comm _ _
      rw [es] at hf ⊢
      cases a <;> simp [Builtin.copy_, a1, run_underlying h1, Builtin.lenOf, hmin, Z3v hsz, hf, goInt] at e2 ⊢
      · exact e2
      · simp [e2]
    have hid : id < H.length := Heap.at_lt (HO.alive_of ⟨_, _, hro⟩)
    cases hx with
    | ref0 _ _ _ _ a =>
      have hm0 : m = 0 := by omega
      subst hm0
      have hrows : rows.take row ++ s.all.take 0 ++ rows.drop (row + 0) = rows := by simp
      rw [hrows] at horows
      have hrun := runC a 0 w rfl (by cases a <;> simp [storeCells])
      -- the object has the rows that it had
      cases hφ : φ id with
      | none =>
        have hr0 : rows = [] := by
          by_cases h0 : rows = []
          · exact h0
          · obtain ⟨b, o', hb⟩ := hs.there id sz0 rows hro h0
            rw [hφ] at hb; cases hb
        subst hr0
        obtain ⟨hs2, hon2⟩ := hs.void hid hφ horows
        exact ⟨_, _, _, id, o, _, hrun, hs2, hon2, .int _ _, hk⟩
      | some p =>
        obtain ⟨b, o'⟩ := p
        have hal := HO.alive_of ⟨_, _, hro⟩
        obtain ⟨c, T', e1, e2, e3, e4⟩ := hs.objs id b o' hal hφ sz0 rows hro
        obtain ⟨hs2, hon2⟩ := hs.change hal hφ e1 (c' := c) rfl horows e2 e3 e4
        rw [setBlock_same e1] at hs2 hon2
        exact ⟨_, _, _, id, o, _, hrun, hs2, hon2, .int _ _, hk⟩
    | ref _ _ _ _ b o' cap _ c T' hb hcap hroom' hheap hfit =>
      have hal := HO.alive_of ⟨_, _, hro⟩
      obtain ⟨c1, T1, e1, e2, e3, e4⟩ := hs.objs id b o' hal hb sz0 rows hro
      rw [hheap] at e1; cases e1
      have m1 := Nat.mul_le_mul_right sz0 (show row + m ≤ rows.length by omega)
      rw [Nat.add_mul] at m1
      have hst := run_storeCells (P := P) (vs.take (m * sz0)) w b (o' + row * sz0) 0 c T' hheap (by rw [hvl]; omega) (fun v hv => by have := (gs.sub 0 m).one (by simpa using hleaf') v; simp only [Nat.zero_mul, List.drop_zero] at this; exact this hv)
      have hrun := runC _ cap _ rfl hst
      have hlen2 : (rows.take row ++ s.all.take m ++ rows.drop (row + m)).length = rows.length := by
        have := srcOf_len hsrc
        simp; omega
      obtain ⟨hs2, hon2⟩ := hs.change hal hb hheap (c' := arrPut c (o' + row * sz0 + 0) (vs.take (m * sz0))) (arrPut_size _ _ _) horows (by rw [hlen2]; exact e2)
        (fun r hr => by
          rcases List.mem_append.1 hr with hr | hr
          · rcases List.mem_append.1 hr with hr | hr
            · exact e3 r (List.mem_of_mem_take hr)
            · exact hrow r (List.mem_of_mem_take hr)
          · exact e3 r (List.mem_of_mem_drop hr))
        (fun kk q j z hq hz => by
          have hsl := srcOf_len hsrc
          have hlt := lt_of_get hq
          rw [hlen2] at hlt
          have hrowlen : ∀ r, r ∈ rows.take row ++ s.all.take m ++ rows.drop (row + m) → r.length = sz0 := fun r hr => by
            rcases List.mem_append.1 hr with hr | hr
            · rcases List.mem_append.1 hr with hr | hr
              · exact e3 r (List.mem_of_mem_take hr)
              · exact hrow r (List.mem_of_mem_take hr)
            · exact e3 r (List.mem_of_mem_drop hr)
          have hj : j < sz0 := by have := lt_of_get hz; rw [hrowlen q (List.mem_of_getElem? hq)] at this; exact this
          rw [arrPut_get _ _ _ _ (by rw [hvl]; omega), hvl]
          rw [List.append_assoc, List.getElem?_append] at hq
          simp only [List.length_take, Nat.min_eq_left (show row ≤ rows.length by omega)] at hq
          by_cases c1 : kk < row
          · rw [if_pos c1, List.getElem?_take, if_pos c1] at hq
            have := cell_lt c1 hj
            rw [if_neg (by omega)]
            exact e4 kk q j z hq hz
          · rw [if_neg c1, List.getElem?_append] at hq
            simp only [List.length_take, Nat.min_eq_left (show m ≤ s.all.length by omega)] at hq
            have m3 := Nat.mul_le_mul_right sz0 (show row ≤ kk by omega)
            by_cases c2 : kk - row < m
            · rw [if_pos c2, List.getElem?_take, if_pos c2] at hq
              obtain ⟨v, hv, hrel⟩ := gs.get (kk - row) q j z hq hz
              have := cell_lt c2 hj
              rw [Nat.sub_mul] at hv this
              rw [if_pos (by omega), show o' + kk * sz0 + j - (o' + row * sz0 + 0) = kk * sz0 - row * sz0 + j by omega, List.getElem?_take, if_pos (by omega)]
              exact ⟨v, hv, hrel⟩
            · rw [if_neg c2, List.getElem?_drop] at hq
              rw [show row + m + (kk - row - m) = kk by omega] at hq
              have m4 := Nat.mul_le_mul_right sz0 (show row + m ≤ kk by omega)
              rw [Nat.add_mul] at m4
              rw [if_neg (by omega)]
              exact e4 kk q j z hq hz)
      exact ⟨_, _, _, id, o, _, hrun, hs2, hon2, .int _ _, hk⟩
  · exact h.elim

end
end Go.Ago
