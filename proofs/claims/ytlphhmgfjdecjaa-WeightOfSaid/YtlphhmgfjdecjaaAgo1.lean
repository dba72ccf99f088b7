/- An abstract machine with pure data for the kit's model of Go: values, heap, the relation to concrete values and worlds, and its monotonicity. Conditions: none. -/
import Derived.Orders
import Derived.WalkKit
import Derived.Laws.Externs
set_option linter.unusedSimpArgs false
set_option linter.unusedVariables false
namespace Go.Ago

/-- Data that nobody changes any more: scalars, and lists of rows of cells. -/
inductive DV where
  | int (k : IntKind) (n : Int)
  | bool (b : Bool)
  | str (s : ByteArray)
  | flt (k : FloatKind) (b : Nat)
  | nan (k : FloatKind)
  | nilp
  | nilm
  | nilf
  | fn (f : FuncId)
  | list (rows : List (List DV)) (full : Bool)
  deriving Inhabited

/-- Values of the abstract machine. -/
inductive AV where
  | undef
  | d (x : DV)
  | agg (cells : List AV)
  | tup (vs : List AV)
  | ptr (id sz row j : Nat)
  | dptr (cells : List DV) (j : Nat)
  | ref (id sz row len : Nat) (room : Bool)
  | clo (f : FuncId) (caps : List AV)
  | mref (id : Nat)
  deriving Inhabited

/-- What lies at an id of the heap: nothing that may be used (not yet, or no more), or rows of cells. -/
inductive HO where
  | dead
  | vec (sz : Nat) (rows : List (List AV))
  | dvec (sz : Nat) (rows : List (List DV))
  deriving Inhabited

abbrev Heap := List HO

def HO.alive : HO → Prop
  | .dead => False
  | _ => True

/-- The rows of an object. -/
def HO.rows : HO → Option (Nat × List (List AV))
  | .vec sz rows => some (sz, rows)
  | .dvec sz rows => some (sz, rows.map (·.map .d))
  | .dead => none

def Heap.at (H : Heap) (i : Nat) : HO := H.getD i .dead

/-- The blocks of what is alive. -/
def own (φ : Nat → Option (Nat × Nat)) (H : Heap) (b : Nat) : Prop := ∃ i o, (Heap.at H i).alive ∧ φ i = some (b, o)

/-- The data relation: 'M' are the blocks that may still change. -/
inductive RelD (M : Nat → Prop) (w : World) : DV → Value → Prop
  | int (k : IntKind) (n : Int) : RelD M w (.int k n) (.int k n)
  | bool (b : Bool) : RelD M w (.bool b) (.bool b)
  | str (s : ByteArray) : RelD M w (.str s) (.string s)
  | flt (k : FloatKind) (b : Nat) : RelD M w (.flt k b) (.float k b)
  | nan (k : FloatKind) (b : Nat) (h : (k.format.read b).isNaN = true) : RelD M w (.nan k) (.float k b)
  | nilp : RelD M w .nilp (.pointer none)
  | nilm : RelD M w .nilm (.map none)
  | nilf : RelD M w .nilf .nilFunc
  | fn (f : FuncId) : RelD M w (.fn f) (.func (.func f) #[] #[])
  | nil (full : Bool) (a : Option Addr) (cap : Nat) (hfull : full = true → cap = 0) : RelD M w (.list [] full) (.slice a 0 cap)
  | list (rows : List (List DV)) (full : Bool) (sz b off cap : Nat) (f : Nat → Nat → Value) (hb : b < w.heap.size) (hM : ¬ M b) (hsz : ∀ r ∈ rows, r.length = sz) (hcap : rows.length ≤ cap) (hfull : full = true → cap = rows.length)
      (hc : ∀ (i : Nat) (r : List DV) (j : Nat) (x : DV), rows[i]? = some r → r[j]? = some x → w.cell? ⟨b, off + (i * sz + j), none⟩ = some (f i j))
      (hr : ∀ (i : Nat) (r : List DV) (j : Nat) (x : DV), rows[i]? = some r → r[j]? = some x → RelD M w x (f i j)) :
      RelD M w (.list rows full) (.slice (some ⟨b, off, none⟩) rows.length cap)

/-- The relation of values. -/
inductive Rel (φ : Nat → Option (Nat × Nat)) (M : Nat → Prop) (w : World) : AV → Value → Prop
  | undef (v : Value) : Rel φ M w .undef v
  | d (x : DV) (v : Value) (h : RelD M w x v) : Rel φ M w (.d x) v
  | agg (cells : List AV) (vs : Array Value) (hl : vs.size = cells.length)
      (h : ∀ (i : Nat) (x : AV) (v : Value), cells[i]? = some x → vs[i]? = some v → Rel φ M w x v) : Rel φ M w (.agg cells) (.agg vs)
  | tup (cells : List AV) (vs : Array Value) (hl : vs.size = cells.length)
      (h : ∀ (i : Nat) (x : AV) (v : Value), cells[i]? = some x → vs[i]? = some v → Rel φ M w x v) : Rel φ M w (.tup cells) (.tuple vs)
  | ptr (id sz row j b o : Nat) (hb : φ id = some (b, o)) : Rel φ M w (.ptr id sz row j) (.pointer (some ⟨b, o + row * sz + j, none⟩))
  | dptr (cells : List DV) (j b off : Nat) (f : Nat → Value) (hlt : b < w.heap.size) (hM : ¬ M b)
      (hc : ∀ (i : Nat) (x : DV), cells[i]? = some x → w.cell? ⟨b, off + i, none⟩ = some (f i)) (hr : ∀ (i : Nat) (x : DV), cells[i]? = some x → RelD M w x (f i)) :
      Rel φ M w (.dptr cells j) (.pointer (some ⟨b, off + j, none⟩))
  | ref0 (id sz row : Nat) (room : Bool) (a : Option Addr) : Rel φ M w (.ref id sz row 0 room) (.slice a 0 0)
  | ref (id sz row len b o cap : Nat) (room : Bool) (c : Array Value) (T : TypeId) (hb : φ id = some (b, o)) (hcap : len ≤ cap) (hroom : room = false → cap = len)
      (hheap : w.heap[b]? = some (.cells c T (0, 0))) (hfit : o + (row + cap) * sz ≤ c.size) : Rel φ M w (.ref id sz row len room) (.slice (some ⟨b, o + row * sz, none⟩) len cap)
  | clo (f : FuncId) (caps : List AV) (vs : Array Value) (hl : vs.size = caps.length)
      (h : ∀ (i : Nat) (x : AV) (v : Value), caps[i]? = some x → vs[i]? = some v → Rel φ M w x v) : Rel φ M w (.clo f caps) (.func (.func f) #[] vs)
  | mref (id b : Nat) (hb : φ id = some (b, 0)) : Rel φ M w (.mref id) (.map (some b))

/-- What one heap object is in a world. -/
def RelO (φ : Nat → Option (Nat × Nat)) (M : Nat → Prop) (w : World) (b o : Nat) (x : HO) : Prop :=
  ∀ sz rows, x.rows = some (sz, rows) → ∃ c T, w.heap[b]? = some (.cells c T (0, 0)) ∧ o + rows.length * sz ≤ c.size ∧ (∀ r ∈ rows, r.length = sz) ∧
      ∀ (i : Nat) (r : List AV) (j : Nat) (x : AV), rows[i]? = some r → r[j]? = some x → ∃ v, c[o + i * sz + j]? = some v ∧ Rel φ M w x v

/-- A heap and a world: 'A' are blocks of others that may still change. -/
structure SimH (A : Nat → Prop) (φ : Nat → Option (Nat × Nat)) (H : Heap) (w : World) : Prop where
  dom : ∀ i b o, φ i = some (b, o) → i < H.length ∧ b < w.heap.size
  there : ∀ i sz rows, (Heap.at H i).rows = some (sz, rows) → rows ≠ [] → ∃ b o, φ i = some (b, o)
  inj : ∀ i j b o o', (Heap.at H i).alive → (Heap.at H j).alive → φ i = some (b, o) → φ j = some (b, o') → i = j
  amb : ∀ b, A b → b < w.heap.size
  apart : ∀ b, A b → ¬ own φ H b
  objs : ∀ i b o, (Heap.at H i).alive → φ i = some (b, o) → RelO φ (fun b => A b ∨ own φ H b) w b o (Heap.at H i)

abbrev Mb (A : Nat → Prop) (φ : Nat → Option (Nat × Nat)) (H : Heap) : Nat → Prop := fun b => A b ∨ own φ H b

/-- How a world has gone on: blocks outside of 'M' are as they were; rows of cells keep their size. -/
structure Pres (M : Nat → Prop) (w w' : World) : Prop where
  size : w.heap.size ≤ w'.heap.size
  same : ∀ b, b < w.heap.size → ¬ M b → w'.heap[b]? = w.heap[b]?
  keep : ∀ (b : Nat) (c : Array Value) (T : TypeId), w.heap[b]? = some (.cells c T (0, 0)) → ∃ c', w'.heap[b]? = some (.cells c' T (0, 0)) ∧ c'.size = c.size
  os : w'.os = w.os ∧ w'.output = w.output
  fz : ∀ a, w'.frozen? a = w.frozen? a

theorem Pres.refl (M : Nat → Prop) (w : World) : Pres M w w := ⟨Nat.le_refl _, fun _ _ _ => rfl, fun _ c _ h => ⟨c, h, rfl⟩, ⟨rfl, rfl⟩, fun _ => rfl⟩

theorem Pres.trans {M M' : Nat → Prop} {w w' w'' : World} (h : Pres M w w') (h' : Pres M' w' w'') (hm : ∀ b, M' b → M b ∨ w.heap.size ≤ b) : Pres M w w'' where
  size := Nat.le_trans h.size h'.size
  same b hb hM := by
    rw [h'.same b (Nat.lt_of_lt_of_le hb h.size) (fun hm' => (hm b hm').elim hM (fun hle => by omega)), h.same b hb hM]
  keep b c T hc := by
    obtain ⟨c1, h1, e1⟩ := h.keep b c T hc
    obtain ⟨c2, h2, e2⟩ := h'.keep b c1 T h1
    exact ⟨c2, h2, e2.trans e1⟩
  os := ⟨h'.os.1.trans h.os.1, h'.os.2.trans h.os.2⟩
  fz a := (h'.fz a).trans (h.fz a)

theorem block_lt {w : World} {a : Addr} {v : Value} (h : w.cell? a = some v) : a.block < w.heap.size := by
  unfold World.cell? at h
  rcases Nat.lt_or_ge a.block w.heap.size with hl | hl
  · exact hl
  · simp [Array.getElem?_eq_none hl] at h

theorem cell_of_block {w w' : World} {a : Addr} (h : w'.heap[a.block]? = w.heap[a.block]?) : w'.cell? a = w.cell? a := by
  unfold World.cell?; rw [h]

theorem RelD.mono {M M' : Nat → Prop} {w w' : World} {x : DV} {v : Value} (h : RelD M w x v) (hz : w.heap.size ≤ w'.heap.size)
    (hs : ∀ b, b < w.heap.size → ¬ M b → w'.heap[b]? = w.heap[b]?) (hm : ∀ b, M' b → M b ∨ w.heap.size ≤ b) : RelD M' w' x v := by
  induction h with
  | list rows full sz b off cap f hb hM hsz hcap hfull hc hr ih =>
    refine .list rows full sz b off cap f (Nat.lt_of_lt_of_le hb hz) (fun hm' => ?_) hsz hcap hfull (fun i r j x h1 h2 => ?_) ih
    · rcases hm b hm' with h | h
      · exact hM h
      · omega
    · rw [cell_of_block (w := w) (hs b hb hM)]; exact hc i r j x h1 h2
  | nil full a cap hfull => exact .nil full a cap hfull
  | nan k b h => exact .nan k b h
  | _ => constructor

theorem Rel.mono {φ φ' : Nat → Option (Nat × Nat)} {M M' : Nat → Prop} {w w' : World} {x : AV} {v : Value} (h : Rel φ M w x v)
    (hφ : ∀ i b, φ i = some b → φ' i = some b) (hp : Pres M w w') (hm : ∀ b, M' b → M b ∨ w.heap.size ≤ b) : Rel φ' M' w' x v := by
  induction h with
  | undef v => exact .undef v
  | d x v h => exact .d x v (h.mono hp.size hp.same hm)
  | agg cells vs hl h ih => exact .agg cells vs hl ih
  | tup cells vs hl h ih => exact .tup cells vs hl ih
  | ptr id sz row j b o hb => exact .ptr id sz row j b o (hφ _ _ hb)
  | ref0 id sz row room a => exact .ref0 id sz row room a
  | dptr cells j b off f hlt hM hc hr =>
    refine .dptr cells j b off f (Nat.lt_of_lt_of_le hlt hp.size) (fun hm' => ?_) (fun i x h1 => ?_) (fun i x h1 => (hr i x h1).mono hp.size hp.same hm)
    · rcases hm b hm' with h | h
      · exact hM h
      · omega
    · rw [cell_of_block (w := w) (hp.same b hlt hM)]; exact hc i x h1
  | ref id sz row len b o cap room c T hb hcap hroom hheap hfit =>
    obtain ⟨c', h1, h2⟩ := hp.keep b c T hheap
    exact .ref id sz row len b o cap room c' T (hφ _ _ hb) hcap hroom h1 (h2 ▸ hfit)
  | clo f caps vs hl h ih => exact .clo f caps vs hl ih
  | mref id b hb => exact .mref id b (hφ _ _ hb)

end Go.Ago
