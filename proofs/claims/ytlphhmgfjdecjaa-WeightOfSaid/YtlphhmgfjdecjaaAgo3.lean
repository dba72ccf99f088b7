/- The operations of the abstract machine: what each asks and what it answers ('actK'). Conditions: none. -/
import Derived.Test.YtlphhmgfjdecjaaAgo2
set_option linter.unusedSimpArgs false
set_option linter.unusedVariables false
namespace Go.Ago

inductive Opd where
  | tmp (t : Nat)
  | cst (v : AV)
  deriving Inhabited

def Opd.ev (e : Env) : Opd → AV
  | .tmp t => e.get t
  | .cst v => v

structure Delta where
  val : AV
  ups : List (Nat × HO) := []
  rd : List Nat := []

inductive EqPlan where
  | bool
  | func
  | flat (ks : List Bool)
  deriving DecidableEq, Inhabited

/-- Operations on floats. -/
inductive FOp where
  | bin (op : BinOp)
  | ofInt (k : FloatKind)
  | bits
  | ofBits
  deriving Inhabited

/-- A result, or some NaN: which, nobody says. -/
def quoV (k : FloatKind) : Option Nat → DV
  | some r => .flt k r
  | none => .nan k

/-- A NaN on one side at least. -/
def nanBin (op : BinOp) : Option DV :=
  match op with
  | .eql | .lss | .leq | .gtr | .geq => some (.bool false)
  | .neq => some (.bool true)
  | _ => none

def fltBin (op : BinOp) (k : FloatKind) (a b : Nat) : Option DV :=
  match op with
  | .add => (k.format.add a b).map (.flt k)
  | .sub => (k.format.sub a b).map (.flt k)
  | .mul => (k.format.mul a b).map (.flt k)
  | .quo => some (quoV k (k.format.div a b))
  | .eql => some (.bool (k.format.order a b == some .eq))
  | .neq => some (.bool (k.format.order a b != some .eq))
  | .lss => some (.bool (k.format.order a b == some .lt))
  | .leq => some (.bool (k.format.order a b == some .lt || k.format.order a b == some .eq))
  | .gtr => some (.bool (k.format.order a b == some .gt))
  | .geq => some (.bool (k.format.order a b == some .gt || k.format.order a b == some .eq))
  | _ => none

def fltV (f : FOp) (x y : AV) : Option DV :=
  match f, x, y with
  | .bin op, .d (.flt k a), .d (.flt k' b) => if k = k' then fltBin op k a b else none
  | .bin op, .d (.nan k), .d (.flt k' _) => if k = k' then nanBin op else none
  | .bin op, .d (.flt k _), .d (.nan k') => if k = k' then nanBin op else none
  | .bin op, .d (.nan k), .d (.nan k') => if k = k' then nanBin op else none
  | .ofInt k, .d (.int _ n), _ => some (.flt k (k.nearest n))
  | .bits, .d (.flt .f64 b), _ => some (.int .u64 b)
  | .ofBits, .d (.int .u64 n), _ => some (.flt .f64 n.toNat)
  | _, _, _ => none

inductive LOp where
  | mv (x : Opd)
  | pick (c a b : Opd)
  | alloc (c sz : Nat) (zero : List AV)
  | box (c : Nat) (x : Opd)
  | build (zero : List AV) (parts : List (Nat × Nat × Opd))
  | bslice (c sz len : Nat) (zero : List AV) (parts : List (Nat × Opd))
  | load (agg : Bool) (sz : Nat) (a : Opd)
  | store (sz : Nat) (a x : Opd)
  | nilchk (x : Opd)
  | bin (op : BinOp) (x y : Opd)
  | eq (neg : Bool) (pl : EqPlan) (x y : Opd)
  | un (op : UnOp) (x : Opd)
  | conv (k : IntKind) (x : Opd)
  | fl (f : FOp) (x y : Opd)
  | fieldAddr (off : Nat) (x : Opd)
  | field (agg : Bool) (off sz : Nat) (x : Opd)
  | idxAddr (sz : Nat) (x i : Opd)
  | idxArrAddr (len sz : Nat) (x i : Opd)
  | idxArr (agg : Bool) (len sz : Nat) (x i : Opd)
  | mkslice (c sz bytes : Nat) (zero : List AV) (len cap : Opd)
  | slice (sz : Nat) (x : Opd) (lo hi max : Option Opd)
  | extract (i : Nat) (x : Opd)
  | mkfn (f : FuncId) (caps : List Opd)
  | call (c : Nat) (imp : Bool) (f : Opd) (args : List Opd)
  | append (c sz bytes : Nat) (x y : Opd)
  | copy (sz : Nat) (x y : Opd)
  | len (x : Opd)
  | maxi (x y : Opd)
  | mini (x y : Opd)
  deriving Inhabited

/-- Does it use the id that is kept for it? -/
def LOp.isNew : LOp → Bool
  | .alloc .. | .box .. | .bslice .. | .mkslice .. | .append .. => true
  | .call _ imp _ _ => imp
  | _ => false

/-- Does it neither read nor change the heap? -/
def LOp.still : LOp → Bool
  | .mv .. | .pick .. | .build .. | .nilchk .. | .bin .. | .eq .. | .un .. | .conv .. | .fl .. | .fieldAddr .. | .field .. | .idxAddr .. | .idxArrAddr .. | .idxArr .. | .slice .. | .extract .. | .mkfn .. | .len .. | .maxi .. | .mini .. => true
  | _ => false

/-! ### Small words -/
def pickV (b : Bool) : AV → AV → AV
  | .d (.bool x), .d (.bool y) => .d (.bool (if b then x else y))
  | .d (.int k x), .d (.int k' y) => if k = k' then .d (.int k (if b then x else y)) else if b then .d (.int k x) else .d (.int k' y)
  | x, y => if b then x else y

theorem pickV_eq (b : Bool) (x y : AV) : pickV b x y = if b then x else y := by
  unfold pickV; split <;> (try split) <;> cases b <;> simp_all

/-- The cells of a value that can be stored. -/
def AV.leaf : AV → Bool
  | .undef | .agg _ | .tup _ => false
  | _ => true

def AV.cellsOf : AV → Option (List AV)
  | .agg cs => if cs.all AV.leaf then some cs else none
  | .undef | .tup _ => none
  | x => some [x]

def dcells : List AV → Option (List DV)
  | [] => some []
  | .d x :: r => (dcells r).map (x :: ·)
  | _ => none

theorem dcells_map : ∀ (l : List AV) (ds : List DV), dcells l = some ds → l = ds.map .d := by
  intro l
  induction l with
  | nil => intro ds h; simp [dcells] at h; subst h; rfl
  | cons x r ih =>
    intro ds h
    cases x <;> simp [dcells] at h
    obtain ⟨ds', h1, rfl⟩ := h
    simp [ih ds' h1]

def loadRow (agg : Bool) (sz j : Nat) (r : List AV) : Option AV :=
  if agg then (if j + sz ≤ r.length then some (.agg ((r.drop j).take sz)) else none) else r[j]?

def loadRowD (agg : Bool) (sz j : Nat) (r : List DV) : Option AV :=
  if agg then (if j + sz ≤ r.length then some (.agg (((r.drop j).take sz).map .d)) else none) else (r[j]?).map .d

theorem loadRowD_eq (agg : Bool) (sz j : Nat) (r : List DV) : loadRow agg sz j (r.map .d) = loadRowD agg sz j r := by
  unfold loadRow loadRowD
  cases agg <;> simp [List.map_drop, List.map_take]

def putRow {α : Type} (j : Nat) (cs r : List α) : List α := r.take j ++ cs ++ r.drop (j + cs.length)

/-- An object with cells of one row put anew. -/
def HO.put (o : HO) (row j : Nat) (cs : List AV) : Option HO :=
  match o with
  | .vec sz rows => (rows[row]?).bind fun r => if j + cs.length ≤ sz then some (.vec sz (rows.set row (putRow j cs r))) else none
  | .dvec sz rows => (rows[row]?).bind fun r => (dcells cs).bind fun ds => if j + cs.length ≤ sz then some (.dvec sz (rows.set row (putRow j ds r))) else none
  | .dead => none

/-- One row of an object. -/
def HO.row (o : HO) (sz row : Nat) : Option (List AV) :=
  match o with
  | .vec sz' rows => if sz' = sz then rows[row]? else none
  | .dvec sz' rows => if sz' = sz then (rows[row]?).map (·.map .d) else none
  | .dead => none

def buildA (cells : List AV) : List (Nat × Nat × AV) → Option (List AV)
  | [] => some cells
  | (off, size, v) :: r => v.cellsOf.bind fun cs => if cs.length = size ∧ off + size ≤ cells.length then buildA (putRow off cs cells) r else none

def buildR (sz : Nat) (rows : List (List AV)) : List (Nat × AV) → Option (List (List AV))
  | [] => some rows
  | (i, v) :: r => v.cellsOf.bind fun cs => if cs.length = sz ∧ i < rows.length then buildR sz (rows.set i cs) r else none

def drows : List (List AV) → Option (List (List DV))
  | [] => some []
  | r :: rs => (dcells r).bind fun d => (drows rs).map (d :: ·)

theorem drows_map : ∀ (l : List (List AV)) (ds : List (List DV)), drows l = some ds → l = ds.map (·.map .d) := by
  intro l
  induction l with
  | nil => intro ds h; simp [drows] at h; subst h; rfl
  | cons x r ih =>
    intro ds h
    simp only [drows, Option.bind_eq_some_iff, Option.map_eq_some_iff] at h
    obtain ⟨d, h1, ds', h2, rfl⟩ := h
    simp [ih ds' h2, dcells_map x d h1]

/-- An object with these rows: as data, if they are. -/
def mkVec (sz : Nat) (rows : List (List AV)) : HO :=
  match drows rows with
  | some ds => .dvec sz ds
  | none => .vec sz rows

theorem mkVec_rows (sz : Nat) (rows : List (List AV)) : (mkVec sz rows).rows = some (sz, rows) := by
  unfold mkVec
  split
  · rename_i ds h; simp [HO.rows, ← drows_map rows ds h]
  · rfl

/-- Rows that are read as a source: rows of cells, and what object they lie in. -/
inductive Src where
  | rows (l : List (List AV))
  | drows (l : List (List DV))

def Src.all : Src → List (List AV)
  | .rows l => l
  | .drows l => l.map (·.map .d)

def srcOf (H : Heap) (sz : Nat) : AV → Option (Src × List Nat)
  | .ref id sz' row len _ =>
    match H.at id with
    | .vec sz2 rows => if sz' = sz ∧ sz2 = sz ∧ row + len ≤ rows.length then some (.rows ((rows.drop row).take len), [id]) else none
    | .dvec sz2 rows => if sz' = sz ∧ sz2 = sz ∧ row + len ≤ rows.length then some (.drows ((rows.drop row).take len), [id]) else none
    | .dead => none
  | .d (.list rows _) => some (.drows rows, [])
  | _ => none

def Src.len : Src → Nat
  | .rows l => l.length
  | .drows l => l.length

/-- Two sources, one behind the other, as an object. -/
def joinV (sz : Nat) : Src → Src → HO
  | .drows a, .drows b => .dvec sz (a ++ b)
  | .drows a, .rows b => .vec sz (a.map (·.map .d) ++ b)
  | .rows a, .drows b => .vec sz (a ++ b.map (·.map .d))
  | .rows a, .rows b => .vec sz (a ++ b)

theorem joinV_rows (sz : Nat) (a b : Src) : (joinV sz a b).rows = some (sz, a.all ++ b.all) := by
  cases a <;> cases b <;> simp [joinV, HO.rows, Src.all]

/-- An object whose rows from 'at' on are others. -/
def HO.splice (o : HO) (at_ : Nat) (s : Src) (m : Nat) : Option HO :=
  match o, s with
  | .dvec sz rows, .drows l => some (.dvec sz (rows.take at_ ++ l.take m ++ rows.drop (at_ + m)))
  | .vec sz rows, s => some (.vec sz (rows.take at_ ++ s.all.take m ++ rows.drop (at_ + m)))
  | _, _ => none

def binI (op : BinOp) (ka : IntKind) (a : Int) (kb : IntKind) (b : Int) (k : DV → Prop) : Prop :=
  match op with
  | .add => ka = kb ∧ k (.int ka (ka.wrap (a + b)))
  | .sub => ka = kb ∧ k (.int ka (ka.wrap (a - b)))
  | .mul => ka = kb ∧ k (.int ka (ka.wrap (a * b)))
  | .quo => ka = kb ∧ b ≠ 0 ∧ k (.int ka (ka.wrap (a.tdiv b)))
  | .rem => ka = kb ∧ b ≠ 0 ∧ k (.int ka (a.tmod b))
  | .and => ka = kb ∧ k (.int ka (bits .and ka a b))
  | .or => ka = kb ∧ k (.int ka (bits .or ka a b))
  | .xor => ka = kb ∧ k (.int ka (bits .xor ka a b))
  | .andNot => ka = kb ∧ k (.int ka (bits .andNot ka a b))
  | .shl => 0 ≤ b ∧ k (.int ka (ka.wrap (a * 2 ^ (min b.toNat ka.bits))))
  | .shr => 0 ≤ b ∧ k (.int ka (a.fdiv (2 ^ (min b.toNat ka.bits))))
  | .eql => ka = kb ∧ k (.bool (decide (a = b)))
  | .neq => ka = kb ∧ k (.bool (!decide (a = b)))
  | .lss => ka = kb ∧ k (.bool (decide (a < b)))
  | .leq => ka = kb ∧ k (.bool (decide (a ≤ b)))
  | .gtr => ka = kb ∧ k (.bool (decide (b < a)))
  | .geq => ka = kb ∧ k (.bool (decide (b ≤ a)))

/-- Are two cells the same? 'true': whole numbers, 'false': bools. -/
def eqC1 : Bool → AV → AV → Option Bool
  | true, .d (.int k a), .d (.int k' b) => if k = k' then some (decide (a = b)) else none
  | false, .d (.bool a), .d (.bool b) => some (a == b)
  | _, _, _ => none

def eqK : List Bool → List AV → List AV → Option Bool
  | [], [], [] => some true
  | k :: ks, x :: xs, y :: ys => (eqC1 k x y).bind fun b => (eqK ks xs ys).map (b && ·)
  | _, _, _ => none

def eqV (pl : EqPlan) (x y : AV) : Option Bool :=
  match pl with
  | .bool => (match x, y with
    | .d (.bool a), .d (.bool b) => some (a == b)
    | _, _ => none)
  | .flat ks => (match x, y with
    | .agg xs, .agg ys => eqK ks xs ys
    | _, _ => none)
  | .func => (match x, y with
    | .d .nilf, .d .nilf => some true
    | .d .nilf, .d (.fn _) => some false
    | .d .nilf, .clo _ _ => some false
    | .d (.fn _), .d .nilf => some false
    | .clo _ _, .d .nilf => some false
    | _, _ => none)

def intOpd (e : Env) (x : Opd) : Option Int :=
  match x.ev e with
  | .d (.int _ n) => some n
  | _ => none

def intOr (e : Env) (x : Option Opd) (n : Int) : Option Int :=
  match x with
  | some x => intOpd e x
  | none => some n

/-! ### What a call may come to -/
/-- A value without ids. -/
inductive Plain : AV → Prop
  | undef : Plain .undef
  | d (x : DV) : Plain (.d x)
  | agg (cs : List AV) (h : ∀ x ∈ cs, Plain x) : Plain (.agg cs)
  | tup (cs : List AV) (h : ∀ x ∈ cs, Plain x) : Plain (.tup cs)

def DV.scal : DV → Bool
  | .list rows _ => rows.isEmpty
  | _ => true

/-- An argument as data: rows of data of our own are looked at, their ids told. -/
inductive View (H : Heap) : AV → AV → List Nat → Prop
  | undef : View H .undef .undef []
  | d (x : DV) : View H (.d x) (.d x) []
  | ref (id sz row len : Nat) (room : Bool) (rows : List (List DV)) (h : H.at id = .dvec sz rows) (hl : row + len ≤ rows.length) :
      View H (.ref id sz row len room) (.d (.list ((rows.drop row).take len) false)) [id]
  | agg (cs cs' : List AV) (ids : List (List Nat)) (hl : cs'.length = cs.length) (hi : ids.length = cs.length)
      (h : ∀ (i : Nat) (x x' : AV) (l : List Nat), cs[i]? = some x → cs'[i]? = some x' → ids[i]? = some l → View H x x' l) : View H (.agg cs) (.agg cs') ids.flatten

/-- A result as data. -/
inductive Frz (H : Heap) : AV → AV → Prop
  | undef (x : AV) : Frz H x .undef
  | d (x : DV) : Frz H (.d x) (.d x)
  | less (rows : List (List DV)) (full : Bool) : Frz H (.d (.list rows full)) (.d (.list rows false))
  | ref (id sz row len : Nat) (room : Bool) (rows : List (List DV)) (h : H.at id = .dvec sz rows) (hl : row + len ≤ rows.length) :
      Frz H (.ref id sz row len room) (.d (.list ((rows.drop row).take len) false))
  | deep (id sz row len : Nat) (room : Bool) (rows : List (List AV)) (rows' : List (List DV)) (h : (H.at id).rows = some (sz, rows)) (hl : row + len ≤ rows.length)
      (hl' : rows'.length = len) (hr : ∀ r ∈ rows', r.length = sz)
      (hc : ∀ (i : Nat) (r : List AV) (r' : List DV) (j : Nat) (x : AV) (x' : DV), rows[row + i]? = some r → rows'[i]? = some r' → r[j]? = some x → r'[j]? = some x' → Frz H x (.d x')) :
      Frz H (.ref id sz row len room) (.d (.list rows' false))
  | agg (cs cs' : List AV) (hl : cs'.length = cs.length) (h : ∀ (i : Nat) (x x' : AV), cs[i]? = some x → cs'[i]? = some x' → Frz H x x') : Frz H (.agg cs) (.agg cs')
  | tup (cs cs' : List AV) (hl : cs'.length = cs.length) (h : ∀ (i : Nat) (x x' : AV), cs[i]? = some x → cs'[i]? = some x' → Frz H x x') : Frz H (.tup cs) (.tup cs')

/-- Lists in it come out of the call's own rows alone. -/
inductive Fresh (H : Heap) : AV → Prop
  | d (x : DV) (h : x.scal = true) : Fresh H (.d x)
  | undef : Fresh H .undef
  | ref (id sz row len : Nat) (room : Bool) (rows : List (List DV)) (h : H.at id = .dvec sz rows) (hs : ∀ r ∈ rows, ∀ x ∈ r, x.scal = true) : Fresh H (.ref id sz row len room)
  | agg (cs : List AV) (h : ∀ x ∈ cs, Fresh H x) : Fresh H (.agg cs)
  | tup (cs : List AV) (h : ∀ x ∈ cs, Fresh H x) : Fresh H (.tup cs)

end Go.Ago
