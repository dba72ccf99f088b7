/- From the model's operations to those of the abstract machine: 'low', with what the program says of types. Conditions: none. -/
import Derived.Test.YtlphhmgfjdecjaaAgo6
set_option linter.unusedSimpArgs false
set_option linter.unusedVariables false
namespace Go.Ago

def cval : Value → Option AV
  | .bool b => some (.d (.bool b))
  | .int k n => some (.d (.int k n))
  | .string s => some (.d (.str s))
  | .float k b => some (.d (.flt k b))
  | .pointer none => some (.d .nilp)
  | .slice none 0 0 => some (.d (.list [] true))
  | .map none => some (.d .nilm)
  | .nilFunc => some (.d .nilf)
  | _ => none

theorem cval_rel {φ : Nat → Option (Nat × Nat)} {M : Nat → Prop} {w : World} {v : Value} {x : AV} (h : cval v = some x) : Rel φ M w x v ∧ x.leaf = true := by
  unfold cval at h
  split at h <;> simp at h <;> subst h <;> refine ⟨.d _ _ ?_, rfl⟩
  · exact .bool _
  · exact .int _ _
  · exact .str _
  · exact .flt _ _
  · exact .nilp
  · exact .nil _ _ _ (fun _ => rfl)
  · exact .nilm
  · exact .nilf

def lowOpd : Operand → Option Opd
  | .tmp t => some (.tmp t)
  | .const v => (cval v).map .cst
  | .global _ => none
  | .func f => some (.cst (.d (.fn f)))

theorem lowOpd_rel {A : Nat → Prop} {n : Nat} {φ : Nat → Option (Nat × Nat)} {S : State} {a : Act} {w : World} (hs : Sim A n φ S a w) {x : Operand} {y : Opd} (h : lowOpd x = some y) :
    Rel φ (Mb A φ S.heap) w (y.ev S.env) (a.eval x) := by
  cases x with
  | tmp t => simp [lowOpd] at h; subst h; exact hs.slots t
  | const v =>
    simp only [lowOpd, Option.map_eq_some_iff] at h
    obtain ⟨z, hz, rfl⟩ := h
    exact (cval_rel hz).1
  | global g => simp [lowOpd] at h
  | func f => simp [lowOpd] at h; subst h; exact .d _ _ (.fn f)

def lowOpds : List Operand → Option (List Opd)
  | [] => some []
  | x :: xs => (lowOpd x).bind fun y => (lowOpds xs).map (y :: ·)

theorem lowOpds_get : ∀ (xs : List Operand) (ys : List Opd), lowOpds xs = some ys → ys.length = xs.length ∧ ∀ (i : Nat) (x : Operand) (y : Opd), xs[i]? = some x → ys[i]? = some y → lowOpd x = some y := by
  intro xs
  induction xs with
  | nil => intro ys h; simp [lowOpds] at h; subst h; simp
  | cons x xs ih =>
    intro ys h
    simp only [lowOpds, Option.bind_eq_some_iff, Option.map_eq_some_iff] at h
    obtain ⟨y, hy, ys', hys, rfl⟩ := h
    obtain ⟨h1, h2⟩ := ih ys' hys
    refine ⟨by simp [h1], fun i => ?_⟩
    cases i with
    | zero => intro x' y' hx' hy'; simp at hx' hy'; subst hx'; subst hy'; exact hy
    | succ i => intro x' y' hx' hy'; simp at hx' hy'; exact h2 i x' y' hx' hy'

def lowO (x : Option Operand) : Option (Option Opd) :=
  match x with
  | none => some none
  | some x => (lowOpd x).map some

def cvals : List Value → Option (List AV)
  | [] => some []
  | x :: xs => (cval x).bind fun y => (cvals xs).map (y :: ·)

theorem cvals_get : ∀ (xs : List Value) (ys : List AV), cvals xs = some ys → ys.length = xs.length ∧ ∀ (i : Nat) (x : Value) (y : AV), xs[i]? = some x → ys[i]? = some y → cval x = some y := by
  intro xs
  induction xs with
  | nil => intro ys h; simp [cvals] at h; subst h; simp
  | cons x xs ih =>
    intro ys h
    simp only [cvals, Option.bind_eq_some_iff, Option.map_eq_some_iff] at h
    obtain ⟨y, hy, ys', hys, rfl⟩ := h
    obtain ⟨h1, h2⟩ := ih ys' hys
    refine ⟨by simp [h1], fun i => ?_⟩
    cases i with
    | zero => intro x' y' hx' hy'; simp at hx' hy'; subst hx'; subst hy'; exact hy
    | succ i => intro x' y' hx' hy'; simp at hx' hy'; exact h2 i x' y' hx' hy'

/-- The cells of a type's zero value. -/
def zeroA (P : Program) (t : TypeId) : Option (List AV) :=
  (P.info? t).bind fun i => i.zero.bind fun z => (cvals z.cells.toList).bind fun l => if l.length = i.size then some l else none

def flatFields (P : Program) (rec : TypeId → Option (List Bool)) : List Field → Nat → Option (List Bool)
  | [], _ => some []
  | f :: fs, n => if f.name = "_" ∨ f.offset ≠ n then none else (rec f.type).bind fun l => if lowSz P f.type = some l.length ∧ (lowAgg P f.type = some true ∨ lowAgg P f.type = some false ∧ l.length = 1) then (flatFields P rec fs (n + l.length)).map (l ++ ·) else none

/-- How a struct or an array is compared: cells of whole numbers and bools alone, none of them left out. -/
def flatEq (P : Program) : Nat → TypeId → Option (List Bool)
  | 0, _ => none
  | d + 1, t =>
    match P.underlying t with
    | some (.int _) => some [true]
    | some .bool => some [false]
    | some (.struct fs) => if P.stoodInHeld t then none else flatFields P (flatEq P d) fs.toList 0
    | some (.array len e) => (match P.underlying e with
      | some (.int _) => if lowSz P e = some 1 ∧ (P.info? e).isSome then some (List.replicate len true) else none
      | _ => none)
    | _ => none

def eqPlan (P : Program) (t : TypeId) : Option EqPlan :=
  match P.underlying t with
  | some .bool => some .bool
  | some (.func _ _ _) => some .func
  | some (.struct _) => if P.eqGuardType P.depth t then none else (flatEq P 8 t).map .flat
  | some (.array _ _) => if P.eqGuardType P.depth t then none else (flatEq P 8 t).map .flat
  | _ => none

def lowParts (P : Program) (fs : Array Field) : List (Nat × Operand) → Option (List (Nat × Nat × Opd))
  | [] => some []
  | (i, x) :: r => (fs[i]?).bind fun f => (lowSz P f.type).bind fun sz => (lowOpd x).bind fun y => (lowParts P fs r).map ((f.offset, sz, y) :: ·)

def lowPartsA (sz : Nat) : List (Nat × Operand) → Option (List (Nat × Nat × Opd))
  | [] => some []
  | (i, x) :: r => (lowOpd x).bind fun y => (lowPartsA sz r).map ((i * sz, sz, y) :: ·)

def lowPartsS : List (Nat × Operand) → Option (List (Nat × Opd))
  | [] => some []
  | (i, x) :: r => (lowOpd x).bind fun y => (lowPartsS r).map ((i, y) :: ·)

/-- Functions without a body that the machine stands in for: what they do. -/
def externF (P : Program) : Opd → Option FOp
  | .cst (.d (.fn g)) =>
    (match P.funcs[g]? with
    | some fn => if fn.body.isNone then
        (if (Extern.findNext fn).isNone then
          (if fn.name = "math.Float64bits" then some .bits else if fn.name = "math.Float64frombits" then some .ofBits else none) else none) else none
    | none => none)
  | _ => none

/-- An operation of the model as one of ours; 'c': the number of the id that it may use. -/
def low (P : Program) (c : Nat) (ty : TypeId) (o : Op) : Option LOp :=
  match o with
  | .move x => (lowOpd x).map .mv
  | .assign x => (lowOpd x).map .mv
  | .pick x a b => (lowOpd x).bind fun x => (lowOpd a).bind fun a => (lowOpd b).map fun b => .pick x a b
  | .alloc t => (lowSz P t).bind fun sz => (zeroA P t).map fun z => .alloc c sz z
  | .box _ x => (lowOpd x).map fun x => .box c x
  | .build t parts =>
    match P.underlying t with
    | some (.struct fs) => (zeroA P t).bind fun z => (if fs.all (fun f => (lowSz P f.type).isSome) then some () else none).bind fun _ => (lowParts P fs parts.toList).map fun ps => .build z ps
    | some (.array _ e) => (zeroA P t).bind fun z => (lowSz P e).bind fun sz => (lowPartsA sz parts.toList).map fun ps => .build z ps
    | _ => none
  | .buildSlice t len parts =>
    match P.underlying t with
    | some (.slice e) => if len = 0 ∧ parts.size = 0 then (lowSz P e).map fun _ => .mv (.cst (.d (.list [] true))) else (lowSz P e).bind fun sz => (zeroA P e).bind fun z => if 0 < sz ∧ 0 < len ∧ len * sz ≤ 2 ^ 20 then (lowPartsS parts.toList).map fun ps => .bslice c sz len z ps else none
    | _ => none
  | .load t a => (lowAgg P t).bind fun g => (lowSz P t).bind fun sz => (lowOpd a).map fun a => .load g sz a
  | .store t a x => (lowSz P t).bind fun sz => (lowOpd a).bind fun a => (lowOpd x).map fun x => .store sz a x
  | .nilCheck x => (lowOpd x).map .nilchk
  | .binOp op t x y _ =>
    (lowOpd x).bind fun x => (lowOpd y).bind fun y =>
      match op with
      | .eql => (match P.underlying t with | some (.int _) => some (.bin .eql x y) | some (.float _) => some (.fl (.bin .eql) x y) | _ => (eqPlan P t).map fun p => .eq false p x y)
      | .neq => (match P.underlying t with | some (.int _) => some (.bin .neq x y) | some (.float _) => some (.fl (.bin .neq) x y) | _ => (eqPlan P t).map fun p => .eq true p x y)
      | op => (match P.underlying t with | some (.float _) => some (.fl (.bin op) x y) | _ => some (.bin op x y))
  | .unOp op _ x => (lowOpd x).map fun x => .un op x
  | .convert s d x =>
    match P.underlying s, P.underlying d with
    | some _, some (.int k) => (lowOpd x).map fun x => .conv k x
    | some (.int _), some (.float k) => (lowOpd x).map fun x => .fl (.ofInt k) x x
    | _, _ => none
  | .fieldAddr s x f =>
    match P.underlying s with
    | some (.struct fs) => (fs[f]?).bind fun fd => (lowSz P fd.type).bind fun sz => if sz = 0 then none else (lowOpd x).map fun x => .fieldAddr fd.offset x
    | _ => none
  | .field s x f =>
    match P.underlying s with
    | some (.struct fs) => (fs[f]?).bind fun fd => (lowAgg P fd.type).bind fun g => (lowSz P fd.type).bind fun sz => (lowOpd x).map fun x => .field g fd.offset sz x
    | _ => none
  | .indexAddr t x i =>
    match P.underlying t with
    | some (.slice e) => (lowSz P e).bind fun sz => (lowOpd x).bind fun x => (lowOpd i).map fun i => .idxAddr sz x i
    | some (.array len e) => (lowSz P e).bind fun sz => (lowOpd x).bind fun x => (lowOpd i).map fun i => .idxArrAddr len sz x i
    | _ => none
  | .index t x i =>
    match P.underlying t with
    | some (.array len e) => (lowAgg P e).bind fun g => (lowSz P e).bind fun sz => (lowOpd x).bind fun x => (lowOpd i).map fun i => .idxArr g len sz x i
    | _ => none
  | .makeSlice t l m =>
    match P.underlying t with
    | some (.slice e) => (P.info? e).bind fun i => (zeroA P e).bind fun z => (lowOpd l).bind fun l => (lowOpd m).map fun m => .mkslice c i.size i.bytes z l m
    | _ => none
  | .slice t x lo hi mx =>
    match P.underlying t with
    | some (.slice e) => (lowSz P e).bind fun sz => (lowOpd x).bind fun x => (lowO lo).bind fun lo => (lowO hi).bind fun hi => (lowO mx).map fun mx => .slice sz x lo hi mx
    | _ => none
  | .extract x i => (lowOpd x).map fun x => .extract i x
  | .makeFunc (.func f) first caps => if first.isEmpty then (lowOpds caps.toList).map fun cs => .mkfn f cs else none
  | .call { callee := .value f, args, .. } => (lowOpd f).bind fun f => (lowOpds args.toList).bind fun xs =>
      match externF P f with
      | none => some (.call c (match P.underlying ty with | some (.slice _) => true | _ => false) f xs)
      | some g => (match xs with | [x] => some (.fl g x x) | _ => none)
  | .call { callee := .builtin b, args, argTypes } =>
    (lowOpds args.toList).bind fun xs =>
      match b, xs with
      | .append, [x, y] =>
        (match (argTypes[0]?).bind P.underlying, (argTypes[1]?).bind P.underlying with
        | some (.slice e), some (.slice _) => (P.info? e).bind fun i => (zeroA P e).map fun _ => .append c i.size i.bytes x y
        | _, _ => none)
      | .copy, [x, y] =>
        (match (argTypes[0]?).bind P.underlying with
        | some (.slice e) => (lowSz P e).map fun sz => .copy sz x y
        | _ => none)
      | .len, [x] =>
        (match (argTypes[0]?).bind P.underlying with
        | some (.slice _) => some (.len x)
        | _ => none)
      | .max, [x, y] => some (.maxi x y)
      | .min, [x, y] => some (.mini x y)
      | _, _ => none
  | _ => none

end Go.Ago
