/- What an operation asks and answers ('actK'), regions ('RG'), and what a call may come to. Conditions: none. -/
import Derived.Test.YtlphhmgfjdecjaaAgo3
set_option linter.unusedSimpArgs false
set_option linter.unusedVariables false
namespace Go.Ago

def Enters (P : Program) (f : FuncId) : Prop := ∃ fn, P.funcs[f]? = some fn ∧ (fn.name == "runtime.NumGoroutine") = false ∧ fn.body.isNone = false

/-- A call of abstract values, over a heap: it returns, and its result and the heap then are among 'Post'. -/
def ACalls (P : Program) (f : FuncId) (args : List AV) (H : Heap) (Post : AV → Heap → Prop) : Prop :=
  Enters P f ∧ ∀ (A : Nat → Prop) (φ : Nat → Option (Nat × Nat)) (w : World) (vals : Array Value), SimH A φ H w → vals.size = args.length →
    (∀ (i : Nat) (x : AV) (v : Value), args[i]? = some x → vals[i]? = some v → Rel φ (Mb A φ H) w x v) →
    Calls P f vals w fun e w' => ∃ v r H' φ', e = .returned v ∧ Post r H' ∧ SimH A φ' H' w' ∧ Rel φ' (Mb A φ' H') w' r v ∧ Ext H.length φ H w φ' H' w'

theorem ACalls.mono {P : Program} {f : FuncId} {args : List AV} {H : Heap} {Post Post' : AV → Heap → Prop} (h : ACalls P f args H Post) (hp : ∀ r H', Post r H' → Post' r H') :
    ACalls P f args H Post' :=
  ⟨h.1, fun A φ w vals hs hz hr => (h.2 A φ w vals hs hz hr).mono fun e w' ⟨v, r, H', φ', h1, h2, h3⟩ => ⟨v, r, H', φ', h1, hp _ _ h2, h3⟩⟩

/-- Rows that the call made. -/
def IsRows (H : Heap) (r : AV) (sz : Nat) (rows : List (List DV)) : Prop :=
  (∃ id room, r = .ref id sz 0 rows.length room ∧ H.at id = .dvec sz rows) ∨ (rows = [] ∧ r = .d (.list [] true))

/-- Arguments as data. -/
def Views (H : Heap) (args args' : List AV) (ids : List Nat) : Prop :=
  ∃ l : List (List Nat), args'.length = args.length ∧ l.length = args.length ∧ ids = l.flatten ∧
    ∀ (i : Nat) (x x' : AV) (m : List Nat), args[i]? = some x → args'[i]? = some x' → l[i]? = some m → View H x x' m

def callData (P : Program) (H : Heap) (f : FuncId) (args : List AV) (k : Delta → Prop) : Prop :=
  ∃ args' ids x, Views H args args' ids ∧ Plain x ∧ ((ACalls P f args' [] (fun r H' => Frz H' r x ∧ (ids = [] ∨ Fresh H' r)) ∧ k ⟨x, [], ids⟩) ∨ (ACalls P f args' [] (fun r H' => Frz H' r x) ∧ k ⟨x, ids.map (fun i => (i, HO.dead)), []⟩))

def callImp (P : Program) (H : Heap) (new : Nat) (f : FuncId) (args : List AV) (k : Delta → Prop) : Prop :=
  ∃ args' ids sz rows, Views H args args' ids ∧ (∀ r ∈ rows, r.length = sz) ∧ (ids = [] ∨ ∀ r ∈ rows, ∀ x ∈ r, DV.scal x = true) ∧
    ACalls P f args' [] (fun r H' => IsRows H' r sz rows) ∧ k ⟨.ref new sz 0 rows.length true, [(new, .dvec sz rows)], ids⟩

def fnOf : AV → Option (FuncId × List AV)
  | .d (.fn f) => some (f, [])
  | .clo f caps => some (f, caps)
  | _ => none

def actLoad (H : Heap) (agg : Bool) (sz : Nat) (a : AV) (k : Delta → Prop) : Prop :=
  match a with
  | .ptr id sz0 row j => ∃ r, (H.at id).row sz0 row = some r ∧ ∃ x, loadRow agg sz j r = some x ∧ k ⟨x, [], [id]⟩
  | .dptr cs j => ∃ x, loadRowD agg sz j cs = some x ∧ k ⟨x, [], []⟩
  | _ => False

def actStore (H : Heap) (sz : Nat) (a x : AV) (k : Delta → Prop) : Prop :=
  match a with
  | .ptr id sz0 row j => ∃ cs, x.cellsOf = some cs ∧ cs.length = sz ∧ (∃ r, (H.at id).row sz0 row = some r) ∧ ∃ o, (H.at id).put row j cs = some o ∧ k ⟨.tup [], [(id, o)], []⟩
  | _ => False

def actBin (op : BinOp) (x y : AV) (k : DV → Prop) : Prop :=
  match x, y with
  | .d (.int ka a), .d (.int kb b) => binI op ka a kb b k
  | _, _ => False

def actUn (op : UnOp) (x : AV) (k : DV → Prop) : Prop :=
  match op, x with
  | .neg, .d (.int ka a) => k (.int ka (ka.wrap (0 - a)))
  | .xor, .d (.int ka a) => k (.int ka (bits .xor ka (if ka.signed then -1 else ka.max) a))
  | .not, .d (.bool b) => k (.bool (!b))
  | _, _ => False

def actIdxAddr (sz : Nat) (x i : AV) (k : AV → Prop) : Prop :=
  match x, i with
  | .ref id sz0 row len _, .d (.int _ n) => sz0 = sz ∧ 0 ≤ n ∧ n < len ∧ k (.ptr id sz0 (row + n.toNat) 0)
  | .d (.list rows _), .d (.int _ n) => 0 ≤ n ∧ ∃ r, rows[n.toNat]? = some r ∧ r.length = sz ∧ k (.dptr r 0)
  | _, _ => False

def actIdxArr (agg : Bool) (len sz : Nat) (x i : AV) (k : AV → Prop) : Prop :=
  match x, i with
  | .agg cs, .d (.int _ n) => 0 ≤ n ∧ n < len ∧ ∃ v, loadRow agg sz (n.toNat * sz) cs = some v ∧ k v
  | _, _ => False

def actIdxArrAddr (len sz : Nat) (x i : AV) (k : AV → Prop) : Prop :=
  match x, i with
  | .ptr id sz0 row j, .d (.int _ n) => 0 ≤ n ∧ n < len ∧ k (.ptr id sz0 row (j + n.toNat * sz))
  | .dptr cs j, .d (.int _ n) => 0 ≤ n ∧ n < len ∧ k (.dptr cs (j + n.toNat * sz))
  | _, _ => False

def actSlice (sz : Nat) (e : Env) (x : AV) (lo hi mx : Option Opd) (k : AV → Prop) : Prop :=
  match x with
  | .ref id sz0 row len room => sz0 = sz ∧ ∃ l h m, intOr e lo 0 = some l ∧ intOr e hi len = some h ∧ intOr e mx h = some m ∧ 0 ≤ l ∧ l ≤ h ∧ h ≤ m ∧ m ≤ len ∧ (mx.isSome → hi.isSome) ∧
      k (.ref id sz0 (row + l.toNat) (h.toNat - l.toNat) (if mx.isSome then decide (m ≠ h) else (if h = len then room else true)))
  | .d (.list rows full) => (∀ r ∈ rows, r.length = sz) ∧ ∃ l h m, intOr e lo 0 = some l ∧ intOr e hi rows.length = some h ∧ intOr e mx h = some m ∧ 0 ≤ l ∧ l ≤ h ∧ h ≤ m ∧ m ≤ rows.length ∧ (mx.isSome → hi.isSome) ∧
      k (.d (.list ((rows.take h.toNat).drop l.toNat) (if mx.isSome then decide (m = h) else (full && decide (h = rows.length)))))
  | _ => False

/-- The most rows that an append or a make may come to. -/
def roomy (n bytes : Nat) : Prop := n ≤ 2 ^ 40 ∧ n * bytes ≤ 2 ^ 46

def Src.leaf : Src → Bool
  | .rows l => l.all (·.all AV.leaf)
  | .drows _ => true

def actAppend (H : Heap) (new sz bytes : Nat) (x y : AV) (k : Delta → Prop) : Prop :=
  match x with
  | .ref id sz0 row len _ => ∃ d i1 s i2, sz0 = sz ∧ srcOf H sz x = some (d, i1) ∧ srcOf H sz y = some (s, i2) ∧ (∀ r ∈ s.all, r.length = sz) ∧ s.leaf = true ∧ roomy (d.len + s.len) bytes ∧
      k ⟨.ref new sz 0 (d.len + s.len) true, [(id, .dead), (new, joinV sz d s)], i2⟩
  | .d (.list rows true) => ∃ s i2, srcOf H sz y = some (s, i2) ∧ (∀ r ∈ rows, r.length = sz) ∧ (∀ r ∈ s.all, r.length = sz) ∧ s.leaf = true ∧ (rows = [] ∨ 0 < s.len) ∧ roomy (rows.length + s.len) bytes ∧
      k ⟨.ref new sz 0 (rows.length + s.len) true, [(new, joinV sz (.drows rows) s)], i2⟩
  | _ => False

def actCopy (H : Heap) (sz : Nat) (x y : AV) (k : Delta → Prop) : Prop :=
  match x with
  | .ref id sz0 row len _ => ∃ s i2 o, srcOf H sz y = some (s, i2) ∧ (∀ r ∈ s.all, r.length = sz) ∧ s.leaf = true ∧ (∃ d i1, srcOf H sz x = some (d, i1)) ∧ (H.at id).splice row s (min len s.len) = some o ∧
      k ⟨.d (.int .i64 (min len s.len : Nat)), [(id, o)], i2⟩
  | _ => False

def actLen (x : AV) (k : DV → Prop) : Prop :=
  match x with
  | .ref _ _ _ len _ => k (.int .i64 len)
  | .d (.list rows _) => k (.int .i64 rows.length)
  | _ => False

def actMk (sz bytes : Nat) (zero : List AV) (l c : AV) (k : Nat → Prop) : Prop :=
  match l, c with
  | .d (.int _ n), .d (.int _ m) => 0 ≤ n ∧ n ≤ m ∧ roomy m.toNat bytes ∧ k n.toNat
  | _, _ => False

def actInt2 (x y : AV) (k : IntKind → Int → Int → Prop) : Prop :=
  match x, y with
  | .d (.int ka a), .d (.int _ b) => k ka a b
  | _, _ => False

def val (k : Delta → Prop) (x : AV) : Prop := k ⟨x, [], []⟩

def actK (P : Program) (base : Nat) (e : Env) (H : Heap) (o : LOp) (k : Delta → Prop) : Prop :=
  match o with
  | .mv x => val k (x.ev e)
  | .pick c a b => ∃ t, c.ev e = .d (.bool t) ∧ val k (pickV t (a.ev e) (b.ev e))
  | .alloc c sz zero => k ⟨.ptr (base + c) sz 0 0, [(base + c, .vec sz [zero])], []⟩
  | .box c x => ∃ cs, (x.ev e).cellsOf = some cs ∧ k ⟨.ptr (base + c) cs.length 0 0, [(base + c, .vec cs.length [cs])], []⟩
  | .build zero parts => ∃ cs, buildA zero (parts.map fun p => (p.1, p.2.1, p.2.2.ev e)) = some cs ∧ val k (.agg cs)
  | .bslice c sz len zero parts => ∃ rows, buildR sz (List.replicate len zero) (parts.map fun p => (p.1, p.2.ev e)) = some rows ∧
      k ⟨.ref (base + c) sz 0 len true, [(base + c, mkVec sz rows)], []⟩
  | .load agg sz a => actLoad H agg sz (a.ev e) k
  | .store sz a x => actStore H sz (a.ev e) (x.ev e) k
  | .nilchk x => (match x.ev e with | .ptr .. | .dptr .. | .clo .. | .d (.fn _) => True | _ => False) ∧ val k (x.ev e)
  | .bin op x y => actBin op (x.ev e) (y.ev e) fun v => val k (.d v)
  | .eq neg pl x y => ∃ b, eqV pl (x.ev e) (y.ev e) = some b ∧ val k (.d (.bool (if neg then !b else b)))
  | .un op x => actUn op (x.ev e) fun v => val k (.d v)
  | .conv kd x => ∃ n, intOpd e x = some n ∧ val k (.d (.int kd (kd.wrap n)))
  | .fl f x y => ∃ v, fltV f (x.ev e) (y.ev e) = some v ∧ val k (.d v)
  | .fieldAddr off x => (match x.ev e with | .ptr id sz row j => val k (.ptr id sz row (j + off)) | .dptr cs j => val k (.dptr cs (j + off)) | _ => False)
  | .field agg off sz x => (match x.ev e with | .agg cs => ∃ v, loadRow agg sz off cs = some v ∧ val k v | _ => False)
  | .idxAddr sz x i => actIdxAddr sz (x.ev e) (i.ev e) (val k)
  | .idxArrAddr len sz x i => actIdxArrAddr len sz (x.ev e) (i.ev e) (val k)
  | .idxArr agg len sz x i => actIdxArr agg len sz (x.ev e) (i.ev e) (val k)
  | .mkslice c sz bytes zero l m => actMk sz bytes zero (l.ev e) (m.ev e) fun n => k ⟨.ref (base + c) sz 0 n true, [(base + c, mkVec sz (List.replicate n zero))], []⟩
  | .slice sz x lo hi mx => actSlice sz e (x.ev e) lo hi mx (val k)
  | .extract i x => (match x.ev e with | .tup vs => ∃ v, vs[i]? = some v ∧ val k v | _ => False)
  | .mkfn f caps => val k (match caps with | [] => .d (.fn f) | _ => .clo f (caps.map (·.ev e)))
  | .call c imp f args => ∃ g caps, fnOf (f.ev e) = some (g, caps) ∧ (callData P H g (args.map (·.ev e) ++ caps) k ∨ imp = true ∧ callImp P H (base + c) g (args.map (·.ev e) ++ caps) k)
  | .append c sz bytes x y => actAppend H (base + c) sz bytes (x.ev e) (y.ev e) k
  | .copy sz x y => actCopy H sz (x.ev e) (y.ev e) k
  | .len x => actLen (x.ev e) fun v => val k (.d v)
  | .maxi x y => actInt2 (x.ev e) (y.ev e) fun kd a b => val k (.d (.int kd (if b > a then b else a)))
  | .mini x y => actInt2 (x.ev e) (y.ev e) fun kd a b => val k (.d (.int kd (if b < a then b else a)))

def State.app (S : State) (dst : Option Nat) (δ : Delta) : State :=
  { env := S.env.put dst δ.val, heap := δ.ups.foldl (fun H p => H.set p.1 p.2) S.heap }

structure LOper where
  dst : Option Nat
  op : LOp
  guard : Option (Nat × Bool)
  deriving Inhabited

/-- What operations of a region touched: for each what it read, what it changed. -/
abbrev Feet := List (List Nat × List Nat)

def apartF (a b : List Nat × List Nat) : Bool := a.2.all (fun i => !b.1.contains i && !b.2.contains i) && b.2.all (fun i => !a.1.contains i)

def chk (pairs : List (Nat × Nat)) (f : Feet) : Bool := pairs.all fun p => apartF (f.getD p.1 ([], [])) (f.getD p.2 ([], []))

def RG (P : Program) (draw : Bool) (base : Nat) (pairs : List (Nat × Nat)) (K : State → Prop) : List LOper → State → Feet → Prop
  | [], S, acc => chk pairs acc.reverse = true ∧ K S
  | o :: os, S, acc =>
    let go : Prop :=
      (actK P base S.env S.heap o.op fun δ => RG P draw base pairs K os (S.app o.dst δ) ((δ.rd, δ.ups.map (·.1)) :: acc)) ∨
      (draw = false ∧ ∃ c imp f args g caps, o.op = .call c imp f args ∧ fnOf (f.ev S.env) = some (g, caps) ∧
        ACalls P g (args.map (·.ev S.env) ++ caps) S.heap fun r H' => S.heap.length ≤ H'.length ∧ RG P draw base pairs K os ({ S with heap := H' }.app o.dst ⟨r, [], []⟩) (([], []) :: acc))
    let skip : Prop := RG P draw base pairs K os (S.app o.dst ⟨.tup [], [], []⟩) (([], []) :: acc)
    match o.guard with
    | none => go
    | some (g, want) =>
      match S.env.get g with
      | .d (.bool b) => (b = want → go) ∧ (b ≠ want → skip)
      | .tup [] => skip
      | _ => False

/-! ### Each operation is decided: what is asked holds of one answer -/
theorem actK_ex {P : Program} {base : Nat} {e : Env} {H : Heap} {o : LOp} {k : Delta → Prop} (h : actK P base e H o k) : ∃ δ, actK P base e H o (· = δ) ∧ k δ := by
  cases o with
  | mv x => exact ⟨_, rfl, h⟩
  | pick c a b => obtain ⟨t, h1, h2⟩ := h; exact ⟨_, ⟨t, h1, rfl⟩, h2⟩
  | alloc c sz zero => exact ⟨_, rfl, h⟩
  | box c x => obtain ⟨cs, h1, h2⟩ := h; exact ⟨_, ⟨cs, h1, rfl⟩, h2⟩
  | build zero parts => obtain ⟨cs, h1, h2⟩ := h; exact ⟨_, ⟨cs, h1, rfl⟩, h2⟩
  | bslice c sz len zero parts => obtain ⟨cs, h1, h2⟩ := h; exact ⟨_, ⟨cs, h1, rfl⟩, h2⟩
  | load agg sz a =>
    simp only [actK, actLoad] at h ⊢
    split at h
    · obtain ⟨r, h1, x, h2, h3⟩ := h; exact ⟨_, ⟨r, h1, x, h2, rfl⟩, h3⟩
    · obtain ⟨x, h2, h3⟩ := h; exact ⟨_, ⟨x, h2, rfl⟩, h3⟩
    · exact h.elim
  | store sz a x =>
    simp only [actK, actStore] at h ⊢
    split at h
    · obtain ⟨cs, h1, h2, h3, o, h4, h5⟩ := h; exact ⟨_, ⟨cs, h1, h2, h3, o, h4, rfl⟩, h5⟩
    · exact h.elim
  | nilchk x => exact ⟨_, ⟨h.1, rfl⟩, h.2⟩
  | bin op x y =>
    simp only [actK, actBin] at h ⊢
    split at h
    · cases op <;> simp only [binI] at h ⊢ <;> (try obtain ⟨h0, h1, h2⟩ := h) <;> (try obtain ⟨h0, h2⟩ := h) <;>
        first | exact ⟨_, ⟨h0, h1, rfl⟩, h2⟩ | exact ⟨_, ⟨h0, rfl⟩, h2⟩
    · exact h.elim
  | eq neg pl x y => obtain ⟨b, h1, h2⟩ := h; exact ⟨_, ⟨b, h1, rfl⟩, h2⟩
  | un op x =>
    simp only [actK, actUn] at h ⊢
    split at h <;> first | exact ⟨_, rfl, h⟩ | exact h.elim
  | conv kd x => obtain ⟨b, h1, h2⟩ := h; exact ⟨_, ⟨b, h1, rfl⟩, h2⟩
  | fl f x y => obtain ⟨b, h1, h2⟩ := h; exact ⟨_, ⟨b, h1, rfl⟩, h2⟩
  | fieldAddr off x =>
    simp only [actK] at h ⊢
    split at h <;> first | exact ⟨_, rfl, h⟩ | exact h.elim
  | field agg off sz x =>
    simp only [actK] at h ⊢
    split at h
    · obtain ⟨b, h1, h2⟩ := h; exact ⟨_, ⟨b, h1, rfl⟩, h2⟩
    · exact h.elim
  | idxAddr sz x i =>
    simp only [actK, actIdxAddr] at h ⊢
    split at h
    · obtain ⟨h1, h2, h3, h4⟩ := h; exact ⟨_, ⟨h1, h2, h3, rfl⟩, h4⟩
    · obtain ⟨h1, r, h2, h3, h4⟩ := h; exact ⟨_, ⟨h1, r, h2, h3, rfl⟩, h4⟩
    · exact h.elim
  | idxArrAddr len sz x i =>
    simp only [actK, actIdxArrAddr] at h ⊢
    split at h
    · obtain ⟨h1, h2, h4⟩ := h; exact ⟨_, ⟨h1, h2, rfl⟩, h4⟩
    · obtain ⟨h1, h2, h4⟩ := h; exact ⟨_, ⟨h1, h2, rfl⟩, h4⟩
    · exact h.elim
  | idxArr agg len sz x i =>
    simp only [actK, actIdxArr] at h ⊢
    split at h
    · obtain ⟨h1, h2, v, h3, h4⟩ := h; exact ⟨_, ⟨h1, h2, v, h3, rfl⟩, h4⟩
    · exact h.elim
  | mkslice c sz bytes zero l m =>
    simp only [actK, actMk] at h ⊢
    split at h
    · obtain ⟨h1, h2, h3, h4⟩ := h; exact ⟨_, ⟨h1, h2, h3, rfl⟩, h4⟩
    · exact h.elim
  | slice sz x lo hi mx =>
    simp only [actK, actSlice] at h ⊢
    split at h
    · obtain ⟨h0, l, hh, m, h1, h2, h3, h4, h5, h6, h7, h8, h9⟩ := h; exact ⟨_, ⟨h0, l, hh, m, h1, h2, h3, h4, h5, h6, h7, h8, rfl⟩, h9⟩
    · obtain ⟨h0, l, hh, m, h1, h2, h3, h4, h5, h6, h7, h8, h9⟩ := h; exact ⟨_, ⟨h0, l, hh, m, h1, h2, h3, h4, h5, h6, h7, h8, rfl⟩, h9⟩
    · exact h.elim
  | extract i x =>
    simp only [actK] at h ⊢
    split at h
    · obtain ⟨b, h1, h2⟩ := h; exact ⟨_, ⟨b, h1, rfl⟩, h2⟩
    · exact h.elim
  | mkfn f caps => exact ⟨_, rfl, h⟩
  | call c imp f args =>
    obtain ⟨g, caps, h0, h | ⟨hi, h⟩⟩ := h
    · obtain ⟨args', ids, x, h1, h2, ⟨h3, h4⟩ | ⟨h3, h4⟩⟩ := h
      · exact ⟨_, ⟨g, caps, h0, .inl ⟨args', ids, x, h1, h2, .inl ⟨h3, rfl⟩⟩⟩, h4⟩
      · exact ⟨_, ⟨g, caps, h0, .inl ⟨args', ids, x, h1, h2, .inr ⟨h3, rfl⟩⟩⟩, h4⟩
    · obtain ⟨args', ids, sz, rows, h1, h2, h3, h4, h5⟩ := h
      exact ⟨_, ⟨g, caps, h0, .inr ⟨hi, args', ids, sz, rows, h1, h2, h3, h4, rfl⟩⟩, h5⟩
  | append c sz bytes x y =>
    simp only [actK, actAppend] at h ⊢
    split at h
    · obtain ⟨d, i1, s, i2, h0, h1, h2, h3, h3', h4, h5⟩ := h; exact ⟨_, ⟨d, i1, s, i2, h0, h1, h2, h3, h3', h4, rfl⟩, h5⟩
    · obtain ⟨s, i2, h1, h2, h3, h3', h4, h5, h6⟩ := h; exact ⟨_, ⟨s, i2, h1, h2, h3, h3', h4, h5, rfl⟩, h6⟩
    · exact h.elim
  | copy sz x y =>
    simp only [actK, actCopy] at h ⊢
    split at h
    · obtain ⟨s, i2, o, h1, h1', h1'', h2, h3, h4⟩ := h; exact ⟨_, ⟨s, i2, o, h1, h1', h1'', h2, h3, rfl⟩, h4⟩
    · exact h.elim
  | len x =>
    simp only [actK, actLen] at h ⊢
    split at h <;> first | exact ⟨_, rfl, h⟩ | exact h.elim
  | maxi x y =>
    simp only [actK, actInt2] at h ⊢
    split at h <;> first | exact ⟨_, rfl, h⟩ | exact h.elim
  | mini x y =>
    simp only [actK, actInt2] at h ⊢
    split at h <;> first | exact ⟨_, rfl, h⟩ | exact h.elim

end Go.Ago
