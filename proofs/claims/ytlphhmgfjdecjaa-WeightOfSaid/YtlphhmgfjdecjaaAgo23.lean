/- Whole bodies: lowered code, and what is asked of it ('vc'). Conditions: none. -/
import Derived.Test.YtlphhmgfjdecjaaAgo22
set_option linter.unusedSimpArgs false
set_option linter.unusedVariables false
namespace Go.Ago

theorem actK_mono {P : Program} {base : Nat} {e : Env} {H : Heap} {o : LOp} {k k' : Delta → Prop} (h : actK P base e H o k) (hk : ∀ δ, k δ → k' δ) : actK P base e H o k' := by
  cases o with
  | mv x => exact hk _ h
  | pick c a b => obtain ⟨t, h1, h2⟩ := h; exact ⟨t, h1, hk _ h2⟩
  | alloc c sz zero => exact hk _ h
  | box c x => obtain ⟨cs, h1, h2⟩ := h; exact ⟨cs, h1, hk _ h2⟩
  | build zero parts => obtain ⟨cs, h1, h2⟩ := h; exact ⟨cs, h1, hk _ h2⟩
  | bslice c sz len zero parts => obtain ⟨cs, h1, h2⟩ := h; exact ⟨cs, h1, hk _ h2⟩
  | load agg sz a =>
    simp only [actK, actLoad] at h ⊢
    split at h
    · obtain ⟨r, h1, x, h2, h3⟩ := h; exact ⟨r, h1, x, h2, hk _ h3⟩
    · obtain ⟨x, h2, h3⟩ := h; exact ⟨x, h2, hk _ h3⟩
    · exact h.elim
  | store sz a x =>
    simp only [actK, actStore] at h ⊢
    split at h
    · obtain ⟨cs, h1, h2, h3, o, h4, h5⟩ := h; exact ⟨cs, h1, h2, h3, o, h4, hk _ h5⟩
    · exact h.elim
  | nilchk x => exact ⟨h.1, hk _ h.2⟩
  | bin op x y =>
    simp only [actK, actBin] at h ⊢
    split at h
    · cases op <;> simp only [binI] at h ⊢ <;> first | exact ⟨h.1, h.2.1, hk _ h.2.2⟩ | exact ⟨h.1, hk _ h.2⟩
    · exact h.elim
  | eq neg pl x y => obtain ⟨b, h1, h2⟩ := h; exact ⟨b, h1, hk _ h2⟩
  | un op x =>
    simp only [actK, actUn] at h ⊢
    split at h <;> first | exact hk _ h | exact h.elim
  | conv kd x => obtain ⟨b, h1, h2⟩ := h; exact ⟨b, h1, hk _ h2⟩
  | fl f x y => obtain ⟨b, h1, h2⟩ := h; exact ⟨b, h1, hk _ h2⟩
  | fieldAddr off x =>
    simp only [actK] at h ⊢
    split at h <;> first | exact hk _ h | exact h.elim
  | field agg off sz x =>
    simp only [actK] at h ⊢
    split at h
    · obtain ⟨b, h1, h2⟩ := h; exact ⟨b, h1, hk _ h2⟩
    · exact h.elim
  | idxAddr sz x i =>
    simp only [actK, actIdxAddr] at h ⊢
    split at h
    · obtain ⟨h1, h2, h3, h4⟩ := h; exact ⟨h1, h2, h3, hk _ h4⟩
    · obtain ⟨h1, r, h2, h3, h4⟩ := h; exact ⟨h1, r, h2, h3, hk _ h4⟩
    · exact h.elim
  | idxArrAddr len sz x i =>
    simp only [actK, actIdxArrAddr] at h ⊢
    split at h
    · obtain ⟨h1, h2, h4⟩ := h; exact ⟨h1, h2, hk _ h4⟩
    · obtain ⟨h1, h2, h4⟩ := h; exact ⟨h1, h2, hk _ h4⟩
    · exact h.elim
  | idxArr agg len sz x i =>
    simp only [actK, actIdxArr] at h ⊢
    split at h
    · obtain ⟨h1, h2, v, h3, h4⟩ := h; exact ⟨h1, h2, v, h3, hk _ h4⟩
    · exact h.elim
  | mkslice c sz bytes zero l m =>
    simp only [actK, actMk] at h ⊢
    split at h
    · obtain ⟨h1, h2, h3, h4⟩ := h; exact ⟨h1, h2, h3, hk _ h4⟩
    · exact h.elim
  | slice sz x lo hi mx =>
    simp only [actK, actSlice] at h ⊢
    split at h
    · obtain ⟨h0, l, hh, m, h1, h2, h3, h4, h5, h6, h7, h8, h9⟩ := h; exact ⟨h0, l, hh, m, h1, h2, h3, h4, h5, h6, h7, h8, hk _ h9⟩
    · obtain ⟨h0, l, hh, m, h1, h2, h3, h4, h5, h6, h7, h8, h9⟩ := h; exact ⟨h0, l, hh, m, h1, h2, h3, h4, h5, h6, h7, h8, hk _ h9⟩
    · exact h.elim
  | extract i x =>
    simp only [actK] at h ⊢
    split at h
    · obtain ⟨b, h1, h2⟩ := h; exact ⟨b, h1, hk _ h2⟩
    · exact h.elim
  | mkfn f caps => exact hk _ h
  | call c imp f args =>
    obtain ⟨g, caps, h0, h | ⟨hi, h⟩⟩ := h
    · obtain ⟨args', ids, x, h1, h2, ⟨h3, h4⟩ | ⟨h3, h4⟩⟩ := h
      · exact ⟨g, caps, h0, .inl ⟨args', ids, x, h1, h2, .inl ⟨h3, hk _ h4⟩⟩⟩
      · exact ⟨g, caps, h0, .inl ⟨args', ids, x, h1, h2, .inr ⟨h3, hk _ h4⟩⟩⟩
    · obtain ⟨args', ids, sz, rows, h1, h2, h3, h4, h5⟩ := h
      exact ⟨g, caps, h0, .inr ⟨hi, args', ids, sz, rows, h1, h2, h3, h4, hk _ h5⟩⟩
  | append c sz bytes x y =>
    simp only [actK, actAppend] at h ⊢
    split at h
    · obtain ⟨d, i1, s, i2, h0, h1, h2, h3, h3', h4, h5⟩ := h; exact ⟨d, i1, s, i2, h0, h1, h2, h3, h3', h4, hk _ h5⟩
    · obtain ⟨s, i2, h1, h2, h3, h3', h4, h5, h6⟩ := h; exact ⟨s, i2, h1, h2, h3, h3', h4, h5, hk _ h6⟩
    · exact h.elim
  | copy sz x y =>
    simp only [actK, actCopy] at h ⊢
    split at h
    · obtain ⟨s, i2, o, h1, h1', h1'', h2, h3, h4⟩ := h; exact ⟨s, i2, o, h1, h1', h1'', h2, h3, hk _ h4⟩
    · exact h.elim
  | len x =>
    simp only [actK, actLen] at h ⊢
    split at h <;> first | exact hk _ h | exact h.elim
  | maxi x y =>
    simp only [actK, actInt2] at h ⊢
    split at h <;> first | exact hk _ h | exact h.elim
  | mini x y =>
    simp only [actK, actInt2] at h ⊢
    split at h <;> first | exact hk _ h | exact h.elim

inductive LCode where
  | skip
  | ret
  | exit (id : Nat)
  | region (draw : Bool) (los : List LOper) (pairs : List (Nat × Nat))
  | nilq (los : List LOper) (neg : Bool) (dst : Nat) (x : Opd)
  | seq (a b : LCode)
  | cond (c : Opd) (a b : LCode)
  | block (id : Nat) (body : LCode)
  | loop (body : LCode)
  deriving Inhabited

/-- A region that asks at its end whether a slice is nil: what stands ahead of that, whether it is to be told from 'none', the slot, the slice. -/
def nilqOf (P : Program) (n : Nat) (ops : Array Oper) (draw : Bool) : Option (List LOper × Bool × Nat × Opd) :=
  match draw, ops.toList.reverse with
  | false, o :: pre =>
    match o.dst, o.guard, o.op with
    | some t, none, .binOp op ty x (.const (.slice none 0 0)) _ =>
      (match op, P.underlying ty with
      | .eql, some (.slice _) => if t < n then (lowOpd x).bind fun y => (lowOps P n ops 0 pre.reverse).map fun los => (los, false, t, y) else none
      | .neq, some (.slice _) => if t < n then (lowOpd x).bind fun y => (lowOps P n ops 0 pre.reverse).map fun los => (los, true, t, y) else none
      | _, _ => none)
    | _, _, _ => none
  | _, _ => none

def lowCode (P : Program) (n : Nat) : Code → Option LCode
  | .skip => some .skip
  | .ret => some .ret
  | .exit id => some (.exit id)
  | .region _ ops draw =>
    match nilqOf P n ops draw with
    | some (los, neg, t, x) => some (.nilq los neg t x)
    | none =>
    (lowOps P n ops 0 ops.toList).bind fun los =>
      if draw then
        if ordersOK (P.follows .mixedOrders) ops && ((modesOf (P.follows .mixedOrders) ops).all fun md => drawOK (ancs md ops.toList []) (mkPairs (ancB (P.follows .mixedOrders) ops) 0 [] los) 0 [] los) then
          some (.region true los (mkPairs (ancB (P.follows .mixedOrders) ops) 0 [] los)) else none
      else some (.region false los [])
  | .seq a b => (lowCode P n a).bind fun a' => (lowCode P n b).map fun b' => .seq a' b'
  | .cond c a b => (lowOpd c).bind fun c' => (lowCode P n a).bind fun a' => (lowCode P n b).map fun b' => .cond c' a' b'
  | .block id b => (lowCode P n b).map (.block id)
  | .loop b => (lowCode P n b).map .loop
  | _ => none

/-! ### A state said with fewer and other ids -/
def idx (ρ : List Nat) (i : Nat) : Option Nat :=
  match ρ with
  | [] => none
  | j :: r => if j = i then some 0 else (idx r i).map (· + 1)

theorem idx_spec {ρ : List Nat} {i k : Nat} (h : idx ρ i = some k) (d : Nat) : ρ.getD k d = i := by
  induction ρ generalizing k with
  | nil => simp [idx] at h
  | cons j r ih =>
    simp only [idx] at h
    split at h
    · simp at h; subst h; simpa using ‹j = i›
    · simp only [Option.map_eq_some_iff] at h
      obtain ⟨k', h1, rfl⟩ := h
      simpa using ih h1

mutual
def AV.can (ρ : List Nat) : AV → Option AV
  | .undef => some .undef
  | .d x => some (.d x)
  | .agg cs => (AV.canL ρ cs).map .agg
  | .tup cs => (AV.canL ρ cs).map .tup
  | .ptr id sz row j => (idx ρ id).map fun i => .ptr i sz row j
  | .dptr cs j => some (.dptr cs j)
  | .ref id sz row len room => (idx ρ id).map fun i => .ref i sz row len room
  | .clo f caps => (AV.canL ρ caps).map (.clo f)
  | .mref id => (idx ρ id).map .mref
def AV.canL (ρ : List Nat) : List AV → Option (List AV)
  | [] => some []
  | x :: xs => match AV.can ρ x, AV.canL ρ xs with
    | some y, some ys => some (y :: ys)
    | _, _ => none
end

mutual
theorem AV.can_spec {ρ : List Nat} (d : Nat) : ∀ (x y : AV), AV.can ρ x = some y → x = y.ren (fun i => ρ.getD i d)
  | .undef, y, h => by simp [AV.can] at h; subst h; simp [AV.ren]
  | .d x, y, h => by simp [AV.can] at h; subst h; simp [AV.ren]
  | .agg cs, y, h => by
    simp only [AV.can, Option.map_eq_some_iff] at h
    obtain ⟨ys, h1, rfl⟩ := h
    rw [AV.ren, ← AV.canL_spec d cs ys h1]
  | .tup cs, y, h => by
    simp only [AV.can, Option.map_eq_some_iff] at h
    obtain ⟨ys, h1, rfl⟩ := h
    rw [AV.ren, ← AV.canL_spec d cs ys h1]
  | .ptr id sz row j, y, h => by
    simp only [AV.can, Option.map_eq_some_iff] at h
    obtain ⟨i, h1, rfl⟩ := h
    simp only [AV.ren, idx_spec h1 d]
  | .dptr cs j, y, h => by simp [AV.can] at h; subst h; simp [AV.ren]
  | .ref id sz row len room, y, h => by
    simp only [AV.can, Option.map_eq_some_iff] at h
    obtain ⟨i, h1, rfl⟩ := h
    simp only [AV.ren, idx_spec h1 d]
  | .clo f caps, y, h => by
    simp only [AV.can, Option.map_eq_some_iff] at h
    obtain ⟨ys, h1, rfl⟩ := h
    rw [AV.ren, ← AV.canL_spec d caps ys h1]
  | .mref id, y, h => by
    simp only [AV.can, Option.map_eq_some_iff] at h
    obtain ⟨i, h1, rfl⟩ := h
    simp only [AV.ren, idx_spec h1 d]
theorem AV.canL_spec {ρ : List Nat} (d : Nat) : ∀ (xs ys : List AV), AV.canL ρ xs = some ys → xs = AV.renL (fun i => ρ.getD i d) ys
  | [], ys, h => by simp [AV.canL] at h; subst h; simp [AV.renL]
  | x :: xs, ys, h => by
    simp only [AV.canL] at h
    split at h
    · rename_i y ys' h1 h2
      simp at h; subst h
      rw [AV.renL, ← AV.can_spec d x y h1, ← AV.canL_spec d xs ys' h2]
    · cases h
end

def canRows (ρ : List Nat) : List (List AV) → Option (List (List AV))
  | [] => some []
  | r :: rs => match AV.canL ρ r, canRows ρ rs with
    | some y, some ys => some (y :: ys)
    | _, _ => none

theorem canRows_spec {ρ : List Nat} (d : Nat) : ∀ (xs ys : List (List AV)), canRows ρ xs = some ys → xs = ys.map (·.map (AV.ren (fun i => ρ.getD i d))) := by
  intro xs
  induction xs with
  | nil => intro ys h; simp [canRows] at h; subst h; rfl
  | cons x xs ih =>
    intro ys h
    simp only [canRows] at h
    split at h
    · rename_i y ys' h1 h2
      simp at h; subst h
      rw [List.map_cons, ← ih _ h2, AV.canL_spec d _ _ h1, AV.renL_map]
    · cases h

def HO.can (ρ : List Nat) : HO → HO
  | .dead => .dead
  | .dvec sz rows => .dvec sz rows
  | .vec sz rows => match canRows ρ rows with
    | some rows' => .vec sz rows'
    | none => .dead

theorem HO.can_spec {ρ : List Nat} (d : Nat) (o : HO) (h : (o.can ρ).alive) : o = (o.can ρ).ren (fun i => ρ.getD i d) := by
  cases o with
  | dead => rfl
  | dvec sz rows => rfl
  | vec sz rows =>
    simp only [HO.can] at h ⊢
    split
    · rename_i rows' h1
      simp only [HO.ren]
      rw [← canRows_spec d _ _ h1]
    · rename_i h1; rw [h1] at h; exact h.elim

def State.can (ρ live : List Nat) (S : State) : State where
  env := live.map fun t => (t, ((S.env.get t).can ρ).getD .undef)
  heap := ρ.map fun i => (S.heap.at i).can ρ

theorem get_map {f : Nat → AV} : ∀ (l : List Nat) (t : Nat), Env.get (l.map fun t => (t, f t)) t = if t ∈ l then f t else .undef := by
  intro l
  induction l with
  | nil => intro t; simp [Env.get]
  | cons a l ih =>
    intro t
    simp only [List.map_cons, Env.get, ih, List.mem_cons]
    by_cases e : a = t
    · simp [e]
    · simp [e, Ne.symm e]

theorem can_weak {n0 : Nat} {ρ live : List Nat} {S : State} (hn : ρ.Nodup) (hfix : ∀ i, i < n0 → ρ[i]? = some i) (hlt : ∀ i ∈ ρ, i < S.heap.length) : Weak n0 ρ S (S.can ρ live) := by
  have hat : ∀ i, (S.can ρ live).heap.at i = if h : i < ρ.length then (S.heap.at ρ[i]).can ρ else .dead := fun i => by
    unfold State.can Heap.at
    simp only [List.getD_eq_getElem?_getD, List.getElem?_map]
    split
    · rename_i h; rw [List.getElem?_eq_getElem h]; rfl
    · rename_i h; rw [List.getElem?_eq_none (by omega)]; rfl
  refine ⟨fun i hi => ?_, fun t => ?_, by simp [State.can], fun i hi => ?_, fun i j hi hj h => ?_⟩
  · rw [List.getD_eq_getElem?_getD, hfix i hi]; rfl
  · simp only [State.can]
    rw [get_map (f := fun t => ((S.env.get t).can ρ).getD .undef)]
    split
    · cases h : (S.env.get t).can ρ with
      | none => exact .inl rfl
      | some y => exact .inr (AV.can_spec _ _ _ h)
    · exact .inl rfl
  · rw [hat] at hi ⊢
    split at hi
    · rename_i h
      rw [dif_pos h]
      have e : ρ.getD i S.heap.length = ρ[i] := by rw [List.getD_eq_getElem?_getD, List.getElem?_eq_getElem h]; rfl
      rw [e]
      exact HO.can_spec _ _ hi
    · exact hi.elim
  · rw [hat] at hi hj
    split at hi
    · split at hj
      · rename_i h1 h2
        rw [List.getD_eq_getElem?_getD, List.getElem?_eq_getElem h1, List.getD_eq_getElem?_getD, List.getElem?_eq_getElem h2] at h
        exact (List.getElem_inj hn).1 h
      · exact hj.elim
    · exact hi.elim

/-- A state that is enough: it, or some state that says less, is among 'X'. -/
def Wk (n0 : Nat) (X : State → Prop) (S : State) : Prop := X S ∨ ∃ ρ S', Weak n0 ρ S S' ∧ n0 ≤ S'.heap.length ∧ X S'

theorem Wk.can {X : State → Prop} {S : State} (ρ live : List Nat) (hn : ρ.Nodup) (hlt : ∀ i ∈ ρ, i < S.heap.length) (h : X (S.can ρ live)) : Wk 0 X S :=
  .inr ⟨ρ, _, can_weak hn (fun i hi => by omega) hlt, Nat.zero_le _, h⟩

def State.prune (live : List Nat) (S : State) : State := { S with env := live.map fun t => (t, S.env.get t) }

theorem prune_sim {A : Nat → Prop} {n : Nat} {φ : Nat → Option (Nat × Nat)} {S : State} {a : Act} {w : World} (live : List Nat) (hs : Sim A n φ S a w) : Sim A n φ (S.prune live) a w :=
  ⟨hs.heap, hs.size, hs.defs, fun t => by
    show Rel φ (Mb A φ S.heap) w (Env.get (live.map fun t => (t, S.env.get t)) t) _
    rw [get_map (f := fun t => S.env.get t)]
    split
    · exact hs.slots t
    · exact .undef _⟩

/-- As 'AWP', and the first 'n0' ids stay. -/
def AWPn (P : Program) (n n0 : Nat) (c : Code) (S : State) (K : AExit → State → Prop) : Prop := AWP P n n0 c S fun x S' => K x S' ∧ n0 ≤ S'.heap.length

theorem AWPn.mono {P : Program} {n n0 : Nat} {c : Code} {S : State} {K K' : AExit → State → Prop} (h : AWPn P n n0 c S K) (hk : ∀ x S', n0 ≤ S'.heap.length → K x S' → K' x S') : AWPn P n n0 c S K' :=
  AWP.mono h fun x S' hK => ⟨hk x S' hK.2 hK.1, hK.2⟩

theorem AWP.pruned {P : Program} {n n0 : Nat} {c : Code} {S : State} {K : AExit → State → Prop} (live : List Nat) (h : AWP P n n0 c S fun x S' => K x (S'.prune live)) : AWP P n n0 c S K := by
  intro A φ a w hs Q hq
  exact h A φ a w hs Q fun x S' φ' a' w' hK hs' he => hq x _ φ' a' w' hK (prune_sim live hs') he

theorem AWP.wk {P : Program} {n n0 : Nat} {c : Code} {S : State} {K : AExit → State → Prop} (h : AWP P n n0 c S fun x S' => (K x S' ∧ n0 ≤ S'.heap.length) ∨ ∃ ρ S'', Weak n0 ρ S' S'' ∧ n0 ≤ S''.heap.length ∧ K x S'') : AWPn P n n0 c S K := by
  intro A φ a w hs Q hq
  refine h A φ a w hs Q fun x S' φ' a' w' hK hs' he => ?_
  rcases hK with hK | ⟨ρ, S'', hw, hl, hK⟩
  · exact hq x S' φ' a' w' hK hs' he
  · obtain ⟨hs'', he'⟩ := hw.sim hs'
    exact hq x S'' _ a' w' ⟨hK, hl⟩ hs'' (he.trans he')

theorem AWPn.enter {P : Program} {n n0 : Nat} {c : Code} {S : State} {K : AExit → State → Prop} {X : State → Prop} (hX : Wk n0 X S) (h0 : n0 ≤ S.heap.length)
    (h : ∀ S', n0 ≤ S'.heap.length → X S' → AWPn P n n0 c S' K) : AWPn P n n0 c S K := by
  rcases hX with hX | ⟨ρ, S', hw, hl, hX⟩
  · exact h S h0 hX
  · exact AWP.weaken ρ hw (h S' hl hX)

end Go.Ago
