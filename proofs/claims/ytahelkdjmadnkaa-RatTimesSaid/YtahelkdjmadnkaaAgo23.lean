/- Whole bodies: lowered code, and what is asked of it ('vc'). Conditions: none. -/
import Derived.Test.YtahelkdjmadnkaaAgo22
set_option linter.unusedSimpArgs false
set_option linter.unusedVariables false
namespace Go.Ago

def RGe (F : Specs) (base : Nat) (pairs : List (Nat × Nat)) (K : State → Prop) : List LOper → State → Feet → Prop
  | [], S, acc => chk pairs acc.reverse = true ∧ K S
  | o :: os, S, acc =>
    match o.guard with
    | none => (evOp F base S.env S.heap o.op).ok ∧ RGe F base pairs K os (S.app o.dst (evOp F base S.env S.heap o.op).δ) ((evOp F base S.env S.heap o.op).δ.foot :: acc)
    | some (g, want) =>
      match S.env.get g with
      | .d (.bool b) =>
        (b = want → (evOp F base S.env S.heap o.op).ok ∧ RGe F base pairs K os (S.app o.dst (evOp F base S.env S.heap o.op).δ) ((evOp F base S.env S.heap o.op).δ.foot :: acc)) ∧
        (b ≠ want → RGe F base pairs K os (S.app o.dst skipD) (([], []) :: acc))
      | .tup [] => RGe F base pairs K os (S.app o.dst skipD) (([], []) :: acc)
      | _ => False

theorem actK_mono {P : Program} {base : Nat} {e : Env} {H : Heap} {o : LOp} {k k' : Delta → Prop} (h : actK P base e H o k) (hk : ∀ δ, k δ → k' δ) : actK P base e H o k' := by
  cases o with
  | mv x => exact hk _ h
  | pick c a b => obtain ⟨t, h1, h2⟩ := h; exact ⟨t, h1, hk _ h2⟩
  | alloc c sz zero => exact hk _ h
  | box c x => obtain ⟨cs, h1, h2⟩ := h; exact ⟨cs, h1, hk _ h2⟩
  | build zero parts => obtain ⟨cs, h1, h2⟩ := h; exact ⟨cs, h1, hk _ h2⟩
  | bslice c sz len zero parts => obtain ⟨cs, h1, h2⟩ := h; exact ⟨cs, h1, hk _ h2⟩
  | load agg sz a =>
    simp only [actK, actLoad] at h ⊢
    split at h
    · obtain ⟨r, h1, x, h2, h3⟩ := h; exact ⟨r, h1, x, h2, hk _ h3⟩
    · obtain ⟨x, h2, h3⟩ := h; exact ⟨x, h2, hk _ h3⟩
    · exact h.elim
  | store sz a x =>
    simp only [actK, actStore] at h ⊢
    split at h
    · obtain ⟨cs, h1, h2, h3, o, h4, h5⟩ := h; exact ⟨cs, h1, h2, h3, o, h4, hk _ h5⟩
    · exact h.elim
  | nilchk x => exact ⟨h.1, hk _ h.2⟩
  | bin op x y =>
    simp only [actK, actBin] at h ⊢
    split at h
    · cases op <;> simp only [binI] at h ⊢ <;> first | exact ⟨h.1, h.2.1, hk _ h.2.2⟩ | exact ⟨h.1, hk _ h.2⟩
    · exact h.elim
  | eq neg pl x y => obtain ⟨b, h1, h2⟩ := h; exact ⟨b, h1, hk _ h2⟩
  | un op x =>
    simp only [actK, actUn] at h ⊢
    split at h <;> first | exact hk _ h | exact h.elim
  | conv kd x => obtain ⟨b, h1, h2⟩ := h; exact ⟨b, h1, hk _ h2⟩
  | fieldAddr off x =>
    simp only [actK] at h ⊢
    split at h <;> first | exact hk _ h | exact h.elim
  | field agg off sz x =>
    simp only [actK] at h ⊢
    split at h
    · obtain ⟨b, h1, h2⟩ := h; exact ⟨b, h1, hk _ h2⟩
    · exact h.elim
  | idxAddr sz x i =>
    simp only [actK, actIdxAddr] at h ⊢
    split at h
    · obtain ⟨h1, h2, h3, h4⟩ := h; exact ⟨h1, h2, h3, hk _ h4⟩
    · obtain ⟨h1, r, h2, h3, h4⟩ := h; exact ⟨h1, r, h2, h3, hk _ h4⟩
    · exact h.elim
  | idxArrAddr len sz x i =>
    simp only [actK, actIdxArrAddr] at h ⊢
    split at h
    · obtain ⟨h1, h2, h4⟩ := h; exact ⟨h1, h2, hk _ h4⟩
    · obtain ⟨h1, h2, h4⟩ := h; exact ⟨h1, h2, hk _ h4⟩
    · exact h.elim
  | idxArr agg len sz x i =>
    simp only [actK, actIdxArr] at h ⊢
    split at h
    · obtain ⟨h1, h2, v, h3, h4⟩ := h; exact ⟨h1, h2, v, h3, hk _ h4⟩
    · exact h.elim
  | mkslice c sz bytes zero l m =>
    simp only [actK, actMk] at h ⊢
    split at h
    · obtain ⟨h1, h2, h3, h4⟩ := h; exact ⟨h1, h2, h3, hk _ h4⟩
    · exact h.elim
  | slice sz x lo hi mx =>
    simp only [actK, actSlice] at h ⊢
    split at h
    · obtain ⟨h0, l, hh, m, h1, h2, h3, h4, h5, h6, h7, h8, h9⟩ := h; exact ⟨h0, l, hh, m, h1, h2, h3, h4, h5, h6, h7, h8, hk _ h9⟩
    · obtain ⟨h0, l, hh, m, h1, h2, h3, h4, h5, h6, h7, h8, h9⟩ := h; exact ⟨h0, l, hh, m, h1, h2, h3, h4, h5, h6, h7, h8, hk _ h9⟩
    · exact h.elim
  | extract i x =>
    simp only [actK] at h ⊢
    split at h
    · obtain ⟨b, h1, h2⟩ := h; exact ⟨b, h1, hk _ h2⟩
    · exact h.elim
  | mkfn f caps => exact hk _ h
  | call c imp f args =>
    obtain ⟨g, caps, h0, h | ⟨hi, h⟩⟩ := h
    · obtain ⟨args', ids, x, h1, h2, h3, h4⟩ := h
      exact ⟨g, caps, h0, .inl ⟨args', ids, x, h1, h2, h3, hk _ h4⟩⟩
    · obtain ⟨args', ids, sz, rows, h1, h2, h3, h4, h5⟩ := h
      exact ⟨g, caps, h0, .inr ⟨hi, args', ids, sz, rows, h1, h2, h3, h4, hk _ h5⟩⟩
  | append c sz bytes x y =>
    simp only [actK, actAppend] at h ⊢
    split at h
    · obtain ⟨d, i1, s, i2, h0, h1, h2, h3, h3', h4, h5⟩ := h; exact ⟨d, i1, s, i2, h0, h1, h2, h3, h3', h4, hk _ h5⟩
    · obtain ⟨s, i2, h1, h2, h3, h3', h4, h5, h6⟩ := h; exact ⟨s, i2, h1, h2, h3, h3', h4, h5, hk _ h6⟩
    · exact h.elim
  | copy sz x y =>
    simp only [actK, actCopy] at h ⊢
    split at h
    · obtain ⟨s, i2, o, h1, h1', h1'', h2, h3, h4⟩ := h; exact ⟨s, i2, o, h1, h1', h1'', h2, h3, hk _ h4⟩
    · exact h.elim
  | len x =>
    simp only [actK, actLen] at h ⊢
    split at h <;> first | exact hk _ h | exact h.elim
  | maxi x y =>
    simp only [actK, actInt2] at h ⊢
    split at h <;> first | exact hk _ h | exact h.elim
  | mini x y =>
    simp only [actK, actInt2] at h ⊢
    split at h <;> first | exact hk _ h | exact h.elim

theorem RGe.rg {P : Program} {F : Specs} (hF : SpecsOK P F) {draw : Bool} {base : Nat} {pairs : List (Nat × Nat)} {K : State → Prop} : ∀ (los : List LOper) (S : State) (acc : Feet),
    RGe F base pairs K los S acc → RG P draw base pairs K los S acc := by
  have up : ∀ {o : LOp} {e : Env} {H : Heap} {k : Delta → Prop}, (evOp F base e H o).ok → k (evOp F base e H o).δ → actK P base e H o k := fun {o e H k} h hk => by
    exact actK_mono (evOp_sound hF h) (fun δ hδ => hδ ▸ hk)
  intro los
  induction los with
  | nil => intro S acc h; exact h
  | cons o os ih =>
    intro S acc h
    simp only [RGe] at h
    simp only [RG]
    split at h
    · rename_i hg
      simp only [hg]
      exact .inl (up h.1 (ih _ _ h.2))
    · rename_i g want hg
      simp only [hg]
      split at h
      · rename_i b hb
        simp only [hb]
        exact ⟨fun e => .inl (up (h.1 e).1 (ih _ _ (h.1 e).2)), fun e => ih _ _ (h.2 e)⟩
      · rename_i hb
        simp only [hb]
        exact ih _ _ h
      · exact h.elim

inductive LCode where
  | skip
  | ret
  | exit (id : Nat)
  | region (draw : Bool) (los : List LOper) (pairs : List (Nat × Nat))
  | seq (a b : LCode)
  | cond (c : Opd) (a b : LCode)
  | block (id : Nat) (body : LCode)
  | loop (body : LCode)
  deriving Inhabited

def lowCode (P : Program) (n : Nat) : Code → Option LCode
  | .skip => some .skip
  | .ret => some .ret
  | .exit id => some (.exit id)
  | .region _ ops draw =>
    (lowOps P n ops 0 ops.toList).bind fun los =>
      if draw then
        if ordersOK (P.follows .mixedOrders) ops && ((modesOf (P.follows .mixedOrders) ops).all fun md => drawOK (ancs md ops.toList []) (mkPairs (ancB (P.follows .mixedOrders) ops) 0 [] los) 0 [] los) then
          some (.region true los (mkPairs (ancB (P.follows .mixedOrders) ops) 0 [] los)) else none
      else some (.region false los [])
  | .seq a b => (lowCode P n a).bind fun a' => (lowCode P n b).map fun b' => .seq a' b'
  | .cond c a b => (lowOpd c).bind fun c' => (lowCode P n a).bind fun a' => (lowCode P n b).map fun b' => .cond c' a' b'
  | .block id b => (lowCode P n b).map (.block id)
  | .loop b => (lowCode P n b).map .loop
  | _ => none

/-! ### A state said with fewer and other ids -/
def idx (ρ : List Nat) (i : Nat) : Option Nat :=
  match ρ with
  | [] => none
  | j :: r => if j = i then some 0 else (idx r i).map (· + 1)

theorem idx_spec {ρ : List Nat} {i k : Nat} (h : idx ρ i = some k) (d : Nat) : ρ.getD k d = i := by
  induction ρ generalizing k with
  | nil => simp [idx] at h
  | cons j r ih =>
    simp only [idx] at h
    split at h
    · simp at h; subst h; simpa using ‹j = i›
    · simp only [Option.map_eq_some_iff] at h
      obtain ⟨k', h1, rfl⟩ := h
      simpa using ih h1

mutual
def AV.can (ρ : List Nat) : AV → Option AV
  | .undef => some .undef
  | .d x => some (.d x)
  | .agg cs => (AV.canL ρ cs).map .agg
  | .tup cs => (AV.canL ρ cs).map .tup
  | .ptr id sz row j => (idx ρ id).map fun i => .ptr i sz row j
  | .dptr cs j => some (.dptr cs j)
  | .ref id sz row len room => (idx ρ id).map fun i => .ref i sz row len room
  | .clo f caps => (AV.canL ρ caps).map (.clo f)
  | .mref id => (idx ρ id).map .mref
def AV.canL (ρ : List Nat) : List AV → Option (List AV)
  | [] => some []
  | x :: xs => match AV.can ρ x, AV.canL ρ xs with
    | some y, some ys => some (y :: ys)
    | _, _ => none
end

mutual
theorem AV.can_spec {ρ : List Nat} (d : Nat) : ∀ (x y : AV), AV.can ρ x = some y → x = y.ren (fun i => ρ.getD i d)
  | .undef, y, h => by simp [AV.can] at h; subst h; simp [AV.ren]
  | .d x, y, h => by simp [AV.can] at h; subst h; simp [AV.ren]
  | .agg cs, y, h => by
    simp only [AV.can, Option.map_eq_some_iff] at h
    obtain ⟨ys, h1, rfl⟩ := h
    rw [AV.ren, ← AV.canL_spec d cs ys h1]
  | .tup cs, y, h => by
    simp only [AV.can, Option.map_eq_some_iff] at h
    obtain ⟨ys, h1, rfl⟩ := h
    rw [AV.ren, ← AV.canL_spec d cs ys h1]
  | .ptr id sz row j, y, h => by
    simp only [AV.can, Option.map_eq_some_iff] at h
    obtain ⟨i, h1, rfl⟩ := h
    simp only [AV.ren, idx_spec h1 d]
  | .dptr cs j, y, h => by simp [AV.can] at h; subst h; simp [AV.ren]
  | .ref id sz row len room, y, h => by
    simp only [AV.can, Option.map_eq_some_iff] at h
    obtain ⟨i, h1, rfl⟩ := h
    simp only [AV.ren, idx_spec h1 d]
  | .clo f caps, y, h => by
    simp only [AV.can, Option.map_eq_some_iff] at h
    obtain ⟨ys, h1, rfl⟩ := h
    rw [AV.ren, ← AV.canL_spec d caps ys h1]
  | .mref id, y, h => by
    simp only [AV.can, Option.map_eq_some_iff] at h
    obtain ⟨i, h1, rfl⟩ := h
    simp only [AV.ren, idx_spec h1 d]
theorem AV.canL_spec {ρ : List Nat} (d : Nat) : ∀ (xs ys : List AV), AV.canL ρ xs = some ys → xs = AV.renL (fun i => ρ.getD i d) ys
  | [], ys, h => by simp [AV.canL] at h; subst h; simp [AV.renL]
  | x :: xs, ys, h => by
    simp only [AV.canL] at h
    split at h
    · rename_i y ys' h1 h2
      simp at h; subst h
      rw [AV.renL, ← AV.can_spec d x y h1, ← AV.canL_spec d xs ys' h2]
    · cases h
end

def canRows (ρ : List Nat) : List (List AV) → Option (List (List AV))
  | [] => some []
  | r :: rs => match AV.canL ρ r, canRows ρ rs with
    | some y, some ys => some (y :: ys)
    | _, _ => none

theorem canRows_spec {ρ : List Nat} (d : Nat) : ∀ (xs ys : List (List AV)), canRows ρ xs = some ys → xs = ys.map (·.map (AV.ren (fun i => ρ.getD i d))) := by
  intro xs
  induction xs with
  | nil => intro ys h; simp [canRows] at h; subst h; rfl
  | cons x xs ih =>
    intro ys h
    simp only [canRows] at h
    split at h
    · rename_i y ys' h1 h2
      simp at h; subst h
      rw [List.map_cons, ← ih _ h2, AV.canL_spec d _ _ h1, AV.renL_map]
    · cases h

def HO.can (ρ : List Nat) : HO → HO
  | .dead => .dead
  | .dvec sz rows => .dvec sz rows
  | .vec sz rows => match canRows ρ rows with
    | some rows' => .vec sz rows'
    | none => .dead

theorem HO.can_spec {ρ : List Nat} (d : Nat) (o : HO) (h : (o.can ρ).alive) : o = (o.can ρ).ren (fun i => ρ.getD i d) := by
  cases o with
  | dead => rfl
  | dvec sz rows => rfl
  | vec sz rows =>
    simp only [HO.can] at h ⊢
    split
    · rename_i rows' h1
      simp only [HO.ren]
      rw [← canRows_spec d _ _ h1]
    · rename_i h1; rw [h1] at h; exact h.elim

def State.can (ρ live : List Nat) (S : State) : State where
  env := live.map fun t => (t, ((S.env.get t).can ρ).getD .undef)
  heap := ρ.map fun i => (S.heap.at i).can ρ

theorem get_map {f : Nat → AV} : ∀ (l : List Nat) (t : Nat), Env.get (l.map fun t => (t, f t)) t = if t ∈ l then f t else .undef := by
  intro l
  induction l with
  | nil => intro t; simp [Env.get]
  | cons a l ih =>
    intro t
    simp only [List.map_cons, Env.get, ih, List.mem_cons]
    by_cases e : a = t
    · simp [e]
    · simp [e, Ne.symm e]

theorem can_weak {n0 : Nat} {ρ live : List Nat} {S : State} (hn : ρ.Nodup) (hfix : ∀ i, i < n0 → ρ[i]? = some i) (hlt : ∀ i ∈ ρ, i < S.heap.length) : Weak n0 ρ S (S.can ρ live) := by
  have hat : ∀ i, (S.can ρ live).heap.at i = if h : i < ρ.length then (S.heap.at ρ[i]).can ρ else .dead := fun i => by
    unfold State.can Heap.at
    simp only [List.getD_eq_getElem?_getD, List.getElem?_map]
    split
    · rename_i h; rw [List.getElem?_eq_getElem h]; rfl
    · rename_i h; rw [List.getElem?_eq_none (by omega)]; rfl
  refine ⟨fun i hi => ?_, fun t => ?_, by simp [State.can], fun i hi => ?_, fun i j hi hj h => ?_⟩
  · rw [List.getD_eq_getElem?_getD, hfix i hi]; rfl
  · simp only [State.can]
    rw [get_map (f := fun t => ((S.env.get t).can ρ).getD .undef)]
    split
    · cases h : (S.env.get t).can ρ with
      | none => exact .inl rfl
      | some y => exact .inr (AV.can_spec _ _ _ h)
    · exact .inl rfl
  · rw [hat] at hi ⊢
    split at hi
    · rename_i h
      rw [dif_pos h]
      have e : ρ.getD i S.heap.length = ρ[i] := by rw [List.getD_eq_getElem?_getD, List.getElem?_eq_getElem h]; rfl
      rw [e]
      exact HO.can_spec _ _ hi
    · exact hi.elim
  · rw [hat] at hi hj
    split at hi
    · split at hj
      · rename_i h1 h2
        rw [List.getD_eq_getElem?_getD, List.getElem?_eq_getElem h1, List.getD_eq_getElem?_getD, List.getElem?_eq_getElem h2] at h
        exact (List.getElem_inj hn).1 h
      · exact hj.elim
    · exact hi.elim

/-- A state that is enough: it, or some state that says less, is among 'X'. -/
def Wk (n0 : Nat) (X : State → Prop) (S : State) : Prop := X S ∨ ∃ ρ S', Weak n0 ρ S S' ∧ n0 ≤ S'.heap.length ∧ X S'

theorem Wk.can {X : State → Prop} {S : State} (ρ live : List Nat) (hn : ρ.Nodup) (hlt : ∀ i ∈ ρ, i < S.heap.length) (h : X (S.can ρ live)) : Wk 0 X S :=
  .inr ⟨ρ, _, can_weak hn (fun i hi => by omega) hlt, Nat.zero_le _, h⟩

def State.prune (live : List Nat) (S : State) : State := { S with env := live.map fun t => (t, S.env.get t) }

theorem prune_sim {A : Nat → Prop} {n : Nat} {φ : Nat → Option (Nat × Nat)} {S : State} {a : Act} {w : World} (live : List Nat) (hs : Sim A n φ S a w) : Sim A n φ (S.prune live) a w :=
  ⟨hs.heap, hs.size, hs.defs, fun t => by
    show Rel φ (Mb A φ S.heap) w (Env.get (live.map fun t => (t, S.env.get t)) t) _
    rw [get_map (f := fun t => S.env.get t)]
    split
    · exact hs.slots t
    · exact .undef _⟩

/-! ### What is asked of a body -/
def vc (F : Specs) (n0 : Nat) (live : List Nat) : LCode → State → (AExit → State → Prop) → Prop
  | .skip, S, K => K .normal S
  | .ret, S, K => K .ret S
  | .exit id, S, K => K (.exit id) S
  | .region _ los pairs, S, K => RGe F S.heap.length pairs (fun S' => K .normal (S'.prune live)) los (reserve S (keeps los)) []
  | .seq a b, S, K => vc F n0 live a S (thenK (fun S' => vc F n0 live b S' K) K)
  | .cond c a b, S, K => match c.ev S.env with
    | .d (.bool t) => (t = true → vc F n0 live a S K) ∧ (t = false → vc F n0 live b S K)
    | _ => False
  | .block id b, S, K => vc F n0 live b S (blockK id K)
  | .loop b, S, K => ∃ (I : Nat → State → Prop) (k : Nat), Wk n0 (I k) S ∧ ∀ k S, I k S →
      vc F n0 live b S (fun x S' => match x with
        | .normal => ∃ k', k' < k ∧ Wk n0 (I k') S'
        | x => Wk n0 (K x) S')

/-- As 'AWP', and the first 'n0' ids stay. -/
def AWPn (P : Program) (n n0 : Nat) (c : Code) (S : State) (K : AExit → State → Prop) : Prop := AWP P n n0 c S fun x S' => K x S' ∧ n0 ≤ S'.heap.length

theorem AWPn.mono {P : Program} {n n0 : Nat} {c : Code} {S : State} {K K' : AExit → State → Prop} (h : AWPn P n n0 c S K) (hk : ∀ x S', n0 ≤ S'.heap.length → K x S' → K' x S') : AWPn P n n0 c S K' :=
  AWP.mono h fun x S' hK => ⟨hk x S' hK.2 hK.1, hK.2⟩

theorem AWP.pruned {P : Program} {n n0 : Nat} {c : Code} {S : State} {K : AExit → State → Prop} (live : List Nat) (h : AWP P n n0 c S fun x S' => K x (S'.prune live)) : AWP P n n0 c S K := by
  intro A φ a w hs Q hq
  exact h A φ a w hs Q fun x S' φ' a' w' hK hs' he => hq x _ φ' a' w' hK (prune_sim live hs') he

theorem AWP.wk {P : Program} {n n0 : Nat} {c : Code} {S : State} {K : AExit → State → Prop} (h : AWP P n n0 c S fun x S' => (K x S' ∧ n0 ≤ S'.heap.length) ∨ ∃ ρ S'', Weak n0 ρ S' S'' ∧ n0 ≤ S''.heap.length ∧ K x S'') : AWPn P n n0 c S K := by
  intro A φ a w hs Q hq
  refine h A φ a w hs Q fun x S' φ' a' w' hK hs' he => ?_
  rcases hK with hK | ⟨ρ, S'', hw, hl, hK⟩
  · exact hq x S' φ' a' w' hK hs' he
  · obtain ⟨hs'', he'⟩ := hw.sim hs'
    exact hq x S'' _ a' w' ⟨hK, hl⟩ hs'' (he.trans he')

theorem AWPn.enter {P : Program} {n n0 : Nat} {c : Code} {S : State} {K : AExit → State → Prop} {X : State → Prop} (hX : Wk n0 X S) (h0 : n0 ≤ S.heap.length)
    (h : ∀ S', n0 ≤ S'.heap.length → X S' → AWPn P n n0 c S' K) : AWPn P n n0 c S K := by
  rcases hX with hX | ⟨ρ, S', hw, hl, hX⟩
  · exact h S h0 hX
  · exact AWP.weaken ρ hw (h S' hl hX)

/-- What is asked is enough. -/
theorem vc_sound {P : Program} {n : Nat} {F : Specs} (hF : SpecsOK P F) {n0 : Nat} {live : List Nat} : ∀ (c : Code) (lc : LCode) (S : State) (K : AExit → State → Prop), lowCode P n c = some lc → n0 ≤ S.heap.length →
    vc F n0 live lc S K → AWPn P n n0 c S K := by
  intro c
  induction c with
  | skip =>
    intro lc S K hl h0 h
    simp only [lowCode, Option.some.injEq] at hl; subst hl
    exact AWP.skip ⟨h, h0⟩
  | ret =>
    intro lc S K hl h0 h
    simp only [lowCode, Option.some.injEq] at hl; subst hl
    exact AWP.ret ⟨h, h0⟩
  | exit id =>
    intro lc S K hl h0 h
    simp only [lowCode, Option.some.injEq] at hl; subst hl
    exact AWP.exit ⟨h, h0⟩
  | region id ops draw =>
    intro lc S K hl h0 h
    simp only [lowCode, Option.bind_eq_some_iff] at hl
    obtain ⟨los, hlos, hl⟩ := hl
    have fin : AWP P n n0 (.region id ops draw) S (fun x S' => (match x with | .normal => K .normal (S'.prune live) | x => False) ∧ n0 ≤ S'.heap.length) := by
      split at hl
      · rename_i hd
        split at hl
        · rename_i hc
          simp only [Option.some.injEq] at hl; subst hl
          simp only [Bool.and_eq_true] at hc
          subst hd
          exact AWP.draw (K := fun x S' => match x with | .normal => K .normal (S'.prune live) | x => False) hlos hc.1 (fun md h => List.all_eq_true.1 hc.2 md h) h0 (h.rg hF)
        · cases hl
      · rename_i hd
        simp only [Option.some.injEq] at hl; subst hl
        have hd : draw = false := by simpa using hd
        subst hd
        exact AWP.region (K := fun x S' => match x with | .normal => K .normal (S'.prune live) | x => False) hlos h0 (h.rg hF)
    refine AWP.pruned live (fin.mono fun x S' hK => ?_)
    cases x with
    | normal => exact ⟨hK.1, hK.2⟩
    | exit id => exact hK.1.elim
    | ret => exact hK.1.elim
  | seq a b iha ihb =>
    intro lc S K hl h0 h
    simp only [lowCode, Option.bind_eq_some_iff, Option.map_eq_some_iff] at hl
    obtain ⟨a', ha, b', hb, rfl⟩ := hl
    refine AWP.seq (AWP.mono (iha a' S _ ha h0 h) fun x S' hK => ?_)
    cases x with
    | normal => exact ihb b' S' K hb hK.2 hK.1
    | exit id => exact hK
    | ret => exact hK
  | cond c a b iha ihb =>
    intro lc S K hl h0 h
    simp only [lowCode, Option.bind_eq_some_iff, Option.map_eq_some_iff] at hl
    obtain ⟨c', hc, a', ha, b', hb, rfl⟩ := hl
    simp only [vc] at h
    split at h
    · rename_i t ht
      exact AWP.cond (c'.ev S.env) (fun A φ act w hs => lowOpd_rel hs hc) ht (fun e => iha a' S K ha h0 (h.1 e)) (fun e => ihb b' S K hb h0 (h.2 e))
    · exact h.elim
  | block id b ih =>
    intro lc S K hl h0 h
    simp only [lowCode, Option.map_eq_some_iff] at hl
    obtain ⟨b', hb, rfl⟩ := hl
    refine AWP.block (AWP.mono (ih b' S _ hb h0 h) fun x S' hK => ?_)
    cases x with
    | normal => exact hK
    | exit j =>
      obtain ⟨hK, h1⟩ := hK
      simp only [blockK] at hK ⊢
      split
      · rename_i e; rw [if_pos e] at hK; exact ⟨hK, h1⟩
      · rename_i e; rw [if_neg e] at hK; exact ⟨hK, h1⟩
    | ret => exact hK
  | loop b ih =>
    intro lc S K hl h0 h
    simp only [lowCode, Option.map_eq_some_iff] at hl
    obtain ⟨b', hb, rfl⟩ := hl
    obtain ⟨I, k, hI, hround⟩ := h
    refine AWPn.enter hI h0 fun S1 h1 hI1 => ?_
    refine AWP.loop (fun k S => I k S ∧ n0 ≤ S.heap.length) k ⟨hI1, h1⟩ fun k S2 ⟨h2, h3⟩ => ?_
    have := AWP.wk (K := fun x S' => match x with | .normal => ∃ k', k' < k ∧ I k' S' | x => K x S') (S := S2) (c := b) (P := P) (n := n) (n0 := n0) (AWP.mono (ih b' S2 _ hb h3 (hround k S2 h2)) fun x S' ⟨hK, hl⟩ => by
      cases x with
      | normal =>
        obtain ⟨k', hk, hK⟩ := hK
        rcases hK with hK | ⟨ρ, S'', g1, g2, g3⟩
        · exact .inl ⟨⟨k', hk, hK⟩, hl⟩
        · exact .inr ⟨ρ, S'', g1, g2, k', hk, g3⟩
      | exit id =>
        rcases hK with hK | ⟨ρ, S'', g1, g2, g3⟩
        · exact .inl ⟨hK, hl⟩
        · exact .inr ⟨ρ, S'', g1, g2, g3⟩
      | ret =>
        rcases hK with hK | ⟨ρ, S'', g1, g2, g3⟩
        · exact .inl ⟨hK, hl⟩
        · exact .inr ⟨ρ, S'', g1, g2, g3⟩)
    refine AWP.mono this fun x S' hK => ?_
    cases x with
    | normal => obtain ⟨⟨k', hk, hK⟩, hl⟩ := hK; exact ⟨k', hk, hK, hl⟩
    | exit id => exact hK
    | ret => exact hK
  | _ => intro lc S K hl; simp [lowCode] at hl

end Go.Ago
