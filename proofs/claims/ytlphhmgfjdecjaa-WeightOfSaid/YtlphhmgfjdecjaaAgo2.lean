/- The abstract state, what a step keeps, and the semantic triple AWP with its structural rules. Conditions: none. -/
import Derived.Test.YtlphhmgfjdecjaaAgo1
import Derived.LoopN
set_option linter.unusedSimpArgs false
set_option linter.unusedVariables false
namespace Go.Ago

abbrev Env := List (Nat × AV)

def Env.get (e : Env) (t : Nat) : AV :=
  match e with
  | [] => .undef
  | (i, x) :: r => if i = t then x else Env.get r t

def Env.put (e : Env) (dst : Option Nat) (x : AV) : Env :=
  match dst with
  | some t => (t, x) :: e
  | none => e

structure State where
  env : Env
  heap : Heap

structure Sim (A : Nat → Prop) (n : Nat) (φ : Nat → Option (Nat × Nat)) (S : State) (a : Act) (w : World) : Prop where
  heap : SimH A φ S.heap w
  size : a.tmps.size = n
  defs : a.defers = []
  slots : ∀ t, Rel φ (Mb A φ S.heap) w (S.env.get t) (a.tmps.getD t undef)

/-- From one state to a later one: the first 'n0' ids stay where they are; blocks that are not ours stay as they are. -/
structure Ext (n0 : Nat) (φ : Nat → Option (Nat × Nat)) (H : Heap) (w : World) (φ' : Nat → Option (Nat × Nat)) (H' : Heap) (w' : World) : Prop where
  ids : ∀ i, i < n0 → φ' i = φ i
  pres : Pres (own φ H) w w'
  mono : ∀ b, own φ' H' b → own φ H b ∨ w.heap.size ≤ b

theorem Ext.refl (n0 : Nat) (φ : Nat → Option (Nat × Nat)) (H : Heap) (w : World) : Ext n0 φ H w φ H w :=
  ⟨fun _ _ => rfl, Pres.refl _ _, fun _ h => .inl h⟩

theorem Ext.trans {n0 : Nat} {φ φ' φ'' : Nat → Option (Nat × Nat)} {H H' H'' : Heap} {w w' w'' : World} (h : Ext n0 φ H w φ' H' w') (h' : Ext n0 φ' H' w' φ'' H'' w'') :
    Ext n0 φ H w φ'' H'' w'' where
  ids i hi := (h'.ids i hi).trans (h.ids i hi)
  pres := h.pres.trans h'.pres h.mono
  mono b hb := by
    rcases h'.mono b hb with h1 | h1
    · exact h.mono b h1
    · exact .inr (Nat.le_trans h.pres.size h1)

inductive AExit where
  | normal
  | exit (id : Nat)
  | ret

def AExit.up : AExit → Exit
  | .normal => .normal
  | .exit id => .exit id
  | .ret => .ret

/-- The triple: whatever simulates 'S', the code comes to an end that simulates one that 'K' takes. -/
def AWP (P : Program) (n n0 : Nat) (c : Code) (S : State) (K : AExit → State → Prop) : Prop :=
  ∀ (A : Nat → Prop) (φ : Nat → Option (Nat × Nat)) (a : Act) (w : World), Sim A n φ S a w → ∀ Q : Exit → Act → World → Prop,
    (∀ (x : AExit) (S' : State) (φ' : Nat → Option (Nat × Nat)) (a' : Act) (w' : World), K x S' → Sim A n φ' S' a' w' → Ext n0 φ S.heap w φ' S'.heap w' → Q x.up a' w') → c.wp P Q a w

section
variable {P : Program} {n n0 : Nat} {S : State} {K : AExit → State → Prop}

theorem AWP.mono {c : Code} {K' : AExit → State → Prop} (h : AWP P n n0 c S K) (hk : ∀ x S', K x S' → K' x S') : AWP P n n0 c S K' :=
  fun A φ a w hs Q hq => h A φ a w hs Q fun x S' φ' a' w' hK => hq x S' φ' a' w' (hk _ _ hK)

theorem AWP.skip (h : K .normal S) : AWP P n n0 .skip S K :=
  fun _ φ _ w hs _ hq => wp_skip (hq .normal S φ _ w h hs (Ext.refl _ _ _ _))

theorem AWP.ret (h : K .ret S) : AWP P n n0 .ret S K :=
  fun _ φ _ w hs _ hq => wp_ret (hq .ret S φ _ w h hs (Ext.refl _ _ _ _))

theorem AWP.exit {id : Nat} (h : K (.exit id) S) : AWP P n n0 (.exit id) S K :=
  fun _ φ _ w hs _ hq => wp_exit (hq (.exit id) S φ _ w h hs (Ext.refl _ _ _ _))

/-- What is done behind the first of two. -/
def thenK (f : State → Prop) (K : AExit → State → Prop) : AExit → State → Prop
  | .normal, S => f S
  | x, S => K x S

theorem AWP.seq {c d : Code} (h : AWP P n n0 c S (thenK (fun S' => AWP P n n0 d S' K) K)) : AWP P n n0 (.seq c d) S K := by
  intro A φ a w hs Q hq
  refine wp_seq (h A φ a w hs _ ?_)
  intro x S' φ' a' w' hK hs' he
  cases x with
  | normal => exact hK A φ' a' w' hs' Q fun x2 S2 φ2 a2 w2 hK2 hs2 he2 => hq x2 S2 φ2 a2 w2 hK2 hs2 (he.trans he2)
  | exit id => exact hq (.exit id) S' φ' a' w' hK hs' he
  | ret => exact hq .ret S' φ' a' w' hK hs' he

def blockK (id : Nat) (K : AExit → State → Prop) : AExit → State → Prop
  | .exit j, S => if j = id then K .normal S else K (.exit j) S
  | x, S => K x S

theorem AWP.block {id : Nat} {c : Code} (h : AWP P n n0 c S (blockK id K)) : AWP P n n0 (.block id c) S K := by
  intro A φ a w hs Q hq
  refine wp_block (h A φ a w hs _ ?_)
  intro x S' φ' a' w' hK hs' he
  cases x with
  | normal => exact hq .normal S' φ' a' w' hK hs' he
  | ret => exact hq .ret S' φ' a' w' hK hs' he
  | exit j =>
    simp only [blockK] at hK
    by_cases hj : j = id
    · rw [if_pos hj] at hK
      simpa [AExit.up, Exit.inBlock, hj] using hq .normal S' φ' a' w' hK hs' he
    · rw [if_neg hj] at hK
      simpa [AExit.up, Exit.inBlock, hj] using hq (.exit j) S' φ' a' w' hK hs' he

theorem Rel.bool_inv {φ : Nat → Option (Nat × Nat)} {M : Nat → Prop} {w : World} {b : Bool} {v : Value} (h : Rel φ M w (.d (.bool b)) v) : v = .bool b := by
  cases h with
  | d x v h => cases h; rfl

theorem AWP.cond {c : Operand} {d e : Code} (v : AV) (hc : ∀ A φ a w, Sim A n φ S a w → Rel φ (Mb A φ S.heap) w v (a.eval c)) {b : Bool} (hv : v = .d (.bool b))
    (ht : b = true → AWP P n n0 d S K) (he : b = false → AWP P n n0 e S K) : AWP P n n0 (.cond c d e) S K := by
  intro A φ a w hs Q hq
  have hr := hc A φ a w hs
  subst hv
  have hb : a.eval c = .bool b := Rel.bool_inv hr
  refine wp_cond hb ?_
  cases b with
  | true => exact ht rfl A φ a w hs Q hq
  | false => exact he rfl A φ a w hs Q hq

theorem rounds_mono {c : Code} {Q : Exit → Act → World → Prop} : ∀ (m : Nat) (a : Act) (w : World), Code.rounds P c Q m a w → Code.rounds P c Q (m + 1) a w := by
  intro m
  induction m with
  | zero => intro a w h; exact h.elim
  | succ m ih =>
    intro a w h
    refine wp_mono h ?_
    intro e a w he
    cases e with
    | normal => exact ih a w he
    | _ => exact he

theorem rounds_le {c : Code} {Q : Exit → Act → World → Prop} {m m' : Nat} (hm : m ≤ m') {a : Act} {w : World} (h : Code.rounds P c Q m a w) : Code.rounds P c Q m' a w := by
  induction hm with
  | refl => exact h
  | step _ ih => exact rounds_mono _ _ _ ih

def loopK (k : Nat) (I : Nat → State → Prop) (K : AExit → State → Prop) : AExit → State → Prop
  | .normal, S => ∃ k', k' < k ∧ I k' S
  | x, S => K x S

/-- A loop: an invariant with an index that every round lowers. -/
theorem AWP.loop {c : Code} (I : Nat → State → Prop) (k : Nat) (h0 : I k S) (round : ∀ k S, I k S → AWP P n n0 c S (loopK k I K)) : AWP P n n0 (.loop c) S K := by
  intro A φ a w hs Q hq
  suffices h : ∀ (k : Nat) (S1 : State) (φ1 : Nat → Option (Nat × Nat)) (a1 : Act) (w1 : World), I k S1 → Sim A n φ1 S1 a1 w1 → Ext n0 φ S.heap w φ1 S1.heap w1 → Code.rounds P c Q (k + 1) a1 w1 from
    wp_loop_rounds (k + 1) (h k S φ a w h0 hs (Ext.refl _ _ _ _))
  intro k
  induction k using Nat.strongRecOn with
  | _ k ih =>
    intro S1 φ1 a1 w1 hI hs1 he1
    refine round k S1 hI A φ1 a1 w1 hs1 _ ?_
    intro x S2 φ2 a2 w2 hK hs2 he2
    cases x with
    | normal =>
      obtain ⟨k', hlt, hI'⟩ := hK
      exact rounds_le (by omega) (ih k' hlt S2 φ2 a2 w2 hI' hs2 (he1.trans he2))
    | exit id => exact hq (.exit id) S2 φ2 a2 w2 hK hs2 (he1.trans he2)
    | ret => exact hq .ret S2 φ2 a2 w2 hK hs2 (he1.trans he2)

end

/-! ### Forgetting, and other names for ids -/
mutual
def AV.ren (ρ : Nat → Nat) : AV → AV
  | .agg cs => .agg (AV.renL ρ cs)
  | .tup cs => .tup (AV.renL ρ cs)
  | .ptr id sz row j => .ptr (ρ id) sz row j
  | .ref id sz row len room => .ref (ρ id) sz row len room
  | .clo f caps => .clo f (AV.renL ρ caps)
  | .mref id => .mref (ρ id)
  | .undef => .undef
  | .d x => .d x
  | .dptr cs j => .dptr cs j
def AV.renL (ρ : Nat → Nat) : List AV → List AV
  | [] => []
  | x :: xs => AV.ren ρ x :: AV.renL ρ xs
end

theorem AV.renL_map (ρ : Nat → Nat) (xs : List AV) : AV.renL ρ xs = xs.map (AV.ren ρ) := by
  induction xs with
  | nil => simp [AV.renL]
  | cons x xs ih => simp [AV.renL, ih]

def HO.ren (ρ : Nat → Nat) : HO → HO
  | .vec sz rows => .vec sz (rows.map (·.map (AV.ren ρ)))
  | .dvec sz rows => .dvec sz rows
  | .dead => .dead

theorem HO.ren_rows (ρ : Nat → Nat) (o : HO) : (o.ren ρ).rows = o.rows.map fun p => (p.1, p.2.map (·.map (AV.ren ρ))) := by
  cases o <;> simp [HO.ren, HO.rows, AV.ren]

theorem HO.ren_alive (ρ : Nat → Nat) (o : HO) : (o.ren ρ).alive ↔ o.alive := by cases o <;> simp [HO.ren, HO.alive]

theorem Rel.unren {φ φ' : Nat → Option (Nat × Nat)} {M : Nat → Prop} {w : World} (ρ : Nat → Nat) (hφ : ∀ i, φ' i = φ (ρ i)) {y : AV} {v : Value} (h : Rel φ M w y v) :
    ∀ x : AV, y = x.ren ρ → Rel φ' M w x v := by
  induction h with
  | undef v => intro x hx; cases x <;> simp [AV.ren] at hx; exact .undef v
  | d z v h => intro x hx; cases x <;> simp [AV.ren] at hx; subst hx; exact .d _ v h
  | agg cells vs hl h ih =>
    intro x hx; cases x <;> simp [AV.ren] at hx
    rename_i cs
    subst hx
    rw [AV.renL_map] at hl ih
    exact .agg cs vs (by simpa using hl) (fun i x v h1 h2 => ih i (x.ren ρ) v (by simp [h1]) h2 x rfl)
  | tup cells vs hl h ih =>
    intro x hx; cases x <;> simp [AV.ren] at hx
    rename_i cs
    subst hx
    rw [AV.renL_map] at hl ih
    exact .tup cs vs (by simpa using hl) (fun i x v h1 h2 => ih i (x.ren ρ) v (by simp [h1]) h2 x rfl)
  | ptr id sz row j b o hb =>
    intro x hx; cases x <;> simp [AV.ren] at hx
    obtain ⟨rfl, rfl, rfl, rfl⟩ := hx
    exact .ptr _ _ _ _ b o (by rw [hφ]; exact hb)
  | dptr cells j b off f hlt hM hc hr =>
    intro x hx; cases x <;> simp [AV.ren] at hx
    obtain ⟨rfl, rfl⟩ := hx
    exact .dptr _ _ b off f hlt hM hc hr
  | ref0 id sz row room a =>
    intro x hx; cases x <;> simp [AV.ren] at hx
    obtain ⟨rfl, rfl, rfl, rfl, rfl⟩ := hx
    exact .ref0 _ _ _ _ _
  | ref id sz row len b o cap room c T hb hcap hroom hheap hfit =>
    intro x hx; cases x <;> simp [AV.ren] at hx
    obtain ⟨rfl, rfl, rfl, rfl, rfl⟩ := hx
    exact .ref _ _ _ _ b o cap _ c T (by rw [hφ]; exact hb) hcap hroom hheap hfit
  | clo f caps vs hl h ih =>
    intro x hx; cases x <;> simp [AV.ren] at hx
    rename_i f' cs
    obtain ⟨rfl, hx⟩ := hx
    subst hx
    rw [AV.renL_map] at hl ih
    exact .clo _ cs vs (by simpa using hl) (fun i x v h1 h2 => ih i (x.ren ρ) v (by simp [h1]) h2 x rfl)
  | mref id b hb =>
    intro x hx; cases x <;> simp [AV.ren] at hx
    subst hx
    exact .mref _ b (by rw [hφ]; exact hb)

/-- Fewer blocks may still change. -/
theorem RelD.less {M M' : Nat → Prop} {w : World} {x : DV} {v : Value} (h : RelD M w x v) (hm : ∀ b, M' b → M b) : RelD M' w x v :=
  h.mono (Nat.le_refl _) (fun _ _ _ => rfl) (fun b hb => .inl (hm b hb))

theorem Rel.less {φ : Nat → Option (Nat × Nat)} {M M' : Nat → Prop} {w : World} {x : AV} {v : Value} (h : Rel φ M w x v) (hm : ∀ b, M' b → M b) : Rel φ M' w x v :=
  h.mono (fun _ _ h => h) (Pres.refl M w) (fun b hb => .inl (hm b hb))

/-- 'S'' says less than 'S': slots forgotten, objects given up, ids named anew by 'ρ'. -/
structure Weak (n0 : Nat) (ρ : List Nat) (S S' : State) : Prop where
  fix : ∀ i, i < n0 → ρ.getD i S.heap.length = i
  env : ∀ t, S'.env.get t = .undef ∨ S.env.get t = (S'.env.get t).ren (fun i => ρ.getD i S.heap.length)
  len : ρ.length ≤ S'.heap.length
  objs : ∀ i, (S'.heap.at i).alive → S.heap.at (ρ.getD i S.heap.length) = (S'.heap.at i).ren (fun i => ρ.getD i S.heap.length)
  inj : ∀ i j, (S'.heap.at i).alive → (S'.heap.at j).alive → ρ.getD i S.heap.length = ρ.getD j S.heap.length → i = j

theorem Heap.at_lt {H : Heap} {i : Nat} (h : (H.at i).alive) : i < H.length := by
  rcases Nat.lt_or_ge i H.length with hl | hl
  · exact hl
  · unfold Heap.at at h
    rw [List.getD_eq_getElem?_getD, List.getElem?_eq_none hl] at h
    exact h.elim

theorem Weak.sim {n0 : Nat} {ρ : List Nat} {S S' : State} (h : Weak n0 ρ S S') {A : Nat → Prop} {n : Nat} {φ : Nat → Option (Nat × Nat)} {a : Act} {w : World} (hs : Sim A n φ S a w) :
    Sim A n (fun i => φ (ρ.getD i S.heap.length)) S' a w ∧ Ext n0 φ S.heap w (fun i => φ (ρ.getD i S.heap.length)) S'.heap w := by
  generalize hρ : (fun i => ρ.getD i S.heap.length) = σ
  have hσ : ∀ i, ρ.getD i S.heap.length = σ i := fun i => by rw [← hρ]
  have henv := h.env
  have hobjs := h.objs
  have hinj := h.inj
  have hfix := h.fix
  simp only [hρ, hσ] at henv hobjs hinj hfix
  simp only [hσ]
  have halive : ∀ i, (S'.heap.at i).alive → (S.heap.at (σ i)).alive := fun i hi => by
    rw [hobjs i hi]; exact (HO.ren_alive _ _).2 hi
  have hown : ∀ b, own (fun i => φ (σ i)) S'.heap b → own φ S.heap b := fun b ⟨i, o, hi, hb⟩ => ⟨_, o, halive i hi, hb⟩
  have hM : ∀ b, Mb A (fun i => φ (σ i)) S'.heap b → Mb A φ S.heap b := fun b hb => hb.imp id (hown b)
  refine ⟨⟨⟨?_, ?_, ?_, hs.heap.amb, fun b hA ho => hs.heap.apart b hA (hown b ho), ?_⟩, hs.size, hs.defs, ?_⟩, ⟨fun i hi => by rw [hfix i hi], Pres.refl _ _, fun b hb => .inl (hown b hb)⟩⟩
  · intro i b o hb
    refine ⟨?_, (hs.heap.dom _ _ _ hb).2⟩
    rcases Nat.lt_or_ge i ρ.length with hl | hl
    · exact Nat.lt_of_lt_of_le hl h.len
    · have hg : σ i = S.heap.length := by rw [← hσ, List.getD_eq_getElem?_getD, List.getElem?_eq_none hl]; rfl
      have hb' : φ (σ i) = some (b, o) := hb
      rw [hg] at hb'
      exact absurd (hs.heap.dom _ _ _ hb').1 (Nat.lt_irrefl _)
  · intro i sz rows hi hne
    have hal : (S'.heap.at i).alive := by cases h0 : S'.heap.at i <;> simp_all [HO.rows, HO.alive]
    exact hs.heap.there _ sz (rows.map (·.map (AV.ren σ))) (by rw [hobjs i hal, HO.ren_rows, hi]; rfl) (by simpa using hne)
  · intro i j b o o' hi hj h1 h2
    exact hinj i j hi hj (hs.heap.inj _ _ b o o' (halive i hi) (halive j hj) h1 h2)
  · intro i b o hi hb
    intro sz rows hro
    have ho := hs.heap.objs _ b o (halive i hi) hb sz (rows.map (·.map (AV.ren σ))) (by rw [hobjs i hi, HO.ren_rows, hro]; rfl)
    obtain ⟨c, T, h1, h2, h3, h4⟩ := ho
    refine ⟨c, T, h1, by simpa using h2, fun r hr => ?_, fun i r j x hr hx => ?_⟩
    · have := h3 (r.map (AV.ren σ)) (List.mem_map_of_mem hr)
      simpa using this
    · obtain ⟨v, hv, hrel⟩ := h4 i (r.map (AV.ren σ)) j (x.ren σ) (by simp [hr]) (by simp [hx])
      exact ⟨v, hv, (Rel.unren σ (fun _ => rfl) hrel x rfl).less hM⟩
  · intro t
    rcases henv t with he | he
    · rw [he]; exact .undef _
    · have := hs.slots t
      rw [he] at this
      exact (Rel.unren σ (fun _ => rfl) this _ rfl).less hM

theorem AWP.weaken {P : Program} {n n0 : Nat} {S S' : State} {K : AExit → State → Prop} {c : Code} (ρ : List Nat) (hw : Weak n0 ρ S S') (h : AWP P n n0 c S' K) : AWP P n n0 c S K := by
  intro A φ a w hs Q hq
  obtain ⟨hs', he⟩ := hw.sim hs
  exact h A _ a w hs' Q fun x S2 φ2 a2 w2 hK hs2 he2 => hq x S2 φ2 a2 w2 hK hs2 (he.trans he2)

/-- What is told of an end may say less than what is known. -/
theorem AWP.weakenK {P : Program} {n n0 : Nat} {S : State} {K : AExit → State → Prop} {c : Code}
    (h : AWP P n n0 c S (fun x S' => ∃ ρ S'', Weak n0 ρ S' S'' ∧ K x S'')) : AWP P n n0 c S K := by
  intro A φ a w hs Q hq
  refine h A φ a w hs Q ?_
  intro x S2 φ2 a2 w2 ⟨ρ, S3, hw, hK⟩ hs2 he2
  obtain ⟨hs', he⟩ := hw.sim hs2
  exact hq x S3 _ a2 w2 hK hs' (he2.trans he)

end Go.Ago
