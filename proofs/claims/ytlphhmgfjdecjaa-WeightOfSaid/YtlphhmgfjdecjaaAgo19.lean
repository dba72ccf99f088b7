/- Runs of a region as lists of steps; steps that stand apart change places. Conditions: none. -/
import Derived.Test.YtlphhmgfjdecjaaAgo18
set_option linter.unusedSimpArgs false
set_option linter.unusedVariables false
namespace Go.Ago

structure Item where
  ix : Nat
  o : Oper
  c : Nat
  lo : LOper
  δ : Delta

def skipD : Delta := ⟨.tup [], [], []⟩

def Delta.foot (δ : Delta) : List Nat × List Nat := (δ.rd, δ.ups.map (·.1))

def Step (P : Program) (base : Nat) (lo : LOper) (δ : Delta) (S : State) : Prop :=
  match lo.guard with
  | none => actK P base S.env S.heap lo.op (· = δ)
  | some (g, want) =>
    match S.env.get g with
    | .d (.bool b) => (b = want → actK P base S.env S.heap lo.op (· = δ)) ∧ (b ≠ want → δ = skipD)
    | .tup [] => δ = skipD
    | _ => False

def Run (P : Program) (base : Nat) (K : State → Prop) : List Item → State → Prop
  | [], S => K S
  | it :: its, S => Step P base it.lo it.δ S ∧ Run P base K its (S.app it.lo.dst it.δ)

def Opd.isT (t : Nat) : Opd → Bool
  | .tmp s => s == t
  | .cst _ => false

def LOper.looksAt (lo : LOper) (t : Nat) : Bool :=
  lo.op.opds.any (Opd.isT t) || (match lo.guard with | some (g, _) => g == t | none => false)

def dstApart (x y : LOper) : Bool :=
  match x.dst with
  | some d => !y.looksAt d
  | none => true

def dstOther (x y : LOper) : Bool :=
  match x.dst with
  | some d => y.dst != some d
  | none => true

def apartS (x y : LOper) : Bool := dstApart x y && dstApart y x && dstOther x y

def Apart (x y : Item) : Prop := apartS x.lo y.lo = true ∧ apartF x.δ.foot y.δ.foot = true

section
variable {P : Program} {base : Nat}

theorem Opd.ev_eq {e e' : Env} {x : Opd} (h : ∀ t, x.isT t = true → e.get t = e'.get t) : x.ev e = x.ev e' := by
  cases x with
  | tmp t => exact h t (by simp [Opd.isT])
  | cst v => rfl

theorem Step.local_ {lo : LOper} {δ : Delta} {S S' : State} (he : ∀ t, lo.looksAt t = true → S.env.get t = S'.env.get t) (hr : ∀ i ∈ δ.rd, S.heap.at i = S'.heap.at i)
    (hu : ∀ i ∈ δ.ups.map (·.1), S.heap.at i = S'.heap.at i) (h : Step P base lo δ S) : Step P base lo δ S' := by
  have act : actK P base S.env S.heap lo.op (· = δ) → actK P base S'.env S'.heap lo.op (· = δ) := fun ha =>
    actK_heap hr (fun p hp => hu _ (List.mem_map.2 ⟨p, hp, rfl⟩)) (actK_env (fun x hx => Opd.ev_eq fun t ht => he t (by
      unfold LOper.looksAt
      rw [List.any_eq_true.2 ⟨x, hx, ht⟩]; rfl)) ha)
  unfold Step at h ⊢
  cases hg : lo.guard with
  | none => simp only [hg] at h ⊢; exact act h
  | some gw =>
    obtain ⟨g, want⟩ := gw
    simp only [hg] at h ⊢
    rw [← he g (by simp [LOper.looksAt, hg])]
    split at h
    · exact ⟨fun e => act (h.1 e), h.2⟩
    · exact h
    · exact h

theorem get_app (S : State) (dst : Option Nat) (δ : Delta) (t : Nat) : (S.app dst δ).env.get t = if dst = some t then δ.val else S.env.get t := by
  cases dst with
  | none => simp [State.app, Env.put]
  | some d => simp [State.app, Env.put, Env.get]

theorem foldl_set_at : ∀ (ups : List (Nat × HO)) (H : Heap) (i : Nat), i ∉ ups.map (·.1) → (ups.foldl (fun H p => H.set p.1 p.2) H).at i = H.at i := by
  intro ups
  induction ups with
  | nil => intro H i _; rfl
  | cons p ps ih =>
    intro H i hi
    simp only [List.map_cons, List.mem_cons, not_or] at hi
    rw [List.foldl_cons, ih _ _ hi.2]
    unfold Heap.at
    rw [List.getD_eq_getElem?_getD, List.getD_eq_getElem?_getD, List.getElem?_set_ne (Ne.symm hi.1)]

theorem foldl_set_comm1 : ∀ (ups : List (Nat × HO)) (H : Heap) (i : Nat) (o : HO), i ∉ ups.map (·.1) →
    ups.foldl (fun H p => H.set p.1 p.2) (H.set i o) = (ups.foldl (fun H p => H.set p.1 p.2) H).set i o := by
  intro ups
  induction ups with
  | nil => intro H i o _; rfl
  | cons p ps ih =>
    intro H i o hi
    simp only [List.map_cons, List.mem_cons, not_or] at hi
    rw [List.foldl_cons, List.foldl_cons, List.set_comm _ _ hi.1, ih _ _ _ hi.2]

theorem foldl_set_comm : ∀ (u v : List (Nat × HO)) (H : Heap), (∀ i ∈ u.map (·.1), i ∉ v.map (·.1)) →
    v.foldl (fun H p => H.set p.1 p.2) (u.foldl (fun H p => H.set p.1 p.2) H) = u.foldl (fun H p => H.set p.1 p.2) (v.foldl (fun H p => H.set p.1 p.2) H) := by
  intro u
  induction u with
  | nil => intro v H _; rfl
  | cons p ps ih =>
    intro v H h
    simp only [List.map_cons, List.mem_cons, forall_eq_or_imp] at h
    rw [List.foldl_cons, List.foldl_cons, ih v _ h.2, foldl_set_comm1 v H _ _ h.1]

/-- Alike: the same slots, the same heap. -/
def Like (S S' : State) : Prop := (∀ t, S.env.get t = S'.env.get t) ∧ S.heap = S'.heap

theorem Like.refl (S : State) : Like S S := ⟨fun _ => rfl, rfl⟩
theorem Like.symm {S S' : State} (h : Like S S') : Like S' S := ⟨fun t => (h.1 t).symm, h.2.symm⟩
theorem Like.trans {S S' S'' : State} (h : Like S S') (h' : Like S' S'') : Like S S'' := ⟨fun t => (h.1 t).trans (h'.1 t), h.2.trans h'.2⟩

theorem Like.app {S S' : State} (h : Like S S') (dst : Option Nat) (δ : Delta) : Like (S.app dst δ) (S'.app dst δ) :=
  ⟨fun t => by rw [get_app, get_app, h.1 t], by show List.foldl _ S.heap _ = List.foldl _ S'.heap _; rw [h.2]⟩

theorem Like.step {S S' : State} (h : Like S S') {lo : LOper} {δ : Delta} (hs : Step P base lo δ S) : Step P base lo δ S' :=
  hs.local_ (fun t _ => h.1 t) (fun i _ => by rw [h.2]) (fun i _ => by rw [h.2])

theorem Like.run {K : State → Prop} (hK : ∀ S S', Like S S' → K S → K S') : ∀ (L : List Item) {S S' : State}, Like S S' → Run P base K L S → Run P base K L S' := by
  intro L
  induction L with
  | nil => intro S S' h hr; exact hK _ _ h hr
  | cons it its ih => intro S S' h hr; exact ⟨h.step hr.1, ih (h.app _ _) hr.2⟩

theorem Like.sim {A : Nat → Prop} {φ : Nat → Option (Nat × Nat)} {w : World} {n : Nat} {a : Act} {S S' : State} (h : Like S S') (hs : Sim A n φ S a w) : Sim A n φ S' a w :=
  ⟨h.2 ▸ hs.heap, hs.size, hs.defs, fun t => by have := hs.slots t; rw [h.1 t, h.2] at this; exact this⟩

theorem apartF_spec {a b : List Nat × List Nat} (h : apartF a b = true) : (∀ i ∈ a.2, i ∉ b.1 ∧ i ∉ b.2) ∧ (∀ i ∈ b.2, i ∉ a.1 ∧ i ∉ a.2) := by
  simp only [apartF, Bool.and_eq_true, List.all_eq_true, Bool.not_eq_true', List.contains_eq_mem, decide_eq_false_iff_not] at h
  exact ⟨h.1, fun i hi => ⟨h.2 i hi, fun h2 => (h.1 i h2).2 hi⟩⟩

theorem dstApart_spec {x y : LOper} (h : dstApart x y = true) {t : Nat} (ht : y.looksAt t = true) : x.dst ≠ some t := by
  intro hd
  simp [dstApart, hd, ht] at h

theorem Apart.swap {x y : Item} (h : Apart x y) {S : State} (h1 : Step P base x.lo x.δ S) (h2 : Step P base y.lo y.δ (S.app x.lo.dst x.δ)) :
    Step P base y.lo y.δ S ∧ Step P base x.lo x.δ (S.app y.lo.dst y.δ) ∧ Like ((S.app x.lo.dst x.δ).app y.lo.dst y.δ) ((S.app y.lo.dst y.δ).app x.lo.dst x.δ) := by
  obtain ⟨hs, hf⟩ := h
  simp only [apartS, Bool.and_eq_true] at hs
  obtain ⟨⟨s1, s2⟩, s3⟩ := hs
  obtain ⟨f1, f2⟩ := apartF_spec hf
  refine ⟨h2.local_ (fun t ht => ?_) (fun i hi => ?_) (fun i hi => ?_), h1.local_ (fun t ht => ?_) (fun i hi => ?_) (fun i hi => ?_), fun t => ?_, ?_⟩
  · rw [get_app, if_neg (dstApart_spec s1 ht)]
  · exact foldl_set_at _ _ _ fun h => (f1 i h).1 hi
  · exact foldl_set_at _ _ _ fun h => (f1 i h).2 hi
  · rw [get_app, if_neg (dstApart_spec s2 ht)]
  · exact (foldl_set_at _ _ _ fun h => (f2 i h).1 hi).symm
  · exact (foldl_set_at _ _ _ fun h => (f2 i h).2 hi).symm
  · rw [get_app, get_app, get_app, get_app]
    by_cases e1 : x.lo.dst = some t
    · have e2 : y.lo.dst ≠ some t := fun e2 => by simp [dstOther, e1, e2] at s3
      simp [e1, e2]
    · simp [e1]
  · exact foldl_set_comm _ _ _ fun i hi => (f1 i hi).2

/-- A step that stands apart from all ahead of it may come first. -/
theorem Run.front {K : State → Prop} (hK : ∀ S S', Like S S' → K S → K S') {x : Item} {L2 : List Item} : ∀ (L1 : List Item) (S : State), (∀ k ∈ L1, Apart k x) → Run P base K (L1 ++ x :: L2) S →
    Step P base x.lo x.δ S ∧ Run P base K (L1 ++ L2) (S.app x.lo.dst x.δ) := by
  intro L1
  induction L1 with
  | nil => intro S _ h; exact h
  | cons k L1 ih =>
    intro S ha h
    obtain ⟨h1, h2⟩ := h
    obtain ⟨h3, h4⟩ := ih _ (fun k hk => ha k (List.mem_cons_of_mem _ hk)) h2
    obtain ⟨g1, g2, g3⟩ := (ha k (List.mem_cons_self ..)).swap h1 h3
    exact ⟨g1, g2, Like.run hK _ g3 h4⟩

/-! ### What comes ahead of what -/
def ancM (md : Region.Mode) (acc : List Nat) (es : List Edge) : Nat := es.foldl (fun s e => if Region.binds md e then s ||| 2 ^ e.on ||| acc.getD e.on 0 else s) 0

theorem ancM_spec (md : Region.Mode) (acc : List Nat) : ∀ (es : List Edge) (s j : Nat), (es.foldl (fun s e => if Region.binds md e then s ||| 2 ^ e.on ||| acc.getD e.on 0 else s) s).testBit j = true →
    s.testBit j = true ∨ ∃ e ∈ es, Region.binds md e = true ∧ (j = e.on ∨ (acc.getD e.on 0).testBit j = true) := by
  intro es
  induction es with
  | nil => intro s j h; exact .inl h
  | cons e es ih =>
    intro s j h
    rw [List.foldl_cons] at h
    rcases ih _ _ h with h1 | ⟨e', he', hb⟩
    · split at h1
      · rename_i hb
        rw [Nat.testBit_or, Nat.testBit_or, Nat.testBit_two_pow] at h1
        simp only [Bool.or_eq_true, decide_eq_true_eq] at h1
        rcases h1 with (h1 | h1) | h1
        · exact .inl h1
        · exact .inr ⟨e, List.mem_cons_self .., hb, .inl h1.symm⟩
        · exact .inr ⟨e, List.mem_cons_self .., hb, .inr h1⟩
      · exact .inl h1
    · exact .inr ⟨e', List.mem_cons_of_mem _ he', hb⟩

def ancs (md : Region.Mode) : List Oper → List Nat → List Nat
  | [], acc => acc
  | o :: os, acc => ancs md os (acc ++ [ancM md acc o.after.toList])

theorem ancs_pre (md : Region.Mode) : ∀ (os : List Oper) (acc : List Nat), ∃ l, ancs md os acc = acc ++ l := by
  intro os
  induction os with
  | nil => intro acc; exact ⟨[], by simp [ancs]⟩
  | cons o os ih => intro acc; obtain ⟨l, h⟩ := ih (acc ++ [ancM md acc o.after.toList]); exact ⟨_ :: l, by rw [ancs, h, List.append_assoc]; rfl⟩

theorem ancs_spec (md : Region.Mode) : ∀ (os : List Oper) (acc : List Nat) (k : Nat) (o : Oper) (j : Nat), os[k]? = some o → ((ancs md os acc).getD (acc.length + k) 0).testBit j = true →
    ∃ e ∈ o.after, Region.binds md e = true ∧ (j = e.on ∨ ((ancs md os acc).getD e.on 0).testBit j = true) := by
  intro os
  induction os with
  | nil => intro acc k o j h; simp at h
  | cons o' os ih =>
    intro acc k o j h hb
    rw [ancs] at hb ⊢
    cases k with
    | zero =>
      simp at h; subst h
      obtain ⟨l, hl⟩ := ancs_pre md os (acc ++ [ancM md acc o'.after.toList])
      rw [hl] at hb ⊢
      have e0 : (acc ++ [ancM md acc o'.after.toList] ++ l).getD (acc.length + 0) 0 = ancM md acc o'.after.toList := by
        simp [List.getD_eq_getElem?_getD, List.append_assoc]
      rw [e0] at hb
      rcases ancM_spec md acc _ _ _ hb with h1 | ⟨e, he, hbd, h1⟩
      · simp at h1
      · refine ⟨e, by simpa using he, hbd, h1.imp id fun h1 => ?_⟩
        have : (acc.getD e.on 0) = (acc ++ [ancM md acc o'.after.toList] ++ l).getD e.on 0 := by
          rw [List.append_assoc, List.getD_eq_getElem?_getD, List.getD_eq_getElem?_getD, List.getElem?_append]
          split
          · rfl
          · rename_i hlt
            rw [List.getD_eq_getElem?_getD, List.getElem?_eq_none (by omega)] at h1
            simp at h1
        rw [← this]; exact h1
    | succ k =>
      refine ih (acc ++ [ancM md acc o'.after.toList]) k o j h ?_
      have : (acc ++ [ancM md acc o'.after.toList]).length + k = acc.length + (k + 1) := by simp; omega
      rw [this]; exact hb

end
end Go.Ago
