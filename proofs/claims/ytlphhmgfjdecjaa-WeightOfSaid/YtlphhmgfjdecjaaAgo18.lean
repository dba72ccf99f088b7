/- What an operation looks at: no more counts. Conditions: none. -/
import Derived.Test.YtlphhmgfjdecjaaAgo17
set_option linter.unusedSimpArgs false
set_option linter.unusedVariables false
namespace Go.Ago

def optL : Option Opd → List Opd
  | some x => [x]
  | none => []

def LOp.opds : LOp → List Opd
  | .mv x => [x]
  | .pick c a b => [c, a, b]
  | .alloc _ _ _ => []
  | .box _ x => [x]
  | .build _ parts => parts.map (·.2.2)
  | .bslice _ _ _ _ parts => parts.map (·.2)
  | .load _ _ a => [a]
  | .store _ a x => [a, x]
  | .nilchk x => [x]
  | .bin _ x y => [x, y]
  | .eq _ _ x y => [x, y]
  | .un _ x => [x]
  | .conv _ x => [x]
  | .fl _ x y => [x, y]
  | .fieldAddr _ x => [x]
  | .field _ _ _ x => [x]
  | .idxAddr _ x i => [x, i]
  | .idxArrAddr _ _ x i => [x, i]
  | .idxArr _ _ _ x i => [x, i]
  | .mkslice _ _ _ _ l m => [l, m]
  | .slice _ x lo hi mx => x :: (optL lo ++ optL hi ++ optL mx)
  | .extract _ x => [x]
  | .mkfn _ caps => caps
  | .call _ _ f args => f :: args
  | .append _ _ _ x y => [x, y]
  | .copy _ x y => [x, y]
  | .len x => [x]
  | .maxi x y => [x, y]
  | .mini x y => [x, y]

theorem intOr_env {e e' : Env} {x : Option Opd} (h : ∀ y ∈ optL x, y.ev e = y.ev e') (n : Int) : intOr e x n = intOr e' x n := by
  cases x with
  | none => rfl
  | some y => simp [intOr, intOpd, h y (by simp [optL])]

theorem actK_env {P : Program} {base : Nat} {e e' : Env} {H : Heap} {lo : LOp} {k : Delta → Prop} (h : ∀ x ∈ lo.opds, x.ev e = x.ev e') (ha : actK P base e H lo k) : actK P base e' H lo k := by
  cases lo with
  | build zero parts =>
    simp only [LOp.opds] at h
    have hp : (parts.map fun p => (p.1, p.2.1, p.2.2.ev e)) = parts.map fun p => (p.1, p.2.1, p.2.2.ev e') :=
      List.map_congr_left fun p hp => by rw [h _ (List.mem_map.2 ⟨p, hp, rfl⟩)]
    simp only [actK, hp] at ha ⊢; exact ha
  | bslice c sz len zero parts =>
    simp only [LOp.opds] at h
    have hp : (parts.map fun p => (p.1, p.2.ev e)) = parts.map fun p => (p.1, p.2.ev e') :=
      List.map_congr_left fun p hp => by rw [h _ (List.mem_map.2 ⟨p, hp, rfl⟩)]
    simp only [actK, hp] at ha ⊢; exact ha
  | slice sz x lo hi mx =>
    simp only [LOp.opds, List.mem_cons, List.mem_append] at h
    have e1 := intOr_env (e := e) (e' := e') (x := lo) fun y hy => h y (.inr (.inl (.inl hy)))
    have e2 := intOr_env (e := e) (e' := e') (x := hi) fun y hy => h y (.inr (.inl (.inr hy)))
    have e3 := intOr_env (e := e) (e' := e') (x := mx) fun y hy => h y (.inr (.inr hy))
    simp only [actK, actSlice, h x (.inl rfl), e1, e2, e3] at ha ⊢; exact ha
  | mkfn f caps =>
    simp only [LOp.opds] at h
    have hp : caps.map (·.ev e) = caps.map (·.ev e') := List.map_congr_left h
    simp only [actK] at ha ⊢
    cases caps with
    | nil => exact ha
    | cons y ys => simp only [hp] at ha; exact ha
  | call c imp f args =>
    simp only [LOp.opds, List.mem_cons] at h
    have hp : args.map (·.ev e) = args.map (·.ev e') := List.map_congr_left fun y hy => h y (.inr hy)
    simp only [actK, h f (.inl rfl), hp] at ha ⊢; exact ha
  | conv kd x => simp only [LOp.opds, List.mem_cons, List.not_mem_nil, or_false, forall_eq_or_imp, forall_eq] at h; simp only [actK, intOpd, h] at ha ⊢; exact ha
  | alloc c sz zero => exact ha
  | _ => simp only [LOp.opds, List.mem_cons, List.not_mem_nil, or_false, forall_eq_or_imp, forall_eq] at h; simp only [actK, h] at ha ⊢; exact ha

theorem srcOf_ids {H : Heap} {sz : Nat} {x : AV} {s : Src} {ids : List Nat} (h : srcOf H sz x = some (s, ids)) : (∃ id sz' row len room, x = .ref id sz' row len room ∧ ids = [id]) ∨ ids = [] := by
  cases x with
  | ref id sz' row len room =>
    refine .inl ⟨id, sz', row, len, room, rfl, ?_⟩
    simp only [srcOf] at h
    split at h <;> (try split at h) <;> simp at h <;> simp [h.2]
  | d v => cases v <;> simp [srcOf] at h; exact .inr h.2
  | _ => simp [srcOf] at h

theorem srcOf_local {H H' : Heap} {sz : Nat} {x : AV} {s : Src} {ids : List Nat} (h : srcOf H sz x = some (s, ids)) (hh : ∀ i ∈ ids, H.at i = H'.at i) : srcOf H' sz x = some (s, ids) := by
  rcases srcOf_ids h with ⟨id, sz', row, len, room, rfl, rfl⟩ | he
  · simp only [srcOf] at h ⊢
    rw [← hh id (by simp)]; exact h
  · cases x with
    | ref id sz' row len room =>
      simp only [srcOf] at h
      split at h <;> (try split at h) <;> simp at h <;> simp_all
    | d v => cases v <;> simp [srcOf] at h ⊢; exact h
    | _ => simp [srcOf] at h

theorem View.local_ {H H' : Heap} {x x' : AV} {m : List Nat} (h : View H x x' m) : (∀ i ∈ m, H.at i = H'.at i) → View H' x x' m := by
  induction h with
  | undef => exact fun _ => .undef
  | d x => exact fun _ => .d x
  | ref id sz row len room rows h hl => exact fun hh => .ref id sz row len room rows (by rw [← hh id (by simp)]; exact h) hl
  | agg cs cs' ids hl hi h ih => exact fun hh => .agg cs cs' ids hl hi fun i x x' l h1 h2 h3 => ih i x x' l h1 h2 h3 fun j hj => hh j (List.mem_flatten.2 ⟨l, List.mem_of_getElem? h3, hj⟩)

theorem Views.local_ {H H' : Heap} {args args' : List AV} {ids : List Nat} (h : Views H args args' ids) (hh : ∀ i ∈ ids, H.at i = H'.at i) : Views H' args args' ids := by
  obtain ⟨l, h1, h2, rfl, h3⟩ := h
  exact ⟨l, h1, h2, rfl, fun i x x' m e1 e2 e3 => (h3 i x x' m e1 e2 e3).local_ fun j hj => hh j (List.mem_flatten.2 ⟨m, List.mem_of_getElem? e3, hj⟩)⟩

theorem actK_heap {P : Program} {base : Nat} {e : Env} {H H' : Heap} {lo : LOp} {δ : Delta} (hr : ∀ i ∈ δ.rd, H.at i = H'.at i) (hu : ∀ p ∈ δ.ups, H.at p.1 = H'.at p.1)
    (ha : actK P base e H lo (· = δ)) : actK P base e H' lo (· = δ) := by
  cases lo with
  | load agg sz a =>
    simp only [actK, actLoad] at ha ⊢
    split at ha
    · obtain ⟨r, h1, x, h2, rfl⟩ := ha
      exact ⟨r, by rw [← hr _ (by simp)]; exact h1, x, h2, rfl⟩
    · exact ha
    · exact ha
  | store sz a x =>
    simp only [actK, actStore] at ha ⊢
    split at ha
    · obtain ⟨cs, h1, h2, ⟨r, h3⟩, o, h4, rfl⟩ := ha
      have := hu _ (by simp; rfl)
      exact ⟨cs, h1, h2, ⟨r, by rw [← this]; exact h3⟩, o, by rw [← this]; exact h4, rfl⟩
    · exact ha
  | call c imp f args =>
    obtain ⟨g, caps, h0, h | ⟨hi, h⟩⟩ := ha
    · obtain ⟨args', ids, x, h1, h2, ⟨h3, rfl⟩ | ⟨h3, rfl⟩⟩ := h
      · exact ⟨g, caps, h0, .inl ⟨args', ids, x, h1.local_ hr, h2, .inl ⟨h3, rfl⟩⟩⟩
      · exact ⟨g, caps, h0, .inl ⟨args', ids, x, h1.local_ (fun i hi => hu (i, HO.dead) (List.mem_map.2 ⟨i, hi, rfl⟩)), h2, .inr ⟨h3, rfl⟩⟩⟩
    · obtain ⟨args', ids, sz, rows, h1, h2, h3, h4, rfl⟩ := h
      exact ⟨g, caps, h0, .inr ⟨hi, args', ids, sz, rows, h1.local_ hr, h2, h3, h4, rfl⟩⟩
  | append c sz bytes x y =>
    simp only [actK, actAppend] at ha ⊢
    split at ha
    · rename_i heq
      obtain ⟨d, i1, s, i2, h0, h1, h2, h3, h3', h4, rfl⟩ := ha
      refine ⟨d, i1, s, i2, h0, srcOf_local h1 (fun i hi => ?_), srcOf_local h2 hr, h3, h3', h4, rfl⟩
      rcases srcOf_ids h1 with ⟨id, sz', row, len, room, e1, rfl⟩ | rfl
      · have e1 := heq.symm.trans e1
        cases e1
        simp at hi; subst hi
        exact hu _ (by simp; exact .inl rfl)
      · simp at hi
    · obtain ⟨s, i2, h1, h2, h3, h3', h4, h5, rfl⟩ := ha
      exact ⟨s, i2, srcOf_local h1 hr, h2, h3, h3', h4, h5, rfl⟩
    · exact ha
  | copy sz x y =>
    simp only [actK, actCopy] at ha ⊢
    split at ha
    · rename_i heq
      obtain ⟨s, i2, o, h1, h1', h1'', ⟨d, i1, h2⟩, h3, rfl⟩ := ha
      have hid := hu _ (by simp; rfl)
      refine ⟨s, i2, o, srcOf_local h1 hr, h1', h1'', ⟨d, i1, srcOf_local h2 (fun i hi => ?_)⟩, by rw [← hid]; exact h3, rfl⟩
      rcases srcOf_ids h2 with ⟨id, sz', row, len, room, e1, rfl⟩ | rfl
      · have e1 := heq.symm.trans e1
        cases e1
        simp at hi; subst hi; exact hid
      · simp at hi
    · exact ha
  | _ => exact ha

theorem actK_still {P : Program} {base : Nat} {e : Env} {H : Heap} {lo : LOp} {δ : Delta} (h : lo.still = true) (ha : actK P base e H lo (· = δ)) : δ.rd = [] ∧ δ.ups = [] := by
  have key : ∀ {x : AV}, val (· = δ) x → δ.rd = [] ∧ δ.ups = [] := fun h => by cases h; exact ⟨rfl, rfl⟩
  cases lo <;> simp only [LOp.still, Bool.false_eq_true] at h
  case mv x => exact key ha
  case pick c a b => obtain ⟨t, _, h2⟩ := ha; exact key h2
  case build zero parts => obtain ⟨t, _, h2⟩ := ha; exact key h2
  case nilchk x => exact key ha.2
  case bin op x y =>
    simp only [actK, actBin] at ha
    split at ha
    · cases op <;> simp only [binI] at ha <;> first | exact key ha.2.2 | exact key ha.2
    · exact ha.elim
  case eq neg pl x y => obtain ⟨t, _, h2⟩ := ha; exact key h2
  case un op x =>
    simp only [actK, actUn] at ha
    split at ha <;> first | exact key ha | exact ha.elim
  case conv kd x => obtain ⟨t, _, h2⟩ := ha; exact key h2
  case fl f x y => obtain ⟨t, _, h2⟩ := ha; exact key h2
  case fieldAddr off x =>
    simp only [actK] at ha
    split at ha <;> first | exact key ha | exact ha.elim
  case field agg off sz x =>
    simp only [actK] at ha
    split at ha
    · obtain ⟨t, _, h2⟩ := ha; exact key h2
    · exact ha.elim
  case idxAddr sz x i =>
    simp only [actK, actIdxAddr] at ha
    split at ha
    · exact key ha.2.2.2
    · obtain ⟨h1, r, h2, h3, h4⟩ := ha; exact key h4
    · exact ha.elim
  case idxArrAddr len sz x i =>
    simp only [actK, actIdxArrAddr] at ha
    split at ha <;> first | exact key ha.2.2 | exact ha.elim
  case idxArr agg len sz x i =>
    simp only [actK, actIdxArr] at ha
    split at ha
    · obtain ⟨h1, h2, v, h3, h4⟩ := ha; exact key h4
    · exact ha.elim
  case slice sz x lo hi mx =>
    simp only [actK, actSlice] at ha
    split at ha
    · obtain ⟨h0, l, hh, m, h1, h2, h3, h4, h5, h6, h7, h8, h9⟩ := ha; exact key h9
    · obtain ⟨h0, l, hh, m, h1, h2, h3, h4, h5, h6, h7, h8, h9⟩ := ha; exact key h9
    · exact ha.elim
  case extract i x =>
    simp only [actK] at ha
    split at ha
    · obtain ⟨t, _, h2⟩ := ha; exact key h2
    · exact ha.elim
  case mkfn f caps => exact key ha
  case len x =>
    simp only [actK, actLen] at ha
    split at ha <;> first | exact key ha | exact ha.elim
  case maxi x y =>
    simp only [actK, actInt2] at ha
    split at ha <;> first | exact key ha | exact ha.elim
  case mini x y =>
    simp only [actK, actInt2] at ha
    split at ha <;> first | exact key ha | exact ha.elim

end Go.Ago
