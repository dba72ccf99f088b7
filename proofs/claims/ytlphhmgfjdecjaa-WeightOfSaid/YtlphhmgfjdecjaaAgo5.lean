/- How the relation of heaps goes on: a new object, one given up, one changed. Conditions: none. -/
import Derived.Test.YtlphhmgfjdecjaaAgo4
set_option linter.unusedSimpArgs false
set_option linter.unusedVariables false
namespace Go.Ago

theorem Heap.at_set {H : Heap} {i j : Nat} {o : HO} (hi : i < H.length) : Heap.at (H.set i o) j = if i = j then o else H.at j := by
  unfold Heap.at
  simp only [List.getD_eq_getElem?_getD, List.getElem?_set]
  by_cases h : i = j
  · subst h; simp [hi]
  · simp [h]

theorem HO.alive_rows {o : HO} : o.alive ↔ ∃ sz rows, o.rows = some (sz, rows) := by
  cases o <;> simp [HO.alive, HO.rows]

/-- From 'φ', 'H', 'w' on: all that was related stays so. -/
structure Onward (A : Nat → Prop) (φ : Nat → Option (Nat × Nat)) (H : Heap) (w : World) (φ' : Nat → Option (Nat × Nat)) (H' : Heap) (w' : World) : Prop where
  ids : ∀ i p, φ i = some p → φ' i = some p
  pres : Pres (own φ H) w w'
  mono : ∀ b, own φ' H' b → own φ H b ∨ w.heap.size ≤ b

theorem Onward.rel {A : Nat → Prop} {φ φ' : Nat → Option (Nat × Nat)} {H H' : Heap} {w w' : World} (h : Onward A φ H w φ' H' w') {x : AV} {v : Value} (hr : Rel φ (Mb A φ H) w x v) :
    Rel φ' (Mb A φ' H') w' x v := by
  refine hr.mono (fun i b hb => h.ids i b hb) ⟨h.pres.size, fun b hb hM => h.pres.same b hb (fun ho => hM (.inr ho)), h.pres.keep, h.pres.os, h.pres.fz⟩ (fun b hb => ?_)
  rcases hb with hA | ho
  · exact .inl (.inl hA)
  · rcases h.mono b ho with h1 | h1
    · exact .inl (.inr h1)
    · exact .inr h1

theorem Pres.alloc (M : Nat → Prop) (w : World) (d : Array Value) (U : TypeId) : Pres M w (w.alloc (.cells d U)) := by
  refine ⟨by simp, fun b hb _ => ?_, fun b c T hc => ⟨c, ?_, rfl⟩, ⟨rfl, rfl⟩, fun a => Go.RowKit.frozen?_alloc_cells _ _ _ _⟩
  · simp only [World.alloc]; rw [Array.getElem?_push_lt hb]; exact (Array.getElem?_eq_getElem hb).symm
  · have hb : b < w.heap.size := by
      rcases Nat.lt_or_ge b w.heap.size with h | h
      · exact h
      · simp [Array.getElem?_eq_none h] at hc
    simp only [World.alloc]; rw [Array.getElem?_push_lt hb, ← Array.getElem?_eq_getElem hb]; exact hc

theorem alloc_at (w : World) (o : Obj) : (w.alloc o).heap[w.heap.size]? = some o := by unfold World.alloc; simp

/-- A new object in a new block. -/
theorem SimH.new {A : Nat → Prop} {φ : Nat → Option (Nat × Nat)} {H : Heap} {w : World} (h : SimH A φ H w) {i : Nat} (hi : i < H.length) (hφ : φ i = none) {o : HO} {sz : Nat}
    {rows : List (List AV)} (ho : o.rows = some (sz, rows)) {c : Array Value} {T : TypeId} (hsz : rows.length * sz ≤ c.size) (hrow : ∀ r ∈ rows, r.length = sz)
    (hc : ∀ (k : Nat) (r : List AV) (j : Nat) (x : AV), rows[k]? = some r → r[j]? = some x → ∃ v, c[k * sz + j]? = some v ∧ Rel φ (Mb A φ H) w x v) :
    SimH A (fun j => if j = i then some (w.heap.size, 0) else φ j) (H.set i o) (w.alloc (.cells c T)) ∧
      Onward A φ H w (fun j => if j = i then some (w.heap.size, 0) else φ j) (H.set i o) (w.alloc (.cells c T)) := by
  have hmono : ∀ b, own (fun j => if j = i then some (w.heap.size, 0) else φ j) (H.set i o) b → own φ H b ∨ w.heap.size ≤ b := by
    intro b ⟨j, o', hal, hb⟩
    by_cases hj : j = i
    · simp only [hj, if_true, Option.some.injEq, Prod.mk.injEq] at hb
      exact .inr (by omega)
    · simp only [hj, if_false] at hb
      rw [Heap.at_set hi, if_neg (fun h => hj h.symm)] at hal
      exact .inl ⟨j, o', hal, hb⟩
  have hon : Onward A φ H w (fun j => if j = i then some (w.heap.size, 0) else φ j) (H.set i o) (w.alloc (.cells c T)) := by
    refine ⟨fun j p hp => ?_, Pres.alloc _ _ _ _, hmono⟩
    by_cases hj : j = i
    · subst hj; rw [hφ] at hp; cases hp
    · simp [hj, hp]
  refine ⟨⟨fun j b o' hb => ?_, fun j sz' rows' hr hne => ?_, fun j k b o1 o2 hj hk h1 h2 => ?_, fun b hA => ?_, fun b hA ho' => ?_, fun j b o' hal hb => ?_⟩, hon⟩
  · rw [List.length_set]
    by_cases hj : j = i
    · simp only [hj, if_true, Option.some.injEq, Prod.mk.injEq] at hb
      refine ⟨hj ▸ hi, ?_⟩
      simp; omega
    · simp only [hj, if_false] at hb
      have := h.dom j b o' hb
      exact ⟨this.1, by simp; omega⟩
  · by_cases hj : j = i
    · exact ⟨w.heap.size, 0, by simp [hj]⟩
    · rw [Heap.at_set hi, if_neg (fun h => hj h.symm)] at hr
      obtain ⟨b, o', hb⟩ := h.there j sz' rows' hr hne
      exact ⟨b, o', by simp [hj, hb]⟩
  · rw [Heap.at_set hi] at hj hk
    by_cases hji : j = i
    · by_cases hki : k = i
      · omega
      · simp only [hji, if_true, Option.some.injEq, Prod.mk.injEq] at h1
        simp only [hki, if_false] at h2
        have := (h.dom k b o2 h2).2
        omega
    · by_cases hki : k = i
      · simp only [hki, if_true, Option.some.injEq, Prod.mk.injEq] at h2
        simp only [hji, if_false] at h1
        have := (h.dom j b o1 h1).2
        omega
      · simp only [hji, if_false] at h1
        simp only [hki, if_false] at h2
        rw [if_neg (fun h => hji h.symm)] at hj
        rw [if_neg (fun h => hki h.symm)] at hk
        exact h.inj j k b o1 o2 hj hk h1 h2
  · have := h.amb b hA; simp; omega
  · rcases hmono b ho' with h1 | h1
    · exact h.apart b hA h1
    · have := h.amb b hA; omega
  · rw [Heap.at_set hi] at hal
    rw [Heap.at_set hi]
    by_cases hj : j = i
    · subst hj
      simp only [if_true, Option.some.injEq, Prod.mk.injEq] at hb
      obtain ⟨rfl, rfl⟩ := hb
      simp only [if_true]
      intro sz' rows' hr
      rw [ho] at hr
      simp only [Option.some.injEq, Prod.mk.injEq] at hr
      obtain ⟨rfl, rfl⟩ := hr
      refine ⟨c, T, alloc_at _ _, by omega, hrow, fun k r j x hk hx => ?_⟩
      obtain ⟨v, hv, hrel⟩ := hc k r j x hk hx
      exact ⟨v, by rw [Nat.zero_add]; exact hv, hon.rel hrel⟩
    · rw [if_neg (fun h => hj h.symm)] at hal ⊢
      simp only [hj, if_false] at hb
      intro sz' rows' hr
      obtain ⟨c1, T1, e1, e2, e3, e4⟩ := h.objs j b o' hal hb sz' rows' hr
      have hlt := (h.dom j b o' hb).2
      refine ⟨c1, T1, ?_, e2, e3, fun k r j x hk hx => ?_⟩
      · simp only [World.alloc]; rw [Array.getElem?_push_lt hlt, ← Array.getElem?_eq_getElem hlt]; exact e1
      · obtain ⟨v, hv, hrel⟩ := e4 k r j x hk hx
        exact ⟨v, hv, hon.rel hrel⟩

/-- An object that has no rows needs no block. -/
theorem SimH.void {A : Nat → Prop} {φ : Nat → Option (Nat × Nat)} {H : Heap} {w : World} (h : SimH A φ H w) {i : Nat} (hi : i < H.length) (hφ : φ i = none) {o : HO} {sz : Nat}
    (ho : o.rows = some (sz, [])) : SimH A φ (H.set i o) w ∧ Onward A φ H w φ (H.set i o) w := by
  have hmono : ∀ b, own φ (H.set i o) b → own φ H b := by
    intro b ⟨j, o', hal, hb⟩
    by_cases hj : j = i
    · rw [hj, hφ] at hb; cases hb
    · rw [Heap.at_set hi, if_neg (fun h => hj h.symm)] at hal
      exact ⟨j, o', hal, hb⟩
  have hne : ∀ j b o', φ j = some (b, o') → j ≠ i := fun j b o' hb hj => by rw [hj, hφ] at hb; cases hb
  have hon : Onward A φ H w φ (H.set i o) w := ⟨fun _ _ h => h, Pres.refl _ _, fun b hb => .inl (hmono b hb)⟩
  refine ⟨⟨fun j b o' hb => ?_, fun j sz' rows' hr hn => ?_, fun j k b o1 o2 hj hk h1 h2 => ?_, h.amb, fun b hA ho' => h.apart b hA (hmono b ho'), fun j b o' hal hb => ?_⟩, hon⟩
  · rw [List.length_set]; exact h.dom j b o' hb
  · rw [Heap.at_set hi] at hr
    by_cases hj : i = j
    · rw [if_pos hj, ho] at hr
      simp only [Option.some.injEq, Prod.mk.injEq] at hr
      exact absurd hr.2.symm hn
    · rw [if_neg hj] at hr; exact h.there j sz' rows' hr hn
  · rw [Heap.at_set hi, if_neg (fun e => hne j b o1 h1 e.symm)] at hj
    rw [Heap.at_set hi, if_neg (fun e => hne k b o2 h2 e.symm)] at hk
    exact h.inj j k b o1 o2 hj hk h1 h2
  · rw [Heap.at_set hi, if_neg (fun e => hne j b o' hb e.symm)] at hal ⊢
    intro sz' rows' hr
    obtain ⟨c1, T1, e1, e2, e3, e4⟩ := h.objs j b o' hal hb sz' rows' hr
    exact ⟨c1, T1, e1, e2, e3, fun k r j x hk hx => by obtain ⟨v, hv, hrel⟩ := e4 k r j x hk hx; exact ⟨v, hv, hon.rel hrel⟩⟩

/-- An object is given up. -/
theorem SimH.kill {A : Nat → Prop} {φ : Nat → Option (Nat × Nat)} {H : Heap} {w : World} (h : SimH A φ H w) (i : Nat) :
    SimH A φ (H.set i .dead) w ∧ Onward A φ H w φ (H.set i .dead) w := by
  have hat : ∀ j, (Heap.at (H.set i .dead) j).alive → Heap.at (H.set i .dead) j = H.at j := by
    intro j hj
    rcases Nat.lt_or_ge i H.length with hi | hi
    · rw [Heap.at_set hi] at hj ⊢
      by_cases e : i = j
      · rw [if_pos e] at hj; exact hj.elim
      · rw [if_neg e]
    · rw [List.set_eq_of_length_le hi]
  have hmono : ∀ b, own φ (H.set i .dead) b → own φ H b := fun b ⟨j, o', hal, hb⟩ => ⟨j, o', by rw [← hat j hal]; exact hal, hb⟩
  have hon : Onward A φ H w φ (H.set i .dead) w := ⟨fun _ _ h => h, Pres.refl _ _, fun b hb => .inl (hmono b hb)⟩
  refine ⟨⟨fun j b o' hb => ?_, fun j sz' rows' hr hn => ?_, fun j k b o1 o2 hj hk h1 h2 => ?_, h.amb, fun b hA ho' => h.apart b hA (hmono b ho'), fun j b o' hal hb => ?_⟩, hon⟩
  · rw [List.length_set]; exact h.dom j b o' hb
  · exact h.there j sz' rows' (by rw [← hat j (HO.alive_rows.2 ⟨_, _, hr⟩)]; exact hr) hn
  · exact h.inj j k b o1 o2 (by rw [← hat j hj]; exact hj) (by rw [← hat k hk]; exact hk) h1 h2
  · intro sz' rows' hr
    have hal' : (H.at j).alive := by rw [← hat j hal]; exact hal
    rw [hat j hal] at hr
    obtain ⟨c1, T1, e1, e2, e3, e4⟩ := h.objs j b o' hal' hb sz' rows' hr
    exact ⟨c1, T1, e1, e2, e3, fun k r j x hk hx => by obtain ⟨v, hv, hrel⟩ := e4 k r j x hk hx; exact ⟨v, hv, hon.rel hrel⟩⟩

/-- The cells of one block of ours are others. -/
def World.setBlock (w : World) (b : Nat) (c : Array Value) (T : TypeId) : World := { w with heap := w.heap.setIfInBounds b (.cells c T (0, 0)) }

theorem setBlock_at (w : World) (b : Nat) (c : Array Value) (T : TypeId) (hb : b < w.heap.size) : (World.setBlock w b c T).heap[b]? = some (.cells c T (0, 0)) := by
  simp [World.setBlock, hb]

theorem setBlock_other (w : World) (b b' : Nat) (c : Array Value) (T : TypeId) (h : b ≠ b') : (World.setBlock w b c T).heap[b']? = w.heap[b']? := by
  simp [World.setBlock, Array.getElem?_setIfInBounds, h]

theorem Pres.setBlock {M : Nat → Prop} {w : World} {b : Nat} {c c' : Array Value} {T : TypeId} (hM : M b) (hc : w.heap[b]? = some (.cells c T (0, 0))) (hs : c'.size = c.size) :
    Pres M w (World.setBlock w b c' T) := by
  have hb : b < w.heap.size := by
    rcases Nat.lt_or_ge b w.heap.size with h | h
    · exact h
    · simp [Array.getElem?_eq_none h] at hc
  refine ⟨by simp [World.setBlock], fun b' hb' hn => setBlock_other w b b' c' T (fun e => hn (e ▸ hM)), fun b' c1 T1 h1 => ?_, ⟨rfl, rfl⟩, fun a => ?_⟩
  rotate_left
  · unfold World.frozen?
    by_cases e : b = a.block
    · rw [← e, setBlock_at w b c' T hb, hc]
    · rw [setBlock_other w b a.block c' T e]
  by_cases e : b = b'
  · subst e
    rw [hc] at h1
    simp only [Option.some.injEq, Obj.cells.injEq] at h1
    obtain ⟨rfl, rfl, _⟩ := h1
    exact ⟨c', setBlock_at w b c' T hb, hs⟩
  · exact ⟨c1, by rw [setBlock_other w b b' c' T e]; exact h1, rfl⟩

/-- The object at 'i' has other rows, and its block other cells. It may take the place of another id that is given up, and begin later in the block. -/
theorem SimH.change {A : Nat → Prop} {φ : Nat → Option (Nat × Nat)} {H : Heap} {w : World} (h : SimH A φ H w) {i b o : Nat} (hal : (H.at i).alive) (hb : φ i = some (b, o))
    {c c' : Array Value} {T : TypeId} (hblk : w.heap[b]? = some (.cells c T (0, 0))) (hs : c'.size = c.size) {x : HO} {sz : Nat} {rows : List (List AV)}
    (hx : x.rows = some (sz, rows)) (hfit : o + rows.length * sz ≤ c.size) (hrow : ∀ r ∈ rows, r.length = sz)
    (hc : ∀ (k : Nat) (r : List AV) (j : Nat) (y : AV), rows[k]? = some r → r[j]? = some y → ∃ v, c'[o + k * sz + j]? = some v ∧ Rel φ (Mb A φ H) w y v) :
    SimH A φ (H.set i x) (World.setBlock w b c' T) ∧ Onward A φ H w φ (H.set i x) (World.setBlock w b c' T) := by
  have hi : i < H.length := Heap.at_lt hal
  have hown : own φ H b := ⟨i, o, hal, hb⟩
  have hxal : x.alive := HO.alive_rows.2 ⟨_, _, hx⟩
  have hmono : ∀ b', own φ (H.set i x) b' → own φ H b' := by
    intro b' ⟨j, o', hj, hb'⟩
    rw [Heap.at_set hi] at hj
    by_cases e : i = j
    · subst e; exact ⟨i, o', hal, hb'⟩
    · rw [if_neg e] at hj; exact ⟨j, o', hj, hb'⟩
  have hon : Onward A φ H w φ (H.set i x) (World.setBlock w b c' T) := ⟨fun _ _ h => h, Pres.setBlock hown hblk hs, fun b' hb' => .inl (hmono b' hb')⟩
  have hsz : (World.setBlock w b c' T).heap.size = w.heap.size := by simp [World.setBlock]
  have hlt := (h.dom i b o hb).2
  refine ⟨⟨fun j b' o' hb' => ?_, fun j sz' rows' hr hn => ?_, fun j k b' o1 o2 hj hk h1 h2 => ?_, fun b' hA => by rw [hsz]; exact h.amb b' hA, fun b' hA ho' => h.apart b' hA (hmono b' ho'), fun j b' o' hj hb' => ?_⟩, hon⟩
  · rw [List.length_set, hsz]; exact h.dom j b' o' hb'
  · rw [Heap.at_set hi] at hr
    by_cases e : i = j
    · subst e; exact ⟨b, o, hb⟩
    · rw [if_neg e] at hr; exact h.there j sz' rows' hr hn
  · rw [Heap.at_set hi] at hj hk
    refine h.inj j k b' o1 o2 ?_ ?_ h1 h2
    · by_cases e : i = j
      · subst e; exact hal
      · rw [if_neg e] at hj; exact hj
    · by_cases e : i = k
      · subst e; exact hal
      · rw [if_neg e] at hk; exact hk
  · intro sz' rows' hr
    rw [Heap.at_set hi] at hj hr
    by_cases e : i = j
    · subst e
      rw [hb] at hb'
      simp only [Option.some.injEq, Prod.mk.injEq] at hb'
      obtain ⟨rfl, rfl⟩ := hb'
      rw [if_pos rfl, hx] at hr
      simp only [Option.some.injEq, Prod.mk.injEq] at hr
      obtain ⟨rfl, rfl⟩ := hr
      exact ⟨c', T, setBlock_at w b c' T hlt, by omega, hrow, fun k r j y hk hy => by obtain ⟨v, hv, hrel⟩ := hc k r j y hk hy; exact ⟨v, hv, hon.rel hrel⟩⟩
    · rw [if_neg e] at hj hr
      have hne : b ≠ b' := fun e' => e (h.inj i j b o o' hal hj hb (e' ▸ hb'))
      obtain ⟨c1, T1, e1, e2, e3, e4⟩ := h.objs j b' o' hj hb' sz' rows' hr
      exact ⟨c1, T1, by rw [setBlock_other w b b' c' T hne]; exact e1, e2, e3, fun k r j y hk hy => by obtain ⟨v, hv, hrel⟩ := e4 k r j y hk hy; exact ⟨v, hv, hon.rel hrel⟩⟩

/-- The object at 'i' is given up, and another id has its block, from somewhere on, with other cells. -/
theorem SimH.move {A : Nat → Prop} {φ : Nat → Option (Nat × Nat)} {H : Heap} {w : World} (h : SimH A φ H w) {i b o : Nat} (hal : (H.at i).alive) (hb : φ i = some (b, o))
    {n o2 : Nat} (hn : n < H.length) (hφ : φ n = none) {c c' : Array Value} {T : TypeId} (hblk : w.heap[b]? = some (.cells c T (0, 0))) (hs : c'.size = c.size) {x : HO} {sz : Nat}
    {rows : List (List AV)} (hx : x.rows = some (sz, rows)) (hfit : o2 + rows.length * sz ≤ c.size) (hrow : ∀ r ∈ rows, r.length = sz)
    (hc : ∀ (k : Nat) (r : List AV) (j : Nat) (y : AV), rows[k]? = some r → r[j]? = some y → ∃ v, c'[o2 + k * sz + j]? = some v ∧ Rel φ (Mb A φ H) w y v) :
    SimH A (fun j => if j = n then some (b, o2) else φ j) ((H.set i .dead).set n x) (World.setBlock w b c' T) ∧
      Onward A φ H w (fun j => if j = n then some (b, o2) else φ j) ((H.set i .dead).set n x) (World.setBlock w b c' T) := by
  have hi : i < H.length := Heap.at_lt hal
  have hne : n ≠ i := fun e => by rw [e, hb] at hφ; cases hφ
  have hown : own φ H b := ⟨i, o, hal, hb⟩
  have hlt := (h.dom i b o hb).2
  have hat : ∀ j, Heap.at ((H.set i .dead).set n x) j = if n = j then x else if i = j then .dead else H.at j := fun j => by
    rw [Heap.at_set (by rw [List.length_set]; exact hn), Heap.at_set hi]
  have hold : ∀ j, j ≠ n → (Heap.at ((H.set i .dead).set n x) j).alive → j ≠ i ∧ (H.at j).alive ∧ Heap.at ((H.set i .dead).set n x) j = H.at j := by
    intro j hj hal'
    rw [hat, if_neg (fun e => hj e.symm)] at hal' ⊢
    by_cases e : i = j
    · rw [if_pos e] at hal'; exact hal'.elim
    · rw [if_neg e] at hal' ⊢; exact ⟨fun e' => e e'.symm, hal', rfl⟩
  have hmono : ∀ b', own (fun j => if j = n then some (b, o2) else φ j) ((H.set i .dead).set n x) b' → own φ H b' := by
    intro b' ⟨j, o', hj, hb'⟩
    by_cases e : j = n
    · simp only [e, if_true, Option.some.injEq, Prod.mk.injEq] at hb'
      exact hb'.1 ▸ hown
    · simp only [e, if_false] at hb'
      exact ⟨j, o', (hold j e hj).2.1, hb'⟩
  have hon : Onward A φ H w (fun j => if j = n then some (b, o2) else φ j) ((H.set i .dead).set n x) (World.setBlock w b c' T) := by
    refine ⟨fun j p hp => ?_, Pres.setBlock hown hblk hs, fun b' hb' => .inl (hmono b' hb')⟩
    by_cases e : j = n
    · subst e; rw [hφ] at hp; cases hp
    · simp [e, hp]
  have hsz : (World.setBlock w b c' T).heap.size = w.heap.size := by simp [World.setBlock]
  have hblkne : ∀ j b' o', j ≠ i → (H.at j).alive → φ j = some (b', o') → b ≠ b' := fun j b' o' hj hal' hb' e => hj (h.inj i j b o o' hal hal' hb (e ▸ hb')).symm
  refine ⟨⟨fun j b' o' hb' => ?_, fun j sz' rows' hr hn' => ?_, fun j k b' o1 o3 hj hk h1 h2 => ?_, fun b' hA => by rw [hsz]; exact h.amb b' hA, fun b' hA ho' => h.apart b' hA (hmono b' ho'), fun j b' o' hj hb' => ?_⟩, hon⟩
  · rw [List.length_set, List.length_set, hsz]
    by_cases e : j = n
    · simp only [e, if_true, Option.some.injEq, Prod.mk.injEq] at hb'
      exact ⟨e ▸ hn, hb'.1 ▸ hlt⟩
    · simp only [e, if_false] at hb'; exact h.dom j b' o' hb'
  · by_cases e : j = n
    · exact ⟨b, o2, by simp [e]⟩
    · obtain ⟨e1, e2, e3⟩ := hold j e (HO.alive_rows.2 ⟨_, _, hr⟩)
      obtain ⟨b', o', hb'⟩ := h.there j sz' rows' (by rw [← e3]; exact hr) hn'
      exact ⟨b', o', by simp [e, hb']⟩
  · by_cases e : j = n
    · by_cases e' : k = n
      · omega
      · simp only [e, if_true, Option.some.injEq, Prod.mk.injEq] at h1
        simp only [e', if_false] at h2
        obtain ⟨f1, f2, f3⟩ := hold k e' hk
        exact absurd h1.1 (hblkne k b' o3 f1 f2 h2)
    · by_cases e' : k = n
      · simp only [e', if_true, Option.some.injEq, Prod.mk.injEq] at h2
        simp only [e, if_false] at h1
        obtain ⟨f1, f2, f3⟩ := hold j e hj
        exact absurd h2.1 (hblkne j b' o1 f1 f2 h1)
      · simp only [e, if_false] at h1
        simp only [e', if_false] at h2
        exact h.inj j k b' o1 o3 (hold j e hj).2.1 (hold k e' hk).2.1 h1 h2
  · intro sz' rows' hr
    by_cases e : j = n
    · simp only [e, if_true, Option.some.injEq, Prod.mk.injEq] at hb'
      obtain ⟨rfl, rfl⟩ := hb'
      rw [e, hat, if_pos rfl, hx] at hr
      simp only [Option.some.injEq, Prod.mk.injEq] at hr
      obtain ⟨rfl, rfl⟩ := hr
      exact ⟨c', T, setBlock_at w b c' T hlt, by omega, hrow, fun k r j y hk hy => by obtain ⟨v, hv, hrel⟩ := hc k r j y hk hy; exact ⟨v, hv, hon.rel hrel⟩⟩
    · obtain ⟨f1, f2, f3⟩ := hold j e hj
      simp only [e, if_false] at hb'
      rw [f3] at hr
      obtain ⟨c1, T1, e1, e2, e3, e4⟩ := h.objs j b' o' f2 hb' sz' rows' hr
      exact ⟨c1, T1, by rw [setBlock_other w b b' c' T (hblkne j b' o' f1 f2 hb')]; exact e1, e2, e3, fun k r j y hk hy => by obtain ⟨v, hv, hrel⟩ := e4 k r j y hk hy; exact ⟨v, hv, hon.rel hrel⟩⟩

theorem Onward.trans {A : Nat → Prop} {φ φ' φ'' : Nat → Option (Nat × Nat)} {H H' H'' : Heap} {w w' w'' : World} (h : Onward A φ H w φ' H' w') (h' : Onward A φ' H' w' φ'' H'' w'') :
    Onward A φ H w φ'' H'' w'' :=
  ⟨fun i p hp => h'.ids i p (h.ids i p hp), h.pres.trans h'.pres h.mono, fun b hb => by
    rcases h'.mono b hb with h1 | h1
    · exact h.mono b h1
    · exact .inr (Nat.le_trans h.pres.size h1)⟩

end Go.Ago
