/- Each operation of the abstract machine is carried out by the model's: 'op_sound'. Conditions: none. -/
import Derived.Test.YtlphhmgfjdecjaaAgo13
set_option linter.unusedSimpArgs false
set_option linter.unusedVariables false
namespace Go.Ago

section
variable {A : Nat → Prop} {φ : Nat → Option (Nat × Nat)} {H : Heap} {w : World} {P : Program} {n : Nat} {S : State} {a : Act}

theorem Env.get_cons (t0 : Nat) (x : AV) (e : Env) (t : Nat) : Env.get ((t0, x) :: e) t = if t0 = t then x else Env.get e t := rfl

theorem sim_put (hs : Sim A n φ S a w) {φ' : Nat → Option (Nat × Nat)} {H' : Heap} {w' : World} (h1 : SimH A φ' H' w') (h2 : Onward A φ S.heap w φ' H' w') {dst : Option Nat}
    (hd : ∀ t, dst = some t → t < n) {x : AV} {v : Value} (hr : Rel φ' (Mb A φ' H') w' x v) :
    Sim A n φ' { env := S.env.put dst x, heap := H' } (a.put dst v) w' := by
  cases dst with
  | none => exact ⟨h1, hs.size, hs.defs, fun t => h2.rel (hs.slots t)⟩
  | some t0 =>
    have hlt := hd t0 rfl
    refine ⟨h1, by simp [Act.put, hs.size], hs.defs, fun t => ?_⟩
    simp only [Env.put, Env.get_cons, Act.put]
    by_cases e : t0 = t
    · subst e
      rw [if_pos rfl]
      have : (a.tmps.setIfInBounds t0 v).getD t0 undef = v := by simp [Array.getD, hs.size, hlt]
      rw [this]; exact hr
    · rw [if_neg e]
      have : (a.tmps.setIfInBounds t0 v).getD t undef = a.tmps.getD t undef := by
        simp only [Array.getD_eq_getD_getElem?, Array.getElem?_setIfInBounds, e, if_false]
      rw [this]; exact h2.rel (hs.slots t)

theorem wp_value {o : Oper} {next : Act → World → Prop} {Q : Exit → Act → World → Prop} {v : Value} {w' : World} (h : (execOp a.eval o).run P w = .ok (.value v) w') (hn : next (a.put o.dst v) w') :
    o.wp P a w next Q := by
  unfold Oper.wp; rw [h]; exact hn

theorem wp_skipped {o : Oper} {next : Act → World → Prop} {Q : Exit → Act → World → Prop} {w' : World} (h : (execOp a.eval o).run P w = .ok .skip w') (hn : next (a.put o.dst undef) w') :
    o.wp P a w next Q := by
  unfold Oper.wp; rw [h]; exact hn

theorem run_v {s : Sem Value} {v : Value} {w' : World} (h : s.run P w = .ok v w') : (do pure (Next.value (← s)) : Sem Next).run P w = .ok (.value v) w' := by
  rw [Sem.run_bind, h]; rfl

theorem run_u {s : Sem Unit} {w' : World} (h : s.run P w = .ok () w') : (do s; pure Next.skip : Sem Next).run P w = .ok .skip w' := by
  rw [Sem.run_bind, h]; rfl

theorem Onward.same (hs : SimH A φ H w) : Onward A φ H w φ H w := ⟨fun _ _ h => h, Pres.refl _ _, fun b hb => .inl hb⟩

/-- What an operation comes to, as its answer says. -/
def Fine (P : Program) (n : Nat) (A : Nat → Prop) (φ : Nat → Option (Nat × Nat)) (S : State) (a : Act) (w : World) (o : Oper) (nu : Bool) (nw : Nat) (δ : Delta) : Prop :=
  ∀ (next : Act → World → Prop) (Q : Exit → Act → World → Prop),
    (∀ φ' v w', Sim A n φ' (S.app o.dst δ) (a.put o.dst v) w' → Onward A φ S.heap w φ' (S.app o.dst δ).heap w' → (∀ j, (nu = true → j ≠ nw) → φ' j = φ j) → next (a.put o.dst v) w') → o.wp P a w next Q

theorem fine_val (hs : Sim A n φ S a w) {o : Oper} {nu : Bool} {nw : Nat} (hd : ∀ t, o.dst = some t → t < n) {v : Value} {x : AV} {ids : List Nat} (hrun : (execOp a.eval o).run P w = .ok (.value v) w)
    (hr : Rel φ (Mb A φ S.heap) w x v) : Fine P n A φ S a w o nu nw ⟨x, [], ids⟩ := by
  intro next Q h
  exact wp_value hrun (h φ v w (sim_put hs hs.heap (Onward.same hs.heap) hd hr) (Onward.same hs.heap) (fun _ _ => rfl))

theorem fine_new (hs : Sim A n φ S a w) {o : Oper} {nu : Bool} {nw : Nat} (hd : ∀ t, o.dst = some t → t < n) {v : Value} {x : AV} {ids : List Nat} {ups : List (Nat × HO)} {φ' : Nat → Option (Nat × Nat)} {w' : World}
    (hrun : (execOp a.eval o).run P w = .ok (.value v) w') (h1 : SimH A φ' (ups.foldl (fun H p => H.set p.1 p.2) S.heap) w')
    (h2 : Onward A φ S.heap w φ' (ups.foldl (fun H p => H.set p.1 p.2) S.heap) w') (hr : Rel φ' (Mb A φ' (ups.foldl (fun H p => H.set p.1 p.2) S.heap)) w' x v) (h3 : ∀ j, (nu = true → j ≠ nw) → φ' j = φ j) :
    Fine P n A φ S a w o nu nw ⟨x, ups, ids⟩ := by
  intro next Q h
  exact wp_value hrun (h φ' v w' (sim_put hs h1 h2 hd hr) h2 h3)

/-! ### Calls -/
theorem View.noref {x x' : AV} {m : List Nat} (h : View H x x' m) : Plain x' := by
  induction h with
  | undef => exact .undef
  | d x => exact .d x
  | ref => exact .d _
  | agg cs cs' ids hl hi h ih =>
    refine .agg cs' fun y hy => ?_
    obtain ⟨i, hi', rfl⟩ := List.mem_iff_getElem.1 hy
    have h1 : i < cs.length := by omega
    have h2 : i < ids.length := by omega
    exact ih i cs[i] cs'[i] ids[i] (List.getElem?_eq_getElem h1) (List.getElem?_eq_getElem hi') (List.getElem?_eq_getElem h2)

/-- The blocks that an isolated call must leave alone: all of ours but those that it looks at. -/
def Away (A : Nat → Prop) (φ : Nat → Option (Nat × Nat)) (H : Heap) (ids : List Nat) : Nat → Prop :=
  fun b => Mb A φ H b ∧ ¬ ∃ i o, i ∈ ids ∧ (H.at i).alive ∧ φ i = some (b, o)

theorem drop_take_get {α : Type} {l : List α} {a n i : Nat} {x : α} (h : ((l.drop a).take n)[i]? = some x) : l[a + i]? = some x ∧ i < n := by
  rw [List.getElem?_take] at h
  split at h
  · rw [List.getElem?_drop] at h; exact ⟨h, by assumption⟩
  · cases h

/-- Rows of ours, looked at as data. -/
theorem view_list (hs : SimH A φ H w) {id sz row len : Nat} {room : Bool} {rows : List (List DV)} (hat : H.at id = .dvec sz rows) (hl : row + len ≤ rows.length) {v : Value}
    (hr : Rel φ (Mb A φ H) w (.ref id sz row len room) v) {M' : Nat → Prop} (htr : ∀ r ∈ rows, ∀ x ∈ r, ∀ u, RelD (Mb A φ H) w x u → RelD M' w x u) (hid : ∀ b o, φ id = some (b, o) → ¬ M' b) :
    RelD M' w (.list ((rows.drop row).take len) false) v := by
  cases hr with
  | ref0 _ _ _ _ a =>
    have : (rows.drop row).take 0 = [] := by simp
    rw [this]; exact .nil _ _ _ (fun h => by cases h)
  | ref _ _ _ _ b o cap _ c T hb hcap hroom hheap hfit =>
    have hal : (H.at id).alive := by rw [hat]; trivial
    obtain ⟨c1, T1, e1, e2, e3, e4⟩ := hs.objs id b o hal hb sz (rows.map (·.map .d)) (by rw [hat]; rfl)
    rw [hheap] at e1; cases e1
    have hlen : ((rows.drop row).take len).length = len := by simp; omega
    have hget : ∀ (i : Nat) (r : List DV) (j : Nat) (x : DV), ((rows.drop row).take len)[i]? = some r → r[j]? = some x → ∃ v, c[o + row * sz + (i * sz + j)]? = some v ∧ RelD M' w x v := by
      intro i r j x hi hx
      obtain ⟨hi', _⟩ := drop_take_get hi
      obtain ⟨v, hv, hrel⟩ := e4 (row + i) (r.map .d) j (.d x) (by simp [hi']) (by simp [hx])
      refine ⟨v, ?_, ?_⟩
      · rw [Nat.add_mul] at hv
        rw [← hv]; congr 1; omega
      · cases hrel with
        | d _ _ h => exact htr r (List.mem_of_getElem? hi') x (List.mem_of_getElem? hx) v h
    have hsz : ∀ r ∈ (rows.drop row).take len, r.length = sz := by
      intro r hr
      have hr' := List.mem_of_mem_drop (List.mem_of_mem_take hr)
      have := e3 (r.map .d) (List.mem_map_of_mem hr')
      simpa using this
    have := RelD.list (M := M') (w := w) ((rows.drop row).take len) false sz b (o + row * sz) cap (fun i j => (c[o + row * sz + (i * sz + j)]?).getD undef) (hs.dom id b o hb).2 (hid b o hb) hsz (by rw [hlen]; exact hcap)
      (fun h => by cases h) (fun i r j x hi hx => by
        obtain ⟨v, hv, _⟩ := hget i r j x hi hx
        rw [cell_block hheap, hv]; rfl) (fun i r j x hi hx => by
        obtain ⟨v, hv, hrel⟩ := hget i r j x hi hx
        rw [hv]; exact hrel)
    rw [hlen] at this
    exact this

theorem RelD.scal {M M' : Nat → Prop} {x : DV} {v : Value} (h : RelD M w x v) (hs : x.scal = true) : RelD M' w x v := by
  cases h with
  | int => exact .int _ _
  | bool => exact .bool _
  | str => exact .str _
  | flt => exact .flt _ _
  | nan _ _ h => exact .nan _ _ h
  | nilp => exact .nilp
  | nilm => exact .nilm
  | nilf => exact .nilf
  | fn => exact .fn _
  | nil full a cap hf => exact .nil _ _ _ hf
  | list rows full sz b off cap f hb hM hsz hcap hfull hc hr =>
    have : rows = [] := by simpa [DV.scal] using hs
    subst this
    exact .nil _ _ _ (fun h => by simpa using hfull h)

theorem RelD.unfull {M : Nat → Prop} {rows : List (List DV)} {full : Bool} {v : Value} (h : RelD M w (.list rows full) v) : RelD M w (.list rows false) v := by
  cases h with
  | nil _ a cap hf => exact .nil _ _ _ (fun h => by cases h)
  | list _ _ sz b off cap f hb hM hsz hcap hfull hc hr => exact .list rows false sz b off cap f hb hM hsz hcap (fun h => by cases h) hc hr

def noIds : Nat → Option (Nat × Nat) := fun _ => none

theorem simH_nil {A' : Nat → Prop} (h : ∀ b, A' b → b < w.heap.size) : SimH A' noIds [] w := by
  refine ⟨fun i b o hb => (by cases hb), fun i sz rows hr => ?_, fun i j b o o' hi => ?_, h, fun b hA ⟨i, o, hi, hb⟩ => (by cases hb), fun i b o hi hb => (by cases hb)⟩
  · simp [Heap.at, HO.rows] at hr
  · simp [Heap.at, HO.alive] at hi

theorem view_rel (hs : SimH A φ H w) {ids : List Nat} {x x' : AV} {m : List Nat} (h : View H x x' m) : (∀ i ∈ m, i ∈ ids) → ∀ v, Rel φ (Mb A φ H) w x v →
    Rel noIds (Mb (Away A φ H ids) noIds []) w x' v := by
  have hM : ∀ b, Mb (Away A φ H ids) noIds [] b → Mb A φ H b := by
    intro b hb
    rcases hb with hb | ⟨i, o, hi, hb⟩
    · exact hb.1
    · cases hb
  induction h with
  | undef => intro _ v _; exact .undef v
  | d x =>
    intro _ v hv
    cases hv with
    | d _ _ hv => exact .d _ _ (hv.less hM)
  | ref id sz row len room rows hat hl =>
    intro hm v hv
    refine .d _ _ (view_list hs hat hl hv (fun r hr x hx u hu => hu.less hM) (fun b o hb hA => ?_))
    rcases hA with hA | ⟨i, o', hi, hb'⟩
    · exact hA.2 ⟨id, o, hm id (by simp), by rw [hat]; trivial, hb⟩
    · cases hb'
  | agg cs cs' l hl hi h ih =>
    intro hm v hv
    obtain ⟨vs, rfl, hr⟩ := hv.agg_inv
    refine .agg cs' vs (by have := hr.len; simp at this; omega) (fun i x v h1 h2 => ?_)
    have hi' : i < cs.length := by have := lt_of_get h1; omega
    have hi2 : i < l.length := by omega
    refine ih i cs[i] x l[i] (List.getElem?_eq_getElem hi') h1 (List.getElem?_eq_getElem hi2) (fun j hj => hm j ?_) v (hr.get i cs[i] v (List.getElem?_eq_getElem hi') (by simpa using h2))
    exact List.mem_flatten.2 ⟨l[i], List.getElem_mem hi2, hj⟩

/-- What was there stays related, where no old block has changed. -/
theorem SimH.keep (hs : SimH A φ H w) {w' : World} (hp : Pres (own noIds []) w w') : SimH A φ H w' ∧ Onward A φ H w φ H w' := by
  have hno : ∀ b, ¬ own noIds [] b := fun b ⟨i, o, hi, hb⟩ => by cases hb
  have hon : Onward A φ H w φ H w' := ⟨fun _ _ h => h, ⟨hp.size, fun b hb _ => hp.same b hb (hno b), hp.keep, hp.os, hp.fz⟩, fun b hb => .inl hb⟩
  refine ⟨⟨fun i b o hb => ⟨(hs.dom i b o hb).1, Nat.lt_of_lt_of_le (hs.dom i b o hb).2 hp.size⟩, hs.there, hs.inj, fun b hA => Nat.lt_of_lt_of_le (hs.amb b hA) hp.size, hs.apart, fun i b o hi hb => ?_⟩, hon⟩
  intro sz rows hr
  obtain ⟨c, T, e1, e2, e3, e4⟩ := hs.objs i b o hi hb sz rows hr
  exact ⟨c, T, by rw [hp.same b (hs.dom i b o hb).2 (hno b)]; exact e1, e2, e3, fun k r j x hk hx => by obtain ⟨v, hv, hrel⟩ := e4 k r j x hk hx; exact ⟨v, hv, hon.rel hrel⟩⟩

theorem mb_lt (hs : SimH A φ H w) {b : Nat} (h : Mb A φ H b) : b < w.heap.size := by
  rcases h with h | ⟨i, o, hi, hb⟩
  · exact hs.amb b h
  · exact (hs.dom i b o hb).2

/-- A result as data, seen by the caller. -/
theorem frz_rel {A' : Nat → Prop} {φ' : Nat → Option (Nat × Nat)} {H' : Heap} {w' : World} (hs' : SimH A' φ' H' w') {M1 : Nat → Prop} {fresh : Prop}
    (hown : ∀ b, own φ' H' b → ¬ M1 b) (hM : ¬ fresh → ∀ b, M1 b → Mb A' φ' H' b) {r x : AV} (h : Frz H' r x) :
    (fresh → Fresh H' r) → ∀ v, Rel φ' (Mb A' φ' H') w' r v → Rel φ M1 w' x v := by
  have tr : ∀ y : DV, (fresh → y.scal = true) → ∀ u, RelD (Mb A' φ' H') w' y u → RelD M1 w' y u := by
    intro y hy u hu
    by_cases hf : fresh
    · exact hu.scal (hy hf)
    · exact hu.less (hM hf)
  induction h with
  | undef x => intro _ v _; exact .undef v
  | d y =>
    intro hf v hv
    cases hv with
    | d _ _ hv => exact .d _ _ (tr y (fun h => by cases hf h with | d _ h => exact h) v hv)
  | less rows full =>
    intro hf v hv
    cases hv with
    | d _ _ hv => exact .d _ _ (tr _ (fun h => by cases hf h with | d _ h => exact h) v hv).unfull
  | ref id sz row len room rows hat hl =>
    intro hf v hv
    refine .d _ _ (view_list hs' hat hl hv (fun q hq y hy u hu => tr y (fun h => ?_) u hu) (fun b o hb => hown b ⟨id, o, by rw [hat]; trivial, hb⟩))
    cases hf h with
    | ref _ _ _ _ _ rows2 hat2 hsc =>
      rw [hat] at hat2; cases hat2
      exact hsc q hq y hy
  | deep id sz row len room rows rows' hro hl hl' hrl hc ih =>
    intro hf v hv
    cases hv with
    | ref0 _ _ _ _ a =>
      have : rows' = [] := List.eq_nil_of_length_eq_zero hl'
      subst this
      exact .d _ _ (.nil _ _ _ (fun h => by cases h))
    | ref _ _ _ _ b o cap _ c T hb hcap hroom hheap hfit =>
      have hal : (H'.at id).alive := HO.alive_rows.2 ⟨_, _, hro⟩
      obtain ⟨c1, T1, e1, e2, e3, e4⟩ := hs'.objs id b o hal hb sz rows hro
      rw [hheap] at e1; cases e1
      have hget : ∀ (i : Nat) (r : List DV) (j : Nat) (y : DV), rows'[i]? = some r → r[j]? = some y → ∃ v, c[o + row * sz + (i * sz + j)]? = some v ∧ RelD M1 w' y v := by
        intro i r j y hi hy
        have hi' := lt_of_get hi
        have hrow : row + i < rows.length := by omega
        have hq := e3 rows[row + i] (List.getElem_mem hrow)
        have hj : j < (rows[row + i]).length := by
          have h1 := lt_of_get hy
          rw [hrl r (List.mem_of_getElem? hi)] at h1
          omega
        obtain ⟨v, hv, hrel⟩ := e4 (row + i) rows[row + i] j _ (List.getElem?_eq_getElem hrow) (List.getElem?_eq_getElem hj)
        have := ih i rows[row + i] r j _ y (List.getElem?_eq_getElem hrow) hi (List.getElem?_eq_getElem hj) hy (fun h => ?_) v hrel
        · refine ⟨v, ?_, ?_⟩
          · rw [Nat.add_mul] at hv
            rw [← hv]; congr 1; omega
          · cases this with
            | d _ _ h => exact h
        · cases hf h with
          | ref _ _ _ _ _ rows2 hat2 hsc =>
            rw [hat2] at hro
            simp only [HO.rows, Option.some.injEq, Prod.mk.injEq] at hro
            obtain ⟨_, rfl⟩ := hro
            have hr2 : row + i < rows2.length := by simpa using hrow
            have e : (rows2.map (·.map AV.d))[row + i] = (rows2[row + i]).map .d := by simp
            have hj2 : j < (rows2[row + i]).length := by rw [e] at hj; simpa using hj
            have e' : ((rows2.map (·.map AV.d))[row + i])[j] = .d (rows2[row + i])[j] := by simp
            rw [e']
            exact .d _ (hsc _ (List.getElem_mem hr2) _ (List.getElem_mem hj2))
      have := RelD.list (M := M1) (w := w') rows' false sz b (o + row * sz) cap (fun i j => (c[o + row * sz + (i * sz + j)]?).getD undef) (hs'.dom id b o hb).2 (hown b ⟨id, o, hal, hb⟩) hrl (by rw [hl']; exact hcap)
        (fun h => by cases h) (fun i r j x hi hx => by
          obtain ⟨v, hv, _⟩ := hget i r j x hi hx
          rw [cell_block hheap, hv]; rfl) (fun i r j x hi hx => by
          obtain ⟨v, hv, hrel⟩ := hget i r j x hi hx
          rw [hv]; exact hrel)
      rw [hl'] at this
      exact .d _ _ this
  | agg cs cs' hl h ih =>
    intro hf v hv
    obtain ⟨vs, rfl, hr⟩ := hv.agg_inv
    refine .agg cs' vs (by have := hr.len; simp at this; omega) (fun i y v h1 h2 => ?_)
    have hi' : i < cs.length := by have := lt_of_get h1; omega
    exact ih i cs[i] y (List.getElem?_eq_getElem hi') h1 (fun h => by
      cases hf h with
      | agg _ hh => exact hh _ (List.getElem_mem hi')) v (hr.get i cs[i] v (List.getElem?_eq_getElem hi') (by simpa using h2))
  | tup cs cs' hl h ih =>
    intro hf v hv
    obtain ⟨vs, rfl, hr⟩ := hv.tup_inv
    refine .tup cs' vs (by have := hr.len; simp at this; omega) (fun i y v h1 h2 => ?_)
    have hi' : i < cs.length := by have := lt_of_get h1; omega
    exact ih i cs[i] y (List.getElem?_eq_getElem hi') h1 (fun h => by
      cases hf h with
      | tup _ hh => exact hh _ (List.getElem_mem hi')) v (hr.get i cs[i] v (List.getElem?_eq_getElem hi') (by simpa using h2))

end
end Go.Ago
