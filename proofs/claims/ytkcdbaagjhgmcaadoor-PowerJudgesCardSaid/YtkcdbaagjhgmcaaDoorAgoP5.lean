/- An object of ours that nobody changes any more is said as data from here on. Conditions: none. -/
import Derived.Test.YtkcdbaagjhgmcaaDoorAgoP3
import Derived.Test.YtkcdbaagjhgmcaaDoorAgoP4
import Derived.Laws.Bits64b
set_option linter.unusedSimpArgs false
set_option linter.unusedVariables false
namespace Go.Ago

mutual
/-- A value, when the rows of object 'id' are data. -/
def AV.ice (id sz0 : Nat) (rows : List (List DV)) : AV → AV
  | .undef => .undef
  | .d x => .d x
  | .agg cs => .agg (AV.iceL id sz0 rows cs)
  | .tup cs => .tup (AV.iceL id sz0 rows cs)
  | .ptr i sz row j => if i = id then (if sz = sz0 then (match rows[row]? with | some r => .dptr r j | none => .undef) else .undef) else .ptr i sz row j
  | .dptr cs j => .dptr cs j
  | .ref i sz row len room => if i = id then (if sz = sz0 ∧ row + len ≤ rows.length then .d (.list ((rows.drop row).take len) (!room)) else .undef) else .ref i sz row len room
  | .clo f caps => .clo f (AV.iceL id sz0 rows caps)
  | .rcap i sz row len cap => if i = id then .undef else .rcap i sz row len cap
def AV.iceL (id sz0 : Nat) (rows : List (List DV)) : List AV → List AV
  | [] => []
  | x :: xs => AV.ice id sz0 rows x :: AV.iceL id sz0 rows xs
end

theorem AV.iceL_map (id sz0 : Nat) (rows : List (List DV)) (xs : List AV) : AV.iceL id sz0 rows xs = xs.map (AV.ice id sz0 rows) := by
  induction xs with
  | nil => simp [AV.iceL]
  | cons x xs ih => simp [AV.iceL, ih]

/-- Rows, when those of an object are data. -/
def iceRows (id sz0 : Nat) (rows : List (List DV)) (l : List (List AV)) : List (List AV) := l.map fun r => AV.iceL id sz0 rows r

def HO.ice (id sz0 : Nat) (rows : List (List DV)) : HO → HO
  | .dead => .dead
  | .dvec sz l => .dvec sz l
  | .vec sz l => Z4m sz (iceRows id sz0 rows l)

/-- The rows of an object, as data. -/
def HO.data : HO → Option (Nat × List (List DV))
  | .dead => none
  | .dvec sz l => some (sz, l)
  | .vec sz l => (drows l).map fun ds => (sz, ds)

theorem HO.data_rows {o : HO} {sz : Nat} {ds : List (List DV)} (h : o.data = some (sz, ds)) : o.rows = some (sz, ds.map (·.map .d)) := by
  cases o with
  | dead => simp [HO.data] at h
  | dvec sz' l => simp [HO.data] at h; obtain ⟨rfl, rfl⟩ := h; rfl
  | vec sz' l =>
    simp only [HO.data, Option.map_eq_some_iff] at h
    obtain ⟨ds', h1, h2⟩ := h
    simp at h2; obtain ⟨rfl, rfl⟩ := h2
    rw [HO.rows, drows_map _ _ h1]

def iceHeap (id sz0 : Nat) (rows : List (List DV)) : Nat → Heap → Heap
  | _, [] => []
  | i, o :: os => (if i = id then .dead else o.ice id sz0 rows) :: iceHeap id sz0 rows (i + 1) os

theorem iceHeap_at (id sz0 : Nat) (rows : List (List DV)) : ∀ (H : Heap) (k i : Nat), (iceHeap id sz0 rows k H).at i = if k + i = id then .dead else (H.at i).ice id sz0 rows := by
  intro H
  induction H with
  | nil => intro k i; simp [iceHeap, Heap.at, HO.ice]
  | cons o os ih =>
    intro k i
    cases i with
    | zero => simp [iceHeap, Heap.at]
    | succ i =>
      have := ih (k + 1) i
      simp only [Heap.at] at this
      simp only [iceHeap, Heap.at, List.getD_cons_succ, this, show k + 1 + i = k + (i + 1) by omega]

theorem iceHeap_len (id sz0 : Nat) (rows : List (List DV)) : ∀ (H : Heap) (k : Nat), (iceHeap id sz0 rows k H).length = H.length := by
  intro H
  induction H with
  | nil => intro k; rfl
  | cons o os ih => intro k; simp [iceHeap, ih]

def iceEnv (id sz0 : Nat) (rows : List (List DV)) : Env → Env
  | [] => []
  | (t, x) :: e => (t, x.ice id sz0 rows) :: iceEnv id sz0 rows e

theorem iceEnv_get (id sz0 : Nat) (rows : List (List DV)) : ∀ (e : Env) (t : Nat), (iceEnv id sz0 rows e).get t = (e.get t).ice id sz0 rows := by
  intro e
  induction e with
  | nil => intro t; simp [iceEnv, Env.get, AV.ice]
  | cons p e ih =>
    intro t
    obtain ⟨t0, x⟩ := p
    simp only [iceEnv, Env.get]
    split
    · rfl
    · exact ih t

/-- A state in which object 'id' is data. -/
def State.ice (id : Nat) (S : State) : State :=
  match (S.heap.at id).data with
  | some (sz0, rows) => ⟨iceEnv id sz0 rows S.env, iceHeap id sz0 rows 0 S.heap⟩
  | none => S

theorem HO.ice_rows {id sz0 : Nat} {rows : List (List DV)} {o : HO} {sz : Nat} {l : List (List AV)} (h : (o.ice id sz0 rows).rows = some (sz, l)) :
    ∃ l0, o.rows = some (sz, l0) ∧ l = l0.map (·.map (AV.ice id sz0 rows)) := by
  cases o with
  | dead => simp [HO.ice, HO.rows] at h
  | dvec sz' r =>
    simp only [HO.ice, HO.rows, Option.some.injEq, Prod.mk.injEq] at h
    obtain ⟨rfl, rfl⟩ := h
    refine ⟨_, rfl, ?_⟩
    rw [List.map_map]
    refine List.map_congr_left fun x _ => ?_
    rw [Function.comp, List.map_map]
    exact List.map_congr_left fun y _ => by simp [AV.ice]
  | vec sz' r =>
    simp only [HO.ice, mkVec_rows, Option.some.injEq, Prod.mk.injEq] at h
    obtain ⟨rfl, rfl⟩ := h
    exact ⟨_, rfl, by rw [iceRows]; exact List.map_congr_left fun x _ => AV.iceL_map _ _ _ _⟩

theorem ice_says {n0 id : Nat} {S : State} : Says n0 S (S.ice id) := by
  intro P A n φ a w hs
  unfold State.ice
  split
  case h_2 => exact Says.refl P A n φ a w hs
  rename_i sz0 rows hd
  have hro := HO.data_rows hd
  have hal : (S.heap.at id).alive := HO.alive_rows.2 ⟨_, _, hro⟩
  have hat : ∀ i, (iceHeap id sz0 rows 0 S.heap).at i = if i = id then .dead else (S.heap.at i).ice id sz0 rows := fun i => by rw [iceHeap_at, Nat.zero_add]
  have halive : ∀ i, ((iceHeap id sz0 rows 0 S.heap).at i).alive → i ≠ id ∧ (S.heap.at i).alive := fun i hi => by
    rw [hat] at hi
    split at hi
    · exact hi.elim
    · refine ⟨by assumption, ?_⟩
      obtain ⟨sz, l, h⟩ := HO.alive_rows.1 hi
      obtain ⟨l0, h0, _⟩ := HO.ice_rows h
      exact HO.alive_rows.2 ⟨_, _, h0⟩
  have hown : ∀ b, own φ (iceHeap id sz0 rows 0 S.heap) b → own φ S.heap b := fun b ⟨i, o, hi, hb⟩ => ⟨i, o, (halive i hi).2, hb⟩
  have hM : ∀ b, Mb A φ (iceHeap id sz0 rows 0 S.heap) b → Mb A φ S.heap b := fun b hb => hb.imp _root_.id (hown b)
  have hid : ∀ b o, φ id = some (b, o) → ¬ Mb A φ (iceHeap id sz0 rows 0 S.heap) b := by
    rintro b o hb (hA | ⟨i, o', hi, hb'⟩)
    · exact hs.heap.apart b hA ⟨id, o, hal, hb⟩
    · exact (halive i hi).1 (hs.heap.inj i id b o' o (halive i hi).2 hal hb' hb)
  obtain ⟨c0, T0, hcells⟩ : ∃ (c0 : Unit) (T0 : Unit), ∀ b o, φ id = some (b, o) → ∃ c T, w.heap[b]? = some (.cells c T (0, 0)) ∧ (∀ r ∈ rows, r.length = sz0) ∧
      ∀ (i : Nat) (r : List DV) (j : Nat) (x : DV), rows[i]? = some r → r[j]? = some x → ∃ v, c[o + i * sz0 + j]? = some v ∧ RelD (Mb A φ (iceHeap id sz0 rows 0 S.heap)) w x v := by
    refine ⟨(), (), fun b o hb => ?_⟩
    obtain ⟨c, T, e1, e2, e3, e4⟩ := hs.heap.objs id b o hal hb sz0 _ hro
    refine ⟨c, T, e1, fun r hr => ?_, fun i r j x hi hx => ?_⟩
    · have := e3 (r.map .d) (List.mem_map_of_mem hr)
      simpa using this
    · obtain ⟨v, hv, hrel⟩ := e4 i (r.map .d) j (.d x) (by simp [hi]) (by simp [hx])
      cases hrel with
      | d _ _ h => exact ⟨v, hv, h.less hM⟩
  have tr : ∀ {x : AV} {v : Value}, Rel φ (Mb A φ S.heap) w x v → Rel φ (Mb A φ (iceHeap id sz0 rows 0 S.heap)) w (x.ice id sz0 rows) v := by
    intro x v h
    induction h with
    | undef v => simp only [AV.ice]; exact .undef v
    | d x v h => simp only [AV.ice]; exact .d x v (h.less hM)
    | agg cells vs hl h ih =>
      simp only [AV.ice, AV.iceL_map]
      refine .agg _ vs (by simpa using hl) fun i x v h1 h2 => ?_
      rw [List.getElem?_map, Option.map_eq_some_iff] at h1
      obtain ⟨y, h1, rfl⟩ := h1
      exact ih i y v h1 h2
    | tup cells vs hl h ih =>
      simp only [AV.ice, AV.iceL_map]
      refine .tup _ vs (by simpa using hl) fun i x v h1 h2 => ?_
      rw [List.getElem?_map, Option.map_eq_some_iff] at h1
      obtain ⟨y, h1, rfl⟩ := h1
      exact ih i y v h1 h2
    | clo f cells vs hl h ih =>
      simp only [AV.ice, AV.iceL_map]
      refine .clo f _ vs (by simpa using hl) fun i x v h1 h2 => ?_
      rw [List.getElem?_map, Option.map_eq_some_iff] at h1
      obtain ⟨y, h1, rfl⟩ := h1
      exact ih i y v h1 h2
    | rcap i sz row len b o cap c T hb hcap hheap hfit =>
      simp only [AV.ice]
      split
      · exact .undef _
      · exact .rcap i sz row len b o cap c T hb hcap hheap hfit
    | dptr cs j b off f hlt hm hc hr => simp only [AV.ice]; exact .dptr cs j b off f hlt (fun h => hm (hM b h)) hc fun i x h1 => (hr i x h1).less hM
    | ptr i sz row j b o hb =>
      simp only [AV.ice]
      split
      · rename_i e; subst e
        split
        · rename_i e; subst e
          split
          · rename_i r hr
            obtain ⟨c, T, g1, g2, g3⟩ := hcells b o hb
            refine .dptr (off := o + row * sz) r j b (fun k => (c[o + row * sz + k]?).getD undef) (hs.heap.dom _ b o hb).2 (hid b o hb) (fun k x hx => ?_) (fun k x hx => ?_)
            · obtain ⟨v, hv, _⟩ := g3 row r k x hr hx
              rw [cell_block g1, hv]; rfl
            · obtain ⟨v, hv, h⟩ := g3 row r k x hr hx
              rw [hv]; exact h
          · exact .undef _
        · exact .undef _
      · exact .ptr i sz row j b o hb
    | ref0 i sz row room a =>
      simp only [AV.ice]
      split
      · split
        · have : (rows.drop row).take 0 = [] := by simp
          rw [this]; exact .d _ _ (.nil _ _ _ (fun _ => rfl))
        · exact .undef _
      · exact .ref0 _ _ _ _ _
    | ref i sz row len b o cap room c T hb hcap hroom hheap hfit =>
      simp only [AV.ice]
      split
      · rename_i e; subst e
        split
        · rename_i e
          obtain ⟨rfl, hle⟩ := e
          obtain ⟨c1, T1, g1, g2, g3⟩ := hcells b o hb
          have hlen : ((rows.drop row).take len).length = len := by simp; omega
          have hget : ∀ (k : Nat) (r : List DV) (j : Nat) (x : DV), ((rows.drop row).take len)[k]? = some r → r[j]? = some x → ∃ v, c1[o + row * sz + (k * sz + j)]? = some v ∧ RelD (Mb A φ (iceHeap i sz rows 0 S.heap)) w x v := by
            intro k r j x hi hx
            obtain ⟨hi', _⟩ := drop_take_get hi
            obtain ⟨v, hv, hrel⟩ := g3 (row + k) r j x hi' hx
            refine ⟨v, ?_, hrel⟩
            rw [Nat.add_mul] at hv
            rw [← hv]; congr 1; omega
          have := RelD.list (M := Mb A φ (iceHeap i sz rows 0 S.heap)) (w := w) ((rows.drop row).take len) (!room) sz b (o + row * sz) cap (fun k j => (c1[o + row * sz + (k * sz + j)]?).getD undef) (hs.heap.dom _ b o hb).2 (hid b o hb)
            (fun r hr => g2 r (List.mem_of_mem_drop (List.mem_of_mem_take hr))) (by rw [hlen]; exact hcap)
            (fun h => by rw [hlen]; exact hroom (by simpa using h)) (fun k r j x hi hx => by
              obtain ⟨v, hv, _⟩ := hget k r j x hi hx
              rw [cell_block g1, hv]; rfl) (fun k r j x hi hx => by
              obtain ⟨v, hv, hrel⟩ := hget k r j x hi hx
              rw [hv]; exact hrel)
          rw [hlen] at this
          exact .d _ _ this
        · exact .undef _
      · exact .ref i sz row len b o cap room c T hb hcap hroom hheap hfit
  refine ⟨φ, ⟨⟨?_, ?_, ?_, hs.heap.amb, fun b hA ho => hs.heap.apart b hA (hown b ho), ?_, hs.heap.tab.less hM⟩, hs.size, hs.defs, ?_⟩, ⟨fun i hi => rfl, Pres.refl _ _, fun b hb => .inl (hown b hb)⟩⟩
  · intro i b o hb
    rw [show (State.heap ⟨iceEnv id sz0 rows S.env, iceHeap id sz0 rows 0 S.heap⟩) = iceHeap id sz0 rows 0 S.heap from rfl, iceHeap_len]
    exact hs.heap.dom i b o hb
  · intro i sz l hi hne
    rw [show (State.heap ⟨iceEnv id sz0 rows S.env, iceHeap id sz0 rows 0 S.heap⟩) = iceHeap id sz0 rows 0 S.heap from rfl, hat] at hi
    split at hi
    · simp [HO.rows] at hi
    · obtain ⟨l0, h0, rfl⟩ := HO.ice_rows hi
      exact hs.heap.there i sz l0 h0 (by simpa using hne)
  · intro i j b o o' hi hj h1 h2
    exact hs.heap.inj i j b o o' (halive i hi).2 (halive j hj).2 h1 h2
  · intro i b o hi hb sz l hl
    rw [show (State.heap ⟨iceEnv id sz0 rows S.env, iceHeap id sz0 rows 0 S.heap⟩) = iceHeap id sz0 rows 0 S.heap from rfl] at hi hl
    rw [hat, if_neg (halive i hi).1] at hl
    obtain ⟨l0, h0, rfl⟩ := HO.ice_rows hl
    obtain ⟨c, T, e1, e2, e3, e4⟩ := hs.heap.objs i b o (halive i hi).2 hb sz l0 h0
    refine ⟨c, T, e1, by simpa using e2, fun r hr => ?_, fun k r j x hk hx => ?_⟩
    · obtain ⟨r0, hr0, rfl⟩ := List.mem_map.1 hr
      simpa using e3 r0 hr0
    · rw [List.getElem?_map, Option.map_eq_some_iff] at hk
      obtain ⟨r0, hk, rfl⟩ := hk
      rw [List.getElem?_map, Option.map_eq_some_iff] at hx
      obtain ⟨x0, hx, rfl⟩ := hx
      obtain ⟨v, hv, hrel⟩ := e4 k r0 j x0 hk hx
      exact ⟨v, hv, tr hrel⟩
  · intro t
    show Rel φ _ w ((iceEnv id sz0 rows S.env).get t) _
    rw [iceEnv_get]
    exact tr (hs.slots t)

/-- Objects that are data from here on, one after the other. -/
def State.ices : List Nat → State → State
  | [], S => S
  | i :: is, S => State.ices is (S.ice i)

theorem ices_says {n0 : Nat} : ∀ (is : List Nat) (S : State), Says n0 S (S.ices is)
  | [], S => Says.refl
  | i :: is, S => ice_says.trans (ices_says is (S.ice i))

theorem ice_len (id : Nat) (S : State) : (S.ice id).heap.length = S.heap.length := by
  unfold State.ice; split
  · exact iceHeap_len _ _ _ _ _
  · rfl

theorem ices_len : ∀ (is : List Nat) (S : State), (S.ices is).heap.length = S.heap.length
  | [], S => rfl
  | i :: is, S => (ices_len is (S.ice i)).trans (ice_len i S)

theorem Z3p.ices {α : Type} {L : List Nat} {st : α → State} {Inv : α → Prop} {m : α → Nat} {k : Nat} {S : State} (is : List Nat) (h : Z3p L st Inv m k (S.ices is)) : Z3p L st Inv m k S :=
  Z3p.says (ices_says is S) h

theorem Loop.ices {T : Tab} {n0 : Nat} {live : List Nat} {b : LCode} {S : State} {K : AExit → State → Prop} (is : List Nat) (hl : n0 ≤ S.heap.length) (h : Loop T n0 live b (S.ices is) K) : Loop T n0 live b S K :=
  Loop.says (ices_says is S) (by rw [ices_len]; exact hl) h

/-! ### Rules -/
/-! ### Rows of data, said as rows of cells -/
end Go.Ago

/- A call on objects of its own, as a call on a greater heap; contracts of calls that change or add objects. Conditions: none. -/
set_option linter.unusedSimpArgs false
set_option linter.unusedVariables false
namespace Go.Ago

/-- The end of a call: its heap, said with other ids, is this one. -/
def RetG (n0 : Nat) (v' : AV) (os' : Heap) : AV → Heap → Prop := fun r H => ∃ ρ, Weak n0 ρ ⟨[(0, r)], H⟩ ⟨[(0, v')], os'⟩ ∧ n0 ≤ os'.length

theorem RetG.mk {n0 : Nat} {v' r : AV} {os' H : Heap} (ρ : List Nat) (h1 : ρ.Nodup) (h2 : ∀ i ∈ ρ, i < H.length) (h3 : ∀ i, i < n0 → ρ[i]? = some i) (hv : AV.can ρ r = some v') (ho : ρ.map (fun i => (Heap.at H i).can ρ) = os') : RetG n0 v' os' r H := by
  have hw := can_weak (S := ⟨[(0, r)], H⟩) (live := [0]) h1 h3 h2
  have e : State.can ρ [0] ⟨[(0, r)], H⟩ = ⟨[(0, v')], os'⟩ := by
    simp only [State.can, List.map_cons, List.map_nil, Env.get, if_true, hv, Option.getD_some, ho]
  rw [e] at hw
  refine ⟨ρ, hw, ?_⟩
  rw [← ho, List.length_map]
  cases n0 with
  | zero => omega
  | succ n =>
    rcases Nat.lt_or_ge n ρ.length with h | h
    · omega
    · have := h3 n (by omega)
      rw [List.getElem?_eq_none (by omega)] at this
      cases this



theorem ACalls.exact {P : Program} {f : FuncId} {args : List AV} {H0 os' : Heap} {v' : AV} (h : ACalls P f args H0 (RetG H0.length v' os')) : ACalls P f args H0 (fun r H => r = v' ∧ H = os') := by
  refine ⟨h.1, fun A φ w vals hs hz hr => (h.2 A φ w vals hs hz hr).mono ?_⟩
  rintro e w' ⟨v, r, H', φ', rfl, ⟨ρ, hw, hl⟩, hs', hrr, hext⟩
  have hsim : Sim P A 1 φ' ⟨[(0, r)], H'⟩ { tmps := #[v], defers := [] } w' := by
    refine ⟨hs', rfl, rfl, fun t => ?_⟩
    cases t with
    | zero => exact hrr
    | succ t => exact .undef _
  obtain ⟨hs2, he⟩ := hw.sim hsim
  exact ⟨v, v', os', _, rfl, ⟨rfl, rfl⟩, hs2.heap, hs2.slots 0, hext.trans he⟩

/-- What is known of a function that changes one object that it is handed. -/
structure Ef where
  A : Type
  args : A → Nat → List AV
  sz : Nat
  rows : A → List (List DV)
  ok : A → Prop
  val : A → AV
  rows' : A → List (List DV)

def Ef.fits (e : Ef) (p : e.A × Nat) (args : List AV) (H : Heap) : Prop := e.args p.1 p.2 = args ∧ H.at p.2 = .dvec e.sz (e.rows p.1)
def Ef.eff (e : Ef) (p : e.A × Nat) : Eff := ⟨e.ok p.1, e.val p.1, [(p.2, .dvec e.sz (e.rows' p.1))], [], none⟩
open Classical in
noncomputable def Ef.at (e : Ef) (args : List AV) (H : Heap) : Option Eff := if h : ∃ p, e.fits p args H then some (e.eff h.choose) else none

theorem Ef.at_fits {e : Ef} (hi : ∀ p q args H, e.fits p args H → e.fits q args H → p = q) {p : e.A × Nat} {args : List AV} {H : Heap} (h : e.fits p args H) : e.at args H = some (e.eff p) := by
  have h' : ∃ p, e.fits p args H := ⟨p, h⟩
  unfold Ef.at
  rw [dif_pos h', hi _ _ _ _ h'.choose_spec h]

structure Ef.Body (e : Ef) (T : Tab) (live : List Nat) (lc : LCode) (rs : List LRes) : Prop where
  ren : ∀ x (ρ : Nat → Nat), e.args x (ρ 0) = (e.args x 0).map (AV.ren ρ)
  val : ∀ x (ρ : Nat → Nat), (e.val x).ren ρ = e.val x
  body : ∀ x, e.ok x → vck T 1 live lc ⟨Z22 0 (e.args x 0), [.dvec e.sz (e.rows x)]⟩ (retK rs (RetG 1 (e.val x) [.dvec e.sz (e.rows' x)]))

theorem Ef.Body.ok {P : Program} {T : Tab} (hT : TabOK P T) {e : Ef} {f : FuncId} {fn : Func} {c : Code} {lc : LCode} {rs : List LRes} {live : List Nat} (h : e.Body T live lc rs) (hf : P.funcs[f]? = some fn)
    (hname : (fn.name == "runtime.NumGoroutine") = false) (hb : fn.body = some c) (hl : lowCode P fn.ntmps c = some lc) (hr : lowRess P fn.results.toList = some rs) (ha : ∀ x, (e.args x 0).length ≤ fn.ntmps) :
    ∀ args H x, e.at args H = some x → x.ok → ACalls P f args H fun r H' => r = x.val ∧ H' = applyUps H x.ups ++ x.news := by
  intro args H x hx hok
  unfold Ef.at at hx
  split at hx
  case isFalse => cases hx
  rename_i hp
  have hfit := hp.choose_spec
  generalize hp.choose = q at hx hfit
  simp only [Option.some.injEq] at hx
  subst hx
  obtain ⟨x, id⟩ := q
  obtain ⟨h1, h2⟩ := hfit
  simp only at h1 h2
  subst h1
  have hlt : id < H.length := Heap.at_lt (H := H) (i := id) (by rw [h2]; trivial)
  have hcall : ACalls P f (e.args x 0) [.dvec e.sz (e.rows x)] (fun r H1 => r = e.val x ∧ H1 = [.dvec e.sz (e.rows' x)]) :=
    ACalls.exact (ACalls.of_vck hT live hf hname hb hl hr (ha x) (h.body x hok))
  have hfr : Framed H [id] [.dvec e.sz (e.rows' x)] (H.set id (.dvec e.sz (e.rows' x)) ++ []) := by
    refine ⟨by simp, fun j hj hm => ?_, fun i hi => ?_⟩
    · rw [List.append_nil, Heap.at_set hlt, if_neg (fun h => hm (by simp [h]))]
    · have : i = 0 := by simpa using hi
      subst this
      rw [List.append_nil, into_lt (by simp), Heap.at_set hlt]
      simp [Heap.at, HO.ren]
  have := ACalls.frame (ids := [id]) (by simp) (by simp) (by simpa using hlt) (by simp) (fun k hk => by
    have : k = 0 := by simpa using hk
    subst this
    simp only [List.getElem_cons_zero, h2]
    simp [Heap.at, HO.ren]) hfr hcall
  have e1 : (e.args x 0).map (AV.ren (into H [id])) = e.args x id := by
    rw [← h.ren x (into H [id])]
    rw [into_lt (by simp)]; rfl
  rw [e1, h.val] at this
  exact this

theorem Ef.at_take {e : Ef} {args : List AV} {H : Heap} {x : Eff} (h : e.at args H = some x) : x.take = none := by
  unfold Ef.at at h
  split at h
  · simp only [Option.some.injEq] at h; subst h; rfl
  · cases h
theorem Ef.Body.tab {P : Program} {T T0 : Tab} {e : Ef} {live : List Nat} {lc : LCode} {rs : List LRes} (h : e.Body T live lc rs) (hT : TabOK P T) (hT0 : TabOK P T0) {f : FuncId} {fn : Func} {c : Code} (hf : P.funcs[f]? = some fn)
    (hname : (fn.name == "runtime.NumGoroutine") = false) (hb : fn.body = some c) (hl : lowCode P fn.ntmps c = some lc) (hr : lowRess P fn.results.toList = some rs) (ha : ∀ x, (e.args x 0).length ≤ fn.ntmps) : TabOK P (T0.addG f e.at) :=
  hT0.addG (Ef.Body.ok hT h hf hname hb hl hr ha) fun args H x t h1 h2 => by rw [Ef.at_take h1] at h2; cases h2

end Go.Ago

/- Words of 64 bits: rows of them, the operations on them, and sets of bits. Conditions: none. -/
set_option linter.unusedSimpArgs false
set_option linter.unusedVariables false
namespace Go.Ago

abbrev W := BitVec 64
def rowW (x : W) : List DV := [.int .u64 (x.toNat : Int)]
theorem W.inj {x y : W} (h : (x.toNat : Int) = (y.toNat : Int)) : x = y := BitVec.eq_of_toNat_eq (by omega)
theorem Z51 (x y : W) (h : rowW x = rowW y) : x = y := by
  simp only [rowW, List.cons.injEq, DV.int.injEq, and_true, true_and] at h
  exact W.inj h
theorem Z4t {l : List W} {full : Bool} {kd : IntKind} {n : Int} {k : Delta → Prop} : stepK (evIdxAddr 1 (.d (.list (l.map rowW) full)) (.d (.int kd n))) k ↔ (0 ≤ n ∧ n < l.length) ∧ k ⟨.dptr (rowW (l.getD n.toNat default)) 0, [], []⟩ := stepK_idx_map (fun _ => rfl)
theorem Z24 {l : List W} {i : Nat} {x : W} : (l.map rowW).set i [.int .u64 (x.toNat : Int)] = (l.set i x).map rowW := by rw [List.map_set]; rfl
theorem Z2t {l : List W} {x : W} : l.map rowW ++ [[.int .u64 (x.toNat : Int)]] = (l ++ [x]).map rowW := by simp [rowW]
theorem Z1p {l : List W} : l.map rowW ++ [[.int .u64 0]] = (l ++ [0#64]).map rowW := by simp [rowW]
theorem Z1b {n : Nat} : List.replicate n [DV.int .u64 0] = (List.replicate n 0#64).map rowW := by simp [rowW]
theorem Z4b {l : List W} : (∀ r ∈ l.map rowW, r.length = 1) ↔ True := ⟨fun _ => trivial, fun _ => rows_len (f := rowW) (fun _ => rfl) l⟩
theorem Z3h {l : List W} : (∀ r ∈ List.map (fun x => List.map AV.d x) (l.map rowW), r.length = 1) ↔ True := ⟨fun _ => trivial, fun _ r hr => by
  obtain ⟨x, hx, rfl⟩ := List.mem_map.1 hr
  simpa using rows_len (f := rowW) (sz := 1) (fun _ => rfl) l x hx⟩
theorem Z17 {l : List W} : (∀ r ∈ l.map rowW, ∀ x ∈ r, DV.scal x = true) ↔ True := ⟨fun _ => trivial, fun _ r hr x hx => by
  obtain ⟨n, _, rfl⟩ := List.mem_map.1 hr; simp [rowW] at hx; subst hx; rfl⟩
theorem Z15 : (default : W) = 0#64 := rfl

/-- Not by 'rfl': the kernel would reckon the number out. -/
theorem Z06 {n : Nat} : ((n : Nat) : Int).toNat = n := by omega
theorem Z0v {len sz : Nat} {cs : List DV} {j : Nat} {kd : IntKind} {n : Int} : evIdxArrAddr len sz (.dptr cs j) (.d (.int kd n)) = .v (0 ≤ n ∧ n < len) (.dptr cs (j + n.toNat * sz)) := rfl
theorem Z13 {len sz id sz0 row j : Nat} {kd : IntKind} {n : Int} : evIdxArrAddr len sz (.ptr id sz0 row j) (.d (.int kd n)) = .v (0 ≤ n ∧ n < len) (.ptr id sz0 row (j + n.toNat * sz)) := rfl

def rowB (b : Bool) : List DV := [.bool b]
theorem Z2u {n : Nat} : List.replicate n [DV.bool false] = (List.replicate n false).map rowB := by simp [rowB]
theorem Z2v {l : List Bool} {i : Nat} {b : Bool} : (l.map rowB).set i [.bool b] = (l.set i b).map rowB := by rw [List.map_set]; rfl
def rowN (x : Nat) : List DV := [.int .i64 (x : Int)]
/-! ### Operations -/
theorem wlt (x : W) : x.toNat < 18446744073709551616 := x.isLt
theorem bits_u64 : IntKind.u64.bits = 64 := rfl
theorem wrap_w {n : Int} : IntKind.u64.wrap n = ((BitVec.ofInt 64 n).toNat : Int) := by
  rw [IntKind.wrap_u64]
  simp [BitVec.toNat_ofInt]
  omega
theorem ofInt_w (x : W) : BitVec.ofInt 64 (x.toNat : Int) = x := by
  apply BitVec.eq_of_toNat_eq
  simp [BitVec.toNat_ofInt]
theorem w_or {x y : W} : bits .or .u64 (x.toNat : Int) (y.toNat : Int) = ((x ||| y).toNat : Int) := by
  rw [bits_or_u64_nat _ _ (wlt x) (wlt y), BitVec.toNat_or]
theorem Z4r {x y : W} : bits .and .u64 (x.toNat : Int) (y.toNat : Int) = ((x &&& y).toNat : Int) := by
  rw [bits_and_u64_nat _ _ (wlt x) (wlt y), BitVec.toNat_and]
theorem Z2r {x y : W} : bits .andNot .u64 (x.toNat : Int) (y.toNat : Int) = ((x &&& ~~~y).toNat : Int) := by
  unfold bits
  simp only [bits_u64, ofInt_w]
  rw [wrap_w, ofInt_w]
  rfl
theorem Z45 {x : W} : bits .and .u64 (x.toNat : Int) 1 = ((x &&& 1#64).toNat : Int) := Z4r (y := 1#64)
theorem Z50 {x : W} {k : Nat} : IntKind.u64.wrap ((x.toNat : Int) * 2 ^ min k IntKind.u64.bits) = ((x <<< k).toNat : Int) := by
  rw [IntKind.wrap_u64, bits_u64]
  have e : ((x.toNat : Int) * 2 ^ min k 64) = ((x.toNat * 2 ^ min k 64 : Nat) : Int) := by push_cast; rfl
  rw [e, BitVec.toNat_shiftLeft, Nat.shiftLeft_eq]
  by_cases h : k ≤ 64
  · rw [Nat.min_eq_left h]; omega
  · rw [Nat.min_eq_right (by omega)]
    have h2 : x.toNat * 2 ^ k = x.toNat * 2 ^ (k - 64) * 2 ^ 64 := by rw [Nat.mul_assoc, ← Nat.pow_add]; congr 2; omega
    rw [h2]
    have h3 : x.toNat * 2 ^ (k - 64) * 2 ^ 64 % 2 ^ 64 = 0 := Nat.mul_mod_left _ _
    have h4 : x.toNat * 2 ^ 64 % 2 ^ 64 = 0 := Nat.mul_mod_left _ _
    omega
theorem Z42 {k : Nat} : IntKind.u64.wrap (1 * 2 ^ min k IntKind.u64.bits) = ((1#64 <<< k).toNat : Int) := Z50 (x := 1#64)
theorem Z4s {x : W} {k : Nat} : Int.fdiv (x.toNat : Int) (2 ^ min k IntKind.u64.bits) = ((x >>> k).toNat : Int) := by
  rw [bits_u64, BitVec.toNat_ushiftRight, Nat.shiftRight_eq_div_pow]
  have e : ((2 : Int) ^ min k 64) = ((2 ^ min k 64 : Nat) : Int) := by push_cast; rfl
  rw [e, ← Int.ofNat_fdiv]
  congr 1
  by_cases h : k ≤ 64
  · rw [Nat.min_eq_left h]
  · rw [Nat.min_eq_right (by omega)]
    have h1 : x.toNat / 2 ^ 64 = 0 := Nat.div_eq_of_lt x.isLt
    rw [h1]
    exact (Nat.div_eq_of_lt (Nat.lt_of_lt_of_le x.isLt (Nat.pow_le_pow_right (by omega) (by omega)))).symm
theorem Z47 {x : W} : IntKind.u64.wrap ((x.toNat : Int) - 1) = ((x - 1#64).toNat : Int) := by
  rw [IntKind.wrap_u64, BitVec.toNat_sub]
  have h1 : (1#64).toNat = 1 := rfl
  have h2 := wlt x
  rw [h1]
  omega
theorem Z4y {x y : W} : IntKind.u64.wrap ((x.toNat : Int) + (y.toNat : Int)) = ((x + y).toNat : Int) := by
  rw [IntKind.wrap_u64, BitVec.toNat_add]
  omega
theorem Z4z {x : W} : IntKind.u64.wrap (0 - (x.toNat : Int)) = ((-x).toNat : Int) := by
  rw [IntKind.wrap_u64, BitVec.toNat_neg]
  have h2 := wlt x
  omega
theorem w_mulC {x : W} : IntKind.u64.wrap ((x.toNat : Int) * 285870213051353865) = ((x * 285870213051353865#64).toNat : Int) := by
  have e : ((x.toNat : Int) * 285870213051353865) = ((x.toNat * 285870213051353865 : Nat) : Int) := (Int.natCast_mul _ _).symm
  have h1 : (285870213051353865#64).toNat = 285870213051353865 := by decide
  rw [IntKind.wrap_u64, BitVec.toNat_mul, e, h1]
  generalize x.toNat * 285870213051353865 = n
  omega
theorem w_eq {x y : W} : ((x.toNat : Int) = (y.toNat : Int)) = (x = y) := propext ⟨W.inj, fun h => by rw [h]⟩
theorem Z4v {x : W} : ((x.toNat : Int) = 0) = (x = 0#64) := w_eq (y := 0#64)
theorem Z4w {x : W} : ((x.toNat : Int) = 1) = (x = 1#64) := w_eq (y := 1#64)
theorem Z4u {x : W} {k : Nat} : (x >>> k &&& 1#64 = 1#64) = (x.getLsbD k = true) := by
  apply propext
  constructor
  · intro h
    have := congrArg (fun y : W => y.getLsbD 0) h
    simpa using this
  · intro h
    apply BitVec.eq_of_getLsbD_eq
    intro i hi
    cases i with
    | zero => simpa using h
    | succ i => simp [BitVec.getLsbD_one]
theorem wrapU {k : Nat} (h : k < 18446744073709551616) : IntKind.u64.wrap (k : Int) = (k : Int) := by rw [IntKind.wrap_u64]; omega
/-! ### Sets of bits -/
def ofB : (Nat → Bool) → Nat → W
  | _, 0 => 0#64
  | q, n + 1 => ofB q n ||| (if q n then BitVec.twoPow 64 n else 0#64)
theorem get_ofB (q : Nat → Bool) : ∀ (n k : Nat), (ofB q n).getLsbD k = (decide (k < n) && decide (k < 64) && q k) := by
  intro n
  induction n with
  | zero => intro k; simp [ofB]
  | succ n ih =>
    intro k
    simp only [ofB, BitVec.getLsbD_or, ih]
    by_cases h : k = n
    · subst h
      cases hq : q k <;> simp [BitVec.getLsbD_twoPow]
    · have e1 : decide (k < n + 1) = decide (k < n) := by simp; omega
      rw [e1]
      split
      · rw [BitVec.getLsbD_twoPow]
        have : ¬ n = k := fun e => h e.symm
        simp [this]
      · simp
theorem W.ext {x y : W} (h : ∀ k, k < 64 → x.getLsbD k = y.getLsbD k) : x = y := BitVec.eq_of_getLsbD_eq h
theorem getLsb_ge {x : W} {k : Nat} (h : 64 ≤ k) : x.getLsbD k = false := BitVec.getLsbD_of_ge x k h
theorem ofB_congr {p q : Nat → Bool} {n : Nat} (h : ∀ k, k < n → k < 64 → p k = q k) : ofB p n = ofB q n := W.ext fun k hk => by
  rw [get_ofB, get_ofB]
  by_cases hn : k < n
  · rw [h k hn hk]
  · simp [hn]

/-- The place of the least bit. -/
def tz (x : W) : Nat := ((List.range 64).find? fun t => x.getLsbD t).getD 64
theorem tz_spec {x : W} (h : x ≠ 0#64) : tz x < 64 ∧ x.getLsbD (tz x) = true ∧ ∀ j, j < tz x → x.getLsbD j = false := by
  unfold tz
  cases hf : (List.range 64).find? fun t => x.getLsbD t with
  | none =>
    exfalso
    apply h
    apply W.ext
    intro k hk
    have := List.find?_eq_none.1 hf k (by simpa using hk)
    simpa using this
  | some t =>
    obtain ⟨h1, h2⟩ := List.find?_eq_some_iff_append.1 hf
    obtain ⟨as, bs, h3, h4⟩ := h2
    have hl : as = List.range as.length ∧ t = as.length := by
      have hlen : as.length < 64 := by
        have := congrArg List.length h3
        simp at this; omega
      have e := congrArg (List.take as.length) h3
      rw [List.take_left, List.take_range, Nat.min_eq_left (by omega)] at e
      have e2 := congrArg (fun l => l[as.length]?) h3
      simp only [List.getElem?_append_right (Nat.le_refl _), Nat.sub_self, List.getElem?_cons_zero] at e2
      rw [List.getElem?_range hlen] at e2
      exact ⟨e.symm, (Option.some.inj e2).symm⟩
    obtain ⟨hl, rfl⟩ := hl
    have hlen : as.length < 64 := by
      have := congrArg List.length h3
      simp at this; omega
    refine ⟨hlen, h1, fun j hj => ?_⟩
    have : j ∈ as := by rw [hl]; simpa using hj
    have := h4 j this
    simpa using this
theorem tz_zero : tz 0#64 = 64 := by decide
theorem tz_low {x : W} (h : x ≠ 0#64) : x &&& -x = BitVec.twoPow 64 (tz x) := by
  obtain ⟨h1, h2, h3⟩ := tz_spec h
  apply W.ext
  intro k hk
  rw [BitVec.getLsbD_and, BitVec.getLsbD_neg, BitVec.getLsbD_twoPow]
  by_cases e : tz x = k
  · rw [← e]
    have hno : ¬ ∃ j, j < tz x ∧ x.getLsbD j = true := fun ⟨j, hj, hj2⟩ => by rw [h3 j hj] at hj2; cases hj2
    simp [h1, h2, hno]
  · rw [decide_eq_false e, Bool.and_false]
    rcases Nat.lt_or_ge k (tz x) with hl | hl
    · rw [h3 k hl]; rfl
    · have hyes : ∃ j, j < k ∧ x.getLsbD j = true := ⟨tz x, by omega, h2⟩
      simp [hyes, hk]
/-- The bits without the least one. -/
theorem tz_rest {x : W} (h : x ≠ 0#64) (k : Nat) : (x &&& (x - 1#64)).getLsbD k = (x.getLsbD k && !decide (k = tz x)) := by
  obtain ⟨h1, h2, h3⟩ := tz_spec h
  by_cases hk : k < 64
  · rw [← BitVec.not_neg, BitVec.getLsbD_and, BitVec.getLsbD_not, BitVec.getLsbD_neg]
    by_cases e : k = tz x
    · subst e
      have hno : ¬ ∃ j, j < tz x ∧ x.getLsbD j = true := fun ⟨j, hj, hj2⟩ => by rw [h3 j hj] at hj2; cases hj2
      simp [hk, h2, hno]
    · rcases Nat.lt_or_ge k (tz x) with hl | hl
      · rw [h3 k hl]; rfl
      · have hyes : ∃ j, j < k ∧ x.getLsbD j = true := ⟨tz x, by omega, h2⟩
        simp [hyes, hk, e]
  · rw [getLsb_ge (by omega), getLsb_ge (by omega)]; rfl
theorem tz_less {x : W} (h : x ≠ 0#64) : (x &&& (x - 1#64)).toNat < x.toNat := by
  have h0 : 0 < x.toNat := by
    rcases Nat.eq_zero_or_pos x.toNat with h' | h'
    · exact absurd (BitVec.eq_of_toNat_eq h') h
    · exact h'
  have e : (x - 1#64).toNat = x.toNat - 1 := by
    rw [BitVec.toNat_sub]
    have := x.isLt
    simp; omega
  have := Nat.and_le_right (n := x.toNat) (m := (x - 1#64).toNat)
  rw [BitVec.toNat_and]; omega

theorem has_rowW {r : List DV} (h : (Sh.int .u64).has r) : ∃ x : W, r = rowW x ∧ True := by
  obtain ⟨n, rfl, h1, h2⟩ := has_u64 h
  refine ⟨BitVec.ofNat 64 n.toNat, ?_, trivial⟩
  unfold rowW
  have e : ((BitVec.ofNat 64 n.toNat).toNat : Int) = n := by
    rw [BitVec.toNat_ofNat]; omega
  rw [e]
end Go.Ago

/- The contracts of package rat. Conditions: none. -/
set_option maxRecDepth 100000
set_option linter.unusedSimpArgs false
set_option linter.unusedVariables false
namespace Go.Ago

theorem wrap_id {n : Int} (h : -9223372036854775808 ≤ n) (h' : n ≤ 9223372036854775807) : IntKind.wrap .i64 n = n := by
  simp [IntKind.wrap, IntKind.signed, IntKind.bits]
  split <;> omega

end Go.Ago

/- The contracts of package act and of its reference. Conditions: none. -/
set_option maxRecDepth 100000
set_option linter.unusedSimpArgs false
set_option linter.unusedVariables false
namespace Go.Ago

theorem clone_end {sz bytes : Nat} {l : List (List DV)} (h1 : ∀ r ∈ l, r.length = sz) (h2 : roomy l.length bytes) : (((∀ (r : List AV), r ∈ List.map (fun x => List.map AV.d x) l → r.length = sz) ∧ roomy l.length bytes) ∧
      RetRows sz l (AV.ref 0 sz 0 l.length true) [HO.dvec sz l]) ∧
    (l.length = 0 → RetRows sz l (AV.d (DV.list [] true)) []) :=
  ⟨⟨⟨fun r h => by
      obtain ⟨x, hx, rfl⟩ := List.mem_map.1 h
      simpa using h1 x hx, h2⟩, .inl ⟨0, true, rfl, rfl⟩⟩, fun h => .inr ⟨List.eq_nil_of_length_eq_zero h, rfl⟩⟩

theorem Z4l {i n : Nat} (h : i < n) (hn : n ≤ maxLen) : IntKind.i64.wrap ((i : Int) + 1) = ((i + 1 : Nat) : Int) := by
  have hm : maxLen = 9223372036854775807 := rfl
  rw [wrap_id (by omega) (by omega)]; omega

theorem take_next {α : Type} {a b : List α} {i : Nat} {d : α} (h2 : a.take i = b.take i) (h3 : i < a.length) (h4 : i < b.length) (h5 : a.getD i d = b.getD i d) : a.take (i + 1) = b.take (i + 1) := by
  rw [getD_lt h3, getD_lt h4] at h5
  rw [List.take_add_one, List.take_add_one, h2, List.getElem?_eq_getElem h3, List.getElem?_eq_getElem h4, h5]
theorem take_all {α : Type} {a b : List α} (h : a.take a.length = b.take a.length) (hl : a.length = b.length) : a = b := by
  rw [List.take_length, hl, List.take_length] at h; exact h

/-- Are two lists the same? -/
def sp_same {α : Type} [DecidableEq α] (row : α → List DV) : Sp := ⟨List α × Bool × List α × Bool, fun x => [.d (.list (x.1.map row) x.2.1), .d (.list (x.2.2.1.map row) x.2.2.2)], fun x => .data (x.1.length ≤ maxLen) (.d (.bool (decide (x.1 = x.2.2.1)))) true⟩
theorem at_same {α : Type} [DecidableEq α] {row : α → List DV} (hr : ∀ x y, row x = row y → x = y) (a b : List α) (f g : Bool) : (sp_same row).at [.d (.list (a.map row) f), .d (.list (b.map row) g)] = .data (a.length ≤ maxLen) (.d (.bool (decide (a = b)))) true :=
  Sp.at_enc (s := sp_same row) (fun x y h => by
    obtain ⟨a, b, c, d⟩ := x; obtain ⟨a', b', c', d'⟩ := y
    simp only [sp_same, List.cons.injEq, AV.d.injEq, DV.list.injEq, and_true] at h
    obtain ⟨⟨h1, h2⟩, h3, h4⟩ := h
    rw [Z4n hr h1, h2, Z4n hr h3, h4]) (a, f, b, g)
end Go.Ago

/- Contracts of package rel: its small functions, and two relations laid together. Conditions: none. -/
set_option maxRecDepth 100000
set_option linter.unusedSimpArgs false
set_option linter.unusedVariables false
namespace Go.Ago

/-! ### Relations -/
def szR (R : List W) : Nat := min R.length 64
def hasN (R : List W) (i k : Nat) : Bool := decide (i < szR R) && decide (k < szR R) && (R.getD i 0#64).getLsbD k
def hasI (R : List W) (i k : Int) : Bool := decide (0 ≤ i) && decide (0 ≤ k) && hasN R i.toNat k.toNat
def rowG (R : List W) (i : Nat) : W := ofB (hasN R i) 64
def mkR (n : Nat) (p : Nat → Nat → Bool) : List W := (List.range n).map fun i => ofB (p i) n
theorem szR_le (R : List W) : szR R ≤ 64 := Nat.min_le_right _ _
theorem szR_len (R : List W) : szR R ≤ R.length := Nat.min_le_left _ _
theorem hasN_lt {R : List W} {i k : Nat} (h : hasN R i k = true) : i < szR R ∧ k < szR R := by
  simp only [hasN, Bool.and_eq_true, decide_eq_true_eq] at h; exact h.1
theorem get_rowG {R : List W} {i k : Nat} : (rowG R i).getLsbD k = hasN R i k := by
  unfold rowG
  rw [get_ofB]
  by_cases h : hasN R i k = true
  · have := (hasN_lt h).2
    have := szR_le R
    rw [h]; simp; omega
  · simp [h]
theorem Z53 {n : Nat} {p : Nat → Nat → Bool} : (mkR n p).length = n := by simp [mkR]
theorem mkR_get {n : Nat} {p : Nat → Nat → Bool} {i k : Nat} (hi : i < n) : ((mkR n p).getD i 0#64).getLsbD k = (decide (k < n) && decide (k < 64) && p i k) := by
  rw [List.getD_eq_getElem?_getD, mkR, List.getElem?_map, List.getElem?_range hi]
  exact get_ofB _ _ _
theorem mkR_ext {n : Nat} {p : Nat → Nat → Bool} {l : List W} (hl : l.length = n) (h : ∀ i k, i < n → k < 64 → (l.getD i 0#64).getLsbD k = (decide (k < n) && p i k)) : l = mkR n p := by
  apply List.ext_getElem (by rw [hl, Z53])
  intro i h1 h2
  apply W.ext
  intro k hk
  have e1 := h i k (by omega) hk
  have e2 := mkR_get (n := n) (p := p) (i := i) (k := k) (by omega)
  rw [List.getD_eq_getElem?_getD, List.getElem?_eq_getElem h1, Option.getD_some] at e1
  rw [List.getD_eq_getElem?_getD, List.getElem?_eq_getElem h2, Option.getD_some] at e2
  rw [e1, e2]
  simp [hk]
theorem szR_mk {n : Nat} {p : Nat → Nat → Bool} : szR (mkR n p) = min n 64 := by simp [szR, Z53]
theorem hasN_mk {n : Nat} {p : Nat → Nat → Bool} {i k : Nat} (hn : n ≤ 64) : hasN (mkR n p) i k = (decide (i < n) && decide (k < n) && p i k) := by
  unfold hasN
  rw [szR_mk, Nat.min_eq_left hn]
  by_cases hi : i < n
  · rw [mkR_get hi]
    by_cases hk : k < n
    · simp [hi, hk]; omega
    · simp [hk]
  · simp [hi]
theorem Z4h {n : Nat} {p q : Nat → Nat → Bool} (h : ∀ i k, i < n → k < n → p i k = q i k) : mkR n p = mkR n q := by
  apply mkR_ext Z53
  intro i k hi hk
  rw [mkR_get hi]
  by_cases hkn : k < n
  · rw [h i k hi hkn]; simp [hk]
  · simp [hkn]

/-! ### size, all, row, Has -/
def sp_size : Sp := ⟨List W × Bool, fun x => [.d (.list (x.1.map rowW) x.2)], fun x => .data (x.1.length ≤ maxLen) (.d (.int .i64 (szR x.1))) true⟩
theorem at_size (l : List W) (f : Bool) : sp_size.at [.d (.list (l.map rowW) f)] = .data (l.length ≤ maxLen) (.d (.int .i64 (szR l))) true :=
  Sp.at_enc (s := sp_size) (fun x y h => by
    obtain ⟨a, b⟩ := x; obtain ⟨a', b'⟩ := y
    simp only [sp_size, List.cons.injEq, AV.d.injEq, DV.list.injEq, and_true] at h
    rw [Z4n Z51 h.1, h.2]) (l, f)
theorem body_rel_size {T : Tab} : sp_size.Body T V_rel_size L_rel_size R_rel_size := by
  rintro ⟨l, f⟩ h
  refine .inl ⟨rfl, ?_⟩
  unfold V_rel_size L_rel_size R_rel_size
  simp only [↓Z2b, ↓Z05, ↓Z20, ↓Z12, ↓Z1z, ↓Z1y, ↓Z3m, Z4d, Z0a, Z32, Z35, evN, Z1x, Z34, Z1w, Z1v, evT, Opd.ev, Z04, Z01, Z33, Z22, Z14, Z3r, LOp.isNew, State.prune, Z4o, List.length_map, resQ, resV, resT, Z3u, RetS, AV.d.injEq, DV.int.injEq, ↓reduceIte, Nat.reduceBEq, List.length_nil, List.replicate_zero, List.append_nil, List.map_cons, List.map_nil, true_and, Nat.add_zero, Bool.false_eq_true, sp_size]
  unfold szR
  split <;> omega

def allB (n : Nat) : W := ofB (fun _ => true) n
theorem get_allB {n k : Nat} : (allB n).getLsbD k = (decide (k < n) && decide (k < 64)) := by unfold allB; rw [get_ofB]; simp
theorem allB_sub {n : Nat} (h : n < 64) : (1#64 <<< n) - 1#64 = allB n := by
  apply W.ext
  intro k hk
  rw [get_allB, BitVec.getLsbD]
  have e : ((1#64 <<< n) - 1#64).toNat = 2 ^ n - 1 := by
    have h1 : (1#64 <<< n).toNat = 2 ^ n := by
      rw [BitVec.toNat_shiftLeft, Nat.shiftLeft_eq]
      have : 2 ^ n < 2 ^ 64 := Nat.pow_lt_pow_right (by omega) h
      have e1 : (1#64).toNat = 1 := rfl
      rw [e1, Nat.one_mul]; exact Nat.mod_eq_of_lt this
    have h2 : (1#64).toNat = 1 := rfl
    rw [BitVec.toNat_sub, h1, h2]
    have : 2 ^ n < 2 ^ 64 := Nat.pow_lt_pow_right (by omega) h
    have : 0 < 2 ^ n := Nat.pow_pos (by omega)
    omega
  rw [e, Nat.testBit_two_pow_sub_one]
  simp [hk]
def sp_all : Sp := ⟨Int, fun n => [.d (.int .i64 n)], fun n => .data (0 ≤ n ∧ n ≤ 64) (.d (.int .u64 ((allB n.toNat).toNat : Int))) true⟩
theorem at_all (n : Int) : sp_all.at [.d (.int .i64 n)] = .data (0 ≤ n ∧ n ≤ 64) (.d (.int .u64 ((allB n.toNat).toNat : Int))) true :=
  Sp.at_enc (s := sp_all) (fun (x y : Int) h => by simpa [sp_all] using h) n
theorem body_rel_all {T : Tab} : sp_all.Body T V_rel_all L_rel_all R_rel_all := by
  rintro (n : Int) ⟨h1, h2⟩
  have h1 : 0 ≤ n := h1
  have h2 : n ≤ 64 := h2
  obtain ⟨n, rfl⟩ := Int.eq_ofNat_of_zero_le h1
  refine .inl ⟨rfl, ?_⟩
  unfold V_rel_all L_rel_all R_rel_all
  simp only [↓Z1d, ↓Z2b, ↓Z05, ↓Z20, ↓Z1c, ↓Z12, ↓Z1z, ↓Z30, ↓Z1y, ↓Z3m, ↓Z0h, Z4d, Z0a, Z32, Z35, evN, Z1x, Z34, Z1w, Z1v, Z2x, evT, Opd.ev, Z04, Z01, Z33, Z2w, Z2y, Z22, Z14, Z3r, LOp.isNew, State.prune, Z42, Z47, w_eq, Z06, Z4g, binT, binQ, resQ, resV, resT, Z25, RetS, AV.d.injEq, DV.int.injEq, ↓reduceIte, Nat.reduceBEq, List.length_nil, List.replicate_zero, List.append_nil, List.map_cons, List.map_nil, true_and, Nat.add_zero, Bool.false_eq_true, sp_all, wrapU (k := n) (by omega)]
  refine ⟨fun h => ?_, fun h => ⟨by omega, ?_⟩⟩
  · have : n = 64 := by omega
    subst this
    decide
  · rw [allB_sub (by omega)]

def sp_row : Sp := ⟨List W × Bool × Int, fun x => [.d (.list (x.1.map rowW) x.2.1), .d (.int .i64 x.2.2)], fun x => .data (0 ≤ x.2.2 ∧ x.1.length ≤ maxLen) (.d (.int .u64 ((rowG x.1 x.2.2.toNat).toNat : Int))) true⟩
theorem at_row (l : List W) (f : Bool) (i : Int) : sp_row.at [.d (.list (l.map rowW) f), .d (.int .i64 i)] = .data (0 ≤ i ∧ l.length ≤ maxLen) (.d (.int .u64 ((rowG l i.toNat).toNat : Int))) true :=
  Sp.at_enc (s := sp_row) (fun x y h => by
    obtain ⟨a, b, c⟩ := x; obtain ⟨a', b', c'⟩ := y
    simp only [sp_row, List.cons.injEq, AV.d.injEq, DV.list.injEq, DV.int.injEq, and_true, true_and] at h
    rw [Z4n Z51 h.1.1, h.1.2, h.2]) (l, f, i)
theorem row_and {R : List W} {i : Nat} (h : i < szR R) : R.getD i 0#64 &&& allB (szR R) = rowG R i := by
  apply W.ext
  intro k hk
  rw [BitVec.getLsbD_and, get_allB, get_rowG]
  unfold hasN
  simp only [h, decide_true, Bool.true_and, hk, Bool.and_true]
  rw [Bool.and_comm]
theorem row_out {R : List W} {i : Nat} (h : ¬ i < szR R) : rowG R i = 0#64 := by
  apply W.ext
  intro k hk
  rw [get_rowG]
  unfold hasN
  simp [h]
theorem body_rel_row {T : Tab} {n1 n2 : Nat} (k1 : Knows T n1 sp_size) (k2 : Knows T n2 sp_all) : sp_row.Body T V_rel_row (L_rel_row n1 n2) R_rel_row := by
  have F1 := k1.F; have G1 := k1.G; have F2 := k2.F; have G2 := k2.G
  rintro ⟨l, f, i⟩ ⟨h1, h2⟩
  have h1 : 0 ≤ i := h1
  have h2 : l.length ≤ maxLen := h2
  have := szR_le l
  have := szR_len l
  obtain ⟨i, rfl⟩ := Int.eq_ofNat_of_zero_le h1
  refine .inl ⟨rfl, ?_⟩
  unfold V_rel_row L_rel_row R_rel_row
  simp only [↓Z1d, ↓Z2b, ↓Z05, ↓Z20, ↓Z1c, ↓Z12, ↓Z1z, ↓Z30, ↓Z1y, ↓Z3m, ↓Z0h, Z4d, Z0a, Z18, Z32, Z35, evN, Z2s, Z1x, Z34, Z41, Z1w, Z19, Z1v, Z2x, evT, Opd.ev, Z04, Z01, Z33, Z2w, Z2y, Z22, Z14, Z3r, LOp.isNew, State.prune, Z08, Z4t, rowW, Z15, Z4r, w_eq, Z21, Z06, Z4i, Z4g, binT, binQ, chk, Z3t, List.contains_nil, Bool.and_self, resQ, resV, resT, Z2e, Z3l, fnOf, Z3k, Z4f, Z25, RetS, AV.d.injEq, DV.int.injEq, ↓reduceIte, Nat.reduceBEq, List.length_cons, List.length_nil, List.replicate_zero, List.nil_append, List.cons_append, List.append_nil, List.map_cons, List.map_nil, List.all_cons, List.all_nil, List.getD_cons_zero, List.getD_cons_succ, List.flatten_cons, List.flatten_nil, Bool.not_false, true_and, Nat.reduceLT, List.reverse_cons, List.reverse_nil, Nat.zero_add, Nat.add_zero, Bool.false_eq_true, sp_row, F1, G1, F2, G2, at_size, at_all]
  refine ⟨h2, fun h => ⟨⟨by omega, by omega⟩, ⟨by omega, by omega⟩, ?_⟩, fun h => ?_⟩
  · rw [row_and (by omega)]
  · rw [row_out (by omega)]; rfl

def sp_Has : Sp := ⟨List W × Bool × Int × Int, fun x => [.d (.list (x.1.map rowW) x.2.1), .d (.int .i64 x.2.2.1), .d (.int .i64 x.2.2.2)], fun x => .data (x.1.length ≤ maxLen) (.d (.bool (hasI x.1 x.2.2.1 x.2.2.2))) true⟩
theorem at_Has (l : List W) (f : Bool) (i k : Int) : sp_Has.at [.d (.list (l.map rowW) f), .d (.int .i64 i), .d (.int .i64 k)] = .data (l.length ≤ maxLen) (.d (.bool (hasI l i k))) true :=
  Sp.at_enc (s := sp_Has) (fun x y h => by
    obtain ⟨a, b, c, d⟩ := x; obtain ⟨a', b', c', d'⟩ := y
    simp only [sp_Has, List.cons.injEq, AV.d.injEq, DV.list.injEq, DV.int.injEq, and_true, true_and] at h
    rw [Z4n Z51 h.1.1, h.1.2, h.2.1, h.2.2]) (l, f, i, k)
theorem hasI_no {R : List W} {i k : Int} (h : ¬ (0 ≤ i ∧ i < szR R ∧ 0 ≤ k ∧ k < szR R)) : hasI R i k = false := by
  unfold hasI hasN
  by_cases h1 : 0 ≤ i <;> by_cases h2 : 0 ≤ k <;> simp [h1, h2]
  intro h3 h4
  exact absurd ⟨h1, by omega, h2, by omega⟩ h
theorem hasI_nat {R : List W} {i k : Nat} : hasI R i k = hasN R i k := by
  unfold hasI
  simp
theorem body_rel_Has {T : Tab} {n1 : Nat} (k1 : Knows T n1 sp_size) : sp_Has.Body T V_rel_Has (L_rel_Has n1) R_rel_Has := by
  have F1 := k1.F; have G1 := k1.G
  rintro ⟨l, f, i, k⟩ h2
  have h2 : l.length ≤ maxLen := h2
  have := szR_le l
  have := szR_len l
  refine .inl ⟨rfl, ?_⟩
  unfold V_rel_Has L_rel_Has R_rel_Has
  simp only [↓Z2b, ↓Z05, ↓Z20, ↓Z12, ↓Z1z, ↓Z1y, ↓Z3m, ↓Z0j, ↓Z0b, ↓Z0h, Z4d, Z0a, Z32, Z1a, Z35, evN, Z2s, Z1x, Z34, Z1w, Z19, Z1v, Z2a, evT, Opd.ev, Z04, Z01, Z33, Z26, Z2w, Z22, Z14, Z3r, LOp.isNew, State.prune, Z08, Z4t, rowW, Z15, Z45, Z4s, Z4u, Z4w, Bool.decide_eq_true, Z21, Z4i, Z4g, binT, binQ, resQ, resV, resT, Z4q, Z2e, Z3l, fnOf, Z3k, Z4f, Z25, RetS, AV.d.injEq, DV.bool.injEq, ↓reduceIte, Nat.reduceAdd, Nat.reduceBEq, List.length_cons, List.length_nil, List.replicate_zero, List.append_nil, List.map_cons, List.map_nil, List.getD_cons_zero, List.flatten_cons, List.flatten_nil, true_and, Nat.reduceLT, Nat.zero_add, Nat.add_zero, Bool.false_eq_true, sp_Has, F1, G1, at_size]
  refine ⟨h2, fun c1 => ⟨fun c2 => ⟨fun c3 => ⟨fun c4 => ?_, fun c4 => ?_⟩, fun c3 => ?_⟩, fun c2 => ?_⟩, fun c1 => ?_⟩
  · obtain ⟨i, rfl⟩ := Int.eq_ofNat_of_zero_le c1
    obtain ⟨k, rfl⟩ := Int.eq_ofNat_of_zero_le c3
    rw [wrapU (k := k) (by omega)]
    simp only [Z06, Z4s, Z4w, Z4u]
    refine ⟨⟨by omega, by omega⟩, by omega, ?_⟩
    rw [hasI_nat]
    unfold hasN
    rw [decide_eq_true (by omega : i < szR l), decide_eq_true (by omega : k < szR l)]
    simp
  · rw [hasI_no (by omega)]
  · rw [hasI_no (by omega)]
  · rw [hasI_no (by omega)]
  · rw [hasI_no (by omega)]

/-! ### TrailingZeros64 -/
def sp_tz : Sp := ⟨W, fun x => [.d (.int .u64 (x.toNat : Int))], fun x => .data True (.d (.int .i64 (tz x))) true⟩
theorem at_tz (x : W) : sp_tz.at [.d (.int .u64 (x.toNat : Int))] = .data True (.d (.int .i64 (tz x))) true :=
  Sp.at_enc (s := sp_tz) (fun (x y : W) h => by
    simp only [sp_tz, List.cons.injEq, AV.d.injEq, DV.int.injEq, and_true, true_and] at h
    exact W.inj h) x
theorem tab_hit : ∀ t, t < 64 → ((BitVec.twoPow 64 t * 285870213051353865#64) >>> 58).toNat < 64 ∧ tabCells.getD ((BitVec.twoPow 64 t * 285870213051353865#64) >>> 58).toNat .nilp = .int .u8 t := by
  have h1 : ∀ t, t < 64 → ((BitVec.twoPow 64 t * 285870213051353865#64) >>> 58).toNat < 64 ∧ tabNum ((BitVec.twoPow 64 t * 285870213051353865#64) >>> 58).toNat = t := by decide +kernel
  intro t ht
  obtain ⟨h2, h3⟩ := h1 t ht
  refine ⟨h2, ?_⟩
  unfold tabCells
  rw [List.getD_eq_getElem?_getD, List.getElem?_map, List.getElem?_range h2, Option.map_some, Option.getD_some, h3]
/-- As a function that nobody reckons out. -/
theorem mulC_ex : ∃ f : W → W, (∀ x : W, IntKind.u64.wrap ((x.toNat : Int) * 285870213051353865) = ((f x).toNat : Int)) ∧
    ∀ t, t < 64 → (f (BitVec.twoPow 64 t) >>> 58).toNat < 64 ∧ tabCells.getD (f (BitVec.twoPow 64 t) >>> 58).toNat .nilp = .int .u8 t :=
  ⟨fun x => x * 285870213051353865#64, fun x => w_mulC, tab_hit⟩
theorem tabCells_len : tabCells.length = 64 := by simp [tabCells]
theorem body_math_bits_TrailingZeros64 {T : Tab} : sp_tz.Body T V_math_bits_TrailingZeros64 L_math_bits_TrailingZeros64 R_math_bits_TrailingZeros64 := by
  rintro (x : W) -
  refine .inl ⟨rfl, ?_⟩
  obtain ⟨f, hf, hf2⟩ := mulC_ex
  have hl := tabCells_len
  unfold V_math_bits_TrailingZeros64 L_math_bits_TrailingZeros64 R_math_bits_TrailingZeros64
  generalize tabCells = c at *
  simp only [↓Z1d, ↓Z2b, ↓Z05, ↓Z20, ↓Z1c, ↓Z12, ↓Z1z, ↓Z30, ↓Z1y, ↓Z3m, ↓Z0h, Z4d, Z0a, Z32, Z35, evN, Z1x, Z34, Z1w, Z1v, Z2x, evT, Opd.ev, Z04, Z01, Z33, Z2w, Z2y, Z22, Z14, Z3r, LOp.isNew, State.prune, Z08, Z4r, Z4s, Z4z, Z4v, Z21, Z06, Int.reduceToNat, Z4i, Z4g, evUn, Z0v, binT, binQ, resQ, resV, resT, Z25, RetS, AV.d.injEq, DV.int.injEq, ↓reduceIte, Nat.reduceBEq, List.length_nil, List.replicate_zero, List.append_nil, List.map_cons, List.map_nil, true_and, Nat.zero_add, Nat.add_zero, Bool.false_eq_true, Nat.mul_one, sp_tz, hf]
  refine ⟨fun h => by rw [h, tz_zero]; rfl, fun h => ?_⟩
  obtain ⟨h1, -, -⟩ := tz_spec h
  obtain ⟨h3, h4⟩ := hf2 (tz x) h1
  rw [tz_low h, h4]
  simp only [↓Z2b, ↓Z12, ↓Z1z, ↓Z1y, ↓Z3m, Z4d, Z0a, Z32, Z35, evN, Z1x, Z34, Z1w, Z1v, evT, Opd.ev, Z04, Z01, Z33, State.prune, resQ, resV, resT, RetS, AV.d.injEq, DV.int.injEq, Nat.reduceBEq, List.append_nil, List.map_cons, List.map_nil, true_and]
  exact ⟨by omega, ⟨by omega, by omega⟩, by omega, wrap_id (by omega) (by omega)⟩

/-! ### Laid together -/
def sp_h2 (h : W → W → W) : Sp := ⟨W × W, fun x => [.d (.int .u64 (x.1.toNat : Int)), .d (.int .u64 (x.2.toNat : Int))], fun x => .data True (.d (.int .u64 ((h x.1 x.2).toNat : Int))) true⟩
theorem at_h2 (h : W → W → W) (x y : W) : (sp_h2 h).at [.d (.int .u64 (x.toNat : Int)), .d (.int .u64 (y.toNat : Int))] = .data True (.d (.int .u64 ((h x y).toNat : Int))) true :=
  Sp.at_enc (s := sp_h2 h) (fun x y h => by
    obtain ⟨a, b⟩ := x; obtain ⟨c, d⟩ := y
    simp only [sp_h2, List.cons.injEq, AV.d.injEq, DV.int.injEq, and_true, true_and] at h
    rw [W.inj h.1, W.inj h.2]) (x, y)
def orW (x y : W) : W := x ||| y
def andW (x y : W) : W := x &&& y
def minusW (x y : W) : W := x &&& ~~~y
def fstW (x _ : W) : W := x
theorem body_rel_Union_1 {T : Tab} : (sp_h2 orW).Body T V_rel_Union_1 L_rel_Union_1 R_rel_Union_1 := by
  rintro ⟨x, y⟩ -
  refine .inl ⟨rfl, ?_⟩
  unfold V_rel_Union_1 L_rel_Union_1 R_rel_Union_1
  simp only [↓Z2b, ↓Z05, ↓Z20, ↓Z12, ↓Z1z, ↓Z1y, ↓Z3m, Z4d, Z0a, Z32, Z35, evN, Z1x, Z34, Z1w, Z1v, evT, Opd.ev, Z04, Z01, Z33, Z22, Z14, Z3r, LOp.isNew, State.prune, w_or, Z4g, binT, binQ, resQ, resV, resT, RetS, ↓reduceIte, Nat.reduceBEq, List.length_nil, List.replicate_zero, List.append_nil, List.map_cons, List.map_nil, and_self, Nat.zero_add, Nat.add_zero, Bool.false_eq_true, sp_h2, orW]
theorem body_rel_Inter_1 {T : Tab} : (sp_h2 andW).Body T V_rel_Inter_1 L_rel_Inter_1 R_rel_Inter_1 := by
  rintro ⟨x, y⟩ -
  refine .inl ⟨rfl, ?_⟩
  unfold V_rel_Inter_1 L_rel_Inter_1 R_rel_Inter_1
  simp only [↓Z2b, ↓Z05, ↓Z20, ↓Z12, ↓Z1z, ↓Z1y, ↓Z3m, Z4d, Z0a, Z32, Z35, evN, Z1x, Z34, Z1w, Z1v, evT, Opd.ev, Z04, Z01, Z33, Z22, Z14, Z3r, LOp.isNew, State.prune, Z4r, Z4g, binT, binQ, resQ, resV, resT, RetS, ↓reduceIte, Nat.reduceBEq, List.length_nil, List.replicate_zero, List.append_nil, List.map_cons, List.map_nil, and_self, Nat.zero_add, Nat.add_zero, Bool.false_eq_true, sp_h2, andW]
theorem body_rel_Minus_1 {T : Tab} : (sp_h2 minusW).Body T V_rel_Minus_1 L_rel_Minus_1 R_rel_Minus_1 := by
  rintro ⟨x, y⟩ -
  refine .inl ⟨rfl, ?_⟩
  unfold V_rel_Minus_1 L_rel_Minus_1 R_rel_Minus_1
  simp only [↓Z2b, ↓Z05, ↓Z20, ↓Z12, ↓Z1z, ↓Z1y, ↓Z3m, Z4d, Z0a, Z32, Z35, evN, Z1x, Z34, Z1w, Z1v, evT, Opd.ev, Z04, Z01, Z33, Z22, Z14, Z3r, LOp.isNew, State.prune, Z2r, Z4g, binT, binQ, resQ, resV, resT, RetS, ↓reduceIte, Nat.reduceBEq, List.length_nil, List.replicate_zero, List.append_nil, List.map_cons, List.map_nil, and_self, Nat.zero_add, Nat.add_zero, Bool.false_eq_true, sp_h2, minusW]
theorem body_rel_Plus_1 {T : Tab} : (sp_h2 fstW).Body T V_rel_Plus_1 L_rel_Plus_1 R_rel_Plus_1 := by
  rintro ⟨x, y⟩ -
  refine .inl ⟨rfl, ?_⟩
  unfold V_rel_Plus_1 L_rel_Plus_1 R_rel_Plus_1
  simp only [↓Z2b, ↓Z05, ↓Z20, ↓Z12, ↓Z1z, ↓Z1y, ↓Z3m, Z4d, Z0a, Z32, Z35, evN, Z1x, Z34, Z1w, Z1v, evT, Opd.ev, Z04, Z01, Z33, Z22, Z14, Z3r, LOp.isNew, State.prune, resQ, resV, resT, RetS, ↓reduceIte, Nat.reduceBEq, List.length_nil, List.replicate_zero, List.append_nil, List.map_cons, List.map_nil, and_self, Nat.zero_add, Nat.add_zero, Bool.false_eq_true, sp_h2, fstW]

def mxR (A B : List W) : Nat := max (szR A) (szR B)
theorem mxR_le (A B : List W) : mxR A B ≤ 64 := by have := szR_le A; have := szR_le B; unfold mxR; omega
def layG (h : W → W → W) (A B : List W) : List W := (List.range (mxR A B)).map fun i => h (rowG A i) (rowG B i)
theorem layG_len {h : W → W → W} {A B : List W} : (layG h A B).length = mxR A B := by simp [layG]
def layOut (h : W → W → W) (A B : List W) : SpecR := .rows (A.length ≤ maxLen ∧ B.length ≤ maxLen) 1 ((layG h A B).map rowW)
/-- Told by the number of the function that is handed over. -/
def sp_lay (hs : Nat → Option (W → W → W)) : Sp := ⟨List W × Bool × List W × Bool × Nat, fun x => [.d (.list (x.1.map rowW) x.2.1), .d (.list (x.2.2.1.map rowW) x.2.2.2.1), .d (.fn x.2.2.2.2)],
  fun x => match hs x.2.2.2.2 with | some h => layOut h x.1 x.2.2.1 | none => .none⟩
theorem at_lay {hs : Nat → Option (W → W → W)} {g : Nat} {h : W → W → W} (hg : hs g = some h) (A B : List W) (e f : Bool) : (sp_lay hs).at [.d (.list (A.map rowW) e), .d (.list (B.map rowW) f), .d (.fn g)] = layOut h A B := by
  rw [show [AV.d (.list (A.map rowW) e), AV.d (.list (B.map rowW) f), AV.d (.fn g)] = (sp_lay hs).enc (A, e, B, f, g) from rfl]
  rw [Sp.at_enc (s := sp_lay hs) (fun x y h => by
    obtain ⟨a, b, c, d, e⟩ := x; obtain ⟨a', b', c', d', e'⟩ := y
    simp only [sp_lay, List.cons.injEq, AV.d.injEq, DV.list.injEq, DV.fn.injEq, and_true, true_and] at h
    rw [Z4n Z51 h.1.1, h.1.2, Z4n Z51 h.2.1.1, h.2.1.2, h.2.2]) (A, e, B, f, g)]
  simp only [sp_lay, hg]

theorem set_map_range {n i : Nat} {f : Nat → W} (h : i < n) : ((List.range i).map f ++ List.replicate (n - i) 0#64).set i (f i) = (List.range (i + 1)).map f ++ List.replicate (n - (i + 1)) 0#64 := by
  have e : List.replicate (n - i) 0#64 = 0#64 :: List.replicate (n - (i + 1)) 0#64 := by rw [← List.replicate_succ]; congr 1; omega
  rw [e, List.range_succ, List.map_append, List.append_assoc]
  have hl : ((List.range i).map f).length = i := by simp
  have := List.set_append_right (s := (List.range i).map f) (t := 0#64 :: List.replicate (n - (i + 1)) 0#64) i (f i) (by omega)
  rw [this, hl, Nat.sub_self]; rfl

theorem lay_body {T : Tab} {n1 n2 g : Nat} {h : W → W → W} (k1 : Knows T n1 sp_size) (k2 : Knows T n2 sp_row) (k3 : Knows T g (sp_h2 h)) (A B : List W) (e f : Bool) :
    (layOut h A B).asks fun Post => vck T 0 V_rel_lay (L_rel_lay n1 n2) ⟨Z22 0 [.d (.list (A.map rowW) e), .d (.list (B.map rowW) f), .d (.fn g)], []⟩ (retK R_rel_lay Post) := by
  have F1 := k1.F; have G1 := k1.G; have F2 := k2.F; have G2 := k2.G; have F3 := k3.F; have G3 := k3.G
  rintro ⟨h1, h2⟩
  refine ⟨rows_len (f := rowW) (fun _ => rfl) _, ?_⟩
  unfold V_rel_lay L_rel_lay R_rel_lay
  simp only [↓Z05, ↓Z20, ↓Z0i, ↓Z1u, ↓Z12, ↓Z1z, ↓Z1y, Z4d, Z0a, Z32, Z35, evN, Z2s, Z1x, Z34, Z1w, Z19, Z1v, evT, Opd.ev, Z04, Z01, Z33, Z3o, Z22, Z14, Z3r, LOp.isNew, State.prune, Z1b, Z4o, Z0k, Z4m, evMk, Z2e, Z3l, fnOf, Z3k, Z4f, Z3u, Z25, ↓reduceIte, Nat.reduceAdd, Nat.reduceBEq, List.length_cons, List.length_nil, List.replicate_succ, List.replicate_zero, List.nil_append, List.append_nil, List.map_cons, List.map_nil, List.set_cons_zero, List.flatten_cons, List.flatten_nil, true_and, Nat.zero_add, Nat.add_zero, Bool.false_eq_true, F1, G1, at_size]
  have hm : (if ((szR B : Nat) : Int) > ((szR A : Nat) : Int) then ((szR B : Nat) : Int) else ((szR A : Nat) : Int)) = ((mxR A B : Nat) : Int) := by unfold mxR; split <;> omega
  have hle := mxR_le A B
  rw [hm]
  simp only [Z06]
  refine ⟨h1, h2, ⟨by omega, by omega, roomy_of (by omega) (by omega)⟩, ?_⟩
  refine Loop.fam [0, 1, 2, 7, 16, 17] (fun i : Nat => ⟨[(0, .d (.list (A.map rowW) e)), (1, .d (.list (B.map rowW) f)), (2, .d (.fn g)), (7, .ref 0 1 0 (mxR A B) true), (16, .d (.int .i64 (mxR A B : Nat))), (17, .d (.int .i64 i))],
      [.dvec 1 (((List.range i).map (fun i => h (rowG A i) (rowG B i)) ++ List.replicate (mxR A B - i) 0#64).map rowW)]⟩) (fun i => i ≤ mxR A B) (fun i => mxR A B - i) 0 [0] (by simp) (by simp) (by simp only [State.can, AV.can, HO.can, idx, Z04, Z01, Heap.at, Nat.reduceBEq, ↓reduceIte, Option.getD_some, Option.map_some, List.map_cons, List.map_nil, List.getD_cons_zero]; simp) (by omega) ?_
  intro i hi
  simp only [↓Z1d, ↓Z2b, ↓Z1t, ↓Z05, ↓Z20, ↓Z1c, ↓Z0i, ↓Z12, ↓Z1z, ↓Z2z, ↓Z23, ↓Z1s, ↓Z1y, ↓Z3m, ↓Z3v, ↓Z3q, ↓Z0h, Z4d, Z0a, Z32, Z35, evN, Z2s, Z1x, Z34, Z1w, Z19, Z1v, Z2x, evT, Opd.ev, Z04, Z01, Z33, Z3x, Z3o, Z2w, Z2y, Z14, Z3r, LOp.isNew, State.prune, Heap.at, rowW, Z24, Z15, Z03, Z09, Z00, List.length_replicate, Z06, List.length_map, List.length_append, Z4g, binT, binQ, resQ, resV, resT, Z2e, Z3l, fnOf, Z3k, Z4f, putRow, Z25, Nat.le_refl, ↓reduceIte, Nat.reduceBEq, List.length_cons, List.length_nil, List.replicate_zero, List.nil_append, List.append_nil, List.map_cons, List.map_nil, List.set_cons_zero, List.getD_cons_zero, List.drop_zero, List.drop_succ_cons, List.take_zero, List.flatten_cons, List.flatten_nil, true_and, and_true, and_self, Nat.zero_add, Nat.add_zero, Bool.false_eq_true, F2, G2, F3, G3, at_row, at_h2]
  refine ⟨fun c => ?_, fun c => ?_⟩
  · have c' : i < mxR A B := by omega
    rw [Z4l c' (by unfold maxLen; omega), set_map_range (f := fun i => h (rowG A i) (rowG B i)) c']
    refine ⟨⟨by omega, h1⟩, ⟨by omega, h2⟩, ⟨by omega, by omega⟩, by simp; omega, Z3p.mk [0] (i + 1) (by simp) (by simp) (by simp only [State.can, AV.can, HO.can, idx, Z04, Z01, Heap.at, Nat.reduceBEq, ↓reduceIte, Option.getD_some, Option.map_some, List.map_cons, List.map_nil, List.getD_cons_zero]) (by show i + 1 ≤ mxR A B; omega) (by show mxR A B - (i + 1) < mxR A B - i; omega)⟩
  · have : i = mxR A B := by omega
    subst this
    rw [Nat.sub_self, List.replicate_zero, List.append_nil]
    exact .inl ⟨0, true, by simp [layG_len], rfl⟩

def hs4 (n1 n2 n3 n4 : Nat) : Nat → Option (W → W → W) := fun g => if g = n1 then some orW else if g = n2 then some andW else if g = n3 then some minusW else if g = n4 then some fstW else none
theorem body_rel_lay {T : Tab} {n1 n2 n_rel_Union_1 n_rel_Inter_1 n_rel_Minus_1 n_rel_Plus_1 : Nat} (k1 : Knows T n1 sp_size) (k2 : Knows T n2 sp_row) (k3 : Knows T n_rel_Union_1 (sp_h2 orW)) (k4 : Knows T n_rel_Inter_1 (sp_h2 andW))
    (k5 : Knows T n_rel_Minus_1 (sp_h2 minusW)) (k6 : Knows T n_rel_Plus_1 (sp_h2 fstW)) : (sp_lay (hs4 n_rel_Union_1 n_rel_Inter_1 n_rel_Minus_1 n_rel_Plus_1)).Body T V_rel_lay (L_rel_lay n1 n2) R_rel_lay := by
  rintro ⟨A, e, B, f, g⟩
  simp only [sp_lay, hs4]
  split
  · rename_i h hh
    split at hh
    · rename_i e; cases hh; rw [e]; exact lay_body k1 k2 k3 A B _ f
    · split at hh
      · rename_i e; cases hh; rw [e]; exact lay_body k1 k2 k4 A B _ f
      · split at hh
        · rename_i e; cases hh; rw [e]; exact lay_body k1 k2 k5 A B _ f
        · split at hh
          · rename_i e; cases hh; rw [e]; exact lay_body k1 k2 k6 A B _ f
          · cases hh
  · trivial
end Go.Ago

/- Contracts of package rel: Union, Inter, Minus, Then, Back. Conditions: none. -/
set_option maxRecDepth 100000
set_option linter.unusedSimpArgs false
set_option linter.unusedVariables false
namespace Go.Ago

theorem getD_set {l : List W} {i j : Nat} {x : W} (hi : i < l.length) : (l.set i x).getD j 0#64 = if i = j then x else l.getD j 0#64 := by
  rw [List.getD_eq_getElem?_getD, List.getElem?_set, List.getD_eq_getElem?_getD]
  by_cases e : i = j
  · subst e; simp [hi]
  · simp [e]
theorem mkR_set {n : Nat} {p q : Nat → Nat → Bool} {i : Nat} {x : W} (hi : i < n) (hx : ∀ k, k < 64 → x.getLsbD k = (decide (k < n) && q i k)) (ho : ∀ a k, a < n → k < n → a ≠ i → q a k = p a k) : (mkR n p).set i x = mkR n q := by
  apply mkR_ext (by simp [Z53])
  intro a k ha hk
  rw [getD_set (by rw [Z53]; exact hi)]
  by_cases e : i = a
  · subst e; rw [if_pos rfl]; exact hx k hk
  · rw [if_neg e, mkR_get ha]
    by_cases hkn : k < n
    · rw [ho a k ha hkn (Ne.symm e)]; simp [hk]
    · simp [hkn]
theorem mkR_zero {n : Nat} {p : Nat → Nat → Bool} (h : ∀ i k, i < n → k < n → p i k = false) : List.replicate n 0#64 = mkR n p := by
  apply mkR_ext (by simp)
  intro i k hi hk
  have e : (List.replicate n 0#64).getD i 0#64 = 0#64 := by
    rw [List.getD_eq_getElem?_getD, List.getElem?_replicate]; split <;> rfl
  rw [e]
  by_cases hkn : k < n
  · rw [h i k hi hkn]; simp
  · simp [hkn]
theorem hasN_off {R : List W} {i k : Nat} (h : ¬ k < szR R) : hasN R i k = false := by unfold hasN; simp [h]
theorem hasN_off1 {R : List W} {i k : Nat} (h : ¬ i < szR R) : hasN R i k = false := by unfold hasN; simp [h]

/-- Two laid together, place by place. -/
def lay2 (q : Bool → Bool → Bool) (A B : List W) : List W := mkR (mxR A B) fun i k => q (hasN A i k) (hasN B i k)
theorem layG_get {h : W → W → W} {A B : List W} {i : Nat} (hi : i < mxR A B) : (layG h A B).getD i 0#64 = h (rowG A i) (rowG B i) := by
  unfold layG
  rw [List.getD_eq_getElem?_getD, List.getElem?_map, List.getElem?_range hi]; rfl
theorem layG_mk {h : W → W → W} {q : Bool → Bool → Bool} (hh : ∀ x y k, k < 64 → (h x y).getLsbD k = q (x.getLsbD k) (y.getLsbD k)) (hq : q false false = false) (A B : List W) : layG h A B = lay2 q A B := by
  apply mkR_ext layG_len
  intro i k hi hk
  rw [layG_get hi, hh _ _ _ hk, get_rowG, get_rowG]
  by_cases hkn : k < mxR A B
  · simp [hkn]
  · have h1 : ¬ k < szR A := by unfold mxR at hkn; omega
    have h2 : ¬ k < szR B := by unfold mxR at hkn; omega
    rw [hasN_off h1, hasN_off h2, hq]; simp [hkn]
def sp_lay2 (q : Bool → Bool → Bool) : Sp := ⟨List W × Bool × List W × Bool, fun x => [.d (.list (x.1.map rowW) x.2.1), .d (.list (x.2.2.1.map rowW) x.2.2.2)], fun x => .rows (x.1.length ≤ maxLen ∧ x.2.2.1.length ≤ maxLen) 1 ((lay2 q x.1 x.2.2.1).map rowW)⟩
theorem at_lay2 (q : Bool → Bool → Bool) (A B : List W) (e f : Bool) : (sp_lay2 q).at [.d (.list (A.map rowW) e), .d (.list (B.map rowW) f)] = .rows (A.length ≤ maxLen ∧ B.length ≤ maxLen) 1 ((lay2 q A B).map rowW) :=
  Sp.at_enc (s := sp_lay2 q) (fun x y h => by
    obtain ⟨a, b, c, d⟩ := x; obtain ⟨a', b', c', d'⟩ := y
    simp only [sp_lay2, List.cons.injEq, AV.d.injEq, DV.list.injEq, and_true] at h
    rw [Z4n Z51 h.1.1, h.1.2, Z4n Z51 h.2.1, h.2.2]) (A, e, B, f)
def qOr (a b : Bool) : Bool := a || b
def qAnd (a b : Bool) : Bool := a && b
def qMinus (a b : Bool) : Bool := a && !b

theorem body_rel_Union {T : Tab} {n1 n2 n_rel_Union_1 n_rel_Inter_1 n_rel_Minus_1 n_rel_Plus_1 : Nat} (k1 : Knows T n1 (sp_lay (hs4 n_rel_Union_1 n_rel_Inter_1 n_rel_Minus_1 n_rel_Plus_1))) (e1 : hs4 n_rel_Union_1 n_rel_Inter_1 n_rel_Minus_1 n_rel_Plus_1 n2 = some orW) :
    (sp_lay2 qOr).Body T V_rel_Union (L_rel_Union n1 n2) R_rel_Union := by
  have F1 := k1.F; have G1 := k1.G
  rintro ⟨A, e, B, f⟩ ⟨h1, h2⟩
  refine ⟨rows_len (f := rowW) (fun _ => rfl) _, ?_⟩
  unfold V_rel_Union L_rel_Union R_rel_Union
  simp only [↓Z2b, ↓Z05, ↓Z20, ↓Z12, ↓Z1z, ↓Z1y, ↓Z3m, Z4d, Z0a, Z32, Z35, evN, Z2s, Z1x, Z34, Z1w, Z19, Z1v, evT, Opd.ev, Z04, Z01, Z33, Z3o, Z22, Z14, Z3r, LOp.isNew, State.prune, Z17, List.length_map, resQ, resV, resT, Z2e, Z3l, fnOf, Z3k, Z4f, ↓reduceIte, Nat.reduceBEq, List.length_nil, List.replicate_succ, List.replicate_zero, List.nil_append, List.append_nil, List.map_cons, List.map_nil, List.set_cons_zero, List.flatten_cons, List.flatten_nil, true_and, and_true, or_true, Nat.zero_add, Nat.add_zero, Bool.false_eq_true, sp_lay2, F1, G1, at_lay e1, layOut]
  rw [← layG_mk (h := orW) (fun x y k _ => by simp [orW, qOr]) rfl A B]
  exact ⟨⟨h1, h2⟩, .inl ⟨0, true, by simp, rfl⟩⟩
theorem body_rel_Inter {T : Tab} {n1 n2 n_rel_Union_1 n_rel_Inter_1 n_rel_Minus_1 n_rel_Plus_1 : Nat} (k1 : Knows T n1 (sp_lay (hs4 n_rel_Union_1 n_rel_Inter_1 n_rel_Minus_1 n_rel_Plus_1))) (e1 : hs4 n_rel_Union_1 n_rel_Inter_1 n_rel_Minus_1 n_rel_Plus_1 n2 = some andW) :
    (sp_lay2 qAnd).Body T V_rel_Inter (L_rel_Inter n1 n2) R_rel_Inter := by
  have F1 := k1.F; have G1 := k1.G
  rintro ⟨A, e, B, f⟩ ⟨h1, h2⟩
  refine ⟨rows_len (f := rowW) (fun _ => rfl) _, ?_⟩
  unfold V_rel_Inter L_rel_Inter R_rel_Inter
  simp only [↓Z2b, ↓Z05, ↓Z20, ↓Z12, ↓Z1z, ↓Z1y, ↓Z3m, Z4d, Z0a, Z32, Z35, evN, Z2s, Z1x, Z34, Z1w, Z19, Z1v, evT, Opd.ev, Z04, Z01, Z33, Z3o, Z22, Z14, Z3r, LOp.isNew, State.prune, Z17, List.length_map, resQ, resV, resT, Z2e, Z3l, fnOf, Z3k, Z4f, ↓reduceIte, Nat.reduceBEq, List.length_nil, List.replicate_succ, List.replicate_zero, List.nil_append, List.append_nil, List.map_cons, List.map_nil, List.set_cons_zero, List.flatten_cons, List.flatten_nil, true_and, and_true, or_true, Nat.zero_add, Nat.add_zero, Bool.false_eq_true, sp_lay2, F1, G1, at_lay e1, layOut]
  rw [← layG_mk (h := andW) (fun x y k _ => by simp [andW, qAnd]) rfl A B]
  exact ⟨⟨h1, h2⟩, .inl ⟨0, true, by simp, rfl⟩⟩
theorem body_rel_Minus {T : Tab} {n1 n2 n_rel_Union_1 n_rel_Inter_1 n_rel_Minus_1 n_rel_Plus_1 : Nat} (k1 : Knows T n1 (sp_lay (hs4 n_rel_Union_1 n_rel_Inter_1 n_rel_Minus_1 n_rel_Plus_1))) (e1 : hs4 n_rel_Union_1 n_rel_Inter_1 n_rel_Minus_1 n_rel_Plus_1 n2 = some minusW) :
    (sp_lay2 qMinus).Body T V_rel_Minus (L_rel_Minus n1 n2) R_rel_Minus := by
  have F1 := k1.F; have G1 := k1.G
  rintro ⟨A, e, B, f⟩ ⟨h1, h2⟩
  refine ⟨rows_len (f := rowW) (fun _ => rfl) _, ?_⟩
  unfold V_rel_Minus L_rel_Minus R_rel_Minus
  simp only [↓Z2b, ↓Z05, ↓Z20, ↓Z12, ↓Z1z, ↓Z1y, ↓Z3m, Z4d, Z0a, Z32, Z35, evN, Z2s, Z1x, Z34, Z1w, Z19, Z1v, evT, Opd.ev, Z04, Z01, Z33, Z3o, Z22, Z14, Z3r, LOp.isNew, State.prune, Z17, List.length_map, resQ, resV, resT, Z2e, Z3l, fnOf, Z3k, Z4f, ↓reduceIte, Nat.reduceBEq, List.length_nil, List.replicate_succ, List.replicate_zero, List.nil_append, List.append_nil, List.map_cons, List.map_nil, List.set_cons_zero, List.flatten_cons, List.flatten_nil, true_and, and_true, or_true, Nat.zero_add, Nat.add_zero, Bool.false_eq_true, sp_lay2, F1, G1, at_lay e1, layOut]
  rw [← layG_mk (h := minusW) (fun x y k hk => by simp [minusW, qMinus, hk]) rfl A B]
  exact ⟨⟨h1, h2⟩, .inl ⟨0, true, by simp, rfl⟩⟩

/-! ### Then -/
def thenP (A B : List W) (i k : Nat) : Bool := (List.range 64).any fun j => hasN A i j && hasN B j k
theorem thenP_iff {A B : List W} {i k : Nat} : thenP A B i k = true ↔ ∃ j, hasN A i j = true ∧ hasN B j k = true := by
  unfold thenP
  rw [List.any_eq_true]
  constructor
  · rintro ⟨j, _, h⟩
    rw [Bool.and_eq_true] at h
    exact ⟨j, h⟩
  · rintro ⟨j, h1, h2⟩
    have := hasN_lt h1; have := szR_le A
    exact ⟨j, by simp; omega, by rw [h1, h2]; rfl⟩
def thenG (A B : List W) : List W := mkR (mxR A B) (thenP A B)
/-- What is there so far: rows ahead of i are done; of row i, what leads through bits that are not in x any more. -/
def thenS (A B : List W) (i : Nat) (x : W) (a k : Nat) : Bool := if a < i then thenP A B a k else if a = i then (List.range 64).any fun j => hasN A i j && !x.getLsbD j && hasN B j k else false
theorem thenS_iff {A B : List W} {i k : Nat} {x : W} : thenS A B i x i k = true ↔ ∃ j, hasN A i j = true ∧ x.getLsbD j = false ∧ hasN B j k = true := by
  unfold thenS
  rw [if_neg (Nat.lt_irrefl i), if_pos rfl, List.any_eq_true]
  constructor
  · rintro ⟨j, _, h⟩
    simp only [Bool.and_eq_true, Bool.not_eq_true'] at h
    exact ⟨j, h.1.1, h.1.2, h.2⟩
  · rintro ⟨j, h1, h2, h3⟩
    have := hasN_lt h1; have := szR_le A
    exact ⟨j, by simp; omega, by simp [h1, h2, h3]⟩
theorem beq_of_iff {a b : Bool} (h : a = true ↔ b = true) : a = b := by cases a <;> cases b <;> simp_all

def sp_Then : Sp := ⟨List W × Bool × List W × Bool, fun x => [.d (.list (x.1.map rowW) x.2.1), .d (.list (x.2.2.1.map rowW) x.2.2.2)], fun x => .rows (x.1.length ≤ maxLen ∧ x.2.2.1.length ≤ maxLen) 1 ((thenG x.1 x.2.2.1).map rowW)⟩
theorem at_Then (A B : List W) (e f : Bool) : sp_Then.at [.d (.list (A.map rowW) e), .d (.list (B.map rowW) f)] = .rows (A.length ≤ maxLen ∧ B.length ≤ maxLen) 1 ((thenG A B).map rowW) :=
  Sp.at_enc (s := sp_Then) (fun x y h => by
    obtain ⟨a, b, c, d⟩ := x; obtain ⟨a', b', c', d'⟩ := y
    simp only [sp_Then, List.cons.injEq, AV.d.injEq, DV.list.injEq, and_true] at h
    rw [Z4n Z51 h.1.1, h.1.2, Z4n Z51 h.2.1, h.2.2]) (A, e, B, f)
theorem body_rel_Then {T : Tab} {n1 n2 n3 : Nat} (k1 : Knows T n1 sp_size) (k2 : Knows T n2 sp_row) (k3 : Knows T n3 sp_tz) : sp_Then.Body T V_rel_Then (L_rel_Then n1 n2 n3) R_rel_Then := by
  have F1 := k1.F; have G1 := k1.G; have F2 := k2.F; have G2 := k2.G; have F3 := k3.F; have G3 := k3.G
  rintro ⟨A, e, B, f⟩ ⟨h1, h2⟩
  have h1 : A.length ≤ maxLen := h1
  have h2 : B.length ≤ maxLen := h2
  refine ⟨rows_len (f := rowW) (fun _ => rfl) _, ?_⟩
  unfold V_rel_Then L_rel_Then R_rel_Then
  simp only [↓Z05, ↓Z20, ↓Z0i, ↓Z1u, ↓Z12, ↓Z1z, ↓Z1y, Z4d, Z0a, Z32, Z35, evN, Z2s, Z1x, Z34, Z1w, Z19, Z1v, evT, Opd.ev, Z04, Z01, Z33, Z3o, Z22, Z14, Z3r, LOp.isNew, State.prune, Z1b, Z4o, Z0k, Z4m, evMk, Z2e, Z3l, fnOf, Z3k, Z4f, Z3u, Z25, ↓reduceIte, Nat.reduceBEq, List.length_cons, List.length_nil, List.replicate_succ, List.replicate_zero, List.nil_append, List.append_nil, List.map_cons, List.map_nil, List.set_cons_zero, List.flatten_cons, List.flatten_nil, true_and, Nat.zero_add, Nat.add_zero, Bool.false_eq_true, sp_Then, F1, G1, at_size]
  have hm : (if ((szR B : Nat) : Int) > ((szR A : Nat) : Int) then ((szR B : Nat) : Int) else ((szR A : Nat) : Int)) = ((mxR A B : Nat) : Int) := by unfold mxR; split <;> omega
  have hle := mxR_le A B
  have hA : szR A ≤ mxR A B := by unfold mxR; omega
  rw [hm]
  generalize hn : mxR A B = n at *
  simp only [Z06]
  refine ⟨h1, h2, ⟨by omega, by omega, roomy_of (by omega) (by omega)⟩, ?_⟩
  refine Loop.fam [0, 1, 5, 15, 16] (fun i : Nat => ⟨[(0, .d (.list (A.map rowW) e)), (1, .d (.list (B.map rowW) f)), (5, .ref 0 1 0 n true), (15, .d (.int .i64 n)), (16, .d (.int .i64 i))],
      [.dvec 1 ((mkR n (thenS A B i (rowG A i))).map rowW)]⟩) (fun i => i ≤ n) (fun i => n - i) 0 [0] (by simp) (by simp) (by
        simp only [State.can, AV.can, HO.can, idx, Z04, Z01, Heap.at, Nat.reduceBEq, ↓reduceIte, Option.getD_some, Option.map_some, List.map_cons, List.map_nil, List.getD_cons_zero]
        rw [mkR_zero (p := thenS A B 0 (rowG A 0))]
        · rfl
        · intro a k _ _
          unfold thenS
          rw [if_neg (by omega)]
          split
          · rename_i e0; subst e0
            rw [List.any_eq_false]
            intro j _
            rw [get_rowG]
            cases hasN A 0 j <;> simp
          · rfl) (by omega) ?_
  intro i hi
  simp only [↓Z1d, ↓Z2b, ↓Z1t, ↓Z05, ↓Z20, ↓Z1c, ↓Z0i, ↓Z1u, ↓Z12, ↓Z1z, ↓Z2z, ↓Z1s, ↓Z1y, ↓Z3m, ↓Z3q, ↓Z0h, Z4d, Z0a, Z32, Z35, evN, Z2s, Z1x, Z34, Z1w, Z19, Z1v, Z2x, evT, Opd.ev, Z04, Z01, Z33, Z2w, Z2y, Z14, Z3r, LOp.isNew, State.prune, Z06, Z4g, binT, binQ, resQ, resV, resT, Z2e, Z3l, fnOf, Z3k, Z4f, Z25, ↓reduceIte, Nat.reduceBEq, List.length_cons, List.length_nil, List.replicate_zero, List.append_nil, List.map_cons, List.map_nil, List.flatten_cons, List.flatten_nil, true_and, Nat.zero_add, Nat.add_zero, Bool.false_eq_true, F2, G2, at_row]
  refine ⟨fun c => ?_, fun c => ?_⟩
  · have c' : i < n := by omega
    refine ⟨⟨by omega, h1⟩, ?_⟩
    refine Loop.fam [0, 1, 5, 6, 7, 15, 16] (fun x : W => ⟨[(0, .d (.list (A.map rowW) e)), (1, .d (.list (B.map rowW) f)), (5, .ref 0 1 0 n true), (6, .d (.int .i64 i)), (7, .d (.int .u64 (x.toNat : Int))), (15, .d (.int .i64 n)), (16, .d (.int .i64 i))],
      [.dvec 1 ((mkR n (thenS A B i x)).map rowW)]⟩) (fun x => ∀ j, x.getLsbD j = true → hasN A i j = true) (fun x => x.toNat) (rowG A i) [0] (by simp) (by simp) (by simp only [State.can, AV.can, HO.can, idx, Z04, Z01, Heap.at, Nat.reduceBEq, ↓reduceIte, Option.getD_some, Option.map_some, List.map_cons, List.map_nil, List.getD_cons_zero]) (fun j h => by rw [get_rowG] at h; exact h) ?_
    intro x hx
    simp only [↓Z1d, ↓Z1t, ↓Z05, ↓Z20, ↓Z1c, ↓Z0i, ↓Z12, ↓Z1z, ↓Z2z, ↓Z23, ↓Z1s, ↓Z1y, ↓Z3v, ↓Z3q, ↓Z16, ↓Z0h, Z4d, Z0a, Z18, Z32, Z35, evN, Z2s, Z1x, Z34, Z41, Z1w, Z19, Z1v, Z2x, evT, Opd.ev, Z04, Z01, Z33, Z3x, Z3o, Z2w, Z2y, Z14, Z3r, LOp.isNew, State.prune, Heap.at, Z0g, Z02, rowW, Z24, Z15, w_or, Z4r, Z47, Z4v, Z03, Z09, Z00, Z21, Z06, Z4i, Z4g, binT, binQ, chk, Z3t, List.contains_cons, List.contains_nil, Bool.or_false, Bool.and_self, Z2e, Z3l, fnOf, Z3k, Z4f, putRow, Z25, Nat.le_refl, ↓reduceIte, Nat.reduceBEq, List.length_cons, List.length_nil, List.replicate_zero, List.nil_append, List.cons_append, List.append_nil, List.map_cons, List.map_nil, List.all_cons, List.all_nil, List.set_cons_zero, List.getD_cons_zero, List.getD_cons_succ, List.drop_zero, List.drop_succ_cons, List.take_zero, List.flatten_cons, List.flatten_nil, Bool.not_false, true_and, and_true, and_self, Nat.reduceLT, List.reverse_cons, List.reverse_nil, Nat.zero_add, Nat.add_zero, Bool.false_eq_true, F2, G2, F3, G3, at_row, at_tz]
    refine ⟨fun hz => ?_, fun hz => ?_⟩
    rotate_left
    · obtain ⟨t1, t2, t3⟩ := tz_spec hz
      have hat := hx _ t2
      rw [Z53]
      refine ⟨by omega, by omega, by omega, by omega, by omega, ?_⟩
      refine Z3p.mk [0] (x &&& (x - 1#64)) (by simp) (by simp) ?_ (fun j hj => hx j (by rw [tz_rest hz] at hj; rw [Bool.and_eq_true] at hj; exact hj.1)) (tz_less hz)
      rw [mkR_set (q := thenS A B i (x &&& (x - 1#64))) c']
      · simp only [State.can, AV.can, HO.can, idx, Z04, Z01, Heap.at, Nat.reduceBEq, ↓reduceIte, Option.getD_some, Option.map_some, List.map_cons, List.map_nil, List.getD_cons_zero]
      · intro k hk
        rw [BitVec.getLsbD_or, mkR_get c', get_rowG]
        by_cases hkn : k < n
        · simp only [hkn, hk, decide_true, Bool.true_and]
          apply beq_of_iff
          rw [Bool.or_eq_true, thenS_iff, thenS_iff]
          constructor
          · rintro (⟨j, g1, g2, g3⟩ | g)
            · exact ⟨j, g1, by rw [tz_rest hz, g2]; rfl, g3⟩
            · exact ⟨tz x, hat, by rw [tz_rest hz]; simp, g⟩
          · rintro ⟨j, g1, g2, g3⟩
            rw [tz_rest hz, Bool.and_eq_false_iff] at g2
            rcases g2 with g2 | g2
            · exact .inl ⟨j, g1, g2, g3⟩
            · have : j = tz x := by simpa using g2
              subst this; exact .inr g3
        · have : ¬ k < szR B := by unfold mxR at hn; omega
          rw [hasN_off this]; simp [hkn]
      · intro a k ha hk hne
        unfold thenS
        rw [if_neg hne, if_neg hne]
    · have hz : x = 0#64 := by simpa using hz
      subst hz
      rw [Z4l c' (by unfold maxLen; omega)]
      refine Z3p.mk [0] (i + 1) (by simp) (by simp) ?_ (by show i + 1 ≤ n; omega) (by show n - (i + 1) < n - i; omega)
      have : mkR n (thenS A B i 0#64) = mkR n (thenS A B (i + 1) (rowG A (i + 1))) := by
        apply Z4h
        intro a k ha hk
        by_cases e1 : a < i
        · unfold thenS; rw [if_pos e1, if_pos (by omega)]
        · by_cases e2 : a = i
          · subst e2
            apply beq_of_iff
            rw [thenS_iff]
            unfold thenS
            rw [if_pos (by omega), thenP_iff]
            simp
          · unfold thenS
            rw [if_neg e1, if_neg e2, if_neg (by omega)]
            split
            · rename_i e3; subst e3
              symm
              rw [List.any_eq_false]
              intro j _
              rw [get_rowG]
              cases hasN A (i + 1) j <;> simp
            · rfl
      rw [this]
      simp only [State.can, AV.can, HO.can, idx, Z04, Z01, Heap.at, Nat.reduceBEq, ↓reduceIte, Option.getD_some, Option.map_some, List.map_cons, List.map_nil, List.getD_cons_zero]
  · have : i = n := by omega
    subst this
    have : mkR i (thenS A B i (rowG A i)) = thenG A B := by
      unfold thenG
      rw [hn]
      apply Z4h
      intro a k ha hk
      unfold thenS
      rw [if_pos ha]
    rw [this]
    exact .inl ⟨0, true, by simp [thenG, Z53, hn], rfl⟩
end Go.Ago

/- Contracts of package rel: Back, Plus, Star, Ring. Conditions: none. -/
set_option maxRecDepth 100000
set_option linter.unusedSimpArgs false
set_option linter.unusedVariables false
namespace Go.Ago

/-! ### Back -/
def backG (R : List W) : List W := mkR (szR R) fun i k => hasN R k i
theorem one_shl {i k : Nat} (hi : i < 64) : (1#64 <<< i).getLsbD k = decide (i = k) := by
  by_cases hk : k < 64
  · rw [BitVec.getLsbD_shiftLeft, BitVec.getLsbD_one]
    by_cases e : i = k
    · subst e; simp [hi]
    · by_cases e2 : k < i
      · simp [e2, e]
      · have : ¬ k - i = 0 := by omega
        simp [e, this]
  · rw [getLsb_ge (by omega)]; simp; omega
/-! ### Plus -/
/-- Ways whose places between are ahead of m. -/
def way (p : Nat → Nat → Bool) : Nat → Nat → Nat → Bool
  | 0, i, k => p i k
  | m + 1, i, k => way p m i k || way p m i m && way p m m k
def plusG (R : List W) : List W := mkR (szR R) (way (hasN R) (szR R))
def plusS (R : List W) (m i a b : Nat) : Bool := if a < i then way (hasN R) (m + 1) a b else way (hasN R) m a b
def sp_Plus : Sp := ⟨List W × Bool, fun x => [.d (.list (x.1.map rowW) x.2)], fun x => .rows (x.1.length ≤ maxLen) 1 ((plusG x.1).map rowW)⟩
theorem at_Plus (A : List W) (e : Bool) : sp_Plus.at [.d (.list (A.map rowW) e)] = .rows (A.length ≤ maxLen) 1 ((plusG A).map rowW) :=
  Sp.at_enc (s := sp_Plus) (fun x y h => by
    obtain ⟨a, b⟩ := x; obtain ⟨a', b'⟩ := y
    simp only [sp_Plus, List.cons.injEq, AV.d.injEq, DV.list.injEq, and_true] at h
    rw [Z4n Z51 h.1, h.2]) (A, e)
theorem szR_nil : szR [] = 0 := rfl
theorem lay_fst (A : List W) : layG fstW A [] = mkR (szR A) (hasN A) := by
  rw [layG_mk (h := fstW) (q := fun a _ => a) (fun x y k _ => rfl) rfl]
  unfold lay2 mxR
  rw [szR_nil, Nat.max_eq_left (Nat.zero_le _)]
theorem plus_body {T : Tab} {n1 n2 : Nat} {hs : Nat → Option (W → W → W)} (k1 : Knows T n1 (sp_lay hs)) (e1 : hs n2 = some fstW) :
    sp_Plus.Body T V_rel_Plus (L_rel_Plus n1 n2) R_rel_Plus := by
  have F1 := k1.F; have G1 := k1.G
  rintro ⟨A, e⟩ h1
  have h1 : A.length ≤ maxLen := h1
  refine ⟨rows_len (f := rowW) (fun _ => rfl) _, ?_⟩
  have hat : ∀ f : Bool, (sp_lay hs).at [.d (.list (A.map rowW) e), .d (.list [] f), .d (.fn n2)] = .rows (A.length ≤ maxLen ∧ 0 ≤ maxLen) 1 ((mkR (szR A) (hasN A)).map rowW) := fun f => by
    have := at_lay e1 A [] e f
    unfold layOut at this
    rw [lay_fst] at this
    exact this
  unfold V_rel_Plus L_rel_Plus R_rel_Plus
  simp only [↓Z05, ↓Z20, ↓Z0i, ↓Z1u, ↓Z12, ↓Z1z, ↓Z1y, Z4d, Z0a, Z32, Z35, evN, Z2s, Z1x, Z34, Z1w, Z19, Z1v, evT, Opd.ev, Z04, Z01, Z33, Z3o, Z22, Z14, Z3r, LOp.isNew, State.prune, Z17, Z4o, List.length_map, Z2e, Z3l, fnOf, Z3k, Z4f, Z25, ↓reduceIte, Nat.reduceBEq, List.length_cons, List.length_nil, List.replicate_succ, List.replicate_zero, List.nil_append, List.append_nil, List.map_cons, List.map_nil, List.set_cons_zero, List.flatten_cons, List.flatten_nil, true_and, and_true, or_true, Nat.zero_add, Nat.add_zero, Bool.false_eq_true, sp_Plus, F1, G1, hat]
  have hle := szR_le A
  rw [Z53]
  generalize hn : szR A = n at *
  refine ⟨⟨h1, by omega⟩, ?_⟩
  refine Loop.fam [3, 9, 10] (fun m : Nat => ⟨[(3, .ref 0 1 0 n true), (9, .d (.int .i64 n)), (10, .d (.int .i64 m))],
      [.dvec 1 ((mkR n (way (hasN A) m)).map rowW)]⟩) (fun m => m ≤ n) (fun m => n - m) 0 [0] (by simp) (by simp) (by simp only [State.can, AV.can, HO.can, idx, Z04, Z01, Heap.at, Nat.reduceBEq, ↓reduceIte, Option.getD_some, Option.map_some, List.map_cons, List.map_nil, List.getD_cons_zero]; rfl) (by omega) ?_
  intro m hm
  simp only [↓Z1d, ↓Z2b, ↓Z1t, ↓Z05, ↓Z20, ↓Z1c, ↓Z0i, ↓Z1u, ↓Z12, ↓Z1z, ↓Z2z, ↓Z1s, ↓Z1y, ↓Z3m, ↓Z3q, ↓Z0h, Z4d, Z0a, Z32, Z35, evN, Z1x, Z34, Z1w, Z1v, Z2x, evT, Opd.ev, Z04, Z01, Z33, Z2w, Z2y, Z14, Z3r, LOp.isNew, State.prune, Z4o, Z4g, binT, binQ, resQ, resV, resT, Z25, ↓reduceIte, Nat.reduceBEq, List.length_cons, List.length_nil, List.replicate_zero, List.append_nil, List.map_cons, List.map_nil, true_and, Nat.zero_add, Nat.add_zero, Bool.false_eq_true]
  refine ⟨fun c => ?_, fun c => ?_⟩
  · have c' : m < n := by omega
    refine Loop.fam [3, 4, 9, 10, 14, 15] (fun i : Nat => ⟨[(3, .ref 0 1 0 n true), (4, .d (.int .i64 m)), (9, .d (.int .i64 n)), (10, .d (.int .i64 m)), (14, .d (.int .i64 n)), (15, .d (.int .i64 i))],
      [.dvec 1 ((mkR n (plusS A m i)).map rowW)]⟩) (fun i => i ≤ n) (fun i => n - i) 0 [0] (by simp) (by simp) (by
        simp only [State.can, AV.can, HO.can, idx, Z04, Z01, Heap.at, Nat.reduceBEq, ↓reduceIte, Option.getD_some, Option.map_some, List.map_cons, List.map_nil, List.getD_cons_zero]
        rw [show mkR n (plusS A m 0) = mkR n (way (hasN A) m) from Z4h fun a b _ _ => by unfold plusS; rw [if_neg (by omega)]]
        rfl) (by omega) ?_
    intro i hi
    simp only [↓Z1d, ↓Z1t, ↓Z05, ↓Z20, ↓Z1c, ↓Z0i, ↓Z12, ↓Z1z, ↓Z2z, ↓Z23, ↓Z1s, ↓Z1y, ↓Z3v, ↓Z3q, ↓Z0h, Z4d, Z0a, Z18, Z32, Z35, evN, Z1x, Z34, Z41, Z1w, Z1v, Z2x, evT, Opd.ev, Z04, Z01, Z33, Z3x, Z3o, Z2w, Z2y, Z14, Z3r, LOp.isNew, State.prune, Heap.at, Z0g, Z02, rowW, Z24, Z15, w_or, Z45, Z4s, Z4u, Z4w, Bool.decide_eq_true, Z03, Z09, Z00, Z21, Z06, Z4i, Z4g, binT, binQ, chk, Z3t, putRow, Z25, Nat.le_refl, ↓reduceIte, Nat.reduceBEq, List.length_cons, List.length_nil, List.replicate_zero, List.nil_append, List.cons_append, List.append_nil, List.map_cons, List.map_nil, List.all_nil, List.set_cons_zero, List.getD_cons_zero, List.drop_zero, List.drop_succ_cons, List.take_zero, true_and, and_true, and_self, Nat.reduceLT, List.reverse_cons, List.reverse_nil, Nat.zero_add, Nat.add_zero, Bool.false_eq_true, wrapU (k := m) (by omega)]
    rw [Z53]
    refine ⟨fun g => ?_, fun g => ?_⟩
    · have g' : i < n := by omega
      have bit : ((mkR n (plusS A m i)).getD i 0#64).getLsbD m = way (hasN A) m i m := by
        rw [mkR_get g']
        unfold plusS
        rw [if_neg (by omega)]
        simp only [decide_eq_true c', decide_eq_true (by omega : m < 64), Bool.true_and]
      rw [bit, Z4l g' (by unfold maxLen; omega)]
      refine ⟨by omega, by omega, by omega, fun hb => ⟨by omega, by omega, by omega, by omega, by omega, by omega, ?_⟩, fun hb => ?_⟩
      · refine Z3p.mk [0] (i + 1) (by simp) (by simp) ?_ (by show i + 1 ≤ n; omega) (by show n - (i + 1) < n - i; omega)
        rw [mkR_set (q := plusS A m (i + 1)) g']
        · simp only [State.can, AV.can, HO.can, idx, Z04, Z01, Heap.at, Nat.reduceBEq, ↓reduceIte, Option.getD_some, Option.map_some, List.map_cons, List.map_nil, List.getD_cons_zero]
        · intro k hk
          rw [BitVec.getLsbD_or, mkR_get g', mkR_get c']
          by_cases hkn : k < n
          · simp only [hkn, hk, decide_true, Bool.true_and]
            have g1 : plusS A m i i k = way (hasN A) m i k := if_neg (by omega)
            have g2 : plusS A m (i + 1) i k = way (hasN A) (m + 1) i k := if_pos (by omega)
            have g3 : plusS A m i m k = way (hasN A) m m k := by
              unfold plusS
              split
              · simp only [way]; cases way (hasN A) m m k <;> simp
              · rfl
            rw [g1, g2, g3]
            simp only [way, hb, Bool.true_and]
          · simp [hkn]
        · intro a k ha hk hne
          unfold plusS
          by_cases e1 : a < i
          · rw [if_pos e1, if_pos (by omega)]
          · rw [if_neg e1, if_neg (by omega)]
      · refine Z3p.mk [0] (i + 1) (by simp) (by simp) ?_ (by show i + 1 ≤ n; omega) (by show n - (i + 1) < n - i; omega)
        rw [show mkR n (plusS A m (i + 1)) = mkR n (plusS A m i) from Z4h fun a b _ _ => by
          unfold plusS
          by_cases e1 : a < i
          · rw [if_pos e1, if_pos (by omega)]
          · by_cases e2 : a = i
            · subst e2
              rw [if_pos (by omega), if_neg (by omega)]
              simp only [way]
              have hb' : way (hasN A) m a m = false := by simpa using hb
              simp [hb']
            · rw [if_neg e1, if_neg (by omega)]]
        simp only [State.can, AV.can, HO.can, idx, Z04, Z01, Heap.at, Nat.reduceBEq, ↓reduceIte, Option.getD_some, Option.map_some, List.map_cons, List.map_nil, List.getD_cons_zero]
    · have : i = n := by omega
      subst this
      rw [Z4l c' (by unfold maxLen; omega)]
      refine Z3p.mk [0] (m + 1) (by simp) (by simp) ?_ (by show m + 1 ≤ i; omega) (by show i - (m + 1) < i - m; omega)
      rw [show mkR i (plusS A m i) = mkR i (way (hasN A) (m + 1)) from Z4h fun a b ha _ => by unfold plusS; rw [if_pos ha]]
      simp only [State.can, AV.can, HO.can, idx, Z04, Z01, Heap.at, Nat.reduceBEq, ↓reduceIte, Option.getD_some, Option.map_some, List.map_cons, List.map_nil, List.getD_cons_zero]
  · have : m = n := by omega
    subst this
    have : mkR m (way (hasN A) m) = plusG A := by unfold plusG; rw [hn]
    rw [this]
    exact .inl ⟨0, true, by simp [plusG, Z53, hn], rfl⟩
theorem body_rel_Plus {T : Tab} {n1 n2 n_rel_Union_1 n_rel_Inter_1 n_rel_Minus_1 n_rel_Plus_1 : Nat} (k1 : Knows T n1 (sp_lay (hs4 n_rel_Union_1 n_rel_Inter_1 n_rel_Minus_1 n_rel_Plus_1))) (e1 : hs4 n_rel_Union_1 n_rel_Inter_1 n_rel_Minus_1 n_rel_Plus_1 n2 = some fstW) :
    sp_Plus.Body T V_rel_Plus (L_rel_Plus n1 n2) R_rel_Plus := plus_body k1 e1
/-! Where no other function is laid: -/
def hs1 (n : Nat) : Nat → Option (W → W → W) := fun g => if g = n then some fstW else none
end Go.Ago

/- Contracts of package rel: Star, Ring, Of, Order. Conditions: none. -/
set_option maxRecDepth 100000
set_option linter.unusedSimpArgs false
set_option linter.unusedVariables false
namespace Go.Ago

/-! ### Star, Ring -/
def starG (R : List W) : List W := mkR (szR R) fun i k => way (hasN R) (szR R) i k || decide (i = k)
def starS (R : List W) (n m a b : Nat) : Bool := way (hasN R) n a b || (decide (a = b) && decide (a < m))
def sp_Star : Sp := ⟨List W × Bool, fun x => [.d (.list (x.1.map rowW) x.2)], fun x => .rows (x.1.length ≤ maxLen) 1 ((starG x.1).map rowW)⟩
theorem at_Star (A : List W) (e : Bool) : sp_Star.at [.d (.list (A.map rowW) e)] = .rows (A.length ≤ maxLen) 1 ((starG A).map rowW) :=
  Sp.at_enc (s := sp_Star) (fun x y h => by
    obtain ⟨a, b⟩ := x; obtain ⟨a', b'⟩ := y
    simp only [sp_Star, List.cons.injEq, AV.d.injEq, DV.list.injEq, and_true] at h
    rw [Z4n Z51 h.1, h.2]) (A, e)
theorem body_rel_Star {T : Tab} {n1 : Nat} (k1 : Knows T n1 sp_Plus) : sp_Star.Body T V_rel_Star (L_rel_Star n1) R_rel_Star := by
  have F1 := k1.F; have G1 := k1.G
  rintro ⟨A, e⟩ h1
  have h1 : A.length ≤ maxLen := h1
  refine ⟨rows_len (f := rowW) (fun _ => rfl) _, ?_⟩
  unfold V_rel_Star L_rel_Star R_rel_Star
  simp only [↓Z05, ↓Z20, ↓Z0i, ↓Z1u, ↓Z12, ↓Z1z, ↓Z1y, Z4d, Z0a, Z32, Z35, evN, Z2s, Z1x, Z34, Z1w, Z19, Z1v, evT, Opd.ev, Z04, Z01, Z33, Z3o, Z22, Z14, Z3r, LOp.isNew, State.prune, Z17, Z4o, List.length_map, Z2e, Z3l, fnOf, Z3k, Z4f, Z25, ↓reduceIte, Nat.reduceBEq, List.length_cons, List.length_nil, List.replicate_succ, List.replicate_zero, List.nil_append, List.append_nil, List.map_cons, List.map_nil, List.set_cons_zero, List.flatten_cons, List.flatten_nil, true_and, and_true, or_true, Nat.zero_add, Nat.add_zero, Bool.false_eq_true, sp_Star, F1, G1, at_Plus]
  have hle := szR_le A
  have hl : (plusG A).length = szR A := Z53
  have hp : plusG A = mkR (szR A) (way (hasN A) (szR A)) := rfl
  rw [hl]
  generalize hn : szR A = n at *
  refine ⟨h1, ?_⟩
  refine Loop.fam [3, 8, 9] (fun m : Nat => ⟨[(3, .ref 0 1 0 n true), (8, .d (.int .i64 n)), (9, .d (.int .i64 m))],
      [.dvec 1 ((mkR n (starS A n m)).map rowW)]⟩) (fun m => m ≤ n) (fun m => n - m) 0 [0] (by simp) (by simp) (by
        simp only [State.can, AV.can, HO.can, idx, Z04, Z01, Heap.at, Nat.reduceBEq, ↓reduceIte, Option.getD_some, Option.map_some, List.map_cons, List.map_nil, List.getD_cons_zero]
        rw [hp, show mkR n (starS A n 0) = mkR n (way (hasN A) n) from Z4h fun a b _ _ => by unfold starS; simp]
        rfl) (by omega) ?_
  intro m hm
  simp only [↓Z1d, ↓Z2b, ↓Z1t, ↓Z05, ↓Z20, ↓Z1c, ↓Z0i, ↓Z12, ↓Z1z, ↓Z2z, ↓Z23, ↓Z1s, ↓Z1y, ↓Z3m, ↓Z3v, ↓Z3q, ↓Z0h, Z4d, Z0a, Z32, Z35, evN, Z1x, Z34, Z1w, Z1v, Z2x, evT, Opd.ev, Z04, Z01, Z33, Z3x, Z3o, Z2w, Z2y, Z14, Z3r, LOp.isNew, State.prune, Heap.at, Z0g, Z02, rowW, Z24, Z15, w_or, Z42, Z03, Z09, Z00, Z21, Z06, Z4i, Z4g, binT, binQ, resQ, resV, resT, putRow, Z25, Nat.le_refl, ↓reduceIte, Nat.reduceBEq, List.length_cons, List.length_nil, List.replicate_zero, List.nil_append, List.append_nil, List.map_cons, List.map_nil, List.set_cons_zero, List.getD_cons_zero, List.drop_zero, List.drop_succ_cons, List.take_zero, true_and, and_true, and_self, Nat.reduceLT, Nat.zero_add, Nat.add_zero, Bool.false_eq_true]
  refine ⟨fun c => ?_, fun c => ?_⟩
  · have c' : m < n := by omega
    rw [Z4l c' (by unfold maxLen; omega), wrapU (k := m) (by omega)]
    simp only [Z06]
    rw [Z53]
    refine ⟨by omega, by omega, by omega, by omega, by omega, ?_⟩
    refine Z3p.mk [0] (m + 1) (by simp) (by simp) ?_ (by show m + 1 ≤ n; omega) (by show n - (m + 1) < n - m; omega)
    rw [mkR_set (q := starS A n (m + 1)) c']
    · simp only [State.can, AV.can, HO.can, idx, Z04, Z01, Heap.at, Nat.reduceBEq, ↓reduceIte, Option.getD_some, Option.map_some, List.map_cons, List.map_nil, List.getD_cons_zero]
    · intro k hk
      rw [BitVec.getLsbD_or, mkR_get c', one_shl (by omega)]
      unfold starS
      by_cases hkn : k < n
      · by_cases e1 : m = k
        · subst e1; simp [hkn, hk]
        · simp [hkn, hk, e1]
      · have : ¬ m = k := by omega
        simp [hkn, this]
    · intro a k ha hk hne
      unfold starS
      have : decide (a < m + 1) = decide (a < m) := by simp; omega
      rw [this]
  · have : m = n := by omega
    subst this
    have : mkR m (starS A m m) = starG A := by
      unfold starG
      rw [hn]
      apply Z4h
      intro a b ha hb
      unfold starS
      simp [ha]
    rw [this]
    exact .inl ⟨0, true, by simp [starG, Z53, hn], rfl⟩

def ringG (R : List W) : Bool := (List.range (szR R)).any fun i => way (hasN R) (szR R) i i
def sp_Ring : Sp := ⟨List W × Bool, fun x => [.d (.list (x.1.map rowW) x.2)], fun x => .data (x.1.length ≤ maxLen) (.d (.bool (ringG x.1))) true⟩
theorem at_Ring (A : List W) (e : Bool) : sp_Ring.at [.d (.list (A.map rowW) e)] = .data (A.length ≤ maxLen) (.d (.bool (ringG A))) true :=
  Sp.at_enc (s := sp_Ring) (fun x y h => by
    obtain ⟨a, b⟩ := x; obtain ⟨a', b'⟩ := y
    simp only [sp_Ring, List.cons.injEq, AV.d.injEq, DV.list.injEq, and_true] at h
    rw [Z4n Z51 h.1, h.2]) (A, e)
theorem body_rel_Ring {T : Tab} {n1 : Nat} (k1 : Knows T n1 sp_Plus) : sp_Ring.Body T V_rel_Ring (L_rel_Ring n1) R_rel_Ring := by
  have F1 := k1.F; have G1 := k1.G
  rintro ⟨A, e⟩ h1
  have h1 : A.length ≤ maxLen := h1
  refine .inl ⟨rfl, ?_⟩
  unfold V_rel_Ring L_rel_Ring R_rel_Ring
  simp only [↓Z05, ↓Z20, ↓Z0i, ↓Z1u, ↓Z12, ↓Z1z, ↓Z1y, Z4d, Z0a, Z32, Z35, evN, Z2s, Z1x, Z34, Z1w, Z19, Z1v, evT, Opd.ev, Z04, Z01, Z33, Z3o, Z22, Z14, Z3r, LOp.isNew, State.prune, Z17, Z4o, List.length_map, Z2e, Z3l, fnOf, Z3k, Z4f, Z25, ↓reduceIte, Nat.reduceBEq, List.length_nil, List.replicate_succ, List.replicate_zero, List.nil_append, List.append_nil, List.map_cons, List.map_nil, List.set_cons_zero, List.flatten_cons, List.flatten_nil, true_and, and_true, or_true, Nat.zero_add, Nat.add_zero, Bool.false_eq_true, sp_Ring, F1, G1, at_Plus]
  have hle := szR_le A
  have hl : (plusG A).length = szR A := Z53
  have hp : plusG A = mkR (szR A) (way (hasN A) (szR A)) := rfl
  rw [hl]
  have hr : ringG A = (List.range (szR A)).any fun i => way (hasN A) (szR A) i i := rfl
  generalize szR A = n at *
  refine ⟨h1, ?_⟩
  refine Loop.fam [6, 7, 8] (fun m : Nat => ⟨[(6, .ref 0 1 0 n true), (7, .d (.int .i64 n)), (8, .d (.int .i64 m))],
      [.dvec 1 ((plusG A).map rowW)]⟩) (fun m => m ≤ n ∧ ∀ i, i < m → way (hasN A) n i i = false) (fun m => n - m) 0 [0] (by simp) (by simp) (by simp only [State.can, AV.can, HO.can, idx, Z04, Z01, Heap.at, Nat.reduceBEq, ↓reduceIte, Option.getD_some, Option.map_some, List.map_cons, List.map_nil, List.getD_cons_zero]; rfl) ⟨by omega, fun i hi => by omega⟩ ?_
  rintro m ⟨hm, hno⟩
  simp only [↓Z1d, ↓Z2b, ↓Z1t, ↓Z05, ↓Z20, ↓Z1c, ↓Z0i, ↓Z12, ↓Z1z, ↓Z2z, ↓Z30, ↓Z23, ↓Z1s, ↓Z28, ↓Z1y, ↓Z3m, ↓Z3v, ↓Z3q, ↓Z44, ↓Z0h, Z4d, Z0a, Z32, Z35, evN, Z1x, Z34, Z1w, Z1v, Z2x, evT, Opd.ev, Z04, Z01, Z33, Z2w, Z2y, Z14, Z3r, LOp.isNew, State.prune, Heap.at, Z0g, Z02, rowW, Z15, Z45, Z4s, Z4u, Z4w, Bool.decide_eq_true, Z03, Z21, Z06, Z4i, Z4g, binT, binQ, resQ, resV, resT, Z25, RetS, AV.d.injEq, DV.bool.injEq, ↓reduceIte, Nat.reduceBEq, List.length_cons, List.length_nil, List.replicate_zero, List.append_nil, List.map_cons, List.map_nil, List.getD_cons_zero, true_and, and_true, Nat.reduceLT, Nat.zero_add, Nat.add_zero, Bool.false_eq_true]
  refine ⟨fun c => ?_, fun c => ?_⟩
  · have c' : m < n := by omega
    rw [Z4l c' (by unfold maxLen; omega), wrapU (k := m) (by omega)]
    simp only [Z06]
    rw [hl, hp, mkR_get c']
    simp only [decide_eq_true c', decide_eq_true (by omega : m < 64), Bool.true_and]
    refine ⟨by omega, by omega, by omega, fun hb => ?_, fun hb => ?_⟩
    · rw [hr]; symm
      rw [List.any_eq_true]
      exact ⟨m, by simpa using c', hb⟩
    · refine Z3p.mk [0] (m + 1) (by simp) (by simp) (by simp only [State.can, AV.can, HO.can, idx, Z04, Z01, Heap.at, Nat.reduceBEq, ↓reduceIte, Option.getD_some, Option.map_some, List.map_cons, List.map_nil, List.getD_cons_zero]) ⟨by omega, fun i hi => ?_⟩ (by omega)
      by_cases e1 : i = m
      · subst e1; simpa using hb
      · exact hno i (by omega)
  · have : m = n := by omega
    subst this
    rw [hr]; symm
    rw [List.any_eq_false]
    intro i hi
    rw [hno i (by simpa using hi)]; simp

/-! ### Of pairs -/
/-! ### Order -/
def freeK (B : List W) (told : W) (k : Nat) : Bool := !told.getLsbD k && decide (B.getD k 0#64 &&& ~~~told = 0#64)
def freeAt (B : List W) (n : Nat) (told : W) : Nat := ((List.range n).find? (freeK B told)).getD n
theorem freeAt_eq {B : List W} {n a : Nat} {told : W} (hn : a ≤ n) (h : ∀ k, k < a → freeK B told k = false) (ha : a = n ∨ freeK B told a = true) : freeAt B n told = a := by
  unfold freeAt
  rcases Nat.lt_or_ge a n with hl | hl
  · have hf : freeK B told a = true := by rcases ha with ha | ha; omega; exact ha
    have e : (List.range n) = List.range a ++ (a :: (List.range (n - (a + 1))).map (fun x => (a + 1) + x)) := by
      have h1 : List.range n = List.range ((a + 1) + (n - (a + 1))) := by congr 1; omega
      rw [h1, List.range_add, List.range_succ, List.append_assoc]; rfl
    rw [e, List.find?_append, List.find?_eq_none.2 (fun x hx => by rw [h x (by simpa using hx)]; simp), Option.none_or, List.find?_cons_of_pos hf]; rfl
  · have : a = n := by omega
    subst this
    rw [List.find?_eq_none.2 (fun x hx => by rw [h x (by simpa using hx)]; simp)]; rfl
end Go.Ago

/- Contracts of package power: its small functions. Conditions: none. -/
set_option maxRecDepth 100000
set_option linter.unusedSimpArgs false
set_option linter.unusedVariables false
namespace Go.Ago

/-! ### Rows that a call made, taken as data -/
def SpecR.dat : SpecR → SpecR
  | .rows ok _ l => .data ok (.d (.list l false)) true
  | o => o
def Sp.dat (s : Sp) : Sp := ⟨s.A, s.enc, fun x => (s.out x).dat⟩
theorem Sp.at_dat (s : Sp) (args : List AV) : s.dat.at args = (s.at args).dat := by
  unfold Sp.at
  by_cases h : ∃ x, s.enc x = args
  · have h' : ∃ x, s.dat.enc x = args := h
    rw [dif_pos h, dif_pos h']
    rfl
  · have h' : ¬ ∃ x, s.dat.enc x = args := h
    rw [dif_neg h, dif_neg h']
    rfl
theorem SpecR.dat_rows (ok : Prop) (sz : Nat) (l : List (List DV)) : (SpecR.rows ok sz l).dat = .data ok (.d (.list l false)) true := rfl
theorem retRows_retF {sz : Nat} {rows : List (List DV)} (hs : ∀ r ∈ rows, ∀ x ∈ r, DV.scal x = true) {r : AV} {H : Heap} (h : RetRows sz rows r H) : RetF (.d (.list rows false)) r H := by
  rcases h with ⟨id, room, rfl, hat⟩ | ⟨rfl, rfl⟩
  · constructor
    · simp [AV.frz, hat]
    · simpa [AV.freshP, hat] using hs
  · constructor
    · rfl
    · rfl
theorem retK_mono {rs : List LRes} {P Q : AV → Heap → Prop} (h : ∀ r H, P r H → Q r H) : ∀ x S, retK rs P x S → retK rs Q x S := by
  intro x S hk
  cases x with
  | exit => exact hk
  | normal => exact ⟨hk.1, h _ _ hk.2⟩
  | ret => exact ⟨hk.1, h _ _ hk.2⟩
theorem Sp.Body.dat {s : Sp} {T : Tab} {live : List Nat} {lc : LCode} {rs : List LRes} (h : s.Body T live lc rs)
    (hs : ∀ x ok sz l, s.out x = .rows ok sz l → ∀ r ∈ l, ∀ y ∈ r, DV.scal y = true) : s.dat.Body T live lc rs := by
  intro x
  have hx := h x
  have hsx := hs x
  show ((s.out x).dat).asks _
  revert hx hsx
  cases s.out x with
  | data ok val fresh => exact fun hx _ => hx
  | none => exact fun _ _ => trivial
  | rows ok sz l =>
    intro hx hsx hok
    obtain ⟨_, h2⟩ := hx hok
    exact .inr ⟨rfl, vck_mono _ _ _ _ (retK_mono fun r H h => retRows_retF (hsx ok sz l rfl) h) h2⟩
theorem scal_W {l : List W} : ∀ r ∈ l.map rowW, ∀ y ∈ r, DV.scal y = true := Z17.2 trivial

theorem frz_end {l : List W} {n : Nat} (h : l.length = n) : (if n ≤ l.length then some (AV.d (.list ((l.take n).map rowW) false)) else none) = some (.d (.list (l.map rowW) false)) := by
  subst h; simp

/-! ### Rows by a rule -/
def mapW (n : Nat) (f : Nat → W) : List W := (List.range n).map f
theorem mapW_len {n : Nat} {f : Nat → W} : (mapW n f).length = n := by simp [mapW]
theorem mapW_get {n i : Nat} {f : Nat → W} (hi : i < n) : (mapW n f).getD i 0#64 = f i := by
  rw [List.getD_eq_getElem?_getD, mapW, List.getElem?_map, List.getElem?_range hi]; rfl
theorem list_ext0 {l l' : List W} (hl : l.length = l'.length) (h : ∀ i, i < l.length → l.getD i 0#64 = l'.getD i 0#64) : l = l' := by
  apply List.ext_getElem hl
  intro i h1 h2
  have := h i h1
  rwa [getD_lt h1, getD_lt h2] at this
theorem mapW_set {n i : Nat} {f g : Nat → W} {x : W} (hi : i < n) (hx : x = g i) (ho : ∀ a, a < n → a ≠ i → g a = f a) : (mapW n f).set i x = mapW n g := by
  apply list_ext0 (by simp [mapW_len])
  intro a ha
  rw [List.length_set, mapW_len] at ha
  rw [getD_set (by rw [mapW_len]; exact hi), mapW_get ha]
  by_cases e : i = a
  · subst e; rw [if_pos rfl, hx, mapW_get hi]
  · rw [if_neg e, mapW_get ha, ho a ha (Ne.symm e)]
theorem mapW_congr {n : Nat} {f g : Nat → W} (h : ∀ a, a < n → f a = g a) : mapW n f = mapW n g := by
  apply list_ext0 (by simp [mapW_len])
  intro a ha
  rw [mapW_len] at ha
  rw [mapW_get ha, mapW_get ha, h a ha]
theorem mapW_zero {n : Nat} {f : Nat → W} (h : ∀ a, a < n → f a = 0#64) : List.replicate n 0#64 = mapW n f := by
  apply list_ext0 (by simp [mapW_len])
  intro a ha
  rw [List.length_replicate] at ha
  rw [mapW_get ha, h a ha, List.getD_eq_getElem?_getD, List.getElem?_replicate, if_pos ha]; rfl

/-! ### keep -/
def keepG (r : List W) (a b : W) : List W := mapW r.length fun i => if a.getLsbD i then r.getD i 0#64 &&& b else 0#64
def keepS (r : List W) (a b : W) (i j : Nat) : W := if j < i then (if a.getLsbD j then r.getD j 0#64 &&& b else 0#64) else 0#64
def sp_keep : Sp := ⟨List W × Bool × W × W, fun x => [.d (.list (x.1.map rowW) x.2.1), .d (.int .u64 (x.2.2.1.toNat : Int)), .d (.int .u64 (x.2.2.2.toNat : Int))],
  fun x => .data (x.1.length ≤ 64) (.d (.list ((keepG x.1 x.2.2.1 x.2.2.2).map rowW) false)) true⟩
theorem at_keep (l : List W) (f : Bool) (a b : W) : sp_keep.at [.d (.list (l.map rowW) f), .d (.int .u64 (a.toNat : Int)), .d (.int .u64 (b.toNat : Int))] = .data (l.length ≤ 64) (.d (.list ((keepG l a b).map rowW) false)) true :=
  Sp.at_enc (s := sp_keep) (fun x y h => by
    obtain ⟨a, b, c, d⟩ := x; obtain ⟨a', b', c', d'⟩ := y
    simp only [sp_keep, List.cons.injEq, AV.d.injEq, DV.list.injEq, DV.int.injEq, and_true, true_and] at h
    rw [Z4n Z51 h.1.1, h.1.2, W.inj h.2.1, W.inj h.2.2]) (l, f, a, b)
theorem body_power_keep {T : Tab} : sp_keep.Body T V_power_keep L_power_keep R_power_keep := by
  rintro ⟨l, f, a, b⟩ h1
  have h1 : l.length ≤ 64 := h1
  refine .inr ⟨rfl, ?_⟩
  unfold V_power_keep L_power_keep R_power_keep
  simp only [↓Z1d, ↓Z2b, ↓Z1t, ↓Z05, ↓Z2q, ↓Z2k, Z49, Z4a, ↓Z20, ↓Z1c, ↓Z0i, ↓Z1u, ↓Z12, ↓Z1z, ↓Z2z, ↓Z30, ↓Z23, ↓Z1s, ↓Z2d, ↓Z28, ↓Z1y, ↓Z3m, ↓Z46, ↓Z3e, ↓Z3g, ↓Z3f, ↓Z3v, ↓Z3q, ↓Z44, ↓Z0j, ↓Z0b, ↓Z16, ↓Z0h, ↓Z1g, Z4d, Z0a, Z18, Z32, Z1a, Z35, evN, Z2s, Z1x, Z34, Z41, Z1w, Z19, Z1v, Z2p, Z2a, Z29, Z1e, Z2x, evT, Opd.ev, Z04, Z01, Z33, Z3x, Z3o, Z26, Z1f, Z2w, Z2y, Z3c, Z22, Z14, Z3r, LOp.isNew, State.prune, Z3s, Z3j, AV.leaf, Heap.at, Z0g, Z08, Z1m, Z0e, Z02, Z4x, Z4t, rowW, Z24, Z2t, Z1p, Z1b, rowB, Z2v, Z2u, rowN, Z4b, Z3h, Z17, Z15, w_or, Z4r, Z2r, Z45, Z50, Z42, Z4s, Z47, Z4z, Z4y, Z4u, Z4v, Z4w, w_eq, Bool.decide_eq_true, Z3b, Z3a, Z39, Z2f, Z1h, Z03, Z09, Z11, Z00, Z21, rowI, RatG.row, LocG.row, ActG.row, StepG.row, StampG.row, ActG.av, ActG.eta, RatG.eta, LocG.eta, beq_true, beq_false, Z2j, Z2o, Z2c, Z2l, Z10, Z0n, Z0y, Z0z, Z0m, Z0l, Z0c, List.length_set, List.length_replicate, Z06, Int.reduceToNat, Z4o, Z27, Z4e, Src.all, Src.len, Src.leaf, Src.leafN, Z37, Z3z, Z4k, Z0k, Z0o, Z0p, Z0q, Z0r, Z0s, Z0t, Z0u, Z4m, drows, evMk, List.length_map, Z1r, Z1q, List.take_length, List.take_left, List.length_append, Nat.le_add_right, ite_self, List.take_of_length_le, Z38, Z4j, Z3w, Option.isSome_none, Option.isSome_some, Nat.sub_zero, Z4i, Z4p, Z4g, evUn, Z0v, Z13, binT, binQ, chk, Z3t, List.contains_cons, List.contains_nil, Bool.or_false, Bool.false_or, Bool.and_self, resQ, resV, resT, Z4q, Z2e, Z43, Z3l, fnOf, Z3k, isD, HO.drow, Z4f, Z3u, evEq, eqV, eqK, eqC1, Z40, Z3y, Z36, Z31, Z48, Z3d, Z2i, Z1k, Z2h, Z1j, Z2g, Z1i, Z1l, Z0w, Z0x, Z0d, List.mem_cons, List.not_mem_nil, or_false, forall_eq, putRow, Z3n, Z25, RetS, RetF, RetD, AV.frz, AV.frzL, AV.freshP, AV.freshL, DV.less, Z2m, Z1n, Z2n, Z1o, Z0f, Z07, Option.some.injEq, AV.tup.injEq, AV.agg.injEq, List.cons.injEq, DV.list.injEq, List.isEmpty_nil, Nat.le_refl, AV.d.injEq, DV.int.injEq, DV.bool.injEq, ↓reduceIte, Nat.reduceEqDiff, Nat.reduceAdd, Nat.reduceBEq, List.length_cons, List.length_nil, List.replicate_succ, List.replicate_zero, List.nil_append, List.cons_append, List.append_nil, List.foldl_cons, List.foldl_nil, List.map_cons, List.map_nil, List.all_cons, List.all_nil, List.set_cons_zero, List.set_cons_succ, List.getD_cons_zero, List.getD_cons_succ, List.drop_zero, List.drop_succ_cons, List.take_succ_cons, List.take_zero, List.flatten_cons, List.flatten_nil, Bool.true_and, Bool.and_true, Bool.not_true, Bool.not_false, true_and, and_true, true_or, or_true, Option.bind_some, Option.map_some, decide_true, decide_false, beq_self_eq_true, true_implies, false_implies, implies_true, not_true_eq_false, not_false_eq_true, and_self, Bool.and_false, Bool.false_and, Nat.reduceLT, Nat.reduceLeDiff, List.reverse_cons, List.reverse_nil, Nat.zero_add, Nat.add_zero, Bool.false_eq_true, List.getElem?_cons_zero, Nat.reduceMul, Nat.mul_one, sp_keep]
  refine ⟨⟨by omega, by omega, roomy_of (by omega) (by omega)⟩, ?_⟩
  refine Loop.fam [1, 2, 7, 13, 14, 15] (fun i : Nat => ⟨[(1, .d (.int .u64 (a.toNat : Int))), (2, .d (.int .u64 (b.toNat : Int))), (7, .ref 0 1 0 l.length true), (13, .d (.list (l.map rowW) f)), (14, .d (.int .i64 l.length)), (15, .d (.int .i64 i))],
      [.dvec 1 ((mapW l.length (keepS l a b i)).map rowW)]⟩) (fun i => i ≤ l.length) (fun i => l.length - i) 0 [0] (by simp) (by simp) (by
        simp only [State.can, AV.can, AV.canL, HO.can, Z3i, idx, Z04, Z01, Heap.at, Nat.reduceBEq, ↓reduceIte, Nat.reduceEqDiff, Option.getD_some, Option.map_some, List.map_cons, List.map_nil, List.getD_cons_zero, List.getD_cons_succ]
        rw [mapW_zero (f := keepS l a b 0) (fun j _ => by unfold keepS; rw [if_neg (by omega)])]
        rfl) (by omega) ?_
  intro i hi
  simp only [↓Z1d, ↓Z2b, ↓Z1t, ↓Z05, ↓Z2q, ↓Z2k, Z49, Z4a, ↓Z20, ↓Z1c, ↓Z0i, ↓Z1u, ↓Z12, ↓Z1z, ↓Z2z, ↓Z30, ↓Z23, ↓Z1s, ↓Z2d, ↓Z28, ↓Z1y, ↓Z3m, ↓Z46, ↓Z3e, ↓Z3g, ↓Z3f, ↓Z3v, ↓Z3q, ↓Z44, ↓Z0j, ↓Z0b, ↓Z16, ↓Z0h, ↓Z1g, Z4d, Z0a, Z18, Z32, Z1a, Z35, evN, Z2s, Z1x, Z34, Z41, Z1w, Z19, Z1v, Z2p, Z2a, Z29, Z1e, Z2x, evT, Opd.ev, Z04, Z01, Z33, Z3x, Z3o, Z26, Z1f, Z2w, Z2y, Z3c, Z22, Z14, Z3r, LOp.isNew, State.prune, Z3s, Z3j, AV.leaf, Heap.at, Z0g, Z08, Z1m, Z0e, Z02, Z4x, Z4t, rowW, Z24, Z2t, Z1p, Z1b, rowB, Z2v, Z2u, rowN, Z4b, Z3h, Z17, Z15, w_or, Z4r, Z2r, Z45, Z50, Z42, Z4s, Z47, Z4z, Z4y, Z4u, Z4v, Z4w, w_eq, Bool.decide_eq_true, Z3b, Z3a, Z39, Z2f, Z1h, Z03, Z09, Z11, Z00, Z21, rowI, RatG.row, LocG.row, ActG.row, StepG.row, StampG.row, ActG.av, ActG.eta, RatG.eta, LocG.eta, beq_true, beq_false, Z2j, Z2o, Z2c, Z2l, Z10, Z0n, Z0y, Z0z, Z0m, Z0l, Z0c, List.length_set, List.length_replicate, Z06, Int.reduceToNat, Z4o, Z27, Z4e, Src.all, Src.len, Src.leaf, Src.leafN, Z37, Z3z, Z4k, Z0k, Z0o, Z0p, Z0q, Z0r, Z0s, Z0t, Z0u, Z4m, drows, evMk, List.length_map, Z1r, Z1q, List.take_length, List.take_left, List.length_append, Nat.le_add_right, ite_self, List.take_of_length_le, Z38, Z4j, Z3w, Option.isSome_none, Option.isSome_some, Nat.sub_zero, Z4i, Z4p, Z4g, evUn, Z0v, Z13, binT, binQ, chk, Z3t, List.contains_cons, List.contains_nil, Bool.or_false, Bool.false_or, Bool.and_self, resQ, resV, resT, Z4q, Z2e, Z43, Z3l, fnOf, Z3k, isD, HO.drow, Z4f, Z3u, evEq, eqV, eqK, eqC1, Z40, Z3y, Z36, Z31, Z48, Z3d, Z2i, Z1k, Z2h, Z1j, Z2g, Z1i, Z1l, Z0w, Z0x, Z0d, List.mem_cons, List.not_mem_nil, or_false, forall_eq, putRow, Z3n, Z25, RetS, RetF, RetD, AV.frz, AV.frzL, AV.freshP, AV.freshL, DV.less, Z2m, Z1n, Z2n, Z1o, Z0f, Z07, Option.some.injEq, AV.tup.injEq, AV.agg.injEq, List.cons.injEq, DV.list.injEq, List.isEmpty_nil, Nat.le_refl, AV.d.injEq, DV.int.injEq, DV.bool.injEq, ↓reduceIte, Nat.reduceEqDiff, Nat.reduceAdd, Nat.reduceBEq, List.length_cons, List.length_nil, List.replicate_succ, List.replicate_zero, List.nil_append, List.cons_append, List.append_nil, List.foldl_cons, List.foldl_nil, List.map_cons, List.map_nil, List.all_cons, List.all_nil, List.set_cons_zero, List.set_cons_succ, List.getD_cons_zero, List.getD_cons_succ, List.drop_zero, List.drop_succ_cons, List.take_succ_cons, List.take_zero, List.flatten_cons, List.flatten_nil, Bool.true_and, Bool.and_true, Bool.not_true, Bool.not_false, true_and, and_true, true_or, or_true, Option.bind_some, Option.map_some, decide_true, decide_false, beq_self_eq_true, true_implies, false_implies, implies_true, not_true_eq_false, not_false_eq_true, and_self, Bool.and_false, Bool.false_and, Nat.reduceLT, Nat.reduceLeDiff, List.reverse_cons, List.reverse_nil, Nat.zero_add, Nat.add_zero, Bool.false_eq_true, List.getElem?_cons_zero, Nat.reduceMul, Nat.mul_one]
  refine ⟨fun c => ?_, fun c => ?_⟩
  · have c' : i < l.length := by omega
    rw [wrapU (k := i) (by omega)]
    simp only [Z06, mapW_len]
    refine ⟨⟨by omega, by omega⟩, by omega, fun hb => ⟨⟨by omega, by omega⟩, c', ?_⟩, fun hb => ?_⟩
    all_goals
      rw [Z4l c' (by unfold maxLen; omega)]
      refine Z3p.mk [0] (i + 1) (by simp) (by simp) ?_ (by omega) (by omega)
    · rw [mapW_set (g := keepS l a b (i + 1)) c' (by unfold keepS; rw [if_pos (by omega), if_pos hb]) (fun j hj hne => by
        unfold keepS
        by_cases e : j < i
        · rw [if_pos (by omega), if_pos e]
        · rw [if_neg (by omega), if_neg e])]
      simp only [State.can, AV.can, AV.canL, HO.can, Z3i, idx, Z04, Z01, Heap.at, Nat.reduceBEq, ↓reduceIte, Nat.reduceEqDiff, Option.getD_some, Option.map_some, List.map_cons, List.map_nil, List.getD_cons_zero, List.getD_cons_succ]
    · rw [show mapW l.length (keepS l a b i) = mapW l.length (keepS l a b (i + 1)) from mapW_congr fun j hj => by
        unfold keepS
        by_cases e : j < i
        · rw [if_pos e, if_pos (show j < i + 1 by omega)]
        · rw [if_neg e]
          by_cases e2 : j = i
          · subst e2; rw [if_pos (by omega), hb]; rfl
          · rw [if_neg (by omega)]]
      simp only [State.can, AV.can, AV.canL, HO.can, Z3i, idx, Z04, Z01, Heap.at, Nat.reduceBEq, ↓reduceIte, Nat.reduceEqDiff, Option.getD_some, Option.map_some, List.map_cons, List.map_nil, List.getD_cons_zero, List.getD_cons_succ]
  · have : i = l.length := by omega
    subst this
    have e : mapW l.length (keepS l a b l.length) = keepG l a b := mapW_congr fun j hj => by unfold keepS; rw [if_pos hj]
    rw [e]
    exact frz_end (by simp [keepG, mapW_len])

/-! ### Two loops, bit by bit -/
/-- Rows ahead of i are done, and row i up to k. -/
def upS (p : Nat → Nat → Bool) (i k a b : Nat) : Bool := (decide (a < i) || decide (a = i) && decide (b < k)) && p a b
theorem upS_zero (p : Nat → Nat → Bool) (a b : Nat) : upS p 0 0 a b = false := by simp [upS]
theorem upS_next (p : Nat → Nat → Bool) {n : Nat} (i : Nat) : mkR n (upS p i n) = mkR n (upS p (i + 1) 0) := Z4h fun a b ha hb => by
  unfold upS
  by_cases e : a < i
  · have : a < i + 1 := by omega
    simp [e, this]
  · by_cases e2 : a = i
    · subst e2; simp [hb]
    · have : ¬ a < i + 1 := by omega
      simp [e, e2, this]
theorem upS_end (p : Nat → Nat → Bool) {n : Nat} : mkR n (upS p n 0) = mkR n p := Z4h fun a b ha hb => by simp [upS, ha]
theorem upS_no (p : Nat → Nat → Bool) {n i k : Nat} (h : p i k = false) : mkR n (upS p i k) = mkR n (upS p i (k + 1)) := Z4h fun a b ha hb => by
  unfold upS
  by_cases e : a = i
  · subst e
    by_cases e2 : b = k
    · subst e2; simp [h]
    · have : decide (b < k) = decide (b < k + 1) := by congr 1; apply propext; omega
      rw [this]
  · simp [e]
theorem upS_yes (p : Nat → Nat → Bool) {n i k : Nat} (hi : i < n) (hk : k < n) (hn : n ≤ 64) (h : p i k = true) : (mkR n (upS p i k)).set i ((mkR n (upS p i k)).getD i 0#64 ||| 1#64 <<< k) = mkR n (upS p i (k + 1)) := by
  apply mkR_set hi
  · intro b hb
    rw [BitVec.getLsbD_or, mkR_get hi, one_shl (by omega)]
    unfold upS
    by_cases e : k = b
    · subst e; simp [hk, h]
    · have : decide (b < k) = decide (b < k + 1) := by congr 1; apply propext; omega
      simp [e, this, hb]
  · intro a b ha hb hne
    unfold upS
    simp [hne]

/-! ### fit -/
def fitG (r : List W) (n : Nat) : List W := mkR n (hasN r)
def sp_fit : Sp := ⟨List W × Bool × Nat, fun x => [.d (.list (x.1.map rowW) x.2.1), .d (.int .i64 (x.2.2 : Int))],
  fun x => .data (x.1.length ≤ maxLen ∧ x.2.2 ≤ 64) (.d (.list ((fitG x.1 x.2.2).map rowW) false)) true⟩
theorem at_fit (l : List W) (f : Bool) (n : Nat) : sp_fit.at [.d (.list (l.map rowW) f), .d (.int .i64 (n : Int))] = .data (l.length ≤ maxLen ∧ n ≤ 64) (.d (.list ((fitG l n).map rowW) false)) true :=
  Sp.at_enc (s := sp_fit) (fun x y h => by
    obtain ⟨a, b, c⟩ := x; obtain ⟨a', b', c'⟩ := y
    simp only [sp_fit, List.cons.injEq, AV.d.injEq, DV.list.injEq, DV.int.injEq, and_true, true_and] at h
    rw [Z4n Z51 h.1.1, h.1.2, Int.ofNat.inj h.2]) (l, f, n)
theorem body_power_fit {T : Tab} {n1 : Nat} (k1 : Knows T n1 sp_Has) : sp_fit.Body T V_power_fit (L_power_fit n1) R_power_fit := by
  have F1 := k1.F; have G1 := k1.G
  rintro ⟨l, f, n⟩ ⟨h1, h2⟩
  have h1 : l.length ≤ maxLen := h1
  have h2 : n ≤ 64 := h2
  refine .inr ⟨rfl, ?_⟩
  unfold V_power_fit L_power_fit R_power_fit
  simp only [↓Z1d, ↓Z2b, ↓Z1t, ↓Z05, ↓Z2q, ↓Z2k, Z49, Z4a, ↓Z20, ↓Z1c, ↓Z0i, ↓Z1u, ↓Z12, ↓Z1z, ↓Z2z, ↓Z30, ↓Z23, ↓Z1s, ↓Z2d, ↓Z28, ↓Z1y, ↓Z3m, ↓Z46, ↓Z3e, ↓Z3g, ↓Z3f, ↓Z3v, ↓Z3q, ↓Z44, ↓Z0j, ↓Z0b, ↓Z16, ↓Z0h, ↓Z1g, Z4d, Z0a, Z18, Z32, Z1a, Z35, evN, Z2s, Z1x, Z34, Z41, Z1w, Z19, Z1v, Z2p, Z2a, Z29, Z1e, Z2x, evT, Opd.ev, Z04, Z01, Z33, Z3x, Z3o, Z26, Z1f, Z2w, Z2y, Z3c, Z22, Z14, Z3r, LOp.isNew, State.prune, Z3s, Z3j, AV.leaf, Heap.at, Z0g, Z08, Z1m, Z0e, Z02, Z4x, Z4t, rowW, Z24, Z2t, Z1p, Z1b, rowB, Z2v, Z2u, rowN, Z4b, Z3h, Z17, Z15, w_or, Z4r, Z2r, Z45, Z50, Z42, Z4s, Z47, Z4z, Z4y, Z4u, Z4v, Z4w, w_eq, Bool.decide_eq_true, Z3b, Z3a, Z39, Z2f, Z1h, Z03, Z09, Z11, Z00, Z21, rowI, RatG.row, LocG.row, ActG.row, StepG.row, StampG.row, ActG.av, ActG.eta, RatG.eta, LocG.eta, beq_true, beq_false, Z2j, Z2o, Z2c, Z2l, Z10, Z0n, Z0y, Z0z, Z0m, Z0l, Z0c, List.length_set, List.length_replicate, Z06, Int.reduceToNat, Z4o, Z27, Z4e, Src.all, Src.len, Src.leaf, Src.leafN, Z37, Z3z, Z4k, Z0k, Z0o, Z0p, Z0q, Z0r, Z0s, Z0t, Z0u, Z4m, drows, evMk, List.length_map, Z1r, Z1q, List.take_length, List.take_left, List.length_append, Nat.le_add_right, ite_self, List.take_of_length_le, Z38, Z4j, Z3w, Option.isSome_none, Option.isSome_some, Nat.sub_zero, Z4i, Z4p, Z4g, evUn, Z0v, Z13, binT, binQ, chk, Z3t, List.contains_cons, List.contains_nil, Bool.or_false, Bool.false_or, Bool.and_self, resQ, resV, resT, Z4q, Z2e, Z43, Z3l, fnOf, Z3k, isD, HO.drow, Z4f, Z3u, evEq, eqV, eqK, eqC1, Z40, Z3y, Z36, Z31, Z48, Z3d, Z2i, Z1k, Z2h, Z1j, Z2g, Z1i, Z1l, Z0w, Z0x, Z0d, List.mem_cons, List.not_mem_nil, or_false, forall_eq, putRow, Z3n, Z25, RetS, RetF, RetD, AV.frz, AV.frzL, AV.freshP, AV.freshL, DV.less, Z2m, Z1n, Z2n, Z1o, Z0f, Z07, Option.some.injEq, AV.tup.injEq, AV.agg.injEq, List.cons.injEq, DV.list.injEq, List.isEmpty_nil, Nat.le_refl, AV.d.injEq, DV.int.injEq, DV.bool.injEq, ↓reduceIte, Nat.reduceEqDiff, Nat.reduceAdd, Nat.reduceBEq, List.length_cons, List.length_nil, List.replicate_succ, List.replicate_zero, List.nil_append, List.cons_append, List.append_nil, List.foldl_cons, List.foldl_nil, List.map_cons, List.map_nil, List.all_cons, List.all_nil, List.set_cons_zero, List.set_cons_succ, List.getD_cons_zero, List.getD_cons_succ, List.drop_zero, List.drop_succ_cons, List.take_succ_cons, List.take_zero, List.flatten_cons, List.flatten_nil, Bool.true_and, Bool.and_true, Bool.not_true, Bool.not_false, true_and, and_true, true_or, or_true, Option.bind_some, Option.map_some, decide_true, decide_false, beq_self_eq_true, true_implies, false_implies, implies_true, not_true_eq_false, not_false_eq_true, and_self, Bool.and_false, Bool.false_and, Nat.reduceLT, Nat.reduceLeDiff, List.reverse_cons, List.reverse_nil, Nat.zero_add, Nat.add_zero, Bool.false_eq_true, List.getElem?_cons_zero, Nat.reduceMul, Nat.mul_one, sp_fit, F1, G1, at_Has]
  have hz : List.replicate n 0#64 = mkR n (upS (hasN l) 0 0) := mkR_zero (fun a b _ _ => upS_zero _ a b)
  rw [hz]
  refine ⟨⟨by omega, by omega, roomy_of (by omega) (by omega)⟩, ?_⟩
  refine Loop.fam [0, 5, 11, 12] (fun i : Nat => ⟨[(0, .d (.list (l.map rowW) f)), (5, .ref 0 1 0 n true), (11, .d (.int .i64 n)), (12, .d (.int .i64 i))],
      [.dvec 1 ((mkR n (upS (hasN l) i 0)).map rowW)]⟩) (fun i => i ≤ n) (fun i => n - i) 0 [0] (by simp) (by simp) (by simp only [State.can, AV.can, AV.canL, HO.can, Z3i, idx, Z04, Z01, Heap.at, Nat.reduceBEq, ↓reduceIte, Nat.reduceEqDiff, Option.getD_some, Option.map_some, List.map_cons, List.map_nil, List.getD_cons_zero, List.getD_cons_succ]; rfl) (by omega) ?_
  intro i hi
  simp only [↓Z1d, ↓Z2b, ↓Z1t, ↓Z05, ↓Z2q, ↓Z2k, Z49, Z4a, ↓Z20, ↓Z1c, ↓Z0i, ↓Z1u, ↓Z12, ↓Z1z, ↓Z2z, ↓Z30, ↓Z23, ↓Z1s, ↓Z2d, ↓Z28, ↓Z1y, ↓Z3m, ↓Z46, ↓Z3e, ↓Z3g, ↓Z3f, ↓Z3v, ↓Z3q, ↓Z44, ↓Z0j, ↓Z0b, ↓Z16, ↓Z0h, ↓Z1g, Z4d, Z0a, Z18, Z32, Z1a, Z35, evN, Z2s, Z1x, Z34, Z41, Z1w, Z19, Z1v, Z2p, Z2a, Z29, Z1e, Z2x, evT, Opd.ev, Z04, Z01, Z33, Z3x, Z3o, Z26, Z1f, Z2w, Z2y, Z3c, Z22, Z14, Z3r, LOp.isNew, State.prune, Z3s, Z3j, AV.leaf, Heap.at, Z0g, Z08, Z1m, Z0e, Z02, Z4x, Z4t, rowW, Z24, Z2t, Z1p, Z1b, rowB, Z2v, Z2u, rowN, Z4b, Z3h, Z17, Z15, w_or, Z4r, Z2r, Z45, Z50, Z42, Z4s, Z47, Z4z, Z4y, Z4u, Z4v, Z4w, w_eq, Bool.decide_eq_true, Z3b, Z3a, Z39, Z2f, Z1h, Z03, Z09, Z11, Z00, Z21, rowI, RatG.row, LocG.row, ActG.row, StepG.row, StampG.row, ActG.av, ActG.eta, RatG.eta, LocG.eta, beq_true, beq_false, Z2j, Z2o, Z2c, Z2l, Z10, Z0n, Z0y, Z0z, Z0m, Z0l, Z0c, List.length_set, List.length_replicate, Z06, Int.reduceToNat, Z4o, Z27, Z4e, Src.all, Src.len, Src.leaf, Src.leafN, Z37, Z3z, Z4k, Z0k, Z0o, Z0p, Z0q, Z0r, Z0s, Z0t, Z0u, Z4m, drows, evMk, List.length_map, Z1r, Z1q, List.take_length, List.take_left, List.length_append, Nat.le_add_right, ite_self, List.take_of_length_le, Z38, Z4j, Z3w, Option.isSome_none, Option.isSome_some, Nat.sub_zero, Z4i, Z4p, Z4g, evUn, Z0v, Z13, binT, binQ, chk, Z3t, List.contains_cons, List.contains_nil, Bool.or_false, Bool.false_or, Bool.and_self, resQ, resV, resT, Z4q, Z2e, Z43, Z3l, fnOf, Z3k, isD, HO.drow, Z4f, Z3u, evEq, eqV, eqK, eqC1, Z40, Z3y, Z36, Z31, Z48, Z3d, Z2i, Z1k, Z2h, Z1j, Z2g, Z1i, Z1l, Z0w, Z0x, Z0d, List.mem_cons, List.not_mem_nil, or_false, forall_eq, putRow, Z3n, Z25, RetS, RetF, RetD, AV.frz, AV.frzL, AV.freshP, AV.freshL, DV.less, Z2m, Z1n, Z2n, Z1o, Z0f, Z07, Option.some.injEq, AV.tup.injEq, AV.agg.injEq, List.cons.injEq, DV.list.injEq, List.isEmpty_nil, Nat.le_refl, AV.d.injEq, DV.int.injEq, DV.bool.injEq, ↓reduceIte, Nat.reduceEqDiff, Nat.reduceAdd, Nat.reduceBEq, List.length_cons, List.length_nil, List.replicate_succ, List.replicate_zero, List.nil_append, List.cons_append, List.append_nil, List.foldl_cons, List.foldl_nil, List.map_cons, List.map_nil, List.all_cons, List.all_nil, List.set_cons_zero, List.set_cons_succ, List.getD_cons_zero, List.getD_cons_succ, List.drop_zero, List.drop_succ_cons, List.take_succ_cons, List.take_zero, List.flatten_cons, List.flatten_nil, Bool.true_and, Bool.and_true, Bool.not_true, Bool.not_false, true_and, and_true, true_or, or_true, Option.bind_some, Option.map_some, decide_true, decide_false, beq_self_eq_true, true_implies, false_implies, implies_true, not_true_eq_false, not_false_eq_true, and_self, Bool.and_false, Bool.false_and, Nat.reduceLT, Nat.reduceLeDiff, List.reverse_cons, List.reverse_nil, Nat.zero_add, Nat.add_zero, Bool.false_eq_true, List.getElem?_cons_zero, Nat.reduceMul, Nat.mul_one, F1, G1, at_Has]
  refine ⟨fun c => ?_, fun c => ?_⟩
  · have c' : i < n := by omega
    refine Loop.fam [0, 5, 6, 11, 12, 16, 17] (fun k : Nat => ⟨[(0, .d (.list (l.map rowW) f)), (5, .ref 0 1 0 n true), (6, .d (.int .i64 i)), (11, .d (.int .i64 n)), (12, .d (.int .i64 i)), (16, .d (.int .i64 n)), (17, .d (.int .i64 k))],
      [.dvec 1 ((mkR n (upS (hasN l) i k)).map rowW)]⟩) (fun k => k ≤ n) (fun k => n - k) 0 [0] (by simp) (by simp) (by simp only [State.can, AV.can, AV.canL, HO.can, Z3i, idx, Z04, Z01, Heap.at, Nat.reduceBEq, ↓reduceIte, Nat.reduceEqDiff, Option.getD_some, Option.map_some, List.map_cons, List.map_nil, List.getD_cons_zero, List.getD_cons_succ]; rfl) (by omega) ?_
    intro k hk
    simp only [↓Z1d, ↓Z2b, ↓Z1t, ↓Z05, ↓Z2q, ↓Z2k, Z49, Z4a, ↓Z20, ↓Z1c, ↓Z0i, ↓Z1u, ↓Z12, ↓Z1z, ↓Z2z, ↓Z30, ↓Z23, ↓Z1s, ↓Z2d, ↓Z28, ↓Z1y, ↓Z3m, ↓Z46, ↓Z3e, ↓Z3g, ↓Z3f, ↓Z3v, ↓Z3q, ↓Z44, ↓Z0j, ↓Z0b, ↓Z16, ↓Z0h, ↓Z1g, Z4d, Z0a, Z18, Z32, Z1a, Z35, evN, Z2s, Z1x, Z34, Z41, Z1w, Z19, Z1v, Z2p, Z2a, Z29, Z1e, Z2x, evT, Opd.ev, Z04, Z01, Z33, Z3x, Z3o, Z26, Z1f, Z2w, Z2y, Z3c, Z22, Z14, Z3r, LOp.isNew, State.prune, Z3s, Z3j, AV.leaf, Heap.at, Z0g, Z08, Z1m, Z0e, Z02, Z4x, Z4t, rowW, Z24, Z2t, Z1p, Z1b, rowB, Z2v, Z2u, rowN, Z4b, Z3h, Z17, Z15, w_or, Z4r, Z2r, Z45, Z50, Z42, Z4s, Z47, Z4z, Z4y, Z4u, Z4v, Z4w, w_eq, Bool.decide_eq_true, Z3b, Z3a, Z39, Z2f, Z1h, Z03, Z09, Z11, Z00, Z21, rowI, RatG.row, LocG.row, ActG.row, StepG.row, StampG.row, ActG.av, ActG.eta, RatG.eta, LocG.eta, beq_true, beq_false, Z2j, Z2o, Z2c, Z2l, Z10, Z0n, Z0y, Z0z, Z0m, Z0l, Z0c, List.length_set, List.length_replicate, Z06, Int.reduceToNat, Z4o, Z27, Z4e, Src.all, Src.len, Src.leaf, Src.leafN, Z37, Z3z, Z4k, Z0k, Z0o, Z0p, Z0q, Z0r, Z0s, Z0t, Z0u, Z4m, drows, evMk, List.length_map, Z1r, Z1q, List.take_length, List.take_left, List.length_append, Nat.le_add_right, ite_self, List.take_of_length_le, Z38, Z4j, Z3w, Option.isSome_none, Option.isSome_some, Nat.sub_zero, Z4i, Z4p, Z4g, evUn, Z0v, Z13, binT, binQ, chk, Z3t, List.contains_cons, List.contains_nil, Bool.or_false, Bool.false_or, Bool.and_self, resQ, resV, resT, Z4q, Z2e, Z43, Z3l, fnOf, Z3k, isD, HO.drow, Z4f, Z3u, evEq, eqV, eqK, eqC1, Z40, Z3y, Z36, Z31, Z48, Z3d, Z2i, Z1k, Z2h, Z1j, Z2g, Z1i, Z1l, Z0w, Z0x, Z0d, List.mem_cons, List.not_mem_nil, or_false, forall_eq, putRow, Z3n, Z25, RetS, RetF, RetD, AV.frz, AV.frzL, AV.freshP, AV.freshL, DV.less, Z2m, Z1n, Z2n, Z1o, Z0f, Z07, Option.some.injEq, AV.tup.injEq, AV.agg.injEq, List.cons.injEq, DV.list.injEq, List.isEmpty_nil, Nat.le_refl, AV.d.injEq, DV.int.injEq, DV.bool.injEq, ↓reduceIte, Nat.reduceEqDiff, Nat.reduceAdd, Nat.reduceBEq, List.length_cons, List.length_nil, List.replicate_succ, List.replicate_zero, List.nil_append, List.cons_append, List.append_nil, List.foldl_cons, List.foldl_nil, List.map_cons, List.map_nil, List.all_cons, List.all_nil, List.set_cons_zero, List.set_cons_succ, List.getD_cons_zero, List.getD_cons_succ, List.drop_zero, List.drop_succ_cons, List.take_succ_cons, List.take_zero, List.flatten_cons, List.flatten_nil, Bool.true_and, Bool.and_true, Bool.not_true, Bool.not_false, true_and, and_true, true_or, or_true, Option.bind_some, Option.map_some, decide_true, decide_false, beq_self_eq_true, true_implies, false_implies, implies_true, not_true_eq_false, not_false_eq_true, and_self, Bool.and_false, Bool.false_and, Nat.reduceLT, Nat.reduceLeDiff, List.reverse_cons, List.reverse_nil, Nat.zero_add, Nat.add_zero, Bool.false_eq_true, List.getElem?_cons_zero, Nat.reduceMul, Nat.mul_one, F1, G1, at_Has]
    refine ⟨fun g => ?_, fun g => ?_⟩
    · have g' : k < n := by omega
      rw [wrapU (k := k) (by omega), Z4l g' (by unfold maxLen; omega), hasI_nat]
      simp only [Z06, Z53]
      refine ⟨h1, fun hb => ⟨⟨by omega, by omega⟩, c', by omega, ⟨by omega, by omega⟩, c', ?_⟩, fun hb => ?_⟩
      · rw [upS_yes _ c' g' h2 hb]
        exact Z3p.mk [0] (k + 1) (by simp) (by simp) (by simp only [State.can, AV.can, AV.canL, HO.can, Z3i, idx, Z04, Z01, Heap.at, Nat.reduceBEq, ↓reduceIte, Nat.reduceEqDiff, Option.getD_some, Option.map_some, List.map_cons, List.map_nil, List.getD_cons_zero, List.getD_cons_succ]) (by omega) (by omega)
      · rw [upS_no _ hb]
        exact Z3p.mk [0] (k + 1) (by simp) (by simp) (by simp only [State.can, AV.can, AV.canL, HO.can, Z3i, idx, Z04, Z01, Heap.at, Nat.reduceBEq, ↓reduceIte, Nat.reduceEqDiff, Option.getD_some, Option.map_some, List.map_cons, List.map_nil, List.getD_cons_zero, List.getD_cons_succ]) (by omega) (by omega)
    · have : k = n := by omega
      subst this
      rw [Z4l c' (by unfold maxLen; omega), upS_next]
      exact Z3p.mk [0] (i + 1) (by simp) (by simp) (by simp only [State.can, AV.can, AV.canL, HO.can, Z3i, idx, Z04, Z01, Heap.at, Nat.reduceBEq, ↓reduceIte, Nat.reduceEqDiff, Option.getD_some, Option.map_some, List.map_cons, List.map_nil, List.getD_cons_zero, List.getD_cons_succ]) (by omega) (by omega)
  · have : i = n := by omega
    subst this
    rw [upS_end]
    exact frz_end (l := fitG l i) (by simp [fitG, Z53])

/-! ### trim -/
def trimG (r : List W) (n : Nat) : List W := r.take n ++ List.replicate (n - r.length) 0#64
def sp_trim : Sp := ⟨List W × Bool × Nat, fun x => [.d (.list (x.1.map rowW) x.2.1), .d (.int .i64 (x.2.2 : Int))],
  fun x => .data (x.1.length ≤ maxLen ∧ x.2.2 ≤ 64) (.d (.list ((trimG x.1 x.2.2).map rowW) false)) false⟩
theorem at_trim (l : List W) (f : Bool) (n : Nat) : sp_trim.at [.d (.list (l.map rowW) f), .d (.int .i64 (n : Int))] = .data (l.length ≤ maxLen ∧ n ≤ 64) (.d (.list ((trimG l n).map rowW) false)) false :=
  Sp.at_enc (s := sp_trim) (fun x y h => by
    obtain ⟨a, b, c⟩ := x; obtain ⟨a', b', c'⟩ := y
    simp only [sp_trim, List.cons.injEq, AV.d.injEq, DV.list.injEq, DV.int.injEq, and_true, true_and] at h
    rw [Z4n Z51 h.1.1, h.1.2, Int.ofNat.inj h.2]) (l, f, n)
theorem body_slices_Clone_uint64 {T : Tab} : (cloneS 1 8).Body T V_slices_Clone_uint64 L_slices_Clone_uint64 R_slices_Clone_uint64 := by
  rintro ⟨l, full⟩ ⟨h1, h2⟩
  refine ⟨h1, ?_⟩
  unfold V_slices_Clone_uint64 L_slices_Clone_uint64 R_slices_Clone_uint64
  simp only [↓Z1d, ↓Z2b, ↓Z1t, ↓Z05, ↓Z2q, ↓Z2k, Z49, Z4a, ↓Z20, ↓Z1c, ↓Z0i, ↓Z1u, ↓Z12, ↓Z1z, ↓Z2z, ↓Z30, ↓Z23, ↓Z1s, ↓Z2d, ↓Z28, ↓Z1y, ↓Z3m, ↓Z46, ↓Z3e, ↓Z3g, ↓Z3f, ↓Z3v, ↓Z3q, ↓Z44, ↓Z0j, ↓Z0b, ↓Z16, ↓Z0h, ↓Z1g, Z4d, Z0a, Z18, Z32, Z1a, Z35, evN, Z2s, Z1x, Z34, Z41, Z1w, Z19, Z1v, Z2p, Z2a, Z29, Z1e, Z2x, evT, Opd.ev, Z04, Z01, Z33, Z3x, Z3o, Z26, Z1f, Z2w, Z2y, Z3c, Z22, Z14, Z3r, LOp.isNew, State.prune, Z3s, Z3j, AV.leaf, Heap.at, Z0g, Z08, Z1m, Z0e, Z02, Z4x, idx_U, Z3b, Z3a, Z39, Z2f, Z1h, Z03, Z09, Z11, Z00, Z21, rowI, rowU, RatG.row, LocG.row, ActG.row, StepG.row, StampG.row, ActG.av, ActG.eta, RatG.eta, LocG.eta, beq_true, beq_false, Z2j, Z2o, set_rowU, Z2c, app_rowU, Z2l, rep_rowU, Z10, Z0n, Z0y, Z0z, Z0m, Z0l, Z0c, List.length_set, List.length_replicate, Int.toNat_natCast, Int.reduceToNat, Z4o, Z27, Z4e, Src.all, Src.len, Src.leaf, Src.leafN, Z37, Z3z, Z4k, Z0k, Z0o, Z0p, Z0q, Z0r, Z0s, Z0t, Z0u, Z4m, drows, evMk, List.length_map, take_map_len, take_map_ge, Z4i, Z4p, Z4g, evUn, binT, binQ, chk, Z3t, List.contains_cons, List.contains_nil, Bool.or_false, Bool.false_or, Bool.and_self, resQ, resV, resT, Z4q, Z2e, Z43, Z3l, fnOf, Z3k, isD, HO.drow, Z4f, Z3u, evEq, eqV, eqK, eqC1, Z40, Z3y, Z36, Z31, Z48, Z3d, lens_U, lensA_U, Z2i, Z1k, Z2h, Z1j, Z2g, Z1i, Z1l, Z0w, Z0x, Z0d, List.mem_cons, List.not_mem_nil, or_false, forall_eq, putRow, Z3n, Z25, RetS, RetF, RetD, AV.frz, AV.frzL, AV.freshP, AV.freshL, DV.less, Z2m, Z1n, Z2n, Z1o, scal_rowU, Z0f, Z07, Option.some.injEq, AV.tup.injEq, AV.agg.injEq, List.cons.injEq, DV.list.injEq, List.isEmpty_nil, Nat.le_refl, AV.d.injEq, DV.int.injEq, DV.bool.injEq, ↓reduceIte, Nat.reduceEqDiff, Nat.reduceAdd, Nat.reduceBEq, List.length_cons, List.length_nil, List.replicate_succ, List.replicate_zero, List.nil_append, List.cons_append, List.append_nil, List.foldl_cons, List.foldl_nil, List.map_cons, List.map_nil, List.all_cons, List.all_nil, List.set_cons_zero, List.set_cons_succ, List.getD_cons_zero, List.getD_cons_succ, List.drop_zero, List.drop_succ_cons, List.take_succ_cons, List.take_zero, List.flatten_cons, List.flatten_nil, Bool.true_and, Bool.and_true, Bool.not_true, Bool.not_false, true_and, and_true, true_or, or_true, Option.bind_some, Option.map_some, decide_true, decide_false, beq_self_eq_true, true_implies, false_implies, implies_true, not_true_eq_false, not_false_eq_true, and_self, Bool.and_false, Bool.false_and, Nat.reduceLT, Nat.reduceLeDiff, List.reverse_cons, List.reverse_nil, Nat.zero_add, Nat.add_zero, Bool.false_eq_true, List.getElem?_cons_zero, cloneS]
  exact clone_end h1 h2
theorem body_power_trim {T : Tab} {n1 : Nat} (k1 : Knows T n1 (cloneS 1 8)) : sp_trim.Body T V_power_trim (L_power_trim n1) R_power_trim := by
  have F1 := k1.F; have G1 := k1.G
  rintro ⟨l, f, n⟩ ⟨h1, h2⟩
  have h1 : l.length ≤ maxLen := h1
  have h2 : n ≤ 64 := h2
  refine ⟨rfl, ?_⟩
  unfold V_power_trim L_power_trim R_power_trim
  simp only [↓Z1d, ↓Z2b, ↓Z1t, ↓Z05, ↓Z2q, ↓Z2k, Z49, Z4a, ↓Z20, ↓Z1c, ↓Z0i, ↓Z1u, ↓Z12, ↓Z1z, ↓Z2z, ↓Z30, ↓Z23, ↓Z1s, ↓Z2d, ↓Z28, ↓Z1y, ↓Z3m, ↓Z46, ↓Z3e, ↓Z3g, ↓Z3f, ↓Z3v, ↓Z3q, ↓Z44, ↓Z0j, ↓Z0b, ↓Z16, ↓Z0h, ↓Z1g, Z4d, Z0a, Z18, Z32, Z1a, Z35, evN, Z2s, Z1x, Z34, Z41, Z1w, Z19, Z1v, Z2p, Z2a, Z29, Z1e, Z2x, evT, Opd.ev, Z04, Z01, Z33, Z3x, Z3o, Z26, Z1f, Z2w, Z2y, Z3c, Z22, Z14, Z3r, LOp.isNew, State.prune, Z3s, Z3j, AV.leaf, Heap.at, Z0g, Z08, Z1m, Z0e, Z02, Z4x, Z4t, rowW, Z24, Z2t, Z1p, Z1b, rowB, Z2v, Z2u, rowN, Z4b, Z3h, Z17, Z15, w_or, Z4r, Z2r, Z45, Z50, Z42, Z4s, Z47, Z4z, Z4y, Z4u, Z4v, Z4w, w_eq, Bool.decide_eq_true, Z3b, Z3a, Z39, Z2f, Z1h, Z03, Z09, Z11, Z00, Z21, rowI, RatG.row, LocG.row, ActG.row, StepG.row, StampG.row, ActG.av, ActG.eta, RatG.eta, LocG.eta, beq_true, beq_false, Z2j, Z2o, Z2c, Z2l, Z10, Z0n, Z0y, Z0z, Z0m, Z0l, Z0c, List.length_set, List.length_replicate, Z06, Int.reduceToNat, Z4o, Z27, Z4e, Src.all, Src.len, Src.leaf, Src.leafN, Z37, Z3z, Z4k, Z0k, Z0o, Z0p, Z0q, Z0r, Z0s, Z0t, Z0u, Z4m, drows, evMk, List.length_map, Z1r, Z1q, List.take_length, List.take_left, List.length_append, Nat.le_add_right, ite_self, List.take_of_length_le, Z38, Z4j, Z3w, Option.isSome_none, Option.isSome_some, Nat.sub_zero, Z4i, Z4p, Z4g, evUn, Z0v, Z13, binT, binQ, chk, Z3t, List.contains_cons, List.contains_nil, Bool.or_false, Bool.false_or, Bool.and_self, resQ, resV, resT, Z4q, Z2e, Z43, Z3l, fnOf, Z3k, isD, HO.drow, Z4f, Z3u, evEq, eqV, eqK, eqC1, Z40, Z3y, Z36, Z31, Z48, Z3d, Z2i, Z1k, Z2h, Z1j, Z2g, Z1i, Z1l, Z0w, Z0x, Z0d, List.mem_cons, List.not_mem_nil, or_false, forall_eq, putRow, Z3n, Z25, RetS, RetF, RetD, AV.frz, AV.frzL, AV.freshP, AV.freshL, DV.less, Z2m, Z1n, Z2n, Z1o, Z0f, Z07, Option.some.injEq, AV.tup.injEq, AV.agg.injEq, List.cons.injEq, DV.list.injEq, List.isEmpty_nil, Nat.le_refl, AV.d.injEq, DV.int.injEq, DV.bool.injEq, ↓reduceIte, Nat.reduceEqDiff, Nat.reduceAdd, Nat.reduceBEq, List.length_cons, List.length_nil, List.replicate_succ, List.replicate_zero, List.nil_append, List.cons_append, List.append_nil, List.foldl_cons, List.foldl_nil, List.map_cons, List.map_nil, List.all_cons, List.all_nil, List.set_cons_zero, List.set_cons_succ, List.getD_cons_zero, List.getD_cons_succ, List.drop_zero, List.drop_succ_cons, List.take_succ_cons, List.take_zero, List.flatten_cons, List.flatten_nil, Bool.true_and, Bool.and_true, Bool.not_true, Bool.not_false, true_and, and_true, true_or, or_true, Option.bind_some, Option.map_some, decide_true, decide_false, beq_self_eq_true, true_implies, false_implies, implies_true, not_true_eq_false, not_false_eq_true, and_self, Bool.and_false, Bool.false_and, Nat.reduceLT, Nat.reduceLeDiff, List.reverse_cons, List.reverse_nil, Nat.zero_add, Nat.add_zero, Bool.false_eq_true, List.getElem?_cons_zero, Nat.reduceMul, Nat.mul_one, sp_trim, F1, G1, at_clone]
  refine ⟨fun c => ⟨⟨by omega, by omega, by omega, by omega⟩, ?_⟩, fun c => ⟨roomy_of (by omega) (by omega), ?_⟩⟩
  · have : n - l.length = 0 := by omega
    simp [trimG, this]
  · refine Loop.fam [1, 5] (fun j : Nat => ⟨[(1, .d (.int .i64 n)), (5, .ref 0 1 0 (l.length + j) true)], [.dvec 1 ((l ++ List.replicate j 0#64).map rowW)]⟩) (fun j => l.length + j ≤ n) (fun j => n - j) 0 [0] (by simp) (by simp)
      (by simp only [State.can, AV.can, AV.canL, HO.can, Z3i, idx, Z04, Z01, Heap.at, Nat.reduceBEq, ↓reduceIte, Nat.reduceEqDiff, Option.getD_some, Option.map_some, List.map_cons, List.map_nil, List.getD_cons_zero, List.getD_cons_succ]; rw [List.replicate_zero, List.append_nil]; rfl) (by omega) ?_
    intro j hj
    simp only [↓Z1d, ↓Z2b, ↓Z1t, ↓Z05, ↓Z2q, ↓Z2k, Z49, Z4a, ↓Z20, ↓Z1c, ↓Z0i, ↓Z1u, ↓Z12, ↓Z1z, ↓Z2z, ↓Z30, ↓Z23, ↓Z1s, ↓Z2d, ↓Z28, ↓Z1y, ↓Z3m, ↓Z46, ↓Z3e, ↓Z3g, ↓Z3f, ↓Z3v, ↓Z3q, ↓Z44, ↓Z0j, ↓Z0b, ↓Z16, ↓Z0h, ↓Z1g, Z4d, Z0a, Z18, Z32, Z1a, Z35, evN, Z2s, Z1x, Z34, Z41, Z1w, Z19, Z1v, Z2p, Z2a, Z29, Z1e, Z2x, evT, Opd.ev, Z04, Z01, Z33, Z3x, Z3o, Z26, Z1f, Z2w, Z2y, Z3c, Z22, Z14, Z3r, LOp.isNew, State.prune, Z3s, Z3j, AV.leaf, Heap.at, Z0g, Z08, Z1m, Z0e, Z02, Z4x, Z4t, rowW, Z24, Z2t, Z1p, Z1b, rowB, Z2v, Z2u, rowN, Z4b, Z3h, Z17, Z15, w_or, Z4r, Z2r, Z45, Z50, Z42, Z4s, Z47, Z4z, Z4y, Z4u, Z4v, Z4w, w_eq, Bool.decide_eq_true, Z3b, Z3a, Z39, Z2f, Z1h, Z03, Z09, Z11, Z00, Z21, rowI, RatG.row, LocG.row, ActG.row, StepG.row, StampG.row, ActG.av, ActG.eta, RatG.eta, LocG.eta, beq_true, beq_false, Z2j, Z2o, Z2c, Z2l, Z10, Z0n, Z0y, Z0z, Z0m, Z0l, Z0c, List.length_set, List.length_replicate, Z06, Int.reduceToNat, Z4o, Z27, Z4e, Src.all, Src.len, Src.leaf, Src.leafN, Z37, Z3z, Z4k, Z0k, Z0o, Z0p, Z0q, Z0r, Z0s, Z0t, Z0u, Z4m, drows, evMk, List.length_map, Z1r, Z1q, List.take_length, List.take_left, List.length_append, Nat.le_add_right, ite_self, List.take_of_length_le, Z38, Z4j, Z3w, Option.isSome_none, Option.isSome_some, Nat.sub_zero, Z4i, Z4p, Z4g, evUn, Z0v, Z13, binT, binQ, chk, Z3t, List.contains_cons, List.contains_nil, Bool.or_false, Bool.false_or, Bool.and_self, resQ, resV, resT, Z4q, Z2e, Z43, Z3l, fnOf, Z3k, isD, HO.drow, Z4f, Z3u, evEq, eqV, eqK, eqC1, Z40, Z3y, Z36, Z31, Z48, Z3d, Z2i, Z1k, Z2h, Z1j, Z2g, Z1i, Z1l, Z0w, Z0x, Z0d, List.mem_cons, List.not_mem_nil, or_false, forall_eq, putRow, Z3n, Z25, RetS, RetF, RetD, AV.frz, AV.frzL, AV.freshP, AV.freshL, DV.less, Z2m, Z1n, Z2n, Z1o, Z0f, Z07, Option.some.injEq, AV.tup.injEq, AV.agg.injEq, List.cons.injEq, DV.list.injEq, List.isEmpty_nil, Nat.le_refl, AV.d.injEq, DV.int.injEq, DV.bool.injEq, ↓reduceIte, Nat.reduceEqDiff, Nat.reduceAdd, Nat.reduceBEq, List.length_cons, List.length_nil, List.replicate_succ, List.replicate_zero, List.nil_append, List.cons_append, List.append_nil, List.foldl_cons, List.foldl_nil, List.map_cons, List.map_nil, List.all_cons, List.all_nil, List.set_cons_zero, List.set_cons_succ, List.getD_cons_zero, List.getD_cons_succ, List.drop_zero, List.drop_succ_cons, List.take_succ_cons, List.take_zero, List.flatten_cons, List.flatten_nil, Bool.true_and, Bool.and_true, Bool.not_true, Bool.not_false, true_and, and_true, true_or, or_true, Option.bind_some, Option.map_some, decide_true, decide_false, beq_self_eq_true, true_implies, false_implies, implies_true, not_true_eq_false, not_false_eq_true, and_self, Bool.and_false, Bool.false_and, Nat.reduceLT, Nat.reduceLeDiff, List.reverse_cons, List.reverse_nil, Nat.zero_add, Nat.add_zero, Bool.false_eq_true, List.getElem?_cons_zero, Nat.reduceMul, Nat.mul_one]
    refine ⟨fun g => ?_, fun g => ?_⟩
    · refine ⟨roomy_of (by omega) (by omega), ?_⟩
      rw [List.append_assoc, ← List.replicate_succ']
      exact Z3p.mk [2] (j + 1) (by simp) (by simp) (by simp only [State.can, AV.can, AV.canL, HO.can, Z3i, idx, Z04, Z01, Heap.at, Nat.reduceBEq, ↓reduceIte, Nat.reduceEqDiff, Option.getD_some, Option.map_some, List.map_cons, List.map_nil, List.getD_cons_zero, List.getD_cons_succ]; rfl) (by omega) (by omega)
    · have : n - l.length = j := by omega
      rw [trimG, this, List.take_of_length_le (by omega)]

/-! ### where -/
/-- A node of an execution is a row of four numbers, as an act is: Thread, Kind, Loc, Val. -/
abbrev NodeG := ActG
def NodeG.th (n : NodeG) : Int := n.kind
def NodeG.kd (n : NodeG) : Int := n.loc
def NodeG.lc (n : NodeG) : Int := n.old
def apartQ (a b : NodeG) : Bool := !decide (a.th = b.th) || decide (a.th < 0)
def locQ (a b : NodeG) : Bool := decide (a.lc = b.lc)
def sp_node2 (q : NodeG → NodeG → Bool) : Sp := ⟨NodeG × NodeG, fun x => [x.1.av, x.2.av], fun x => .data True (.d (.bool (q x.1 x.2))) true⟩
theorem at_node2 (q : NodeG → NodeG → Bool) (a b : NodeG) : (sp_node2 q).at [a.av, b.av] = .data True (.d (.bool (q a b))) true :=
  Sp.at_enc (s := sp_node2 q) (fun x y h => by
    obtain ⟨a, b⟩ := x; obtain ⟨c, d⟩ := y
    simp only [sp_node2, List.cons.injEq, and_true] at h
    rw [ActG.av_inj _ _ h.1, ActG.av_inj _ _ h.2]) (a, b)
theorem at_node2' (q : NodeG → NodeG → Bool) (a b : NodeG) : (sp_node2 q).at [.agg [.d (.int .i64 a.kind), .d (.int .i64 a.loc), .d (.int .i64 a.old), .d (.int .i64 a.new)], .agg [.d (.int .i64 b.kind), .d (.int .i64 b.loc), .d (.int .i64 b.old), .d (.int .i64 b.new)]] = .data True (.d (.bool (q a b))) true := at_node2 q a b
theorem body_power_apart {T : Tab} : (sp_node2 apartQ).Body T V_power_apart L_power_apart R_power_apart := by
  rintro ⟨⟨a1, a2, a3, a4⟩, ⟨b1, b2, b3, b4⟩⟩ -
  refine .inl ⟨rfl, ?_⟩
  unfold V_power_apart L_power_apart R_power_apart
  simp only [↓Z1d, ↓Z2b, ↓Z1t, ↓Z05, ↓Z2q, ↓Z2k, Z49, Z4a, ↓Z20, ↓Z1c, ↓Z0i, ↓Z1u, ↓Z12, ↓Z1z, ↓Z2z, ↓Z30, ↓Z23, ↓Z1s, ↓Z2d, ↓Z28, ↓Z1y, ↓Z3m, ↓Z46, ↓Z3e, ↓Z3g, ↓Z3f, ↓Z3v, ↓Z3q, ↓Z44, ↓Z0j, ↓Z0b, ↓Z16, ↓Z0h, ↓Z1g, Z4d, Z0a, Z18, Z32, Z1a, Z35, evN, Z2s, Z1x, Z34, Z41, Z1w, Z19, Z1v, Z2p, Z2a, Z29, Z1e, Z2x, evT, Opd.ev, Z04, Z01, Z33, Z3x, Z3o, Z26, Z1f, Z2w, Z2y, Z3c, Z22, Z14, Z3r, LOp.isNew, State.prune, Z3s, Z3j, AV.leaf, Heap.at, Z0g, Z08, Z1m, Z0e, Z02, Z4x, Z4t, rowW, Z24, Z2t, Z1p, Z1b, rowB, Z2v, Z2u, rowN, Z4b, Z3h, Z17, Z15, w_or, Z4r, Z2r, Z45, Z50, Z42, Z4s, Z47, Z4z, Z4y, Z4u, Z4v, Z4w, w_eq, Bool.decide_eq_true, Z3b, Z3a, Z39, Z2f, Z1h, Z03, Z09, Z11, Z00, Z21, rowI, RatG.row, LocG.row, ActG.row, StepG.row, StampG.row, ActG.av, ActG.eta, RatG.eta, LocG.eta, beq_true, beq_false, Z2j, Z2o, Z2c, Z2l, Z10, Z0n, Z0y, Z0z, Z0m, Z0l, Z0c, List.length_set, List.length_replicate, Z06, Int.reduceToNat, Z4o, Z27, Z4e, Src.all, Src.len, Src.leaf, Src.leafN, Z37, Z3z, Z4k, Z0k, Z0o, Z0p, Z0q, Z0r, Z0s, Z0t, Z0u, Z4m, drows, evMk, List.length_map, Z1r, Z1q, List.take_length, List.take_left, List.length_append, Nat.le_add_right, ite_self, List.take_of_length_le, Z38, Z4j, Z3w, Option.isSome_none, Option.isSome_some, Nat.sub_zero, Z4i, Z4p, Z4g, evUn, Z0v, Z13, binT, binQ, chk, Z3t, List.contains_cons, List.contains_nil, Bool.or_false, Bool.false_or, Bool.and_self, resQ, resV, resT, Z4q, Z2e, Z43, Z3l, fnOf, Z3k, isD, HO.drow, Z4f, Z3u, evEq, eqV, eqK, eqC1, Z40, Z3y, Z36, Z31, Z48, Z3d, Z2i, Z1k, Z2h, Z1j, Z2g, Z1i, Z1l, Z0w, Z0x, Z0d, List.mem_cons, List.not_mem_nil, or_false, forall_eq, putRow, Z3n, Z25, RetS, RetF, RetD, AV.frz, AV.frzL, AV.freshP, AV.freshL, DV.less, Z2m, Z1n, Z2n, Z1o, Z0f, Z07, Option.some.injEq, AV.tup.injEq, AV.agg.injEq, List.cons.injEq, DV.list.injEq, List.isEmpty_nil, Nat.le_refl, AV.d.injEq, DV.int.injEq, DV.bool.injEq, ↓reduceIte, Nat.reduceEqDiff, Nat.reduceAdd, Nat.reduceBEq, List.length_cons, List.length_nil, List.replicate_succ, List.replicate_zero, List.nil_append, List.cons_append, List.append_nil, List.foldl_cons, List.foldl_nil, List.map_cons, List.map_nil, List.all_cons, List.all_nil, List.set_cons_zero, List.set_cons_succ, List.getD_cons_zero, List.getD_cons_succ, List.drop_zero, List.drop_succ_cons, List.take_succ_cons, List.take_zero, List.flatten_cons, List.flatten_nil, Bool.true_and, Bool.and_true, Bool.not_true, Bool.not_false, true_and, and_true, true_or, or_true, Option.bind_some, Option.map_some, decide_true, decide_false, beq_self_eq_true, true_implies, false_implies, implies_true, not_true_eq_false, not_false_eq_true, and_self, Bool.and_false, Bool.false_and, Nat.reduceLT, Nat.reduceLeDiff, List.reverse_cons, List.reverse_nil, Nat.zero_add, Nat.add_zero, Bool.false_eq_true, List.getElem?_cons_zero, Nat.reduceMul, Nat.mul_one, sp_node2, apartQ, ActG.av, NodeG.th]
  exact ⟨fun h => by simp [h], fun h => by simp [h]⟩
theorem body_power_model_poloc_1 {T : Tab} : (sp_node2 locQ).Body T V_power_model_poloc_1 L_power_model_poloc_1 R_power_model_poloc_1 := by
  rintro ⟨⟨a1, a2, a3, a4⟩, ⟨b1, b2, b3, b4⟩⟩ -
  refine .inl ⟨rfl, ?_⟩
  unfold V_power_model_poloc_1 L_power_model_poloc_1 R_power_model_poloc_1
  simp only [↓Z1d, ↓Z2b, ↓Z1t, ↓Z05, ↓Z2q, ↓Z2k, Z49, Z4a, ↓Z20, ↓Z1c, ↓Z0i, ↓Z1u, ↓Z12, ↓Z1z, ↓Z2z, ↓Z30, ↓Z23, ↓Z1s, ↓Z2d, ↓Z28, ↓Z1y, ↓Z3m, ↓Z46, ↓Z3e, ↓Z3g, ↓Z3f, ↓Z3v, ↓Z3q, ↓Z44, ↓Z0j, ↓Z0b, ↓Z16, ↓Z0h, ↓Z1g, Z4d, Z0a, Z18, Z32, Z1a, Z35, evN, Z2s, Z1x, Z34, Z41, Z1w, Z19, Z1v, Z2p, Z2a, Z29, Z1e, Z2x, evT, Opd.ev, Z04, Z01, Z33, Z3x, Z3o, Z26, Z1f, Z2w, Z2y, Z3c, Z22, Z14, Z3r, LOp.isNew, State.prune, Z3s, Z3j, AV.leaf, Heap.at, Z0g, Z08, Z1m, Z0e, Z02, Z4x, Z4t, rowW, Z24, Z2t, Z1p, Z1b, rowB, Z2v, Z2u, rowN, Z4b, Z3h, Z17, Z15, w_or, Z4r, Z2r, Z45, Z50, Z42, Z4s, Z47, Z4z, Z4y, Z4u, Z4v, Z4w, w_eq, Bool.decide_eq_true, Z3b, Z3a, Z39, Z2f, Z1h, Z03, Z09, Z11, Z00, Z21, rowI, RatG.row, LocG.row, ActG.row, StepG.row, StampG.row, ActG.av, ActG.eta, RatG.eta, LocG.eta, beq_true, beq_false, Z2j, Z2o, Z2c, Z2l, Z10, Z0n, Z0y, Z0z, Z0m, Z0l, Z0c, List.length_set, List.length_replicate, Z06, Int.reduceToNat, Z4o, Z27, Z4e, Src.all, Src.len, Src.leaf, Src.leafN, Z37, Z3z, Z4k, Z0k, Z0o, Z0p, Z0q, Z0r, Z0s, Z0t, Z0u, Z4m, drows, evMk, List.length_map, Z1r, Z1q, List.take_length, List.take_left, List.length_append, Nat.le_add_right, ite_self, List.take_of_length_le, Z38, Z4j, Z3w, Option.isSome_none, Option.isSome_some, Nat.sub_zero, Z4i, Z4p, Z4g, evUn, Z0v, Z13, binT, binQ, chk, Z3t, List.contains_cons, List.contains_nil, Bool.or_false, Bool.false_or, Bool.and_self, resQ, resV, resT, Z4q, Z2e, Z43, Z3l, fnOf, Z3k, isD, HO.drow, Z4f, Z3u, evEq, eqV, eqK, eqC1, Z40, Z3y, Z36, Z31, Z48, Z3d, Z2i, Z1k, Z2h, Z1j, Z2g, Z1i, Z1l, Z0w, Z0x, Z0d, List.mem_cons, List.not_mem_nil, or_false, forall_eq, putRow, Z3n, Z25, RetS, RetF, RetD, AV.frz, AV.frzL, AV.freshP, AV.freshL, DV.less, Z2m, Z1n, Z2n, Z1o, Z0f, Z07, Option.some.injEq, AV.tup.injEq, AV.agg.injEq, List.cons.injEq, DV.list.injEq, List.isEmpty_nil, Nat.le_refl, AV.d.injEq, DV.int.injEq, DV.bool.injEq, ↓reduceIte, Nat.reduceEqDiff, Nat.reduceAdd, Nat.reduceBEq, List.length_cons, List.length_nil, List.replicate_succ, List.replicate_zero, List.nil_append, List.cons_append, List.append_nil, List.foldl_cons, List.foldl_nil, List.map_cons, List.map_nil, List.all_cons, List.all_nil, List.set_cons_zero, List.set_cons_succ, List.getD_cons_zero, List.getD_cons_succ, List.drop_zero, List.drop_succ_cons, List.take_succ_cons, List.take_zero, List.flatten_cons, List.flatten_nil, Bool.true_and, Bool.and_true, Bool.not_true, Bool.not_false, true_and, and_true, true_or, or_true, Option.bind_some, Option.map_some, decide_true, decide_false, beq_self_eq_true, true_implies, false_implies, implies_true, not_true_eq_false, not_false_eq_true, and_self, Bool.and_false, Bool.false_and, Nat.reduceLT, Nat.reduceLeDiff, List.reverse_cons, List.reverse_nil, Nat.zero_add, Nat.add_zero, Bool.false_eq_true, List.getElem?_cons_zero, Nat.reduceMul, Nat.mul_one, sp_node2, locQ, ActG.av, NodeG.lc]
  rfl

/-- What a candidate execution is, and what is made of it. -/
structure MG where
  nodes : List NodeG
  nf : Bool
  xn : List NodeG
  xf : Bool
  po : List W
  rf : List W
  co : List W
  fr : List W
  addr : List W
  data : List W
  ctrl : List W
  fenced : List W
  sync : List W
  lwsync : List W
  pairs : List W
  read : W
  write : W
def lsW (r : List W) : DV := .list (r.map rowW) false
def MG.cells (m : MG) : List DV := [.list (m.nodes.map ActG.row) m.nf, .list (m.xn.map ActG.row) m.xf, lsW m.po, lsW m.rf, lsW m.co, lsW m.fr, lsW m.addr, lsW m.data, lsW m.ctrl, lsW m.fenced, lsW m.sync, lsW m.lwsync, lsW m.pairs,
  .int .u64 (m.read.toNat : Int), .int .u64 (m.write.toNat : Int)]
theorem cells_len (m : MG) : m.cells.length = 15 := rfl
theorem cells_0 (m : MG) : m.cells.getD 0 DV.nilp = .list (m.nodes.map ActG.row) m.nf := rfl
theorem cells_1 (m : MG) : m.cells.getD 1 DV.nilp = .list (m.xn.map ActG.row) m.xf := rfl
theorem cells_2 (m : MG) : m.cells.getD 2 DV.nilp = .list (m.po.map rowW) false := rfl
theorem cells_3 (m : MG) : m.cells.getD 3 DV.nilp = .list (m.rf.map rowW) false := rfl
theorem cells_4 (m : MG) : m.cells.getD 4 DV.nilp = .list (m.co.map rowW) false := rfl
theorem cells_5 (m : MG) : m.cells.getD 5 DV.nilp = .list (m.fr.map rowW) false := rfl
theorem cells_6 (m : MG) : m.cells.getD 6 DV.nilp = .list (m.addr.map rowW) false := rfl
theorem cells_7 (m : MG) : m.cells.getD 7 DV.nilp = .list (m.data.map rowW) false := rfl
theorem cells_8 (m : MG) : m.cells.getD 8 DV.nilp = .list (m.ctrl.map rowW) false := rfl
theorem cells_9 (m : MG) : m.cells.getD 9 DV.nilp = .list (m.fenced.map rowW) false := rfl
theorem cells_10 (m : MG) : m.cells.getD 10 DV.nilp = .list (m.sync.map rowW) false := rfl
theorem cells_11 (m : MG) : m.cells.getD 11 DV.nilp = .list (m.lwsync.map rowW) false := rfl
theorem cells_12 (m : MG) : m.cells.getD 12 DV.nilp = .list (m.pairs.map rowW) false := rfl
theorem cells_13 (m : MG) : m.cells.getD 13 DV.nilp = .int .u64 (m.read.toNat : Int) := rfl
theorem cells_14 (m : MG) : m.cells.getD 14 DV.nilp = .int .u64 (m.write.toNat : Int) := rfl
theorem lsW_inj {r s : List W} (h : lsW r = lsW s) : r = s := by
  simp only [lsW, DV.list.injEq, and_true] at h
  exact Z4n Z51 h
theorem MG.cells_inj (m m' : MG) (h : m.cells = m'.cells) : m = m' := by
  obtain ⟨a, b, c, d, e, f, g, i, j, k, l, n, o, p, q, r, s⟩ := m
  obtain ⟨a', b', c', d', e', f', g', i', j', k', l', n', o', p', q', r', s'⟩ := m'
  simp only [MG.cells, List.cons.injEq, DV.list.injEq, DV.int.injEq, and_true, true_and] at h
  obtain ⟨⟨h1, h2⟩, ⟨h3, h4⟩, h5, h6, h7, h8, h9, h10, h11, h12, h13, h14, h15, h16, h17⟩ := h
  rw [Z4n ActG.row_inj h1, h2, Z4n ActG.row_inj h3, h4, lsW_inj h5, lsW_inj h6, lsW_inj h7, lsW_inj h8, lsW_inj h9, lsW_inj h10, lsW_inj h11, lsW_inj h12, lsW_inj h13, lsW_inj h14, lsW_inj h15, W.inj h16, W.inj h17]

def whereG (nodes : List NodeG) (q : NodeG → NodeG → Bool) (r : List W) : List W := mkR r.length fun i k => hasN r i k && q (nodes.getD i default) (nodes.getD k default)
/-- Told by the number of the function that is handed over. -/
def sp_where (qs : Nat → Option (NodeG → NodeG → Bool)) : Sp := ⟨MG × List W × Bool × Nat, fun x => [.dptr x.1.cells 0, .d (.list (x.2.1.map rowW) x.2.2.1), .d (.fn x.2.2.2)],
  fun x => match qs x.2.2.2 with | some q => .data (x.2.1.length ≤ 64 ∧ x.2.1.length ≤ x.1.nodes.length) (.d (.list ((whereG x.1.nodes q x.2.1).map rowW) false)) true | none => .none⟩
theorem at_where {qs : Nat → Option (NodeG → NodeG → Bool)} {g : Nat} {q : NodeG → NodeG → Bool} (hg : qs g = some q) (m : MG) (r : List W) (f : Bool) : (sp_where qs).at [.dptr m.cells 0, .d (.list (r.map rowW) f), .d (.fn g)] =
    .data (r.length ≤ 64 ∧ r.length ≤ m.nodes.length) (.d (.list ((whereG m.nodes q r).map rowW) false)) true := by
  refine (Sp.at_enc (s := sp_where qs) (fun x y h => ?_) (m, r, f, g)).trans ?_
  · obtain ⟨a, b, c, d⟩ := x; obtain ⟨a', b', c', d'⟩ := y
    simp only [sp_where, List.cons.injEq, AV.dptr.injEq, AV.d.injEq, DV.list.injEq, DV.fn.injEq, and_true] at h
    rw [MG.cells_inj _ _ h.1, Z4n Z51 h.2.1.1, h.2.1.2, h.2.2]
  · simp only [sp_where, hg]
def qs2 (n1 n2 : Nat) : Nat → Option (NodeG → NodeG → Bool) := fun g => if g = n1 then some apartQ else if g = n2 then some locQ else none

theorem where_body {T : Tab} {n1 g : Nat} {q : NodeG → NodeG → Bool} (k1 : Knows T n1 sp_Has) (k2 : Knows T g (sp_node2 q)) (m : MG) (r : List W) (f : Bool) :
    (SpecR.data (r.length ≤ 64 ∧ r.length ≤ m.nodes.length) (.d (.list ((whereG m.nodes q r).map rowW) false)) true).asks fun Post => vck T 0 V_power_model_where (L_power_model_where n1)
      ⟨Z22 0 [.dptr m.cells 0, .d (.list (r.map rowW) f), .d (.fn g)], []⟩ (retK R_power_model_where Post) := by
  have F1 := k1.F; have G1 := k1.G; have F2 := k2.F; have G2 := k2.G
  rintro ⟨h1, h2⟩
  refine .inr ⟨rfl, ?_⟩
  have hm : maxLen = 9223372036854775807 := rfl
  unfold V_power_model_where L_power_model_where R_power_model_where
  generalize hn : r.length = n at *
  simp only [↓Z1d, ↓Z2b, ↓Z1t, ↓Z05, ↓Z2q, ↓Z2k, Z49, Z4a, ↓Z20, ↓Z1c, ↓Z0i, ↓Z1u, ↓Z12, ↓Z1z, ↓Z2z, ↓Z30, ↓Z23, ↓Z1s, ↓Z2d, ↓Z28, ↓Z1y, ↓Z3m, ↓Z46, ↓Z3e, ↓Z3g, ↓Z3f, ↓Z3v, ↓Z3q, ↓Z44, ↓Z0j, ↓Z0b, ↓Z16, ↓Z0h, ↓Z1g, Z4d, Z0a, Z18, Z32, Z1a, Z35, evN, Z2s, Z1x, Z34, Z41, Z1w, Z19, Z1v, Z2p, Z2a, Z29, Z1e, Z2x, evT, Opd.ev, Z04, Z01, Z33, Z3x, Z3o, Z26, Z1f, Z2w, Z2y, Z3c, Z22, Z14, Z3r, LOp.isNew, State.prune, Z3s, Z3j, AV.leaf, Heap.at, Z0g, Z08, Z1m, Z0e, Z02, Z4x, Z4t, rowW, Z24, Z2t, Z1p, Z1b, rowB, Z2v, Z2u, rowN, Z4b, Z3h, Z17, Z15, w_or, Z4r, Z2r, Z45, Z50, Z42, Z4s, Z47, Z4z, Z4y, Z4u, Z4v, Z4w, w_eq, Bool.decide_eq_true, Z3b, Z3a, Z39, Z2f, Z1h, Z03, Z09, Z11, Z00, Z21, rowI, RatG.row, LocG.row, ActG.row, StepG.row, StampG.row, ActG.av, ActG.eta, RatG.eta, LocG.eta, beq_true, beq_false, Z2j, Z2o, Z2c, Z2l, Z10, Z0n, Z0y, Z0z, Z0m, Z0l, Z0c, List.length_set, List.length_replicate, Z06, Int.reduceToNat, Z4o, Z27, Z4e, Src.all, Src.len, Src.leaf, Src.leafN, Z37, Z3z, Z4k, Z0k, Z0o, Z0p, Z0q, Z0r, Z0s, Z0t, Z0u, Z4m, drows, evMk, List.length_map, Z1r, Z1q, List.take_length, List.take_left, List.length_append, Nat.le_add_right, ite_self, List.take_of_length_le, Z38, Z4j, Z3w, Option.isSome_none, Option.isSome_some, Nat.sub_zero, Z4i, Z4p, Z4g, evUn, Z0v, Z13, binT, binQ, chk, Z3t, List.contains_cons, List.contains_nil, Bool.or_false, Bool.false_or, Bool.and_self, resQ, resV, resT, Z4q, Z2e, Z43, Z3l, fnOf, Z3k, isD, HO.drow, Z4f, Z3u, evEq, eqV, eqK, eqC1, Z40, Z3y, Z36, Z31, Z48, Z3d, Z2i, Z1k, Z2h, Z1j, Z2g, Z1i, Z1l, Z0w, Z0x, Z0d, List.mem_cons, List.not_mem_nil, or_false, forall_eq, putRow, Z3n, Z25, RetS, RetF, RetD, AV.frz, AV.frzL, AV.freshP, AV.freshL, DV.less, Z2m, Z1n, Z2n, Z1o, Z0f, Z07, Option.some.injEq, AV.tup.injEq, AV.agg.injEq, List.cons.injEq, DV.list.injEq, List.isEmpty_nil, Nat.le_refl, AV.d.injEq, DV.int.injEq, DV.bool.injEq, ↓reduceIte, Nat.reduceEqDiff, Nat.reduceAdd, Nat.reduceBEq, List.length_cons, List.length_nil, List.replicate_succ, List.replicate_zero, List.nil_append, List.cons_append, List.append_nil, List.foldl_cons, List.foldl_nil, List.map_cons, List.map_nil, List.all_cons, List.all_nil, List.set_cons_zero, List.set_cons_succ, List.getD_cons_zero, List.getD_cons_succ, List.drop_zero, List.drop_succ_cons, List.take_succ_cons, List.take_zero, List.flatten_cons, List.flatten_nil, Bool.true_and, Bool.and_true, Bool.not_true, Bool.not_false, true_and, and_true, true_or, or_true, Option.bind_some, Option.map_some, decide_true, decide_false, beq_self_eq_true, true_implies, false_implies, implies_true, not_true_eq_false, not_false_eq_true, and_self, Bool.and_false, Bool.false_and, Nat.reduceLT, Nat.reduceLeDiff, List.reverse_cons, List.reverse_nil, Nat.zero_add, Nat.add_zero, Bool.false_eq_true, List.getElem?_cons_zero, Nat.reduceMul, Nat.mul_one, F1, G1, F2, G2, at_Has, hn]
  have hz : List.replicate n 0#64 = mkR n (upS (fun i k => hasN r i k && q (m.nodes.getD i default) (m.nodes.getD k default)) 0 0) := mkR_zero (fun a b _ _ => upS_zero _ a b)
  rw [hz]
  generalize hp : (fun i k => hasN r i k && q (m.nodes.getD i default) (m.nodes.getD k default)) = p
  have hp' : ∀ i k, p i k = (hasN r i k && q (m.nodes.getD i default) (m.nodes.getD k default)) := fun i k => by rw [← hp]
  refine ⟨⟨by omega, by omega, roomy_of (by omega) (by omega)⟩, ?_⟩
  refine Loop.fam [0, 1, 2, 7, 14, 15] (fun i : Nat => ⟨[(0, .dptr m.cells 0), (1, .d (.list (r.map rowW) f)), (2, .d (.fn g)), (7, .ref 0 1 0 n true), (14, .d (.int .i64 n)), (15, .d (.int .i64 i))],
      [.dvec 1 ((mkR n (upS p i 0)).map rowW)]⟩) (fun i => i ≤ n) (fun i => n - i) 0 [0] (by simp) (by simp) (by simp only [State.can, AV.can, AV.canL, HO.can, Z3i, idx, Z04, Z01, Heap.at, Nat.reduceBEq, ↓reduceIte, Nat.reduceEqDiff, Option.getD_some, Option.map_some, List.map_cons, List.map_nil, List.getD_cons_zero, List.getD_cons_succ]; rfl) (by omega) ?_
  intro i hi
  simp only [↓Z1d, ↓Z2b, ↓Z1t, ↓Z05, ↓Z2q, ↓Z2k, Z49, Z4a, ↓Z20, ↓Z1c, ↓Z0i, ↓Z1u, ↓Z12, ↓Z1z, ↓Z2z, ↓Z30, ↓Z23, ↓Z1s, ↓Z2d, ↓Z28, ↓Z1y, ↓Z3m, ↓Z46, ↓Z3e, ↓Z3g, ↓Z3f, ↓Z3v, ↓Z3q, ↓Z44, ↓Z0j, ↓Z0b, ↓Z16, ↓Z0h, ↓Z1g, Z4d, Z0a, Z18, Z32, Z1a, Z35, evN, Z2s, Z1x, Z34, Z41, Z1w, Z19, Z1v, Z2p, Z2a, Z29, Z1e, Z2x, evT, Opd.ev, Z04, Z01, Z33, Z3x, Z3o, Z26, Z1f, Z2w, Z2y, Z3c, Z22, Z14, Z3r, LOp.isNew, State.prune, Z3s, Z3j, AV.leaf, Heap.at, Z0g, Z08, Z1m, Z0e, Z02, Z4x, Z4t, rowW, Z24, Z2t, Z1p, Z1b, rowB, Z2v, Z2u, rowN, Z4b, Z3h, Z17, Z15, w_or, Z4r, Z2r, Z45, Z50, Z42, Z4s, Z47, Z4z, Z4y, Z4u, Z4v, Z4w, w_eq, Bool.decide_eq_true, Z3b, Z3a, Z39, Z2f, Z1h, Z03, Z09, Z11, Z00, Z21, rowI, RatG.row, LocG.row, ActG.row, StepG.row, StampG.row, ActG.av, ActG.eta, RatG.eta, LocG.eta, beq_true, beq_false, Z2j, Z2o, Z2c, Z2l, Z10, Z0n, Z0y, Z0z, Z0m, Z0l, Z0c, List.length_set, List.length_replicate, Z06, Int.reduceToNat, Z4o, Z27, Z4e, Src.all, Src.len, Src.leaf, Src.leafN, Z37, Z3z, Z4k, Z0k, Z0o, Z0p, Z0q, Z0r, Z0s, Z0t, Z0u, Z4m, drows, evMk, List.length_map, Z1r, Z1q, List.take_length, List.take_left, List.length_append, Nat.le_add_right, ite_self, List.take_of_length_le, Z38, Z4j, Z3w, Option.isSome_none, Option.isSome_some, Nat.sub_zero, Z4i, Z4p, Z4g, evUn, Z0v, Z13, binT, binQ, chk, Z3t, List.contains_cons, List.contains_nil, Bool.or_false, Bool.false_or, Bool.and_self, resQ, resV, resT, Z4q, Z2e, Z43, Z3l, fnOf, Z3k, isD, HO.drow, Z4f, Z3u, evEq, eqV, eqK, eqC1, Z40, Z3y, Z36, Z31, Z48, Z3d, Z2i, Z1k, Z2h, Z1j, Z2g, Z1i, Z1l, Z0w, Z0x, Z0d, List.mem_cons, List.not_mem_nil, or_false, forall_eq, putRow, Z3n, Z25, RetS, RetF, RetD, AV.frz, AV.frzL, AV.freshP, AV.freshL, DV.less, Z2m, Z1n, Z2n, Z1o, Z0f, Z07, Option.some.injEq, AV.tup.injEq, AV.agg.injEq, List.cons.injEq, DV.list.injEq, List.isEmpty_nil, Nat.le_refl, AV.d.injEq, DV.int.injEq, DV.bool.injEq, ↓reduceIte, Nat.reduceEqDiff, Nat.reduceAdd, Nat.reduceBEq, List.length_cons, List.length_nil, List.replicate_succ, List.replicate_zero, List.nil_append, List.cons_append, List.append_nil, List.foldl_cons, List.foldl_nil, List.map_cons, List.map_nil, List.all_cons, List.all_nil, List.set_cons_zero, List.set_cons_succ, List.getD_cons_zero, List.getD_cons_succ, List.drop_zero, List.drop_succ_cons, List.take_succ_cons, List.take_zero, List.flatten_cons, List.flatten_nil, Bool.true_and, Bool.and_true, Bool.not_true, Bool.not_false, true_and, and_true, true_or, or_true, Option.bind_some, Option.map_some, decide_true, decide_false, beq_self_eq_true, true_implies, false_implies, implies_true, not_true_eq_false, not_false_eq_true, and_self, Bool.and_false, Bool.false_and, Nat.reduceLT, Nat.reduceLeDiff, List.reverse_cons, List.reverse_nil, Nat.zero_add, Nat.add_zero, Bool.false_eq_true, List.getElem?_cons_zero, Nat.reduceMul, Nat.mul_one, F1, G1, F2, G2, at_Has, hn]
  refine ⟨fun c => ?_, fun c => ?_⟩
  · have c' : i < n := by omega
    refine Loop.fam [0, 1, 2, 7, 8, 14, 15, 19, 20] (fun k : Nat => ⟨[(0, .dptr m.cells 0), (1, .d (.list (r.map rowW) f)), (2, .d (.fn g)), (7, .ref 0 1 0 n true), (8, .d (.int .i64 i)), (14, .d (.int .i64 n)), (15, .d (.int .i64 i)), (19, .d (.int .i64 n)), (20, .d (.int .i64 k))],
      [.dvec 1 ((mkR n (upS p i k)).map rowW)]⟩) (fun k => k ≤ n) (fun k => n - k) 0 [0] (by simp) (by simp) (by simp only [State.can, AV.can, AV.canL, HO.can, Z3i, idx, Z04, Z01, Heap.at, Nat.reduceBEq, ↓reduceIte, Nat.reduceEqDiff, Option.getD_some, Option.map_some, List.map_cons, List.map_nil, List.getD_cons_zero, List.getD_cons_succ]; rfl) (by omega) ?_
    intro k hk
    simp only [↓Z1d, ↓Z2b, ↓Z1t, ↓Z05, ↓Z2q, ↓Z2k, Z49, Z4a, ↓Z20, ↓Z1c, ↓Z0i, ↓Z1u, ↓Z12, ↓Z1z, ↓Z2z, ↓Z30, ↓Z23, ↓Z1s, ↓Z2d, ↓Z28, ↓Z1y, ↓Z3m, ↓Z46, ↓Z3e, ↓Z3g, ↓Z3f, ↓Z3v, ↓Z3q, ↓Z44, ↓Z0j, ↓Z0b, ↓Z16, ↓Z0h, ↓Z1g, Z4d, Z0a, Z18, Z32, Z1a, Z35, evN, Z2s, Z1x, Z34, Z41, Z1w, Z19, Z1v, Z2p, Z2a, Z29, Z1e, Z2x, evT, Opd.ev, Z04, Z01, Z33, Z3x, Z3o, Z26, Z1f, Z2w, Z2y, Z3c, Z22, Z14, Z3r, LOp.isNew, State.prune, Z3s, Z3j, AV.leaf, Heap.at, Z0g, Z08, Z1m, Z0e, Z02, Z4x, Z4t, rowW, Z24, Z2t, Z1p, Z1b, rowB, Z2v, Z2u, rowN, Z4b, Z3h, Z17, Z15, w_or, Z4r, Z2r, Z45, Z50, Z42, Z4s, Z47, Z4z, Z4y, Z4u, Z4v, Z4w, w_eq, Bool.decide_eq_true, Z3b, Z3a, Z39, Z2f, Z1h, Z03, Z09, Z11, Z00, Z21, rowI, RatG.row, LocG.row, ActG.row, StepG.row, StampG.row, ActG.av, ActG.eta, RatG.eta, LocG.eta, beq_true, beq_false, Z2j, Z2o, Z2c, Z2l, Z10, Z0n, Z0y, Z0z, Z0m, Z0l, Z0c, List.length_set, List.length_replicate, Z06, Int.reduceToNat, Z4o, Z27, Z4e, Src.all, Src.len, Src.leaf, Src.leafN, Z37, Z3z, Z4k, Z0k, Z0o, Z0p, Z0q, Z0r, Z0s, Z0t, Z0u, Z4m, drows, evMk, List.length_map, Z1r, Z1q, List.take_length, List.take_left, List.length_append, Nat.le_add_right, ite_self, List.take_of_length_le, Z38, Z4j, Z3w, Option.isSome_none, Option.isSome_some, Nat.sub_zero, Z4i, Z4p, Z4g, evUn, Z0v, Z13, binT, binQ, chk, Z3t, List.contains_cons, List.contains_nil, Bool.or_false, Bool.false_or, Bool.and_self, resQ, resV, resT, Z4q, Z2e, Z43, Z3l, fnOf, Z3k, isD, HO.drow, Z4f, Z3u, evEq, eqV, eqK, eqC1, Z40, Z3y, Z36, Z31, Z48, Z3d, Z2i, Z1k, Z2h, Z1j, Z2g, Z1i, Z1l, Z0w, Z0x, Z0d, List.mem_cons, List.not_mem_nil, or_false, forall_eq, putRow, Z3n, Z25, RetS, RetF, RetD, AV.frz, AV.frzL, AV.freshP, AV.freshL, DV.less, Z2m, Z1n, Z2n, Z1o, Z0f, Z07, Option.some.injEq, AV.tup.injEq, AV.agg.injEq, List.cons.injEq, DV.list.injEq, List.isEmpty_nil, Nat.le_refl, AV.d.injEq, DV.int.injEq, DV.bool.injEq, ↓reduceIte, Nat.reduceEqDiff, Nat.reduceAdd, Nat.reduceBEq, List.length_cons, List.length_nil, List.replicate_succ, List.replicate_zero, List.nil_append, List.cons_append, List.append_nil, List.foldl_cons, List.foldl_nil, List.map_cons, List.map_nil, List.all_cons, List.all_nil, List.set_cons_zero, List.set_cons_succ, List.getD_cons_zero, List.getD_cons_succ, List.drop_zero, List.drop_succ_cons, List.take_succ_cons, List.take_zero, List.flatten_cons, List.flatten_nil, Bool.true_and, Bool.and_true, Bool.not_true, Bool.not_false, true_and, and_true, true_or, or_true, Option.bind_some, Option.map_some, decide_true, decide_false, beq_self_eq_true, true_implies, false_implies, implies_true, not_true_eq_false, not_false_eq_true, and_self, Bool.and_false, Bool.false_and, Nat.reduceLT, Nat.reduceLeDiff, List.reverse_cons, List.reverse_nil, Nat.zero_add, Nat.add_zero, Bool.false_eq_true, List.getElem?_cons_zero, Nat.reduceMul, Nat.mul_one, F1, G1, F2, G2, at_Has, hn, MG.cells, at_node2']
    refine ⟨fun c2 => ?_, fun c2 => ?_⟩
    · have g' : k < n := by omega
      rw [wrapU (k := k) (by omega), Z4l g' (by omega), hasI_nat]
      simp only [Z06, Z53]
      refine ⟨by omega, fun hb => ⟨⟨by omega, by omega⟩, ⟨by omega, by omega⟩, fun hq => ⟨⟨by omega, by omega⟩, c', by omega, ⟨by omega, by omega⟩, c', ?_⟩, fun hq => ?_⟩, fun hb => ?_⟩
      · rw [upS_yes p c' g' h1 (by rw [hp', hb, hq]; rfl)]
        exact Z3p.mk [0] (k + 1) (by simp) (by simp) (by simp only [State.can, AV.can, AV.canL, HO.can, Z3i, idx, Z04, Z01, Heap.at, Nat.reduceBEq, ↓reduceIte, Nat.reduceEqDiff, Option.getD_some, Option.map_some, List.map_cons, List.map_nil, List.getD_cons_zero, List.getD_cons_succ]) (by omega) (by omega)
      · rw [upS_no p (by rw [hp', hb, hq]; rfl)]
        exact Z3p.mk [0] (k + 1) (by simp) (by simp) (by simp only [State.can, AV.can, AV.canL, HO.can, Z3i, idx, Z04, Z01, Heap.at, Nat.reduceBEq, ↓reduceIte, Nat.reduceEqDiff, Option.getD_some, Option.map_some, List.map_cons, List.map_nil, List.getD_cons_zero, List.getD_cons_succ]) (by omega) (by omega)
      · rw [upS_no p (by rw [hp', hb]; rfl)]
        exact Z3p.mk [0] (k + 1) (by simp) (by simp) (by simp only [State.can, AV.can, AV.canL, HO.can, Z3i, idx, Z04, Z01, Heap.at, Nat.reduceBEq, ↓reduceIte, Nat.reduceEqDiff, Option.getD_some, Option.map_some, List.map_cons, List.map_nil, List.getD_cons_zero, List.getD_cons_succ]) (by omega) (by omega)
    · have : k = n := by omega
      subst this
      rw [Z4l c' (by unfold maxLen; omega), upS_next]
      exact Z3p.mk [0] (i + 1) (by simp) (by simp) (by simp only [State.can, AV.can, AV.canL, HO.can, Z3i, idx, Z04, Z01, Heap.at, Nat.reduceBEq, ↓reduceIte, Nat.reduceEqDiff, Option.getD_some, Option.map_some, List.map_cons, List.map_nil, List.getD_cons_zero, List.getD_cons_succ]) (by omega) (by omega)
  · have : i = n := by omega
    subst this
    rw [upS_end, ← hp]
    have := frz_end (l := whereG m.nodes q r) (n := i) (by simp [whereG, Z53, hn])
    unfold whereG at this
    rw [hn] at this
    unfold whereG
    rw [hn]
    exact this
theorem body_power_model_where {T : Tab} {n1 n_power_apart n_power_model_poloc_1 : Nat} (k1 : Knows T n1 sp_Has) (k2 : Knows T n_power_apart (sp_node2 apartQ)) (k3 : Knows T n_power_model_poloc_1 (sp_node2 locQ)) :
    (sp_where (qs2 n_power_apart n_power_model_poloc_1)).Body T V_power_model_where (L_power_model_where n1) R_power_model_where := by
  rintro ⟨m, r, f, g⟩
  simp only [sp_where, qs2]
  split
  · rename_i q hh
    split at hh
    · rename_i e; cases hh; rw [e]; exact where_body k1 k2 m r f
    · split at hh
      · rename_i e; cases hh; rw [e]; exact where_body k1 k3 m r f
      · cases hh
  · trivial

/-! ### ext, poloc -/
def sp_ext : Sp := ⟨MG × List W × Bool, fun x => [.dptr x.1.cells 0, .d (.list (x.2.1.map rowW) x.2.2)],
  fun x => .data (x.2.1.length ≤ 64 ∧ x.2.1.length ≤ x.1.nodes.length) (.d (.list ((whereG x.1.nodes apartQ x.2.1).map rowW) false)) false⟩
theorem at_ext (m : MG) (r : List W) (f : Bool) : sp_ext.at [.dptr m.cells 0, .d (.list (r.map rowW) f)] = .data (r.length ≤ 64 ∧ r.length ≤ m.nodes.length) (.d (.list ((whereG m.nodes apartQ r).map rowW) false)) false :=
  Sp.at_enc (s := sp_ext) (fun x y h => by
    obtain ⟨a, b, c⟩ := x; obtain ⟨a', b', c'⟩ := y
    simp only [sp_ext, List.cons.injEq, AV.dptr.injEq, AV.d.injEq, DV.list.injEq, and_true] at h
    rw [MG.cells_inj _ _ h.1, Z4n Z51 h.2.1, h.2.2]) (m, r, f)
theorem body_power_model_ext {T : Tab} {n1 n2 n_power_apart n_power_model_poloc_1 : Nat} (k1 : Knows T n1 (sp_where (qs2 n_power_apart n_power_model_poloc_1))) (e1 : qs2 n_power_apart n_power_model_poloc_1 n2 = some apartQ) :
    sp_ext.Body T V_power_model_ext (L_power_model_ext n1 n2) R_power_model_ext := by
  have F1 := k1.F; have G1 := k1.G
  rintro ⟨m, r, f⟩ ⟨h1, h2⟩
  refine ⟨rfl, ?_⟩
  unfold V_power_model_ext L_power_model_ext R_power_model_ext
  simp only [↓Z1d, ↓Z2b, ↓Z1t, ↓Z05, ↓Z2q, ↓Z2k, Z49, Z4a, ↓Z20, ↓Z1c, ↓Z0i, ↓Z1u, ↓Z12, ↓Z1z, ↓Z2z, ↓Z30, ↓Z23, ↓Z1s, ↓Z2d, ↓Z28, ↓Z1y, ↓Z3m, ↓Z46, ↓Z3e, ↓Z3g, ↓Z3f, ↓Z3v, ↓Z3q, ↓Z44, ↓Z0j, ↓Z0b, ↓Z16, ↓Z0h, ↓Z1g, Z4d, Z0a, Z18, Z32, Z1a, Z35, evN, Z2s, Z1x, Z34, Z41, Z1w, Z19, Z1v, Z2p, Z2a, Z29, Z1e, Z2x, evT, Opd.ev, Z04, Z01, Z33, Z3x, Z3o, Z26, Z1f, Z2w, Z2y, Z3c, Z22, Z14, Z3r, LOp.isNew, State.prune, Z3s, Z3j, AV.leaf, Heap.at, Z0g, Z08, Z1m, Z0e, Z02, Z4x, Z4t, rowW, Z24, Z2t, Z1p, Z1b, rowB, Z2v, Z2u, rowN, Z4b, Z3h, Z17, Z15, w_or, Z4r, Z2r, Z45, Z50, Z42, Z4s, Z47, Z4z, Z4y, Z4u, Z4v, Z4w, w_eq, Bool.decide_eq_true, Z3b, Z3a, Z39, Z2f, Z1h, Z03, Z09, Z11, Z00, Z21, rowI, RatG.row, LocG.row, ActG.row, StepG.row, StampG.row, ActG.av, ActG.eta, RatG.eta, LocG.eta, beq_true, beq_false, Z2j, Z2o, Z2c, Z2l, Z10, Z0n, Z0y, Z0z, Z0m, Z0l, Z0c, List.length_set, List.length_replicate, Z06, Int.reduceToNat, Z4o, Z27, Z4e, Src.all, Src.len, Src.leaf, Src.leafN, Z37, Z3z, Z4k, Z0k, Z0o, Z0p, Z0q, Z0r, Z0s, Z0t, Z0u, Z4m, drows, evMk, List.length_map, Z1r, Z1q, List.take_length, List.take_left, List.length_append, Nat.le_add_right, ite_self, List.take_of_length_le, Z38, Z4j, Z3w, Option.isSome_none, Option.isSome_some, Nat.sub_zero, Z4i, Z4p, Z4g, evUn, Z0v, Z13, binT, binQ, chk, Z3t, List.contains_cons, List.contains_nil, Bool.or_false, Bool.false_or, Bool.and_self, resQ, resV, resT, Z4q, Z2e, Z43, Z3l, fnOf, Z3k, isD, HO.drow, Z4f, Z3u, evEq, eqV, eqK, eqC1, Z40, Z3y, Z36, Z31, Z48, Z3d, Z2i, Z1k, Z2h, Z1j, Z2g, Z1i, Z1l, Z0w, Z0x, Z0d, List.mem_cons, List.not_mem_nil, or_false, forall_eq, putRow, Z3n, Z25, RetS, RetF, RetD, AV.frz, AV.frzL, AV.freshP, AV.freshL, DV.less, Z2m, Z1n, Z2n, Z1o, Z0f, Z07, Option.some.injEq, AV.tup.injEq, AV.agg.injEq, List.cons.injEq, DV.list.injEq, List.isEmpty_nil, Nat.le_refl, AV.d.injEq, DV.int.injEq, DV.bool.injEq, ↓reduceIte, Nat.reduceEqDiff, Nat.reduceAdd, Nat.reduceBEq, List.length_cons, List.length_nil, List.replicate_succ, List.replicate_zero, List.nil_append, List.cons_append, List.append_nil, List.foldl_cons, List.foldl_nil, List.map_cons, List.map_nil, List.all_cons, List.all_nil, List.set_cons_zero, List.set_cons_succ, List.getD_cons_zero, List.getD_cons_succ, List.drop_zero, List.drop_succ_cons, List.take_succ_cons, List.take_zero, List.flatten_cons, List.flatten_nil, Bool.true_and, Bool.and_true, Bool.not_true, Bool.not_false, true_and, and_true, true_or, or_true, Option.bind_some, Option.map_some, decide_true, decide_false, beq_self_eq_true, true_implies, false_implies, implies_true, not_true_eq_false, not_false_eq_true, and_self, Bool.and_false, Bool.false_and, Nat.reduceLT, Nat.reduceLeDiff, List.reverse_cons, List.reverse_nil, Nat.zero_add, Nat.add_zero, Bool.false_eq_true, List.getElem?_cons_zero, Nat.reduceMul, Nat.mul_one, sp_ext, F1, G1, at_where e1]
  exact ⟨h1, h2⟩
def sp_poloc : Sp := ⟨MG, fun m => [.dptr m.cells 0], fun m => .data (m.po.length ≤ 64 ∧ m.po.length ≤ m.nodes.length) (.d (.list ((whereG m.nodes locQ m.po).map rowW) false)) false⟩
theorem at_poloc (m : MG) : sp_poloc.at [.dptr m.cells 0] = .data (m.po.length ≤ 64 ∧ m.po.length ≤ m.nodes.length) (.d (.list ((whereG m.nodes locQ m.po).map rowW) false)) false :=
  Sp.at_enc (s := sp_poloc) (fun (x y : MG) h => by
    simp only [sp_poloc, List.cons.injEq, AV.dptr.injEq, and_true] at h
    exact MG.cells_inj _ _ h) m
theorem body_power_model_poloc {T : Tab} {n1 n2 n_power_apart n_power_model_poloc_1 : Nat} (k1 : Knows T n1 (sp_where (qs2 n_power_apart n_power_model_poloc_1))) (e1 : qs2 n_power_apart n_power_model_poloc_1 n2 = some locQ) :
    sp_poloc.Body T V_power_model_poloc (L_power_model_poloc n1 n2) R_power_model_poloc := by
  have F1 := k1.F; have G1 := k1.G
  rintro (m : MG) ⟨h1, h2⟩
  refine ⟨rfl, ?_⟩
  unfold V_power_model_poloc L_power_model_poloc R_power_model_poloc
  simp only [↓Z1d, ↓Z2b, ↓Z1t, ↓Z05, ↓Z2q, ↓Z2k, Z49, Z4a, ↓Z20, ↓Z1c, ↓Z0i, ↓Z1u, ↓Z12, ↓Z1z, ↓Z2z, ↓Z30, ↓Z23, ↓Z1s, ↓Z2d, ↓Z28, ↓Z1y, ↓Z3m, ↓Z46, ↓Z3e, ↓Z3g, ↓Z3f, ↓Z3v, ↓Z3q, ↓Z44, ↓Z0j, ↓Z0b, ↓Z16, ↓Z0h, ↓Z1g, Z4d, Z0a, Z18, Z32, Z1a, Z35, evN, Z2s, Z1x, Z34, Z41, Z1w, Z19, Z1v, Z2p, Z2a, Z29, Z1e, Z2x, evT, Opd.ev, Z04, Z01, Z33, Z3x, Z3o, Z26, Z1f, Z2w, Z2y, Z3c, Z22, Z14, Z3r, LOp.isNew, State.prune, Z3s, Z3j, AV.leaf, Heap.at, Z0g, Z08, Z1m, Z0e, Z02, Z4x, Z4t, rowW, Z24, Z2t, Z1p, Z1b, rowB, Z2v, Z2u, rowN, Z4b, Z3h, Z17, Z15, w_or, Z4r, Z2r, Z45, Z50, Z42, Z4s, Z47, Z4z, Z4y, Z4u, Z4v, Z4w, w_eq, Bool.decide_eq_true, Z3b, Z3a, Z39, Z2f, Z1h, Z03, Z09, Z11, Z00, Z21, rowI, RatG.row, LocG.row, ActG.row, StepG.row, StampG.row, ActG.av, ActG.eta, RatG.eta, LocG.eta, beq_true, beq_false, Z2j, Z2o, Z2c, Z2l, Z10, Z0n, Z0y, Z0z, Z0m, Z0l, Z0c, List.length_set, List.length_replicate, Z06, Int.reduceToNat, Z4o, Z27, Z4e, Src.all, Src.len, Src.leaf, Src.leafN, Z37, Z3z, Z4k, Z0k, Z0o, Z0p, Z0q, Z0r, Z0s, Z0t, Z0u, Z4m, drows, evMk, List.length_map, Z1r, Z1q, List.take_length, List.take_left, List.length_append, Nat.le_add_right, ite_self, List.take_of_length_le, Z38, Z4j, Z3w, Option.isSome_none, Option.isSome_some, Nat.sub_zero, Z4i, Z4p, Z4g, evUn, Z0v, Z13, binT, binQ, chk, Z3t, List.contains_cons, List.contains_nil, Bool.or_false, Bool.false_or, Bool.and_self, resQ, resV, resT, Z4q, Z2e, Z43, Z3l, fnOf, Z3k, isD, HO.drow, Z4f, Z3u, evEq, eqV, eqK, eqC1, Z40, Z3y, Z36, Z31, Z48, Z3d, Z2i, Z1k, Z2h, Z1j, Z2g, Z1i, Z1l, Z0w, Z0x, Z0d, List.mem_cons, List.not_mem_nil, or_false, forall_eq, putRow, Z3n, Z25, RetS, RetF, RetD, AV.frz, AV.frzL, AV.freshP, AV.freshL, DV.less, Z2m, Z1n, Z2n, Z1o, Z0f, Z07, Option.some.injEq, AV.tup.injEq, AV.agg.injEq, List.cons.injEq, DV.list.injEq, List.isEmpty_nil, Nat.le_refl, AV.d.injEq, DV.int.injEq, DV.bool.injEq, ↓reduceIte, Nat.reduceEqDiff, Nat.reduceAdd, Nat.reduceBEq, List.length_cons, List.length_nil, List.replicate_succ, List.replicate_zero, List.nil_append, List.cons_append, List.append_nil, List.foldl_cons, List.foldl_nil, List.map_cons, List.map_nil, List.all_cons, List.all_nil, List.set_cons_zero, List.set_cons_succ, List.getD_cons_zero, List.getD_cons_succ, List.drop_zero, List.drop_succ_cons, List.take_succ_cons, List.take_zero, List.flatten_cons, List.flatten_nil, Bool.true_and, Bool.and_true, Bool.not_true, Bool.not_false, true_and, and_true, true_or, or_true, Option.bind_some, Option.map_some, decide_true, decide_false, beq_self_eq_true, true_implies, false_implies, implies_true, not_true_eq_false, not_false_eq_true, and_self, Bool.and_false, Bool.false_and, Nat.reduceLT, Nat.reduceLeDiff, List.reverse_cons, List.reverse_nil, Nat.zero_add, Nat.add_zero, Bool.false_eq_true, List.getElem?_cons_zero, Nat.reduceMul, Nat.mul_one, sp_poloc, F1, G1, at_where e1, cells_len, cells_2]
  exact ⟨h1, h2⟩

/-! ### all -/
/-- A list of relations, as rows. -/
def rowL (x : List W × Bool) : List DV := [.list (x.1.map rowW) x.2]
def orG (l : List (List W × Bool)) : List W := l.foldl (fun o x => lay2 qOr o x.1) []
def sp_pall : Sp := ⟨List (List W × Bool) × Bool, fun x => [.d (.list (x.1.map rowL) x.2)], fun x => .data (x.1.length ≤ 64 ∧ ∀ r ∈ x.1, r.1.length ≤ 64) (.d (.list ((orG x.1).map rowW) false)) false⟩
theorem rowL_inj (x y : List W × Bool) (h : rowL x = rowL y) : x = y := by
  obtain ⟨a, b⟩ := x; obtain ⟨c, d⟩ := y
  simp only [rowL, List.cons.injEq, DV.list.injEq, and_true] at h
  rw [Z4n Z51 h.1, h.2]
theorem at_pall (l : List (List W × Bool)) (f : Bool) : sp_pall.at [.d (.list (l.map rowL) f)] = .data (l.length ≤ 64 ∧ ∀ r ∈ l, r.1.length ≤ 64) (.d (.list ((orG l).map rowW) false)) false :=
  Sp.at_enc (s := sp_pall) (fun x y h => by
    obtain ⟨a, b⟩ := x; obtain ⟨a', b'⟩ := y
    simp only [sp_pall, List.cons.injEq, AV.d.injEq, DV.list.injEq, and_true] at h
    rw [Z4n rowL_inj h.1, h.2]) (l, f)
theorem at_lay2n (q : Bool → Bool → Bool) (B : List W) (e f : Bool) : (sp_lay2 q).at [.d (.list [] e), .d (.list (B.map rowW) f)] = .rows (0 ≤ maxLen ∧ B.length ≤ maxLen) 1 ((lay2 q [] B).map rowW) := at_lay2 q [] B e f
theorem idx_rowL {l : List (List W × Bool)} {full : Bool} {kd : IntKind} {n : Int} {k : Delta → Prop} : stepK (evIdxAddr 1 (.d (.list (l.map rowL) full)) (.d (.int kd n))) k ↔ (0 ≤ n ∧ n < l.length) ∧ k ⟨.dptr (rowL (l.getD n.toNat ([], false))) 0, [], []⟩ := by
  exact stepK_idx_map (f := rowL) (fun _ => rfl)
theorem rowL_len (x : List W × Bool) : (rowL x).length = 1 := rfl
theorem rowL_get (x : List W × Bool) : (rowL x).getD 0 DV.nilp = .list (x.1.map rowW) x.2 := rfl
theorem orG_next {l : List (List W × Bool)} {i : Nat} (h : i < l.length) : lay2 qOr (orG (l.take i)) (l.getD i ([], false)).1 = orG (l.take (i + 1)) := by
  rw [List.take_succ_eq_append_getElem h, orG, orG, List.foldl_append]
  rw [getD_lt h]; rfl
theorem lay2_len {q : Bool → Bool → Bool} {A B : List W} : (lay2 q A B).length = mxR A B := Z53
theorem orG_len (l : List (List W × Bool)) : (orG l).length ≤ 64 := by
  unfold orG
  suffices h : ∀ (l : List (List W × Bool)) (o : List W), o.length ≤ 64 → (l.foldl (fun o x => lay2 qOr o x.1) o).length ≤ 64 from h l [] (by simp)
  intro l
  induction l with
  | nil => exact fun o h => h
  | cons x l ih => exact fun o _ => ih _ (by rw [lay2_len]; exact mxR_le _ _)
theorem body_power_all {T : Tab} {n1 : Nat} (k1 : Knows T n1 (sp_lay2 qOr).dat) : sp_pall.Body T V_power_all (L_power_all n1) R_power_all := by
  have F1 := k1.F; have G1 := k1.G
  rintro ⟨l, f⟩ ⟨h1, h2⟩
  have h1 : l.length ≤ 64 := h1
  have h2 : ∀ r ∈ l, r.1.length ≤ 64 := h2
  refine ⟨rfl, ?_⟩
  unfold V_power_all L_power_all R_power_all
  simp only [↓Z1d, ↓Z2b, ↓Z1t, ↓Z05, ↓Z2q, ↓Z2k, Z49, Z4a, ↓Z20, ↓Z1c, ↓Z0i, ↓Z1u, ↓Z12, ↓Z1z, ↓Z2z, ↓Z30, ↓Z23, ↓Z1s, ↓Z2d, ↓Z28, ↓Z1y, ↓Z3m, ↓Z46, ↓Z3e, ↓Z3g, ↓Z3f, ↓Z3v, ↓Z3q, ↓Z44, ↓Z0j, ↓Z0b, ↓Z16, ↓Z0h, ↓Z1g, Z4d, Z0a, Z18, Z32, Z1a, Z35, evN, Z2s, Z1x, Z34, Z41, Z1w, Z19, Z1v, Z2p, Z2a, Z29, Z1e, Z2x, evT, Opd.ev, Z04, Z01, Z33, Z3x, Z3o, Z26, Z1f, Z2w, Z2y, Z3c, Z22, Z14, Z3r, LOp.isNew, State.prune, Z3s, Z3j, AV.leaf, Heap.at, Z0g, Z08, Z1m, Z0e, Z02, Z4x, Z4t, rowW, Z24, Z2t, Z1p, Z1b, rowB, Z2v, Z2u, rowN, Z4b, Z3h, Z17, Z15, w_or, Z4r, Z2r, Z45, Z50, Z42, Z4s, Z47, Z4z, Z4y, Z4u, Z4v, Z4w, w_eq, Bool.decide_eq_true, Z3b, Z3a, Z39, Z2f, Z1h, Z03, Z09, Z11, Z00, Z21, rowI, RatG.row, LocG.row, ActG.row, StepG.row, StampG.row, ActG.av, ActG.eta, RatG.eta, LocG.eta, beq_true, beq_false, Z2j, Z2o, Z2c, Z2l, Z10, Z0n, Z0y, Z0z, Z0m, Z0l, Z0c, List.length_set, List.length_replicate, Z06, Int.reduceToNat, Z4o, Z27, Z4e, Src.all, Src.len, Src.leaf, Src.leafN, Z37, Z3z, Z4k, Z0k, Z0o, Z0p, Z0q, Z0r, Z0s, Z0t, Z0u, Z4m, drows, evMk, List.length_map, Z1r, Z1q, List.take_length, List.take_left, List.length_append, Nat.le_add_right, ite_self, List.take_of_length_le, Z38, Z4j, Z3w, Option.isSome_none, Option.isSome_some, Nat.sub_zero, Z4i, Z4p, Z4g, evUn, Z0v, Z13, binT, binQ, chk, Z3t, List.contains_cons, List.contains_nil, Bool.or_false, Bool.false_or, Bool.and_self, resQ, resV, resT, Z4q, Z2e, Z43, Z3l, fnOf, Z3k, isD, HO.drow, Z4f, Z3u, evEq, eqV, eqK, eqC1, Z40, Z3y, Z36, Z31, Z48, Z3d, Z2i, Z1k, Z2h, Z1j, Z2g, Z1i, Z1l, Z0w, Z0x, Z0d, List.mem_cons, List.not_mem_nil, or_false, forall_eq, putRow, Z3n, Z25, RetS, RetF, RetD, AV.frz, AV.frzL, AV.freshP, AV.freshL, DV.less, Z2m, Z1n, Z2n, Z1o, Z0f, Z07, Option.some.injEq, AV.tup.injEq, AV.agg.injEq, List.cons.injEq, DV.list.injEq, List.isEmpty_nil, Nat.le_refl, AV.d.injEq, DV.int.injEq, DV.bool.injEq, ↓reduceIte, Nat.reduceEqDiff, Nat.reduceAdd, Nat.reduceBEq, List.length_cons, List.length_nil, List.replicate_succ, List.replicate_zero, List.nil_append, List.cons_append, List.append_nil, List.foldl_cons, List.foldl_nil, List.map_cons, List.map_nil, List.all_cons, List.all_nil, List.set_cons_zero, List.set_cons_succ, List.getD_cons_zero, List.getD_cons_succ, List.drop_zero, List.drop_succ_cons, List.take_succ_cons, List.take_zero, List.flatten_cons, List.flatten_nil, Bool.true_and, Bool.and_true, Bool.not_true, Bool.not_false, true_and, and_true, true_or, or_true, Option.bind_some, Option.map_some, decide_true, decide_false, beq_self_eq_true, true_implies, false_implies, implies_true, not_true_eq_false, not_false_eq_true, and_self, Bool.and_false, Bool.false_and, Nat.reduceLT, Nat.reduceLeDiff, List.reverse_cons, List.reverse_nil, Nat.zero_add, Nat.add_zero, Bool.false_eq_true, List.getElem?_cons_zero, Nat.reduceMul, Nat.mul_one, sp_pall, F1, G1, Sp.at_dat, at_lay2, at_lay2n, SpecR.dat_rows, idx_rowL, List.length_map]
  refine Loop.fam [6, 7, 8, 3] (fun i : Nat => ⟨[(6, .d (.list (l.map rowL) f)), (7, .d (.int .i64 l.length)), (8, .d (.int .i64 i)), (3, .d (.list ((orG (l.take i)).map rowW) (decide (i = 0))))], []⟩) (fun i => i ≤ l.length) (fun i => l.length - i) 0 [] (by simp) (by simp)
    (by simp only [State.can, AV.can, AV.canL, HO.can, Z3i, idx, Z04, Z01, Heap.at, Nat.reduceBEq, ↓reduceIte, Nat.reduceEqDiff, Option.getD_some, Option.map_some, List.map_cons, List.map_nil, List.getD_cons_zero, List.getD_cons_succ]; rfl) (by omega) ?_
  intro i hi
  simp only [↓Z1d, ↓Z2b, ↓Z1t, ↓Z05, ↓Z2q, ↓Z2k, Z49, Z4a, ↓Z20, ↓Z1c, ↓Z0i, ↓Z1u, ↓Z12, ↓Z1z, ↓Z2z, ↓Z30, ↓Z23, ↓Z1s, ↓Z2d, ↓Z28, ↓Z1y, ↓Z3m, ↓Z46, ↓Z3e, ↓Z3g, ↓Z3f, ↓Z3v, ↓Z3q, ↓Z44, ↓Z0j, ↓Z0b, ↓Z16, ↓Z0h, ↓Z1g, Z4d, Z0a, Z18, Z32, Z1a, Z35, evN, Z2s, Z1x, Z34, Z41, Z1w, Z19, Z1v, Z2p, Z2a, Z29, Z1e, Z2x, evT, Opd.ev, Z04, Z01, Z33, Z3x, Z3o, Z26, Z1f, Z2w, Z2y, Z3c, Z22, Z14, Z3r, LOp.isNew, State.prune, Z3s, Z3j, AV.leaf, Heap.at, Z0g, Z08, Z1m, Z0e, Z02, Z4x, Z4t, rowW, Z24, Z2t, Z1p, Z1b, rowB, Z2v, Z2u, rowN, Z4b, Z3h, Z17, Z15, w_or, Z4r, Z2r, Z45, Z50, Z42, Z4s, Z47, Z4z, Z4y, Z4u, Z4v, Z4w, w_eq, Bool.decide_eq_true, Z3b, Z3a, Z39, Z2f, Z1h, Z03, Z09, Z11, Z00, Z21, rowI, RatG.row, LocG.row, ActG.row, StepG.row, StampG.row, ActG.av, ActG.eta, RatG.eta, LocG.eta, beq_true, beq_false, Z2j, Z2o, Z2c, Z2l, Z10, Z0n, Z0y, Z0z, Z0m, Z0l, Z0c, List.length_set, List.length_replicate, Z06, Int.reduceToNat, Z4o, Z27, Z4e, Src.all, Src.len, Src.leaf, Src.leafN, Z37, Z3z, Z4k, Z0k, Z0o, Z0p, Z0q, Z0r, Z0s, Z0t, Z0u, Z4m, drows, evMk, List.length_map, Z1r, Z1q, List.take_length, List.take_left, List.length_append, Nat.le_add_right, ite_self, List.take_of_length_le, Z38, Z4j, Z3w, Option.isSome_none, Option.isSome_some, Nat.sub_zero, Z4i, Z4p, Z4g, evUn, Z0v, Z13, binT, binQ, chk, Z3t, List.contains_cons, List.contains_nil, Bool.or_false, Bool.false_or, Bool.and_self, resQ, resV, resT, Z4q, Z2e, Z43, Z3l, fnOf, Z3k, isD, HO.drow, Z4f, Z3u, evEq, eqV, eqK, eqC1, Z40, Z3y, Z36, Z31, Z48, Z3d, Z2i, Z1k, Z2h, Z1j, Z2g, Z1i, Z1l, Z0w, Z0x, Z0d, List.mem_cons, List.not_mem_nil, or_false, forall_eq, putRow, Z3n, Z25, RetS, RetF, RetD, AV.frz, AV.frzL, AV.freshP, AV.freshL, DV.less, Z2m, Z1n, Z2n, Z1o, Z0f, Z07, Option.some.injEq, AV.tup.injEq, AV.agg.injEq, List.cons.injEq, DV.list.injEq, List.isEmpty_nil, Nat.le_refl, AV.d.injEq, DV.int.injEq, DV.bool.injEq, ↓reduceIte, Nat.reduceEqDiff, Nat.reduceAdd, Nat.reduceBEq, List.length_cons, List.length_nil, List.replicate_succ, List.replicate_zero, List.nil_append, List.cons_append, List.append_nil, List.foldl_cons, List.foldl_nil, List.map_cons, List.map_nil, List.all_cons, List.all_nil, List.set_cons_zero, List.set_cons_succ, List.getD_cons_zero, List.getD_cons_succ, List.drop_zero, List.drop_succ_cons, List.take_succ_cons, List.take_zero, List.flatten_cons, List.flatten_nil, Bool.true_and, Bool.and_true, Bool.not_true, Bool.not_false, true_and, and_true, true_or, or_true, Option.bind_some, Option.map_some, decide_true, decide_false, beq_self_eq_true, true_implies, false_implies, implies_true, not_true_eq_false, not_false_eq_true, and_self, Bool.and_false, Bool.false_and, Nat.reduceLT, Nat.reduceLeDiff, List.reverse_cons, List.reverse_nil, Nat.zero_add, Nat.add_zero, Bool.false_eq_true, List.getElem?_cons_zero, Nat.reduceMul, Nat.mul_one, F1, G1, Sp.at_dat, at_lay2, at_lay2n, SpecR.dat_rows, idx_rowL, rowL_len, rowL_get]
  refine ⟨fun c => ?_, fun c => ?_⟩
  · have c' : i < l.length := by omega
    have e1 := orG_len (l.take i)
    have e2 : (l.getD i ([], false)).1.length ≤ 64 := by rw [getD_lt c']; exact h2 _ (List.getElem_mem c')
    rw [orG_next c', Z4l c' (by unfold maxLen; omega)]
    refine ⟨⟨by omega, by omega⟩, ⟨by unfold maxLen; omega, by unfold maxLen; omega⟩, Z3p.mk [] (i + 1) (by simp) (by simp) ?_ (by omega) (by omega)⟩
    rw [show decide (i + 1 = 0) = false from rfl]
    simp only [State.can, AV.can, AV.canL, HO.can, Z3i, idx, Z04, Z01, Heap.at, Nat.reduceBEq, ↓reduceIte, Nat.reduceEqDiff, Option.getD_some, Option.map_some, List.map_cons, List.map_nil, List.getD_cons_zero, List.getD_cons_succ]
  · have : i = l.length := by omega
    subst this
    rw [List.take_length]
end Go.Ago

/- Contracts of package power: the model of an execution. Conditions: none. -/
set_option maxRecDepth 100000
set_option linter.unusedSimpArgs false
set_option linter.unusedVariables false
namespace Go.Ago

/-! ### slices.Equal, slices.ContainsFunc at words -/
def sp_eqW : Sp := ⟨List W × Bool × List W × Bool, fun x => [.d (.list (x.1.map rowW) x.2.1), .d (.list (x.2.2.1.map rowW) x.2.2.2)], fun x => .data (x.1.length ≤ maxLen) (.d (.bool (decide (x.1 = x.2.2.1)))) true⟩
theorem at_eqW (a b : List W) (f g : Bool) : sp_eqW.at [.d (.list (a.map rowW) f), .d (.list (b.map rowW) g)] = .data (a.length ≤ maxLen) (.d (.bool (decide (a = b)))) true :=
  Sp.at_enc (s := sp_eqW) (fun x y h => by
    obtain ⟨a, b, c, d⟩ := x; obtain ⟨a', b', c', d'⟩ := y
    simp only [sp_eqW, List.cons.injEq, AV.d.injEq, DV.list.injEq, and_true] at h
    rw [Z4n Z51 h.1.1, h.1.2, Z4n Z51 h.2.1, h.2.2]) (a, f, b, g)
theorem body_slices_Equal_uint64 {T : Tab} : sp_eqW.Body T V_slices_Equal_uint64 L_slices_Equal_uint64 R_slices_Equal_uint64 := by
  rintro ⟨a, f, b, g⟩ hlen
  refine .inl ⟨rfl, ?_⟩
  unfold V_slices_Equal_uint64 L_slices_Equal_uint64 R_slices_Equal_uint64
  simp only [↓Z1d, ↓Z2b, ↓Z1t, ↓Z05, ↓Z2q, ↓Z2k, Z49, Z4a, ↓Z20, ↓Z1c, ↓Z0i, ↓Z1u, ↓Z12, ↓Z1z, ↓Z2z, ↓Z30, ↓Z23, ↓Z1s, ↓Z2d, ↓Z28, ↓Z1y, ↓Z3m, ↓Z46, ↓Z3e, ↓Z3g, ↓Z3f, ↓Z3v, ↓Z3q, ↓Z44, ↓Z0j, ↓Z0b, ↓Z16, ↓Z0h, ↓Z1g, Z4d, Z0a, Z18, Z32, Z1a, Z35, evN, Z2s, Z1x, Z34, Z41, Z1w, Z19, Z1v, Z2p, Z2a, Z29, Z1e, Z2x, evT, Opd.ev, Z04, Z01, Z33, Z3x, Z3o, Z26, Z1f, Z2w, Z2y, Z3c, Z22, Z14, Z3r, LOp.isNew, State.prune, Z3s, Z3j, AV.leaf, Heap.at, Z0g, Z08, Z1m, Z0e, Z02, Z4x, Z4t, rowW, Z24, Z2t, Z1p, Z1b, rowB, Z2v, Z2u, rowN, Z4b, Z3h, Z17, Z15, w_or, Z4r, Z2r, Z45, Z50, Z42, Z4s, Z47, Z4z, Z4y, Z4u, Z4v, Z4w, w_eq, Bool.decide_eq_true, Z3b, Z3a, Z39, Z2f, Z1h, Z03, Z09, Z11, Z00, Z21, rowI, RatG.row, LocG.row, ActG.row, StepG.row, StampG.row, ActG.av, ActG.eta, RatG.eta, LocG.eta, beq_true, beq_false, Z2j, Z2o, Z2c, Z2l, Z10, Z0n, Z0y, Z0z, Z0m, Z0l, Z0c, List.length_set, List.length_replicate, Z06, Int.reduceToNat, Z4o, Z27, Z4e, Src.all, Src.len, Src.leaf, Src.leafN, Z37, Z3z, Z4k, Z0k, Z0o, Z0p, Z0q, Z0r, Z0s, Z0t, Z0u, Z4m, drows, evMk, List.length_map, Z1r, Z1q, List.take_length, List.take_left, List.length_append, Nat.le_add_right, ite_self, List.take_of_length_le, Z38, Z4j, Z3w, Option.isSome_none, Option.isSome_some, Nat.sub_zero, Z4i, Z4p, Z4g, evUn, Z0v, Z13, binT, binQ, chk, Z3t, List.contains_cons, List.contains_nil, Bool.or_false, Bool.false_or, Bool.and_self, resQ, resV, resT, Z4q, Z2e, Z43, Z3l, fnOf, Z3k, isD, HO.drow, Z4f, Z3u, evEq, eqV, eqK, eqC1, Z40, Z3y, Z36, Z31, Z48, Z3d, Z2i, Z1k, Z2h, Z1j, Z2g, Z1i, Z1l, Z0w, Z0x, Z0d, List.mem_cons, List.not_mem_nil, or_false, forall_eq, putRow, Z3n, Z25, RetS, RetF, RetD, AV.frz, AV.frzL, AV.freshP, AV.freshL, DV.less, Z2m, Z1n, Z2n, Z1o, Z0f, Z07, Option.some.injEq, AV.tup.injEq, AV.agg.injEq, List.cons.injEq, DV.list.injEq, List.isEmpty_nil, Nat.le_refl, AV.d.injEq, DV.int.injEq, DV.bool.injEq, ↓reduceIte, Nat.reduceEqDiff, Nat.reduceAdd, Nat.reduceBEq, List.length_cons, List.length_nil, List.replicate_succ, List.replicate_zero, List.nil_append, List.cons_append, List.append_nil, List.foldl_cons, List.foldl_nil, List.map_cons, List.map_nil, List.all_cons, List.all_nil, List.set_cons_zero, List.set_cons_succ, List.getD_cons_zero, List.getD_cons_succ, List.drop_zero, List.drop_succ_cons, List.take_succ_cons, List.take_zero, List.flatten_cons, List.flatten_nil, Bool.true_and, Bool.and_true, Bool.not_true, Bool.not_false, true_and, and_true, true_or, or_true, Option.bind_some, Option.map_some, decide_true, decide_false, beq_self_eq_true, true_implies, false_implies, implies_true, not_true_eq_false, not_false_eq_true, and_self, Bool.and_false, Bool.false_and, Nat.reduceLT, Nat.reduceLeDiff, List.reverse_cons, List.reverse_nil, Nat.zero_add, Nat.add_zero, Bool.false_eq_true, List.getElem?_cons_zero, Nat.reduceMul, Nat.mul_one, sp_eqW]
  have hm : maxLen = 9223372036854775807 := rfl
  have hlen : a.length ≤ maxLen := hlen
  refine ⟨fun h => ?_, fun h => ?_⟩
  · have hab : a.length = b.length := by omega
    refine Loop.fam [0, 1, 12, 13] (fun i : Nat => ⟨[(0, .d (.list (a.map rowW) f)), (1, .d (.list (b.map rowW) g)), (12, .d (.int .i64 a.length)), (13, .d (.int .i64 (i : Nat)))], []⟩) (fun i => i ≤ a.length ∧ a.take i = b.take i) (fun i => a.length - i) 0 [] (by simp) (by simp)
      (by simp only [State.can, AV.can, AV.canL, HO.can, Z3i, idx, Z04, Z01, Heap.at, Nat.reduceBEq, ↓reduceIte, Nat.reduceEqDiff, Option.getD_some, Option.map_some, List.map_cons, List.map_nil, List.getD_cons_zero, List.getD_cons_succ]; rfl) ⟨by omega, by simp⟩ ?_
    rintro i ⟨h1, h2⟩
    simp only [↓Z1d, ↓Z2b, ↓Z1t, ↓Z05, ↓Z2q, ↓Z2k, Z49, Z4a, ↓Z20, ↓Z1c, ↓Z0i, ↓Z1u, ↓Z12, ↓Z1z, ↓Z2z, ↓Z30, ↓Z23, ↓Z1s, ↓Z2d, ↓Z28, ↓Z1y, ↓Z3m, ↓Z46, ↓Z3e, ↓Z3g, ↓Z3f, ↓Z3v, ↓Z3q, ↓Z44, ↓Z0j, ↓Z0b, ↓Z16, ↓Z0h, ↓Z1g, Z4d, Z0a, Z18, Z32, Z1a, Z35, evN, Z2s, Z1x, Z34, Z41, Z1w, Z19, Z1v, Z2p, Z2a, Z29, Z1e, Z2x, evT, Opd.ev, Z04, Z01, Z33, Z3x, Z3o, Z26, Z1f, Z2w, Z2y, Z3c, Z22, Z14, Z3r, LOp.isNew, State.prune, Z3s, Z3j, AV.leaf, Heap.at, Z0g, Z08, Z1m, Z0e, Z02, Z4x, Z4t, rowW, Z24, Z2t, Z1p, Z1b, rowB, Z2v, Z2u, rowN, Z4b, Z3h, Z17, Z15, w_or, Z4r, Z2r, Z45, Z50, Z42, Z4s, Z47, Z4z, Z4y, Z4u, Z4v, Z4w, w_eq, Bool.decide_eq_true, Z3b, Z3a, Z39, Z2f, Z1h, Z03, Z09, Z11, Z00, Z21, rowI, RatG.row, LocG.row, ActG.row, StepG.row, StampG.row, ActG.av, ActG.eta, RatG.eta, LocG.eta, beq_true, beq_false, Z2j, Z2o, Z2c, Z2l, Z10, Z0n, Z0y, Z0z, Z0m, Z0l, Z0c, List.length_set, List.length_replicate, Z06, Int.reduceToNat, Z4o, Z27, Z4e, Src.all, Src.len, Src.leaf, Src.leafN, Z37, Z3z, Z4k, Z0k, Z0o, Z0p, Z0q, Z0r, Z0s, Z0t, Z0u, Z4m, drows, evMk, List.length_map, Z1r, Z1q, List.take_length, List.take_left, List.length_append, Nat.le_add_right, ite_self, List.take_of_length_le, Z38, Z4j, Z3w, Option.isSome_none, Option.isSome_some, Nat.sub_zero, Z4i, Z4p, Z4g, evUn, Z0v, Z13, binT, binQ, chk, Z3t, List.contains_cons, List.contains_nil, Bool.or_false, Bool.false_or, Bool.and_self, resQ, resV, resT, Z4q, Z2e, Z43, Z3l, fnOf, Z3k, isD, HO.drow, Z4f, Z3u, evEq, eqV, eqK, eqC1, Z40, Z3y, Z36, Z31, Z48, Z3d, Z2i, Z1k, Z2h, Z1j, Z2g, Z1i, Z1l, Z0w, Z0x, Z0d, List.mem_cons, List.not_mem_nil, or_false, forall_eq, putRow, Z3n, Z25, RetS, RetF, RetD, AV.frz, AV.frzL, AV.freshP, AV.freshL, DV.less, Z2m, Z1n, Z2n, Z1o, Z0f, Z07, Option.some.injEq, AV.tup.injEq, AV.agg.injEq, List.cons.injEq, DV.list.injEq, List.isEmpty_nil, Nat.le_refl, AV.d.injEq, DV.int.injEq, DV.bool.injEq, ↓reduceIte, Nat.reduceEqDiff, Nat.reduceAdd, Nat.reduceBEq, List.length_cons, List.length_nil, List.replicate_succ, List.replicate_zero, List.nil_append, List.cons_append, List.append_nil, List.foldl_cons, List.foldl_nil, List.map_cons, List.map_nil, List.all_cons, List.all_nil, List.set_cons_zero, List.set_cons_succ, List.getD_cons_zero, List.getD_cons_succ, List.drop_zero, List.drop_succ_cons, List.take_succ_cons, List.take_zero, List.flatten_cons, List.flatten_nil, Bool.true_and, Bool.and_true, Bool.not_true, Bool.not_false, true_and, and_true, true_or, or_true, Option.bind_some, Option.map_some, decide_true, decide_false, beq_self_eq_true, true_implies, false_implies, implies_true, not_true_eq_false, not_false_eq_true, and_self, Bool.and_false, Bool.false_and, Nat.reduceLT, Nat.reduceLeDiff, List.reverse_cons, List.reverse_nil, Nat.zero_add, Nat.add_zero, Bool.false_eq_true, List.getElem?_cons_zero, Nat.reduceMul, Nat.mul_one]
    refine ⟨fun h3 => ?_, fun h3 => ?_⟩
    · have h3 : i < a.length := by omega
      rw [Z4l h3 hlen]
      refine ⟨⟨by omega, by omega⟩, ⟨by omega, by omega⟩, fun h4 => ?_, fun h4 => ?_⟩
      · exact Z3p.mk [] (i + 1) (by simp) (by simp) (by simp only [State.can, AV.can, AV.canL, HO.can, Z3i, idx, Z04, Z01, Heap.at, Nat.reduceBEq, ↓reduceIte, Nat.reduceEqDiff, Option.getD_some, Option.map_some, List.map_cons, List.map_nil, List.getD_cons_zero, List.getD_cons_succ]) ⟨by omega, take_next (d := 0#64) h2 h3 (by omega) h4⟩ (by omega)
      · simp only [Bool.false_eq, decide_eq_false_iff_not]
        intro e; subst e; exact h4 rfl
    · have : i = a.length := by omega
      subst this
      exact (decide_eq_true (take_all h2 hab)).symm
  · simp only [Bool.false_eq, decide_eq_false_iff_not]
    intro e; subst e; exact h rfl

/-! ### empty -/
def nzW (x : W) : Bool := !decide (x = 0#64)
def sp_nz : Sp := ⟨W, fun x => [.d (.int .u64 (x.toNat : Int))], fun x => .data True (.d (.bool (nzW x))) true⟩
theorem at_nz (x : W) : sp_nz.at [.d (.int .u64 (x.toNat : Int))] = .data True (.d (.bool (nzW x))) true :=
  Sp.at_enc (s := sp_nz) (fun (x y : W) h => by
    simp only [sp_nz, List.cons.injEq, AV.d.injEq, DV.int.injEq, and_true, true_and] at h
    exact W.inj h) x
theorem body_power_empty_1 {T : Tab} : sp_nz.Body T V_power_empty_1 L_power_empty_1 R_power_empty_1 := by
  rintro (x : W) -
  refine .inl ⟨rfl, ?_⟩
  unfold V_power_empty_1 L_power_empty_1 R_power_empty_1
  simp only [↓Z1d, ↓Z2b, ↓Z1t, ↓Z05, ↓Z2q, ↓Z2k, Z49, Z4a, ↓Z20, ↓Z1c, ↓Z0i, ↓Z1u, ↓Z12, ↓Z1z, ↓Z2z, ↓Z30, ↓Z23, ↓Z1s, ↓Z2d, ↓Z28, ↓Z1y, ↓Z3m, ↓Z46, ↓Z3e, ↓Z3g, ↓Z3f, ↓Z3v, ↓Z3q, ↓Z44, ↓Z0j, ↓Z0b, ↓Z16, ↓Z0h, ↓Z1g, Z4d, Z0a, Z18, Z32, Z1a, Z35, evN, Z2s, Z1x, Z34, Z41, Z1w, Z19, Z1v, Z2p, Z2a, Z29, Z1e, Z2x, evT, Opd.ev, Z04, Z01, Z33, Z3x, Z3o, Z26, Z1f, Z2w, Z2y, Z3c, Z22, Z14, Z3r, LOp.isNew, State.prune, Z3s, Z3j, AV.leaf, Heap.at, Z0g, Z08, Z1m, Z0e, Z02, Z4x, Z4t, rowW, Z24, Z2t, Z1p, Z1b, rowB, Z2v, Z2u, rowN, Z4b, Z3h, Z17, Z15, w_or, Z4r, Z2r, Z45, Z50, Z42, Z4s, Z47, Z4z, Z4y, Z4u, Z4v, Z4w, w_eq, Bool.decide_eq_true, Z3b, Z3a, Z39, Z2f, Z1h, Z03, Z09, Z11, Z00, Z21, rowI, RatG.row, LocG.row, ActG.row, StepG.row, StampG.row, ActG.av, ActG.eta, RatG.eta, LocG.eta, beq_true, beq_false, Z2j, Z2o, Z2c, Z2l, Z10, Z0n, Z0y, Z0z, Z0m, Z0l, Z0c, List.length_set, List.length_replicate, Z06, Int.reduceToNat, Z4o, Z27, Z4e, Src.all, Src.len, Src.leaf, Src.leafN, Z37, Z3z, Z4k, Z0k, Z0o, Z0p, Z0q, Z0r, Z0s, Z0t, Z0u, Z4m, drows, evMk, List.length_map, Z1r, Z1q, List.take_length, List.take_left, List.length_append, Nat.le_add_right, ite_self, List.take_of_length_le, Z38, Z4j, Z3w, Option.isSome_none, Option.isSome_some, Nat.sub_zero, Z4i, Z4p, Z4g, evUn, Z0v, Z13, binT, binQ, chk, Z3t, List.contains_cons, List.contains_nil, Bool.or_false, Bool.false_or, Bool.and_self, resQ, resV, resT, Z4q, Z2e, Z43, Z3l, fnOf, Z3k, isD, HO.drow, Z4f, Z3u, evEq, eqV, eqK, eqC1, Z40, Z3y, Z36, Z31, Z48, Z3d, Z2i, Z1k, Z2h, Z1j, Z2g, Z1i, Z1l, Z0w, Z0x, Z0d, List.mem_cons, List.not_mem_nil, or_false, forall_eq, putRow, Z3n, Z25, RetS, RetF, RetD, AV.frz, AV.frzL, AV.freshP, AV.freshL, DV.less, Z2m, Z1n, Z2n, Z1o, Z0f, Z07, Option.some.injEq, AV.tup.injEq, AV.agg.injEq, List.cons.injEq, DV.list.injEq, List.isEmpty_nil, Nat.le_refl, AV.d.injEq, DV.int.injEq, DV.bool.injEq, ↓reduceIte, Nat.reduceEqDiff, Nat.reduceAdd, Nat.reduceBEq, List.length_cons, List.length_nil, List.replicate_succ, List.replicate_zero, List.nil_append, List.cons_append, List.append_nil, List.foldl_cons, List.foldl_nil, List.map_cons, List.map_nil, List.all_cons, List.all_nil, List.set_cons_zero, List.set_cons_succ, List.getD_cons_zero, List.getD_cons_succ, List.drop_zero, List.drop_succ_cons, List.take_succ_cons, List.take_zero, List.flatten_cons, List.flatten_nil, Bool.true_and, Bool.and_true, Bool.not_true, Bool.not_false, true_and, and_true, true_or, or_true, Option.bind_some, Option.map_some, decide_true, decide_false, beq_self_eq_true, true_implies, false_implies, implies_true, not_true_eq_false, not_false_eq_true, and_self, Bool.and_false, Bool.false_and, Nat.reduceLT, Nat.reduceLeDiff, List.reverse_cons, List.reverse_nil, Nat.zero_add, Nat.add_zero, Bool.false_eq_true, List.getElem?_cons_zero, Nat.reduceMul, Nat.mul_one, sp_nz, nzW]
def findZ (l : List W) : Int := match l.findIdx? nzW with | some i => (i : Int) | none => -1
theorem findZ_any (l : List W) : decide (0 ≤ findZ l) = l.any nzW := by
  rw [← List.findIdx?_isSome]
  unfold findZ
  cases l.findIdx? nzW with
  | none => simp
  | some i => simp
theorem findZ_at {l : List W} {i : Nat} (hi : i < l.length) (hb : ∀ j, j < i → l.getD j 0#64 = 0#64) (h : nzW (l.getD i 0#64) = true) : findZ l = (i : Int) := by
  have : l.findIdx? nzW = some i := by
    rw [List.findIdx?_eq_some_iff_getElem]
    refine ⟨hi, by rwa [getD_lt hi] at h, fun j hj => ?_⟩
    have := hb j hj
    rw [getD_lt (by omega)] at this
    rw [this]; simp [nzW]
  unfold findZ; rw [this]
theorem findZ_no {l : List W} (hb : ∀ j, j < l.length → l.getD j 0#64 = 0#64) : findZ l = -1 := by
  have : l.findIdx? nzW = none := by
    rw [List.findIdx?_eq_none_iff]
    intro x hx
    obtain ⟨j, hj, rfl⟩ := List.mem_iff_getElem.1 hx
    have := hb j hj
    rw [getD_lt hj] at this
    rw [this]; simp [nzW]
  unfold findZ; rw [this]
/-- The place of the first word that isn't nought; told by the number of the one function that asks for it. -/
def sp_findZ (n : Nat) : Sp := ⟨List W × Bool, fun x => [.d (.list (x.1.map rowW) x.2), .d (.fn n)], fun x => .data (x.1.length ≤ maxLen) (.d (.int .i64 (findZ x.1))) true⟩
theorem at_findZ (n : Nat) (l : List W) (f : Bool) : (sp_findZ n).at [.d (.list (l.map rowW) f), .d (.fn n)] = .data (l.length ≤ maxLen) (.d (.int .i64 (findZ l))) true :=
  Sp.at_enc (s := sp_findZ n) (fun x y h => by
    obtain ⟨a, b⟩ := x; obtain ⟨a', b'⟩ := y
    simp only [sp_findZ, List.cons.injEq, AV.d.injEq, DV.list.injEq, and_true] at h
    rw [Z4n Z51 h.1, h.2]) (l, f)
theorem body_slices_IndexFunc_uint64 {T : Tab} {n_power_empty_1 : Nat} (k1 : Knows T n_power_empty_1 sp_nz) : (sp_findZ n_power_empty_1).Body T V_slices_IndexFunc_uint64 L_slices_IndexFunc_uint64 R_slices_IndexFunc_uint64 := by
  have F1 := k1.F; have G1 := k1.G
  rintro ⟨l, f⟩ h1
  have h1 : l.length ≤ maxLen := h1
  refine .inl ⟨rfl, ?_⟩
  unfold V_slices_IndexFunc_uint64 L_slices_IndexFunc_uint64 R_slices_IndexFunc_uint64
  simp only [↓Z1d, ↓Z2b, ↓Z1t, ↓Z05, ↓Z2q, ↓Z2k, Z49, Z4a, ↓Z20, ↓Z1c, ↓Z0i, ↓Z1u, ↓Z12, ↓Z1z, ↓Z2z, ↓Z30, ↓Z23, ↓Z1s, ↓Z2d, ↓Z28, ↓Z1y, ↓Z3m, ↓Z46, ↓Z3e, ↓Z3g, ↓Z3f, ↓Z3v, ↓Z3q, ↓Z44, ↓Z0j, ↓Z0b, ↓Z16, ↓Z0h, ↓Z1g, Z4d, Z0a, Z18, Z32, Z1a, Z35, evN, Z2s, Z1x, Z34, Z41, Z1w, Z19, Z1v, Z2p, Z2a, Z29, Z1e, Z2x, evT, Opd.ev, Z04, Z01, Z33, Z3x, Z3o, Z26, Z1f, Z2w, Z2y, Z3c, Z22, Z14, Z3r, LOp.isNew, State.prune, Z3s, Z3j, AV.leaf, Heap.at, Z0g, Z08, Z1m, Z0e, Z02, Z4x, Z4t, rowW, Z24, Z2t, Z1p, Z1b, rowB, Z2v, Z2u, rowN, Z4b, Z3h, Z17, Z15, w_or, Z4r, Z2r, Z45, Z50, Z42, Z4s, Z47, Z4z, Z4y, Z4u, Z4v, Z4w, w_eq, Bool.decide_eq_true, Z3b, Z3a, Z39, Z2f, Z1h, Z03, Z09, Z11, Z00, Z21, rowI, RatG.row, LocG.row, ActG.row, StepG.row, StampG.row, ActG.av, ActG.eta, RatG.eta, LocG.eta, beq_true, beq_false, Z2j, Z2o, Z2c, Z2l, Z10, Z0n, Z0y, Z0z, Z0m, Z0l, Z0c, List.length_set, List.length_replicate, Z06, Int.reduceToNat, Z4o, Z27, Z4e, Src.all, Src.len, Src.leaf, Src.leafN, Z37, Z3z, Z4k, Z0k, Z0o, Z0p, Z0q, Z0r, Z0s, Z0t, Z0u, Z4m, drows, evMk, List.length_map, Z1r, Z1q, List.take_length, List.take_left, List.length_append, Nat.le_add_right, ite_self, List.take_of_length_le, Z38, Z4j, Z3w, Option.isSome_none, Option.isSome_some, Nat.sub_zero, Z4i, Z4p, Z4g, evUn, Z0v, Z13, binT, binQ, chk, Z3t, List.contains_cons, List.contains_nil, Bool.or_false, Bool.false_or, Bool.and_self, resQ, resV, resT, Z4q, Z2e, Z43, Z3l, fnOf, Z3k, isD, HO.drow, Z4f, Z3u, evEq, eqV, eqK, eqC1, Z40, Z3y, Z36, Z31, Z48, Z3d, Z2i, Z1k, Z2h, Z1j, Z2g, Z1i, Z1l, Z0w, Z0x, Z0d, List.mem_cons, List.not_mem_nil, or_false, forall_eq, putRow, Z3n, Z25, RetS, RetF, RetD, AV.frz, AV.frzL, AV.freshP, AV.freshL, DV.less, Z2m, Z1n, Z2n, Z1o, Z0f, Z07, Option.some.injEq, AV.tup.injEq, AV.agg.injEq, List.cons.injEq, DV.list.injEq, List.isEmpty_nil, Nat.le_refl, AV.d.injEq, DV.int.injEq, DV.bool.injEq, ↓reduceIte, Nat.reduceEqDiff, Nat.reduceAdd, Nat.reduceBEq, List.length_cons, List.length_nil, List.replicate_succ, List.replicate_zero, List.nil_append, List.cons_append, List.append_nil, List.foldl_cons, List.foldl_nil, List.map_cons, List.map_nil, List.all_cons, List.all_nil, List.set_cons_zero, List.set_cons_succ, List.getD_cons_zero, List.getD_cons_succ, List.drop_zero, List.drop_succ_cons, List.take_succ_cons, List.take_zero, List.flatten_cons, List.flatten_nil, Bool.true_and, Bool.and_true, Bool.not_true, Bool.not_false, true_and, and_true, true_or, or_true, Option.bind_some, Option.map_some, decide_true, decide_false, beq_self_eq_true, true_implies, false_implies, implies_true, not_true_eq_false, not_false_eq_true, and_self, Bool.and_false, Bool.false_and, Nat.reduceLT, Nat.reduceLeDiff, List.reverse_cons, List.reverse_nil, Nat.zero_add, Nat.add_zero, Bool.false_eq_true, List.getElem?_cons_zero, Nat.reduceMul, Nat.mul_one, sp_findZ, F1, G1, at_nz]
  refine Loop.fam [0, 1, 7, 8] (fun i : Nat => ⟨[(0, .d (.list (l.map rowW) f)), (1, .d (.fn n_power_empty_1)), (7, .d (.int .i64 l.length)), (8, .d (.int .i64 i))], []⟩) (fun i => i ≤ l.length ∧ ∀ j, j < i → l.getD j 0#64 = 0#64) (fun i => l.length - i) 0 [] (by simp) (by simp)
    (by simp only [State.can, AV.can, AV.canL, HO.can, Z3i, idx, Z04, Z01, Heap.at, Nat.reduceBEq, ↓reduceIte, Nat.reduceEqDiff, Option.getD_some, Option.map_some, List.map_cons, List.map_nil, List.getD_cons_zero, List.getD_cons_succ]; rfl) ⟨by omega, fun j hj => by omega⟩ ?_
  rintro i ⟨hi, hb⟩
  simp only [↓Z1d, ↓Z2b, ↓Z1t, ↓Z05, ↓Z2q, ↓Z2k, Z49, Z4a, ↓Z20, ↓Z1c, ↓Z0i, ↓Z1u, ↓Z12, ↓Z1z, ↓Z2z, ↓Z30, ↓Z23, ↓Z1s, ↓Z2d, ↓Z28, ↓Z1y, ↓Z3m, ↓Z46, ↓Z3e, ↓Z3g, ↓Z3f, ↓Z3v, ↓Z3q, ↓Z44, ↓Z0j, ↓Z0b, ↓Z16, ↓Z0h, ↓Z1g, Z4d, Z0a, Z18, Z32, Z1a, Z35, evN, Z2s, Z1x, Z34, Z41, Z1w, Z19, Z1v, Z2p, Z2a, Z29, Z1e, Z2x, evT, Opd.ev, Z04, Z01, Z33, Z3x, Z3o, Z26, Z1f, Z2w, Z2y, Z3c, Z22, Z14, Z3r, LOp.isNew, State.prune, Z3s, Z3j, AV.leaf, Heap.at, Z0g, Z08, Z1m, Z0e, Z02, Z4x, Z4t, rowW, Z24, Z2t, Z1p, Z1b, rowB, Z2v, Z2u, rowN, Z4b, Z3h, Z17, Z15, w_or, Z4r, Z2r, Z45, Z50, Z42, Z4s, Z47, Z4z, Z4y, Z4u, Z4v, Z4w, w_eq, Bool.decide_eq_true, Z3b, Z3a, Z39, Z2f, Z1h, Z03, Z09, Z11, Z00, Z21, rowI, RatG.row, LocG.row, ActG.row, StepG.row, StampG.row, ActG.av, ActG.eta, RatG.eta, LocG.eta, beq_true, beq_false, Z2j, Z2o, Z2c, Z2l, Z10, Z0n, Z0y, Z0z, Z0m, Z0l, Z0c, List.length_set, List.length_replicate, Z06, Int.reduceToNat, Z4o, Z27, Z4e, Src.all, Src.len, Src.leaf, Src.leafN, Z37, Z3z, Z4k, Z0k, Z0o, Z0p, Z0q, Z0r, Z0s, Z0t, Z0u, Z4m, drows, evMk, List.length_map, Z1r, Z1q, List.take_length, List.take_left, List.length_append, Nat.le_add_right, ite_self, List.take_of_length_le, Z38, Z4j, Z3w, Option.isSome_none, Option.isSome_some, Nat.sub_zero, Z4i, Z4p, Z4g, evUn, Z0v, Z13, binT, binQ, chk, Z3t, List.contains_cons, List.contains_nil, Bool.or_false, Bool.false_or, Bool.and_self, resQ, resV, resT, Z4q, Z2e, Z43, Z3l, fnOf, Z3k, isD, HO.drow, Z4f, Z3u, evEq, eqV, eqK, eqC1, Z40, Z3y, Z36, Z31, Z48, Z3d, Z2i, Z1k, Z2h, Z1j, Z2g, Z1i, Z1l, Z0w, Z0x, Z0d, List.mem_cons, List.not_mem_nil, or_false, forall_eq, putRow, Z3n, Z25, RetS, RetF, RetD, AV.frz, AV.frzL, AV.freshP, AV.freshL, DV.less, Z2m, Z1n, Z2n, Z1o, Z0f, Z07, Option.some.injEq, AV.tup.injEq, AV.agg.injEq, List.cons.injEq, DV.list.injEq, List.isEmpty_nil, Nat.le_refl, AV.d.injEq, DV.int.injEq, DV.bool.injEq, ↓reduceIte, Nat.reduceEqDiff, Nat.reduceAdd, Nat.reduceBEq, List.length_cons, List.length_nil, List.replicate_succ, List.replicate_zero, List.nil_append, List.cons_append, List.append_nil, List.foldl_cons, List.foldl_nil, List.map_cons, List.map_nil, List.all_cons, List.all_nil, List.set_cons_zero, List.set_cons_succ, List.getD_cons_zero, List.getD_cons_succ, List.drop_zero, List.drop_succ_cons, List.take_succ_cons, List.take_zero, List.flatten_cons, List.flatten_nil, Bool.true_and, Bool.and_true, Bool.not_true, Bool.not_false, true_and, and_true, true_or, or_true, Option.bind_some, Option.map_some, decide_true, decide_false, beq_self_eq_true, true_implies, false_implies, implies_true, not_true_eq_false, not_false_eq_true, and_self, Bool.and_false, Bool.false_and, Nat.reduceLT, Nat.reduceLeDiff, List.reverse_cons, List.reverse_nil, Nat.zero_add, Nat.add_zero, Bool.false_eq_true, List.getElem?_cons_zero, Nat.reduceMul, Nat.mul_one, F1, G1, at_nz]
  refine ⟨fun c => ⟨⟨by omega, by omega⟩, fun hz => ?_, fun hz => ?_⟩, fun c => ?_⟩
  · rw [findZ_at (i := i) (by omega) hb hz]
  · rw [Z4l (n := l.length) (by omega) h1]
    refine Z3p.mk [] (i + 1) (by simp) (by simp) (by simp only [State.can, AV.can, AV.canL, HO.can, Z3i, idx, Z04, Z01, Heap.at, Nat.reduceBEq, ↓reduceIte, Nat.reduceEqDiff, Option.getD_some, Option.map_some, List.map_cons, List.map_nil, List.getD_cons_zero, List.getD_cons_succ]) ⟨by omega, fun j hj => ?_⟩ (by omega)
    rcases Nat.lt_or_ge j i with hl | hl
    · exact hb j hl
    · obtain rfl : j = i := by omega
      simpa [nzW] using hz
  · rw [findZ_no fun j hj => hb j (by omega)]
def sp_anyZ (n : Nat) : Sp := ⟨List W × Bool, fun x => [.d (.list (x.1.map rowW) x.2), .d (.fn n)], fun x => .data (x.1.length ≤ maxLen) (.d (.bool (x.1.any nzW))) true⟩
theorem at_anyZ (n : Nat) (l : List W) (f : Bool) : (sp_anyZ n).at [.d (.list (l.map rowW) f), .d (.fn n)] = .data (l.length ≤ maxLen) (.d (.bool (l.any nzW))) true :=
  Sp.at_enc (s := sp_anyZ n) (fun x y h => by
    obtain ⟨a, b⟩ := x; obtain ⟨a', b'⟩ := y
    simp only [sp_anyZ, List.cons.injEq, AV.d.injEq, DV.list.injEq, and_true] at h
    rw [Z4n Z51 h.1, h.2]) (l, f)
theorem body_slices_ContainsFunc_uint64 {T : Tab} {n1 n_power_empty_1 : Nat} (k1 : Knows T n1 (sp_findZ n_power_empty_1)) : (sp_anyZ n_power_empty_1).Body T V_slices_ContainsFunc_uint64 (L_slices_ContainsFunc_uint64 n1) R_slices_ContainsFunc_uint64 := by
  have F1 := k1.F; have G1 := k1.G
  rintro ⟨l, f⟩ h1
  have h1 : l.length ≤ maxLen := h1
  refine .inl ⟨rfl, ?_⟩
  unfold V_slices_ContainsFunc_uint64 L_slices_ContainsFunc_uint64 R_slices_ContainsFunc_uint64
  simp only [↓Z1d, ↓Z2b, ↓Z1t, ↓Z05, ↓Z2q, ↓Z2k, Z49, Z4a, ↓Z20, ↓Z1c, ↓Z0i, ↓Z1u, ↓Z12, ↓Z1z, ↓Z2z, ↓Z30, ↓Z23, ↓Z1s, ↓Z2d, ↓Z28, ↓Z1y, ↓Z3m, ↓Z46, ↓Z3e, ↓Z3g, ↓Z3f, ↓Z3v, ↓Z3q, ↓Z44, ↓Z0j, ↓Z0b, ↓Z16, ↓Z0h, ↓Z1g, Z4d, Z0a, Z18, Z32, Z1a, Z35, evN, Z2s, Z1x, Z34, Z41, Z1w, Z19, Z1v, Z2p, Z2a, Z29, Z1e, Z2x, evT, Opd.ev, Z04, Z01, Z33, Z3x, Z3o, Z26, Z1f, Z2w, Z2y, Z3c, Z22, Z14, Z3r, LOp.isNew, State.prune, Z3s, Z3j, AV.leaf, Heap.at, Z0g, Z08, Z1m, Z0e, Z02, Z4x, Z4t, rowW, Z24, Z2t, Z1p, Z1b, rowB, Z2v, Z2u, rowN, Z4b, Z3h, Z17, Z15, w_or, Z4r, Z2r, Z45, Z50, Z42, Z4s, Z47, Z4z, Z4y, Z4u, Z4v, Z4w, w_eq, Bool.decide_eq_true, Z3b, Z3a, Z39, Z2f, Z1h, Z03, Z09, Z11, Z00, Z21, rowI, RatG.row, LocG.row, ActG.row, StepG.row, StampG.row, ActG.av, ActG.eta, RatG.eta, LocG.eta, beq_true, beq_false, Z2j, Z2o, Z2c, Z2l, Z10, Z0n, Z0y, Z0z, Z0m, Z0l, Z0c, List.length_set, List.length_replicate, Z06, Int.reduceToNat, Z4o, Z27, Z4e, Src.all, Src.len, Src.leaf, Src.leafN, Z37, Z3z, Z4k, Z0k, Z0o, Z0p, Z0q, Z0r, Z0s, Z0t, Z0u, Z4m, drows, evMk, List.length_map, Z1r, Z1q, List.take_length, List.take_left, List.length_append, Nat.le_add_right, ite_self, List.take_of_length_le, Z38, Z4j, Z3w, Option.isSome_none, Option.isSome_some, Nat.sub_zero, Z4i, Z4p, Z4g, evUn, Z0v, Z13, binT, binQ, chk, Z3t, List.contains_cons, List.contains_nil, Bool.or_false, Bool.false_or, Bool.and_self, resQ, resV, resT, Z4q, Z2e, Z43, Z3l, fnOf, Z3k, isD, HO.drow, Z4f, Z3u, evEq, eqV, eqK, eqC1, Z40, Z3y, Z36, Z31, Z48, Z3d, Z2i, Z1k, Z2h, Z1j, Z2g, Z1i, Z1l, Z0w, Z0x, Z0d, List.mem_cons, List.not_mem_nil, or_false, forall_eq, putRow, Z3n, Z25, RetS, RetF, RetD, AV.frz, AV.frzL, AV.freshP, AV.freshL, DV.less, Z2m, Z1n, Z2n, Z1o, Z0f, Z07, Option.some.injEq, AV.tup.injEq, AV.agg.injEq, List.cons.injEq, DV.list.injEq, List.isEmpty_nil, Nat.le_refl, AV.d.injEq, DV.int.injEq, DV.bool.injEq, ↓reduceIte, Nat.reduceEqDiff, Nat.reduceAdd, Nat.reduceBEq, List.length_cons, List.length_nil, List.replicate_succ, List.replicate_zero, List.nil_append, List.cons_append, List.append_nil, List.foldl_cons, List.foldl_nil, List.map_cons, List.map_nil, List.all_cons, List.all_nil, List.set_cons_zero, List.set_cons_succ, List.getD_cons_zero, List.getD_cons_succ, List.drop_zero, List.drop_succ_cons, List.take_succ_cons, List.take_zero, List.flatten_cons, List.flatten_nil, Bool.true_and, Bool.and_true, Bool.not_true, Bool.not_false, true_and, and_true, true_or, or_true, Option.bind_some, Option.map_some, decide_true, decide_false, beq_self_eq_true, true_implies, false_implies, implies_true, not_true_eq_false, not_false_eq_true, and_self, Bool.and_false, Bool.false_and, Nat.reduceLT, Nat.reduceLeDiff, List.reverse_cons, List.reverse_nil, Nat.zero_add, Nat.add_zero, Bool.false_eq_true, List.getElem?_cons_zero, Nat.reduceMul, Nat.mul_one, sp_anyZ, F1, G1, at_findZ]
  exact ⟨h1, findZ_any l⟩
def sp_empty : Sp := ⟨List W × Bool, fun x => [.d (.list (x.1.map rowW) x.2)], fun x => .data (x.1.length ≤ maxLen) (.d (.bool (!x.1.any nzW))) true⟩
theorem at_empty (l : List W) (f : Bool) : sp_empty.at [.d (.list (l.map rowW) f)] = .data (l.length ≤ maxLen) (.d (.bool (!l.any nzW))) true :=
  Sp.at_enc (s := sp_empty) (fun x y h => by
    obtain ⟨a, b⟩ := x; obtain ⟨a', b'⟩ := y
    simp only [sp_empty, List.cons.injEq, AV.d.injEq, DV.list.injEq, and_true] at h
    rw [Z4n Z51 h.1, h.2]) (l, f)
theorem body_power_empty {T : Tab} {n1 n_power_empty_1 : Nat} (k1 : Knows T n1 (sp_anyZ n_power_empty_1)) : sp_empty.Body T V_power_empty (L_power_empty n1 n_power_empty_1) R_power_empty := by
  have F1 := k1.F; have G1 := k1.G
  rintro ⟨l, f⟩ h1
  have h1 : l.length ≤ maxLen := h1
  refine .inl ⟨rfl, ?_⟩
  unfold V_power_empty L_power_empty R_power_empty
  simp only [↓Z1d, ↓Z2b, ↓Z1t, ↓Z05, ↓Z2q, ↓Z2k, Z49, Z4a, ↓Z20, ↓Z1c, ↓Z0i, ↓Z1u, ↓Z12, ↓Z1z, ↓Z2z, ↓Z30, ↓Z23, ↓Z1s, ↓Z2d, ↓Z28, ↓Z1y, ↓Z3m, ↓Z46, ↓Z3e, ↓Z3g, ↓Z3f, ↓Z3v, ↓Z3q, ↓Z44, ↓Z0j, ↓Z0b, ↓Z16, ↓Z0h, ↓Z1g, Z4d, Z0a, Z18, Z32, Z1a, Z35, evN, Z2s, Z1x, Z34, Z41, Z1w, Z19, Z1v, Z2p, Z2a, Z29, Z1e, Z2x, evT, Opd.ev, Z04, Z01, Z33, Z3x, Z3o, Z26, Z1f, Z2w, Z2y, Z3c, Z22, Z14, Z3r, LOp.isNew, State.prune, Z3s, Z3j, AV.leaf, Heap.at, Z0g, Z08, Z1m, Z0e, Z02, Z4x, Z4t, rowW, Z24, Z2t, Z1p, Z1b, rowB, Z2v, Z2u, rowN, Z4b, Z3h, Z17, Z15, w_or, Z4r, Z2r, Z45, Z50, Z42, Z4s, Z47, Z4z, Z4y, Z4u, Z4v, Z4w, w_eq, Bool.decide_eq_true, Z3b, Z3a, Z39, Z2f, Z1h, Z03, Z09, Z11, Z00, Z21, rowI, RatG.row, LocG.row, ActG.row, StepG.row, StampG.row, ActG.av, ActG.eta, RatG.eta, LocG.eta, beq_true, beq_false, Z2j, Z2o, Z2c, Z2l, Z10, Z0n, Z0y, Z0z, Z0m, Z0l, Z0c, List.length_set, List.length_replicate, Z06, Int.reduceToNat, Z4o, Z27, Z4e, Src.all, Src.len, Src.leaf, Src.leafN, Z37, Z3z, Z4k, Z0k, Z0o, Z0p, Z0q, Z0r, Z0s, Z0t, Z0u, Z4m, drows, evMk, List.length_map, Z1r, Z1q, List.take_length, List.take_left, List.length_append, Nat.le_add_right, ite_self, List.take_of_length_le, Z38, Z4j, Z3w, Option.isSome_none, Option.isSome_some, Nat.sub_zero, Z4i, Z4p, Z4g, evUn, Z0v, Z13, binT, binQ, chk, Z3t, List.contains_cons, List.contains_nil, Bool.or_false, Bool.false_or, Bool.and_self, resQ, resV, resT, Z4q, Z2e, Z43, Z3l, fnOf, Z3k, isD, HO.drow, Z4f, Z3u, evEq, eqV, eqK, eqC1, Z40, Z3y, Z36, Z31, Z48, Z3d, Z2i, Z1k, Z2h, Z1j, Z2g, Z1i, Z1l, Z0w, Z0x, Z0d, List.mem_cons, List.not_mem_nil, or_false, forall_eq, putRow, Z3n, Z25, RetS, RetF, RetD, AV.frz, AV.frzL, AV.freshP, AV.freshL, DV.less, Z2m, Z1n, Z2n, Z1o, Z0f, Z07, Option.some.injEq, AV.tup.injEq, AV.agg.injEq, List.cons.injEq, DV.list.injEq, List.isEmpty_nil, Nat.le_refl, AV.d.injEq, DV.int.injEq, DV.bool.injEq, ↓reduceIte, Nat.reduceEqDiff, Nat.reduceAdd, Nat.reduceBEq, List.length_cons, List.length_nil, List.replicate_succ, List.replicate_zero, List.nil_append, List.cons_append, List.append_nil, List.foldl_cons, List.foldl_nil, List.map_cons, List.map_nil, List.all_cons, List.all_nil, List.set_cons_zero, List.set_cons_succ, List.getD_cons_zero, List.getD_cons_succ, List.drop_zero, List.drop_succ_cons, List.take_succ_cons, List.take_zero, List.flatten_cons, List.flatten_nil, Bool.true_and, Bool.and_true, Bool.not_true, Bool.not_false, true_and, and_true, true_or, or_true, Option.bind_some, Option.map_some, decide_true, decide_false, beq_self_eq_true, true_implies, false_implies, implies_true, not_true_eq_false, not_false_eq_true, and_self, Bool.and_false, Bool.false_and, Nat.reduceLT, Nat.reduceLeDiff, List.reverse_cons, List.reverse_nil, Nat.zero_add, Nat.add_zero, Bool.false_eq_true, List.getElem?_cons_zero, Nat.reduceMul, Nat.mul_one, sp_empty, F1, G1, at_anyZ]
  exact h1

/-! ### of -/
theorem w64_1 : IntKind.i64.wrap 1 = 1 := by decide
theorem w64_2 : IntKind.i64.wrap 2 = 2 := by decide
theorem w64_3 : IntKind.i64.wrap 3 = 3 := by decide
theorem w64_4 : IntKind.i64.wrap 4 = 4 := by decide
theorem w64_5 : IntKind.i64.wrap 5 = 5 := by decide
theorem w64_6 : IntKind.i64.wrap 6 = 6 := by decide
theorem w64_7 : IntKind.i64.wrap 7 = 7 := by decide
theorem w64_8 : IntKind.i64.wrap 8 = 8 := by decide
theorem w64_9 : IntKind.i64.wrap 9 = 9 := by decide
theorem w64_10 : IntKind.i64.wrap 10 = 10 := by decide
theorem w64_11 : IntKind.i64.wrap 11 = 11 := by decide
/-- A candidate execution as it is handed over. -/
structure XG where
  nodes : List NodeG
  nf : Bool
  po : List W × Bool
  rf : List W × Bool
  co : List W × Bool
  fr : List W × Bool
  addr : List W × Bool
  data : List W × Bool
  ctrl : List W × Bool
  fenced : List W × Bool
  sync : List W × Bool
  lwsync : List W × Bool
  pairs : List W × Bool
def lsX (r : List W × Bool) : DV := .list (r.1.map rowW) r.2
def XG.cells (x : XG) : List DV := [.list (x.nodes.map ActG.row) x.nf, lsX x.po, lsX x.rf, lsX x.co, lsX x.fr, lsX x.addr, lsX x.data, lsX x.ctrl, lsX x.fenced, lsX x.sync, lsX x.lwsync, lsX x.pairs]
def XG.av (x : XG) : AV := .agg [.d (.list (x.nodes.map ActG.row) x.nf), .d (lsX x.po), .d (lsX x.rf), .d (lsX x.co), .d (lsX x.fr), .d (lsX x.addr), .d (lsX x.data), .d (lsX x.ctrl), .d (lsX x.fenced), .d (lsX x.sync), .d (lsX x.lwsync), .d (lsX x.pairs)]
theorem lsX_inj {r s : List W × Bool} (h : lsX r = lsX s) : r = s := by
  obtain ⟨a, b⟩ := r; obtain ⟨c, d⟩ := s
  simp only [lsX, DV.list.injEq] at h
  rw [Z4n Z51 h.1, h.2]
theorem XG.av_inj (x y : XG) (h : x.av = y.av) : x = y := by
  obtain ⟨a, b, c, d, e, f, g, i, j, k, l, n, o⟩ := x
  obtain ⟨a', b', c', d', e', f', g', i', j', k', l', n', o'⟩ := y
  simp only [XG.av, AV.agg.injEq, List.cons.injEq, AV.d.injEq, DV.list.injEq, and_true] at h
  obtain ⟨⟨h1, h2⟩, h3, h4, h5, h6, h7, h8, h9, h10, h11, h12, h13⟩ := h
  rw [Z4n ActG.row_inj h1, h2, lsX_inj h3, lsX_inj h4, lsX_inj h5, lsX_inj h6, lsX_inj h7, lsX_inj h8, lsX_inj h9, lsX_inj h10, lsX_inj h11, lsX_inj h12, lsX_inj h13]
def XG.n (x : XG) : Nat := min x.nodes.length 64
def fitX (r : List W × Bool) (n : Nat) : List W := fitG (trimG r.1 n) n
def kindW (l : List NodeG) (q : Int) (n : Nat) : W := ofB (fun i => decide ((l.getD i default).kd = q)) n
/-- The model so far: 'a' relations are fitted, 'b' nodes are looked at. -/
def XG.rel (x : XG) (a j : Nat) (r : List W × Bool) : DV := if j < a then lsW (fitX r x.n) else lsX r
def XG.up (x : XG) (a b : Nat) : List DV := [.list ((x.nodes.take x.n).map ActG.row) (x.nf && decide (x.n = x.nodes.length)), .list (x.nodes.map ActG.row) x.nf, x.rel a 0 x.po, x.rel a 1 x.rf, x.rel a 2 x.co, x.rel a 3 x.fr, x.rel a 4 x.addr, x.rel a 5 x.data, x.rel a 6 x.ctrl,
  x.rel a 7 x.fenced, x.rel a 8 x.sync, x.rel a 9 x.lwsync, x.rel a 10 x.pairs, .int .u64 ((kindW x.nodes 1 b).toNat : Int), .int .u64 ((kindW x.nodes 2 b).toNat : Int)]
def ofXG (x : XG) : MG where
  nodes := x.nodes.take x.n
  nf := x.nf && decide (x.n = x.nodes.length)
  xn := x.nodes
  xf := x.nf
  po := fitX x.po x.n
  rf := fitX x.rf x.n
  co := fitX x.co x.n
  fr := fitX x.fr x.n
  addr := fitX x.addr x.n
  data := fitX x.data x.n
  ctrl := fitX x.ctrl x.n
  fenced := fitX x.fenced x.n
  sync := fitX x.sync x.n
  lwsync := fitX x.lwsync x.n
  pairs := fitX x.pairs x.n
  read := kindW x.nodes 1 x.n
  write := kindW x.nodes 2 x.n
structure XG.Ok (x : XG) : Prop where
  nodes : x.nodes.length ≤ maxLen
  po : x.po.1.length ≤ maxLen
  rf : x.rf.1.length ≤ maxLen
  co : x.co.1.length ≤ maxLen
  fr : x.fr.1.length ≤ maxLen
  addr : x.addr.1.length ≤ maxLen
  data : x.data.1.length ≤ maxLen
  ctrl : x.ctrl.1.length ≤ maxLen
  fenced : x.fenced.1.length ≤ maxLen
  sync : x.sync.1.length ≤ maxLen
  lwsync : x.lwsync.1.length ≤ maxLen
  pairs : x.pairs.1.length ≤ maxLen
def sp_of : Sp := ⟨XG, fun x => [x.av], fun x => .data x.Ok (.dptr (ofXG x).cells 0) false⟩
theorem at_of (x : XG) : sp_of.at [x.av] = .data x.Ok (.dptr (ofXG x).cells 0) false :=
  Sp.at_enc (s := sp_of) (fun (x y : XG) h => by
    simp only [sp_of, List.cons.injEq, and_true] at h
    exact XG.av_inj _ _ h) x
theorem trimG_len {r : List W} {n : Nat} : (trimG r n).length = n := by
  simp only [trimG, List.length_append, List.length_take, List.length_replicate]; omega
theorem n_le (x : XG) : x.n ≤ 64 := Nat.min_le_right _ _
theorem kindW_yes {l : List NodeG} {q : Int} {b : Nat} (h : (l.getD b default).loc = q) : kindW l q b ||| 1#64 <<< b = kindW l q (b + 1) := by
  have h' : decide ((l.getD b default).kd = q) = true := decide_eq_true h
  unfold kindW
  rw [ofB, if_pos h']; rfl
theorem kindW_no {l : List NodeG} {q : Int} {b : Nat} (h : ¬ (l.getD b default).loc = q) : kindW l q b = kindW l q (b + 1) := by
  have h' : ¬ decide ((l.getD b default).kd = q) = true := fun h2 => h (of_decide_eq_true h2)
  unfold kindW
  rw [ofB, if_neg h', BitVec.or_zero]
theorem body_power_of {T : Tab} {n1 n2 : Nat} (k1 : Knows T n1 sp_fit) (k2 : Knows T n2 sp_trim) : sp_of.Body T V_power_of (L_power_of n1 n2) R_power_of := by
  have F1 := k1.F; have G1 := k1.G; have F2 := k2.F; have G2 := k2.G
  rintro (x : XG) hx
  have hx : x.Ok := hx
  refine ⟨rfl, ?_⟩
  unfold V_power_of L_power_of R_power_of
  have hm : (if (64 : Int) < (x.nodes.length : Int) then (64 : Int) else (x.nodes.length : Int)) = ((x.n : Nat) : Int) := by unfold XG.n; split <;> omega
  have hn64 := n_le x
  have hnl : x.n ≤ x.nodes.length := Nat.min_le_left _ _
  have hmin : min x.n x.nodes.length = x.n := Nat.min_eq_left hnl
  have hbig : (64 : Nat) ≤ maxLen := by decide
  have hd : decide ((x.n : Int) = (x.nodes.length : Int)) = decide (x.n = x.nodes.length) := by congr 1; apply propext; omega
  simp only [↓Z1d, ↓Z2b, ↓Z1t, ↓Z05, ↓Z2q, ↓Z2k, Z49, Z4a, ↓Z20, ↓Z1c, ↓Z0i, ↓Z1u, ↓Z12, ↓Z1z, ↓Z2z, ↓Z30, ↓Z23, ↓Z1s, ↓Z2d, ↓Z28, ↓Z1y, ↓Z3m, ↓Z46, ↓Z3e, ↓Z3g, ↓Z3f, ↓Z3v, ↓Z3q, ↓Z44, ↓Z0j, ↓Z0b, ↓Z16, ↓Z0h, ↓Z1g, Z4d, Z0a, Z18, Z32, Z1a, Z35, evN, Z2s, Z1x, Z34, Z41, Z1w, Z19, Z1v, Z2p, Z2a, Z29, Z1e, Z2x, evT, Opd.ev, Z04, Z01, Z33, Z3x, Z3o, Z26, Z1f, Z2w, Z2y, Z3c, Z22, Z14, Z3r, LOp.isNew, State.prune, Z3s, Z3j, AV.leaf, Heap.at, Z0g, Z08, Z1m, Z0e, Z02, Z4x, Z4t, rowW, Z24, Z2t, Z1p, Z1b, rowB, Z2v, Z2u, rowN, Z4b, Z3h, Z17, Z15, w_or, Z4r, Z2r, Z45, Z50, Z42, Z4s, Z47, Z4z, Z4y, Z4u, Z4v, Z4w, w_eq, Bool.decide_eq_true, Z3b, Z3a, Z39, Z2f, Z1h, Z03, Z09, Z11, Z00, Z21, rowI, RatG.row, LocG.row, ActG.row, StepG.row, StampG.row, ActG.av, ActG.eta, RatG.eta, LocG.eta, beq_true, beq_false, Z2j, Z2o, Z2c, Z2l, Z10, Z0n, Z0y, Z0z, Z0m, Z0l, Z0c, List.length_set, List.length_replicate, Z06, Int.reduceToNat, Z4o, Z27, Z4e, Src.all, Src.len, Src.leaf, Src.leafN, Z37, Z3z, Z4k, Z0k, Z0o, Z0p, Z0q, Z0r, Z0s, Z0t, Z0u, Z4m, drows, evMk, List.length_map, Z1r, Z1q, List.take_length, List.take_left, List.length_append, Nat.le_add_right, ite_self, List.take_of_length_le, Z38, Z4j, Z3w, Option.isSome_none, Option.isSome_some, Nat.sub_zero, Z4i, Z4p, Z4g, evUn, Z0v, Z13, binT, binQ, chk, Z3t, List.contains_cons, List.contains_nil, Bool.or_false, Bool.false_or, Bool.and_self, resQ, resV, resT, Z4q, Z2e, Z43, Z3l, fnOf, Z3k, isD, HO.drow, Z4f, Z3u, evEq, eqV, eqK, eqC1, Z40, Z3y, Z36, Z31, Z48, Z3d, Z2i, Z1k, Z2h, Z1j, Z2g, Z1i, Z1l, Z0w, Z0x, Z0d, List.mem_cons, List.not_mem_nil, or_false, forall_eq, putRow, Z3n, Z25, RetS, RetF, RetD, AV.frz, AV.frzL, AV.freshP, AV.freshL, DV.less, Z2m, Z1n, Z2n, Z1o, Z0f, Z07, Option.some.injEq, AV.tup.injEq, AV.agg.injEq, List.cons.injEq, DV.list.injEq, List.isEmpty_nil, Nat.le_refl, AV.d.injEq, DV.int.injEq, DV.bool.injEq, ↓reduceIte, Nat.reduceEqDiff, Nat.reduceAdd, Nat.reduceBEq, List.length_cons, List.length_nil, List.replicate_succ, List.replicate_zero, List.nil_append, List.cons_append, List.append_nil, List.foldl_cons, List.foldl_nil, List.map_cons, List.map_nil, List.all_cons, List.all_nil, List.set_cons_zero, List.set_cons_succ, List.getD_cons_zero, List.getD_cons_succ, List.drop_zero, List.drop_succ_cons, List.take_succ_cons, List.take_zero, List.flatten_cons, List.flatten_nil, Bool.true_and, Bool.and_true, Bool.not_true, Bool.not_false, true_and, and_true, true_or, or_true, Option.bind_some, Option.map_some, decide_true, decide_false, beq_self_eq_true, true_implies, false_implies, implies_true, not_true_eq_false, not_false_eq_true, and_self, Bool.and_false, Bool.false_and, Nat.reduceLT, Nat.reduceLeDiff, List.reverse_cons, List.reverse_nil, Nat.zero_add, Nat.add_zero, Bool.false_eq_true, List.getElem?_cons_zero, Nat.reduceMul, Nat.mul_one, sp_of, F1, G1, F2, G2, at_fit, at_trim, XG.av, hm, Option.bind_none]
  simp only [Z06, hd]
  refine ⟨⟨by omega, by omega, by omega, by omega⟩, ?_⟩
  refine Loop.fam [3, 4, 64, 65, 66] (fun a : Nat => ⟨[(3, .d (.list ((x.nodes.take x.n).map ActG.row) (x.nf && decide (x.n = x.nodes.length)))), (4, .ptr 0 15 0 0), (64, .ref 1 1 0 11 true), (65, .d (.int .i64 11)), (66, .d (.int .i64 (a : Nat)))],
      [.vec 15 [(x.up a 0).map .d], .vec 1 [[.ptr 0 15 0 2], [.ptr 0 15 0 3], [.ptr 0 15 0 4], [.ptr 0 15 0 5], [.ptr 0 15 0 6], [.ptr 0 15 0 7], [.ptr 0 15 0 8], [.ptr 0 15 0 9], [.ptr 0 15 0 10], [.ptr 0 15 0 11], [.ptr 0 15 0 12]]]⟩)
      (fun a => a ≤ 11) (fun a => 11 - a) 0 [1, 2] (by simp) (by simp) (by simp only [State.can, AV.can, AV.canL, HO.can, Z3i, idx, Z04, Z01, Heap.at, Nat.reduceBEq, ↓reduceIte, Nat.reduceEqDiff, Option.getD_some, Option.map_some, List.map_cons, List.map_nil, List.getD_cons_zero, List.getD_cons_succ]; rfl) (by omega) ?_
  intro a ha
  have hcase : a = 0 ∨ a = 1 ∨ a = 2 ∨ a = 3 ∨ a = 4 ∨ a = 5 ∨ a = 6 ∨ a = 7 ∨ a = 8 ∨ a = 9 ∨ a = 10 ∨ a = 11 := by omega
  rcases hcase with rfl | rfl | rfl | rfl | rfl | rfl | rfl | rfl | rfl | rfl | rfl | rfl
  rotate_left 11
  · simp only [↓Z1d, ↓Z2b, ↓Z1t, ↓Z05, ↓Z2q, ↓Z2k, Z49, Z4a, ↓Z20, ↓Z1c, ↓Z0i, ↓Z1u, ↓Z12, ↓Z1z, ↓Z2z, ↓Z30, ↓Z23, ↓Z1s, ↓Z2d, ↓Z28, ↓Z1y, ↓Z3m, ↓Z46, ↓Z3e, ↓Z3g, ↓Z3f, ↓Z3v, ↓Z3q, ↓Z44, ↓Z0j, ↓Z0b, ↓Z16, ↓Z0h, ↓Z1g, Z4d, Z0a, Z18, Z32, Z1a, Z35, evN, Z2s, Z1x, Z34, Z41, Z1w, Z19, Z1v, Z2p, Z2a, Z29, Z1e, Z2x, evT, Opd.ev, Z04, Z01, Z33, Z3x, Z3o, Z26, Z1f, Z2w, Z2y, Z3c, Z22, Z14, Z3r, LOp.isNew, State.prune, Z3s, Z3j, AV.leaf, Heap.at, Z0g, Z08, Z1m, Z0e, Z02, Z4x, Z4t, rowW, Z24, Z2t, Z1p, Z1b, rowB, Z2v, Z2u, rowN, Z4b, Z3h, Z17, Z15, w_or, Z4r, Z2r, Z45, Z50, Z42, Z4s, Z47, Z4z, Z4y, Z4u, Z4v, Z4w, w_eq, Bool.decide_eq_true, Z3b, Z3a, Z39, Z2f, Z1h, Z03, Z09, Z11, Z00, Z21, rowI, RatG.row, LocG.row, ActG.row, StepG.row, StampG.row, ActG.av, ActG.eta, RatG.eta, LocG.eta, beq_true, beq_false, Z2j, Z2o, Z2c, Z2l, Z10, Z0n, Z0y, Z0z, Z0m, Z0l, Z0c, List.length_set, List.length_replicate, Z06, Int.reduceToNat, Z4o, Z27, Z4e, Src.all, Src.len, Src.leaf, Src.leafN, Z37, Z3z, Z4k, Z0k, Z0o, Z0p, Z0q, Z0r, Z0s, Z0t, Z0u, Z4m, drows, evMk, List.length_map, Z1r, Z1q, List.take_length, List.take_left, List.length_append, Nat.le_add_right, ite_self, List.take_of_length_le, Z38, Z4j, Z3w, Option.isSome_none, Option.isSome_some, Nat.sub_zero, Z4i, Z4p, Z4g, evUn, Z0v, Z13, binT, binQ, chk, Z3t, List.contains_cons, List.contains_nil, Bool.or_false, Bool.false_or, Bool.and_self, resQ, resV, resT, Z4q, Z2e, Z43, Z3l, fnOf, Z3k, isD, HO.drow, Z4f, Z3u, evEq, eqV, eqK, eqC1, Z40, Z3y, Z36, Z31, Z48, Z3d, Z2i, Z1k, Z2h, Z1j, Z2g, Z1i, Z1l, Z0w, Z0x, Z0d, List.mem_cons, List.not_mem_nil, or_false, forall_eq, putRow, Z3n, Z25, RetS, RetF, RetD, AV.frz, AV.frzL, AV.freshP, AV.freshL, DV.less, Z2m, Z1n, Z2n, Z1o, Z0f, Z07, Option.some.injEq, AV.tup.injEq, AV.agg.injEq, List.cons.injEq, DV.list.injEq, List.isEmpty_nil, Nat.le_refl, AV.d.injEq, DV.int.injEq, DV.bool.injEq, ↓reduceIte, Nat.reduceEqDiff, Nat.reduceAdd, Nat.reduceBEq, List.length_cons, List.length_nil, List.replicate_succ, List.replicate_zero, List.nil_append, List.cons_append, List.append_nil, List.foldl_cons, List.foldl_nil, List.map_cons, List.map_nil, List.all_cons, List.all_nil, List.set_cons_zero, List.set_cons_succ, List.getD_cons_zero, List.getD_cons_succ, List.drop_zero, List.drop_succ_cons, List.take_succ_cons, List.take_zero, List.flatten_cons, List.flatten_nil, Bool.true_and, Bool.and_true, Bool.not_true, Bool.not_false, true_and, and_true, true_or, or_true, Option.bind_some, Option.map_some, decide_true, decide_false, beq_self_eq_true, true_implies, false_implies, implies_true, not_true_eq_false, not_false_eq_true, and_self, Bool.and_false, Bool.false_and, Nat.reduceLT, Nat.reduceLeDiff, List.reverse_cons, List.reverse_nil, Nat.zero_add, Nat.add_zero, Bool.false_eq_true, List.getElem?_cons_zero, Nat.reduceMul, Nat.mul_one, F1, G1, F2, G2, at_fit, at_trim, XG.up, XG.rel, Nat.reduceLT, Int.cast_ofNat_Int, Int.reduceLT, Int.reduceLE, Int.reduceAdd, Int.reduceToNat, w64_1, w64_2, w64_3, w64_4, w64_5, w64_6, w64_7, w64_8, w64_9, w64_10, w64_11]
    rw [List.length_take, hmin]
    refine Loop.fam [4, 82, 83, 84] (fun b : Nat => ⟨[(4, .ptr 0 15 0 0), (82, .d (.list ((x.nodes.take x.n).map ActG.row) (x.nf && decide (x.n = x.nodes.length)))), (83, .d (.int .i64 x.n)), (84, .d (.int .i64 (b : Nat)))],
      [.vec 15 [(x.up 11 b).map .d]]⟩) (fun b => b ≤ x.n) (fun b => x.n - b) 0 [0] (by simp) (by simp) (by simp only [State.can, AV.can, AV.canL, HO.can, Z3i, idx, Z04, Z01, Heap.at, Nat.reduceBEq, ↓reduceIte, Nat.reduceEqDiff, Option.getD_some, Option.map_some, List.map_cons, List.map_nil, List.getD_cons_zero, List.getD_cons_succ]; rfl) (by omega) ?_
    intro b hb
    simp only [↓Z1d, ↓Z2b, ↓Z1t, ↓Z05, ↓Z2q, ↓Z2k, Z49, Z4a, ↓Z20, ↓Z1c, ↓Z0i, ↓Z1u, ↓Z12, ↓Z1z, ↓Z2z, ↓Z30, ↓Z23, ↓Z1s, ↓Z2d, ↓Z28, ↓Z1y, ↓Z3m, ↓Z46, ↓Z3e, ↓Z3g, ↓Z3f, ↓Z3v, ↓Z3q, ↓Z44, ↓Z0j, ↓Z0b, ↓Z16, ↓Z0h, ↓Z1g, Z4d, Z0a, Z18, Z32, Z1a, Z35, evN, Z2s, Z1x, Z34, Z41, Z1w, Z19, Z1v, Z2p, Z2a, Z29, Z1e, Z2x, evT, Opd.ev, Z04, Z01, Z33, Z3x, Z3o, Z26, Z1f, Z2w, Z2y, Z3c, Z22, Z14, Z3r, LOp.isNew, State.prune, Z3s, Z3j, AV.leaf, Heap.at, Z0g, Z08, Z1m, Z0e, Z02, Z4x, Z4t, rowW, Z24, Z2t, Z1p, Z1b, rowB, Z2v, Z2u, rowN, Z4b, Z3h, Z17, Z15, w_or, Z4r, Z2r, Z45, Z50, Z42, Z4s, Z47, Z4z, Z4y, Z4u, Z4v, Z4w, w_eq, Bool.decide_eq_true, Z3b, Z3a, Z39, Z2f, Z1h, Z03, Z09, Z11, Z00, Z21, rowI, RatG.row, LocG.row, ActG.row, StepG.row, StampG.row, ActG.av, ActG.eta, RatG.eta, LocG.eta, beq_true, beq_false, Z2j, Z2o, Z2c, Z2l, Z10, Z0n, Z0y, Z0z, Z0m, Z0l, Z0c, List.length_set, List.length_replicate, Z06, Int.reduceToNat, Z4o, Z27, Z4e, Src.all, Src.len, Src.leaf, Src.leafN, Z37, Z3z, Z4k, Z0k, Z0o, Z0p, Z0q, Z0r, Z0s, Z0t, Z0u, Z4m, drows, evMk, List.length_map, Z1r, Z1q, List.take_length, List.take_left, List.length_append, Nat.le_add_right, ite_self, List.take_of_length_le, Z38, Z4j, Z3w, Option.isSome_none, Option.isSome_some, Nat.sub_zero, Z4i, Z4p, Z4g, evUn, Z0v, Z13, binT, binQ, chk, Z3t, List.contains_cons, List.contains_nil, Bool.or_false, Bool.false_or, Bool.and_self, resQ, resV, resT, Z4q, Z2e, Z43, Z3l, fnOf, Z3k, isD, HO.drow, Z4f, Z3u, evEq, eqV, eqK, eqC1, Z40, Z3y, Z36, Z31, Z48, Z3d, Z2i, Z1k, Z2h, Z1j, Z2g, Z1i, Z1l, Z0w, Z0x, Z0d, List.mem_cons, List.not_mem_nil, or_false, forall_eq, putRow, Z3n, Z25, RetS, RetF, RetD, AV.frz, AV.frzL, AV.freshP, AV.freshL, DV.less, Z2m, Z1n, Z2n, Z1o, Z0f, Z07, Option.some.injEq, AV.tup.injEq, AV.agg.injEq, List.cons.injEq, DV.list.injEq, List.isEmpty_nil, Nat.le_refl, AV.d.injEq, DV.int.injEq, DV.bool.injEq, ↓reduceIte, Nat.reduceEqDiff, Nat.reduceAdd, Nat.reduceBEq, List.length_cons, List.length_nil, List.replicate_succ, List.replicate_zero, List.nil_append, List.cons_append, List.append_nil, List.foldl_cons, List.foldl_nil, List.map_cons, List.map_nil, List.all_cons, List.all_nil, List.set_cons_zero, List.set_cons_succ, List.getD_cons_zero, List.getD_cons_succ, List.drop_zero, List.drop_succ_cons, List.take_succ_cons, List.take_zero, List.flatten_cons, List.flatten_nil, Bool.true_and, Bool.and_true, Bool.not_true, Bool.not_false, true_and, and_true, true_or, or_true, Option.bind_some, Option.map_some, decide_true, decide_false, beq_self_eq_true, true_implies, false_implies, implies_true, not_true_eq_false, not_false_eq_true, and_self, Bool.and_false, Bool.false_and, Nat.reduceLT, Nat.reduceLeDiff, List.reverse_cons, List.reverse_nil, Nat.zero_add, Nat.add_zero, Bool.false_eq_true, List.getElem?_cons_zero, Nat.reduceMul, Nat.mul_one, F1, G1, F2, G2, at_fit, at_trim, XG.up, XG.rel, Nat.reduceLT]
    refine ⟨fun c => ?_, fun c => ?_⟩
    · have c' : b < x.n := by omega
      have hg : (x.nodes.take x.n).getD b default = x.nodes.getD b default := by
        rw [List.getD_eq_getElem?_getD, List.getD_eq_getElem?_getD, List.getElem?_take, if_pos c']
      have hl : (x.nodes.take x.n).length = x.n := by rw [List.length_take, hmin]
      rw [hg, wrapU (k := b) (by omega), Z4l c' (by omega), hl]
      simp only [Z06]
      refine ⟨⟨by omega, by omega⟩, fun h1 => ⟨by omega, ?_⟩, fun h1 => ⟨fun h2 => ⟨by omega, ?_⟩, fun h2 => ?_⟩⟩
      · refine Z3p.mk [0] (b + 1) (by simp) (by simp) ?_ (by omega) (by omega)
        rw [kindW_yes h1, kindW_no (q := 2) (b := b) (by omega)]
        simp only [State.can, AV.can, AV.canL, HO.can, Z3i, idx, Z04, Z01, Heap.at, Nat.reduceBEq, ↓reduceIte, Nat.reduceEqDiff, Option.getD_some, Option.map_some, List.map_cons, List.map_nil, List.getD_cons_zero, List.getD_cons_succ]
      · refine Z3p.mk [0] (b + 1) (by simp) (by simp) ?_ (by omega) (by omega)
        rw [kindW_yes h2, kindW_no (q := 1) (b := b) h1]
        simp only [State.can, AV.can, AV.canL, HO.can, Z3i, idx, Z04, Z01, Heap.at, Nat.reduceBEq, ↓reduceIte, Nat.reduceEqDiff, Option.getD_some, Option.map_some, List.map_cons, List.map_nil, List.getD_cons_zero, List.getD_cons_succ]
      · refine Z3p.mk [0] (b + 1) (by simp) (by simp) ?_ (by omega) (by omega)
        rw [kindW_no (q := 1) (b := b) h1, kindW_no (q := 2) (b := b) h2]
        simp only [State.can, AV.can, AV.canL, HO.can, Z3i, idx, Z04, Z01, Heap.at, Nat.reduceBEq, ↓reduceIte, Nat.reduceEqDiff, Option.getD_some, Option.map_some, List.map_cons, List.map_nil, List.getD_cons_zero, List.getD_cons_succ]
    · have : b = x.n := by omega
      subst this
      rfl
  · simp only [↓Z1d, ↓Z2b, ↓Z1t, ↓Z05, ↓Z2q, ↓Z2k, Z49, Z4a, ↓Z20, ↓Z1c, ↓Z0i, ↓Z1u, ↓Z12, ↓Z1z, ↓Z2z, ↓Z30, ↓Z23, ↓Z1s, ↓Z2d, ↓Z28, ↓Z1y, ↓Z3m, ↓Z46, ↓Z3e, ↓Z3g, ↓Z3f, ↓Z3v, ↓Z3q, ↓Z44, ↓Z0j, ↓Z0b, ↓Z16, ↓Z0h, ↓Z1g, Z4d, Z0a, Z18, Z32, Z1a, Z35, evN, Z2s, Z1x, Z34, Z41, Z1w, Z19, Z1v, Z2p, Z2a, Z29, Z1e, Z2x, evT, Opd.ev, Z04, Z01, Z33, Z3x, Z3o, Z26, Z1f, Z2w, Z2y, Z3c, Z22, Z14, Z3r, LOp.isNew, State.prune, Z3s, Z3j, AV.leaf, Heap.at, Z0g, Z08, Z1m, Z0e, Z02, Z4x, Z4t, rowW, Z24, Z2t, Z1p, Z1b, rowB, Z2v, Z2u, rowN, Z4b, Z3h, Z17, Z15, w_or, Z4r, Z2r, Z45, Z50, Z42, Z4s, Z47, Z4z, Z4y, Z4u, Z4v, Z4w, w_eq, Bool.decide_eq_true, Z3b, Z3a, Z39, Z2f, Z1h, Z03, Z09, Z11, Z00, Z21, rowI, RatG.row, LocG.row, ActG.row, StepG.row, StampG.row, ActG.av, ActG.eta, RatG.eta, LocG.eta, beq_true, beq_false, Z2j, Z2o, Z2c, Z2l, Z10, Z0n, Z0y, Z0z, Z0m, Z0l, Z0c, List.length_set, List.length_replicate, Z06, Int.reduceToNat, Z4o, Z27, Z4e, Src.all, Src.len, Src.leaf, Src.leafN, Z37, Z3z, Z4k, Z0k, Z0o, Z0p, Z0q, Z0r, Z0s, Z0t, Z0u, Z4m, drows, evMk, List.length_map, Z1r, Z1q, List.take_length, List.take_left, List.length_append, Nat.le_add_right, ite_self, List.take_of_length_le, Z38, Z4j, Z3w, Option.isSome_none, Option.isSome_some, Nat.sub_zero, Z4i, Z4p, Z4g, evUn, Z0v, Z13, binT, binQ, chk, Z3t, List.contains_cons, List.contains_nil, Bool.or_false, Bool.false_or, Bool.and_self, resQ, resV, resT, Z4q, Z2e, Z43, Z3l, fnOf, Z3k, isD, HO.drow, Z4f, Z3u, evEq, eqV, eqK, eqC1, Z40, Z3y, Z36, Z31, Z48, Z3d, Z2i, Z1k, Z2h, Z1j, Z2g, Z1i, Z1l, Z0w, Z0x, Z0d, List.mem_cons, List.not_mem_nil, or_false, forall_eq, putRow, Z3n, Z25, RetS, RetF, RetD, AV.frz, AV.frzL, AV.freshP, AV.freshL, DV.less, Z2m, Z1n, Z2n, Z1o, Z0f, Z07, Option.some.injEq, AV.tup.injEq, AV.agg.injEq, List.cons.injEq, DV.list.injEq, List.isEmpty_nil, Nat.le_refl, AV.d.injEq, DV.int.injEq, DV.bool.injEq, ↓reduceIte, Nat.reduceEqDiff, Nat.reduceAdd, Nat.reduceBEq, List.length_cons, List.length_nil, List.replicate_succ, List.replicate_zero, List.nil_append, List.cons_append, List.append_nil, List.foldl_cons, List.foldl_nil, List.map_cons, List.map_nil, List.all_cons, List.all_nil, List.set_cons_zero, List.set_cons_succ, List.getD_cons_zero, List.getD_cons_succ, List.drop_zero, List.drop_succ_cons, List.take_succ_cons, List.take_zero, List.flatten_cons, List.flatten_nil, Bool.true_and, Bool.and_true, Bool.not_true, Bool.not_false, true_and, and_true, true_or, or_true, Option.bind_some, Option.map_some, decide_true, decide_false, beq_self_eq_true, true_implies, false_implies, implies_true, not_true_eq_false, not_false_eq_true, and_self, Bool.and_false, Bool.false_and, Nat.reduceLT, Nat.reduceLeDiff, List.reverse_cons, List.reverse_nil, Nat.zero_add, Nat.add_zero, Bool.false_eq_true, List.getElem?_cons_zero, Nat.reduceMul, Nat.mul_one, F1, G1, F2, G2, at_fit, at_trim, XG.up, XG.rel, lsX, Nat.reduceLT, Int.cast_ofNat_Int, Int.reduceLT, Int.reduceLE, Int.reduceAdd, Int.reduceToNat, w64_1, w64_2, w64_3, w64_4, w64_5, w64_6, w64_7, w64_8, w64_9, w64_10, w64_11]
    rw [List.length_take, hmin]
    refine ⟨⟨hx.po, hn64⟩, ⟨by rw [trimG_len]; omega, hn64⟩, Z3p.mk [0, 1] 1 (by simp) (by simp) ?_ (by omega) (by omega)⟩
    simp only [State.can, AV.can, AV.canL, HO.can, Z3i, idx, Z04, Z01, Heap.at, Nat.reduceBEq, ↓reduceIte, Nat.reduceEqDiff, Option.getD_some, Option.map_some, List.map_cons, List.map_nil, List.getD_cons_zero, List.getD_cons_succ, lsW, fitX, Nat.reduceLT, Int.cast_ofNat_Int]
  · simp only [↓Z1d, ↓Z2b, ↓Z1t, ↓Z05, ↓Z2q, ↓Z2k, Z49, Z4a, ↓Z20, ↓Z1c, ↓Z0i, ↓Z1u, ↓Z12, ↓Z1z, ↓Z2z, ↓Z30, ↓Z23, ↓Z1s, ↓Z2d, ↓Z28, ↓Z1y, ↓Z3m, ↓Z46, ↓Z3e, ↓Z3g, ↓Z3f, ↓Z3v, ↓Z3q, ↓Z44, ↓Z0j, ↓Z0b, ↓Z16, ↓Z0h, ↓Z1g, Z4d, Z0a, Z18, Z32, Z1a, Z35, evN, Z2s, Z1x, Z34, Z41, Z1w, Z19, Z1v, Z2p, Z2a, Z29, Z1e, Z2x, evT, Opd.ev, Z04, Z01, Z33, Z3x, Z3o, Z26, Z1f, Z2w, Z2y, Z3c, Z22, Z14, Z3r, LOp.isNew, State.prune, Z3s, Z3j, AV.leaf, Heap.at, Z0g, Z08, Z1m, Z0e, Z02, Z4x, Z4t, rowW, Z24, Z2t, Z1p, Z1b, rowB, Z2v, Z2u, rowN, Z4b, Z3h, Z17, Z15, w_or, Z4r, Z2r, Z45, Z50, Z42, Z4s, Z47, Z4z, Z4y, Z4u, Z4v, Z4w, w_eq, Bool.decide_eq_true, Z3b, Z3a, Z39, Z2f, Z1h, Z03, Z09, Z11, Z00, Z21, rowI, RatG.row, LocG.row, ActG.row, StepG.row, StampG.row, ActG.av, ActG.eta, RatG.eta, LocG.eta, beq_true, beq_false, Z2j, Z2o, Z2c, Z2l, Z10, Z0n, Z0y, Z0z, Z0m, Z0l, Z0c, List.length_set, List.length_replicate, Z06, Int.reduceToNat, Z4o, Z27, Z4e, Src.all, Src.len, Src.leaf, Src.leafN, Z37, Z3z, Z4k, Z0k, Z0o, Z0p, Z0q, Z0r, Z0s, Z0t, Z0u, Z4m, drows, evMk, List.length_map, Z1r, Z1q, List.take_length, List.take_left, List.length_append, Nat.le_add_right, ite_self, List.take_of_length_le, Z38, Z4j, Z3w, Option.isSome_none, Option.isSome_some, Nat.sub_zero, Z4i, Z4p, Z4g, evUn, Z0v, Z13, binT, binQ, chk, Z3t, List.contains_cons, List.contains_nil, Bool.or_false, Bool.false_or, Bool.and_self, resQ, resV, resT, Z4q, Z2e, Z43, Z3l, fnOf, Z3k, isD, HO.drow, Z4f, Z3u, evEq, eqV, eqK, eqC1, Z40, Z3y, Z36, Z31, Z48, Z3d, Z2i, Z1k, Z2h, Z1j, Z2g, Z1i, Z1l, Z0w, Z0x, Z0d, List.mem_cons, List.not_mem_nil, or_false, forall_eq, putRow, Z3n, Z25, RetS, RetF, RetD, AV.frz, AV.frzL, AV.freshP, AV.freshL, DV.less, Z2m, Z1n, Z2n, Z1o, Z0f, Z07, Option.some.injEq, AV.tup.injEq, AV.agg.injEq, List.cons.injEq, DV.list.injEq, List.isEmpty_nil, Nat.le_refl, AV.d.injEq, DV.int.injEq, DV.bool.injEq, ↓reduceIte, Nat.reduceEqDiff, Nat.reduceAdd, Nat.reduceBEq, List.length_cons, List.length_nil, List.replicate_succ, List.replicate_zero, List.nil_append, List.cons_append, List.append_nil, List.foldl_cons, List.foldl_nil, List.map_cons, List.map_nil, List.all_cons, List.all_nil, List.set_cons_zero, List.set_cons_succ, List.getD_cons_zero, List.getD_cons_succ, List.drop_zero, List.drop_succ_cons, List.take_succ_cons, List.take_zero, List.flatten_cons, List.flatten_nil, Bool.true_and, Bool.and_true, Bool.not_true, Bool.not_false, true_and, and_true, true_or, or_true, Option.bind_some, Option.map_some, decide_true, decide_false, beq_self_eq_true, true_implies, false_implies, implies_true, not_true_eq_false, not_false_eq_true, and_self, Bool.and_false, Bool.false_and, Nat.reduceLT, Nat.reduceLeDiff, List.reverse_cons, List.reverse_nil, Nat.zero_add, Nat.add_zero, Bool.false_eq_true, List.getElem?_cons_zero, Nat.reduceMul, Nat.mul_one, F1, G1, F2, G2, at_fit, at_trim, XG.up, XG.rel, lsX, Nat.reduceLT, Int.cast_ofNat_Int, Int.reduceLT, Int.reduceLE, Int.reduceAdd, Int.reduceToNat, w64_1, w64_2, w64_3, w64_4, w64_5, w64_6, w64_7, w64_8, w64_9, w64_10, w64_11]
    rw [List.length_take, hmin]
    refine ⟨⟨hx.rf, hn64⟩, ⟨by rw [trimG_len]; omega, hn64⟩, Z3p.mk [0, 1] 2 (by simp) (by simp) ?_ (by omega) (by omega)⟩
    simp only [State.can, AV.can, AV.canL, HO.can, Z3i, idx, Z04, Z01, Heap.at, Nat.reduceBEq, ↓reduceIte, Nat.reduceEqDiff, Option.getD_some, Option.map_some, List.map_cons, List.map_nil, List.getD_cons_zero, List.getD_cons_succ, lsW, fitX, Nat.reduceLT, Int.cast_ofNat_Int]
  · simp only [↓Z1d, ↓Z2b, ↓Z1t, ↓Z05, ↓Z2q, ↓Z2k, Z49, Z4a, ↓Z20, ↓Z1c, ↓Z0i, ↓Z1u, ↓Z12, ↓Z1z, ↓Z2z, ↓Z30, ↓Z23, ↓Z1s, ↓Z2d, ↓Z28, ↓Z1y, ↓Z3m, ↓Z46, ↓Z3e, ↓Z3g, ↓Z3f, ↓Z3v, ↓Z3q, ↓Z44, ↓Z0j, ↓Z0b, ↓Z16, ↓Z0h, ↓Z1g, Z4d, Z0a, Z18, Z32, Z1a, Z35, evN, Z2s, Z1x, Z34, Z41, Z1w, Z19, Z1v, Z2p, Z2a, Z29, Z1e, Z2x, evT, Opd.ev, Z04, Z01, Z33, Z3x, Z3o, Z26, Z1f, Z2w, Z2y, Z3c, Z22, Z14, Z3r, LOp.isNew, State.prune, Z3s, Z3j, AV.leaf, Heap.at, Z0g, Z08, Z1m, Z0e, Z02, Z4x, Z4t, rowW, Z24, Z2t, Z1p, Z1b, rowB, Z2v, Z2u, rowN, Z4b, Z3h, Z17, Z15, w_or, Z4r, Z2r, Z45, Z50, Z42, Z4s, Z47, Z4z, Z4y, Z4u, Z4v, Z4w, w_eq, Bool.decide_eq_true, Z3b, Z3a, Z39, Z2f, Z1h, Z03, Z09, Z11, Z00, Z21, rowI, RatG.row, LocG.row, ActG.row, StepG.row, StampG.row, ActG.av, ActG.eta, RatG.eta, LocG.eta, beq_true, beq_false, Z2j, Z2o, Z2c, Z2l, Z10, Z0n, Z0y, Z0z, Z0m, Z0l, Z0c, List.length_set, List.length_replicate, Z06, Int.reduceToNat, Z4o, Z27, Z4e, Src.all, Src.len, Src.leaf, Src.leafN, Z37, Z3z, Z4k, Z0k, Z0o, Z0p, Z0q, Z0r, Z0s, Z0t, Z0u, Z4m, drows, evMk, List.length_map, Z1r, Z1q, List.take_length, List.take_left, List.length_append, Nat.le_add_right, ite_self, List.take_of_length_le, Z38, Z4j, Z3w, Option.isSome_none, Option.isSome_some, Nat.sub_zero, Z4i, Z4p, Z4g, evUn, Z0v, Z13, binT, binQ, chk, Z3t, List.contains_cons, List.contains_nil, Bool.or_false, Bool.false_or, Bool.and_self, resQ, resV, resT, Z4q, Z2e, Z43, Z3l, fnOf, Z3k, isD, HO.drow, Z4f, Z3u, evEq, eqV, eqK, eqC1, Z40, Z3y, Z36, Z31, Z48, Z3d, Z2i, Z1k, Z2h, Z1j, Z2g, Z1i, Z1l, Z0w, Z0x, Z0d, List.mem_cons, List.not_mem_nil, or_false, forall_eq, putRow, Z3n, Z25, RetS, RetF, RetD, AV.frz, AV.frzL, AV.freshP, AV.freshL, DV.less, Z2m, Z1n, Z2n, Z1o, Z0f, Z07, Option.some.injEq, AV.tup.injEq, AV.agg.injEq, List.cons.injEq, DV.list.injEq, List.isEmpty_nil, Nat.le_refl, AV.d.injEq, DV.int.injEq, DV.bool.injEq, ↓reduceIte, Nat.reduceEqDiff, Nat.reduceAdd, Nat.reduceBEq, List.length_cons, List.length_nil, List.replicate_succ, List.replicate_zero, List.nil_append, List.cons_append, List.append_nil, List.foldl_cons, List.foldl_nil, List.map_cons, List.map_nil, List.all_cons, List.all_nil, List.set_cons_zero, List.set_cons_succ, List.getD_cons_zero, List.getD_cons_succ, List.drop_zero, List.drop_succ_cons, List.take_succ_cons, List.take_zero, List.flatten_cons, List.flatten_nil, Bool.true_and, Bool.and_true, Bool.not_true, Bool.not_false, true_and, and_true, true_or, or_true, Option.bind_some, Option.map_some, decide_true, decide_false, beq_self_eq_true, true_implies, false_implies, implies_true, not_true_eq_false, not_false_eq_true, and_self, Bool.and_false, Bool.false_and, Nat.reduceLT, Nat.reduceLeDiff, List.reverse_cons, List.reverse_nil, Nat.zero_add, Nat.add_zero, Bool.false_eq_true, List.getElem?_cons_zero, Nat.reduceMul, Nat.mul_one, F1, G1, F2, G2, at_fit, at_trim, XG.up, XG.rel, lsX, Nat.reduceLT, Int.cast_ofNat_Int, Int.reduceLT, Int.reduceLE, Int.reduceAdd, Int.reduceToNat, w64_1, w64_2, w64_3, w64_4, w64_5, w64_6, w64_7, w64_8, w64_9, w64_10, w64_11]
    rw [List.length_take, hmin]
    refine ⟨⟨hx.co, hn64⟩, ⟨by rw [trimG_len]; omega, hn64⟩, Z3p.mk [0, 1] 3 (by simp) (by simp) ?_ (by omega) (by omega)⟩
    simp only [State.can, AV.can, AV.canL, HO.can, Z3i, idx, Z04, Z01, Heap.at, Nat.reduceBEq, ↓reduceIte, Nat.reduceEqDiff, Option.getD_some, Option.map_some, List.map_cons, List.map_nil, List.getD_cons_zero, List.getD_cons_succ, lsW, fitX, Nat.reduceLT, Int.cast_ofNat_Int]
  · simp only [↓Z1d, ↓Z2b, ↓Z1t, ↓Z05, ↓Z2q, ↓Z2k, Z49, Z4a, ↓Z20, ↓Z1c, ↓Z0i, ↓Z1u, ↓Z12, ↓Z1z, ↓Z2z, ↓Z30, ↓Z23, ↓Z1s, ↓Z2d, ↓Z28, ↓Z1y, ↓Z3m, ↓Z46, ↓Z3e, ↓Z3g, ↓Z3f, ↓Z3v, ↓Z3q, ↓Z44, ↓Z0j, ↓Z0b, ↓Z16, ↓Z0h, ↓Z1g, Z4d, Z0a, Z18, Z32, Z1a, Z35, evN, Z2s, Z1x, Z34, Z41, Z1w, Z19, Z1v, Z2p, Z2a, Z29, Z1e, Z2x, evT, Opd.ev, Z04, Z01, Z33, Z3x, Z3o, Z26, Z1f, Z2w, Z2y, Z3c, Z22, Z14, Z3r, LOp.isNew, State.prune, Z3s, Z3j, AV.leaf, Heap.at, Z0g, Z08, Z1m, Z0e, Z02, Z4x, Z4t, rowW, Z24, Z2t, Z1p, Z1b, rowB, Z2v, Z2u, rowN, Z4b, Z3h, Z17, Z15, w_or, Z4r, Z2r, Z45, Z50, Z42, Z4s, Z47, Z4z, Z4y, Z4u, Z4v, Z4w, w_eq, Bool.decide_eq_true, Z3b, Z3a, Z39, Z2f, Z1h, Z03, Z09, Z11, Z00, Z21, rowI, RatG.row, LocG.row, ActG.row, StepG.row, StampG.row, ActG.av, ActG.eta, RatG.eta, LocG.eta, beq_true, beq_false, Z2j, Z2o, Z2c, Z2l, Z10, Z0n, Z0y, Z0z, Z0m, Z0l, Z0c, List.length_set, List.length_replicate, Z06, Int.reduceToNat, Z4o, Z27, Z4e, Src.all, Src.len, Src.leaf, Src.leafN, Z37, Z3z, Z4k, Z0k, Z0o, Z0p, Z0q, Z0r, Z0s, Z0t, Z0u, Z4m, drows, evMk, List.length_map, Z1r, Z1q, List.take_length, List.take_left, List.length_append, Nat.le_add_right, ite_self, List.take_of_length_le, Z38, Z4j, Z3w, Option.isSome_none, Option.isSome_some, Nat.sub_zero, Z4i, Z4p, Z4g, evUn, Z0v, Z13, binT, binQ, chk, Z3t, List.contains_cons, List.contains_nil, Bool.or_false, Bool.false_or, Bool.and_self, resQ, resV, resT, Z4q, Z2e, Z43, Z3l, fnOf, Z3k, isD, HO.drow, Z4f, Z3u, evEq, eqV, eqK, eqC1, Z40, Z3y, Z36, Z31, Z48, Z3d, Z2i, Z1k, Z2h, Z1j, Z2g, Z1i, Z1l, Z0w, Z0x, Z0d, List.mem_cons, List.not_mem_nil, or_false, forall_eq, putRow, Z3n, Z25, RetS, RetF, RetD, AV.frz, AV.frzL, AV.freshP, AV.freshL, DV.less, Z2m, Z1n, Z2n, Z1o, Z0f, Z07, Option.some.injEq, AV.tup.injEq, AV.agg.injEq, List.cons.injEq, DV.list.injEq, List.isEmpty_nil, Nat.le_refl, AV.d.injEq, DV.int.injEq, DV.bool.injEq, ↓reduceIte, Nat.reduceEqDiff, Nat.reduceAdd, Nat.reduceBEq, List.length_cons, List.length_nil, List.replicate_succ, List.replicate_zero, List.nil_append, List.cons_append, List.append_nil, List.foldl_cons, List.foldl_nil, List.map_cons, List.map_nil, List.all_cons, List.all_nil, List.set_cons_zero, List.set_cons_succ, List.getD_cons_zero, List.getD_cons_succ, List.drop_zero, List.drop_succ_cons, List.take_succ_cons, List.take_zero, List.flatten_cons, List.flatten_nil, Bool.true_and, Bool.and_true, Bool.not_true, Bool.not_false, true_and, and_true, true_or, or_true, Option.bind_some, Option.map_some, decide_true, decide_false, beq_self_eq_true, true_implies, false_implies, implies_true, not_true_eq_false, not_false_eq_true, and_self, Bool.and_false, Bool.false_and, Nat.reduceLT, Nat.reduceLeDiff, List.reverse_cons, List.reverse_nil, Nat.zero_add, Nat.add_zero, Bool.false_eq_true, List.getElem?_cons_zero, Nat.reduceMul, Nat.mul_one, F1, G1, F2, G2, at_fit, at_trim, XG.up, XG.rel, lsX, Nat.reduceLT, Int.cast_ofNat_Int, Int.reduceLT, Int.reduceLE, Int.reduceAdd, Int.reduceToNat, w64_1, w64_2, w64_3, w64_4, w64_5, w64_6, w64_7, w64_8, w64_9, w64_10, w64_11]
    rw [List.length_take, hmin]
    refine ⟨⟨hx.fr, hn64⟩, ⟨by rw [trimG_len]; omega, hn64⟩, Z3p.mk [0, 1] 4 (by simp) (by simp) ?_ (by omega) (by omega)⟩
    simp only [State.can, AV.can, AV.canL, HO.can, Z3i, idx, Z04, Z01, Heap.at, Nat.reduceBEq, ↓reduceIte, Nat.reduceEqDiff, Option.getD_some, Option.map_some, List.map_cons, List.map_nil, List.getD_cons_zero, List.getD_cons_succ, lsW, fitX, Nat.reduceLT, Int.cast_ofNat_Int]
  · simp only [↓Z1d, ↓Z2b, ↓Z1t, ↓Z05, ↓Z2q, ↓Z2k, Z49, Z4a, ↓Z20, ↓Z1c, ↓Z0i, ↓Z1u, ↓Z12, ↓Z1z, ↓Z2z, ↓Z30, ↓Z23, ↓Z1s, ↓Z2d, ↓Z28, ↓Z1y, ↓Z3m, ↓Z46, ↓Z3e, ↓Z3g, ↓Z3f, ↓Z3v, ↓Z3q, ↓Z44, ↓Z0j, ↓Z0b, ↓Z16, ↓Z0h, ↓Z1g, Z4d, Z0a, Z18, Z32, Z1a, Z35, evN, Z2s, Z1x, Z34, Z41, Z1w, Z19, Z1v, Z2p, Z2a, Z29, Z1e, Z2x, evT, Opd.ev, Z04, Z01, Z33, Z3x, Z3o, Z26, Z1f, Z2w, Z2y, Z3c, Z22, Z14, Z3r, LOp.isNew, State.prune, Z3s, Z3j, AV.leaf, Heap.at, Z0g, Z08, Z1m, Z0e, Z02, Z4x, Z4t, rowW, Z24, Z2t, Z1p, Z1b, rowB, Z2v, Z2u, rowN, Z4b, Z3h, Z17, Z15, w_or, Z4r, Z2r, Z45, Z50, Z42, Z4s, Z47, Z4z, Z4y, Z4u, Z4v, Z4w, w_eq, Bool.decide_eq_true, Z3b, Z3a, Z39, Z2f, Z1h, Z03, Z09, Z11, Z00, Z21, rowI, RatG.row, LocG.row, ActG.row, StepG.row, StampG.row, ActG.av, ActG.eta, RatG.eta, LocG.eta, beq_true, beq_false, Z2j, Z2o, Z2c, Z2l, Z10, Z0n, Z0y, Z0z, Z0m, Z0l, Z0c, List.length_set, List.length_replicate, Z06, Int.reduceToNat, Z4o, Z27, Z4e, Src.all, Src.len, Src.leaf, Src.leafN, Z37, Z3z, Z4k, Z0k, Z0o, Z0p, Z0q, Z0r, Z0s, Z0t, Z0u, Z4m, drows, evMk, List.length_map, Z1r, Z1q, List.take_length, List.take_left, List.length_append, Nat.le_add_right, ite_self, List.take_of_length_le, Z38, Z4j, Z3w, Option.isSome_none, Option.isSome_some, Nat.sub_zero, Z4i, Z4p, Z4g, evUn, Z0v, Z13, binT, binQ, chk, Z3t, List.contains_cons, List.contains_nil, Bool.or_false, Bool.false_or, Bool.and_self, resQ, resV, resT, Z4q, Z2e, Z43, Z3l, fnOf, Z3k, isD, HO.drow, Z4f, Z3u, evEq, eqV, eqK, eqC1, Z40, Z3y, Z36, Z31, Z48, Z3d, Z2i, Z1k, Z2h, Z1j, Z2g, Z1i, Z1l, Z0w, Z0x, Z0d, List.mem_cons, List.not_mem_nil, or_false, forall_eq, putRow, Z3n, Z25, RetS, RetF, RetD, AV.frz, AV.frzL, AV.freshP, AV.freshL, DV.less, Z2m, Z1n, Z2n, Z1o, Z0f, Z07, Option.some.injEq, AV.tup.injEq, AV.agg.injEq, List.cons.injEq, DV.list.injEq, List.isEmpty_nil, Nat.le_refl, AV.d.injEq, DV.int.injEq, DV.bool.injEq, ↓reduceIte, Nat.reduceEqDiff, Nat.reduceAdd, Nat.reduceBEq, List.length_cons, List.length_nil, List.replicate_succ, List.replicate_zero, List.nil_append, List.cons_append, List.append_nil, List.foldl_cons, List.foldl_nil, List.map_cons, List.map_nil, List.all_cons, List.all_nil, List.set_cons_zero, List.set_cons_succ, List.getD_cons_zero, List.getD_cons_succ, List.drop_zero, List.drop_succ_cons, List.take_succ_cons, List.take_zero, List.flatten_cons, List.flatten_nil, Bool.true_and, Bool.and_true, Bool.not_true, Bool.not_false, true_and, and_true, true_or, or_true, Option.bind_some, Option.map_some, decide_true, decide_false, beq_self_eq_true, true_implies, false_implies, implies_true, not_true_eq_false, not_false_eq_true, and_self, Bool.and_false, Bool.false_and, Nat.reduceLT, Nat.reduceLeDiff, List.reverse_cons, List.reverse_nil, Nat.zero_add, Nat.add_zero, Bool.false_eq_true, List.getElem?_cons_zero, Nat.reduceMul, Nat.mul_one, F1, G1, F2, G2, at_fit, at_trim, XG.up, XG.rel, lsX, Nat.reduceLT, Int.cast_ofNat_Int, Int.reduceLT, Int.reduceLE, Int.reduceAdd, Int.reduceToNat, w64_1, w64_2, w64_3, w64_4, w64_5, w64_6, w64_7, w64_8, w64_9, w64_10, w64_11]
    rw [List.length_take, hmin]
    refine ⟨⟨hx.addr, hn64⟩, ⟨by rw [trimG_len]; omega, hn64⟩, Z3p.mk [0, 1] 5 (by simp) (by simp) ?_ (by omega) (by omega)⟩
    simp only [State.can, AV.can, AV.canL, HO.can, Z3i, idx, Z04, Z01, Heap.at, Nat.reduceBEq, ↓reduceIte, Nat.reduceEqDiff, Option.getD_some, Option.map_some, List.map_cons, List.map_nil, List.getD_cons_zero, List.getD_cons_succ, lsW, fitX, Nat.reduceLT, Int.cast_ofNat_Int]
  · simp only [↓Z1d, ↓Z2b, ↓Z1t, ↓Z05, ↓Z2q, ↓Z2k, Z49, Z4a, ↓Z20, ↓Z1c, ↓Z0i, ↓Z1u, ↓Z12, ↓Z1z, ↓Z2z, ↓Z30, ↓Z23, ↓Z1s, ↓Z2d, ↓Z28, ↓Z1y, ↓Z3m, ↓Z46, ↓Z3e, ↓Z3g, ↓Z3f, ↓Z3v, ↓Z3q, ↓Z44, ↓Z0j, ↓Z0b, ↓Z16, ↓Z0h, ↓Z1g, Z4d, Z0a, Z18, Z32, Z1a, Z35, evN, Z2s, Z1x, Z34, Z41, Z1w, Z19, Z1v, Z2p, Z2a, Z29, Z1e, Z2x, evT, Opd.ev, Z04, Z01, Z33, Z3x, Z3o, Z26, Z1f, Z2w, Z2y, Z3c, Z22, Z14, Z3r, LOp.isNew, State.prune, Z3s, Z3j, AV.leaf, Heap.at, Z0g, Z08, Z1m, Z0e, Z02, Z4x, Z4t, rowW, Z24, Z2t, Z1p, Z1b, rowB, Z2v, Z2u, rowN, Z4b, Z3h, Z17, Z15, w_or, Z4r, Z2r, Z45, Z50, Z42, Z4s, Z47, Z4z, Z4y, Z4u, Z4v, Z4w, w_eq, Bool.decide_eq_true, Z3b, Z3a, Z39, Z2f, Z1h, Z03, Z09, Z11, Z00, Z21, rowI, RatG.row, LocG.row, ActG.row, StepG.row, StampG.row, ActG.av, ActG.eta, RatG.eta, LocG.eta, beq_true, beq_false, Z2j, Z2o, Z2c, Z2l, Z10, Z0n, Z0y, Z0z, Z0m, Z0l, Z0c, List.length_set, List.length_replicate, Z06, Int.reduceToNat, Z4o, Z27, Z4e, Src.all, Src.len, Src.leaf, Src.leafN, Z37, Z3z, Z4k, Z0k, Z0o, Z0p, Z0q, Z0r, Z0s, Z0t, Z0u, Z4m, drows, evMk, List.length_map, Z1r, Z1q, List.take_length, List.take_left, List.length_append, Nat.le_add_right, ite_self, List.take_of_length_le, Z38, Z4j, Z3w, Option.isSome_none, Option.isSome_some, Nat.sub_zero, Z4i, Z4p, Z4g, evUn, Z0v, Z13, binT, binQ, chk, Z3t, List.contains_cons, List.contains_nil, Bool.or_false, Bool.false_or, Bool.and_self, resQ, resV, resT, Z4q, Z2e, Z43, Z3l, fnOf, Z3k, isD, HO.drow, Z4f, Z3u, evEq, eqV, eqK, eqC1, Z40, Z3y, Z36, Z31, Z48, Z3d, Z2i, Z1k, Z2h, Z1j, Z2g, Z1i, Z1l, Z0w, Z0x, Z0d, List.mem_cons, List.not_mem_nil, or_false, forall_eq, putRow, Z3n, Z25, RetS, RetF, RetD, AV.frz, AV.frzL, AV.freshP, AV.freshL, DV.less, Z2m, Z1n, Z2n, Z1o, Z0f, Z07, Option.some.injEq, AV.tup.injEq, AV.agg.injEq, List.cons.injEq, DV.list.injEq, List.isEmpty_nil, Nat.le_refl, AV.d.injEq, DV.int.injEq, DV.bool.injEq, ↓reduceIte, Nat.reduceEqDiff, Nat.reduceAdd, Nat.reduceBEq, List.length_cons, List.length_nil, List.replicate_succ, List.replicate_zero, List.nil_append, List.cons_append, List.append_nil, List.foldl_cons, List.foldl_nil, List.map_cons, List.map_nil, List.all_cons, List.all_nil, List.set_cons_zero, List.set_cons_succ, List.getD_cons_zero, List.getD_cons_succ, List.drop_zero, List.drop_succ_cons, List.take_succ_cons, List.take_zero, List.flatten_cons, List.flatten_nil, Bool.true_and, Bool.and_true, Bool.not_true, Bool.not_false, true_and, and_true, true_or, or_true, Option.bind_some, Option.map_some, decide_true, decide_false, beq_self_eq_true, true_implies, false_implies, implies_true, not_true_eq_false, not_false_eq_true, and_self, Bool.and_false, Bool.false_and, Nat.reduceLT, Nat.reduceLeDiff, List.reverse_cons, List.reverse_nil, Nat.zero_add, Nat.add_zero, Bool.false_eq_true, List.getElem?_cons_zero, Nat.reduceMul, Nat.mul_one, F1, G1, F2, G2, at_fit, at_trim, XG.up, XG.rel, lsX, Nat.reduceLT, Int.cast_ofNat_Int, Int.reduceLT, Int.reduceLE, Int.reduceAdd, Int.reduceToNat, w64_1, w64_2, w64_3, w64_4, w64_5, w64_6, w64_7, w64_8, w64_9, w64_10, w64_11]
    rw [List.length_take, hmin]
    refine ⟨⟨hx.data, hn64⟩, ⟨by rw [trimG_len]; omega, hn64⟩, Z3p.mk [0, 1] 6 (by simp) (by simp) ?_ (by omega) (by omega)⟩
    simp only [State.can, AV.can, AV.canL, HO.can, Z3i, idx, Z04, Z01, Heap.at, Nat.reduceBEq, ↓reduceIte, Nat.reduceEqDiff, Option.getD_some, Option.map_some, List.map_cons, List.map_nil, List.getD_cons_zero, List.getD_cons_succ, lsW, fitX, Nat.reduceLT, Int.cast_ofNat_Int]
  · simp only [↓Z1d, ↓Z2b, ↓Z1t, ↓Z05, ↓Z2q, ↓Z2k, Z49, Z4a, ↓Z20, ↓Z1c, ↓Z0i, ↓Z1u, ↓Z12, ↓Z1z, ↓Z2z, ↓Z30, ↓Z23, ↓Z1s, ↓Z2d, ↓Z28, ↓Z1y, ↓Z3m, ↓Z46, ↓Z3e, ↓Z3g, ↓Z3f, ↓Z3v, ↓Z3q, ↓Z44, ↓Z0j, ↓Z0b, ↓Z16, ↓Z0h, ↓Z1g, Z4d, Z0a, Z18, Z32, Z1a, Z35, evN, Z2s, Z1x, Z34, Z41, Z1w, Z19, Z1v, Z2p, Z2a, Z29, Z1e, Z2x, evT, Opd.ev, Z04, Z01, Z33, Z3x, Z3o, Z26, Z1f, Z2w, Z2y, Z3c, Z22, Z14, Z3r, LOp.isNew, State.prune, Z3s, Z3j, AV.leaf, Heap.at, Z0g, Z08, Z1m, Z0e, Z02, Z4x, Z4t, rowW, Z24, Z2t, Z1p, Z1b, rowB, Z2v, Z2u, rowN, Z4b, Z3h, Z17, Z15, w_or, Z4r, Z2r, Z45, Z50, Z42, Z4s, Z47, Z4z, Z4y, Z4u, Z4v, Z4w, w_eq, Bool.decide_eq_true, Z3b, Z3a, Z39, Z2f, Z1h, Z03, Z09, Z11, Z00, Z21, rowI, RatG.row, LocG.row, ActG.row, StepG.row, StampG.row, ActG.av, ActG.eta, RatG.eta, LocG.eta, beq_true, beq_false, Z2j, Z2o, Z2c, Z2l, Z10, Z0n, Z0y, Z0z, Z0m, Z0l, Z0c, List.length_set, List.length_replicate, Z06, Int.reduceToNat, Z4o, Z27, Z4e, Src.all, Src.len, Src.leaf, Src.leafN, Z37, Z3z, Z4k, Z0k, Z0o, Z0p, Z0q, Z0r, Z0s, Z0t, Z0u, Z4m, drows, evMk, List.length_map, Z1r, Z1q, List.take_length, List.take_left, List.length_append, Nat.le_add_right, ite_self, List.take_of_length_le, Z38, Z4j, Z3w, Option.isSome_none, Option.isSome_some, Nat.sub_zero, Z4i, Z4p, Z4g, evUn, Z0v, Z13, binT, binQ, chk, Z3t, List.contains_cons, List.contains_nil, Bool.or_false, Bool.false_or, Bool.and_self, resQ, resV, resT, Z4q, Z2e, Z43, Z3l, fnOf, Z3k, isD, HO.drow, Z4f, Z3u, evEq, eqV, eqK, eqC1, Z40, Z3y, Z36, Z31, Z48, Z3d, Z2i, Z1k, Z2h, Z1j, Z2g, Z1i, Z1l, Z0w, Z0x, Z0d, List.mem_cons, List.not_mem_nil, or_false, forall_eq, putRow, Z3n, Z25, RetS, RetF, RetD, AV.frz, AV.frzL, AV.freshP, AV.freshL, DV.less, Z2m, Z1n, Z2n, Z1o, Z0f, Z07, Option.some.injEq, AV.tup.injEq, AV.agg.injEq, List.cons.injEq, DV.list.injEq, List.isEmpty_nil, Nat.le_refl, AV.d.injEq, DV.int.injEq, DV.bool.injEq, ↓reduceIte, Nat.reduceEqDiff, Nat.reduceAdd, Nat.reduceBEq, List.length_cons, List.length_nil, List.replicate_succ, List.replicate_zero, List.nil_append, List.cons_append, List.append_nil, List.foldl_cons, List.foldl_nil, List.map_cons, List.map_nil, List.all_cons, List.all_nil, List.set_cons_zero, List.set_cons_succ, List.getD_cons_zero, List.getD_cons_succ, List.drop_zero, List.drop_succ_cons, List.take_succ_cons, List.take_zero, List.flatten_cons, List.flatten_nil, Bool.true_and, Bool.and_true, Bool.not_true, Bool.not_false, true_and, and_true, true_or, or_true, Option.bind_some, Option.map_some, decide_true, decide_false, beq_self_eq_true, true_implies, false_implies, implies_true, not_true_eq_false, not_false_eq_true, and_self, Bool.and_false, Bool.false_and, Nat.reduceLT, Nat.reduceLeDiff, List.reverse_cons, List.reverse_nil, Nat.zero_add, Nat.add_zero, Bool.false_eq_true, List.getElem?_cons_zero, Nat.reduceMul, Nat.mul_one, F1, G1, F2, G2, at_fit, at_trim, XG.up, XG.rel, lsX, Nat.reduceLT, Int.cast_ofNat_Int, Int.reduceLT, Int.reduceLE, Int.reduceAdd, Int.reduceToNat, w64_1, w64_2, w64_3, w64_4, w64_5, w64_6, w64_7, w64_8, w64_9, w64_10, w64_11]
    rw [List.length_take, hmin]
    refine ⟨⟨hx.ctrl, hn64⟩, ⟨by rw [trimG_len]; omega, hn64⟩, Z3p.mk [0, 1] 7 (by simp) (by simp) ?_ (by omega) (by omega)⟩
    simp only [State.can, AV.can, AV.canL, HO.can, Z3i, idx, Z04, Z01, Heap.at, Nat.reduceBEq, ↓reduceIte, Nat.reduceEqDiff, Option.getD_some, Option.map_some, List.map_cons, List.map_nil, List.getD_cons_zero, List.getD_cons_succ, lsW, fitX, Nat.reduceLT, Int.cast_ofNat_Int]
  · simp only [↓Z1d, ↓Z2b, ↓Z1t, ↓Z05, ↓Z2q, ↓Z2k, Z49, Z4a, ↓Z20, ↓Z1c, ↓Z0i, ↓Z1u, ↓Z12, ↓Z1z, ↓Z2z, ↓Z30, ↓Z23, ↓Z1s, ↓Z2d, ↓Z28, ↓Z1y, ↓Z3m, ↓Z46, ↓Z3e, ↓Z3g, ↓Z3f, ↓Z3v, ↓Z3q, ↓Z44, ↓Z0j, ↓Z0b, ↓Z16, ↓Z0h, ↓Z1g, Z4d, Z0a, Z18, Z32, Z1a, Z35, evN, Z2s, Z1x, Z34, Z41, Z1w, Z19, Z1v, Z2p, Z2a, Z29, Z1e, Z2x, evT, Opd.ev, Z04, Z01, Z33, Z3x, Z3o, Z26, Z1f, Z2w, Z2y, Z3c, Z22, Z14, Z3r, LOp.isNew, State.prune, Z3s, Z3j, AV.leaf, Heap.at, Z0g, Z08, Z1m, Z0e, Z02, Z4x, Z4t, rowW, Z24, Z2t, Z1p, Z1b, rowB, Z2v, Z2u, rowN, Z4b, Z3h, Z17, Z15, w_or, Z4r, Z2r, Z45, Z50, Z42, Z4s, Z47, Z4z, Z4y, Z4u, Z4v, Z4w, w_eq, Bool.decide_eq_true, Z3b, Z3a, Z39, Z2f, Z1h, Z03, Z09, Z11, Z00, Z21, rowI, RatG.row, LocG.row, ActG.row, StepG.row, StampG.row, ActG.av, ActG.eta, RatG.eta, LocG.eta, beq_true, beq_false, Z2j, Z2o, Z2c, Z2l, Z10, Z0n, Z0y, Z0z, Z0m, Z0l, Z0c, List.length_set, List.length_replicate, Z06, Int.reduceToNat, Z4o, Z27, Z4e, Src.all, Src.len, Src.leaf, Src.leafN, Z37, Z3z, Z4k, Z0k, Z0o, Z0p, Z0q, Z0r, Z0s, Z0t, Z0u, Z4m, drows, evMk, List.length_map, Z1r, Z1q, List.take_length, List.take_left, List.length_append, Nat.le_add_right, ite_self, List.take_of_length_le, Z38, Z4j, Z3w, Option.isSome_none, Option.isSome_some, Nat.sub_zero, Z4i, Z4p, Z4g, evUn, Z0v, Z13, binT, binQ, chk, Z3t, List.contains_cons, List.contains_nil, Bool.or_false, Bool.false_or, Bool.and_self, resQ, resV, resT, Z4q, Z2e, Z43, Z3l, fnOf, Z3k, isD, HO.drow, Z4f, Z3u, evEq, eqV, eqK, eqC1, Z40, Z3y, Z36, Z31, Z48, Z3d, Z2i, Z1k, Z2h, Z1j, Z2g, Z1i, Z1l, Z0w, Z0x, Z0d, List.mem_cons, List.not_mem_nil, or_false, forall_eq, putRow, Z3n, Z25, RetS, RetF, RetD, AV.frz, AV.frzL, AV.freshP, AV.freshL, DV.less, Z2m, Z1n, Z2n, Z1o, Z0f, Z07, Option.some.injEq, AV.tup.injEq, AV.agg.injEq, List.cons.injEq, DV.list.injEq, List.isEmpty_nil, Nat.le_refl, AV.d.injEq, DV.int.injEq, DV.bool.injEq, ↓reduceIte, Nat.reduceEqDiff, Nat.reduceAdd, Nat.reduceBEq, List.length_cons, List.length_nil, List.replicate_succ, List.replicate_zero, List.nil_append, List.cons_append, List.append_nil, List.foldl_cons, List.foldl_nil, List.map_cons, List.map_nil, List.all_cons, List.all_nil, List.set_cons_zero, List.set_cons_succ, List.getD_cons_zero, List.getD_cons_succ, List.drop_zero, List.drop_succ_cons, List.take_succ_cons, List.take_zero, List.flatten_cons, List.flatten_nil, Bool.true_and, Bool.and_true, Bool.not_true, Bool.not_false, true_and, and_true, true_or, or_true, Option.bind_some, Option.map_some, decide_true, decide_false, beq_self_eq_true, true_implies, false_implies, implies_true, not_true_eq_false, not_false_eq_true, and_self, Bool.and_false, Bool.false_and, Nat.reduceLT, Nat.reduceLeDiff, List.reverse_cons, List.reverse_nil, Nat.zero_add, Nat.add_zero, Bool.false_eq_true, List.getElem?_cons_zero, Nat.reduceMul, Nat.mul_one, F1, G1, F2, G2, at_fit, at_trim, XG.up, XG.rel, lsX, Nat.reduceLT, Int.cast_ofNat_Int, Int.reduceLT, Int.reduceLE, Int.reduceAdd, Int.reduceToNat, w64_1, w64_2, w64_3, w64_4, w64_5, w64_6, w64_7, w64_8, w64_9, w64_10, w64_11]
    rw [List.length_take, hmin]
    refine ⟨⟨hx.fenced, hn64⟩, ⟨by rw [trimG_len]; omega, hn64⟩, Z3p.mk [0, 1] 8 (by simp) (by simp) ?_ (by omega) (by omega)⟩
    simp only [State.can, AV.can, AV.canL, HO.can, Z3i, idx, Z04, Z01, Heap.at, Nat.reduceBEq, ↓reduceIte, Nat.reduceEqDiff, Option.getD_some, Option.map_some, List.map_cons, List.map_nil, List.getD_cons_zero, List.getD_cons_succ, lsW, fitX, Nat.reduceLT, Int.cast_ofNat_Int]
  · simp only [↓Z1d, ↓Z2b, ↓Z1t, ↓Z05, ↓Z2q, ↓Z2k, Z49, Z4a, ↓Z20, ↓Z1c, ↓Z0i, ↓Z1u, ↓Z12, ↓Z1z, ↓Z2z, ↓Z30, ↓Z23, ↓Z1s, ↓Z2d, ↓Z28, ↓Z1y, ↓Z3m, ↓Z46, ↓Z3e, ↓Z3g, ↓Z3f, ↓Z3v, ↓Z3q, ↓Z44, ↓Z0j, ↓Z0b, ↓Z16, ↓Z0h, ↓Z1g, Z4d, Z0a, Z18, Z32, Z1a, Z35, evN, Z2s, Z1x, Z34, Z41, Z1w, Z19, Z1v, Z2p, Z2a, Z29, Z1e, Z2x, evT, Opd.ev, Z04, Z01, Z33, Z3x, Z3o, Z26, Z1f, Z2w, Z2y, Z3c, Z22, Z14, Z3r, LOp.isNew, State.prune, Z3s, Z3j, AV.leaf, Heap.at, Z0g, Z08, Z1m, Z0e, Z02, Z4x, Z4t, rowW, Z24, Z2t, Z1p, Z1b, rowB, Z2v, Z2u, rowN, Z4b, Z3h, Z17, Z15, w_or, Z4r, Z2r, Z45, Z50, Z42, Z4s, Z47, Z4z, Z4y, Z4u, Z4v, Z4w, w_eq, Bool.decide_eq_true, Z3b, Z3a, Z39, Z2f, Z1h, Z03, Z09, Z11, Z00, Z21, rowI, RatG.row, LocG.row, ActG.row, StepG.row, StampG.row, ActG.av, ActG.eta, RatG.eta, LocG.eta, beq_true, beq_false, Z2j, Z2o, Z2c, Z2l, Z10, Z0n, Z0y, Z0z, Z0m, Z0l, Z0c, List.length_set, List.length_replicate, Z06, Int.reduceToNat, Z4o, Z27, Z4e, Src.all, Src.len, Src.leaf, Src.leafN, Z37, Z3z, Z4k, Z0k, Z0o, Z0p, Z0q, Z0r, Z0s, Z0t, Z0u, Z4m, drows, evMk, List.length_map, Z1r, Z1q, List.take_length, List.take_left, List.length_append, Nat.le_add_right, ite_self, List.take_of_length_le, Z38, Z4j, Z3w, Option.isSome_none, Option.isSome_some, Nat.sub_zero, Z4i, Z4p, Z4g, evUn, Z0v, Z13, binT, binQ, chk, Z3t, List.contains_cons, List.contains_nil, Bool.or_false, Bool.false_or, Bool.and_self, resQ, resV, resT, Z4q, Z2e, Z43, Z3l, fnOf, Z3k, isD, HO.drow, Z4f, Z3u, evEq, eqV, eqK, eqC1, Z40, Z3y, Z36, Z31, Z48, Z3d, Z2i, Z1k, Z2h, Z1j, Z2g, Z1i, Z1l, Z0w, Z0x, Z0d, List.mem_cons, List.not_mem_nil, or_false, forall_eq, putRow, Z3n, Z25, RetS, RetF, RetD, AV.frz, AV.frzL, AV.freshP, AV.freshL, DV.less, Z2m, Z1n, Z2n, Z1o, Z0f, Z07, Option.some.injEq, AV.tup.injEq, AV.agg.injEq, List.cons.injEq, DV.list.injEq, List.isEmpty_nil, Nat.le_refl, AV.d.injEq, DV.int.injEq, DV.bool.injEq, ↓reduceIte, Nat.reduceEqDiff, Nat.reduceAdd, Nat.reduceBEq, List.length_cons, List.length_nil, List.replicate_succ, List.replicate_zero, List.nil_append, List.cons_append, List.append_nil, List.foldl_cons, List.foldl_nil, List.map_cons, List.map_nil, List.all_cons, List.all_nil, List.set_cons_zero, List.set_cons_succ, List.getD_cons_zero, List.getD_cons_succ, List.drop_zero, List.drop_succ_cons, List.take_succ_cons, List.take_zero, List.flatten_cons, List.flatten_nil, Bool.true_and, Bool.and_true, Bool.not_true, Bool.not_false, true_and, and_true, true_or, or_true, Option.bind_some, Option.map_some, decide_true, decide_false, beq_self_eq_true, true_implies, false_implies, implies_true, not_true_eq_false, not_false_eq_true, and_self, Bool.and_false, Bool.false_and, Nat.reduceLT, Nat.reduceLeDiff, List.reverse_cons, List.reverse_nil, Nat.zero_add, Nat.add_zero, Bool.false_eq_true, List.getElem?_cons_zero, Nat.reduceMul, Nat.mul_one, F1, G1, F2, G2, at_fit, at_trim, XG.up, XG.rel, lsX, Nat.reduceLT, Int.cast_ofNat_Int, Int.reduceLT, Int.reduceLE, Int.reduceAdd, Int.reduceToNat, w64_1, w64_2, w64_3, w64_4, w64_5, w64_6, w64_7, w64_8, w64_9, w64_10, w64_11]
    rw [List.length_take, hmin]
    refine ⟨⟨hx.sync, hn64⟩, ⟨by rw [trimG_len]; omega, hn64⟩, Z3p.mk [0, 1] 9 (by simp) (by simp) ?_ (by omega) (by omega)⟩
    simp only [State.can, AV.can, AV.canL, HO.can, Z3i, idx, Z04, Z01, Heap.at, Nat.reduceBEq, ↓reduceIte, Nat.reduceEqDiff, Option.getD_some, Option.map_some, List.map_cons, List.map_nil, List.getD_cons_zero, List.getD_cons_succ, lsW, fitX, Nat.reduceLT, Int.cast_ofNat_Int]
  · simp only [↓Z1d, ↓Z2b, ↓Z1t, ↓Z05, ↓Z2q, ↓Z2k, Z49, Z4a, ↓Z20, ↓Z1c, ↓Z0i, ↓Z1u, ↓Z12, ↓Z1z, ↓Z2z, ↓Z30, ↓Z23, ↓Z1s, ↓Z2d, ↓Z28, ↓Z1y, ↓Z3m, ↓Z46, ↓Z3e, ↓Z3g, ↓Z3f, ↓Z3v, ↓Z3q, ↓Z44, ↓Z0j, ↓Z0b, ↓Z16, ↓Z0h, ↓Z1g, Z4d, Z0a, Z18, Z32, Z1a, Z35, evN, Z2s, Z1x, Z34, Z41, Z1w, Z19, Z1v, Z2p, Z2a, Z29, Z1e, Z2x, evT, Opd.ev, Z04, Z01, Z33, Z3x, Z3o, Z26, Z1f, Z2w, Z2y, Z3c, Z22, Z14, Z3r, LOp.isNew, State.prune, Z3s, Z3j, AV.leaf, Heap.at, Z0g, Z08, Z1m, Z0e, Z02, Z4x, Z4t, rowW, Z24, Z2t, Z1p, Z1b, rowB, Z2v, Z2u, rowN, Z4b, Z3h, Z17, Z15, w_or, Z4r, Z2r, Z45, Z50, Z42, Z4s, Z47, Z4z, Z4y, Z4u, Z4v, Z4w, w_eq, Bool.decide_eq_true, Z3b, Z3a, Z39, Z2f, Z1h, Z03, Z09, Z11, Z00, Z21, rowI, RatG.row, LocG.row, ActG.row, StepG.row, StampG.row, ActG.av, ActG.eta, RatG.eta, LocG.eta, beq_true, beq_false, Z2j, Z2o, Z2c, Z2l, Z10, Z0n, Z0y, Z0z, Z0m, Z0l, Z0c, List.length_set, List.length_replicate, Z06, Int.reduceToNat, Z4o, Z27, Z4e, Src.all, Src.len, Src.leaf, Src.leafN, Z37, Z3z, Z4k, Z0k, Z0o, Z0p, Z0q, Z0r, Z0s, Z0t, Z0u, Z4m, drows, evMk, List.length_map, Z1r, Z1q, List.take_length, List.take_left, List.length_append, Nat.le_add_right, ite_self, List.take_of_length_le, Z38, Z4j, Z3w, Option.isSome_none, Option.isSome_some, Nat.sub_zero, Z4i, Z4p, Z4g, evUn, Z0v, Z13, binT, binQ, chk, Z3t, List.contains_cons, List.contains_nil, Bool.or_false, Bool.false_or, Bool.and_self, resQ, resV, resT, Z4q, Z2e, Z43, Z3l, fnOf, Z3k, isD, HO.drow, Z4f, Z3u, evEq, eqV, eqK, eqC1, Z40, Z3y, Z36, Z31, Z48, Z3d, Z2i, Z1k, Z2h, Z1j, Z2g, Z1i, Z1l, Z0w, Z0x, Z0d, List.mem_cons, List.not_mem_nil, or_false, forall_eq, putRow, Z3n, Z25, RetS, RetF, RetD, AV.frz, AV.frzL, AV.freshP, AV.freshL, DV.less, Z2m, Z1n, Z2n, Z1o, Z0f, Z07, Option.some.injEq, AV.tup.injEq, AV.agg.injEq, List.cons.injEq, DV.list.injEq, List.isEmpty_nil, Nat.le_refl, AV.d.injEq, DV.int.injEq, DV.bool.injEq, ↓reduceIte, Nat.reduceEqDiff, Nat.reduceAdd, Nat.reduceBEq, List.length_cons, List.length_nil, List.replicate_succ, List.replicate_zero, List.nil_append, List.cons_append, List.append_nil, List.foldl_cons, List.foldl_nil, List.map_cons, List.map_nil, List.all_cons, List.all_nil, List.set_cons_zero, List.set_cons_succ, List.getD_cons_zero, List.getD_cons_succ, List.drop_zero, List.drop_succ_cons, List.take_succ_cons, List.take_zero, List.flatten_cons, List.flatten_nil, Bool.true_and, Bool.and_true, Bool.not_true, Bool.not_false, true_and, and_true, true_or, or_true, Option.bind_some, Option.map_some, decide_true, decide_false, beq_self_eq_true, true_implies, false_implies, implies_true, not_true_eq_false, not_false_eq_true, and_self, Bool.and_false, Bool.false_and, Nat.reduceLT, Nat.reduceLeDiff, List.reverse_cons, List.reverse_nil, Nat.zero_add, Nat.add_zero, Bool.false_eq_true, List.getElem?_cons_zero, Nat.reduceMul, Nat.mul_one, F1, G1, F2, G2, at_fit, at_trim, XG.up, XG.rel, lsX, Nat.reduceLT, Int.cast_ofNat_Int, Int.reduceLT, Int.reduceLE, Int.reduceAdd, Int.reduceToNat, w64_1, w64_2, w64_3, w64_4, w64_5, w64_6, w64_7, w64_8, w64_9, w64_10, w64_11]
    rw [List.length_take, hmin]
    refine ⟨⟨hx.lwsync, hn64⟩, ⟨by rw [trimG_len]; omega, hn64⟩, Z3p.mk [0, 1] 10 (by simp) (by simp) ?_ (by omega) (by omega)⟩
    simp only [State.can, AV.can, AV.canL, HO.can, Z3i, idx, Z04, Z01, Heap.at, Nat.reduceBEq, ↓reduceIte, Nat.reduceEqDiff, Option.getD_some, Option.map_some, List.map_cons, List.map_nil, List.getD_cons_zero, List.getD_cons_succ, lsW, fitX, Nat.reduceLT, Int.cast_ofNat_Int]
  · simp only [↓Z1d, ↓Z2b, ↓Z1t, ↓Z05, ↓Z2q, ↓Z2k, Z49, Z4a, ↓Z20, ↓Z1c, ↓Z0i, ↓Z1u, ↓Z12, ↓Z1z, ↓Z2z, ↓Z30, ↓Z23, ↓Z1s, ↓Z2d, ↓Z28, ↓Z1y, ↓Z3m, ↓Z46, ↓Z3e, ↓Z3g, ↓Z3f, ↓Z3v, ↓Z3q, ↓Z44, ↓Z0j, ↓Z0b, ↓Z16, ↓Z0h, ↓Z1g, Z4d, Z0a, Z18, Z32, Z1a, Z35, evN, Z2s, Z1x, Z34, Z41, Z1w, Z19, Z1v, Z2p, Z2a, Z29, Z1e, Z2x, evT, Opd.ev, Z04, Z01, Z33, Z3x, Z3o, Z26, Z1f, Z2w, Z2y, Z3c, Z22, Z14, Z3r, LOp.isNew, State.prune, Z3s, Z3j, AV.leaf, Heap.at, Z0g, Z08, Z1m, Z0e, Z02, Z4x, Z4t, rowW, Z24, Z2t, Z1p, Z1b, rowB, Z2v, Z2u, rowN, Z4b, Z3h, Z17, Z15, w_or, Z4r, Z2r, Z45, Z50, Z42, Z4s, Z47, Z4z, Z4y, Z4u, Z4v, Z4w, w_eq, Bool.decide_eq_true, Z3b, Z3a, Z39, Z2f, Z1h, Z03, Z09, Z11, Z00, Z21, rowI, RatG.row, LocG.row, ActG.row, StepG.row, StampG.row, ActG.av, ActG.eta, RatG.eta, LocG.eta, beq_true, beq_false, Z2j, Z2o, Z2c, Z2l, Z10, Z0n, Z0y, Z0z, Z0m, Z0l, Z0c, List.length_set, List.length_replicate, Z06, Int.reduceToNat, Z4o, Z27, Z4e, Src.all, Src.len, Src.leaf, Src.leafN, Z37, Z3z, Z4k, Z0k, Z0o, Z0p, Z0q, Z0r, Z0s, Z0t, Z0u, Z4m, drows, evMk, List.length_map, Z1r, Z1q, List.take_length, List.take_left, List.length_append, Nat.le_add_right, ite_self, List.take_of_length_le, Z38, Z4j, Z3w, Option.isSome_none, Option.isSome_some, Nat.sub_zero, Z4i, Z4p, Z4g, evUn, Z0v, Z13, binT, binQ, chk, Z3t, List.contains_cons, List.contains_nil, Bool.or_false, Bool.false_or, Bool.and_self, resQ, resV, resT, Z4q, Z2e, Z43, Z3l, fnOf, Z3k, isD, HO.drow, Z4f, Z3u, evEq, eqV, eqK, eqC1, Z40, Z3y, Z36, Z31, Z48, Z3d, Z2i, Z1k, Z2h, Z1j, Z2g, Z1i, Z1l, Z0w, Z0x, Z0d, List.mem_cons, List.not_mem_nil, or_false, forall_eq, putRow, Z3n, Z25, RetS, RetF, RetD, AV.frz, AV.frzL, AV.freshP, AV.freshL, DV.less, Z2m, Z1n, Z2n, Z1o, Z0f, Z07, Option.some.injEq, AV.tup.injEq, AV.agg.injEq, List.cons.injEq, DV.list.injEq, List.isEmpty_nil, Nat.le_refl, AV.d.injEq, DV.int.injEq, DV.bool.injEq, ↓reduceIte, Nat.reduceEqDiff, Nat.reduceAdd, Nat.reduceBEq, List.length_cons, List.length_nil, List.replicate_succ, List.replicate_zero, List.nil_append, List.cons_append, List.append_nil, List.foldl_cons, List.foldl_nil, List.map_cons, List.map_nil, List.all_cons, List.all_nil, List.set_cons_zero, List.set_cons_succ, List.getD_cons_zero, List.getD_cons_succ, List.drop_zero, List.drop_succ_cons, List.take_succ_cons, List.take_zero, List.flatten_cons, List.flatten_nil, Bool.true_and, Bool.and_true, Bool.not_true, Bool.not_false, true_and, and_true, true_or, or_true, Option.bind_some, Option.map_some, decide_true, decide_false, beq_self_eq_true, true_implies, false_implies, implies_true, not_true_eq_false, not_false_eq_true, and_self, Bool.and_false, Bool.false_and, Nat.reduceLT, Nat.reduceLeDiff, List.reverse_cons, List.reverse_nil, Nat.zero_add, Nat.add_zero, Bool.false_eq_true, List.getElem?_cons_zero, Nat.reduceMul, Nat.mul_one, F1, G1, F2, G2, at_fit, at_trim, XG.up, XG.rel, lsX, Nat.reduceLT, Int.cast_ofNat_Int, Int.reduceLT, Int.reduceLE, Int.reduceAdd, Int.reduceToNat, w64_1, w64_2, w64_3, w64_4, w64_5, w64_6, w64_7, w64_8, w64_9, w64_10, w64_11]
    rw [List.length_take, hmin]
    refine ⟨⟨hx.pairs, hn64⟩, ⟨by rw [trimG_len]; omega, hn64⟩, Z3p.mk [0, 1] 11 (by simp) (by simp) ?_ (by omega) (by omega)⟩
    simp only [State.can, AV.can, AV.canL, HO.can, Z3i, idx, Z04, Z01, Heap.at, Nat.reduceBEq, ↓reduceIte, Nat.reduceEqDiff, Option.getD_some, Option.map_some, List.map_cons, List.map_nil, List.getD_cons_zero, List.getD_cons_succ, lsW, fitX, Nat.reduceLT, Int.cast_ofNat_Int]
end Go.Ago
