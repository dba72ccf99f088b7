/- A call on objects of its own, as a call on a greater heap; contracts of calls that change or add objects. Conditions: none. -/
import Derived.Test.YtoicaaidleddfaaAgoP3
import Derived.Test.YtoicaaidleddfaaAgoP4
set_option linter.unusedSimpArgs false
set_option linter.unusedVariables false
namespace Go.Ago

/-- The end of a call: its heap, said with other ids, is this one. -/
def RetG (n0 : Nat) (v' : AV) (os' : Heap) : AV → Heap → Prop := fun r H => ∃ ρ, Weak n0 ρ ⟨[(0, r)], H⟩ ⟨[(0, v')], os'⟩ ∧ n0 ≤ os'.length

theorem RetG.mk {n0 : Nat} {v' r : AV} {os' H : Heap} (ρ : List Nat) (h1 : ρ.Nodup) (h2 : ∀ i ∈ ρ, i < H.length) (h3 : ∀ i, i < n0 → ρ[i]? = some i) (hv : AV.can ρ r = some v') (ho : ρ.map (fun i => (Heap.at H i).can ρ) = os') : RetG n0 v' os' r H := by
  have hw := can_weak (S := ⟨[(0, r)], H⟩) (live := [0]) h1 h3 h2
  have e : State.can ρ [0] ⟨[(0, r)], H⟩ = ⟨[(0, v')], os'⟩ := by
    simp only [State.can, List.map_cons, List.map_nil, Env.get, if_true, hv, Option.getD_some, ho]
  rw [e] at hw
  refine ⟨ρ, hw, ?_⟩
  rw [← ho, List.length_map]
  cases n0 with
  | zero => omega
  | succ n =>
    rcases Nat.lt_or_ge n ρ.length with h | h
    · omega
    · have := h3 n (by omega)
      rw [List.getElem?_eq_none (by omega)] at this
      cases this



theorem ACalls.exact {P : Program} {f : FuncId} {args : List AV} {H0 os' : Heap} {v' : AV} (h : ACalls P f args H0 (RetG H0.length v' os')) : ACalls P f args H0 (fun r H => r = v' ∧ H = os') := by
  refine ⟨h.1, fun A φ w vals hs hz hr => (h.2 A φ w vals hs hz hr).mono ?_⟩
  rintro e w' ⟨v, r, H', φ', rfl, ⟨ρ, hw, hl⟩, hs', hrr, hext⟩
  have hsim : Sim P A 1 φ' ⟨[(0, r)], H'⟩ { tmps := #[v], defers := [] } w' := by
    refine ⟨hs', rfl, rfl, fun t => ?_⟩
    cases t with
    | zero => exact hrr
    | succ t => exact .undef _
  obtain ⟨hs2, he⟩ := hw.sim hsim
  exact ⟨v, v', os', _, rfl, ⟨rfl, rfl⟩, hs2.heap, hs2.slots 0, hext.trans he⟩

/-- What is known of a function that changes one object that it is handed. -/
structure Ef where
  A : Type
  args : A → Nat → List AV
  sz : Nat
  rows : A → List (List DV)
  ok : A → Prop
  val : A → AV
  rows' : A → List (List DV)

def Ef.fits (e : Ef) (p : e.A × Nat) (args : List AV) (H : Heap) : Prop := e.args p.1 p.2 = args ∧ H.at p.2 = .dvec e.sz (e.rows p.1)
def Ef.eff (e : Ef) (p : e.A × Nat) : Eff := ⟨e.ok p.1, e.val p.1, [(p.2, .dvec e.sz (e.rows' p.1))], [], none⟩
open Classical in
noncomputable def Ef.at (e : Ef) (args : List AV) (H : Heap) : Option Eff := if h : ∃ p, e.fits p args H then some (e.eff h.choose) else none

theorem Ef.at_fits {e : Ef} (hi : ∀ p q args H, e.fits p args H → e.fits q args H → p = q) {p : e.A × Nat} {args : List AV} {H : Heap} (h : e.fits p args H) : e.at args H = some (e.eff p) := by
  have h' : ∃ p, e.fits p args H := ⟨p, h⟩
  unfold Ef.at
  rw [dif_pos h', hi _ _ _ _ h'.choose_spec h]

structure Ef.Body (e : Ef) (T : Tab) (live : List Nat) (lc : LCode) (rs : List LRes) : Prop where
  ren : ∀ x (ρ : Nat → Nat), e.args x (ρ 0) = (e.args x 0).map (AV.ren ρ)
  val : ∀ x (ρ : Nat → Nat), (e.val x).ren ρ = e.val x
  body : ∀ x, e.ok x → vck T 1 live lc ⟨Z0y 0 (e.args x 0), [.dvec e.sz (e.rows x)]⟩ (retK rs (RetG 1 (e.val x) [.dvec e.sz (e.rows' x)]))

theorem Ef.Body.ok {P : Program} {T : Tab} (hT : TabOK P T) {e : Ef} {f : FuncId} {fn : Func} {c : Code} {lc : LCode} {rs : List LRes} {live : List Nat} (h : e.Body T live lc rs) (hf : P.funcs[f]? = some fn)
    (hname : (fn.name == "runtime.NumGoroutine") = false) (hb : fn.body = some c) (hl : lowCode P fn.ntmps c = some lc) (hr : lowRess P fn.results.toList = some rs) (ha : ∀ x, (e.args x 0).length ≤ fn.ntmps) :
    ∀ args H x, e.at args H = some x → x.ok → ACalls P f args H fun r H' => r = x.val ∧ H' = applyUps H x.ups ++ x.news := by
  intro args H x hx hok
  unfold Ef.at at hx
  split at hx
  case isFalse => cases hx
  rename_i hp
  have hfit := hp.choose_spec
  generalize hp.choose = q at hx hfit
  simp only [Option.some.injEq] at hx
  subst hx
  obtain ⟨x, id⟩ := q
  obtain ⟨h1, h2⟩ := hfit
  simp only at h1 h2
  subst h1
  have hlt : id < H.length := Heap.at_lt (H := H) (i := id) (by rw [h2]; trivial)
  have hcall : ACalls P f (e.args x 0) [.dvec e.sz (e.rows x)] (fun r H1 => r = e.val x ∧ H1 = [.dvec e.sz (e.rows' x)]) :=
    ACalls.exact (ACalls.of_vck hT live hf hname hb hl hr (ha x) (h.body x hok))
  have hfr : Framed H [id] [.dvec e.sz (e.rows' x)] (H.set id (.dvec e.sz (e.rows' x)) ++ []) := by
    refine ⟨by simp, fun j hj hm => ?_, fun i hi => ?_⟩
    · rw [List.append_nil, Heap.at_set hlt, if_neg (fun h => hm (by simp [h]))]
    · have : i = 0 := by simpa using hi
      subst this
      rw [List.append_nil, into_lt (by simp), Heap.at_set hlt]
      simp [Heap.at, HO.ren]
  have := ACalls.frame (ids := [id]) (by simp) (by simp) (by simpa using hlt) (by simp) (fun k hk => by
    have : k = 0 := by simpa using hk
    subst this
    simp only [List.getElem_cons_zero, h2]
    simp [Heap.at, HO.ren]) hfr hcall
  have e1 : (e.args x 0).map (AV.ren (into H [id])) = e.args x id := by
    rw [← h.ren x (into H [id])]
    rw [into_lt (by simp)]; rfl
  rw [e1, h.val] at this
  exact this

theorem Ef.at_take {e : Ef} {args : List AV} {H : Heap} {x : Eff} (h : e.at args H = some x) : x.take = none := by
  unfold Ef.at at h
  split at h
  · simp only [Option.some.injEq] at h; subst h; rfl
  · cases h
theorem Ef.Body.tab {P : Program} {T T0 : Tab} {e : Ef} {live : List Nat} {lc : LCode} {rs : List LRes} (h : e.Body T live lc rs) (hT : TabOK P T) (hT0 : TabOK P T0) {f : FuncId} {fn : Func} {c : Code} (hf : P.funcs[f]? = some fn)
    (hname : (fn.name == "runtime.NumGoroutine") = false) (hb : fn.body = some c) (hl : lowCode P fn.ntmps c = some lc) (hr : lowRess P fn.results.toList = some rs) (ha : ∀ x, (e.args x 0).length ≤ fn.ntmps) : TabOK P (T0.addG f e.at) :=
  hT0.addG (Ef.Body.ok hT h hf hname hb hl hr ha) fun args H x t h1 h2 => by rw [Ef.at_take h1] at h2; cases h2

end Go.Ago

/- A call that is handed rows of ours and gives longer ones (slices.Insert): the rows with their capacity, and what is said of it to the caller. Conditions: none. -/
set_option linter.unusedSimpArgs false
set_option linter.unusedVariables false
namespace Go.Ago

/-- The end of a call: its result and heap, said with less. -/
def RetW (n0 : Nat) (v' : AV) (os' : Heap) : AV → Heap → Prop := fun r H => Says n0 ⟨[(0, r)], H⟩ ⟨[(0, v')], os'⟩ ∧ n0 ≤ os'.length

theorem ACalls.exactW {P : Program} {f : FuncId} {args : List AV} {H0 os' : Heap} {v' : AV} (h : ACalls P f args H0 (RetW H0.length v' os')) : ACalls P f args H0 (fun r H => r = v' ∧ H = os') := by
  refine ⟨h.1, fun A φ w vals hs hz hr => (h.2 A φ w vals hs hz hr).mono ?_⟩
  rintro e w' ⟨v, r, H', φ', rfl, ⟨hw, hl⟩, hs', hrr, hext⟩
  have hsim : Sim P A 1 φ' ⟨[(0, r)], H'⟩ { tmps := #[v], defers := [] } w' := by
    refine ⟨hs', rfl, rfl, fun t => ?_⟩
    cases t with
    | zero => exact hrr
    | succ t => exact .undef _
  obtain ⟨φ2, hs2, he⟩ := hw P A 1 φ' _ w' hsim
  exact ⟨v, v', os', φ2, rfl, ⟨rfl, rfl⟩, hs2.heap, hs2.slots 0, hext.trans he⟩

/-- Rows 'k' of ours are all that is said any more, beside the rows '1', that are as they were. -/
theorem Says.pick {k sz m row sz2 : Nat} {room : Bool} {H : Heap} {R : List (List AV)} {ds r2 : List (List DV)} (hk : (H.at k).rows = some (sz, R)) (h1 : H.at 1 = .dvec sz2 r2) (hne : k ≠ 1)
    (hR : R.take m = ds.map (·.map .d)) (hm : ds.length = m) (hle : m ≤ R.length) :
    Says 2 ⟨[(0, .ref k sz 0 m room)], H⟩ ⟨[(0, .ref 2 sz 0 m true)], [.dead, .dvec sz2 r2, .dvec sz ds]⟩ := by
  intro P A n φ a w hs
  let φ' : Nat → Option (Nat × Nat) := fun i => if i = 2 then φ k else if i < 2 then φ i else none
  have halk : (H.at k).alive := HO.alive_rows.2 ⟨_, _, hk⟩
  have hal1 : (H.at 1).alive := by rw [h1]; trivial
  have at0 : Heap.at [.dead, .dvec sz2 r2, .dvec sz ds] 0 = .dead := rfl
  have at1 : Heap.at [.dead, .dvec sz2 r2, .dvec sz ds] 1 = .dvec sz2 r2 := rfl
  have at2 : Heap.at [.dead, .dvec sz2 r2, .dvec sz ds] 2 = .dvec sz ds := rfl
  have which : ∀ i, (Heap.at [.dead, .dvec sz2 r2, .dvec sz ds] i).alive → i = 1 ∨ i = 2 := fun i hi => by
    match i, hi with
    | 0, hi => exact hi.elim
    | 1, _ => exact .inl rfl
    | 2, _ => exact .inr rfl
    | i + 3, hi => exact hi.elim
  have f1 : φ' 1 = φ 1 := rfl
  have f2 : φ' 2 = φ k := rfl
  have hown : ∀ b, own φ' [.dead, .dvec sz2 r2, .dvec sz ds] b → own φ H b := fun b ⟨i, o, hi, hb⟩ => by
    rcases which i hi with rfl | rfl
    · exact ⟨1, o, hal1, hb⟩
    · exact ⟨k, o, halk, hb⟩
  have hM : ∀ b, Mb A φ' [.dead, .dvec sz2 r2, .dvec sz ds] b → Mb A φ H b := fun b hb => hb.imp _root_.id (hown b)
  have hdat : ∀ {x : AV} {v : Value} {y : DV}, Rel φ (Mb A φ H) w x v → x = .d y → Rel φ' (Mb A φ' [.dead, .dvec sz2 r2, .dvec sz ds]) w (.d y) v := fun h e => by
    subst e
    cases h with
    | d _ _ h => exact .d _ _ (h.less hM)
  refine ⟨φ', ⟨⟨fun i b o hb => ?_, fun i s rows hi hr => ?_, fun i j b o o' hi hj hb hb' => ?_, hs.heap.amb, fun b hA ho => hs.heap.apart b hA (hown b ho), fun i b o hi hb => ?_, hs.heap.tab.less hM⟩, hs.size, hs.defs, fun t => ?_⟩,
    ⟨fun i hi => by show (if i = 2 then _ else _) = _; rw [if_neg (by omega), if_pos hi], Pres.refl _ _, fun b hb => .inl (hown b hb)⟩⟩
  · show i < 3 ∧ _
    have hb : (if i = 2 then φ k else if i < 2 then φ i else none) = some (b, o) := hb
    split at hb
    · exact ⟨by omega, (hs.heap.dom _ _ _ hb).2⟩
    · split at hb
      · exact ⟨by omega, (hs.heap.dom _ _ _ hb).2⟩
      · cases hb
  · rcases which i (HO.alive_rows.2 ⟨_, _, hi⟩) with rfl | rfl
    · rw [at1] at hi
      exact hs.heap.there 1 s rows (by rw [h1]; exact hi) hr
    · rw [at2] at hi
      simp only [HO.rows, Option.some.injEq, Prod.mk.injEq] at hi
      obtain ⟨rfl, rfl⟩ := hi
      exact hs.heap.there k sz R hk (fun e => by
        subst e
        simp at hle
        simp at hr
        exact hr (List.length_eq_zero_iff.1 (by omega)))
  · rcases which i hi with rfl | rfl <;> rcases which j hj with rfl | rfl
    · rfl
    · exact absurd (hs.heap.inj 1 k b o o' hal1 halk hb hb').symm hne
    · exact absurd (hs.heap.inj k 1 b o o' halk hal1 hb hb') hne
    · rfl
  · rcases which i hi with rfl | rfl
    · intro s rows hro
      obtain ⟨c, T, e1, e2, e3, e4⟩ := hs.heap.objs 1 b o hal1 hb s rows (by rw [h1]; exact hro)
      refine ⟨c, T, e1, e2, e3, fun i r j x hr hx => ?_⟩
      obtain ⟨v, hv, hrel⟩ := e4 i r j x hr hx
      rw [at1] at hro
      simp only [HO.rows, Option.some.injEq, Prod.mk.injEq] at hro
      obtain ⟨rfl, rfl⟩ := hro
      rw [List.getElem?_map, Option.map_eq_some_iff] at hr
      obtain ⟨r', hr', rfl⟩ := hr
      rw [List.getElem?_map, Option.map_eq_some_iff] at hx
      obtain ⟨x', hx', rfl⟩ := hx
      exact ⟨v, hv, hdat hrel rfl⟩
    · intro s rows hro
      obtain ⟨c, T, e1, e2, e3, e4⟩ := hs.heap.objs k b o halk hb sz R hk
      rw [at2] at hro
      simp only [HO.rows, Option.some.injEq, Prod.mk.injEq] at hro
      obtain ⟨rfl, rfl⟩ := hro
      have hmem : ∀ i r, (ds.map (·.map AV.d))[i]? = some r → R[i]? = some r := fun i r hr => by
        rw [← hR, List.getElem?_take] at hr
        split at hr
        · exact hr
        · cases hr
      refine ⟨c, T, e1, ?_, fun r hr => ?_, fun i r j x hr hx => ?_⟩
      · have : ds.length * sz ≤ R.length * sz := Nat.mul_le_mul_right _ (by omega)
        simp only [List.length_map]; omega
      · obtain ⟨i, hi, rfl⟩ := List.mem_iff_getElem.1 hr
        exact e3 _ (List.mem_of_getElem? (hmem i _ (List.getElem?_eq_getElem hi)))
      · obtain ⟨v, hv, hrel⟩ := e4 i r j x (hmem i r hr) hx
        rw [List.getElem?_map, Option.map_eq_some_iff] at hr
        obtain ⟨r', hr', rfl⟩ := hr
        rw [List.getElem?_map, Option.map_eq_some_iff] at hx
        obtain ⟨x', hx', rfl⟩ := hx
        exact ⟨v, hv, hdat hrel rfl⟩
  · have := hs.slots t
    cases t with
    | succ t => exact .undef _
    | zero =>
      have h0 : Rel φ (Mb A φ H) w (.ref k sz 0 m room) (a.tmps.getD 0 undef) := this
      show Rel φ' _ w (.ref 2 sz 0 m true) _
      generalize a.tmps.getD 0 undef = v at h0
      cases h0 with
      | ref0 _ _ _ _ a => exact .ref0 _ _ _ _ _
      | ref _ _ _ _ b o cap _ c T hb hcap hroom hheap hfit => exact .ref 2 sz 0 m b o cap true c T hb hcap (fun h => by cases h) hheap hfit

/-- Rows of ours, with what lies behind them as far as they may grow. -/
def capRows (sz c : Nat) (rows : List (List DV)) : List (List AV) := rows.map (·.map .d) ++ List.replicate (c - rows.length) (List.replicate sz .undef)

theorem ACalls.ofCap {P : Program} {f : FuncId} {sz : Nat} {rows : List (List DV)} {as : List AV} {os : Heap} {Post : AV → Heap → Prop} (hne : rows ≠ [])
    (h : ∀ c, rows.length ≤ c → ACalls P f (.rcap 0 sz 0 rows.length c :: as) (.vec sz (capRows sz c rows) :: os) Post) :
    ACalls P f (.ref 0 sz 0 rows.length true :: as) (.dvec sz rows :: os) Post := by
  refine ⟨(h rows.length (Nat.le_refl _)).1, fun A φ w vals hs hz hrel => ?_⟩
  have h0 : 0 < vals.size := by rw [hz]; simp
  have hr0 := hrel 0 _ _ rfl (Array.getElem?_eq_getElem h0)
  have key : ∃ b o cap c T, φ 0 = some (b, o) ∧ rows.length ≤ cap ∧ w.heap[b]? = some (.cells c T (0, 0)) ∧ o + (0 + cap) * sz ≤ c.size ∧ vals[0] = .slice (some ⟨b, o + 0 * sz, none⟩) rows.length cap := by
    generalize vals[0] = v at hr0
    generalize hn : rows.length = n at hr0
    cases hr0 with
    | ref0 _ _ _ _ a => exact absurd (List.length_eq_zero_iff.1 hn) hne
    | ref _ _ _ _ b o cap _ c T hb hcap hroom hheap hfit => exact ⟨b, o, cap, c, T, hb, hcap, hheap, hfit, rfl⟩
  obtain ⟨b, o, cap, c, T, hb, hcap, hheap, hfit, hv⟩ := key
  have hat : ∀ i, (Heap.at (.vec sz (capRows sz cap rows) :: os) i).alive ↔ (Heap.at (.dvec sz rows :: os) i).alive := fun i => by cases i <;> exact Iff.rfl
  have hown : ∀ b, own φ (.vec sz (capRows sz cap rows) :: os) b ↔ own φ (.dvec sz rows :: os) b := fun b =>
    ⟨fun ⟨i, o, hi, hb⟩ => ⟨i, o, (hat i).1 hi, hb⟩, fun ⟨i, o, hi, hb⟩ => ⟨i, o, (hat i).2 hi, hb⟩⟩
  have hMe : Mb A φ (.vec sz (capRows sz cap rows) :: os) = Mb A φ (.dvec sz rows :: os) := funext fun b => propext ⟨fun h => h.imp _root_.id (hown b).1, fun h => h.imp _root_.id (hown b).2⟩
  have hs' : SimH P A φ (.vec sz (capRows sz cap rows) :: os) w := by
    refine ⟨hs.dom, fun i s r hi hr => ?_, fun i j b o o' hi hj => hs.inj i j b o o' ((hat i).1 hi) ((hat j).1 hj), hs.amb, fun b hA ho => hs.apart b hA ((hown b).1 ho), fun i b' o' hi hb' => ?_, ?_⟩
    · cases i with
      | zero => exact ⟨b, o, hb⟩
      | succ i => exact hs.there (i + 1) s r hi hr
    · show RelO φ (Mb A φ (.vec sz (capRows sz cap rows) :: os)) w b' o' _
      rw [hMe]
      cases i with
      | succ i => exact hs.objs (i + 1) b' o' hi hb'
      | zero =>
        rw [hb] at hb'; cases hb'
        intro s r hr
        have hr : some (sz, capRows sz cap rows) = some (s, r) := hr
        simp only [Option.some.injEq, Prod.mk.injEq] at hr
        obtain ⟨rfl, rfl⟩ := hr
        obtain ⟨c1, T1, e1, e2, e3, e4⟩ := hs.objs 0 b o trivial hb sz _ rfl
        rw [hheap] at e1; cases e1
        have hl : (capRows sz cap rows).length = cap := by simp [capRows]; omega
        refine ⟨c, T, hheap, by rw [hl]; simpa using hfit, fun r hr => ?_, fun i r j x hr hx => ?_⟩
        · rcases List.mem_append.1 hr with hr | hr
          · exact e3 r hr
          · rw [(List.mem_replicate.1 hr).2, List.length_replicate]
        · by_cases hi : i < rows.length
          · refine e4 i r j x ?_ hx
            rw [capRows, List.getElem?_append_left (by simpa using hi)] at hr
            exact hr
          · rw [capRows, List.getElem?_append_right (by simp; omega), List.getElem?_replicate] at hr
            split at hr
            · rename_i hlt
              cases hr
              rw [List.getElem?_replicate] at hx
              split at hx
              · rename_i hj
                cases hx
                simp only [List.length_map] at hlt
                have : i * sz + j < cap * sz := by
                  have := Nat.mul_le_mul_right sz (show i + 1 ≤ cap by omega)
                  rw [Nat.add_mul, Nat.one_mul] at this; omega
                have hlt2 : o + i * sz + j < c.size := by simp at hfit; omega
                exact ⟨c[o + i * sz + j], Array.getElem?_eq_getElem hlt2, .undef _⟩
              · cases hx
            · cases hr
    · show TabIn P (Mb A φ (.vec sz (capRows sz cap rows) :: os)) w
      rw [hMe]; exact hs.tab
  refine ((h cap hcap).2 A φ w vals hs' (by simpa using hz) (fun i x v h1 h2 => ?_)).mono ?_
  · rw [hMe]
    cases i with
    | zero =>
      rw [Array.getElem?_eq_getElem h0] at h2
      simp only [List.getElem?_cons_zero, Option.some.injEq] at h1 h2
      subst h1; subst h2
      rw [hv]
      exact .rcap 0 sz 0 rows.length b o cap c T hb hcap hheap hfit
    | succ i => exact hrel (i + 1) x v h1 h2
  rintro e w' ⟨v, r, H', φ', h1, h2, h3, h4, h5⟩
  refine ⟨v, r, H', φ', h1, h2, h3, h4, ⟨h5.ids, ?_, fun b hb => (h5.mono b hb).imp (hown b).1 _root_.id⟩⟩
  have hoe : own φ (.vec sz (capRows sz cap rows) :: os) = own φ (.dvec sz rows :: os) := funext fun b => propext (hown b)
  rw [← hoe]; exact h5.pres

theorem Heap.at_left {H G : Heap} {j : Nat} (h : j < H.length) : Heap.at (H ++ G) j = H.at j := by
  unfold Heap.at
  rw [List.getD_eq_getElem?_getD, List.getElem?_append_left h, List.getD_eq_getElem?_getD]
theorem Heap.at_end {H G : Heap} {o : HO} {n : Nat} (h : H.length = n) : Heap.at (H ++ o :: G) n = o := by
  unfold Heap.at
  rw [List.getD_eq_getElem?_getD, List.getElem?_append_right (by omega), h]; simp

/-- What is known of slices.Insert with one element more: the rows and the element are handed over, and new rows come back. -/
structure EfI where
  A : Type
  args : A → Nat → Nat → List AV
  sz : Nat
  rows : A → List (List DV)
  rows2 : A → List (List DV)
  ok : A → Prop
  rows' : A → List (List DV)

def EfI.fits (e : EfI) (p : e.A × Nat × Nat) (args : List AV) (H : Heap) : Prop := e.args p.1 p.2.1 p.2.2 = args ∧ H.at p.2.1 = .dvec e.sz (e.rows p.1) ∧ H.at p.2.2 = .dvec e.sz (e.rows2 p.1) ∧ p.2.1 ≠ p.2.2
def EfI.eff (e : EfI) (p : e.A × Nat × Nat) (H : Heap) : Eff := ⟨e.ok p.1, .ref H.length e.sz 0 (e.rows' p.1).length true, [(p.2.1, .dead)], [.dvec e.sz (e.rows' p.1)], some ⟨p.2.1, p.2.2, e.sz, e.rows' p.1, false⟩⟩
open Classical in
noncomputable def EfI.at (e : EfI) (args : List AV) (H : Heap) : Option Eff := if h : ∃ p, e.fits p args H then some (e.eff h.choose H) else none

theorem EfI.at_fits {e : EfI} (hi : ∀ p q args H, e.fits p args H → e.fits q args H → p = q) {p : e.A × Nat × Nat} {args : List AV} {H : Heap} (h : e.fits p args H) : e.at args H = some (e.eff p H) := by
  have h' : ∃ p, e.fits p args H := ⟨p, h⟩
  unfold EfI.at
  rw [dif_pos h', hi _ _ _ _ h'.choose_spec h]

theorem EfI.ok' {P : Program} {e : EfI} {f : FuncId} (hren : ∀ x (ρ : Nat → Nat), e.args x (ρ 0) (ρ 1) = (e.args x 0 1).map (AV.ren ρ))
    (h : ∀ x, e.ok x → ACalls P f (e.args x 0 1) [.dvec e.sz (e.rows x), .dvec e.sz (e.rows2 x)] (RetW 2 (.ref 2 e.sz 0 (e.rows' x).length true) [.dead, .dvec e.sz (e.rows2 x), .dvec e.sz (e.rows' x)])) :
    ∀ args H x, e.at args H = some x → x.ok → ACalls P f args H fun r H' => r = x.val ∧ H' = applyUps H x.ups ++ x.news := by
  intro args H x hx hok
  unfold EfI.at at hx
  split at hx
  case isFalse => cases hx
  rename_i hp
  have hfit := hp.choose_spec
  generalize hp.choose = q at hx hfit
  simp only [Option.some.injEq] at hx
  subst hx
  obtain ⟨x, id, k⟩ := q
  obtain ⟨h1, h2, h3, h4⟩ := hfit
  simp only at h1 h2 h3 h4
  subst h1
  have hlt : id < H.length := Heap.at_lt (H := H) (i := id) (by rw [h2]; trivial)
  have hlt2 : k < H.length := Heap.at_lt (H := H) (i := k) (by rw [h3]; trivial)
  have hcall := ACalls.exactW (h x hok)
  have i0 : into H [id, k] 0 = id := into_lt (by simp)
  have i1 : into H [id, k] 1 = k := into_lt (by simp)
  have i2 : into H [id, k] 2 = H.length := into_ge (by simp)
  have hfr : Framed H [id, k] [.dead, .dvec e.sz (e.rows2 x), .dvec e.sz (e.rows' x)] (H.set id .dead ++ [.dvec e.sz (e.rows' x)]) := by
    refine ⟨by simp, fun j hj hm => ?_, fun i hi => ?_⟩
    · simp only [List.mem_cons, List.not_mem_nil, or_false, not_or] at hm
      rw [Heap.at_left (by simpa using hj), Heap.at_set hlt, if_neg (fun h => hm.1 h.symm)]
    · simp only [List.length_cons, List.length_nil] at hi
      match i, hi with
      | 0, _ =>
        rw [i0]
        rw [Heap.at_left (by simpa using hlt), Heap.at_set hlt, if_pos rfl]; rfl
      | 1, _ =>
        rw [i1]
        rw [Heap.at_left (by simpa using hlt2), Heap.at_set hlt, if_neg h4]
        exact h3
      | 2, _ =>
        rw [i2]
        rw [Heap.at_end (by simp)]; rfl
  have := ACalls.frame (ids := [id, k]) (by simpa using h4) (by simp) (by simp; exact ⟨hlt, hlt2⟩) (by simp) (fun j hj => by
    simp only [List.length_cons, List.length_nil] at hj
    match j, hj with
    | 0, _ => simp only [List.getElem_cons_zero, h2]; rfl
    | 1, _ => simp only [List.getElem_cons_succ, List.getElem_cons_zero, h3]; rfl) hfr hcall
  have e1 : (e.args x 0 1).map (AV.ren (into H [id, k])) = e.args x id k := by rw [← hren x (into H [id, k]), i0, i1]
  rw [e1] at this
  refine this.mono fun r H' ⟨hr, hH⟩ => ⟨?_, hH⟩
  rw [hr]
  simp only [AV.ren, i2, EfI.eff]

/-- What is asked of a body: from the rows as they are, or from the rows with their capacity. -/
structure EfI.Body (e : EfI) (T : Tab) (live : List Nat) (lc : LCode) (rs : List LRes) : Prop where
  ren : ∀ x (ρ : Nat → Nat), e.args x (ρ 0) (ρ 1) = (e.args x 0 1).map (AV.ren ρ)
  body : ∀ x, e.ok x →
    vck T 2 live lc ⟨Z0y 0 (e.args x 0 1), [.dvec e.sz (e.rows x), .dvec e.sz (e.rows2 x)]⟩ (retK rs (RetW 2 (.ref 2 e.sz 0 (e.rows' x).length true) [.dead, .dvec e.sz (e.rows2 x), .dvec e.sz (e.rows' x)])) ∨
    (e.rows x ≠ [] ∧ ∃ as, e.args x 0 1 = .ref 0 e.sz 0 (e.rows x).length true :: as ∧ ∀ c, (e.rows x).length ≤ c →
      vck T 2 live lc ⟨Z0y 0 (.rcap 0 e.sz 0 (e.rows x).length c :: as), [.vec e.sz (capRows e.sz c (e.rows x)), .dvec e.sz (e.rows2 x)]⟩ (retK rs (RetW 2 (.ref 2 e.sz 0 (e.rows' x).length true) [.dead, .dvec e.sz (e.rows2 x), .dvec e.sz (e.rows' x)])))

theorem EfI.Body.calls {P : Program} {T : Tab} (hT : TabOK P T) {e : EfI} {f : FuncId} {fn : Func} {c : Code} {lc : LCode} {rs : List LRes} {live : List Nat} (h : e.Body T live lc rs) (hf : P.funcs[f]? = some fn)
    (hname : (fn.name == "runtime.NumGoroutine") = false) (hb : fn.body = some c) (hl : lowCode P fn.ntmps c = some lc) (hr : lowRess P fn.results.toList = some rs) (ha : ∀ x, (e.args x 0 1).length ≤ fn.ntmps) :
    ∀ x, e.ok x → ACalls P f (e.args x 0 1) [.dvec e.sz (e.rows x), .dvec e.sz (e.rows2 x)] (RetW 2 (.ref 2 e.sz 0 (e.rows' x).length true) [.dead, .dvec e.sz (e.rows2 x), .dvec e.sz (e.rows' x)]) := fun x hok => by
    rcases h.body x hok with hv | ⟨hne, as, e1, hv⟩
    · exact ACalls.of_vck hT live hf hname hb hl hr (ha x) hv
    · rw [e1]
      refine ACalls.ofCap hne fun c hc => ACalls.of_vck hT live hf hname hb hl hr ?_ (hv c hc)
      have := ha x
      rw [e1] at this
      simpa using this
theorem EfI.Body.tab {P : Program} {T T0 : Tab} {e : EfI} {live : List Nat} {lc : LCode} {rs : List LRes} (h : e.Body T live lc rs) (hT : TabOK P T) (hT0 : TabOK P T0) {f : FuncId} {fn : Func} {c : Code} (hf : P.funcs[f]? = some fn)
    (hname : (fn.name == "runtime.NumGoroutine") = false) (hb : fn.body = some c) (hl : lowCode P fn.ntmps c = some lc) (hr : lowRess P fn.results.toList = some rs) (ha : ∀ x, (e.args x 0 1).length ≤ fn.ntmps) : TabOK P (T0.addG f e.at) := by
  have hc := EfI.Body.calls hT h hf hname hb hl hr ha
  refine hT0.addG (EfI.ok' h.ren hc) fun args H x t h1 h2 hok => ?_
  unfold EfI.at at h1
  split at h1
  case isFalse => cases h1
  rename_i hp
  have hfit := hp.choose_spec
  generalize hp.choose = q at h1 hfit
  simp only [Option.some.injEq] at h1
  subst h1
  obtain ⟨x, id, k⟩ := q
  obtain ⟨g1, g2, g3, g4⟩ := hfit
  simp only at g1 g2 g3 g4
  subst g1
  simp only [EfI.eff, Option.some.injEq] at h2
  subst h2
  exact ⟨e.args x 0 1, e.rows x, e.rows2 x, g4, fun n => h.ren x (two n id k), g2, g3, ACalls.exactW (hc x hok)⟩

/-! ### A call that gives objects of its own -/
structure EfN where
  A : Type
  args : A → List AV
  ok : A → Prop
  val : A → AV
  news : A → List HO

def EfN.eff (e : EfN) (x : e.A) (H : Heap) : Eff := ⟨e.ok x, (e.val x).ren (H.length + ·), [], (e.news x).map (HO.ren (H.length + ·)), none⟩
open Classical in
noncomputable def EfN.at (e : EfN) (args : List AV) (H : Heap) : Option Eff := if h : ∃ x, e.args x = args then some (e.eff h.choose H) else none
theorem EfN.at_enc {e : EfN} (hi : ∀ x y, e.args x = e.args y → x = y) (x : e.A) (H : Heap) : e.at (e.args x) H = some (e.eff x H) := by
  have h : ∃ y, e.args y = e.args x := ⟨x, rfl⟩
  unfold EfN.at
  rw [dif_pos h, hi _ _ h.choose_spec]
structure EfN.Body (e : EfN) (T : Tab) (live : List Nat) (lc : LCode) (rs : List LRes) : Prop where
  ren : ∀ x (ρ : Nat → Nat), (e.args x).map (AV.ren ρ) = e.args x
  body : ∀ x, e.ok x → vck T 0 live lc ⟨Z0y 0 (e.args x), []⟩ (retK rs (RetG 0 (e.val x) (e.news x)))
theorem EfN.Body.tab {P : Program} {T T0 : Tab} {e : EfN} {live : List Nat} {lc : LCode} {rs : List LRes} (h : e.Body T live lc rs) (hT : TabOK P T) (hT0 : TabOK P T0) {f : FuncId} {fn : Func} {c : Code} (hf : P.funcs[f]? = some fn)
    (hname : (fn.name == "runtime.NumGoroutine") = false) (hb : fn.body = some c) (hl : lowCode P fn.ntmps c = some lc) (hr : lowRess P fn.results.toList = some rs) (ha : ∀ x, (e.args x).length ≤ fn.ntmps) : TabOK P (T0.addG f e.at) := by
  have hat : ∀ args H x, e.at args H = some x → ∃ y, e.args y = args ∧ x = e.eff y H := fun args H x hx => by
    unfold EfN.at at hx
    split at hx
    · rename_i hp
      exact ⟨hp.choose, hp.choose_spec, by simpa using hx.symm⟩
    · cases hx
  refine hT0.addG (fun args H x hx hok => ?_) fun args H x t hx ht hok => ?_
  · obtain ⟨y, rfl, rfl⟩ := hat _ _ _ hx
    have hcall := ACalls.exact (H0 := []) (ACalls.of_vck hT live hf hname hb hl hr (ha y) (h.body y hok))
    have hge : into H [] = (H.length + ·) := funext fun i => by rw [into_ge (Nat.zero_le _)]; rfl
    have hfr : Framed H [] (e.news y) (H ++ (e.news y).map (HO.ren (H.length + ·))) := by
      refine ⟨by simp, fun j hj _ => Heap.at_left hj, fun i hi => ?_⟩
      rw [hge]
      show Heap.at _ (H.length + i) = _
      unfold Heap.at
      rw [List.getD_eq_getElem?_getD, List.getElem?_append_right (by omega), show H.length + i - H.length = i by omega, List.getElem?_map, List.getElem?_eq_getElem hi, List.getD_eq_getElem?_getD, List.getElem?_eq_getElem hi]; rfl
    have := ACalls.frame (ids := []) (by simp) rfl (by simp) (by simp) (fun k hk => by simp at hk) hfr hcall
    rw [h.ren, hge] at this
    exact this
  · obtain ⟨y, rfl, rfl⟩ := hat _ _ _ hx
    cases ht

end Go.Ago

/- An object of ours that nobody changes any more is said as data from here on. Conditions: none. -/
set_option linter.unusedSimpArgs false
set_option linter.unusedVariables false
namespace Go.Ago

mutual
/-- A value, when the rows of object 'id' are data. -/
def AV.ice (id sz0 : Nat) (rows : List (List DV)) : AV → AV
  | .undef => .undef
  | .d x => .d x
  | .agg cs => .agg (AV.iceL id sz0 rows cs)
  | .tup cs => .tup (AV.iceL id sz0 rows cs)
  | .ptr i sz row j => if i = id then (if sz = sz0 then (match rows[row]? with | some r => .dptr r j | none => .undef) else .undef) else .ptr i sz row j
  | .dptr cs j => .dptr cs j
  | .ref i sz row len room => if i = id then (if sz = sz0 ∧ row + len ≤ rows.length then .d (.list ((rows.drop row).take len) (!room)) else .undef) else .ref i sz row len room
  | .clo f caps => .clo f (AV.iceL id sz0 rows caps)
  | .rcap i sz row len cap => if i = id then .undef else .rcap i sz row len cap
def AV.iceL (id sz0 : Nat) (rows : List (List DV)) : List AV → List AV
  | [] => []
  | x :: xs => AV.ice id sz0 rows x :: AV.iceL id sz0 rows xs
end

theorem AV.iceL_map (id sz0 : Nat) (rows : List (List DV)) (xs : List AV) : AV.iceL id sz0 rows xs = xs.map (AV.ice id sz0 rows) := by
  induction xs with
  | nil => simp [AV.iceL]
  | cons x xs ih => simp [AV.iceL, ih]

/-- Rows, when those of an object are data. -/
def iceRows (id sz0 : Nat) (rows : List (List DV)) (l : List (List AV)) : List (List AV) := l.map fun r => AV.iceL id sz0 rows r

def HO.ice (id sz0 : Nat) (rows : List (List DV)) : HO → HO
  | .dead => .dead
  | .dvec sz l => .dvec sz l
  | .vec sz l => Z4f sz (iceRows id sz0 rows l)

/-- The rows of an object, as data. -/
def HO.data : HO → Option (Nat × List (List DV))
  | .dead => none
  | .dvec sz l => some (sz, l)
  | .vec sz l => (drows l).map fun ds => (sz, ds)

theorem HO.data_rows {o : HO} {sz : Nat} {ds : List (List DV)} (h : o.data = some (sz, ds)) : o.rows = some (sz, ds.map (·.map .d)) := by
  cases o with
  | dead => simp [HO.data] at h
  | dvec sz' l => simp [HO.data] at h; obtain ⟨rfl, rfl⟩ := h; rfl
  | vec sz' l =>
    simp only [HO.data, Option.map_eq_some_iff] at h
    obtain ⟨ds', h1, h2⟩ := h
    simp at h2; obtain ⟨rfl, rfl⟩ := h2
    rw [HO.rows, drows_map _ _ h1]

def Z42 (id sz0 : Nat) (rows : List (List DV)) : Nat → Heap → Heap
  | _, [] => []
  | i, o :: os => (if i = id then .dead else o.ice id sz0 rows) :: Z42 id sz0 rows (i + 1) os

theorem iceHeap_at (id sz0 : Nat) (rows : List (List DV)) : ∀ (H : Heap) (k i : Nat), (Z42 id sz0 rows k H).at i = if k + i = id then .dead else (H.at i).ice id sz0 rows := by
  intro H
  induction H with
  | nil => intro k i; simp [Z42, Heap.at, HO.ice]
  | cons o os ih =>
    intro k i
    cases i with
    | zero => simp [Z42, Heap.at]
    | succ i =>
      have := ih (k + 1) i
      simp only [Heap.at] at this
      simp only [Z42, Heap.at, List.getD_cons_succ, this, show k + 1 + i = k + (i + 1) by omega]

theorem iceHeap_len (id sz0 : Nat) (rows : List (List DV)) : ∀ (H : Heap) (k : Nat), (Z42 id sz0 rows k H).length = H.length := by
  intro H
  induction H with
  | nil => intro k; rfl
  | cons o os ih => intro k; simp [Z42, ih]

def iceEnv (id sz0 : Nat) (rows : List (List DV)) : Env → Env
  | [] => []
  | (t, x) :: e => (t, x.ice id sz0 rows) :: iceEnv id sz0 rows e

theorem iceEnv_get (id sz0 : Nat) (rows : List (List DV)) : ∀ (e : Env) (t : Nat), (iceEnv id sz0 rows e).get t = (e.get t).ice id sz0 rows := by
  intro e
  induction e with
  | nil => intro t; simp [iceEnv, Env.get, AV.ice]
  | cons p e ih =>
    intro t
    obtain ⟨t0, x⟩ := p
    simp only [iceEnv, Env.get]
    split
    · rfl
    · exact ih t

/-- A state in which object 'id' is data. -/
def State.ice (id : Nat) (S : State) : State :=
  match (S.heap.at id).data with
  | some (sz0, rows) => ⟨iceEnv id sz0 rows S.env, Z42 id sz0 rows 0 S.heap⟩
  | none => S

theorem HO.ice_rows {id sz0 : Nat} {rows : List (List DV)} {o : HO} {sz : Nat} {l : List (List AV)} (h : (o.ice id sz0 rows).rows = some (sz, l)) :
    ∃ l0, o.rows = some (sz, l0) ∧ l = l0.map (·.map (AV.ice id sz0 rows)) := by
  cases o with
  | dead => simp [HO.ice, HO.rows] at h
  | dvec sz' r =>
    simp only [HO.ice, HO.rows, Option.some.injEq, Prod.mk.injEq] at h
    obtain ⟨rfl, rfl⟩ := h
    refine ⟨_, rfl, ?_⟩
    rw [List.map_map]
    refine List.map_congr_left fun x _ => ?_
    rw [Function.comp, List.map_map]
    exact List.map_congr_left fun y _ => by simp [AV.ice]
  | vec sz' r =>
    simp only [HO.ice, mkVec_rows, Option.some.injEq, Prod.mk.injEq] at h
    obtain ⟨rfl, rfl⟩ := h
    exact ⟨_, rfl, by rw [iceRows]; exact List.map_congr_left fun x _ => AV.iceL_map _ _ _ _⟩

theorem ice_says {n0 id : Nat} {S : State} : Says n0 S (S.ice id) := by
  intro P A n φ a w hs
  unfold State.ice
  split
  case h_2 => exact Says.refl P A n φ a w hs
  rename_i sz0 rows hd
  have hro := HO.data_rows hd
  have hal : (S.heap.at id).alive := HO.alive_rows.2 ⟨_, _, hro⟩
  have hat : ∀ i, (Z42 id sz0 rows 0 S.heap).at i = if i = id then .dead else (S.heap.at i).ice id sz0 rows := fun i => by rw [iceHeap_at, Nat.zero_add]
  have halive : ∀ i, ((Z42 id sz0 rows 0 S.heap).at i).alive → i ≠ id ∧ (S.heap.at i).alive := fun i hi => by
    rw [hat] at hi
    split at hi
    · exact hi.elim
    · refine ⟨by assumption, ?_⟩
      obtain ⟨sz, l, h⟩ := HO.alive_rows.1 hi
      obtain ⟨l0, h0, _⟩ := HO.ice_rows h
      exact HO.alive_rows.2 ⟨_, _, h0⟩
  have hown : ∀ b, own φ (Z42 id sz0 rows 0 S.heap) b → own φ S.heap b := fun b ⟨i, o, hi, hb⟩ => ⟨i, o, (halive i hi).2, hb⟩
  have hM : ∀ b, Mb A φ (Z42 id sz0 rows 0 S.heap) b → Mb A φ S.heap b := fun b hb => hb.imp _root_.id (hown b)
  have hid : ∀ b o, φ id = some (b, o) → ¬ Mb A φ (Z42 id sz0 rows 0 S.heap) b := by
    rintro b o hb (hA | ⟨i, o', hi, hb'⟩)
    · exact hs.heap.apart b hA ⟨id, o, hal, hb⟩
    · exact (halive i hi).1 (hs.heap.inj i id b o' o (halive i hi).2 hal hb' hb)
  obtain ⟨c0, T0, hcells⟩ : ∃ (c0 : Unit) (T0 : Unit), ∀ b o, φ id = some (b, o) → ∃ c T, w.heap[b]? = some (.cells c T (0, 0)) ∧ (∀ r ∈ rows, r.length = sz0) ∧
      ∀ (i : Nat) (r : List DV) (j : Nat) (x : DV), rows[i]? = some r → r[j]? = some x → ∃ v, c[o + i * sz0 + j]? = some v ∧ RelD (Mb A φ (Z42 id sz0 rows 0 S.heap)) w x v := by
    refine ⟨(), (), fun b o hb => ?_⟩
    obtain ⟨c, T, e1, e2, e3, e4⟩ := hs.heap.objs id b o hal hb sz0 _ hro
    refine ⟨c, T, e1, fun r hr => ?_, fun i r j x hi hx => ?_⟩
    · have := e3 (r.map .d) (List.mem_map_of_mem hr)
      simpa using this
    · obtain ⟨v, hv, hrel⟩ := e4 i (r.map .d) j (.d x) (by simp [hi]) (by simp [hx])
      cases hrel with
      | d _ _ h => exact ⟨v, hv, h.less hM⟩
  have tr : ∀ {x : AV} {v : Value}, Rel φ (Mb A φ S.heap) w x v → Rel φ (Mb A φ (Z42 id sz0 rows 0 S.heap)) w (x.ice id sz0 rows) v := by
    intro x v h
    induction h with
    | undef v => simp only [AV.ice]; exact .undef v
    | d x v h => simp only [AV.ice]; exact .d x v (h.less hM)
    | agg cells vs hl h ih =>
      simp only [AV.ice, AV.iceL_map]
      refine .agg _ vs (by simpa using hl) fun i x v h1 h2 => ?_
      rw [List.getElem?_map, Option.map_eq_some_iff] at h1
      obtain ⟨y, h1, rfl⟩ := h1
      exact ih i y v h1 h2
    | tup cells vs hl h ih =>
      simp only [AV.ice, AV.iceL_map]
      refine .tup _ vs (by simpa using hl) fun i x v h1 h2 => ?_
      rw [List.getElem?_map, Option.map_eq_some_iff] at h1
      obtain ⟨y, h1, rfl⟩ := h1
      exact ih i y v h1 h2
    | clo f cells vs hl h ih =>
      simp only [AV.ice, AV.iceL_map]
      refine .clo f _ vs (by simpa using hl) fun i x v h1 h2 => ?_
      rw [List.getElem?_map, Option.map_eq_some_iff] at h1
      obtain ⟨y, h1, rfl⟩ := h1
      exact ih i y v h1 h2
    | rcap i sz row len b o cap c T hb hcap hheap hfit =>
      simp only [AV.ice]
      split
      · exact .undef _
      · exact .rcap i sz row len b o cap c T hb hcap hheap hfit
    | dptr cs j b off f hlt hm hc hr => simp only [AV.ice]; exact .dptr cs j b off f hlt (fun h => hm (hM b h)) hc fun i x h1 => (hr i x h1).less hM
    | ptr i sz row j b o hb =>
      simp only [AV.ice]
      split
      · rename_i e; subst e
        split
        · rename_i e; subst e
          split
          · rename_i r hr
            obtain ⟨c, T, g1, g2, g3⟩ := hcells b o hb
            refine .dptr (off := o + row * sz) r j b (fun k => (c[o + row * sz + k]?).getD undef) (hs.heap.dom _ b o hb).2 (hid b o hb) (fun k x hx => ?_) (fun k x hx => ?_)
            · obtain ⟨v, hv, _⟩ := g3 row r k x hr hx
              rw [cell_block g1, hv]; rfl
            · obtain ⟨v, hv, h⟩ := g3 row r k x hr hx
              rw [hv]; exact h
          · exact .undef _
        · exact .undef _
      · exact .ptr i sz row j b o hb
    | ref0 i sz row room a =>
      simp only [AV.ice]
      split
      · split
        · have : (rows.drop row).take 0 = [] := by simp
          rw [this]; exact .d _ _ (.nil _ _ _ (fun _ => rfl))
        · exact .undef _
      · exact .ref0 _ _ _ _ _
    | ref i sz row len b o cap room c T hb hcap hroom hheap hfit =>
      simp only [AV.ice]
      split
      · rename_i e; subst e
        split
        · rename_i e
          obtain ⟨rfl, hle⟩ := e
          obtain ⟨c1, T1, g1, g2, g3⟩ := hcells b o hb
          have hlen : ((rows.drop row).take len).length = len := by simp; omega
          have hget : ∀ (k : Nat) (r : List DV) (j : Nat) (x : DV), ((rows.drop row).take len)[k]? = some r → r[j]? = some x → ∃ v, c1[o + row * sz + (k * sz + j)]? = some v ∧ RelD (Mb A φ (Z42 i sz rows 0 S.heap)) w x v := by
            intro k r j x hi hx
            obtain ⟨hi', _⟩ := drop_take_get hi
            obtain ⟨v, hv, hrel⟩ := g3 (row + k) r j x hi' hx
            refine ⟨v, ?_, hrel⟩
            rw [Nat.add_mul] at hv
            rw [← hv]; congr 1; omega
          have := RelD.list (M := Mb A φ (Z42 i sz rows 0 S.heap)) (w := w) ((rows.drop row).take len) (!room) sz b (o + row * sz) cap (fun k j => (c1[o + row * sz + (k * sz + j)]?).getD undef) (hs.heap.dom _ b o hb).2 (hid b o hb)
            (fun r hr => g2 r (List.mem_of_mem_drop (List.mem_of_mem_take hr))) (by rw [hlen]; exact hcap)
            (fun h => by rw [hlen]; exact hroom (by simpa using h)) (fun k r j x hi hx => by
              obtain ⟨v, hv, _⟩ := hget k r j x hi hx
              rw [cell_block g1, hv]; rfl) (fun k r j x hi hx => by
              obtain ⟨v, hv, hrel⟩ := hget k r j x hi hx
              rw [hv]; exact hrel)
          rw [hlen] at this
          exact .d _ _ this
        · exact .undef _
      · exact .ref i sz row len b o cap room c T hb hcap hroom hheap hfit
  refine ⟨φ, ⟨⟨?_, ?_, ?_, hs.heap.amb, fun b hA ho => hs.heap.apart b hA (hown b ho), ?_, hs.heap.tab.less hM⟩, hs.size, hs.defs, ?_⟩, ⟨fun i hi => rfl, Pres.refl _ _, fun b hb => .inl (hown b hb)⟩⟩
  · intro i b o hb
    rw [show (State.heap ⟨iceEnv id sz0 rows S.env, Z42 id sz0 rows 0 S.heap⟩) = Z42 id sz0 rows 0 S.heap from rfl, iceHeap_len]
    exact hs.heap.dom i b o hb
  · intro i sz l hi hne
    rw [show (State.heap ⟨iceEnv id sz0 rows S.env, Z42 id sz0 rows 0 S.heap⟩) = Z42 id sz0 rows 0 S.heap from rfl, hat] at hi
    split at hi
    · simp [HO.rows] at hi
    · obtain ⟨l0, h0, rfl⟩ := HO.ice_rows hi
      exact hs.heap.there i sz l0 h0 (by simpa using hne)
  · intro i j b o o' hi hj h1 h2
    exact hs.heap.inj i j b o o' (halive i hi).2 (halive j hj).2 h1 h2
  · intro i b o hi hb sz l hl
    rw [show (State.heap ⟨iceEnv id sz0 rows S.env, Z42 id sz0 rows 0 S.heap⟩) = Z42 id sz0 rows 0 S.heap from rfl] at hi hl
    rw [hat, if_neg (halive i hi).1] at hl
    obtain ⟨l0, h0, rfl⟩ := HO.ice_rows hl
    obtain ⟨c, T, e1, e2, e3, e4⟩ := hs.heap.objs i b o (halive i hi).2 hb sz l0 h0
    refine ⟨c, T, e1, by simpa using e2, fun r hr => ?_, fun k r j x hk hx => ?_⟩
    · obtain ⟨r0, hr0, rfl⟩ := List.mem_map.1 hr
      simpa using e3 r0 hr0
    · rw [List.getElem?_map, Option.map_eq_some_iff] at hk
      obtain ⟨r0, hk, rfl⟩ := hk
      rw [List.getElem?_map, Option.map_eq_some_iff] at hx
      obtain ⟨x0, hx, rfl⟩ := hx
      obtain ⟨v, hv, hrel⟩ := e4 k r0 j x0 hk hx
      exact ⟨v, hv, tr hrel⟩
  · intro t
    show Rel φ _ w ((iceEnv id sz0 rows S.env).get t) _
    rw [iceEnv_get]
    exact tr (hs.slots t)

/-- Objects that are data from here on, one after the other. -/
def State.ices : List Nat → State → State
  | [], S => S
  | i :: is, S => State.ices is (S.ice i)

theorem ices_says {n0 : Nat} : ∀ (is : List Nat) (S : State), Says n0 S (S.ices is)
  | [], S => Says.refl
  | i :: is, S => ice_says.trans (ices_says is (S.ice i))

theorem ice_len (id : Nat) (S : State) : (S.ice id).heap.length = S.heap.length := by
  unfold State.ice; split
  · exact iceHeap_len _ _ _ _ _
  · rfl

theorem ices_len : ∀ (is : List Nat) (S : State), (S.ices is).heap.length = S.heap.length
  | [], S => rfl
  | i :: is, S => (ices_len is (S.ice i)).trans (ice_len i S)

theorem Z0r.ices {α : Type} {L : List Nat} {st : α → State} {Inv : α → Prop} {m : α → Nat} {k : Nat} {S : State} (is : List Nat) (h : Z0r L st Inv m k (S.ices is)) : Z0r L st Inv m k S :=
  Z0r.says (ices_says is S) h

theorem Loop.ices {T : Tab} {n0 : Nat} {live : List Nat} {b : LCode} {S : State} {K : AExit → State → Prop} (is : List Nat) (hl : n0 ≤ S.heap.length) (h : Loop T n0 live b (S.ices is) K) : Loop T n0 live b S K :=
  Loop.says (ices_says is S) (by rw [ices_len]; exact hl) h

/-! ### Rules -/
theorem iceRows_d (id sz0 : Nat) (rows l : List (List DV)) : iceRows id sz0 rows (l.map (·.map .d)) = l.map (·.map .d) := by
  unfold iceRows
  rw [List.map_map]
  refine List.map_congr_left fun x _ => ?_
  rw [Function.comp, AV.iceL_map, List.map_map]
  exact List.map_congr_left fun y _ => by simp [AV.ice]
theorem iceRows_app (id sz0 : Nat) (rows : List (List DV)) (a b : List (List AV)) : iceRows id sz0 rows (a ++ b) = iceRows id sz0 rows a ++ iceRows id sz0 rows b := by simp [iceRows]
theorem Z3h (id sz0 : Nat) (rows : List (List DV)) : iceRows id sz0 rows [] = [] := rfl
theorem Z33 (id sz0 : Nat) (rows : List (List DV)) (r : List AV) (l : List (List AV)) : iceRows id sz0 rows (r :: l) = AV.iceL id sz0 rows r :: iceRows id sz0 rows l := rfl
theorem dcells_d (l : List DV) : Z39 (l.map .d) = some l := by
  induction l with
  | nil => rfl
  | cons x l ih => simp [Z39, ih]
theorem drows_d (l : List (List DV)) : drows (l.map (·.map .d)) = some l := by
  induction l with
  | nil => rfl
  | cons x l ih => simp [drows, ih, dcells_d]
theorem mkVec_some {sz : Nat} {l : List (List AV)} {ds : List (List DV)} (h : drows l = some ds) : Z4f sz l = .dvec sz ds := by simp [Z4f, h]


/-! ### Rows of data, said as rows of cells -/
def HO.thaw : HO → HO
  | .dvec sz l => .vec sz (l.map (·.map .d))
  | o => o
theorem HO.thaw_rows (o : HO) : o.thaw.rows = o.rows := by cases o <;> rfl
theorem thaw_mkVec (sz : Nat) (l : List (List AV)) : (Z4f sz l).thaw = .vec sz l := by
  unfold Z4f
  cases h : drows l with
  | none => rfl
  | some ds => simp only [HO.thaw, drows_map _ _ h]
def State.thaw (id : Nat) (S : State) : State := ⟨S.env, S.heap.set id ((S.heap.at id).thaw)⟩
theorem thaw_says {n0 id : Nat} {S : State} : Says n0 S (S.thaw id) := by
  intro P A n φ a w hs
  have hat : ∀ i, ((S.thaw id).heap.at i).rows = (S.heap.at i).rows := fun i => by
    by_cases hl : id < S.heap.length
    · show (Heap.at (S.heap.set id _) i).rows = _
      rw [Heap.at_set hl]
      split
      · rename_i e; subst e; exact HO.thaw_rows _
      · rfl
    · show (Heap.at (S.heap.set id _) i).rows = _
      rw [List.set_eq_of_length_le (by omega)]
  have hal : ∀ i, ((S.thaw id).heap.at i).alive ↔ (S.heap.at i).alive := fun i => by rw [HO.alive_rows, HO.alive_rows, hat]
  have hown : own φ (S.thaw id).heap = own φ S.heap := funext fun b => propext ⟨fun ⟨i, o, hi, hb⟩ => ⟨i, o, (hal i).1 hi, hb⟩, fun ⟨i, o, hi, hb⟩ => ⟨i, o, (hal i).2 hi, hb⟩⟩
  have hM : Mb A φ (S.thaw id).heap = Mb A φ S.heap := funext fun b => by show (A b ∨ _) = (A b ∨ _); rw [hown]
  have hl : (S.thaw id).heap.length = S.heap.length := by simp [State.thaw]
  refine ⟨φ, ⟨⟨fun i b o hb => by rw [hl]; exact hs.heap.dom i b o hb, fun i sz r hi => hs.heap.there i sz r (by rw [← hat]; exact hi), fun i j b o o' hi hj => hs.heap.inj i j b o o' ((hal i).1 hi) ((hal j).1 hj), hs.heap.amb, fun b hA => by rw [hown]; exact hs.heap.apart b hA,
    fun i b o hi hb sz r hr => ?_, ?_⟩, hs.size, hs.defs, fun t => ?_⟩, ⟨fun _ _ => rfl, Pres.refl _ _, fun b hb => .inl (by rw [← hown]; exact hb)⟩⟩
  · have := hs.heap.objs i b o ((hal i).1 hi) hb sz r (by rw [← hat]; exact hr)
    show ∃ c T, _
    have e : (fun b => A b ∨ own φ (S.thaw id).heap b) = (fun b => A b ∨ own φ S.heap b) := by rw [hown]
    rw [e]; exact this
  · have e : (fun b => A b ∨ own φ (S.thaw id).heap b) = (fun b => A b ∨ own φ S.heap b) := by rw [hown]
    rw [e]; exact hs.heap.tab
  · rw [hM]; exact hs.slots t
theorem Z0r.thaw {α : Type} {L : List Nat} {st : α → State} {Inv : α → Prop} {m : α → Nat} {k : Nat} {S : State} (id : Nat) (h : Z0r L st Inv m k (S.thaw id)) : Z0r L st Inv m k S := Z0r.says thaw_says h
theorem Loop.thaw {T : Tab} {n0 : Nat} {live : List Nat} {b : LCode} {S : State} {K : AExit → State → Prop} (id : Nat) (hl : n0 ≤ S.heap.length) (h : Loop T n0 live b (S.thaw id) K) : Loop T n0 live b S K :=
  Loop.says thaw_says (by simpa [State.thaw] using hl) h

end Go.Ago

/- The contracts of package rat. Conditions: none. -/
set_option maxRecDepth 100000
set_option linter.unusedSimpArgs false
set_option linter.unusedVariables false
namespace Go.Ago

def Z47 (a b : Int) : Bool := decide (1 ≤ b) && decide (b ≤ 1024) && decide (-1048576 ≤ a) && decide (a ≤ 1048576)

theorem right_iff {a b : Int} : Z47 a b = true ↔ 1 ≤ b ∧ b ≤ 1024 ∧ -1048576 ≤ a ∧ a ≤ 1048576 := by simp [Z47, and_assoc]

theorem wrap_id {n : Int} (h : -9223372036854775808 ≤ n) (h' : n ≤ 9223372036854775807) : IntKind.wrap .i64 n = n := by
  simp [IntKind.wrap, IntKind.signed, IntKind.bits]
  split <;> omega

def sp_rat_Right : Sp := ⟨Int × Int, fun x => [.agg [.d (.int .i64 x.1), .d (.int .i64 x.2)]], fun x => .data True (.d (.bool (Z47 x.1 x.2))) true⟩
theorem at_rat_Right (a b : Int) : sp_rat_Right.at [.agg [.d (.int .i64 a), .d (.int .i64 b)]] = .data True (.d (.bool (Z47 a b))) true :=
  Sp.at_enc (s := sp_rat_Right) (fun x y h => by obtain ⟨a, b⟩ := x; obtain ⟨c, d⟩ := y; simpa [sp_rat_Right] using h) (a, b)

theorem body_rat_Right {T : Tab} : sp_rat_Right.Body T V_rat_Right L_rat_Right R_rat_Right := by
  rintro ⟨a, b⟩ -
  refine .inl ⟨rfl, ?_⟩
  unfold V_rat_Right L_rat_Right R_rat_Right
  simp only [↓Z10, ↓Z04, ↓Z0p, ↓Z0a, ↓Z0o, ↓Z0n, ↓Z1p, ↓Z0i, ↓Z0c, ↓Z0b, Z2m, Z05, Z17, Z12, Z1b, evN, Z0m, Z1a, Z0l, Z0e, Z0k, Z1s, evT, Opd.ev, Z03, Z00, Z18, Z1k, Z1h, Z0u, Z0y, Z0d, Z1t, LOp.isNew, State.prune, Z1j, Z1d, AV.leaf, Heap.at, Z06, Z02, Z2p, Z3a, Z32, binT, binQ, Bool.and_self, resQ, resV, resT, Z4n, RetS, AV.d.injEq, DV.bool.injEq, ↓reduceIte, Nat.reduceAdd, Nat.reduceBEq, List.length_cons, List.length_nil, List.replicate_succ, List.replicate_zero, List.nil_append, List.append_nil, List.map_cons, List.map_nil, List.all_cons, List.all_nil, List.set_cons_zero, List.getD_cons_zero, List.getD_cons_succ, true_and, and_self, Nat.reduceLT, Nat.zero_add, Nat.add_zero, Bool.false_eq_true, sp_rat_Right]
  simp only [RetS, Z47, AV.d.injEq, DV.bool.injEq]
  refine ⟨fun h1 => ⟨fun h2 => ⟨fun h3 => ?_, fun h3 => ?_⟩, fun h2 => ?_⟩, fun h1 => ?_⟩ <;> simp [*]

def sgn (d : Int) : Int := if d < 0 then -1 else if 0 < d then 1 else 0
def rat_cmp (a b c d : Int) : Int := if Z47 a b && Z47 c d then sgn (a * d - c * b) else 0

theorem mul_bd {a d : Int} (h1 : -1048576 ≤ a) (h2 : a ≤ 1048576) (h3 : 1 ≤ d) (h4 : d ≤ 1024) : -1073741824 ≤ a * d ∧ a * d ≤ 1073741824 := by
  have e1 : a * d ≤ 1048576 * d := Int.mul_le_mul_of_nonneg_right h2 (by omega)
  have e2 : -1048576 * d ≤ a * d := Int.mul_le_mul_of_nonneg_right h1 (by omega)
  omega

def sp_rat_Cmp : Sp := ⟨Int × Int × Int × Int, fun x => [.agg [.d (.int .i64 x.1), .d (.int .i64 x.2.1)], .agg [.d (.int .i64 x.2.2.1), .d (.int .i64 x.2.2.2)]], fun x => .data True (.d (.int .i64 (rat_cmp x.1 x.2.1 x.2.2.1 x.2.2.2))) true⟩
theorem at_rat_Cmp (a b c d : Int) : sp_rat_Cmp.at [.agg [.d (.int .i64 a), .d (.int .i64 b)], .agg [.d (.int .i64 c), .d (.int .i64 d)]] = .data True (.d (.int .i64 (rat_cmp a b c d))) true :=
  Sp.at_enc (s := sp_rat_Cmp) (fun x y h => by obtain ⟨a, b, c, d⟩ := x; obtain ⟨a', b', c', d'⟩ := y; simpa [sp_rat_Cmp, and_assoc] using h) (a, b, c, d)

theorem body_rat_Cmp {T : Tab} {n1 : Nat} (k1 : Knows T n1 sp_rat_Right) : sp_rat_Cmp.Body T V_rat_Cmp (L_rat_Cmp n1) R_rat_Cmp := by
  have F1 := k1.F; have G1 := k1.G
  rintro ⟨a, b, c, d⟩ -
  refine .inl ⟨rfl, ?_⟩
  unfold V_rat_Cmp L_rat_Cmp R_rat_Cmp
  simp only [↓Z0g, ↓Z10, ↓Z04, ↓Z0p, ↓Z0f, ↓Z09, ↓Z0a, ↓Z0o, ↓Z1i, ↓Z14, ↓Z23, ↓Z0n, ↓Z1p, ↓Z0i, ↓Z0c, ↓Z0z, ↓Z0b, Z2m, Z05, Z0q, Z17, Z12, Z1b, evN, Z19, Z0m, Z1a, Z24, Z0l, Z0e, Z0k, Z1q, Z0w, evT, Opd.ev, Z03, Z00, Z18, Z1k, Z1h, Z0u, Z0x, Z0y, Z0d, Z1t, LOp.isNew, State.prune, Z1j, Z1d, AV.leaf, Heap.at, Z06, Z02, Z2p, Z3a, Z32, evUn, binT, binQ, chk, Z2h, Bool.and_self, resQ, resV, resT, Z4n, Z13, Z1y, fnOf, Z1v, isD, Z3u, Z0t, RetS, Nat.le_refl, AV.d.injEq, DV.int.injEq, ↓reduceIte, Nat.reduceAdd, Nat.reduceBEq, List.length_cons, List.length_nil, List.replicate_succ, List.replicate_zero, List.nil_append, List.cons_append, List.append_nil, List.map_cons, List.map_nil, List.all_cons, List.all_nil, List.set_cons_zero, List.set_cons_succ, List.getD_cons_zero, List.getD_cons_succ, List.drop_zero, List.take_succ_cons, List.take_zero, List.flatten_cons, List.flatten_nil, true_and, and_self, Nat.reduceLT, List.reverse_cons, List.reverse_nil, Nat.zero_add, Nat.add_zero, Bool.false_eq_true, sp_rat_Cmp, F1, G1, at_rat_Right, RetS, AV.d.injEq, DV.int.injEq]
  refine ⟨fun h1 => ⟨fun h2 => ?_, fun h2 => by simp [rat_cmp, h1, h2]⟩, fun h1 => by simp [rat_cmp, h1]⟩
  obtain ⟨r1, r2, r3, r4⟩ := right_iff.1 h1
  obtain ⟨s1, s2, s3, s4⟩ := right_iff.1 h2
  have e1 := mul_bd r3 r4 s1 s2
  have e2 := mul_bd s3 s4 r1 r2
  simp only [rat_cmp, h1, h2, sgn, Bool.and_self, if_true, wrap_id (n := a * d) (by omega) (by omega), wrap_id (n := c * b) (by omega) (by omega)]
  generalize a * d = p at *
  generalize c * b = q at *
  refine ⟨fun h => ?_, fun h => ⟨fun h' => ?_, fun h' => ?_⟩⟩
  · rw [if_pos (by omega)]
  · rw [if_neg (by omega), if_pos (by omega)]
  · rw [if_neg (by omega), if_neg (by omega)]

def gcdI (a b : Int) : Int := (Nat.gcd a.natAbs b.natAbs : Nat)

theorem gcdI_step {a b : Int} (ha : 0 ≤ a) (hb : 0 ≤ b) : gcdI b (a.tmod b) = gcdI a b := by
  unfold gcdI
  congr 1
  rw [Int.natAbs_tmod, Nat.gcd_comm, ← Nat.gcd_rec, Nat.gcd_comm]

def sp_rat_gcd : Sp := ⟨Int × Int, fun x => [.d (.int .i64 x.1), .d (.int .i64 x.2)], fun x => .data (0 ≤ x.1 ∧ 0 ≤ x.2) (.d (.int .i64 (gcdI x.1 x.2))) true⟩
theorem at_rat_gcd (a b : Int) : sp_rat_gcd.at [.d (.int .i64 a), .d (.int .i64 b)] = .data (0 ≤ a ∧ 0 ≤ b) (.d (.int .i64 (gcdI a b))) true :=
  Sp.at_enc (s := sp_rat_gcd) (fun x y h => by obtain ⟨a, b⟩ := x; obtain ⟨c, d⟩ := y; simpa [sp_rat_gcd] using h) (a, b)

theorem body_rat_gcd {T : Tab} : sp_rat_gcd.Body T V_rat_gcd L_rat_gcd R_rat_gcd := by
  rintro ⟨a, b⟩ ⟨ha, hb⟩
  refine .inl ⟨rfl, ?_⟩
  unfold V_rat_gcd L_rat_gcd R_rat_gcd
  simp only [↓Z04, ↓Z0p, ↓Z09, ↓Z1g, ↓Z0a, ↓Z0o, ↓Z0n, Z2m, Z05, Z17, Z1b, evN, Z0m, Z1a, Z0l, Z0k, evT, Opd.ev, Z03, Z00, Z18, Z0y, Z0d, Z1t, LOp.isNew, State.prune, Z0t, ↓reduceIte, Nat.reduceBEq, List.length_nil, List.replicate_zero, List.append_nil, List.map_cons, List.map_nil, true_and, Nat.zero_add, Nat.add_zero, Bool.false_eq_true, sp_rat_gcd]
  refine Loop.fam [0, 1] (fun x : Int × Int => ⟨[(0, .d (.int .i64 x.1)), (1, .d (.int .i64 x.2))], []⟩) (fun x => 0 ≤ x.1 ∧ 0 ≤ x.2 ∧ gcdI x.1 x.2 = gcdI a b) (fun x => x.2.toNat) (a, b) [] (by simp) (by simp)
    (by simp only [State.can, AV.can, HO.can, Z03, Z00, Heap.at, Nat.reduceBEq, Option.getD_some, List.map_cons, List.map_nil]) ⟨ha, hb, rfl⟩ ?_
  rintro ⟨x, y⟩ ⟨hx, hy, hg⟩
  simp only [↓Z0g, ↓Z10, ↓Z16, ↓Z04, ↓Z0p, ↓Z0f, ↓Z09, ↓Z0a, ↓Z0o, ↓Z1u, ↓Z14, ↓Z15, ↓Z0n, ↓Z1p, ↓Z3g, ↓Z30, ↓Z0z, ↓Z0b, Z2m, Z05, Z0q, Z17, Z1b, evN, Z0m, Z1a, Z24, Z0l, Z0k, Z0w, evT, Opd.ev, Z03, Z00, Z18, Z0u, Z0x, Z0d, Z1t, LOp.isNew, State.prune, Z32, binT, binQ, chk, Z2h, resQ, resV, resT, Z0t, RetS, AV.d.injEq, DV.int.injEq, ↓reduceIte, Nat.reduceBEq, List.length_nil, List.replicate_zero, List.nil_append, List.cons_append, List.append_nil, List.map_cons, List.map_nil, List.all_nil, true_and, List.reverse_cons, List.reverse_nil, Nat.add_zero, Bool.false_eq_true, RetS]
  refine ⟨fun h => ?_, fun h => ⟨h, Z0r.mk [] (y, x.tmod y) (by simp) (by simp) (by simp only [State.can, AV.can, HO.can, Z03, Z00, Heap.at, Nat.reduceBEq, Option.getD_some, List.map_cons, List.map_nil]) ⟨hy, Int.tmod_nonneg _ hx, by rw [← hg]; exact gcdI_step hx hy⟩ ?_⟩⟩
  · rw [← hg]
    have hx : 0 ≤ x := hx
    simp only [h, gcdI, Int.natAbs_zero, Nat.gcd_zero_right]
    congr 2; omega
  · have hy : 0 ≤ y := hy
    have := Int.tmod_lt_of_pos x (show 0 < y by omega)
    have := Int.tmod_nonneg (b := y) (a := x) hx
    show (x.tmod y).toNat < y.toNat
    omega

def Z41 (a b : Int) : Int × Int := if Z47 a b then (a.tdiv (gcdI a b), b.tdiv (gcdI a b)) else (a, b)
def rat_max (a b c d : Int) : Int × Int := if rat_cmp a b c d < 0 then (c, d) else (a, b)
theorem gcdI_pos {a b : Int} (h : b ≠ 0) : 0 < gcdI a b := by
  unfold gcdI
  have := Nat.gcd_pos_of_pos_right a.natAbs (n := b.natAbs) (by omega)
  omega

theorem tdiv_bd {g a : Int} (hg : 0 < g) : (a.tdiv g).natAbs ≤ a.natAbs := by
  rw [Int.natAbs_tdiv]; exact Nat.div_le_self _ _

theorem least_bd {a b : Int} (h : Z47 a b = true) : (Z41 a b).1.natAbs ≤ a.natAbs ∧ 1 ≤ (Z41 a b).2 ∧ (Z41 a b).2 ≤ b := by
  obtain ⟨r1, r2, r3, r4⟩ := right_iff.1 h
  have g0 := gcdI_pos (a := a) (b := b) (by omega)
  simp only [Z41, h, if_true]
  refine ⟨tdiv_bd g0, ?_, ?_⟩
  · have : gcdI a b ≤ b := by
      unfold gcdI
      have := Nat.gcd_le_right a.natAbs (n := b.natAbs) (by omega)
      omega
    rw [Int.tdiv_eq_ediv_of_nonneg (by omega)]
    exact (Int.le_ediv_iff_mul_le g0).2 (by omega)
  · have := tdiv_bd (a := b) g0
    omega

def sp_rat_Least : Sp := ⟨Int × Int, fun x => [.agg [.d (.int .i64 x.1), .d (.int .i64 x.2)]], fun x => .data True (.agg [.d (.int .i64 (Z41 x.1 x.2).1), .d (.int .i64 (Z41 x.1 x.2).2)]) true⟩
theorem at_rat_Least (a b : Int) : sp_rat_Least.at [.agg [.d (.int .i64 a), .d (.int .i64 b)]] = .data True (.agg [.d (.int .i64 (Z41 a b).1), .d (.int .i64 (Z41 a b).2)]) true :=
  Sp.at_enc (s := sp_rat_Least) (fun x y h => by obtain ⟨a, b⟩ := x; obtain ⟨c, d⟩ := y; simpa [sp_rat_Least] using h) (a, b)

theorem body_rat_Least {T : Tab} {n1 n2 : Nat} (k1 : Knows T n1 sp_rat_Right) (k2 : Knows T n2 sp_rat_gcd) : sp_rat_Least.Body T V_rat_Least (L_rat_Least n1 n2) R_rat_Least := by
  have F1 := k1.F; have G1 := k1.G; have F2 := k2.F; have G2 := k2.G
  rintro ⟨a, b⟩ -
  refine .inl ⟨rfl, ?_⟩
  unfold V_rat_Least L_rat_Least R_rat_Least
  simp only [↓Z0g, ↓Z10, ↓Z04, ↓Z0p, ↓Z0f, ↓Z0a, ↓Z0o, ↓Z1i, ↓Z0n, ↓Z1p, ↓Z0z, Z2m, Z05, Z0q, Z17, Z1b, evN, Z19, Z0m, Z1a, Z24, Z0l, Z0e, Z0k, Z0w, evT, Opd.ev, Z03, Z00, Z18, Z2l, Z1k, Z0u, Z0x, Z0y, Z0d, Z1t, LOp.isNew, State.prune, Z1j, Z1d, AV.leaf, Heap.at, Z06, Z02, Z07, Z01, Z2p, Z3a, Z32, evUn, binT, binQ, chk, Z2h, Bool.and_self, resQ, resV, resT, Z13, Z1y, fnOf, Z1v, isD, Z3u, Z4r, Z3t, Z3i, putRow, Z0t, RetS, AV.agg.injEq, List.cons.injEq, Nat.le_refl, AV.d.injEq, DV.int.injEq, ↓reduceIte, Nat.reduceAdd, Nat.reduceBEq, List.length_cons, List.length_nil, List.replicate_succ, List.replicate_zero, List.nil_append, List.cons_append, List.append_nil, List.map_cons, List.map_nil, List.all_cons, List.all_nil, List.set_cons_zero, List.set_cons_succ, List.getD_cons_zero, List.getD_cons_succ, List.drop_zero, List.drop_succ_cons, List.take_succ_cons, List.take_zero, List.flatten_cons, List.flatten_nil, true_and, and_true, and_self, Nat.reduceLT, Nat.reduceLeDiff, List.reverse_cons, List.reverse_nil, Nat.zero_add, Nat.add_zero, Bool.false_eq_true, sp_rat_Least, F1, G1, F2, G2, at_rat_Right, at_rat_gcd]
  refine ⟨fun h => ?_, fun h => by simp [Z41, h]⟩
  obtain ⟨r1, r2, r3, r4⟩ := right_iff.1 h
  have e : (if IntKind.i64.wrap (0 - a) > a then IntKind.i64.wrap (0 - a) else a) = (a.natAbs : Int) := by
    rw [wrap_id (by omega) (by omega)]; split <;> omega
  have e2 : gcdI (a.natAbs : Int) b = gcdI a b := by simp [gcdI]
  rw [e, e2]
  have g0 := gcdI_pos (a := a) (b := b) (by omega)
  have q1 := tdiv_bd (g := gcdI a b) (a := a) (by omega)
  have q2 := tdiv_bd (g := gcdI a b) (a := b) (by omega)
  refine ⟨⟨by omega, by omega⟩, by omega, by omega, ?_⟩
  rw [wrap_id (by omega) (by omega), wrap_id (by omega) (by omega)]
  simp [Z41, h]

def sp_rat_Max : Sp := ⟨Int × Int × Int × Int, fun x => [.agg [.d (.int .i64 x.1), .d (.int .i64 x.2.1)], .agg [.d (.int .i64 x.2.2.1), .d (.int .i64 x.2.2.2)]], fun x => .data True (.agg [.d (.int .i64 (rat_max x.1 x.2.1 x.2.2.1 x.2.2.2).1), .d (.int .i64 (rat_max x.1 x.2.1 x.2.2.1 x.2.2.2).2)]) true⟩
theorem at_rat_Max (a b c d : Int) : sp_rat_Max.at [.agg [.d (.int .i64 a), .d (.int .i64 b)], .agg [.d (.int .i64 c), .d (.int .i64 d)]] = .data True (.agg [.d (.int .i64 (rat_max a b c d).1), .d (.int .i64 (rat_max a b c d).2)]) true :=
  Sp.at_enc (s := sp_rat_Max) (fun x y h => by obtain ⟨a, b, c, d⟩ := x; obtain ⟨a', b', c', d'⟩ := y; simpa [sp_rat_Max, and_assoc] using h) (a, b, c, d)

theorem body_rat_Max {T : Tab} {n1 : Nat} (k1 : Knows T n1 sp_rat_Cmp) : sp_rat_Max.Body T V_rat_Max (L_rat_Max n1) R_rat_Max := by
  have F1 := k1.F; have G1 := k1.G
  rintro ⟨a, b, c, d⟩ -
  refine .inl ⟨rfl, ?_⟩
  unfold V_rat_Max L_rat_Max R_rat_Max
  simp only [↓Z0g, ↓Z10, ↓Z04, ↓Z0p, ↓Z0f, ↓Z0a, ↓Z0o, ↓Z1i, ↓Z0n, ↓Z1p, ↓Z0b, Z2m, Z05, Z17, Z1b, evN, Z19, Z0m, Z1a, Z0l, Z0e, Z0k, Z0w, evT, Opd.ev, Z03, Z00, Z18, Z2l, Z1k, Z0u, Z0x, Z0y, Z0d, Z1t, LOp.isNew, State.prune, Z1j, Z1d, AV.leaf, Heap.at, Z06, Z02, Z07, Z01, Z2p, Z3a, Z32, binT, binQ, Bool.and_self, resQ, resV, resT, Z13, Z1y, fnOf, Z1v, isD, Z3u, putRow, Z0t, RetS, AV.agg.injEq, List.cons.injEq, Nat.le_refl, AV.d.injEq, DV.int.injEq, ↓reduceIte, Nat.reduceAdd, Nat.reduceBEq, List.length_cons, List.length_nil, List.replicate_succ, List.replicate_zero, List.nil_append, List.append_nil, List.map_cons, List.map_nil, List.all_cons, List.all_nil, List.set_cons_zero, List.set_cons_succ, List.getD_cons_zero, List.getD_cons_succ, List.drop_zero, List.drop_succ_cons, List.take_succ_cons, List.take_zero, List.flatten_cons, List.flatten_nil, true_and, and_true, and_self, Nat.reduceLT, Nat.zero_add, Nat.add_zero, Bool.false_eq_true, sp_rat_Max, F1, G1, at_rat_Cmp]
  exact ⟨fun h => by simp [rat_max, h], fun h => by simp [rat_max, h]⟩

end Go.Ago

/- slices.Insert of one moment's write. Conditions: none. -/
set_option maxRecDepth 100000
set_option linter.unusedSimpArgs false
set_option linter.unusedVariables false
namespace Go.Ago
def insG (l : List StampG) (i : Nat) (v : StampG) : List StampG := l.take i ++ v :: l.drop i
def ef_Insert : EfI := ⟨List StampG × Nat × StampG, fun x id k => [.ref id 3 0 x.1.length true, .d (.int .i64 x.2.1), .ref k 3 0 1 true], 3, fun x => x.1.map StampG.row, fun x => [x.2.2.row],
  fun x => x.2.1 ≤ x.1.length ∧ roomy (x.1.length + 1) 24, fun x => (insG x.1 x.2.1 x.2.2).map StampG.row⟩
theorem insG_len {l : List StampG} {i : Nat} {v : StampG} (h : i ≤ l.length) : (insG l i v).length = l.length + 1 := by unfold insG; simp; omega

theorem ins_eq1 {α : Type} {A B Z : List α} {v : α} {i k : Nat} (hA : A.length = i) (hB : B.length = k) (hZ : Z.length = k) : List.take (i + 1) (A ++ [v] ++ Z) ++ B ++ List.drop (i + 1 + k) (A ++ [v] ++ Z) = A ++ [v] ++ B := by
  have h1 : (A ++ [v]).length = i + 1 := by simp [hA]
  rw [List.take_append_of_le_length (by omega), List.take_of_length_le (by omega), List.drop_of_length_le (by simp [hA, hZ]; omega), List.append_nil]
theorem ins_eq2 {α : Type} {R : List α} {v : α} {i k : Nat} (hR : i + k + 1 ≤ R.length) :
    (List.take i (List.take (i + 1) R ++ List.take k (List.take (k + 1) (List.drop i R)) ++ List.drop (i + 1 + k) R) ++ [v] ++ List.drop (i + 1) (List.take (i + 1) R ++ List.take k (List.take (k + 1) (List.drop i R)) ++ List.drop (i + 1 + k) R)).take (i + k + 1) =
      R.take i ++ [v] ++ (R.drop i).take k ∧
    i + k + 1 ≤ (List.take i (List.take (i + 1) R ++ List.take k (List.take (k + 1) (List.drop i R)) ++ List.drop (i + 1 + k) R) ++ [v] ++ List.drop (i + 1) (List.take (i + 1) R ++ List.take k (List.take (k + 1) (List.drop i R)) ++ List.drop (i + 1 + k) R)).length := by
  have l1 : (List.take (i + 1) R).length = i + 1 := by simp; omega
  have l2 : (List.take k (List.take (k + 1) (List.drop i R))).length = k := by simp; omega
  have e2 : List.take k (List.take (k + 1) (List.drop i R)) = List.take k (List.drop i R) := by rw [List.take_take, show min k (k + 1) = k by omega]
  have e3 : List.take i (List.take (i + 1) R ++ List.take k (List.take (k + 1) (List.drop i R)) ++ List.drop (i + 1 + k) R) = R.take i := by
    rw [List.append_assoc, List.take_append_of_le_length (by omega), List.take_take, show min i (i + 1) = i by omega]
  have e4 : List.drop (i + 1) (List.take (i + 1) R ++ List.take k (List.take (k + 1) (List.drop i R)) ++ List.drop (i + 1 + k) R) = List.take k (List.drop i R) ++ List.drop (i + 1 + k) R := by
    rw [List.append_assoc, List.drop_append_of_le_length (by omega), List.drop_of_length_le (by omega), List.nil_append, e2]
  rw [e3, e4, ← List.append_assoc]
  have l3 : (R.take i ++ [v] ++ List.take k (List.drop i R)).length = i + k + 1 := by simp; omega
  refine ⟨?_, ?_⟩
  · rw [List.take_append_of_le_length (by omega), List.take_of_length_le (by omega)]
  · rw [List.length_append]; omega

set_option maxHeartbeats 4000000 in
/-- The rows with a capacity: an element in their midst. -/
theorem vck_ins {T : Tab} {n1 i k c : Nat} {R : List (List AV)} {v1 v2 v3 : Int} {K : AV → Heap → Prop} (hk : 0 < k) (hc : i + k ≤ c) (hroom : roomy (i + k + 1) 24) (hR : R.length = c) (hlen : ∀ r ∈ R, r.length = 3) (hleaf : ∀ r ∈ R.take (i + k), r.all AV.leaf = true)
    (hnew : ∀ R', (H : R' = R.take i ++ [[.d (.int .i64 v1), .d (.int .i64 v2), .d (.int .i64 v3)]] ++ (R.drop i).take k) → K (.ref 2 3 0 (i + k + 1) true) [.vec 3 R, .dvec 3 [[.int .i64 v1, .int .i64 v2, .int .i64 v3]], .vec 3 R'])
    (hold : ∀ R', (H : R'.take (i + k + 1) = R.take i ++ [[.d (.int .i64 v1), .d (.int .i64 v2), .d (.int .i64 v3)]] ++ (R.drop i).take k) → i + k + 1 ≤ R'.length → K (.ref 0 3 0 (i + k + 1) true) [.vec 3 R', .dvec 3 [[.int .i64 v1, .int .i64 v2, .int .i64 v3]]]) :
    vck T 2 V_slices_Insert_api_Stamp (L_slices_Insert_api_Stamp n1) ⟨Z0y 0 [.rcap 0 3 0 (i + k) c, .d (.int .i64 i), .ref 1 3 0 1 true], [.vec 3 R, .dvec 3 [[.int .i64 v1, .int .i64 v2, .int .i64 v3]]]⟩ (retK R_slices_Insert_api_Stamp K) := by
  have hr1 := hroom.1
  have e1 : ((1 : Nat) : Int) = 1 := rfl
  have e10 : ((1 : Int) = 0) = False := by simp
  have he : ((i : Int) = ((i + k : Nat) : Int)) = False := by simp; omega
  have w1 : IntKind.i64.wrap (((i + k : Nat) : Int) + 1) = ((i + k + 1 : Nat) : Int) := by rw [wrap_id (by omega) (by omega)]; rfl
  have w2 : IntKind.i64.wrap ((i : Int) + 1) = ((i + 1 : Nat) : Int) := by rw [wrap_id (by omega) (by omega)]; rfl
  have w3 : IntKind.i64.wrap (((i + k + 1 : Nat) : Int) - (i : Int)) = ((k + 1 : Nat) : Int) := by rw [wrap_id (by omega) (by omega)]; omega
  have q1 : (((i + k : Nat) : Int) < (i : Int)) = False := by simp; omega
  have q2 : (((i + k : Nat) : Int) < ((i + k + 1 : Nat) : Int)) = True := by simp; omega
  have a1 : i + (k + 1) - i = k + 1 := by omega
  have a2 : i + k - i = k := by omega
  have a3 : i + (k + 1) - (i + 1) = k := by omega
  have a4 : i + k + 1 - (i + 1) = k := by omega
  have a5 : i + k + 1 - i = k + 1 := by omega
  have t1 : (R.take i).length = i := by simp; omega
  have m1 : min (k + 1) 1 = 1 := by omega
  have m2 : min k (k + 1) = k := by omega
  have m3 : min k k = k := by omega
  unfold V_slices_Insert_api_Stamp L_slices_Insert_api_Stamp R_slices_Insert_api_Stamp
  simp only [↓Z0g, ↓Z04, ↓Z0p, ↓Z0f, ↓Z0a, ↓Z0o, ↓Z0n, ↓Z0i, ↓Z0c, ↓Z0b, Z2m, Z05, Z17, Z1b, evN, Z0m, Z1a, Z24, Z0l, Z0e, Z0k, Z0w, evT, Opd.ev, Z03, Z00, Z18, Z0u, Z0x, Z0y, Z0d, Z1t, LOp.isNew, State.prune, Heap.at, Int.toNat_natCast, Int.reduceToNat, Z3x, Z43, Src.all, Src.len, Src.leafN, Z45, Z4v, Z4i, Z3y, Z4x, Z4k, Option.isSome_none, Option.isSome_some, Nat.sub_zero, Z32, evUn, binT, binQ, Z0t, ↓reduceIte, Nat.reduceAdd, Nat.reduceBEq, List.length_cons, List.length_nil, List.replicate_succ, List.replicate_zero, List.nil_append, List.cons_append, List.append_nil, List.map_cons, List.map_nil, List.getD_cons_zero, List.getD_cons_succ, List.drop_zero, Bool.not_false, true_and, and_true, true_or, or_true, decide_false, false_implies, and_self, Nat.reduceLT, Nat.zero_add, Nat.add_zero, Bool.false_eq_true, evFl, fltQ, fltT, evAppz, evCopy, HO.splice, e1, e10, he, w1, w2, w3, q1, q2, a2, a4, a5, or_self, or_true, true_or]
  have hiR : (i ≤ R.length) = True := by simp; omega
  have hik : (i + k ≤ R.length) = True := by simp; omega
  have z1 : List.drop (i + 1) (R.take i ++ [AV.d (DV.int IntKind.i64 0), AV.d (DV.int IntKind.i64 0), AV.d (DV.int IntKind.i64 0)] :: List.replicate k [AV.d (DV.int IntKind.i64 0), AV.d (DV.int IntKind.i64 0), AV.d (DV.int IntKind.i64 0)]) = List.replicate k [AV.d (DV.int IntKind.i64 0), AV.d (DV.int IntKind.i64 0), AV.d (DV.int IntKind.i64 0)] := by
    rw [List.drop_append, t1, List.drop_of_length_le (by omega), show i + 1 - i = 1 by omega]; rfl
  have z2 : List.take i (R.take i ++ [AV.d (DV.int IntKind.i64 0), AV.d (DV.int IntKind.i64 0), AV.d (DV.int IntKind.i64 0)] :: List.replicate k [AV.d (DV.int IntKind.i64 0), AV.d (DV.int IntKind.i64 0), AV.d (DV.int IntKind.i64 0)]) = R.take i := by
    rw [List.take_append_of_le_length (by omega), List.take_of_length_le (by omega)]
  have z3 : (List.take k (List.drop i R)).length = k := by simp; omega
  refine ⟨⟨by omega, by omega, by omega⟩, fun c1 => ⟨⟨by omega, by omega, by omega⟩, ?_⟩, fun c1 => ?_⟩
  · simp only [↓Z10, ↓Z04, ↓Z0p, ↓Z0a, ↓Z0o, ↓Z1i, ↓Z0n, ↓Z1p, Z2m, Z05, Z0q, Z17, Z1b, evN, Z0m, Z1a, Z24, Z0l, Z0e, Z0k, evT, Opd.ev, Z03, Z00, Z18, Z1k, Z0d, Z1t, LOp.isNew, State.prune, Heap.at, List.length_replicate, Int.toNat_natCast, Z43, Src.all, Src.len, Src.leafN, List.length_append, List.take_of_length_le, Z3y, Z4x, Z4k, Option.isSome_none, Option.isSome_some, Z32, binT, binQ, chk, Z2h, resQ, resV, resT, List.mem_cons, List.not_mem_nil, or_false, forall_eq, Nat.le_refl, ↓reduceIte, Nat.reduceAdd, Nat.reduceBEq, List.length_cons, List.length_nil, List.replicate_zero, List.nil_append, List.cons_append, List.append_nil, List.map_cons, List.map_nil, List.all_nil, List.set_cons_zero, List.set_cons_succ, List.getD_cons_zero, List.getD_cons_succ, List.drop_zero, true_and, and_true, true_or, false_implies, and_self, List.reverse_cons, List.reverse_nil, Nat.zero_add, Nat.add_zero, Bool.false_eq_true, evCopy, HO.splice, e1, w2, a1, a2, a3, t1, m1, m3, true_or, hiR, hik, z1, z2, z3]
    have hc' : c = i + k := by omega
    have hm : ∀ r ∈ List.take k (List.drop i R), r ∈ R.take (i + k) := fun r hr => by
      have : List.take k (List.drop i R) = (R.take (i + k)).drop i := by rw [List.drop_take, show i + k - i = k by omega]
      rw [this] at hr
      exact List.mem_of_mem_drop hr
    refine ⟨⟨by omega, by omega, hroom⟩, ⟨by omega, by omega, by omega⟩, ⟨by omega, by omega, by omega⟩, ⟨by omega, by omega, by omega⟩, ⟨fun r hr => hlen r (List.mem_of_mem_drop (List.mem_of_mem_take hr)), List.all_eq_true.2 fun r hr => hleaf r (hm r hr)⟩, ?_⟩
    exact hnew _ (ins_eq1 t1 z3 (List.length_replicate))
  · have c2 : i + k + 1 ≤ c := by omega
    have hik1 : (i + (k + 1) ≤ R.length) = True := by simp; omega
    have hik2 : (i + 1 + k ≤ R.length) = True := by simp; omega
    have z4 : (List.take (k + 1) (List.drop i R)).length = k + 1 := by simp; omega
    have l1 : (List.take (i + 1) R).length = i + 1 := by simp; omega
    have l2 : (List.take k (List.take (k + 1) (List.drop i R))).length = k := by simp; omega
    have l3 : (List.drop (i + 1 + k) R).length = R.length - (i + 1 + k) := by simp
    have l4 : (i + (k + 1) ≤ i + 1 + k + (R.length - (i + 1 + k))) = True := by simp; omega
    have hm : ∀ r ∈ List.take k (List.take (k + 1) (List.drop i R)), r ∈ R.take (i + k) := fun r hr => by
      rw [List.take_take, show min k (k + 1) = k by omega] at hr
      have : List.take k (List.drop i R) = (R.take (i + k)).drop i := by rw [List.drop_take, show i + k - i = k by omega]
      rw [this] at hr
      exact List.mem_of_mem_drop hr
    simp only [↓Z10, ↓Z04, ↓Z0p, ↓Z0a, ↓Z0o, ↓Z1i, ↓Z0n, ↓Z1p, Z2m, Z05, Z0q, Z17, Z1b, evN, Z0m, Z1a, Z24, Z0l, Z0e, Z0k, evT, Opd.ev, Z03, Z00, Z18, Z1k, Z0d, Z1t, LOp.isNew, State.prune, Heap.at, Int.toNat_natCast, Z43, Src.all, Src.len, Src.leafN, List.length_append, List.take_of_length_le, Z3y, Z4x, Z4k, Option.isSome_none, chk, Z2h, resQ, resV, resT, List.mem_cons, List.not_mem_nil, or_false, forall_eq, Nat.le_refl, ↓reduceIte, Nat.reduceAdd, Nat.reduceBEq, List.length_cons, List.length_nil, List.replicate_zero, List.nil_append, List.cons_append, List.append_nil, List.map_cons, List.map_nil, List.all_nil, List.set_cons_zero, List.getD_cons_zero, List.getD_cons_succ, List.drop_zero, true_and, and_true, false_implies, and_self, List.reverse_cons, List.reverse_nil, Nat.zero_add, Nat.add_zero, Bool.false_eq_true, evCopy, HO.splice, e1, a5, m1, m2, hik1, hik2, z4, l1, l2, l3, l4]
    obtain ⟨g1, g2⟩ := ins_eq2 (R := R) (v := [AV.d (DV.int IntKind.i64 v1), AV.d (DV.int IntKind.i64 v2), AV.d (DV.int IntKind.i64 v3)]) (i := i) (k := k) (by omega)
    exact ⟨⟨by omega, by omega, by omega⟩, ⟨by omega, by omega, by omega⟩, by omega, ⟨by omega, by omega, by omega⟩, ⟨by omega, by omega, by omega⟩,
      ⟨fun r hr => hlen r (List.mem_of_mem_drop (List.mem_of_mem_take hr)), List.all_eq_true.2 fun r hr => hleaf r (hm r hr)⟩, ⟨by omega, by omega, by omega⟩, hold _ g1 g2⟩

theorem capRows_len {sz c : Nat} {rows : List (List DV)} (h : rows.length ≤ c) : (capRows sz c rows).length = c := by simp [capRows]; omega
theorem capRows_take {sz c n : Nat} {rows : List (List DV)} (h : rows.length = n) : (capRows sz c rows).take n = rows.map (·.map .d) := by
  unfold capRows
  rw [List.take_append_of_le_length (by simp; omega), List.take_of_length_le (by simp; omega)]
theorem rows_stamp (l : List StampG) : (l.map StampG.row).map (·.map AV.d) = l.map fun s => [.d (.int .i64 s.when.num), .d (.int .i64 s.when.den), .d (.int .i64 s.val)] := by rw [List.map_map]; rfl
theorem cap_take {l : List StampG} {i c : Nat} (hi : i ≤ l.length) : (capRows 3 c (l.map StampG.row)).take i = ((l.take i).map StampG.row).map (·.map AV.d) := by
  unfold capRows
  rw [List.take_append_of_le_length (by simp; omega)]
  simp [List.map_take]
theorem cap_mid {l : List StampG} {i k c : Nat} (h : i + k = l.length) : ((capRows 3 c (l.map StampG.row)).drop i).take k = ((l.drop i).map StampG.row).map (·.map AV.d) := by
  unfold capRows
  rw [List.drop_append_of_le_length (by simp; omega), List.take_append_of_le_length (by simp; omega), List.take_of_length_le (by simp; omega)]
  simp [List.map_drop]
theorem insG_rows {l : List StampG} {i : Nat} {v : StampG} : ((insG l i v).map StampG.row).map (·.map AV.d) = ((l.take i).map StampG.row).map (·.map AV.d) ++ [[.d (.int .i64 v.when.num), .d (.int .i64 v.when.den), .d (.int .i64 v.val)]] ++ ((l.drop i).map StampG.row).map (·.map AV.d) := by
  unfold insG
  simp [StampG.row]
theorem eff_slices_Insert_api_Stamp {T : Tab} {n1 : Nat} : ef_Insert.Body T V_slices_Insert_api_Stamp (L_slices_Insert_api_Stamp n1) R_slices_Insert_api_Stamp where
  ren x ρ := rfl
  body := by
    rintro ⟨l, i, v⟩ ⟨hi, hr⟩
    have hi : i ≤ l.length := hi
    have hr : roomy (l.length + 1) 24 := hr
    have hr1 := hr.1
    have hlen := insG_len (v := v) hi
    by_cases he : i = l.length
    · left
      have e1 : ((1 : Nat) : Int) = 1 := rfl
      have e10 : ((1 : Int) = 0) = False := by simp
      unfold V_slices_Insert_api_Stamp L_slices_Insert_api_Stamp R_slices_Insert_api_Stamp
      subst he
      simp only [↓Z0g, ↓Z10, ↓Z04, ↓Z0p, ↓Z0f, ↓Z0a, ↓Z0o, ↓Z1i, ↓Z0n, ↓Z1p, ↓Z0i, ↓Z0c, Z2m, Z05, Z17, Z1b, evN, Z0m, Z1a, Z0l, Z0e, Z0k, Z0w, evT, Opd.ev, Z03, Z00, Z18, Z1k, Z0u, Z0x, Z0y, Z0d, Z1t, LOp.isNew, State.prune, Heap.at, StampG.row, Int.toNat_natCast, Z3x, Z1x, Z43, Src.all, Src.len, Src.leaf, Z4i, List.length_map, List.take_of_length_le, Z3y, Z4x, Z4k, Option.isSome_none, Z32, binT, binQ, resQ, resV, resT, List.mem_cons, List.not_mem_nil, or_false, forall_eq, Z0t, Nat.le_refl, ↓reduceIte, Nat.reduceAdd, Nat.reduceBEq, List.length_cons, List.length_nil, List.replicate_succ, List.replicate_zero, List.nil_append, List.cons_append, List.append_nil, List.map_cons, List.map_nil, List.set_cons_zero, List.set_cons_succ, List.getD_cons_zero, List.getD_cons_succ, List.drop_zero, true_and, and_true, decide_true, decide_false, false_implies, and_self, Nat.zero_add, Nat.add_zero, Bool.false_eq_true, ef_Insert, e1, e10]
      refine ⟨⟨by omega, by omega⟩, hr, ?_, by simp⟩
      have : insG l l.length v = l ++ [v] := by unfold insG; simp
      rw [this, List.length_append, List.length_singleton]
      have := Says.pick (k := 2) (sz := 3) (m := l.length + 1) (row := 0) (sz2 := 3) (room := true)
        (H := [.dead, .dvec 3 [[.int .i64 v.when.num, .int .i64 v.when.den, .int .i64 v.val]], .dvec 3 ((l ++ [v]).map StampG.row)]) (R := ((l ++ [v]).map StampG.row).map (·.map AV.d)) (ds := (l ++ [v]).map StampG.row) (r2 := [[.int .i64 v.when.num, .int .i64 v.when.den, .int .i64 v.val]]) rfl rfl (by omega)
        (by rw [List.take_of_length_le (by simp)]) (by simp) (by simp)
      simpa [StampG.row] using this
    · right
      have hrn : ef_Insert.rows (l, i, v) = l.map StampG.row := rfl
      refine ⟨by rw [hrn]; intro h; simp at h; subst h; simp at hi he; omega, [.d (.int .i64 i), .ref 1 3 0 1 true], by simp [ef_Insert], fun c hc => ?_⟩
      have hc : l.length ≤ c := by simpa [ef_Insert] using hc
      obtain ⟨k, hk⟩ : ∃ k, l.length = i + k := ⟨l.length - i, by omega⟩
      have hrows : (ef_Insert.rows (l, i, v)).length = i + k := by rw [hrn, List.length_map, hk]
      have hsz : ef_Insert.sz = 3 := rfl
      have hr2 : ef_Insert.rows2 (l, i, v) = [[.int .i64 v.when.num, .int .i64 v.when.den, .int .i64 v.val]] := rfl
      have hr3 : ef_Insert.rows' (l, i, v) = (insG l i v).map StampG.row := rfl
      rw [hrows, hsz, hr2, hr3, List.length_map, hlen, hrn, hk]
      have hm1 := cap_take (c := c) hi
      have hm2 := cap_mid (c := c) hk.symm
      refine vck_ins (by omega) (by omega) (by rw [← hk]; exact hr) (capRows_len (by simpa using hc)) (fun r hr => ?_) (fun r hr => ?_) (fun R' hR' => ⟨?_, by simp⟩) (fun R' hR' hle => ⟨?_, by simp⟩)
      · rcases List.mem_append.1 hr with hr | hr
        · rw [rows_stamp, List.mem_map] at hr
          obtain ⟨s, _, rfl⟩ := hr; rfl
        · rw [(List.mem_replicate.1 hr).2]; rfl
      · rw [← hk, capRows_take (by simp), rows_stamp, List.mem_map] at hr
        obtain ⟨s, _, rfl⟩ := hr; rfl
      · have hlR : R'.length = i + k + 1 := by
          rw [hR', hm1, hm2]; simp; omega
        exact Says.pick (k := 2) (row := 0) (R := R') rfl rfl (by omega) (by rw [List.take_of_length_le (by omega), hR', hm1, hm2, insG_rows]) (by rw [List.length_map, hlen]; omega) (by omega)
      · exact Says.pick (k := 0) (row := 0) (R := R') rfl rfl (by omega) (by rw [hR', hm1, hm2, insG_rows]) (by rw [List.length_map, hlen]; omega) hle
/-- What the caller is told. -/
theorem at_Insert {l : List StampG} {i : Nat} {v : StampG} {id k : Nat} {H : Heap} (h1 : H.at id = .dvec 3 (l.map StampG.row)) (h2 : H.at k = .dvec 3 [v.row]) (hne : id ≠ k) :
    ef_Insert.at [.ref id 3 0 l.length true, .d (.int .i64 i), .ref k 3 0 1 true] H = some ⟨i ≤ l.length ∧ roomy (l.length + 1) 24, .ref H.length 3 0 ((insG l i v).map StampG.row).length true, [(id, .dead)], [.dvec 3 ((insG l i v).map StampG.row)], some ⟨id, k, 3, (insG l i v).map StampG.row, false⟩⟩ := by
  refine EfI.at_fits (e := ef_Insert) (p := ((l, i, v), id, k)) (fun p q args H hp hq => ?_) ⟨rfl, h1, h2, hne⟩
  obtain ⟨⟨l, i, v⟩, id, k⟩ := p
  obtain ⟨⟨l', i', v'⟩, id', k'⟩ := q
  obtain ⟨e1, e2, e3, _⟩ := hp
  obtain ⟨e1', e2', e3', _⟩ := hq
  subst e1
  simp only [ef_Insert, List.cons.injEq, AV.ref.injEq, AV.d.injEq, DV.int.injEq, and_true, true_and] at e1'
  obtain ⟨⟨rfl, _⟩, hi, rfl⟩ := e1'
  rw [e2] at e2'; rw [e3] at e3'
  simp only [ef_Insert, HO.dvec.injEq, true_and, List.cons.injEq, and_true] at e2' e3'
  rw [Z4h StampG.row_inj e2', StampG.row_inj _ _ e3', Int.ofNat_inj.1 hi]
end Go.Ago

/- The contracts of package act and of its reference. Conditions: none. -/
set_option maxRecDepth 100000
set_option linter.unusedSimpArgs false
set_option linter.unusedVariables false
namespace Go.Ago

theorem clone_end {sz bytes : Nat} {l : List (List DV)} (h1 : ∀ r ∈ l, r.length = sz) (h2 : roomy l.length bytes) : (((∀ (r : List AV), r ∈ List.map (fun x => List.map AV.d x) l → r.length = sz) ∧ roomy l.length bytes) ∧
      RetRows sz l (AV.ref 0 sz 0 l.length true) [HO.dvec sz l]) ∧
    (l.length = 0 → RetRows sz l (AV.d (DV.list [] true)) []) :=
  ⟨⟨⟨fun r h => by
      obtain ⟨x, hx, rfl⟩ := List.mem_map.1 h
      simpa using h1 x hx, h2⟩, .inl ⟨0, true, rfl, rfl⟩⟩, fun h => .inr ⟨List.eq_nil_of_length_eq_zero h, rfl⟩⟩

theorem body_slices_Clone_int64 {T : Tab} : (cloneS 1 8).Body T V_slices_Clone_int64 L_slices_Clone_int64 R_slices_Clone_int64 := by
  rintro ⟨l, full⟩ ⟨h1, h2⟩
  refine ⟨h1, ?_⟩
  unfold V_slices_Clone_int64 L_slices_Clone_int64 R_slices_Clone_int64
  simp only [↓Z0g, ↓Z10, ↓Z04, ↓Z36, ↓Z35, Z4s, ↓Z0p, ↓Z0f, ↓Z0a, ↓Z0o, ↓Z1i, ↓Z0n, ↓Z1p, ↓Z0i, ↓Z0c, Z2m, Z05, Z17, Z1b, evN, Z0m, Z1a, Z0l, Z0e, Z0k, Z0w, evT, Opd.ev, Z03, Z00, Z18, Z1k, Z0u, Z0x, Z0y, Z0d, Z1t, LOp.isNew, State.prune, Z1x, Z43, Src.all, Src.len, Src.leaf, Z4i, resQ, resV, resT, List.not_mem_nil, Z0t, ↓reduceIte, Nat.reduceBEq, List.length_nil, List.replicate_succ, List.replicate_zero, List.nil_append, List.append_nil, List.map_cons, List.map_nil, List.set_cons_zero, Bool.not_false, true_and, true_or, false_implies, implies_true, Nat.zero_add, Nat.add_zero, Bool.false_eq_true, cloneS]
  exact clone_end h1 h2

theorem body_slices_Clone_api_Loc {T : Tab} : (cloneS 2 16).Body T V_slices_Clone_api_Loc L_slices_Clone_api_Loc R_slices_Clone_api_Loc := by
  rintro ⟨l, full⟩ ⟨h1, h2⟩
  refine ⟨h1, ?_⟩
  unfold V_slices_Clone_api_Loc L_slices_Clone_api_Loc R_slices_Clone_api_Loc
  simp only [↓Z0g, ↓Z10, ↓Z04, ↓Z36, ↓Z35, Z4s, ↓Z0p, ↓Z0f, ↓Z0a, ↓Z0o, ↓Z1i, ↓Z0n, ↓Z1p, ↓Z0i, ↓Z0c, Z2m, Z05, Z17, Z1b, evN, Z0m, Z1a, Z0l, Z0e, Z0k, Z0w, evT, Opd.ev, Z03, Z00, Z18, Z1k, Z0u, Z0x, Z0y, Z0d, Z1t, LOp.isNew, State.prune, Z1x, Z43, Src.all, Src.len, Src.leaf, Z4i, resQ, resV, resT, List.not_mem_nil, Z0t, ↓reduceIte, Nat.reduceBEq, List.length_nil, List.replicate_succ, List.replicate_zero, List.nil_append, List.append_nil, List.map_cons, List.map_nil, List.set_cons_zero, Bool.not_false, true_and, true_or, false_implies, implies_true, Nat.zero_add, Nat.add_zero, Bool.false_eq_true, cloneS]
  exact clone_end h1 h2

theorem body_slices_Clone_api_Rat {T : Tab} : (cloneS 2 16).Body T V_slices_Clone_api_Rat L_slices_Clone_api_Rat R_slices_Clone_api_Rat := by
  rintro ⟨l, full⟩ ⟨h1, h2⟩
  refine ⟨h1, ?_⟩
  unfold V_slices_Clone_api_Rat L_slices_Clone_api_Rat R_slices_Clone_api_Rat
  simp only [↓Z0g, ↓Z10, ↓Z04, ↓Z36, ↓Z35, Z4s, ↓Z0p, ↓Z0f, ↓Z0a, ↓Z0o, ↓Z1i, ↓Z0n, ↓Z1p, ↓Z0i, ↓Z0c, Z2m, Z05, Z17, Z1b, evN, Z0m, Z1a, Z0l, Z0e, Z0k, Z0w, evT, Opd.ev, Z03, Z00, Z18, Z1k, Z0u, Z0x, Z0y, Z0d, Z1t, LOp.isNew, State.prune, Z1x, Z43, Src.all, Src.len, Src.leaf, Z4i, resQ, resV, resT, List.not_mem_nil, Z0t, ↓reduceIte, Nat.reduceBEq, List.length_nil, List.replicate_succ, List.replicate_zero, List.nil_append, List.append_nil, List.map_cons, List.map_nil, List.set_cons_zero, Bool.not_false, true_and, true_or, false_implies, implies_true, Nat.zero_add, Nat.add_zero, Bool.false_eq_true, cloneS]
  exact clone_end h1 h2

theorem body_slices_Clone_api_Stamp_api_Stamp {T : Tab} : (cloneS 1 24).Body T V_slices_Clone_api_Stamp_api_Stamp L_slices_Clone_api_Stamp_api_Stamp R_slices_Clone_api_Stamp_api_Stamp := by
  rintro ⟨l, full⟩ ⟨h1, h2⟩
  refine ⟨h1, ?_⟩
  unfold V_slices_Clone_api_Stamp_api_Stamp L_slices_Clone_api_Stamp_api_Stamp R_slices_Clone_api_Stamp_api_Stamp
  simp only [↓Z0g, ↓Z10, ↓Z04, ↓Z36, ↓Z35, Z4s, ↓Z0p, ↓Z0f, ↓Z0a, ↓Z0o, ↓Z1i, ↓Z0n, ↓Z1p, ↓Z0i, ↓Z0c, Z2m, Z05, Z17, Z1b, evN, Z0m, Z1a, Z0l, Z0e, Z0k, Z0w, evT, Opd.ev, Z03, Z00, Z18, Z1k, Z0u, Z0x, Z0y, Z0d, Z1t, LOp.isNew, State.prune, Z1x, Z43, Src.all, Src.len, Src.leaf, Z4i, resQ, resV, resT, List.not_mem_nil, Z0t, ↓reduceIte, Nat.reduceBEq, List.length_nil, List.replicate_succ, List.replicate_zero, List.nil_append, List.append_nil, List.map_cons, List.map_nil, List.set_cons_zero, Bool.not_false, true_and, true_or, false_implies, implies_true, Nat.zero_add, Nat.add_zero, Bool.false_eq_true, cloneS]
  exact clone_end h1 h2

theorem body_slices_Clone_api_Rat_api_Rat {T : Tab} : (cloneS 1 24).Body T V_slices_Clone_api_Rat_api_Rat L_slices_Clone_api_Rat_api_Rat R_slices_Clone_api_Rat_api_Rat := by
  rintro ⟨l, full⟩ ⟨h1, h2⟩
  refine ⟨h1, ?_⟩
  unfold V_slices_Clone_api_Rat_api_Rat L_slices_Clone_api_Rat_api_Rat R_slices_Clone_api_Rat_api_Rat
  simp only [↓Z0g, ↓Z10, ↓Z04, ↓Z36, ↓Z35, Z4s, ↓Z0p, ↓Z0f, ↓Z0a, ↓Z0o, ↓Z1i, ↓Z0n, ↓Z1p, ↓Z0i, ↓Z0c, Z2m, Z05, Z17, Z1b, evN, Z0m, Z1a, Z0l, Z0e, Z0k, Z0w, evT, Opd.ev, Z03, Z00, Z18, Z1k, Z0u, Z0x, Z0y, Z0d, Z1t, LOp.isNew, State.prune, Z1x, Z43, Src.all, Src.len, Src.leaf, Z4i, resQ, resV, resT, List.not_mem_nil, Z0t, ↓reduceIte, Nat.reduceBEq, List.length_nil, List.replicate_succ, List.replicate_zero, List.nil_append, List.append_nil, List.map_cons, List.map_nil, List.set_cons_zero, Bool.not_false, true_and, true_or, false_implies, implies_true, Nat.zero_add, Nat.add_zero, Bool.false_eq_true, cloneS]
  exact clone_end h1 h2

theorem body_slices_Clone_api_Stamp {T : Tab} : (cloneS 3 24).Body T V_slices_Clone_api_Stamp L_slices_Clone_api_Stamp R_slices_Clone_api_Stamp := by
  rintro ⟨l, full⟩ ⟨h1, h2⟩
  refine ⟨h1, ?_⟩
  unfold V_slices_Clone_api_Stamp L_slices_Clone_api_Stamp R_slices_Clone_api_Stamp
  simp only [↓Z0g, ↓Z10, ↓Z04, ↓Z36, ↓Z35, Z4s, ↓Z0p, ↓Z0f, ↓Z0a, ↓Z0o, ↓Z1i, ↓Z0n, ↓Z1p, ↓Z0i, ↓Z0c, Z2m, Z05, Z17, Z1b, evN, Z0m, Z1a, Z0l, Z0e, Z0k, Z0w, evT, Opd.ev, Z03, Z00, Z18, Z1k, Z0u, Z0x, Z0y, Z0d, Z1t, LOp.isNew, State.prune, Z1x, Z43, Src.all, Src.len, Src.leaf, Z4i, resQ, resV, resT, List.not_mem_nil, Z0t, ↓reduceIte, Nat.reduceBEq, List.length_nil, List.replicate_succ, List.replicate_zero, List.nil_append, List.append_nil, List.map_cons, List.map_nil, List.set_cons_zero, Bool.not_false, true_and, true_or, false_implies, implies_true, Nat.zero_add, Nat.add_zero, Bool.false_eq_true, cloneS]
  exact clone_end h1 h2

def ActG.isR (a : ActG) : Bool := decide (a.kind = 1) || decide (a.kind = 3) || decide (a.kind = 5)
def ActG.isW (a : ActG) : Bool := decide (a.kind = 2) || decide (a.kind = 4) || decide (a.kind = 5)
def ActG.isA (a : ActG) : Bool := decide (a.kind = 3) || decide (a.kind = 4) || decide (a.kind = 5)
/-- May it be an act on these locations? -/
def ActG.right (a : ActG) (l : List LocG) : Bool :=
  if a.kind = 6 then decide (a.loc = 0) && decide (a.old = 0)
  else decide (1 ≤ a.kind) && decide (a.kind ≤ 5) && decide (0 ≤ a.loc) && decide (a.loc < l.length) && ((l.getD a.loc.toNat default).atom == a.isA) && (a.isR || decide (a.old = 0)) && (a.isW || decide (a.new = 0))

def sp_act_Right : Sp := ⟨ActG × List LocG × Bool, fun x => [x.1.av, .d (.list (x.2.1.map LocG.row) x.2.2)], fun x => .data True (.d (.bool (x.1.right x.2.1))) true⟩
theorem Z4q (k o m n : Int) (l : List LocG) (full : Bool) : sp_act_Right.at [.agg [.d (.int .i64 k), .d (.int .i64 o), .d (.int .i64 m), .d (.int .i64 n)], .d (.list (l.map LocG.row) full)] = .data True (.d (.bool (ActG.right ⟨k, o, m, n⟩ l))) true :=
  Sp.at_enc (s := sp_act_Right) (fun x y h => by
    obtain ⟨a, b, c⟩ := x; obtain ⟨a', b', c'⟩ := y
    simp only [sp_act_Right, List.cons.injEq, AV.d.injEq, DV.list.injEq, and_true] at h
    obtain ⟨h1, h2, h3⟩ := h
    rw [ActG.av_inj _ _ h1, Z4h LocG.row_inj h2, h3]) (⟨k, o, m, n⟩, l, full)

theorem body_act_Right {T : Tab} : sp_act_Right.Body T V_act_Right L_act_Right R_act_Right := by
  rintro ⟨a, l, full⟩ -
  refine .inl ⟨rfl, ?_⟩
  unfold V_act_Right L_act_Right R_act_Right
  simp only [↓Z10, ↓Z04, ↓Z0p, ↓Z0f, ↓Z09, ↓Z0a, ↓Z0o, ↓Z1i, ↓Z14, ↓Z23, ↓Z0n, ↓Z1p, ↓Z0i, ↓Z0c, ↓Z0z, ↓Z0b, Z2m, Z05, Z17, Z12, Z1b, evN, Z0m, Z1a, Z0l, Z0e, Z0k, Z1s, Z1q, Z1o, Z0w, evT, Opd.ev, Z03, Z00, Z18, Z1k, Z1h, Z0u, Z0x, Z0y, Z0d, Z1t, LOp.isNew, State.prune, Z1j, Z1d, AV.leaf, Heap.at, Z06, Z0s, Z02, Z3w, Z2i, LocG.row, ActG.av, beq_true, beq_false, Z3x, List.length_map, Z2p, Z3a, Z32, binT, binQ, Bool.and_self, resQ, resV, resT, Z4n, evEq, eqV, Z0t, RetS, AV.d.injEq, DV.bool.injEq, ↓reduceIte, Nat.reduceAdd, Nat.reduceBEq, List.length_cons, List.length_nil, List.replicate_succ, List.replicate_zero, List.nil_append, List.append_nil, List.map_cons, List.map_nil, List.all_cons, List.all_nil, List.set_cons_zero, List.getD_cons_zero, List.getD_cons_succ, true_and, and_self, Nat.reduceLT, Nat.zero_add, Nat.add_zero, Bool.false_eq_true, sp_act_Right, ActG.av]
  simp only [boolK]
  (repeat' (first | intro _ | apply And.intro))
  all_goals (simp_all [ActG.right, ActG.isR, ActG.isW, ActG.isA] <;> omega)

theorem body_ref08_Right {T : Tab} : sp_act_Right.Body T V_ref08_Right L_ref08_Right R_ref08_Right := by
  rintro ⟨a, l, full⟩ -
  refine .inl ⟨rfl, ?_⟩
  unfold V_ref08_Right L_ref08_Right R_ref08_Right
  simp only [↓Z0g, ↓Z10, ↓Z04, ↓Z0p, ↓Z0f, ↓Z09, ↓Z0a, ↓Z0o, ↓Z1i, ↓Z14, ↓Z23, ↓Z0n, ↓Z1p, ↓Z0i, ↓Z0c, ↓Z0z, ↓Z0b, Z2m, Z05, Z17, Z12, Z1b, evN, Z0m, Z1a, Z0l, Z0e, Z0k, Z1s, Z1q, Z0w, evT, Opd.ev, Z03, Z00, Z18, Z1k, Z1h, Z0u, Z0x, Z0y, Z0d, Z1t, LOp.isNew, State.prune, Z1j, Z1d, AV.leaf, Heap.at, Z06, Z0s, Z02, Z3w, Z2i, LocG.row, ActG.av, Z3x, List.length_map, Z2p, Z3a, Z32, evUn, binT, binQ, Bool.and_self, resQ, resV, resT, Z4n, evEq, eqV, eqK, eqC1, Z3t, Z3i, putRow, Z0t, RetS, Nat.le_refl, AV.d.injEq, DV.bool.injEq, ↓reduceIte, Nat.reduceAdd, Nat.reduceBEq, List.length_cons, List.length_nil, List.replicate_succ, List.replicate_zero, List.nil_append, List.cons_append, List.append_nil, List.map_cons, List.map_nil, List.all_cons, List.all_nil, List.set_cons_zero, List.getD_cons_zero, List.getD_cons_succ, List.drop_zero, List.drop_succ_cons, List.take_succ_cons, List.take_zero, Bool.and_true, true_and, Option.bind_some, Option.map_some, decide_true, and_self, Nat.reduceLT, Nat.reduceLeDiff, Nat.zero_add, Nat.add_zero, Bool.false_eq_true, sp_act_Right, ActG.av]
  simp only [boolK]
  (repeat' (first | intro _ | apply And.intro))
  all_goals (simp_all [ActG.right, ActG.isR, ActG.isW, ActG.isA] <;> omega)

theorem Z2n {i n : Nat} (h : i < n) (hn : n ≤ maxLen) : IntKind.i64.wrap ((i : Int) + 1) = ((i + 1 : Nat) : Int) := by
  have hm : maxLen = 9223372036854775807 := rfl
  rw [wrap_id (by omega) (by omega)]; omega

def sp_sameI : Sp := ⟨List Int × Bool × List Int × Bool, fun x => [.d (.list (x.1.map rowI) x.2.1), .d (.list (x.2.2.1.map rowI) x.2.2.2)], fun x => .data (x.1.length ≤ maxLen) (.d (.bool (decide (x.1 = x.2.2.1)))) true⟩
theorem at_sameI (a b : List Int) (f g : Bool) : sp_sameI.at [.d (.list (a.map rowI) f), .d (.list (b.map rowI) g)] = .data (a.length ≤ maxLen) (.d (.bool (decide (a = b)))) true :=
  Sp.at_enc (s := sp_sameI) (fun x y h => by
    obtain ⟨a, b, c, d⟩ := x; obtain ⟨a', b', c', d'⟩ := y
    simp only [sp_sameI, List.cons.injEq, AV.d.injEq, DV.list.injEq, and_true] at h
    obtain ⟨⟨h1, h2⟩, h3, h4⟩ := h
    rw [Z4h rowI_inj h1, h2, Z4h rowI_inj h3, h4]) (a, f, b, g)

theorem body_ref08_SameNums {T : Tab} : sp_sameI.Body T V_ref08_SameNums L_ref08_SameNums R_ref08_SameNums := by
  rintro ⟨a, f, b, g⟩ hlen
  refine .inl ⟨rfl, ?_⟩
  unfold V_ref08_SameNums L_ref08_SameNums R_ref08_SameNums
  simp only [↓Z0g, ↓Z10, ↓Z04, ↓Z0p, ↓Z0f, ↓Z09, ↓Z1g, ↓Z0a, ↓Z0o, ↓Z1i, ↓Z0n, ↓Z1p, ↓Z0z, ↓Z0b, Z2m, Z05, Z17, Z1b, evN, Z0m, Z1a, Z0l, Z0k, Z0w, evT, Opd.ev, Z03, Z00, Z18, Z0u, Z0x, Z0y, Z0d, Z1t, LOp.isNew, State.prune, Z3x, List.length_map, Z32, binT, binQ, resQ, resV, resT, Z0t, RetS, AV.d.injEq, DV.bool.injEq, ↓reduceIte, Nat.reduceBEq, List.length_nil, List.replicate_zero, List.append_nil, List.map_cons, List.map_nil, true_and, Nat.zero_add, Nat.add_zero, Bool.false_eq_true, sp_sameI]
  have hm : maxLen = 9223372036854775807 := rfl
  have hlen : a.length ≤ maxLen := hlen
  refine ⟨fun h => ?_, fun h => ?_⟩
  · have hab : a.length = b.length := by omega
    refine Loop.fam [0, 1, 5] (fun i : Nat => ⟨[(0, .d (.list (a.map rowI) f)), (1, .d (.list (b.map rowI) g)), (5, .d (.int .i64 (i : Nat)))], []⟩) (fun i => i ≤ a.length ∧ a.take i = b.take i) (fun i => a.length - i) 0 [] (by simp) (by simp)
      (by simp only [State.can, AV.can, HO.can, Z03, Z00, Heap.at, Nat.reduceBEq, Option.getD_some, List.map_cons, List.map_nil]; rfl) ⟨by omega, by simp⟩ ?_
    rintro i ⟨h1, h2⟩
    simp only [↓Z0g, ↓Z10, ↓Z16, ↓Z04, ↓Z0p, ↓Z0f, ↓Z09, ↓Z0a, ↓Z0o, ↓Z1u, ↓Z1i, ↓Z14, ↓Z15, ↓Z23, ↓Z0n, ↓Z1p, ↓Z3g, ↓Z30, ↓Z4o, ↓Z0z, ↓Z0b, Z2m, Z05, Z0q, Z17, Z1b, evN, Z0m, Z1a, Z24, Z0l, Z0k, Z0w, evT, Opd.ev, Z03, Z00, Z18, Z0u, Z0x, Z0d, Z1t, LOp.isNew, State.prune, Z0s, idx_I, Z2i, rowI, Int.toNat_natCast, Z3x, List.length_map, Z2p, Z32, binT, binQ, chk, Z2h, resQ, resV, resT, Z0t, RetS, AV.d.injEq, DV.bool.injEq, ↓reduceIte, Nat.reduceBEq, List.length_cons, List.length_nil, List.replicate_zero, List.nil_append, List.cons_append, List.append_nil, List.map_cons, List.map_nil, List.all_nil, List.getD_cons_zero, true_and, Nat.reduceLT, List.reverse_cons, List.reverse_nil, Nat.zero_add, Nat.add_zero, Bool.false_eq_true, rowI, Int.toNat_natCast]
    refine ⟨fun h3 => ?_, fun h3 => ?_⟩
    · have h3 : i < a.length := by omega
      refine ⟨⟨by omega, by omega⟩, ⟨by omega, by omega⟩, fun h4 => ?_, fun h4 => ?_⟩
      · rw [Z2n h3 hlen]
        refine Z0r.mk [] (i + 1) (by simp) (by simp) (by simp only [State.can, AV.can, HO.can, Z03, Z00, Heap.at, Nat.reduceBEq, Option.getD_some, List.map_cons, List.map_nil]) ⟨by omega, ?_⟩ (by omega)
        rw [List.take_add_one, List.take_add_one, h2, List.getElem?_eq_getElem h3, List.getElem?_eq_getElem (by omega)]
        have h4 : a.getD i default = b.getD i default := h4
        rw [Z3z h3, Z3z (by omega)] at h4
        rw [h4]
      · simp only [Bool.false_eq, decide_eq_false_iff_not]
        intro e; subst e; exact h4 rfl
    · have : i = a.length := by omega
      subst this
      rw [List.take_length, hab, List.take_length] at h2
      simp [h2]
  · simp only [Bool.false_eq, decide_eq_false_iff_not]
    intro e; subst e; exact h rfl

theorem take_next {α : Type} {a b : List α} {i : Nat} {d : α} (h2 : a.take i = b.take i) (h3 : i < a.length) (h4 : i < b.length) (h5 : a.getD i d = b.getD i d) : a.take (i + 1) = b.take (i + 1) := by
  rw [Z3z h3, Z3z h4] at h5
  rw [List.take_add_one, List.take_add_one, h2, List.getElem?_eq_getElem h3, List.getElem?_eq_getElem h4, h5]
theorem take_all {α : Type} {a b : List α} (h : a.take a.length = b.take a.length) (hl : a.length = b.length) : a = b := by
  rw [List.take_length, hl, List.take_length] at h; exact h

/-- Are two lists the same? -/
def sp_same {α : Type} [DecidableEq α] (row : α → List DV) : Sp := ⟨List α × Bool × List α × Bool, fun x => [.d (.list (x.1.map row) x.2.1), .d (.list (x.2.2.1.map row) x.2.2.2)], fun x => .data (x.1.length ≤ maxLen) (.d (.bool (decide (x.1 = x.2.2.1)))) true⟩
theorem at_same {α : Type} [DecidableEq α] {row : α → List DV} (hr : ∀ x y, row x = row y → x = y) (a b : List α) (f g : Bool) : (sp_same row).at [.d (.list (a.map row) f), .d (.list (b.map row) g)] = .data (a.length ≤ maxLen) (.d (.bool (decide (a = b)))) true :=
  Sp.at_enc (s := sp_same row) (fun x y h => by
    obtain ⟨a, b, c, d⟩ := x; obtain ⟨a', b', c', d'⟩ := y
    simp only [sp_same, List.cons.injEq, AV.d.injEq, DV.list.injEq, and_true] at h
    obtain ⟨⟨h1, h2⟩, h3, h4⟩ := h
    rw [Z4h hr h1, h2, Z4h hr h3, h4]) (a, f, b, g)
end Go.Ago

/- Contracts of package hist. Conditions: none. -/
set_option maxRecDepth 100000
set_option linter.unusedSimpArgs false
set_option linter.unusedVariables false
namespace Go.Ago

theorem dcells_of (cs : List DV) : Z39 (cs.map .d) = some cs := by
  induction cs with
  | nil => rfl
  | cons c cs ih => simp [Z39, ih]
theorem putRow_all {α : Type} {cs r : List α} (h : cs.length = r.length) : putRow 0 cs r = cs := by simp [putRow, h]
theorem set_mid {α : Type} {l r : List α} {i : Nat} {x y : α} (h : l.length = i) : (l ++ x :: r).set i y = l ++ y :: r := by subst h; simp
theorem get_mid {α : Type} {l r : List α} {i : Nat} {x d : α} (h : l.length = i) : (l ++ x :: r).getD i d = x := by subst h; simp
theorem stepK_store_row {α : Type} [Inhabited α] {f : α → List DV} {l : List α} {id sz sz0 row : Nat} {k : Delta → Prop} {x : α} {v : AV} (hf : ∀ x, (f x).length = sz) (hv : Z1d v = (f x).map .d) (hq : Z1j v) :
    stepK (evStoreO (.dvec sz (l.map f)) id sz sz0 row 0 v) k ↔ (sz = sz0 ∧ row < l.length) ∧ k ⟨.tup [], [(id, .dvec sz ((l.set row x).map f))], []⟩ := by
  have hd : Z39 (Z1d v) = some (f x) := by rw [hv]; exact dcells_of _
  have hl : (Z1d v).length = sz := by rw [hv, List.length_map, hf]
  simp only [evStoreO, hd, Z0e, List.length_map, hl]
  have key : row < l.length → (l.map f).set row (putRow 0 (f x) ((l.map f).getD row [])) = (l.set row x).map f := fun h => by
    rw [map_getD (d := default) h, List.map_set]
    congr 1
    exact putRow_all (by rw [hf, hf])
  constructor
  · rintro ⟨⟨h1, h2, h3, h4, h5⟩, h6⟩
    rw [key h2] at h6
    exact ⟨⟨h1, h2⟩, h6⟩
  · rintro ⟨⟨h1, h2⟩, h6⟩
    rw [key h2]
    exact ⟨⟨h1, h2, hq, trivial, by omega⟩, h6⟩
theorem store_rowRat {l : List RatG} {id sz0 row : Nat} {k : Delta → Prop} {a b : Int} :
    stepK (evStoreO (.dvec 2 (l.map RatG.row)) id 2 sz0 row 0 (.agg [.d (.int .i64 a), .d (.int .i64 b)])) k ↔ (2 = sz0 ∧ row < l.length) ∧ k ⟨.tup [], [(id, .dvec 2 ((l.set row ⟨a, b⟩).map RatG.row))], []⟩ :=
  stepK_store_row (fun _ => rfl) rfl (by simp [Z1j, AV.leaf])

def sp_plain : Sp := ⟨Int, fun k => [.d (.int .i64 k)], fun k => .data True (.d (.bool (decide (k = 1) || decide (k = 2)))) true⟩
theorem at_plain (k : Int) : sp_plain.at [.d (.int .i64 k)] = .data True (.d (.bool (decide (k = 1) || decide (k = 2)))) true :=
  Sp.at_enc (s := sp_plain) (fun (x y : Int) h => by simpa [sp_plain] using h) k
theorem body_hist_plain {T : Tab} : sp_plain.Body T V_hist_plain L_hist_plain R_hist_plain := by
  intro (k : Int) h
  refine .inl ⟨rfl, ?_⟩
  unfold V_hist_plain L_hist_plain R_hist_plain
  simp only [↓Z10, ↓Z04, ↓Z0p, ↓Z0a, ↓Z0o, ↓Z0n, ↓Z1p, ↓Z0i, ↓Z0c, ↓Z0b, Z2m, Z05, Z17, Z12, Z1b, evN, Z0m, Z1a, Z0l, Z0k, Z1q, evT, Opd.ev, Z03, Z00, Z18, Z1h, Z0u, Z0y, Z0d, Z1t, LOp.isNew, State.prune, Z32, binT, binQ, resQ, resV, resT, Z4n, RetS, AV.d.injEq, DV.bool.injEq, ↓reduceIte, Nat.reduceBEq, List.length_nil, List.replicate_zero, List.append_nil, List.map_cons, List.map_nil, true_and, Nat.add_zero, Bool.false_eq_true, sp_plain]
  by_cases h1 : k = 1 <;> simp [h1]

def startG (n : Nat) : List RatG := List.replicate n ⟨0, 1⟩
def zeroG (n : Nat) : List RatG := List.replicate n ⟨0, 0⟩
def sp_begin : Sp := ⟨Int, fun n => [.d (.int .i64 n)], fun n => .data (0 ≤ n ∧ n ≤ 1048576) (.d (.list ((startG n.toNat).map RatG.row) false)) false⟩
theorem at_begin (n : Int) : sp_begin.at [.d (.int .i64 n)] = .data (0 ≤ n ∧ n ≤ 1048576) (.d (.list ((startG n.toNat).map RatG.row) false)) false :=
  Sp.at_enc (s := sp_begin) (fun (x y : Int) h => by simpa [sp_begin] using h) n
theorem body_hist_begin {T : Tab} : sp_begin.Body T V_hist_begin L_hist_begin R_hist_begin := by
  rintro (n : Int) ⟨h1, h2⟩
  have h1 : 0 ≤ n := h1
  have h2 : n ≤ 1048576 := h2
  refine ⟨rfl, ?_⟩
  obtain ⟨n, rfl⟩ := Int.eq_ofNat_of_zero_le h1
  unfold V_hist_begin L_hist_begin R_hist_begin
  simp only [↓Z04, ↓Z0p, ↓Z09, ↓Z1g, ↓Z0a, ↓Z0o, ↓Z0n, Z2m, Z05, Z17, Z1b, evN, Z0m, Z1a, Z0l, Z0e, Z0k, evT, Opd.ev, Z03, Z00, Z18, Z1k, Z0y, Z0d, Z1t, LOp.isNew, State.prune, Z21, Int.toNat_natCast, Z3x, Z20, Z4f, evMk, Z0t, ↓reduceIte, Nat.reduceBEq, List.length_cons, List.length_nil, List.replicate_succ, List.replicate_zero, List.nil_append, List.append_nil, List.map_cons, List.map_nil, List.set_cons_zero, true_and, Nat.zero_add, Nat.add_zero, Bool.false_eq_true, sp_begin]
  have r1 : roomy n 16 := Z1e (by omega) (by omega)
  refine ⟨⟨by omega, by omega, r1⟩, ?_⟩
  refine Loop.fam [0, 3, 8, 9] (fun i : Nat => ⟨[(0, .d (.int .i64 n)), (3, .ref 0 2 0 n true), (8, .d (.int .i64 n)), (9, .d (.int .i64 i))], [.dvec 2 ((startG i ++ zeroG (n - i)).map RatG.row)]⟩)
    (fun i => i ≤ n) (fun i => n - i) 0 [0] (by simp) (by simp) (by simp only [State.can, AV.can, HO.can, idx, Z03, Z00, Heap.at, Nat.reduceBEq, ↓reduceIte, Option.getD_some, Option.map_some, List.map_cons, List.map_nil, List.getD_cons_zero]; simp [startG, zeroG]) (by omega) ?_
  intro i hi
  simp only [↓Z0g, ↓Z10, ↓Z16, ↓Z04, ↓Z0p, ↓Z0f, ↓Z09, ↓Z0a, ↓Z0o, ↓Z1u, ↓Z14, ↓Z15, ↓Z0n, ↓Z1p, ↓Z3g, ↓Z30, ↓Z0b, Z2m, Z05, Z17, Z1b, evN, Z0m, Z1a, Z0l, Z0k, Z0w, evT, Opd.ev, Z03, Z00, Z18, Z2l, Z1k, Z0u, Z0x, Z0d, Z1t, LOp.isNew, State.prune, Heap.at, Z08, Z07, Z0h, RatG.row, Z22, Int.toNat_natCast, List.length_map, Z11, List.length_append, Z32, binT, binQ, resQ, resV, resT, putRow, Z0t, RetD, AV.frz, Nat.le_refl, ↓reduceIte, Nat.reduceAdd, Nat.reduceBEq, List.length_cons, List.length_nil, List.replicate_zero, List.nil_append, List.cons_append, List.append_nil, List.map_cons, List.map_nil, List.set_cons_zero, List.getD_cons_zero, List.drop_zero, List.drop_succ_cons, List.take_succ_cons, List.take_zero, true_and, and_true, and_self, Nat.zero_add, Nat.add_zero, Bool.false_eq_true]
  have ls : (startG i).length = i := by simp [startG]
  have lz : (zeroG (n - i)).length = n - i := by simp [zeroG]
  refine ⟨fun h => ?_, fun h => ?_⟩
  · have h' : i < n := by omega
    rw [Z2n h' (by unfold maxLen; omega)]
    refine ⟨⟨by omega, by omega⟩, by omega, Z0r.mk [0] (i + 1) (by simp) (by simp) ?_ (by show i + 1 ≤ n; omega) (by show n - (i + 1) < n - i; omega)⟩
    have e : zeroG (n - i) = ⟨0, 0⟩ :: zeroG (n - (i + 1)) := by
      unfold zeroG
      rw [show n - i = (n - (i + 1)) + 1 by omega, List.replicate_succ]
    have e2 : startG (i + 1) = startG i ++ [⟨0, 1⟩] := by unfold startG; rw [List.replicate_succ']
    rw [e, get_mid ls, set_mid ls, e2]
    simp only [State.can, AV.can, HO.can, idx, Z03, Z00, Heap.at, Nat.reduceBEq, ↓reduceIte, Option.getD_some, Option.map_some, List.map_cons, List.map_nil, List.getD_cons_zero]
    simp
  · have : i = n := by omega
    subst this
    rw [ls, lz, if_pos (by omega)]
    simp [zeroG, startG]

def ratMaxG (x y : RatG) : RatG := ⟨(rat_max x.num x.den y.num y.den).1, (rat_max x.num x.den y.num y.den).2⟩
def joinG (a b : List RatG) : List RatG := (List.range a.length).map fun i => ratMaxG (a.getD i default) (b.getD i default)
def sp_join : Sp := ⟨List RatG × Bool × List RatG × Bool, fun x => [.d (.list (x.1.map RatG.row) x.2.1), .d (.list (x.2.2.1.map RatG.row) x.2.2.2)], fun x => .data (x.1.length ≤ x.2.2.1.length ∧ x.1.length ≤ 1048576) (.d (.list ((joinG x.1 x.2.2.1).map RatG.row) false)) false⟩
theorem at_join (a b : List RatG) (f g : Bool) : sp_join.at [.d (.list (a.map RatG.row) f), .d (.list (b.map RatG.row) g)] = .data (a.length ≤ b.length ∧ a.length ≤ 1048576) (.d (.list ((joinG a b).map RatG.row) false)) false :=
  Sp.at_enc (s := sp_join) (fun x y h => by
    obtain ⟨a, b, c, d⟩ := x; obtain ⟨a', b', c', d'⟩ := y
    simp only [sp_join, List.cons.injEq, AV.d.injEq, DV.list.injEq, and_true] at h
    obtain ⟨⟨h1, h2⟩, h3, h4⟩ := h
    rw [Z4h RatG.row_inj h1, h2, Z4h RatG.row_inj h3, h4]) (a, f, b, g)
theorem body_hist_join {T : Tab} {n1 n2 : Nat} (k1 : Knows T n1 (cloneS 2 16)) (k2 : Knows T n2 sp_rat_Max) : sp_join.Body T V_hist_join (L_hist_join n1 n2) R_hist_join := by
  have F1 := k1.F; have G1 := k1.G; have F2 := k2.F; have G2 := k2.G
  rintro ⟨a, f, b, g⟩ ⟨h1, h2⟩
  have h1 : a.length ≤ b.length := h1
  have h2 : a.length ≤ 1048576 := h2
  refine ⟨rfl, ?_⟩
  unfold V_hist_join L_hist_join R_hist_join
  simp only [↓Z04, ↓Z0p, ↓Z09, ↓Z1g, ↓Z0a, ↓Z0o, ↓Z0n, Z2m, Z05, Z17, Z1b, evN, Z19, Z0m, Z1a, Z0l, Z0e, Z0k, evT, Opd.ev, Z03, Z00, Z18, Z1k, Z0y, Z0d, Z1t, LOp.isNew, State.prune, Z3x, List.length_map, Z13, Z1y, fnOf, Z1v, Z3u, Z2z, Z0t, Z1c, ↓reduceIte, Nat.reduceBEq, List.length_cons, List.length_nil, List.replicate_succ, List.replicate_zero, List.nil_append, List.append_nil, List.map_cons, List.map_nil, List.set_cons_zero, List.flatten_cons, List.flatten_nil, true_and, and_true, or_true, Nat.zero_add, Nat.add_zero, Bool.false_eq_true, sp_join, F1, G1, at_clone]
  have r1 : roomy a.length 16 := Z1e (by omega) (by omega)
  refine ⟨r1, ?_⟩
  refine Loop.fam [0, 1, 5, 10, 11] (fun i : Nat => ⟨[(0, .d (.list (a.map RatG.row) f)), (1, .d (.list (b.map RatG.row) g)), (5, .ref 0 2 0 a.length true), (10, .d (.int .i64 a.length)), (11, .d (.int .i64 i))], [.dvec 2 (((joinG a b).take i ++ a.drop i).map RatG.row)]⟩)
    (fun i => i ≤ a.length) (fun i => a.length - i) 0 [0] (by simp) (by simp) (by simp only [State.can, AV.can, HO.can, idx, Z03, Z00, Heap.at, Nat.reduceBEq, ↓reduceIte, Option.getD_some, Option.map_some, List.map_cons, List.map_nil, List.getD_cons_zero]; simp) (by omega) ?_
  intro i hi
  simp only [↓Z0g, ↓Z10, ↓Z16, ↓Z04, ↓Z0p, ↓Z0f, ↓Z09, ↓Z0a, ↓Z0o, ↓Z1u, ↓Z14, ↓Z15, ↓Z0n, ↓Z1p, ↓Z3g, ↓Z30, ↓Z0b, Z2m, Z05, Z0q, Z17, Z1b, evN, Z19, Z0m, Z1a, Z24, Z0l, Z0e, Z0k, Z0w, evT, Opd.ev, Z03, Z00, Z18, Z2l, Z1k, Z0u, Z0x, Z0d, Z1t, LOp.isNew, State.prune, Heap.at, Z06, Z0s, Z0j, Z44, Z08, Z07, RatG.row, Z1z, Int.toNat_natCast, List.length_map, Z11, List.length_append, List.take_of_length_le, Z2p, Z32, binT, binQ, chk, Z2h, Bool.and_self, resQ, resV, resT, Z13, Z1y, fnOf, Z1v, isD, Z3u, Z0t, RetD, AV.frz, Nat.le_refl, ↓reduceIte, Nat.reduceAdd, Nat.reduceBEq, List.length_cons, List.length_nil, List.replicate_zero, List.nil_append, List.cons_append, List.append_nil, List.map_cons, List.map_nil, List.all_cons, List.all_nil, List.set_cons_zero, List.getD_cons_zero, List.drop_zero, List.flatten_cons, List.flatten_nil, true_and, and_true, List.reverse_cons, List.reverse_nil, Nat.zero_add, Nat.add_zero, Bool.false_eq_true, F2, G2, at_rat_Max, store_rowRat]
  have lj : (joinG a b).length = a.length := by simp [joinG]
  have lt : ((joinG a b).take i).length = i := by rw [List.length_take]; omega
  have ld : (a.drop i).length = a.length - i := by simp
  refine ⟨fun h => ?_, fun h => ?_⟩
  · have h' : i < a.length := by omega
    have e : a.drop i = a.getD i default :: a.drop (i + 1) := by rw [Z3z h']; exact List.drop_eq_getElem_cons h'
    have ej : (joinG a b).take (i + 1) = (joinG a b).take i ++ [ratMaxG (a.getD i default) (b.getD i default)] := by
      rw [List.take_add_one, List.getElem?_eq_getElem (by omega)]
      simp [joinG]
    rw [Z2n h' (by unfold maxLen; omega)]
    refine ⟨⟨by omega, by omega⟩, by omega, ⟨by omega, by omega⟩, ⟨by omega, by omega⟩, by omega, Z0r.mk [0] (i + 1) (by simp) (by simp) ?_ (by show i + 1 ≤ a.length; omega) (by show a.length - (i + 1) < a.length - i; omega)⟩
    rw [e, get_mid lt, set_mid lt, ej]
    simp only [State.can, AV.can, HO.can, idx, Z03, Z00, Heap.at, Nat.reduceBEq, ↓reduceIte, Option.getD_some, Option.map_some, List.map_cons, List.map_nil, List.getD_cons_zero]
    simp [ratMaxG]
  · have : i = a.length := by omega
    subst this
    rw [lt, ld, if_pos (by omega), List.take_of_length_le (by omega : (joinG a b).length ≤ a.length), List.drop_length, List.append_nil, List.take_of_length_le (by omega)]

def sp_stampCmp : Sp := ⟨StampG × RatG, fun x => [.agg [.d (.int .i64 x.1.when.num), .d (.int .i64 x.1.when.den), .d (.int .i64 x.1.val)], .agg [.d (.int .i64 x.2.num), .d (.int .i64 x.2.den)]], fun x => .data True (.d (.int .i64 (rat_cmp x.1.when.num x.1.when.den x.2.num x.2.den))) true⟩
theorem at_stampCmp (n d v m e : Int) : sp_stampCmp.at [.agg [.d (.int .i64 n), .d (.int .i64 d), .d (.int .i64 v)], .agg [.d (.int .i64 m), .d (.int .i64 e)]] = .data True (.d (.int .i64 (rat_cmp n d m e))) true :=
  Sp.at_enc (s := sp_stampCmp) (fun x y h => by
    obtain ⟨⟨⟨a, b⟩, c⟩, d, e⟩ := x; obtain ⟨⟨⟨a', b'⟩, c'⟩, d', e'⟩ := y
    simpa [sp_stampCmp, and_assoc] using h) (⟨⟨n, d⟩, v⟩, ⟨m, e⟩)
theorem body_hist_at_1 {T : Tab} {n1 : Nat} (k1 : Knows T n1 sp_rat_Cmp) : sp_stampCmp.Body T V_hist_at_1 (L_hist_at_1 n1) R_hist_at_1 := by
  have F1 := k1.F; have G1 := k1.G
  rintro ⟨⟨⟨n, d⟩, v⟩, m, e⟩ h
  refine .inl ⟨rfl, ?_⟩
  unfold V_hist_at_1 L_hist_at_1 R_hist_at_1
  simp only [↓Z10, ↓Z04, ↓Z0p, ↓Z0a, ↓Z0o, ↓Z0n, ↓Z1p, Z2m, Z05, Z17, Z1b, evN, Z19, Z0m, Z1a, Z0l, Z0e, Z0k, evT, Opd.ev, Z03, Z00, Z18, Z1k, Z0y, Z0d, Z1t, LOp.isNew, State.prune, Z1j, Z1d, AV.leaf, Heap.at, Z06, Z02, List.take_of_length_le, Z2p, Z3a, Bool.and_self, resQ, resV, resT, Z13, Z1y, fnOf, Z1v, isD, Z3u, RetS, Nat.le_refl, ↓reduceIte, Nat.reduceAdd, Nat.reduceBEq, List.length_cons, List.length_nil, List.replicate_succ, List.replicate_zero, List.nil_append, List.append_nil, List.map_cons, List.map_nil, List.all_cons, List.all_nil, List.set_cons_zero, List.set_cons_succ, List.getD_cons_zero, List.getD_cons_succ, List.drop_zero, List.take_succ_cons, List.take_zero, List.flatten_cons, List.flatten_nil, and_self, Nat.reduceLT, Nat.reduceLeDiff, Nat.zero_add, Nat.add_zero, Bool.false_eq_true, sp_stampCmp, F1, G1, at_rat_Cmp]

/-! ### slices.BinarySearchFunc over stamps -/
theorem mid_wrap {i j : Nat} (hi : i ≤ 1048576) (hj : j ≤ 1048576) : IntKind.i64.wrap ((IntKind.u64.wrap (IntKind.i64.wrap ((i : Int) + (j : Int)))).fdiv (2 ^ min 1 IntKind.u64.bits)) = (((i + j) / 2 : Nat) : Int) := by
  have e1 : IntKind.i64.wrap ((i : Int) + (j : Int)) = (i : Int) + j := wrap_id (by omega) (by omega)
  have e2 : IntKind.u64.wrap ((i : Int) + j) = (i : Int) + j := by rw [IntKind.wrap_u64]; exact Int.emod_eq_of_lt (by omega) (by omega)
  have e3 : ((2 : Int) ^ min 1 IntKind.u64.bits) = 2 := rfl
  rw [e1, e2, e3, Int.fdiv_eq_ediv_of_nonneg _ (by omega)]
  have e4 : ((i : Int) + j) / 2 = (((i + j) / 2 : Nat) : Int) := by omega
  rw [e4]
  exact wrap_id (by omega) (by omega)
/-- The place that the search comes to. -/
def bsGo (p : Nat → Bool) : Nat → Nat → Nat → Nat
  | 0, i, _ => i
  | f + 1, i, j => if i < j then (if p ((i + j) / 2) then bsGo p f ((i + j) / 2 + 1) j else bsGo p f i ((i + j) / 2)) else i
theorem bsGo_fuel (p : Nat → Bool) : ∀ (d f i j : Nat), j - i ≤ d → j - i ≤ f → bsGo p f i j = bsGo p d i j := by
  intro d
  induction d with
  | zero =>
    intro f i j h1 h2
    cases f with
    | zero => rfl
    | succ f => simp only [bsGo]; rw [if_neg (by omega)]
  | succ d ih =>
    intro f i j h1 h2
    cases f with
    | zero => simp only [bsGo]; rw [if_neg (by omega)]
    | succ f =>
      simp only [bsGo]
      by_cases h : i < j
      · rw [if_pos h, if_pos h]
        rw [ih f ((i + j) / 2 + 1) j (by omega) (by omega), ih f i ((i + j) / 2) (by omega) (by omega)]
      · rw [if_neg h, if_neg h]
def stampLess (l : List StampG) (w : RatG) (k : Nat) : Bool := decide (rat_cmp (l.getD k default).when.num (l.getD k default).when.den w.num w.den < 0)
def bsAt (l : List StampG) (w : RatG) : Nat := bsGo (stampLess l w) l.length 0 l.length
def bsHas (l : List StampG) (w : RatG) : Bool := decide (bsAt l w < l.length) && decide (rat_cmp (l.getD (bsAt l w) default).when.num (l.getD (bsAt l w) default).when.den w.num w.den = 0)

def sp_bs (n : Nat) : Sp := ⟨List StampG × Bool × RatG, fun x => [.d (.list (x.1.map StampG.row) x.2.1), .agg [.d (.int .i64 x.2.2.num), .d (.int .i64 x.2.2.den)], .d (.fn n)],
  fun x => .data (x.1.length ≤ 1048576) (.tup [.d (.int .i64 (bsAt x.1 x.2.2)), .d (.bool (bsHas x.1 x.2.2))]) true⟩
theorem at_bs (n : Nat) (l : List StampG) (f : Bool) (a b : Int) : (sp_bs n).at [.d (.list (l.map StampG.row) f), .agg [.d (.int .i64 a), .d (.int .i64 b)], .d (.fn n)] = .data (l.length ≤ 1048576) (.tup [.d (.int .i64 (bsAt l ⟨a, b⟩)), .d (.bool (bsHas l ⟨a, b⟩))]) true :=
  Sp.at_enc (s := sp_bs n) (fun x y h => by
    obtain ⟨l, f, a, b⟩ := x; obtain ⟨l', f', a', b'⟩ := y
    simp only [sp_bs, List.cons.injEq, AV.d.injEq, AV.agg.injEq, DV.list.injEq, DV.int.injEq, and_true, true_and] at h
    obtain ⟨⟨h1, h2⟩, h3, h4⟩ := h
    rw [Z4h StampG.row_inj h1, h2, h3, h4]) (l, f, ⟨a, b⟩)
theorem body_slices_BinarySearchFunc_api_Stamp_api_Rat {T : Tab} {n_hist_at_1 : Nat} (k1 : Knows T n_hist_at_1 sp_stampCmp) :
    (sp_bs n_hist_at_1).Body T V_slices_BinarySearchFunc_api_Stamp_api_Rat L_slices_BinarySearchFunc_api_Stamp_api_Rat R_slices_BinarySearchFunc_api_Stamp_api_Rat := by
  have F1 := k1.F; have G1 := k1.G
  rintro ⟨l, f, a, b⟩ h
  have h : l.length ≤ 1048576 := h
  refine .inl ⟨rfl, ?_⟩
  unfold V_slices_BinarySearchFunc_api_Stamp_api_Rat L_slices_BinarySearchFunc_api_Stamp_api_Rat R_slices_BinarySearchFunc_api_Stamp_api_Rat
  simp only [↓Z04, ↓Z0p, ↓Z09, ↓Z1g, ↓Z0a, ↓Z0o, ↓Z0n, Z2m, Z05, Z17, Z1b, evN, Z0m, Z1a, Z0l, Z0e, Z0k, evT, Opd.ev, Z03, Z00, Z18, Z1k, Z0y, Z0d, Z1t, LOp.isNew, State.prune, Z1j, Z1d, AV.leaf, Z3x, List.length_map, Bool.and_self, Z0t, ↓reduceIte, Nat.reduceAdd, Nat.reduceBEq, List.length_cons, List.length_nil, List.replicate_succ, List.replicate_zero, List.nil_append, List.append_nil, List.map_cons, List.map_nil, List.all_cons, List.all_nil, List.set_cons_zero, true_and, Nat.zero_add, Nat.add_zero, Bool.false_eq_true, sp_bs]
  refine Loop.fam [0, 2, 4, 8, 9, 10] (fun x : Nat × Nat => ⟨[(0, .d (.list (l.map StampG.row) f)), (2, .d (.fn n_hist_at_1)), (4, .ptr 0 2 0 0), (8, .d (.int .i64 l.length)), (9, .d (.int .i64 (x.1 : Nat))), (10, .d (.int .i64 (x.2 : Nat)))], [.vec 2 [[.d (.int .i64 a), .d (.int .i64 b)]]]⟩)
    (fun x => x.1 ≤ x.2 ∧ x.2 ≤ l.length ∧ bsGo (stampLess l ⟨a, b⟩) (x.2 - x.1) x.1 x.2 = bsAt l ⟨a, b⟩) (fun x => x.2 - x.1) (0, l.length) [0] (by simp) (by simp) (by simp only [State.can, AV.can, AV.canL, HO.can, Z0v, idx, Z03, Z00, Heap.at, Nat.reduceBEq, ↓reduceIte, Option.getD_some, Option.map_some, List.map_cons, List.map_nil, List.getD_cons_zero]; rfl) ⟨by omega, by omega, rfl⟩ ?_
  rintro ⟨i, j⟩ ⟨i1, i2, i3⟩
  have i1 : i ≤ j := i1
  have i2 : j ≤ l.length := i2
  have i3 : bsGo (stampLess l ⟨a, b⟩) (j - i) i j = bsAt l ⟨a, b⟩ := i3
  simp only [↓Z0g, ↓Z10, ↓Z16, ↓Z04, ↓Z0p, ↓Z0f, ↓Z09, ↓Z0a, ↓Z0o, ↓Z1u, ↓Z14, ↓Z15, ↓Z0n, ↓Z1p, ↓Z3g, ↓Z30, ↓Z0i, ↓Z0c, ↓Z0b, Z2m, Z05, Z0q, Z17, Z12, Z1b, evN, Z19, Z0m, Z1a, Z24, Z0l, Z0e, Z0k, Z1s, Z0w, evT, Opd.ev, Z03, Z00, Z18, Z1h, Z0u, Z0x, Z0d, Z1t, LOp.isNew, State.prune, Heap.at, Z06, Z0s, Z02, Z2j, StampG.row, Z1z, Int.toNat_natCast, Int.reduceToNat, List.take_of_length_le, Z2p, Z3a, Z32, binT, binQ, chk, Z2h, Bool.and_self, resQ, resV, resT, Z4n, Z13, Z1y, fnOf, Z1v, isD, Z3u, Z0t, RetS, AV.tup.injEq, List.cons.injEq, Nat.le_refl, AV.d.injEq, DV.int.injEq, DV.bool.injEq, ↓reduceIte, Nat.reduceAdd, Nat.reduceBEq, List.length_cons, List.length_nil, List.replicate_zero, List.nil_append, List.cons_append, List.append_nil, List.map_cons, List.map_nil, List.all_cons, List.all_nil, List.getD_cons_zero, List.drop_zero, List.flatten_cons, List.flatten_nil, true_and, and_true, and_self, Nat.reduceLT, List.reverse_cons, List.reverse_nil, Nat.zero_add, Nat.add_zero, Bool.false_eq_true, F1, G1, at_stampCmp]
  have mid : IntKind.i64.wrap ((IntKind.u64.wrap (IntKind.i64.wrap ((i : Int) + (j : Int)))).fdiv (2 ^ min 1 IntKind.u64.bits)) = (((i + j) / 2 : Nat) : Int) := by
    exact mid_wrap (by omega) (by omega)
  rw [mid]
  simp only [Int.toNat_natCast]
  have less : (decide (rat_cmp (l.getD ((i + j) / 2) default).when.num (l.getD ((i + j) / 2) default).when.den a b < 0)) = stampLess l ⟨a, b⟩ ((i + j) / 2) := rfl
  refine ⟨fun hij => ?_, fun hij => ?_⟩
  · have hij : i < j := by omega
    obtain ⟨d, hd⟩ : ∃ d, j - i = d + 1 := ⟨j - i - 1, by omega⟩
    rw [hd] at i3
    simp only [bsGo] at i3
    rw [if_pos hij] at i3
    refine ⟨by omega, ⟨by omega, by omega⟩, fun hc => ?_, fun hc => ?_⟩
    · rw [if_pos (by rw [← less]; exact decide_eq_true hc)] at i3
      rw [Z2n (n := l.length) (by omega) (by unfold maxLen; omega)]
      exact Z0r.mk [0] ((i + j) / 2 + 1, j) (by simp) (by simp) (by simp only [State.can, AV.can, AV.canL, HO.can, Z0v, idx, Z03, Z00, Heap.at, Nat.reduceBEq, ↓reduceIte, Option.getD_some, Option.map_some, List.map_cons, List.map_nil, List.getD_cons_zero]) ⟨by show (i + j) / 2 + 1 ≤ j; omega, i2, by
        show bsGo _ (j - ((i + j) / 2 + 1)) _ _ = _
        rw [← i3]; exact (bsGo_fuel _ _ _ _ _ (Nat.le_refl _) (by omega)).symm⟩ (by show j - ((i + j) / 2 + 1) < j - i; omega)
    · rw [if_neg (by rw [← less]; simp only [decide_eq_true_eq]; exact hc)] at i3
      exact Z0r.mk [0] (i, (i + j) / 2) (by simp) (by simp) (by simp only [State.can, AV.can, AV.canL, HO.can, Z0v, idx, Z03, Z00, Heap.at, Nat.reduceBEq, ↓reduceIte, Option.getD_some, Option.map_some, List.map_cons, List.map_nil, List.getD_cons_zero]) ⟨by show i ≤ (i + j) / 2; omega, by show (i + j) / 2 ≤ l.length; omega, by
        show bsGo _ ((i + j) / 2 - i) _ _ = _
        rw [← i3]; exact (bsGo_fuel _ _ _ _ _ (Nat.le_refl _) (by omega)).symm⟩ (by show (i + j) / 2 - i < j - i; omega)
  · have hij : i = j := by omega
    have e : bsAt l ⟨a, b⟩ = i := by
      rw [← i3, show j - i = 0 by omega]; rfl
    unfold bsHas
    rw [e]
    refine ⟨fun h2 => ⟨⟨by omega, by omega⟩, rfl, ?_⟩, fun h2 => ⟨rfl, ?_⟩⟩
    · rw [decide_eq_true (by omega : i < l.length), Bool.true_and]
    · rw [decide_eq_false (by omega : ¬ i < l.length), Bool.false_and]

def sp_hist_at : Sp := ⟨List StampG × Bool × RatG, fun x => [.d (.list (x.1.map StampG.row) x.2.1), .agg [.d (.int .i64 x.2.2.num), .d (.int .i64 x.2.2.den)]],
  fun x => .data (x.1.length ≤ 1048576) (.tup [.d (.int .i64 (bsAt x.1 x.2.2)), .d (.bool (bsHas x.1 x.2.2))]) true⟩
theorem at_hist_at (l : List StampG) (f : Bool) (a b : Int) : sp_hist_at.at [.d (.list (l.map StampG.row) f), .agg [.d (.int .i64 a), .d (.int .i64 b)]] = .data (l.length ≤ 1048576) (.tup [.d (.int .i64 (bsAt l ⟨a, b⟩)), .d (.bool (bsHas l ⟨a, b⟩))]) true :=
  Sp.at_enc (s := sp_hist_at) (fun x y h => by
    obtain ⟨l, f, a, b⟩ := x; obtain ⟨l', f', a', b'⟩ := y
    simp only [sp_hist_at, List.cons.injEq, AV.d.injEq, AV.agg.injEq, DV.list.injEq, DV.int.injEq, and_true, true_and] at h
    obtain ⟨⟨h1, h2⟩, h3, h4⟩ := h
    rw [Z4h StampG.row_inj h1, h2, h3, h4]) (l, f, ⟨a, b⟩)
theorem body_hist_at {T : Tab} {n1 n_hist_at_1 : Nat} (k1 : Knows T n1 (sp_bs n_hist_at_1)) : sp_hist_at.Body T V_hist_at (L_hist_at n1 n_hist_at_1) R_hist_at := by
  have F1 := k1.F; have G1 := k1.G
  rintro ⟨l, f, a, b⟩ h
  have h : l.length ≤ 1048576 := h
  refine .inl ⟨rfl, ?_⟩
  unfold V_hist_at L_hist_at R_hist_at
  simp only [↓Z10, ↓Z04, ↓Z0p, ↓Z0a, ↓Z0o, ↓Z0n, ↓Z1p, Z2m, Z05, Z17, Z1b, evN, Z19, Z0m, Z1a, Z0l, Z0e, Z0k, evT, Opd.ev, Z03, Z00, Z18, Z1k, Z0y, Z0d, Z1t, LOp.isNew, State.prune, Z1j, Z1d, AV.leaf, Heap.at, Z06, Z02, List.take_of_length_le, Z2p, Z3a, Bool.and_self, resQ, resV, resT, Z13, Z1y, fnOf, Z1v, isD, Z3u, RetS, Nat.le_refl, ↓reduceIte, Nat.reduceAdd, Nat.reduceBEq, List.length_cons, List.length_nil, List.replicate_succ, List.replicate_zero, List.nil_append, List.append_nil, List.map_cons, List.map_nil, List.all_cons, List.all_nil, List.set_cons_zero, List.getD_cons_zero, List.getD_cons_succ, List.drop_zero, List.flatten_cons, List.flatten_nil, true_and, and_true, and_self, Nat.reduceLT, Nat.zero_add, Nat.add_zero, Bool.false_eq_true, sp_hist_at, F1, G1, at_bs]
  exact h
end Go.Ago

/- The contracts of the reference of layer 1: those of package rat. Conditions: none. -/
set_option maxRecDepth 100000
set_option linter.unusedSimpArgs false
set_option linter.unusedVariables false
namespace Go.Ago

theorem cmp_swap (a b c d : Int) : rat_cmp c d a b = - rat_cmp a b c d := by
  unfold rat_cmp
  rw [Bool.and_comm]
  split
  · unfold sgn
    split <;> split <;> (try split) <;> (try split) <;> omega
  · rfl

theorem cmp_vals (a b c d : Int) : rat_cmp a b c d = -1 ∨ rat_cmp a b c d = 0 ∨ rat_cmp a b c d = 1 := by
  unfold rat_cmp sgn
  split
  · split
    · exact .inl rfl
    · split
      · exact .inr (.inr rfl)
      · exact .inr (.inl rfl)
  · exact .inr (.inl rfl)

/-- The first number by which a whole multiple comes out. -/
theorem least_first {a b d : Int} (hb : 0 < b) (hd : 0 < d) (h0 : b ∣ a * d) (hmin : ∀ e, 0 < e → e < d → ¬ b ∣ a * e) : d = b.tdiv (gcdI a b) ∧ (a * d).tdiv b = a.tdiv (gcdI a b) := by
  have g0 := gcdI_pos (a := a) (b := b) (by omega)
  have ha : gcdI a b ∣ a := Int.ofNat_dvd_left.2 (Nat.gcd_dvd_left _ _)
  have hbd : gcdI a b ∣ b := Int.ofNat_dvd_left.2 (Nat.gcd_dvd_right _ _)
  have hg : gcdI a b = (Nat.gcd a.natAbs b.natAbs : Nat) := rfl
  generalize gcdI a b = g at *
  obtain ⟨A, rfl⟩ := ha
  obtain ⟨B, rfl⟩ := hbd
  have hB : 0 < B := by
    by_cases h : 0 < B
    · exact h
    · have := Int.mul_nonpos_of_nonneg_of_nonpos (Int.le_of_lt g0) (show B ≤ 0 by omega); omega
  have hco : Nat.gcd A.natAbs B.natAbs = 1 := by
    rw [Int.natAbs_mul, Int.natAbs_mul, Nat.gcd_mul_left] at hg
    have hgn : (g.natAbs : Int) = g := by omega
    have : g.natAbs * Nat.gcd A.natAbs B.natAbs = g.natAbs * 1 := by
      have : ((g.natAbs * Nat.gcd A.natAbs B.natAbs : Nat) : Int) = (g.natAbs : Nat) := by rw [← hg, hgn]
      omega
    exact Nat.eq_of_mul_eq_mul_left (by omega) this
  have hBd : B ∣ d := by
    rw [Int.mul_assoc] at h0
    have h1 : B ∣ A * d := Int.dvd_of_mul_dvd_mul_left (by omega) h0
    have h2 := Int.natAbs_dvd_natAbs.2 h1
    rw [Int.natAbs_mul] at h2
    exact Int.natAbs_dvd_natAbs.1 (Nat.Coprime.dvd_of_dvd_mul_left (by rw [Nat.Coprime, Nat.gcd_comm]; exact hco) h2)
  have hdB : d = B := by
    have h1 := Int.le_of_dvd hd hBd
    by_cases h2 : B < d
    · exact absurd ⟨A, by rw [Int.mul_assoc, Int.mul_assoc, Int.mul_comm A B]⟩ (hmin B hB h2)
    · omega
  subst hdB
  refine ⟨by rw [Int.mul_tdiv_cancel_left _ (by omega)], ?_⟩
  rw [Int.mul_tdiv_cancel_left _ (by omega), show g * A * d = A * (g * d) by rw [Int.mul_comm g A, Int.mul_assoc], Int.mul_tdiv_cancel _ (by omega)]

theorem body_ref01_Right {T : Tab} : sp_rat_Right.Body T V_ref01_Right L_ref01_Right R_ref01_Right := by
  rintro ⟨a, b⟩ -
  refine .inl ⟨rfl, ?_⟩
  unfold V_ref01_Right L_ref01_Right R_ref01_Right
  simp only [↓Z10, ↓Z04, ↓Z0p, ↓Z0a, ↓Z0o, ↓Z0n, ↓Z1p, ↓Z0i, ↓Z0c, ↓Z0b, Z2m, Z05, Z17, Z12, Z1b, evN, Z0m, Z1a, Z0l, Z0e, Z0k, Z1s, evT, Opd.ev, Z03, Z00, Z18, Z1k, Z1h, Z0u, Z0y, Z0d, Z1t, LOp.isNew, State.prune, Z1j, Z1d, AV.leaf, Heap.at, Z06, Z02, Z2p, Z3a, Z32, binT, binQ, Bool.and_self, resQ, resV, resT, Z4n, RetS, AV.d.injEq, DV.bool.injEq, ↓reduceIte, Nat.reduceAdd, Nat.reduceBEq, List.length_cons, List.length_nil, List.replicate_succ, List.replicate_zero, List.nil_append, List.append_nil, List.map_cons, List.map_nil, List.all_cons, List.all_nil, List.set_cons_zero, List.getD_cons_zero, List.getD_cons_succ, true_and, and_self, Nat.reduceLT, Nat.zero_add, Nat.add_zero, Bool.false_eq_true, sp_rat_Right]
  simp only [Z47]
  refine ⟨fun h1 => ⟨fun h2 => ⟨fun h3 => ?_, fun h3 => ?_⟩, fun h2 => ?_⟩, fun h1 => ?_⟩ <;> simp [*]

theorem body_ref01_Cmp {T : Tab} {n1 : Nat} (k1 : Knows T n1 sp_rat_Right) : sp_rat_Cmp.Body T V_ref01_Cmp (L_ref01_Cmp n1) R_ref01_Cmp := by
  have F1 := k1.F; have G1 := k1.G
  rintro ⟨a, b, c, d⟩ -
  refine .inl ⟨rfl, ?_⟩
  unfold V_ref01_Cmp L_ref01_Cmp R_ref01_Cmp
  simp only [↓Z0g, ↓Z10, ↓Z04, ↓Z0p, ↓Z0f, ↓Z0a, ↓Z0o, ↓Z1i, ↓Z0n, ↓Z1p, ↓Z0i, ↓Z0c, ↓Z0z, ↓Z0b, Z2m, Z05, Z17, Z12, Z1b, evN, Z19, Z0m, Z1a, Z0l, Z0e, Z0k, Z1q, Z0w, evT, Opd.ev, Z03, Z00, Z18, Z1k, Z1h, Z0u, Z0x, Z0y, Z0d, Z1t, LOp.isNew, State.prune, Z1j, Z1d, AV.leaf, Heap.at, Z06, Z02, Z2p, Z3a, Z32, evUn, binT, binQ, Bool.and_self, resQ, resV, resT, Z4n, Z13, Z1y, fnOf, Z1v, isD, Z3u, Z0t, RetS, Nat.le_refl, AV.d.injEq, DV.int.injEq, ↓reduceIte, Nat.reduceAdd, Nat.reduceBEq, List.length_cons, List.length_nil, List.replicate_succ, List.replicate_zero, List.nil_append, List.append_nil, List.map_cons, List.map_nil, List.all_cons, List.all_nil, List.set_cons_zero, List.set_cons_succ, List.getD_cons_zero, List.getD_cons_succ, List.drop_zero, List.take_succ_cons, List.take_zero, List.flatten_cons, List.flatten_nil, true_and, and_self, Nat.reduceLT, Nat.zero_add, Nat.add_zero, Bool.false_eq_true, sp_rat_Cmp, F1, G1, at_rat_Right]
  refine ⟨fun h1 => ⟨fun h2 => ?_, fun h2 => by simp [rat_cmp, h1, h2]⟩, fun h1 => by simp [rat_cmp, h1]⟩
  obtain ⟨r1, r2, r3, r4⟩ := right_iff.1 h1
  obtain ⟨s1, s2, s3, s4⟩ := right_iff.1 h2
  have e1 := mul_bd r3 r4 s1 s2
  have e2 := mul_bd s3 s4 r1 r2
  simp only [rat_cmp, h1, h2, sgn, Bool.and_self, if_true, wrap_id (n := a * d) (by omega) (by omega), wrap_id (n := c * b) (by omega) (by omega)]
  generalize a * d = p at *
  generalize c * b = q at *
  rw [wrap_id (by omega) (by omega)]
  refine ⟨fun h => ?_, fun h => ⟨fun h' => ?_, fun h' => ?_⟩⟩
  · rw [if_pos (by omega)]
  · rw [if_neg (by omega), if_pos (by omega)]
  · rw [if_neg (by omega), if_neg (by omega)]

theorem body_ref01_Max {T : Tab} {n1 : Nat} (k1 : Knows T n1 sp_rat_Cmp) : sp_rat_Max.Body T V_ref01_Max (L_ref01_Max n1) R_ref01_Max := by
  have F1 := k1.F; have G1 := k1.G
  rintro ⟨a, b, c, d⟩ -
  refine .inl ⟨rfl, ?_⟩
  unfold V_ref01_Max L_ref01_Max R_ref01_Max
  simp only [↓Z0g, ↓Z10, ↓Z04, ↓Z0p, ↓Z0f, ↓Z0a, ↓Z0o, ↓Z1i, ↓Z0n, ↓Z1p, ↓Z0b, Z2m, Z05, Z17, Z1b, evN, Z19, Z0m, Z1a, Z0l, Z0e, Z0k, Z0w, evT, Opd.ev, Z03, Z00, Z18, Z2l, Z1k, Z0u, Z0x, Z0y, Z0d, Z1t, LOp.isNew, State.prune, Z1j, Z1d, AV.leaf, Heap.at, Z06, Z02, Z07, Z01, Z2p, Z3a, Z32, binT, binQ, Bool.and_self, resQ, resV, resT, Z13, Z1y, fnOf, Z1v, isD, Z3u, putRow, Z0t, RetS, AV.agg.injEq, List.cons.injEq, Nat.le_refl, AV.d.injEq, DV.int.injEq, ↓reduceIte, Nat.reduceAdd, Nat.reduceBEq, List.length_cons, List.length_nil, List.replicate_succ, List.replicate_zero, List.nil_append, List.append_nil, List.map_cons, List.map_nil, List.all_cons, List.all_nil, List.set_cons_zero, List.set_cons_succ, List.getD_cons_zero, List.getD_cons_succ, List.drop_zero, List.drop_succ_cons, List.take_succ_cons, List.take_zero, List.flatten_cons, List.flatten_nil, true_and, and_true, and_self, Nat.reduceLT, Nat.zero_add, Nat.add_zero, Bool.false_eq_true, sp_rat_Max, F1, G1, at_rat_Cmp]
  have e := cmp_swap a b c d
  have v := cmp_vals a b c d
  exact ⟨fun h => by rw [rat_max, if_pos (by omega)]; exact ⟨rfl, rfl⟩, fun h => by rw [rat_max, if_neg (by omega)]; exact ⟨rfl, rfl⟩⟩

theorem body_ref01_Least {T : Tab} {n1 : Nat} (k1 : Knows T n1 sp_rat_Right) : sp_rat_Least.Body T V_ref01_Least (L_ref01_Least n1) R_ref01_Least := by
  have F1 := k1.F; have G1 := k1.G
  rintro ⟨a, b⟩ -
  refine .inl ⟨rfl, ?_⟩
  unfold V_ref01_Least L_ref01_Least R_ref01_Least
  simp only [↓Z0g, ↓Z10, ↓Z04, ↓Z0p, ↓Z0f, ↓Z09, ↓Z1g, ↓Z0a, ↓Z0o, ↓Z1i, ↓Z0n, ↓Z1p, ↓Z0z, Z2m, Z05, Z17, Z1b, evN, Z19, Z0m, Z1a, Z0l, Z0e, Z0k, Z0w, evT, Opd.ev, Z03, Z00, Z18, Z2l, Z1k, Z0u, Z0x, Z0y, Z0d, Z1t, LOp.isNew, State.prune, Z1j, Z1d, AV.leaf, Heap.at, Z06, Z02, Z07, Z01, Z2p, Z3a, evUn, Bool.and_self, resQ, resV, resT, Z13, Z1y, fnOf, Z1v, isD, Z3u, putRow, Z0t, RetS, AV.agg.injEq, List.cons.injEq, Nat.le_refl, AV.d.injEq, DV.int.injEq, ↓reduceIte, Nat.reduceAdd, Nat.reduceBEq, List.length_cons, List.length_nil, List.replicate_succ, List.replicate_zero, List.nil_append, List.append_nil, List.map_cons, List.map_nil, List.all_cons, List.all_nil, List.set_cons_zero, List.set_cons_succ, List.getD_cons_zero, List.getD_cons_succ, List.drop_zero, List.drop_succ_cons, List.take_succ_cons, List.take_zero, List.flatten_cons, List.flatten_nil, true_and, and_true, and_self, Nat.reduceLT, Nat.zero_add, Nat.add_zero, Bool.false_eq_true, sp_rat_Least, F1, G1, at_rat_Right]
  refine ⟨fun h => ?_, fun h => by simp [Z41, h]⟩
  obtain ⟨r1, r2, r3, r4⟩ := right_iff.1 h
  refine Loop.fam [1, 2, 3] (fun d : Int => ⟨[(1, .ptr 0 2 0 0), (2, .ptr 1 2 0 0), (3, .d (.int .i64 d))], [.vec 2 [[.d (.int .i64 a), .d (.int .i64 b)]], .vec 2 [[.d (.int .i64 0), .d (.int .i64 0)]]]⟩)
    (fun d => 1 ≤ d ∧ d ≤ b ∧ ∀ e, 0 < e → e < d → ¬ b ∣ a * e) (fun d => (b - d).toNat) 1 [0, 1] (by simp) (by simp) (by simp only [State.can, AV.can, AV.canL, HO.can, Z0v, idx, Z03, Z00, Heap.at, Nat.reduceBEq, ↓reduceIte, Nat.reduceEqDiff, Option.getD_some, Option.map_some, List.map_cons, List.map_nil, List.getD_cons_zero, List.getD_cons_succ]) ⟨by omega, r1, fun e h1 h2 => by omega⟩ ?_
  rintro d ⟨d1, d2, d3⟩
  simp only [↓Z0g, ↓Z10, ↓Z16, ↓Z04, ↓Z0p, ↓Z0f, ↓Z09, ↓Z0a, ↓Z0o, ↓Z1u, ↓Z1i, ↓Z14, ↓Z15, ↓Z23, ↓Z0n, ↓Z1p, ↓Z3g, ↓Z30, ↓Z4o, ↓Z0b, Z2m, Z05, Z17, Z1b, evN, Z0m, Z1a, Z0l, Z0e, Z0k, Z0w, evT, Opd.ev, Z03, Z00, Z18, Z2l, Z1k, Z0u, Z0x, Z0d, Z1t, LOp.isNew, State.prune, Z1j, Z1d, AV.leaf, Heap.at, Z06, Z02, Z07, Z01, Z2p, Z3a, Z32, binT, binQ, Bool.and_self, resQ, resV, resT, Z3t, Z3i, putRow, Z0t, RetS, AV.agg.injEq, List.cons.injEq, Nat.le_refl, AV.d.injEq, DV.int.injEq, ↓reduceIte, Nat.reduceAdd, Nat.reduceBEq, List.length_cons, List.length_nil, List.replicate_zero, List.nil_append, List.cons_append, List.append_nil, List.map_cons, List.map_nil, List.all_cons, List.all_nil, List.set_cons_zero, List.set_cons_succ, List.getD_cons_zero, List.getD_cons_succ, List.drop_zero, List.drop_succ_cons, List.take_succ_cons, List.take_zero, true_and, and_true, and_self, Nat.reduceLT, Nat.reduceLeDiff, Nat.zero_add, Nat.add_zero, Bool.false_eq_true]
  have md := mul_bd r3 r4 d1 (by omega : d ≤ 1024)
  have q := tdiv_bd (g := b) (a := a * d) (by omega)
  rw [wrap_id (n := a * d) (by omega) (by omega), wrap_id (n := d + 1) (by omega) (by omega), wrap_id (n := (a * d).tdiv b) (by omega) (by omega)]
  refine ⟨fun h1 => ⟨by omega, fun h2 => ⟨by omega, ?_⟩, fun h2 => ?_⟩, fun h1 => ?_⟩
  · obtain ⟨e1, e2⟩ := least_first (by omega) (by omega) (Int.dvd_of_tmod_eq_zero h2) d3
    simp only [Z41, h, if_true, ← e1, e2, and_self]
  · refine Z0r.mk [0, 1] (d + 1) (by simp) (by simp) (by simp only [State.can, AV.can, AV.canL, HO.can, Z0v, idx, Z03, Z00, Heap.at, Nat.reduceBEq, ↓reduceIte, Nat.reduceEqDiff, Option.getD_some, Option.map_some, List.map_cons, List.map_nil, List.getD_cons_zero, List.getD_cons_succ]) ⟨by omega, by omega, fun e e1 e2 hd => ?_⟩ (by omega)
    by_cases e3 : e = d
    · subst e3; exact h2 (Int.tmod_eq_zero_of_dvd hd)
    · exact d3 e e1 (by omega) hd
  · obtain ⟨e1, e2⟩ := least_first (a := a) (b := b) (d := b) (by omega) (by omega) ⟨a, by rw [Int.mul_comm]⟩ (fun e h1 h2 => d3 e h1 (by omega))
    rw [Int.mul_tdiv_cancel _ (by omega)] at e2
    simp only [Z41, h, if_true, ← e1, ← e2, and_self]

end Go.Ago

/- Contracts of the reference of layer 20, its small words. Conditions: none. -/
set_option maxRecDepth 100000
set_option linter.unusedSimpArgs false
set_option linter.unusedVariables false
namespace Go.Ago

def sp_sameLoc : Sp := sp_same LocG.row
theorem at_sameLoc (a b : List LocG) (f g : Bool) : sp_sameLoc.at [.d (.list (a.map LocG.row) f), .d (.list (b.map LocG.row) g)] = .data (a.length ≤ maxLen) (.d (.bool (decide (a = b)))) true := at_same LocG.row_inj a b f g
def sp_sameStamp : Sp := sp_same StampG.row
theorem at_sameStamp (a b : List StampG) (f g : Bool) : sp_sameStamp.at [.d (.list (a.map StampG.row) f), .d (.list (b.map StampG.row) g)] = .data (a.length ≤ maxLen) (.d (.bool (decide (a = b)))) true := at_same StampG.row_inj a b f g

theorem body_ref08_SameLocs {T : Tab} : sp_sameLoc.Body T V_ref08_SameLocs L_ref08_SameLocs R_ref08_SameLocs := by
  rintro ⟨a, f, b, g⟩ hlen
  refine .inl ⟨rfl, ?_⟩
  unfold V_ref08_SameLocs L_ref08_SameLocs R_ref08_SameLocs
  simp only [↓Z0g, ↓Z10, ↓Z04, ↓Z0p, ↓Z0f, ↓Z09, ↓Z1g, ↓Z0a, ↓Z0o, ↓Z1i, ↓Z0n, ↓Z1p, ↓Z0z, ↓Z0b, Z2m, Z05, Z17, Z1b, evN, Z0m, Z1a, Z0l, Z0k, Z0w, evT, Opd.ev, Z03, Z00, Z18, Z0u, Z0x, Z0y, Z0d, Z1t, LOp.isNew, State.prune, Z3x, List.length_map, Z32, binT, binQ, resQ, resV, resT, Z0t, RetS, AV.d.injEq, DV.bool.injEq, ↓reduceIte, Nat.reduceBEq, List.length_nil, List.replicate_zero, List.append_nil, List.map_cons, List.map_nil, true_and, Nat.zero_add, Nat.add_zero, Bool.false_eq_true, sp_sameLoc, sp_same]
  have hm : maxLen = 9223372036854775807 := rfl
  have hlen : a.length ≤ maxLen := hlen
  refine ⟨fun h => ?_, fun h => ?_⟩
  · have hab : a.length = b.length := by omega
    refine Loop.fam [0, 1, 5] (fun i : Nat => ⟨[(0, .d (.list (a.map LocG.row) f)), (1, .d (.list (b.map LocG.row) g)), (5, .d (.int .i64 (i : Nat)))], []⟩) (fun i => i ≤ a.length ∧ a.take i = b.take i) (fun i => a.length - i) 0 [] (by simp) (by simp)
      (by simp only [State.can, AV.can, HO.can, Z03, Z00, Heap.at, Nat.reduceBEq, Option.getD_some, List.map_cons, List.map_nil]; rfl) ⟨by omega, by simp⟩ ?_
    rintro i ⟨h1, h2⟩
    simp only [↓Z0g, ↓Z10, ↓Z16, ↓Z04, ↓Z0p, ↓Z0f, ↓Z09, ↓Z0a, ↓Z0o, ↓Z1u, ↓Z1i, ↓Z14, ↓Z15, ↓Z23, ↓Z0n, ↓Z1p, ↓Z3g, ↓Z30, ↓Z4o, ↓Z0z, ↓Z0b, ↓Z1r, Z2m, Z05, Z0q, Z17, Z1b, evN, Z0m, Z1a, Z24, Z0l, Z0k, Z0w, evT, Opd.ev, Z03, Z00, Z18, Z0u, Z0x, Z0d, Z1t, LOp.isNew, State.prune, Z0s, Z3w, LocG.row, Z1z, Int.toNat_natCast, Z3x, List.length_map, List.take_of_length_le, Z2p, Z32, binT, binQ, chk, Z2h, resQ, resV, resT, evEq, eqV, eqK, eqC1, Z0t, RetS, Nat.le_refl, AV.d.injEq, DV.bool.injEq, ↓reduceIte, Nat.reduceAdd, Nat.reduceBEq, List.length_cons, List.length_nil, List.replicate_zero, List.nil_append, List.cons_append, List.append_nil, List.map_cons, List.map_nil, List.all_nil, List.drop_zero, Bool.and_true, true_and, Option.bind_some, Option.map_some, List.reverse_cons, List.reverse_nil, Nat.zero_add, Nat.add_zero, Bool.false_eq_true, Int.toNat_natCast]
    refine ⟨fun h3 => ?_, fun h3 => ?_⟩
    · have h3 : i < a.length := by omega
      rw [Z2n h3 hlen]
      refine ⟨⟨by omega, by omega⟩, ⟨by omega, by omega⟩, fun h4 => ?_, fun h4 => ?_⟩
      · have h5 : a.getD i default = b.getD i default := by
          generalize a.getD i default = x at h4 ⊢
          generalize b.getD i default = y at h4 ⊢
          obtain ⟨x1, x2⟩ := x; obtain ⟨y1, y2⟩ := y; simp only [beq_iff_eq, decide_eq_true_eq] at h4; rw [h4.1, h4.2]
        exact Z0r.mk [] (i + 1) (by simp) (by simp) (by simp only [State.can, AV.can, HO.can, Z03, Z00, Heap.at, Nat.reduceBEq, Option.getD_some, List.map_cons, List.map_nil]) ⟨by omega, take_next h2 h3 (by omega) h5⟩ (by omega)
      · simp only [Bool.false_eq, decide_eq_false_iff_not]
        intro e; subst e; simp at h4
    · have : i = a.length := by omega
      subst this
      exact (decide_eq_true (take_all h2 hab)).symm
  · simp only [Bool.false_eq, decide_eq_false_iff_not]
    intro e; subst e; exact h rfl

theorem body_ref20_SameStamps {T : Tab} : sp_sameStamp.Body T V_ref20_SameStamps L_ref20_SameStamps R_ref20_SameStamps := by
  rintro ⟨a, f, b, g⟩ hlen
  refine .inl ⟨rfl, ?_⟩
  unfold V_ref20_SameStamps L_ref20_SameStamps R_ref20_SameStamps
  simp only [↓Z0g, ↓Z10, ↓Z04, ↓Z0p, ↓Z0f, ↓Z09, ↓Z1g, ↓Z0a, ↓Z0o, ↓Z1i, ↓Z0n, ↓Z1p, ↓Z0z, ↓Z0b, Z2m, Z05, Z17, Z1b, evN, Z0m, Z1a, Z0l, Z0k, Z0w, evT, Opd.ev, Z03, Z00, Z18, Z0u, Z0x, Z0y, Z0d, Z1t, LOp.isNew, State.prune, Z3x, List.length_map, Z32, binT, binQ, resQ, resV, resT, Z0t, RetS, AV.d.injEq, DV.bool.injEq, ↓reduceIte, Nat.reduceBEq, List.length_nil, List.replicate_zero, List.append_nil, List.map_cons, List.map_nil, true_and, Nat.zero_add, Nat.add_zero, Bool.false_eq_true, sp_sameStamp, sp_same]
  have hm : maxLen = 9223372036854775807 := rfl
  have hlen : a.length ≤ maxLen := hlen
  refine ⟨fun h => ?_, fun h => ?_⟩
  · have hab : a.length = b.length := by omega
    refine Loop.fam [0, 1, 5] (fun i : Nat => ⟨[(0, .d (.list (a.map StampG.row) f)), (1, .d (.list (b.map StampG.row) g)), (5, .d (.int .i64 (i : Nat)))], []⟩) (fun i => i ≤ a.length ∧ a.take i = b.take i) (fun i => a.length - i) 0 [] (by simp) (by simp)
      (by simp only [State.can, AV.can, HO.can, Z03, Z00, Heap.at, Nat.reduceBEq, Option.getD_some, List.map_cons, List.map_nil]; rfl) ⟨by omega, by simp⟩ ?_
    rintro i ⟨h1, h2⟩
    simp only [↓Z0g, ↓Z10, ↓Z16, ↓Z04, ↓Z0p, ↓Z0f, ↓Z09, ↓Z0a, ↓Z0o, ↓Z1u, ↓Z1i, ↓Z14, ↓Z15, ↓Z23, ↓Z0n, ↓Z1p, ↓Z3g, ↓Z30, ↓Z4o, ↓Z0z, ↓Z0b, ↓Z1r, Z2m, Z05, Z0q, Z17, Z1b, evN, Z0m, Z1a, Z24, Z0l, Z0k, Z0w, evT, Opd.ev, Z03, Z00, Z18, Z0u, Z0x, Z0d, Z1t, LOp.isNew, State.prune, Z0s, Z2j, StampG.row, Z1z, Int.toNat_natCast, Z3x, List.length_map, List.take_of_length_le, Z2p, Z32, binT, binQ, chk, Z2h, resQ, resV, resT, evEq, eqV, eqK, eqC1, Z0t, RetS, Nat.le_refl, AV.d.injEq, DV.bool.injEq, ↓reduceIte, Nat.reduceAdd, Nat.reduceBEq, List.length_cons, List.length_nil, List.replicate_zero, List.nil_append, List.cons_append, List.append_nil, List.map_cons, List.map_nil, List.all_nil, List.drop_zero, Bool.and_true, true_and, Option.bind_some, Option.map_some, List.reverse_cons, List.reverse_nil, Nat.zero_add, Nat.add_zero, Bool.false_eq_true, Int.toNat_natCast]
    refine ⟨fun h3 => ?_, fun h3 => ?_⟩
    · have h3 : i < a.length := by omega
      rw [Z2n h3 hlen]
      refine ⟨⟨by omega, by omega⟩, ⟨by omega, by omega⟩, fun h4 => ?_, fun h4 => ?_⟩
      · have h5 : a.getD i default = b.getD i default := by
          generalize a.getD i default = x at h4 ⊢
          generalize b.getD i default = y at h4 ⊢
          obtain ⟨⟨x1, x2⟩, x3⟩ := x; obtain ⟨⟨y1, y2⟩, y3⟩ := y; simp only [Bool.and_eq_true, decide_eq_true_eq] at h4; rw [h4.1, h4.2.1, h4.2.2]
        exact Z0r.mk [] (i + 1) (by simp) (by simp) (by simp only [State.can, AV.can, HO.can, Z03, Z00, Heap.at, Nat.reduceBEq, Option.getD_some, List.map_cons, List.map_nil]) ⟨by omega, take_next h2 h3 (by omega) h5⟩ (by omega)
      · simp only [Bool.false_eq, decide_eq_false_iff_not]
        intro e; subst e; simp at h4
    · have : i = a.length := by omega
      subst this
      exact (decide_eq_true (take_all h2 hab)).symm
  · simp only [Bool.false_eq, decide_eq_false_iff_not]
    intro e; subst e; exact h rfl

/-! ### Lists of lists -/
abbrev RatsF := List RatG × Bool
def rowRats (x : RatsF) : List DV := [.list (x.1.map RatG.row) x.2]
theorem rowRats_inj (x y : RatsF) (h : rowRats x = rowRats y) : x = y := by
  obtain ⟨a, b⟩ := x; obtain ⟨c, d⟩ := y
  simp only [rowRats, List.cons.injEq, DV.list.injEq, and_true] at h
  rw [Z4h RatG.row_inj h.1, h.2]
theorem getRats {x : RatsF} : (rowRats x).getD 0 DV.nilp = .list (x.1.map RatG.row) x.2 := rfl
theorem rowRats_len {x : RatsF} : (rowRats x).length = 1 := rfl
theorem idx_Rats {l : List RatsF} {full : Bool} {kd : IntKind} {n : Int} {k : Delta → Prop} : stepK (evIdxAddr 1 (.d (.list (l.map rowRats) full)) (.d (.int kd n))) k ↔ (0 ≤ n ∧ n < l.length) ∧ k ⟨.dptr (rowRats (l.getD n.toNat default)) 0, [], []⟩ := stepK_idx_map (fun _ => rfl)

def sp_ratZero : Sp := ⟨Unit, fun _ => [], fun _ => .data True (.agg [.d (.int .i64 0), .d (.int .i64 1)]) true⟩
theorem at_ratZero : sp_ratZero.at [] = .data True (.agg [.d (.int .i64 0), .d (.int .i64 1)]) true := Sp.at_enc (s := sp_ratZero) (fun x y h => rfl) ()
theorem body_ref20_zero {T : Tab} : sp_ratZero.Body T V_ref20_zero L_ref20_zero R_ref20_zero := by
  rintro x h
  refine .inl ⟨rfl, ?_⟩
  unfold V_ref20_zero L_ref20_zero R_ref20_zero
  simp only [↓Z10, ↓Z04, ↓Z0p, ↓Z0a, ↓Z0o, ↓Z0n, ↓Z1p, Z2m, Z05, Z17, Z1b, evN, Z0m, Z1a, Z0l, Z0e, Z0k, evT, Opd.ev, Z03, Z00, Z18, Z2l, Z1k, Z0y, Z0d, Z1t, LOp.isNew, State.prune, Z1j, Z1d, AV.leaf, Heap.at, Z06, Z02, Z07, Z01, List.take_of_length_le, Z2p, Z3a, Bool.and_self, resQ, resV, resT, Z3t, Z3i, putRow, RetS, Nat.le_refl, ↓reduceIte, Nat.reduceAdd, Nat.reduceBEq, List.length_cons, List.length_nil, List.replicate_succ, List.replicate_zero, List.nil_append, List.cons_append, List.append_nil, List.map_cons, List.map_nil, List.all_cons, List.all_nil, List.set_cons_zero, List.getD_cons_zero, List.drop_zero, List.drop_succ_cons, List.take_succ_cons, List.take_zero, and_self, Nat.reduceLT, Nat.zero_add, Nat.add_zero, Bool.false_eq_true, sp_ratZero]

def sp_sameRats : Sp := ⟨List RatsF × Bool × List RatsF × Bool, fun x => [.d (.list (x.1.map rowRats) x.2.1), .d (.list (x.2.2.1.map rowRats) x.2.2.2)], fun x => .data (x.1.length ≤ maxLen ∧ ∀ r ∈ x.1, r.1.length ≤ maxLen) (.d (.bool (decide (x.1.map (·.1) = x.2.2.1.map (·.1))))) true⟩
theorem at_sameRats (a b : List RatsF) (f g : Bool) : sp_sameRats.at [.d (.list (a.map rowRats) f), .d (.list (b.map rowRats) g)] = .data (a.length ≤ maxLen ∧ ∀ r ∈ a, r.1.length ≤ maxLen) (.d (.bool (decide (a.map (·.1) = b.map (·.1))))) true :=
  Sp.at_enc (s := sp_sameRats) (fun x y h => by
    obtain ⟨a, b, c, d⟩ := x; obtain ⟨a', b', c', d'⟩ := y
    simp only [sp_sameRats, List.cons.injEq, AV.d.injEq, DV.list.injEq, and_true] at h
    obtain ⟨⟨h1, h2⟩, h3, h4⟩ := h
    rw [Z4h rowRats_inj h1, h2, Z4h rowRats_inj h3, h4]) (a, f, b, g)

theorem body_ref20_SameRats {T : Tab} : sp_sameRats.Body T V_ref20_SameRats L_ref20_SameRats R_ref20_SameRats := by
  rintro ⟨a, f, b, g⟩ ⟨hlen, hin⟩
  refine .inl ⟨rfl, ?_⟩
  unfold V_ref20_SameRats L_ref20_SameRats R_ref20_SameRats
  simp only [↓Z0g, ↓Z10, ↓Z04, ↓Z0p, ↓Z0f, ↓Z09, ↓Z1g, ↓Z0a, ↓Z0o, ↓Z1i, ↓Z0n, ↓Z1p, ↓Z0z, ↓Z0b, Z2m, Z05, Z17, Z1b, evN, Z0m, Z1a, Z0l, Z0k, Z0w, evT, Opd.ev, Z03, Z00, Z18, Z0u, Z0x, Z0y, Z0d, Z1t, LOp.isNew, State.prune, Z3x, List.length_map, Z32, binT, binQ, resQ, resV, resT, Z0t, RetS, AV.d.injEq, DV.bool.injEq, ↓reduceIte, Nat.reduceBEq, List.length_nil, List.replicate_zero, List.append_nil, List.map_cons, List.map_nil, true_and, Nat.zero_add, Nat.add_zero, Bool.false_eq_true, sp_sameRats]
  have hm : maxLen = 9223372036854775807 := rfl
  have hlen : a.length ≤ maxLen := hlen
  have hin : ∀ r ∈ a, r.1.length ≤ maxLen := hin
  refine ⟨fun h => ?_, fun h => ?_⟩
  · have hab : a.length = b.length := by omega
    refine Loop.fam [0, 1, 5] (fun i : Nat => ⟨[(0, .d (.list (a.map rowRats) f)), (1, .d (.list (b.map rowRats) g)), (5, .d (.int .i64 (i : Nat)))], []⟩) (fun i => i ≤ a.length ∧ (a.map (·.1)).take i = (b.map (·.1)).take i) (fun i => a.length - i) 0 [] (by simp) (by simp)
      (by simp only [State.can, AV.can, HO.can, Z03, Z00, Heap.at, Nat.reduceBEq, Option.getD_some, List.map_cons, List.map_nil]; rfl) ⟨by omega, by simp⟩ ?_
    rintro i ⟨h1, h2⟩
    simp only [↓Z0g, ↓Z10, ↓Z16, ↓Z04, ↓Z0p, ↓Z0f, ↓Z09, ↓Z1g, ↓Z0a, ↓Z0o, ↓Z1u, ↓Z1i, ↓Z15, ↓Z23, ↓Z0n, ↓Z1p, ↓Z30, ↓Z4o, ↓Z0z, ↓Z0b, Z2m, Z05, Z0q, Z17, Z1b, evN, Z0m, Z1a, Z24, Z0l, Z0k, Z0w, evT, Opd.ev, Z03, Z00, Z18, Z0u, Z0x, Z0d, Z1t, LOp.isNew, State.prune, Z0s, Z2i, Int.toNat_natCast, Z3x, List.length_map, Z2p, Z32, binT, binQ, chk, Z2h, resQ, resV, resT, Z0t, RetS, AV.d.injEq, DV.bool.injEq, ↓reduceIte, Nat.reduceBEq, List.length_nil, List.replicate_zero, List.nil_append, List.cons_append, List.append_nil, List.map_cons, List.map_nil, List.all_nil, true_and, Nat.reduceLT, List.reverse_cons, List.reverse_nil, Nat.add_zero, Bool.false_eq_true, Int.toNat_natCast, getRats, idx_Rats, rowRats_len]
    refine ⟨fun h3 => ?_, fun h3 => ?_⟩
    · have h3 : i < a.length := by omega
      have h3b : i < b.length := by omega
      have ea : (a.map (·.1)).getD i [] = (a.getD i default).1 := by rw [Z3z (by simpa using h3), Z3z h3, List.getElem_map]
      have eb : (b.map (·.1)).getD i [] = (b.getD i default).1 := by rw [Z3z (by simpa using h3b), Z3z h3b, List.getElem_map]
      have hi1 : (a.getD i default).1.length ≤ maxLen := by rw [Z3z h3]; exact hin _ (List.getElem_mem h3)
      refine ⟨⟨by omega, by omega⟩, ⟨by omega, by omega⟩, fun h4 => ?_, fun h4 => ?_⟩
      · generalize hx : a.getD i default = x at *
        generalize hy : b.getD i default = y at *
        have h4 : x.1.length = y.1.length := by omega
        refine Loop.fam [0, 1, 5, 6] (fun k : Nat => ⟨[(0, .d (.list (a.map rowRats) f)), (1, .d (.list (b.map rowRats) g)), (5, .d (.int .i64 (i : Nat))), (6, .d (.int .i64 (k : Nat)))], []⟩) (fun k => k ≤ x.1.length ∧ x.1.take k = y.1.take k) (fun k => x.1.length - k) 0 [] (by simp) (by simp)
          (by simp only [State.can, AV.can, HO.can, Z03, Z00, Heap.at, Nat.reduceBEq, Option.getD_some, List.map_cons, List.map_nil]; rfl) ⟨by omega, by simp⟩ ?_
        rintro k ⟨k1, k2⟩
        simp only [↓Z0g, ↓Z10, ↓Z16, ↓Z04, ↓Z0p, ↓Z0f, ↓Z09, ↓Z0a, ↓Z0o, ↓Z1u, ↓Z1i, ↓Z14, ↓Z15, ↓Z23, ↓Z0n, ↓Z1p, ↓Z3g, ↓Z30, ↓Z4o, ↓Z0z, ↓Z0b, ↓Z1r, Z2m, Z05, Z0q, Z17, Z1b, evN, Z0m, Z1a, Z24, Z0l, Z0k, Z0w, evT, Opd.ev, Z03, Z00, Z18, Z0u, Z0x, Z0d, Z1t, LOp.isNew, State.prune, Z0s, Z44, Z2i, RatG.row, Z1z, Int.toNat_natCast, Z3x, List.length_map, List.take_of_length_le, Z2p, Z32, binT, binQ, chk, Z2h, resQ, resV, resT, evEq, eqV, eqK, eqC1, Z0t, RetS, Nat.le_refl, AV.d.injEq, DV.bool.injEq, ↓reduceIte, Nat.reduceAdd, Nat.reduceBEq, List.length_cons, List.length_nil, List.replicate_zero, List.nil_append, List.cons_append, List.append_nil, List.map_cons, List.map_nil, List.all_nil, List.drop_zero, Bool.and_true, true_and, Option.bind_some, Option.map_some, Nat.reduceLT, List.reverse_cons, List.reverse_nil, Nat.zero_add, Nat.add_zero, Bool.false_eq_true, Int.toNat_natCast, getRats, idx_Rats, rowRats_len, hx, hy]
        refine ⟨⟨by omega, by omega⟩, fun k3 => ?_, fun k3 => ?_⟩
        · have k3 : k < x.1.length := by omega
          rw [Z2n k3 hi1]
          refine ⟨⟨by omega, by omega⟩, ⟨by omega, by omega⟩, ⟨by omega, by omega⟩, ⟨by omega, by omega⟩, fun k4 => ?_, fun k4 => ?_⟩
          · have k5 : x.1.getD k default = y.1.getD k default := by
              generalize x.1.getD k default = u at k4 ⊢
              generalize y.1.getD k default = v at k4 ⊢
              obtain ⟨u1, u2⟩ := u; obtain ⟨v1, v2⟩ := v
              simp only [decide_eq_true_eq] at k4
              rw [k4.1, k4.2]
            exact Z0r.mk [] (k + 1) (by simp) (by simp) (by simp only [State.can, AV.can, HO.can, Z03, Z00, Heap.at, Nat.reduceBEq, Option.getD_some, List.map_cons, List.map_nil]) ⟨by omega, take_next k2 k3 (by omega) k5⟩ (by omega)
          · simp only [Bool.false_eq, decide_eq_false_iff_not]
            intro e
            rw [e, eb] at ea
            rw [ea] at k4
            simp at k4
        · have e1 : x.1 = y.1 := take_all (by have : k = x.1.length := by omega
                                              rw [← this]; exact k2) h4
          rw [Z2n h3 hlen]
          exact Z0r.mk [] (i + 1) (by simp) (by simp) (by simp only [State.can, AV.can, HO.can, Z03, Z00, Heap.at, Nat.reduceBEq, Option.getD_some, List.map_cons, List.map_nil]) ⟨by omega, take_next h2 (by simpa using h3) (by simpa using h3b) (by rw [ea, eb, e1])⟩ (by omega)
      · simp only [Bool.false_eq, decide_eq_false_iff_not]
        intro e
        rw [e, eb] at ea
        rw [ea] at h4; exact h4 rfl
    · have : i = a.length := by omega
      subst this
      have : a.length = (a.map (·.1)).length := by simp
      rw [this] at h2
      exact (decide_eq_true (take_all h2 (by simp [hab]))).symm
  · simp only [Bool.false_eq, decide_eq_false_iff_not]
    intro e
    have := congrArg List.length e
    simp at this
    exact h (by rw [this])
end Go.Ago

/- Contracts of the reference of layer 20: Past. Conditions: none. -/
set_option maxRecDepth 100000
set_option linter.unusedSimpArgs false
set_option linter.unusedVariables false
namespace Go.Ago

def stepSets (loc : Int) (v : Int) (st : StepG) : Int := if st.act.loc = loc ∧ (st.act.kind = 4 ∨ st.act.kind = 5) then st.act.new else v
def valueG (l : List LocG) (s : List StepG) (loc : Int) : Int := s.foldl (stepSets loc) (l.getD loc.toNat default).init
def sp_Value : Sp := ⟨List LocG × Bool × Int × List StepG × Bool × Int, fun x => [.agg [.d (.list (x.1.map LocG.row) x.2.1), .d (.int .i64 x.2.2.1), .d (.list (x.2.2.2.1.map StepG.row) x.2.2.2.2.1)], .d (.int .i64 x.2.2.2.2.2)],
  fun x => .data ((0 ≤ x.2.2.2.2.2 ∧ x.2.2.2.2.2 < x.1.length) ∧ x.2.2.2.1.length ≤ 1048576) (.d (.int .i64 (valueG x.1 x.2.2.2.1 x.2.2.2.2.2))) true⟩
theorem Z3v (l : List LocG) (f : Bool) (t : Int) (s : List StepG) (g : Bool) (loc : Int) : sp_Value.at [.agg [.d (.list (l.map LocG.row) f), .d (.int .i64 t), .d (.list (s.map StepG.row) g)], .d (.int .i64 loc)] =
    .data ((0 ≤ loc ∧ loc < l.length) ∧ s.length ≤ 1048576) (.d (.int .i64 (valueG l s loc))) true :=
  Sp.at_enc (s := sp_Value) (fun x y h => by
    obtain ⟨a, b, c, d, e, f⟩ := x; obtain ⟨a', b', c', d', e', f'⟩ := y
    simp only [sp_Value, List.cons.injEq, AV.d.injEq, AV.agg.injEq, DV.list.injEq, DV.int.injEq, and_true, true_and] at h
    obtain ⟨⟨⟨h1, h2⟩, h3, h4, h5⟩, h6⟩ := h
    rw [Z4h LocG.row_inj h1, h2, h3, Z4h StepG.row_inj h4, h5, h6]) (l, f, t, s, g, loc)

theorem body_ref20_Past_Value {T : Tab} : sp_Value.Body T V_ref20_Past_Value L_ref20_Past_Value R_ref20_Past_Value := by
  rintro ⟨l, f, t, s, g, loc⟩ ⟨⟨h1, h2⟩, h3⟩
  have h1 : 0 ≤ loc := h1
  have h2 : loc < l.length := h2
  have h3 : s.length ≤ 1048576 := h3
  refine .inl ⟨rfl, ?_⟩
  unfold V_ref20_Past_Value L_ref20_Past_Value R_ref20_Past_Value
  simp only [↓Z04, ↓Z0p, ↓Z09, ↓Z1g, ↓Z0a, ↓Z0o, ↓Z0n, Z2m, Z05, Z17, Z1b, evN, Z0m, Z1a, Z0l, Z0e, Z0k, evT, Opd.ev, Z03, Z00, Z18, Z1k, Z0y, Z0d, Z1t, LOp.isNew, State.prune, Z1j, Z1d, AV.leaf, Heap.at, Z06, Z0s, Z02, Z3w, Z2i, LocG.row, Z2p, Z3a, Bool.and_self, Z0t, ↓reduceIte, Nat.reduceAdd, Nat.reduceBEq, List.length_cons, List.length_nil, List.replicate_succ, List.replicate_zero, List.nil_append, List.append_nil, List.map_cons, List.map_nil, List.all_cons, List.all_nil, List.set_cons_zero, List.getD_cons_zero, List.getD_cons_succ, true_and, and_self, Nat.reduceLT, Nat.zero_add, Nat.add_zero, Bool.false_eq_true, sp_Value]
  refine ⟨⟨by omega, by omega⟩, ?_⟩
  refine Loop.fam [1, 2, 5, 6] (fun i : Nat => ⟨[(1, .d (.int .i64 loc)), (2, .ptr 0 3 0 0), (5, .d (.int .i64 ((s.take i).foldl (stepSets loc) (l.getD loc.toNat default).init))), (6, .d (.int .i64 i))],
      [.vec 3 [[.d (.list (l.map LocG.row) f), .d (.int .i64 t), .d (.list (s.map StepG.row) g)]]]⟩) (fun i => i ≤ s.length) (fun i => s.length - i) 0 [0] (by simp) (by simp) (by simp only [State.can, AV.can, AV.canL, HO.can, Z0v, idx, Z03, Z00, Heap.at, Nat.reduceBEq, ↓reduceIte, Option.getD_some, Option.map_some, List.map_cons, List.map_nil, List.getD_cons_zero]; rfl) (by omega) ?_
  intro i hi
  simp only [↓Z0g, ↓Z10, ↓Z16, ↓Z04, ↓Z0p, ↓Z0f, ↓Z09, ↓Z0a, ↓Z0o, ↓Z1u, ↓Z14, ↓Z15, ↓Z0n, ↓Z1p, ↓Z3g, ↓Z30, ↓Z0i, ↓Z0c, ↓Z0b, Z2m, Z05, Z17, Z12, Z1b, evN, Z0m, Z1a, Z0l, Z0e, Z0k, Z1s, Z1q, Z1o, Z0w, evT, Opd.ev, Z03, Z00, Z18, Z2l, Z1k, Z1h, Z0u, Z0x, Z0d, Z1t, LOp.isNew, State.prune, Z1j, Z1d, AV.leaf, Heap.at, Z06, Z0s, Z02, Z3b, Z07, Z01, StepG.row, Z1z, Int.toNat_natCast, Z3x, List.length_map, Z2p, Z3a, Z32, binT, binQ, Bool.and_self, resQ, resV, resT, Z4n, putRow, Z0t, RetS, Nat.le_refl, AV.d.injEq, DV.int.injEq, ↓reduceIte, Nat.reduceAdd, Nat.reduceBEq, List.length_cons, List.length_nil, List.replicate_succ, List.replicate_zero, List.nil_append, List.cons_append, List.append_nil, List.map_cons, List.map_nil, List.all_cons, List.all_nil, List.set_cons_zero, List.set_cons_succ, List.getD_cons_zero, List.getD_cons_succ, List.drop_zero, List.drop_succ_cons, List.take_succ_cons, List.take_zero, true_and, and_self, Nat.reduceLT, Nat.reduceLeDiff, Nat.zero_add, Nat.add_zero, Bool.false_eq_true]
  refine ⟨fun h => ?_, fun h => ?_⟩
  · have h' : i < s.length := by omega
    rw [Z2n h' (by unfold maxLen; omega)]
    have e : (s.take (i + 1)).foldl (stepSets loc) (l.getD loc.toNat default).init = stepSets loc ((s.take i).foldl (stepSets loc) (l.getD loc.toNat default).init) (s.getD i default) := by
      rw [List.take_add_one, List.getElem?_eq_getElem h', Z3z h', List.foldl_append]; rfl
    generalize s.getD i default = st at *
    refine ⟨⟨by omega, by omega⟩, fun c1 => ⟨fun c2 => ?_, fun c2 => ⟨fun c3 => ?_, fun c3 => ?_⟩⟩, fun c1 => ?_⟩
    · exact Z0r.mk [0] (i + 1) (by simp) (by simp) (by simp only [State.can, AV.can, AV.canL, HO.can, Z0v, idx, Z03, Z00, Heap.at, Nat.reduceBEq, ↓reduceIte, Option.getD_some, Option.map_some, List.map_cons, List.map_nil, List.getD_cons_zero, e, stepSets]; rw [if_pos ⟨c1, .inl c2⟩]) (by show i + 1 ≤ s.length; omega) (by show s.length - (i + 1) < s.length - i; omega)
    · exact Z0r.mk [0] (i + 1) (by simp) (by simp) (by simp only [State.can, AV.can, AV.canL, HO.can, Z0v, idx, Z03, Z00, Heap.at, Nat.reduceBEq, ↓reduceIte, Option.getD_some, Option.map_some, List.map_cons, List.map_nil, List.getD_cons_zero, e, stepSets]; rw [if_pos ⟨c1, .inr c3⟩]) (by show i + 1 ≤ s.length; omega) (by show s.length - (i + 1) < s.length - i; omega)
    · exact Z0r.mk [0] (i + 1) (by simp) (by simp) (by simp only [State.can, AV.can, AV.canL, HO.can, Z0v, idx, Z03, Z00, Heap.at, Nat.reduceBEq, ↓reduceIte, Option.getD_some, Option.map_some, List.map_cons, List.map_nil, List.getD_cons_zero, e, stepSets]; rw [if_neg (by rintro ⟨-, h | h⟩ <;> omega)]) (by show i + 1 ≤ s.length; omega) (by show s.length - (i + 1) < s.length - i; omega)
    · exact Z0r.mk [0] (i + 1) (by simp) (by simp) (by simp only [State.can, AV.can, AV.canL, HO.can, Z0v, idx, Z03, Z00, Heap.at, Nat.reduceBEq, ↓reduceIte, Option.getD_some, Option.map_some, List.map_cons, List.map_nil, List.getD_cons_zero, e, stepSets]; rw [if_neg (fun h => c1 h.1)]) (by show i + 1 ≤ s.length; omega) (by show s.length - (i + 1) < s.length - i; omega)
  · have : i = s.length := by omega
    subst this
    rw [List.take_length]; rfl

def leastG (x : RatG) : RatG := ⟨(Z41 x.num x.den).1, (Z41 x.num x.den).2⟩
def stepWrites (loc : Int) (v : List StampG) (st : StepG) : List StampG := if st.act.kind = 2 ∧ st.act.loc = loc then v ++ [⟨leastG st.when, st.act.new⟩] else v
def Z4m (l : List LocG) (s : List StepG) (loc : Int) : List StampG := s.foldl (stepWrites loc) [⟨⟨0, 1⟩, (l.getD loc.toNat default).init⟩]
theorem stepWrites_len {loc : Int} {v : List StampG} {st : StepG} : (stepWrites loc v st).length ≤ v.length + 1 := by unfold stepWrites; split <;> simp
theorem writes_len {loc : Int} {x : StampG} : ∀ (s : List StepG) (v : List StampG), (s.foldl (stepWrites loc) v).length ≤ v.length + s.length := by
  intro s
  induction s with
  | nil => intro v; simp
  | cons a s ih => intro v; have := ih (stepWrites loc v a); have := stepWrites_len (loc := loc) (v := v) (st := a); simp only [List.foldl_cons, List.length_cons]; omega
def sp_writes : Sp := ⟨List LocG × Bool × Int × List StepG × Bool × Int, fun x => [.agg [.d (.list (x.1.map LocG.row) x.2.1), .d (.int .i64 x.2.2.1), .d (.list (x.2.2.2.1.map StepG.row) x.2.2.2.2.1)], .d (.int .i64 x.2.2.2.2.2)],
  fun x => .rows ((0 ≤ x.2.2.2.2.2 ∧ x.2.2.2.2.2 < x.1.length) ∧ x.2.2.2.1.length ≤ 1000000) 3 ((Z4m x.1 x.2.2.2.1 x.2.2.2.2.2).map StampG.row)⟩
theorem at_writes (l : List LocG) (f : Bool) (t : Int) (s : List StepG) (g : Bool) (loc : Int) : sp_writes.at [.agg [.d (.list (l.map LocG.row) f), .d (.int .i64 t), .d (.list (s.map StepG.row) g)], .d (.int .i64 loc)] =
    .rows ((0 ≤ loc ∧ loc < l.length) ∧ s.length ≤ 1000000) 3 ((Z4m l s loc).map StampG.row) :=
  Sp.at_enc (s := sp_writes) (fun x y h => by
    obtain ⟨a, b, c, d, e, f⟩ := x; obtain ⟨a', b', c', d', e', f'⟩ := y
    simp only [sp_writes, List.cons.injEq, AV.d.injEq, AV.agg.injEq, DV.list.injEq, DV.int.injEq, and_true, true_and] at h
    obtain ⟨⟨⟨h1, h2⟩, h3, h4, h5⟩, h6⟩ := h
    rw [Z4h LocG.row_inj h1, h2, h3, Z4h StepG.row_inj h4, h5, h6]) (l, f, t, s, g, loc)

theorem app_rowStamp {l : List StampG} {a b c : Int} : l.map StampG.row ++ [[.int .i64 a, .int .i64 b, .int .i64 c]] = (l ++ [(⟨⟨a, b⟩, c⟩ : StampG)]).map StampG.row := by simp [StampG.row]
theorem body_ref20_Past_writes {T : Tab} {n1 n2 : Nat} (k1 : Knows T n1 sp_ratZero) (k2 : Knows T n2 sp_rat_Least) : sp_writes.Body T V_ref20_Past_writes (L_ref20_Past_writes n1 n2) R_ref20_Past_writes := by
  have F1 := k1.F; have G1 := k1.G; have F2 := k2.F; have G2 := k2.G
  rintro ⟨l, f, t, s, g, loc⟩ ⟨⟨h1, h2⟩, h3⟩
  have h1 : 0 ≤ loc := h1
  have h2 : loc < l.length := h2
  have h3 : s.length ≤ 1000000 := h3
  refine ⟨rows_len (f := StampG.row) (fun _ => rfl) _, ?_⟩
  unfold V_ref20_Past_writes L_ref20_Past_writes R_ref20_Past_writes
  simp only [↓Z04, ↓Z0p, ↓Z09, ↓Z1g, ↓Z0a, ↓Z0o, ↓Z0n, Z2m, Z05, Z0q, Z17, Z1b, evN, Z19, Z0m, Z1a, Z24, Z0l, Z0e, Z0k, evT, Opd.ev, Z03, Z00, Z18, Z1k, Z0y, Z0d, Z1t, LOp.isNew, State.prune, Z1j, Z1d, AV.leaf, Heap.at, Z06, Z0s, Z02, Z3w, Z2i, LocG.row, Z4f, drows, Z2p, Z3a, chk, Z2h, List.contains_cons, List.contains_nil, Bool.or_false, Bool.and_self, Z13, Z1y, fnOf, Z1v, Z3t, Z3i, Z37, Z34, putRow, Z39, Z0t, Nat.le_refl, ↓reduceIte, Nat.reduceAdd, Nat.reduceBEq, List.length_cons, List.length_nil, List.replicate_succ, List.replicate_zero, List.nil_append, List.cons_append, List.append_nil, List.map_cons, List.map_nil, List.all_cons, List.all_nil, List.set_cons_zero, List.set_cons_succ, List.getD_cons_zero, List.getD_cons_succ, List.drop_zero, List.drop_succ_cons, List.take_succ_cons, List.take_zero, List.flatten_nil, Bool.and_true, Bool.not_false, true_and, Option.bind_some, Option.map_some, and_self, Nat.reduceLT, Nat.reduceLeDiff, List.reverse_cons, List.reverse_nil, Nat.zero_add, Nat.add_zero, Bool.false_eq_true, sp_writes, F1, G1, at_ratZero]
  refine ⟨⟨by omega, by omega⟩, ?_⟩
  refine Loop.fam [1, 2, 5, 6] (fun i : Nat => ⟨[(1, .d (.int .i64 loc)), (2, .ptr 0 3 0 0), (5, .ref 1 3 0 (Z4m l (s.take i) loc).length true), (6, .d (.int .i64 i))],
      [.vec 3 [[.d (.list (l.map LocG.row) f), .d (.int .i64 t), .d (.list (s.map StepG.row) g)]], .dvec 3 ((Z4m l (s.take i) loc).map StampG.row)]⟩) (fun i => i ≤ s.length) (fun i => s.length - i) 0 [0, 1] (by simp) (by simp) (by simp only [State.can, AV.can, AV.canL, HO.can, Z0v, idx, Z03, Z00, Heap.at, Nat.reduceBEq, ↓reduceIte, Nat.reduceEqDiff, Option.getD_some, Option.map_some, List.map_cons, List.map_nil, List.getD_cons_zero, List.getD_cons_succ]; rfl) (by omega) ?_
  intro i hi
  have hw : (Z4m l (s.take i) loc).length ≤ 1 + i := by
    have := writes_len (loc := loc) (x := default) (s.take i) [⟨⟨0, 1⟩, (l.getD loc.toNat default).init⟩]
    unfold Z4m
    rw [List.length_take] at this
    simp only [List.length_cons, List.length_nil] at this
    omega
  simp only [↓Z0g, ↓Z10, ↓Z16, ↓Z04, ↓Z0p, ↓Z0f, ↓Z09, ↓Z0a, ↓Z0o, ↓Z1u, ↓Z14, ↓Z15, ↓Z0n, ↓Z1p, ↓Z3g, ↓Z30, ↓Z0i, ↓Z0c, ↓Z0b, Z2m, Z05, Z0q, Z17, Z12, Z1b, evN, Z19, Z0m, Z1a, Z24, Z0l, Z0e, Z0k, Z1s, Z0w, evT, Opd.ev, Z03, Z00, Z18, Z2l, Z1k, Z1h, Z0u, Z0x, Z0d, Z1t, LOp.isNew, State.prune, Z1j, Z1d, AV.leaf, Heap.at, Z06, Z0s, Z02, Z3b, Z07, Z01, StepG.row, Z1z, Int.toNat_natCast, Z3x, Z1x, Z43, Src.all, Src.len, Src.leaf, Z4i, Z4f, drows, List.length_map, List.take_of_length_le, Z2p, Z3a, Z32, binT, binQ, chk, Z2h, List.contains_cons, List.contains_nil, Bool.or_false, Bool.and_self, resQ, resV, resT, Z4n, Z13, Z1y, fnOf, Z1v, isD, Z3u, Z3t, Z3i, Z37, Z34, List.mem_cons, List.not_mem_nil, or_false, forall_eq, putRow, Z39, Z0t, Nat.le_refl, ↓reduceIte, Nat.reduceAdd, Nat.reduceBEq, List.length_cons, List.length_nil, List.replicate_succ, List.replicate_zero, List.nil_append, List.cons_append, List.append_nil, List.map_cons, List.map_nil, List.all_cons, List.all_nil, List.set_cons_zero, List.set_cons_succ, List.getD_cons_zero, List.getD_cons_succ, List.drop_zero, List.drop_succ_cons, List.take_succ_cons, List.take_zero, List.flatten_cons, List.flatten_nil, Bool.and_true, Bool.not_false, true_and, Option.bind_some, Option.map_some, and_self, Nat.reduceLT, Nat.reduceLeDiff, List.reverse_cons, List.reverse_nil, Nat.zero_add, Nat.add_zero, Bool.false_eq_true, F2, G2, at_rat_Least, app_rowStamp]
  refine ⟨fun h => ?_, fun h => ?_⟩
  · have h' : i < s.length := by omega
    rw [Z2n h' (by unfold maxLen; omega)]
    have e : Z4m l (s.take (i + 1)) loc = stepWrites loc (Z4m l (s.take i) loc) (s.getD i default) := by
      unfold Z4m
      rw [List.take_add_one, List.getElem?_eq_getElem h', Z3z h', List.foldl_append]; rfl
    generalize s.getD i default = st at *
    refine ⟨⟨by omega, by omega⟩, fun c1 => ⟨fun c2 => ⟨⟨by omega, by omega⟩, Z1e (by omega) (by omega), ?_⟩, fun c2 => ?_⟩, fun c1 => ?_⟩
    · exact Z0r.mk [0, 4] (i + 1) (by simp) (by simp) (by simp only [State.can, AV.can, AV.canL, HO.can, Z0v, idx, Z03, Z00, Heap.at, Nat.reduceBEq, ↓reduceIte, Nat.reduceEqDiff, Option.getD_some, Option.map_some, List.map_cons, List.map_nil, List.getD_cons_zero, List.getD_cons_succ, e, stepWrites]; rw [if_pos ⟨c1, c2⟩]; simp [leastG]) (by show i + 1 ≤ s.length; omega) (by show s.length - (i + 1) < s.length - i; omega)
    · exact Z0r.mk [0, 1] (i + 1) (by simp) (by simp) (by simp only [State.can, AV.can, AV.canL, HO.can, Z0v, idx, Z03, Z00, Heap.at, Nat.reduceBEq, ↓reduceIte, Nat.reduceEqDiff, Option.getD_some, Option.map_some, List.map_cons, List.map_nil, List.getD_cons_zero, List.getD_cons_succ, e, stepWrites]; rw [if_neg (fun h => c2 h.2)]) (by show i + 1 ≤ s.length; omega) (by show s.length - (i + 1) < s.length - i; omega)
    · exact Z0r.mk [0, 1] (i + 1) (by simp) (by simp) (by simp only [State.can, AV.can, AV.canL, HO.can, Z0v, idx, Z03, Z00, Heap.at, Nat.reduceBEq, ↓reduceIte, Nat.reduceEqDiff, Option.getD_some, Option.map_some, List.map_cons, List.map_nil, List.getD_cons_zero, List.getD_cons_succ, e, stepWrites]; rw [if_neg (fun h => c1 h.1)]) (by show i + 1 ≤ s.length; omega) (by show s.length - (i + 1) < s.length - i; omega)
  · have : i = s.length := by omega
    subst this
    rw [List.take_length]
    exact .inl ⟨1, true, by simp, rfl⟩

/-! ### Written: by rising moments -/
def stampLt (x y : StampG) : Bool := decide (rat_cmp x.when.num x.when.den y.when.num y.when.den < 0)
/-- Two places changed, if the later one stands ahead. -/
def swapG (l : List StampG) (i k : Nat) : List StampG := if stampLt (l.getD k default) (l.getD i default) = true then (l.set i (l.getD k default)).set k (l.getD i default) else l
def innerG (i : Nat) : Nat → List StampG → Nat → List StampG
  | 0, l, _ => l
  | d + 1, l, k => innerG i d (swapG l i k) (k + 1)
def outerG : Nat → List StampG → Nat → List StampG
  | 0, l, _ => l
  | d + 1, l, i => outerG d (innerG i (l.length - (i + 1)) l (i + 1)) (i + 1)
def sortG (l : List StampG) : List StampG := outerG l.length l 0
theorem swapG_len {l : List StampG} {i k : Nat} : (swapG l i k).length = l.length := by unfold swapG; split <;> simp
theorem innerG_len {i : Nat} : ∀ (d : Nat) (l : List StampG) (k : Nat), (innerG i d l k).length = l.length := by
  intro d
  induction d with
  | zero => intro l k; rfl
  | succ d ih => intro l k; simp only [innerG]; rw [ih, swapG_len]

def sp_Written : Sp := ⟨List LocG × Bool × Int × List StepG × Bool × Int, fun x => [.agg [.d (.list (x.1.map LocG.row) x.2.1), .d (.int .i64 x.2.2.1), .d (.list (x.2.2.2.1.map StepG.row) x.2.2.2.2.1)], .d (.int .i64 x.2.2.2.2.2)],
  fun x => .data ((0 ≤ x.2.2.2.2.2 ∧ x.2.2.2.2.2 < x.1.length) ∧ x.2.2.2.1.length ≤ 1000000) (.d (.list ((sortG (Z4m x.1 x.2.2.2.1 x.2.2.2.2.2)).map StampG.row) false)) true⟩
theorem Z2k (l : List LocG) (f : Bool) (t : Int) (s : List StepG) (g : Bool) (loc : Int) : sp_Written.at [.agg [.d (.list (l.map LocG.row) f), .d (.int .i64 t), .d (.list (s.map StepG.row) g)], .d (.int .i64 loc)] =
    .data ((0 ≤ loc ∧ loc < l.length) ∧ s.length ≤ 1000000) (.d (.list ((sortG (Z4m l s loc)).map StampG.row) false)) true :=
  Sp.at_enc (s := sp_Written) (fun x y h => by
    obtain ⟨a, b, c, d, e, f⟩ := x; obtain ⟨a', b', c', d', e', f'⟩ := y
    simp only [sp_Written, List.cons.injEq, AV.d.injEq, AV.agg.injEq, DV.list.injEq, DV.int.injEq, and_true, true_and] at h
    obtain ⟨⟨⟨h1, h2⟩, h3, h4, h5⟩, h6⟩ := h
    rw [Z4h LocG.row_inj h1, h2, h3, Z4h StepG.row_inj h4, h5, h6]) (l, f, t, s, g, loc)
theorem store_rowStamp {l : List StampG} {id sz0 row : Nat} {k : Delta → Prop} {a b c : Int} :
    stepK (evStoreO (.dvec 3 (l.map StampG.row)) id 3 sz0 row 0 (.agg [.d (.int .i64 a), .d (.int .i64 b), .d (.int .i64 c)])) k ↔ (3 = sz0 ∧ row < l.length) ∧ k ⟨.tup [], [(id, .dvec 3 ((l.set row ⟨⟨a, b⟩, c⟩).map StampG.row))], []⟩ :=
  stepK_store_row (fun _ => rfl) rfl (by simp [Z1j, AV.leaf])

theorem body_ref20_Past_Written {T : Tab} {n1 n2 : Nat} (k1 : Knows T n1 sp_writes) (k2 : Knows T n2 sp_rat_Cmp) : sp_Written.Body T V_ref20_Past_Written (L_ref20_Past_Written n1 n2) R_ref20_Past_Written := by
  have F1 := k1.F; have G1 := k1.G; have F2 := k2.F; have G2 := k2.G
  rintro ⟨l, f, t, s, g, loc⟩ ⟨⟨h1, h2⟩, h3⟩
  have h1 : 0 ≤ loc := h1
  have h2 : loc < l.length := h2
  have h3 : s.length ≤ 1000000 := h3
  refine .inr ⟨rfl, ?_⟩
  unfold V_ref20_Past_Written L_ref20_Past_Written R_ref20_Past_Written
  simp only [↓Z04, ↓Z0p, ↓Z09, ↓Z1g, ↓Z0a, ↓Z0o, ↓Z0n, Z2m, Z05, Z17, Z1b, evN, Z19, Z0m, Z1a, Z0l, Z0e, Z0k, evT, Opd.ev, Z03, Z00, Z18, Z1k, Z0y, Z0d, Z1t, LOp.isNew, State.prune, Z1j, Z1d, AV.leaf, Heap.at, Z06, Z02, List.length_map, List.take_of_length_le, Z2p, Z3a, Bool.and_self, Z13, Z1y, fnOf, Z1v, isD, Z3u, Z0t, Nat.le_refl, ↓reduceIte, Nat.reduceAdd, Nat.reduceBEq, List.length_cons, List.length_nil, List.replicate_succ, List.replicate_zero, List.nil_append, List.cons_append, List.append_nil, List.map_cons, List.map_nil, List.all_cons, List.all_nil, List.set_cons_zero, List.set_cons_succ, List.getD_cons_zero, List.drop_zero, List.flatten_cons, List.flatten_nil, true_and, and_true, true_or, and_self, Nat.reduceLT, Nat.zero_add, Nat.add_zero, Bool.false_eq_true, sp_Written, F1, G1, at_writes]
  refine ⟨⟨⟨by omega, by omega⟩, h3⟩, ?_⟩
  have hn : (Z4m l s loc).length ≤ 1000001 := by
    have := writes_len (loc := loc) (x := default) s [⟨⟨0, 1⟩, (l.getD loc.toNat default).init⟩]
    unfold Z4m
    simp only [List.length_cons, List.length_nil] at this
    omega
  generalize hw : Z4m l s loc = w at *
  have hm : maxLen = 9223372036854775807 := rfl
  refine Loop.fam [5, 6] (fun x : Nat × List StampG => ⟨[(5, .ref 0 3 0 w.length true), (6, .d (.int .i64 (x.1 : Nat)))], [.dvec 3 (x.2.map StampG.row)]⟩) (fun x => x.1 ≤ w.length ∧ x.2.length = w.length ∧ outerG (w.length - x.1) x.2 x.1 = sortG w)
    (fun x => w.length - x.1) (0, w) [1] (by simp) (by simp) (by simp only [State.can, AV.can, HO.can, idx, Z03, Z00, Heap.at, Nat.reduceBEq, ↓reduceIte, Option.getD_some, Option.map_some, List.map_cons, List.map_nil, List.getD_cons_zero, List.getD_cons_succ]; rfl) ⟨by omega, rfl, rfl⟩ ?_
  rintro ⟨i, v⟩ ⟨i1, i2, i3⟩
  have i1 : i ≤ w.length := i1
  have i2 : v.length = w.length := i2
  have i3 : outerG (w.length - i) v i = sortG w := i3
  simp only [↓Z0g, ↓Z10, ↓Z16, ↓Z04, ↓Z0p, ↓Z0f, ↓Z09, ↓Z1g, ↓Z0a, ↓Z0o, ↓Z1u, ↓Z15, ↓Z0n, ↓Z1p, ↓Z30, ↓Z0b, Z2m, Z05, Z17, Z1b, evN, Z0m, Z1a, Z0l, Z0k, Z0w, evT, Opd.ev, Z03, Z00, Z18, Z0u, Z0x, Z0d, Z1t, LOp.isNew, State.prune, Heap.at, Z3x, List.length_map, Z11, Z32, binT, binQ, resQ, resV, resT, Z0t, RetF, AV.frz, ↓reduceIte, Nat.reduceBEq, List.length_cons, List.length_nil, List.replicate_zero, List.append_nil, List.map_cons, List.map_nil, List.getD_cons_zero, List.drop_zero, true_and, Nat.zero_add, Nat.add_zero, Bool.false_eq_true]
  refine ⟨fun h => ?_, fun h => ?_⟩
  · have h' : i < w.length := by omega
    rw [Z2n h' (by omega)]
    obtain ⟨d, hd⟩ : ∃ d, w.length - i = d + 1 := ⟨w.length - i - 1, by omega⟩
    rw [hd] at i3
    simp only [outerG] at i3
    refine Loop.fam [5, 6, 7] (fun x : Nat × List StampG => ⟨[(5, .ref 0 3 0 w.length true), (6, .d (.int .i64 (i : Nat))), (7, .d (.int .i64 (x.1 : Nat)))], [.dvec 3 (x.2.map StampG.row)]⟩)
      (fun x => i + 1 ≤ x.1 ∧ x.1 ≤ w.length ∧ x.2.length = w.length ∧ innerG i (w.length - x.1) x.2 x.1 = innerG i (v.length - (i + 1)) v (i + 1))
      (fun x => w.length - x.1) (i + 1, v) [0] (by simp) (by simp) (by simp only [State.can, AV.can, HO.can, idx, Z03, Z00, Heap.at, Nat.reduceBEq, ↓reduceIte, Option.getD_some, Option.map_some, List.map_cons, List.map_nil, List.getD_cons_zero]) ⟨Nat.le_refl _, by show i + 1 ≤ w.length; omega, i2, by rw [i2]⟩ ?_
    rintro ⟨k, u⟩ ⟨k0, k1, k2, k3⟩
    have k0 : i + 1 ≤ k := k0
    have k1 : k ≤ w.length := k1
    have k2 : u.length = w.length := k2
    have k3 : innerG i (w.length - k) u k = innerG i (v.length - (i + 1)) v (i + 1) := k3
    simp only [↓Z0g, ↓Z16, ↓Z04, ↓Z0p, ↓Z0f, ↓Z09, ↓Z0a, ↓Z0o, ↓Z1u, ↓Z14, ↓Z15, ↓Z0n, ↓Z3g, ↓Z30, ↓Z0b, Z2m, Z05, Z0q, Z17, Z1b, evN, Z19, Z0m, Z1a, Z24, Z0l, Z0e, Z0k, Z0w, evT, Opd.ev, Z03, Z00, Z18, Z2l, Z1k, Z0u, Z0x, Z0d, Z1t, LOp.isNew, State.prune, Heap.at, Z06, Z0j, Z08, Z07, StampG.row, RatG.eta, Z1z, List.length_set, Int.toNat_natCast, Z3x, List.take_of_length_le, Z2p, Z32, binT, binQ, chk, Z2h, Bool.and_self, Z13, Z1y, fnOf, Z1v, isD, Z3u, Z0t, Nat.le_refl, ↓reduceIte, Nat.reduceAdd, Nat.reduceBEq, List.length_cons, List.length_nil, List.replicate_zero, List.nil_append, List.cons_append, List.append_nil, List.map_cons, List.map_nil, List.all_cons, List.all_nil, List.set_cons_zero, List.getD_cons_zero, List.drop_zero, List.take_succ_cons, List.take_zero, List.flatten_cons, List.flatten_nil, true_and, and_true, Nat.reduceLeDiff, List.reverse_cons, List.reverse_nil, Nat.zero_add, Nat.add_zero, Bool.false_eq_true, F2, G2, at_rat_Cmp, store_rowStamp]
    refine ⟨fun g1 => ?_, fun g1 => ?_⟩
    · have g1 : k < w.length := by omega
      rw [Z2n g1 (by omega)]
      obtain ⟨c, hc⟩ : ∃ c, w.length - k = c + 1 := ⟨w.length - k - 1, by omega⟩
      rw [hc] at k3
      simp only [innerG] at k3
      have ec : w.length - (k + 1) = c := by omega
      refine ⟨⟨by omega, by omega⟩, by omega, ⟨by omega, by omega⟩, by omega, fun g2 => ⟨⟨by omega, by omega⟩, by omega, ⟨by omega, by omega⟩, by omega, ⟨by omega, by omega⟩, by omega, ⟨by omega, by omega⟩, by omega, ?_⟩, fun g2 => ?_⟩
      · have e : swapG u i k = (u.set i (u.getD k default)).set k (u.getD i default) := by
          unfold swapG; rw [if_pos (by unfold stampLt; exact decide_eq_true g2)]
        exact Z0r.mk [0] (k + 1, swapG u i k) (by simp) (by simp) (by simp only [State.can, AV.can, HO.can, idx, Z03, Z00, Heap.at, Nat.reduceBEq, ↓reduceIte, Option.getD_some, Option.map_some, List.map_cons, List.map_nil, List.getD_cons_zero, e]) ⟨by show i + 1 ≤ k + 1; omega, by show k + 1 ≤ w.length; omega, by show (swapG u i k).length = _; rw [swapG_len, k2], by show innerG i (w.length - (k + 1)) _ (k + 1) = _; rw [ec]; exact k3⟩ (by show w.length - (k + 1) < w.length - k; omega)
      · have e : swapG u i k = u := by
          unfold swapG; rw [if_neg (by unfold stampLt; simp only [decide_eq_true_eq]; exact g2)]
        rw [e] at k3
        exact Z0r.mk [0] (k + 1, u) (by simp) (by simp) (by simp only [State.can, AV.can, HO.can, idx, Z03, Z00, Heap.at, Nat.reduceBEq, ↓reduceIte, Option.getD_some, Option.map_some, List.map_cons, List.map_nil, List.getD_cons_zero]) ⟨by show i + 1 ≤ k + 1; omega, by show k + 1 ≤ w.length; omega, k2, by show innerG i (w.length - (k + 1)) _ (k + 1) = _; rw [ec]; exact k3⟩ (by show w.length - (k + 1) < w.length - k; omega)
    · have ek : k = w.length := by omega
      rw [Z2n h' (by omega)]
      rw [ek, Nat.sub_self] at k3
      simp only [innerG] at k3
      rw [← k3] at i3
      have ed : w.length - (i + 1) = d := by omega
      exact Z0r.mk [0] (i + 1, u) (by simp) (by simp) (by simp only [State.can, AV.can, HO.can, idx, Z03, Z00, Heap.at, Nat.reduceBEq, ↓reduceIte, Option.getD_some, Option.map_some, List.map_cons, List.map_nil, List.getD_cons_zero]) ⟨by show i + 1 ≤ w.length; omega, k2, by show outerG (w.length - (i + 1)) u (i + 1) = _; rw [ed]; exact i3⟩ (by show w.length - (i + 1) < w.length - i; omega)
  · have : i = w.length := by omega
    subst this
    rw [Nat.sub_self] at i3
    simp only [outerG] at i3
    rw [← i3, i2]
    have i4 : v.length = w.length := i2
    refine ⟨by rw [if_pos (Nat.le_refl _), List.take_of_length_le (by omega)], ?_⟩
    unfold AV.freshP
    simp only [Heap.at, List.getD_cons_zero]
    intro r hr x hx
    obtain ⟨y, _, rfl⟩ := List.mem_map.1 hr
    revert x
    simp [StampG.row, DV.scal]
end Go.Ago

/- Functions that call themselves; the reference's Front. Conditions: none. -/
set_option maxRecDepth 100000
set_option linter.unusedSimpArgs false
set_option linter.unusedVariables false
namespace Go.Ago

/-- A function that calls itself: its contract up to a bound, from the contract up to one less. -/
theorem TabOK.recur {P : Program} {T : Tab} (hT : TabOK P T) {g : FuncId} {s : Nat → Sp} (h0 : (s 0).Ok P g) (hs : ∀ k, TabOK P (T.add g (s k)) → (s (k + 1)).Ok P g) : ∀ k, TabOK P (T.add g (s k)) := by
  have : ∀ k, (s k).Ok P g := by
    intro k
    induction k with
    | zero => exact h0
    | succ k ih => exact hs k (hT.add ih)
  exact fun k => hT.add (this k)

def Z4w (s : List StepG) : Nat → Int → Int → RatG
  | 0, _, _ => ⟨0, 1⟩
  | n + 1, who, loc =>
    let st := s.getD n default
    if st.act.kind = 2 ∧ who = st.thread ∧ st.act.loc = loc then leastG st.when
    else if (st.act.kind = 3 ∨ st.act.kind = 4 ∨ st.act.kind = 5) ∧ who = st.thread then ratMaxG (Z4w s n who loc) (Z4w s n (-1 - st.act.loc) loc)
    else if (st.act.kind = 4 ∨ st.act.kind = 5) ∧ who = -1 - st.act.loc then ratMaxG (Z4w s n who loc) (Z4w s n st.thread loc)
    else Z4w s n who loc

def FrontOk (K : Nat) (s : List StepG) (n : Int) : Prop := (0 ≤ n ∧ n ≤ s.length ∧ n < K) ∧ s.length ≤ 1000000 ∧ ∀ x ∈ s, inI x.act.loc
def sp_Front (K : Nat) : Sp := ⟨List LocG × Bool × Int × List StepG × Bool × Int × Int × Int, fun x => [.agg [.d (.list (x.1.map LocG.row) x.2.1), .d (.int .i64 x.2.2.1), .d (.list (x.2.2.2.1.map StepG.row) x.2.2.2.2.1)], .d (.int .i64 x.2.2.2.2.2.1), .d (.int .i64 x.2.2.2.2.2.2.1), .d (.int .i64 x.2.2.2.2.2.2.2)],
  fun x => .data (FrontOk K x.2.2.2.1 x.2.2.2.2.2.2.2) (.agg [.d (.int .i64 (Z4w x.2.2.2.1 x.2.2.2.2.2.2.2.toNat x.2.2.2.2.2.1 x.2.2.2.2.2.2.1).num), .d (.int .i64 (Z4w x.2.2.2.1 x.2.2.2.2.2.2.2.toNat x.2.2.2.2.2.1 x.2.2.2.2.2.2.1).den)]) true⟩
theorem Z3k (K : Nat) (l : List LocG) (f : Bool) (t : Int) (s : List StepG) (g : Bool) (who loc n : Int) : (sp_Front K).at [.agg [.d (.list (l.map LocG.row) f), .d (.int .i64 t), .d (.list (s.map StepG.row) g)], .d (.int .i64 who), .d (.int .i64 loc), .d (.int .i64 n)] =
    .data (FrontOk K s n) (.agg [.d (.int .i64 (Z4w s n.toNat who loc).num), .d (.int .i64 (Z4w s n.toNat who loc).den)]) true :=
  Sp.at_enc (s := sp_Front K) (fun x y h => by
    obtain ⟨a, b, c, d, e, f, i, j⟩ := x; obtain ⟨a', b', c', d', e', f', i', j'⟩ := y
    simp only [sp_Front, List.cons.injEq, AV.d.injEq, AV.agg.injEq, DV.list.injEq, DV.int.injEq, and_true, true_and] at h
    obtain ⟨⟨⟨h1, h2⟩, h3, h4, h5⟩, h6, h7, h8⟩ := h
    rw [Z4h LocG.row_inj h1, h2, h3, Z4h StepG.row_inj h4, h5, h6, h7, h8]) (l, f, t, s, g, who, loc, n)
theorem zero_ref20_Past_Front {P : Program} {g : FuncId} : (sp_Front 0).Ok P g := by
  rintro ⟨l, f, t, s, g, who, loc, n⟩
  intro (h : FrontOk 0 s n)
  have := h.1; omega

theorem body_ref20_Past_Front {T : Tab} {K n0 n1 n2 n3 : Nat} (k0 : Knows T n0 (sp_Front K)) (k1 : Knows T n1 sp_ratZero) (k2 : Knows T n2 sp_rat_Least) (k3 : Knows T n3 sp_rat_Max) :
    (sp_Front (K + 1)).Body T V_ref20_Past_Front (L_ref20_Past_Front n0 n1 n2 n3) R_ref20_Past_Front := by
  have F0 := k0.F; have G0 := k0.G; have F1 := k1.F; have G1 := k1.G; have F2 := k2.F; have G2 := k2.G; have F3 := k3.F; have G3 := k3.G
  rintro ⟨l, f, t, s, g, who, loc, n⟩ h
  have h : FrontOk (K + 1) s n := h
  refine .inl ⟨rfl, ?_⟩
  obtain ⟨⟨h1, h2, h3⟩, h4, h5⟩ := h
  have en : (sp_Front (K + 1)).enc (l, f, t, s, g, who, loc, n) = [.agg [.d (.list (l.map LocG.row) f), .d (.int .i64 t), .d (.list (s.map StepG.row) g)], .d (.int .i64 who), .d (.int .i64 loc), .d (.int .i64 n)] := rfl
  rw [en]
  unfold V_ref20_Past_Front L_ref20_Past_Front R_ref20_Past_Front
  simp only [↓Z0g, ↓Z10, ↓Z04, ↓Z0p, ↓Z0f, ↓Z09, ↓Z0a, ↓Z0o, ↓Z1i, ↓Z14, ↓Z23, ↓Z0n, ↓Z1p, ↓Z0i, ↓Z0c, ↓Z0b, Z2m, Z05, Z0q, Z17, Z12, Z1b, evN, Z19, Z0m, Z1a, Z24, Z0l, Z0e, Z0k, Z1s, Z1q, Z0w, evT, Opd.ev, Z03, Z00, Z18, Z2l, Z1k, Z1h, Z0u, Z0x, Z0y, Z0d, Z1t, LOp.isNew, State.prune, Z1j, Z1d, AV.leaf, Heap.at, Z06, Z0s, Z02, Z3b, Z07, Z01, StepG.row, Z1z, List.take_of_length_le, Z2p, Z3a, Z32, binT, binQ, chk, Z2h, List.contains_cons, List.contains_nil, Bool.or_false, Bool.and_self, resQ, resV, resT, Z4n, Z13, Z1y, fnOf, Z1v, isD, Z3u, putRow, Z0t, RetS, AV.agg.injEq, List.cons.injEq, Nat.le_refl, AV.d.injEq, DV.int.injEq, ↓reduceIte, Nat.reduceAdd, Nat.reduceBEq, List.length_cons, List.length_nil, List.replicate_succ, List.replicate_zero, List.nil_append, List.cons_append, List.append_nil, List.map_cons, List.map_nil, List.all_cons, List.all_nil, List.set_cons_zero, List.set_cons_succ, List.getD_cons_zero, List.getD_cons_succ, List.drop_zero, List.drop_succ_cons, List.take_succ_cons, List.take_zero, List.flatten_cons, List.flatten_nil, Bool.not_false, true_and, and_true, and_self, Nat.reduceLT, Nat.reduceLeDiff, List.reverse_cons, List.reverse_nil, Nat.zero_add, Nat.add_zero, Bool.false_eq_true, F0, G0, F1, G1, F2, G2, F3, G3, Z3k, at_ratZero, at_rat_Least, at_rat_Max]
  refine ⟨fun e => by subst e; exact ⟨rfl, rfl⟩, fun e => ?_⟩
  obtain ⟨m, rfl⟩ : ∃ m : Nat, n = ((m + 1 : Nat) : Int) := ⟨n.toNat - 1, by omega⟩
  have hm : m < s.length := by omega
  have ew : IntKind.i64.wrap (((m + 1 : Nat) : Int) - 1) = (m : Int) := by rw [wrap_id (by omega) (by omega)]; omega
  have hst : inI (s.getD m default).act.loc := by rw [Z3z hm]; exact h5 _ (List.getElem_mem hm)
  have ok : FrontOk K s (m : Int) := ⟨⟨by omega, by omega, by omega⟩, h4, h5⟩
  rw [ew]
  simp only [Int.toNat_natCast]
  have ef : Z4w s (m + 1) who loc = (let st := s.getD m default
    if st.act.kind = 2 ∧ who = st.thread ∧ st.act.loc = loc then leastG st.when
    else if (st.act.kind = 3 ∨ st.act.kind = 4 ∨ st.act.kind = 5) ∧ who = st.thread then ratMaxG (Z4w s m who loc) (Z4w s m (-1 - st.act.loc) loc)
    else if (st.act.kind = 4 ∨ st.act.kind = 5) ∧ who = -1 - st.act.loc then ratMaxG (Z4w s m who loc) (Z4w s m st.thread loc)
    else Z4w s m who loc) := rfl
  simp only at ef
  have ex : IntKind.i64.wrap (-1 - (s.getD m default).act.loc) = -1 - (s.getD m default).act.loc := wrap_id (by have := hst.2; omega) (by have := hst.1; omega)
  rw [ex]
  refine ⟨⟨by omega, by omega⟩, ok, ?_⟩
  generalize Z4w s (m + 1) who loc = R at ef ⊢
  generalize Z4w s m who loc = A at ef ⊢
  generalize Z4w s m (-1 - (s.getD m default).act.loc) loc = B at ef ⊢
  generalize Z4w s m (s.getD m default).thread loc = C at ef ⊢
  generalize s.getD m default = st at ef ⊢
  generalize FrontOk K s (m : Int) = OK at ok ⊢
  clear ew ex hst h5 F0 F1 F2 F3 G0 G1 G2 G3 k0 k1 k2 k3 en hm h4 h3 h2 h1 e
  clear h
  (repeat' (first | intro _ | apply And.intro))
  all_goals first
    | exact ok
    | (exfalso; omega)
    | (rw [ef, if_pos (by omega)]; first | done | rfl)
    | (rw [ef, if_neg (by omega), if_pos (by omega)]; first | done | rfl)
    | (rw [ef, if_neg (by omega), if_neg (by omega), if_pos (by omega)]; first | done | rfl)
    | rw [ef, if_neg (by omega), if_neg (by omega), if_neg (by omega)]
end Go.Ago

/- Memories as data; are two the same? Conditions: none. -/
set_option maxRecDepth 100000
set_option linter.unusedSimpArgs false
set_option linter.unusedVariables false
namespace Go.Ago

abbrev StampsF := List StampG × Bool
def rowStamps (x : StampsF) : List DV := [.list (x.1.map StampG.row) x.2]
theorem rowStamps_inj (x y : StampsF) (h : rowStamps x = rowStamps y) : x = y := by
  obtain ⟨a, b⟩ := x; obtain ⟨c, d⟩ := y
  simp only [rowStamps, List.cons.injEq, DV.list.injEq, and_true] at h
  rw [Z4h StampG.row_inj h.1, h.2]
theorem getStamps {x : StampsF} : (rowStamps x).getD 0 DV.nilp = .list (x.1.map StampG.row) x.2 := rfl
theorem rowStamps_len {x : StampsF} : (rowStamps x).length = 1 := rfl
theorem idx_Stamps {l : List StampsF} {full : Bool} {kd : IntKind} {n : Int} {k : Delta → Prop} : stepK (evIdxAddr 1 (.d (.list (l.map rowStamps) full)) (.d (.int kd n))) k ↔ (0 ≤ n ∧ n < l.length) ∧ k ⟨.dptr (rowStamps (l.getD n.toNat default)) 0, [], []⟩ := stepK_idx_map (fun _ => rfl)

structure MemG where
  locs : List LocG
  lf : Bool
  past : List StampsF
  pf : Bool
  vals : List Int
  vf : Bool
  marks : List RatsF
  mf : Bool
  fronts : List RatsF
  ff : Bool
def MemG.av (m : MemG) : AV := .agg [.d (.list (m.locs.map LocG.row) m.lf), .d (.list (m.past.map rowStamps) m.pf), .d (.list (m.vals.map rowI) m.vf), .d (.list (m.marks.map rowRats) m.mf), .d (.list (m.fronts.map rowRats) m.ff)]
theorem MemG.av_inj (x y : MemG) (h : x.av = y.av) : x = y := by
  obtain ⟨a, b, c, d, e, f, g, i, j, k⟩ := x; obtain ⟨a', b', c', d', e', f', g', i', j', k'⟩ := y
  simp only [MemG.av, AV.agg.injEq, List.cons.injEq, AV.d.injEq, DV.list.injEq, and_true] at h
  obtain ⟨⟨h1, h2⟩, ⟨h3, h4⟩, ⟨h5, h6⟩, ⟨h7, h8⟩, h9, h10⟩ := h
  rw [Z4h LocG.row_inj h1, h2, Z4h rowStamps_inj h3, h4, Z4h rowI_inj h5, h6, Z4h rowRats_inj h7, h8, Z4h rowRats_inj h9, h10]
def MemG.small (m : MemG) : Prop := m.locs.length ≤ maxLen ∧ m.vals.length ≤ maxLen ∧ (m.marks.length ≤ maxLen ∧ ∀ r ∈ m.marks, r.1.length ≤ maxLen) ∧ (m.fronts.length ≤ maxLen ∧ ∀ r ∈ m.fronts, r.1.length ≤ maxLen) ∧ m.past.length ≤ maxLen ∧ ∀ r ∈ m.past, r.1.length ≤ maxLen
def sameMem (x y : MemG) : Bool := decide (x.locs = y.locs) && decide (x.vals = y.vals) && decide (x.marks.map (·.1) = y.marks.map (·.1)) && decide (x.fronts.map (·.1) = y.fronts.map (·.1)) && decide (x.past.map (·.1) = y.past.map (·.1))
def sp_sameMem : Sp := ⟨MemG × MemG, fun x => [x.1.av, x.2.av], fun x => .data x.1.small (.d (.bool (sameMem x.1 x.2))) true⟩

theorem at_sameMem (a1 : List LocG) (a2 : Bool) (a3 : List StampsF) (a4 : Bool) (a5 : List Int) (a6 : Bool) (a7 : List RatsF) (a8 : Bool) (a9 : List RatsF) (a10 : Bool) (b1 : List LocG) (b2 : Bool) (b3 : List StampsF) (b4 : Bool) (b5 : List Int) (b6 : Bool) (b7 : List RatsF) (b8 : Bool) (b9 : List RatsF) (b10 : Bool) :
    sp_sameMem.at [.agg [.d (.list (a1.map LocG.row) a2), .d (.list (a3.map rowStamps) a4), .d (.list (a5.map rowI) a6), .d (.list (a7.map rowRats) a8), .d (.list (a9.map rowRats) a10)], .agg [.d (.list (b1.map LocG.row) b2), .d (.list (b3.map rowStamps) b4), .d (.list (b5.map rowI) b6), .d (.list (b7.map rowRats) b8), .d (.list (b9.map rowRats) b10)]] =
      .data (MemG.small ⟨a1, a2, a3, a4, a5, a6, a7, a8, a9, a10⟩) (.d (.bool (sameMem ⟨a1, a2, a3, a4, a5, a6, a7, a8, a9, a10⟩ ⟨b1, b2, b3, b4, b5, b6, b7, b8, b9, b10⟩))) true :=
  Sp.at_enc (s := sp_sameMem) (fun x y h => by
    obtain ⟨a, b⟩ := x; obtain ⟨c, d⟩ := y
    simp only [sp_sameMem, List.cons.injEq, and_true] at h
    rw [MemG.av_inj _ _ h.1, MemG.av_inj _ _ h.2]) (⟨a1, a2, a3, a4, a5, a6, a7, a8, a9, a10⟩, ⟨b1, b2, b3, b4, b5, b6, b7, b8, b9, b10⟩)

theorem body_ref20_Same {T : Tab} {n1 n2 n3 n4 : Nat} (k1 : Knows T n1 sp_sameLoc) (k2 : Knows T n2 sp_sameI) (k3 : Knows T n3 sp_sameRats) (k4 : Knows T n4 sp_sameStamp) :
    sp_sameMem.Body T V_ref20_Same (L_ref20_Same n1 n2 n3 n4) R_ref20_Same := by
  have F1 := k1.F; have G1 := k1.G; have F2 := k2.F; have G2 := k2.G; have F3 := k3.F; have G3 := k3.G; have F4 := k4.F; have G4 := k4.G
  rintro ⟨⟨a1, a2, a3, a4, a5, a6, a7, a8, a9, a10⟩, ⟨b1, b2, b3, b4, b5, b6, b7, b8, b9, b10⟩⟩ h
  obtain ⟨h1, h2, h3, h4, h5, h6⟩ : MemG.small ⟨a1, a2, a3, a4, a5, a6, a7, a8, a9, a10⟩ := h
  refine .inl ⟨rfl, ?_⟩
  unfold V_ref20_Same L_ref20_Same R_ref20_Same
  simp (maxSteps := 3000000) only [↓Z0g, ↓Z10, ↓Z04, ↓Z0p, ↓Z0f, ↓Z09, ↓Z1g, ↓Z0a, ↓Z0o, ↓Z1i, ↓Z0n, ↓Z1p, ↓Z0i, ↓Z0c, ↓Z0z, ↓Z0b, Z2m, Z05, Z17, Z12, Z1b, evN, Z19, Z0m, Z1a, Z0l, Z0e, Z0k, Z1q, Z0w, evT, Opd.ev, Z03, Z00, Z18, Z1k, Z1h, Z0u, Z0x, Z0y, Z0d, Z1t, LOp.isNew, State.prune, Z1j, Z1d, AV.leaf, Heap.at, Z06, Z02, Z3x, List.length_map, Z2p, Z3a, Z32, evUn, binT, binQ, Bool.and_self, resQ, resV, resT, Z4n, Z13, Z1y, fnOf, Z1v, Z3u, Z0t, RetS, AV.d.injEq, DV.bool.injEq, ↓reduceIte, Nat.reduceAdd, Nat.reduceBEq, List.length_cons, List.length_nil, List.replicate_succ, List.replicate_zero, List.nil_append, List.append_nil, List.map_cons, List.map_nil, List.all_cons, List.all_nil, List.set_cons_zero, List.set_cons_succ, List.getD_cons_zero, List.getD_cons_succ, List.flatten_cons, List.flatten_nil, true_and, and_self, Nat.reduceLT, Nat.zero_add, Nat.add_zero, Bool.false_eq_true, sp_sameMem, MemG.av, F1, G1, F2, G2, F3, G3, at_sameLoc, at_sameI, at_sameRats]
  simp only at h1 h2 h3 h4 h5 h6
  refine ⟨h1, fun e1 => ⟨h2, fun e2 => ⟨h3, fun e3 => ⟨h4, fun e4 => ⟨fun e5 => ?_, fun e5 => ?_⟩, fun e4 => ?_⟩, fun e3 => ?_⟩, fun e2 => ?_⟩, fun e1 => ?_⟩
  case refine_3 => simp [sameMem, e4]
  case refine_4 => simp [sameMem, e3]
  case refine_5 => simp [sameMem, e2]
  case refine_6 => simp [sameMem, e1]
  case refine_2 =>
    have : a3.map (·.1) ≠ b3.map (·.1) := fun e => e5 (by have := congrArg List.length e; simp at this; rw [this])
    simp [sameMem, this]
  have hab : a3.length = b3.length := by omega
  have hs : sameMem ⟨a1, a2, a3, a4, a5, a6, a7, a8, a9, a10⟩ ⟨b1, b2, b3, b4, b5, b6, b7, b8, b9, b10⟩ = decide (a3.map (·.1) = b3.map (·.1)) := by simp only [sameMem, e1, e2, e3, e4, decide_true, Bool.true_and]
  rw [hs]
  refine Loop.fam [2, 3, 5] (fun i : Nat => ⟨[(2, .ptr 0 5 0 0), (3, .ptr 1 5 0 0), (5, .d (.int .i64 (i : Nat)))],
      [.vec 5 [[.d (.list (a1.map LocG.row) a2), .d (.list (a3.map rowStamps) a4), .d (.list (a5.map rowI) a6), .d (.list (a7.map rowRats) a8), .d (.list (a9.map rowRats) a10)]],
       .vec 5 [[.d (.list (b1.map LocG.row) b2), .d (.list (b3.map rowStamps) b4), .d (.list (b5.map rowI) b6), .d (.list (b7.map rowRats) b8), .d (.list (b9.map rowRats) b10)]]]⟩)
    (fun i => i ≤ a3.length ∧ (a3.map (·.1)).take i = (b3.map (·.1)).take i) (fun i => a3.length - i) 0 [0, 1] (by simp) (by simp) (by simp only [State.can, AV.can, AV.canL, HO.can, Z0v, idx, Z03, Z00, Heap.at, Nat.reduceBEq, ↓reduceIte, Nat.reduceEqDiff, Option.getD_some, Option.map_some, List.map_cons, List.map_nil, List.getD_cons_zero, List.getD_cons_succ]; rfl) ⟨by omega, by simp⟩ ?_
  rintro i ⟨i1, i2⟩
  simp only [↓Z0g, ↓Z10, ↓Z16, ↓Z04, ↓Z0p, ↓Z0f, ↓Z09, ↓Z0a, ↓Z0o, ↓Z1u, ↓Z1i, ↓Z14, ↓Z15, ↓Z23, ↓Z0n, ↓Z1p, ↓Z3g, ↓Z30, ↓Z4o, ↓Z0z, ↓Z0b, Z2m, Z05, Z0q, Z17, Z1b, evN, Z19, Z0m, Z1a, Z24, Z0l, Z0e, Z0k, Z0w, evT, Opd.ev, Z03, Z00, Z18, Z0u, Z0x, Z0d, Z1t, LOp.isNew, State.prune, Heap.at, Z06, Z0s, Z02, Z2i, Int.toNat_natCast, Z3x, List.length_map, Z2p, Z3a, Z32, evUn, binT, binQ, chk, Z2h, resQ, resV, resT, Z13, Z1y, fnOf, Z1v, Z3u, Z0t, RetS, AV.d.injEq, DV.bool.injEq, ↓reduceIte, Nat.reduceAdd, Nat.reduceBEq, List.length_cons, List.length_nil, List.replicate_zero, List.nil_append, List.cons_append, List.append_nil, List.map_cons, List.map_nil, List.all_nil, List.getD_cons_zero, List.getD_cons_succ, List.flatten_cons, List.flatten_nil, true_and, and_self, Nat.reduceLT, List.reverse_cons, List.reverse_nil, Nat.zero_add, Nat.add_zero, Bool.false_eq_true, F4, G4, at_sameStamp, getStamps, rowStamps_len, idx_Stamps, Int.toNat_natCast]
  refine ⟨fun h => ?_, fun h => ?_⟩
  · have h' : i < a3.length := by omega
    have hb' : i < b3.length := by omega
    have ea : (a3.map (·.1)).getD i [] = (a3.getD i default).1 := by rw [Z3z (by simpa using h'), Z3z h', List.getElem_map]
    have eb : (b3.map (·.1)).getD i [] = (b3.getD i default).1 := by rw [Z3z (by simpa using hb'), Z3z hb', List.getElem_map]
    have hl : (a3.getD i default).1.length ≤ maxLen := by rw [Z3z h']; exact h6 _ (List.getElem_mem h')
    rw [Z2n h' h5]
    refine ⟨⟨by omega, by omega⟩, ⟨by omega, by omega⟩, hl, fun c => ?_, fun c => ?_⟩
    · exact Z0r.mk [0, 1] (i + 1) (by simp) (by simp) (by simp only [State.can, AV.can, AV.canL, HO.can, Z0v, idx, Z03, Z00, Heap.at, Nat.reduceBEq, ↓reduceIte, Nat.reduceEqDiff, Option.getD_some, Option.map_some, List.map_cons, List.map_nil, List.getD_cons_zero, List.getD_cons_succ]) ⟨by omega, take_next i2 (by simpa using h') (by simpa using hb') (by rw [ea, eb, c])⟩ (by omega)
    · symm
      refine decide_eq_false fun e => ?_
      rw [e, eb] at ea
      exact c ea.symm
  · have : i = a3.length := by omega
    subst this
    have e : a3.length = (a3.map (·.1)).length := by simp
    rw [e] at i2
    exact (decide_eq_true (take_all i2 (by simp [hab]))).symm
end Go.Ago

/- hist.copied: a memory in memory of its own. Conditions: none. -/
set_option maxRecDepth 100000
set_option linter.unusedSimpArgs false
set_option linter.unusedVariables false
namespace Go.Ago
/-- The first 'i' lists are of the memory's own now: nothing is known behind their ends. -/
def cpL {α : Type} (L : List (List α × Bool)) (i : Nat) : List (List α × Bool) := (L.take i).map (fun x => (x.1, false)) ++ L.drop i
theorem cpL_len {α : Type} (L : List (List α × Bool)) (i : Nat) : (cpL L i).length = L.length := by unfold cpL; simp; omega
theorem cpL_get {α : Type} {L : List (List α × Bool)} {i : Nat} {d : List α × Bool} (h : i < L.length) : (cpL L i).getD i d = L.getD i d := by
  unfold cpL
  rw [List.getD_eq_getElem?_getD, List.getElem?_append_right (by simp; omega), List.getElem?_drop, List.getD_eq_getElem?_getD]
  congr 2
  simp; omega
theorem cpL_set {α : Type} {L : List (List α × Bool)} {i : Nat} {d : List α × Bool} (h : i < L.length) : (cpL L i).set i ((L.getD i d).1, false) = cpL L (i + 1) := by
  unfold cpL
  rw [List.set_append_right _ _ (by simp; omega), List.drop_eq_getElem_cons h]
  have : i - ((L.take i).map (fun x => (x.1, false))).length = 0 := by simp; omega
  rw [this, List.set_cons_zero, List.take_add_one, List.getElem?_eq_getElem h, List.getD_eq_getElem?_getD, List.getElem?_eq_getElem h, List.map_append]
  simp
/-- A list of lists, as cells. -/
def Z46 {α : Type} (f : α → List DV) (L : List (List α × Bool)) : List (List AV) := L.map fun x => [.d (.list (x.1.map f) x.2)]
theorem Z4j {α : Type} (f : α → List DV) (L : List (List α × Bool)) : (Z46 f L).length = L.length := by simp [Z46]
theorem rowsL_get {α : Type} {f : α → List DV} {L : List (List α × Bool)} {i : Nat} {d : List α × Bool} (h : i < L.length) : (Z46 f L).getD i [] = [.d (.list ((L.getD i d).1.map f) (L.getD i d).2)] := by
  unfold Z46
  rw [List.getD_eq_getElem?_getD, List.getElem?_map, List.getElem?_eq_getElem h, List.getD_eq_getElem?_getD, List.getElem?_eq_getElem h]; rfl
theorem rowsL_cp {α : Type} {f : α → List DV} {L : List (List α × Bool)} {i : Nat} {d : List α × Bool} (h : i < L.length) : (Z46 f (cpL L i)).getD i [] = [.d (.list ((L.getD i d).1.map f) (L.getD i d).2)] := by
  rw [rowsL_get (d := d) (by rw [cpL_len]; exact h), cpL_get h]
theorem rowsL_set {α : Type} {f : α → List DV} {L : List (List α × Bool)} {i : Nat} {d : List α × Bool} (h : i < L.length) : (Z46 f (cpL L i)).set i [.d (.list ((L.getD i d).1.map f) false)] = Z46 f (cpL L (i + 1)) := by
  rw [← cpL_set (d := d) h]
  unfold Z46
  rw [List.map_set]
theorem rowsL_over {α : Type} {f : α → List DV} {L : List (List α × Bool)} {i : Nat} {x : List AV} (h : i < L.length) : (Z46 f (cpL L i)).set i x = (Z46 f (cpL L (i + 1))).set i x := by
  rw [← rowsL_set (d := L[i]) h, List.set_set]
theorem iceL_data (id sz0 : Nat) (rows : List (List DV)) (x : DV) : AV.iceL id sz0 rows [.d x] = [.d x] := by simp [AV.iceL, AV.ice]
theorem iceRows_rowsL {α : Type} {f : α → List DV} (id sz0 : Nat) (rows : List (List DV)) (L : List (List α × Bool)) : iceRows id sz0 rows (Z46 f L) = Z46 f L := by
  unfold iceRows Z46
  rw [List.map_map]
  exact List.map_congr_left fun x _ => iceL_data _ _ _ _
theorem iceRows_set (id sz0 : Nat) (rows : List (List DV)) (R : List (List AV)) (i : Nat) (x : List AV) : iceRows id sz0 rows (R.set i x) = (iceRows id sz0 rows R).set i (AV.iceL id sz0 rows x) := by
  unfold iceRows; rw [List.map_set]
theorem drows_rowsL {α : Type} {f : α → List DV} (L : List (List α × Bool)) : drows (Z46 f L) = some (L.map fun x => [.list (x.1.map f) x.2]) := by
  have : Z46 f L = (L.map fun x => [DV.list (x.1.map f) x.2]).map (·.map .d) := by unfold Z46; rw [List.map_map]; rfl
  rw [this, drows_d]
theorem canL_data (ρ : List Nat) (x : DV) : AV.canL ρ [.d x] = some [.d x] := by simp [AV.canL, AV.can]
theorem Z3e {α : Type} {f : α → List DV} (ρ : List Nat) (L : List (List α × Bool)) : Z0v ρ (Z46 f L) = some (Z46 f L) := by
  unfold Z46
  induction L with
  | nil => rfl
  | cons x L ih => simp [Z0v, canL_data, ih]
theorem canRows_set (ρ : List Nat) : ∀ (R R' : List (List AV)) (i : Nat) (x x' : List AV), Z0v ρ R = some R' → AV.canL ρ x = some x' → Z0v ρ (R.set i x) = some (R'.set i x') := by
  intro R
  induction R with
  | nil => intro R' i x x' h _; simp [Z0v] at h; subst h; simp [Z0v]
  | cons r R ih =>
    intro R' i x x' h hx
    simp only [Z0v] at h
    split at h
    · rename_i y ys h1 h2
      simp only [Option.some.injEq] at h; subst h
      cases i with
      | zero => simp [Z0v, hx, h2]
      | succ i => simp [Z0v, h1, ih ys i x x' h2 hx]
    · cases h
/-- Which list of stamps and which front are objects of their own afterwards. -/
structure Hole where
  p : Nat
  f : Nat
structure CpOk (h : Hole) (m : MemG) : Prop where
  locs : roomy m.locs.length 16
  vals : roomy m.vals.length 8
  past : roomy m.past.length 24
  marks : roomy m.marks.length 24
  fronts : roomy m.fronts.length 24
  pasts : ∀ r ∈ m.past, roomy r.1.length 24
  markss : ∀ r ∈ m.marks, roomy r.1.length 16
  frontss : ∀ r ∈ m.fronts, roomy r.1.length 16
  p : h.p < m.past.length
  f : h.f < m.fronts.length
def ef_copied (h : Hole) : EfN where
  A := MemG
  args m := [m.av]
  ok m := CpOk h m
  val m := .agg [.ref 0 2 0 m.locs.length true, .ref 2 1 0 m.past.length true, .ref 1 1 0 m.vals.length true, .ref 3 1 0 m.marks.length true, .ref 4 1 0 m.fronts.length true]
  news m := [.dvec 2 (m.locs.map LocG.row), .dvec 1 (m.vals.map rowI), .vec 1 ((Z46 StampG.row (cpL m.past m.past.length)).set h.p [.ref 5 3 0 (m.past.getD h.p default).1.length true]), .vec 1 (Z46 RatG.row (cpL m.marks m.marks.length)),
    .vec 1 ((Z46 RatG.row (cpL m.fronts m.fronts.length)).set h.f [.ref 6 2 0 (m.fronts.getD h.f default).1.length true]), .dvec 3 ((m.past.getD h.p default).1.map StampG.row), .dvec 2 ((m.fronts.getD h.f default).1.map RatG.row)]
set_option maxHeartbeats 4000000 in
theorem eff_hist_copied {T : Tab} {n1 n2 n3 n4 n5 n6 : Nat} (h : Hole) (k1 : Knows T n1 (cloneS 1 8)) (k2 : Knows T n2 (cloneS 2 16)) (k3 : Knows T n3 (cloneS 2 16)) (k4 : Knows T n4 (cloneS 1 24)) (k5 : Knows T n5 (cloneS 1 24)) (k6 : Knows T n6 (cloneS 3 24)) :
    (ef_copied h).Body T V_hist_copied (L_hist_copied n1 n2 n3 n4 n5 n6) R_hist_copied where
  ren m ρ := by simp [ef_copied, MemG.av, AV.ren, AV.renL]
  body := by
    have F1 := k1.F; have G1 := k1.G; have F2 := k2.F; have G2 := k2.G; have F3 := k3.F; have G3 := k3.G; have F4 := k4.F; have G4 := k4.G; have F5 := k5.F; have G5 := k5.G; have F6 := k6.F; have G6 := k6.G
    rintro ⟨a1, a2, a3, a4, a5, a6, a7, a8, a9, a10⟩ ⟨c1, c2, c3, c4, c5, c6, c7, c8, hp, hf⟩
    simp only at c1 c2 c3 c4 c5 c6 c7 c8 hp hf
    have m1 : a3.length ≤ 2 ^ 40 := c3.1
    have m2 : a7.length ≤ 2 ^ 40 := c4.1
    have m3 : a9.length ≤ 2 ^ 40 := c5.1
    unfold V_hist_copied L_hist_copied R_hist_copied
    simp only [↓Z04, ↓Z0p, ↓Z09, ↓Z1g, ↓Z0a, ↓Z0o, ↓Z0n, Z2m, Z05, Z0q, Z17, Z1b, evN, Z19, Z0m, Z1a, Z24, Z0l, Z0e, Z0k, evT, Opd.ev, Z03, Z00, Z18, Z2l, Z1k, Z0y, Z0d, Z1t, LOp.isNew, State.prune, Z1j, Z1d, AV.leaf, Heap.at, Z06, Z02, Z07, Z01, Z3x, List.length_map, Z2p, Z3a, chk, Z2h, List.contains_cons, List.contains_nil, Bool.or_false, Bool.and_self, Z13, Z1y, fnOf, Z1v, Z3u, lens_I, Z3c, putRow, Z0t, Z2o, Nat.le_refl, ↓reduceIte, Nat.reduceAdd, Nat.reduceBEq, List.length_cons, List.length_nil, List.replicate_succ, List.replicate_zero, List.nil_append, List.cons_append, List.append_nil, List.map_cons, List.map_nil, List.all_cons, List.all_nil, List.set_cons_zero, List.set_cons_succ, List.getD_cons_zero, List.getD_cons_succ, List.drop_zero, List.drop_succ_cons, List.take_succ_cons, List.take_zero, List.flatten_cons, List.flatten_nil, Bool.and_true, Bool.not_false, true_and, and_true, true_or, or_true, and_self, Nat.reduceLT, Nat.reduceLeDiff, List.reverse_cons, List.reverse_nil, Nat.zero_add, Nat.add_zero, Bool.false_eq_true, ef_copied, MemG.av, F1, G1, F2, G2, F4, G4, F5, G5, at_clone]
    refine ⟨c1, c2, ⟨rows_len (f := rowStamps) (fun _ => rfl) _, c3⟩, ⟨rows_len (f := rowRats) (fun _ => rfl) _, c4⟩, ⟨rows_len (f := rowRats) (fun _ => rfl) _, c5⟩, ?_⟩
    refine Loop.thaw 4 (Nat.zero_le _) ?_
    have e3 : (a3.map rowStamps).map (·.map AV.d) = Z46 StampG.row (cpL a3 0) := by unfold Z46 cpL rowStamps; rw [List.map_map]; simp
    have r3 : ∀ i, i < a3.length → roomy (a3.getD i default).1.length 24 := fun i hi => c6 _ (by rw [Z3z hi]; exact List.getElem_mem hi)
    refine Loop.fam [1, 28, 29, 2] (fun i : Nat => if i ≤ h.p then ⟨[(1, .ptr 0 5 0 0), (28, .d (.int .i64 a3.length)), (29, .d (.int .i64 i)), (2, .ptr 1 5 0 0)], [.vec 5 [[.ref 2 2 0 a1.length true, .ref 4 1 0 a3.length true, .ref 3 1 0 a5.length true, .ref 5 1 0 a7.length true, .ref 6 1 0 a9.length true]], .vec 5 [[.d (.list [] true), .d (.list [] true), .d (.list [] true), .d (.list [] true), .d (.list [] true)]], .dvec 2 (a1.map LocG.row), .dvec 1 (a5.map rowI), .vec 1 (Z46 StampG.row (cpL a3 i)), .dvec 1 (a7.map rowRats), .dvec 1 (a9.map rowRats)]⟩ else ⟨[(1, .ptr 0 5 0 0), (28, .d (.int .i64 a3.length)), (29, .d (.int .i64 i)), (2, .ptr 1 5 0 0)], [.vec 5 [[.ref 2 2 0 a1.length true, .ref 4 1 0 a3.length true, .ref 3 1 0 a5.length true, .ref 5 1 0 a7.length true, .ref 6 1 0 a9.length true]], .vec 5 [[.d (.list [] true), .d (.list [] true), .d (.list [] true), .d (.list [] true), .d (.list [] true)]], .dvec 2 (a1.map LocG.row), .dvec 1 (a5.map rowI), .vec 1 ((Z46 StampG.row (cpL a3 i)).set h.p [.ref 7 3 0 (a3.getD h.p default).1.length true]), .dvec 1 (a7.map rowRats), .dvec 1 (a9.map rowRats), .dvec 3 ((a3.getD h.p default).1.map StampG.row)]⟩)
      (fun i => i ≤ a3.length) (fun i => a3.length - i) 0 [0, 1, 2, 3, 4, 5, 6] (by simp) (by simp [State.thaw]) (by
        rw [if_pos (Nat.zero_le _)]
        simp only [State.can, AV.can, AV.canL, HO.can, Z0v, idx, Z03, Z00, Heap.at, Nat.reduceBEq, ↓reduceIte, Nat.reduceEqDiff, Option.getD_some, Option.map_some, List.map_cons, List.map_nil, List.getD_cons_zero, List.getD_cons_succ, State.thaw, HO.thaw, e3, Z3e, List.set_cons_zero, List.set_cons_succ]; rfl) (by omega) ?_
    intro i hi
    have hi : i ≤ a3.length := hi
    have li : (cpL a3 i).length = a3.length := cpL_len a3 i
    by_cases hin : i < a3.length
    · have hge := rowsL_cp (f := StampG.row) (d := default) hin
      by_cases hip : i ≤ h.p
      · rw [if_pos hip]
        simp only [↓Z0g, ↓Z16, ↓Z04, ↓Z0p, ↓Z0f, ↓Z09, ↓Z1g, ↓Z0a, ↓Z0o, ↓Z1u, ↓Z14, ↓Z15, ↓Z0n, ↓Z3g, ↓Z30, ↓Z0b, Z2m, Z05, Z0q, Z17, Z1b, evN, Z19, Z0m, Z1a, Z24, Z0l, Z0e, Z0k, Z0w, evT, Opd.ev, Z03, Z00, Z18, Z2l, Z1k, Z0u, Z0x, Z0d, Z1t, LOp.isNew, State.prune, Z1j, Z1d, Heap.at, Z06, Z02, Z08, Z07, Z01, Int.toNat_natCast, Z3x, List.length_map, Z2p, Z3a, Z32, binT, binQ, chk, Z2h, List.contains_cons, List.contains_nil, Bool.or_false, Bool.and_self, Z13, Z1y, fnOf, Z1v, Z3u, Z1w, putRow, Z0t, Nat.le_refl, ↓reduceIte, Nat.reduceAdd, Nat.reduceBEq, List.length_cons, List.length_nil, List.replicate_succ, List.replicate_zero, List.nil_append, List.cons_append, List.append_nil, List.map_cons, List.map_nil, List.all_cons, List.all_nil, List.set_cons_zero, List.set_cons_succ, List.getD_cons_zero, List.getD_cons_succ, List.drop_zero, List.drop_succ_cons, List.take_zero, List.flatten_cons, List.flatten_nil, Bool.true_and, Bool.not_false, true_and, and_true, true_or, and_self, Nat.reduceLT, List.reverse_cons, List.reverse_nil, Nat.zero_add, Nat.add_zero, Bool.false_eq_true, F6, G6, at_clone, Z02, Z01, Z4j, hge, li, List.getD_cons_zero]
        refine ⟨fun _ => ⟨⟨by omega, by omega⟩, hin, r3 i hin, ⟨by omega, by omega⟩, hin, ?_⟩, fun c => absurd c (by omega)⟩
        rw [Z2n hin (by unfold maxLen; omega)]
        by_cases hlt : i < h.p
        · refine Z0r.ices [7] (Z0r.thaw 0 (Z0r.thaw 1 (Z0r.thaw 4 (Z0r.mk [0, 1, 2, 3, 4, 5, 6] (i + 1) (by simp) (by simp [State.thaw, ices_len]) ?_ (by show i + 1 ≤ a3.length; omega) (by show a3.length - (i + 1) < a3.length - i; omega)))))
          rw [if_pos (show i + 1 ≤ h.p by omega)]
          simp only [State.can, AV.can, AV.canL, HO.can, Z0v, idx, Z03, Z00, Heap.at, Nat.reduceBEq, ↓reduceIte, Nat.reduceEqDiff, Option.getD_some, Option.map_some, List.map_cons, List.map_nil, List.getD_cons_zero, List.getD_cons_succ, State.ices, State.ice, HO.data, iceEnv, Z42, HO.ice, AV.ice, AV.iceL, State.thaw, thaw_mkVec, Z33, Z3h, iceRows_set, iceRows_rowsL, Z3e, List.set_cons_zero, List.set_cons_succ, List.drop_zero, Z11, List.take_length, Bool.not_true, Nat.zero_add, Nat.le_refl, List.length_map, and_self, Option.map_some, rowsL_set (d := default) hin]
          try rfl
        · have e : i = h.p := by omega
          have hcan : ∀ X : List (List AV), Z0v [0, 1, 2, 3, 4, 5, 6, 7] ((Z46 StampG.row (cpL a3 (h.p + 1))).set h.p [.ref 7 3 0 (a3.getD h.p default).1.length true]) = some ((Z46 StampG.row (cpL a3 (h.p + 1))).set h.p [.ref 7 3 0 (a3.getD h.p default).1.length true]) := fun _ => canRows_set _ _ _ _ _ _ (Z3e _ _) rfl
          refine Z0r.mk [0, 1, 2, 3, 4, 5, 6, 7] (i + 1) (by simp) (by simp) ?_ (by show i + 1 ≤ a3.length; omega) (by show a3.length - (i + 1) < a3.length - i; omega)
          rw [if_neg (show ¬ i + 1 ≤ h.p by omega), rowsL_over hin, e]
          simp only [State.can, AV.can, AV.canL, HO.can, Z0v, idx, Z03, Z00, Heap.at, Nat.reduceBEq, ↓reduceIte, Nat.reduceEqDiff, Option.getD_some, Option.map_some, List.map_cons, List.map_nil, List.getD_cons_zero, List.getD_cons_succ, hcan []]
      · rw [if_neg hip]
        have hge2 : ∀ x, ((Z46 StampG.row (cpL a3 i)).set h.p x).getD i [] = [.d (.list ((a3.getD i default).1.map StampG.row) (a3.getD i default).2)] := fun x => by
          rw [List.getD_eq_getElem?_getD, List.getElem?_set_ne (by omega), ← List.getD_eq_getElem?_getD]; exact hge
        simp only [↓Z0g, ↓Z16, ↓Z04, ↓Z0p, ↓Z0f, ↓Z09, ↓Z1g, ↓Z0a, ↓Z0o, ↓Z1u, ↓Z14, ↓Z15, ↓Z0n, ↓Z3g, ↓Z30, ↓Z0b, Z2m, Z05, Z0q, Z17, Z1b, evN, Z19, Z0m, Z1a, Z24, Z0l, Z0e, Z0k, Z0w, evT, Opd.ev, Z03, Z00, Z18, Z2l, Z1k, Z0u, Z0x, Z0d, Z1t, LOp.isNew, State.prune, Z1j, Z1d, Heap.at, Z06, Z02, Z08, Z07, Z01, List.length_set, Int.toNat_natCast, Z3x, List.length_map, Z2p, Z3a, Z32, binT, binQ, chk, Z2h, List.contains_cons, List.contains_nil, Bool.or_false, Bool.and_self, Z13, Z1y, fnOf, Z1v, Z3u, Z1w, putRow, Z0t, Nat.le_refl, ↓reduceIte, Nat.reduceAdd, Nat.reduceBEq, List.length_cons, List.length_nil, List.replicate_succ, List.replicate_zero, List.nil_append, List.cons_append, List.append_nil, List.map_cons, List.map_nil, List.all_cons, List.all_nil, List.set_cons_zero, List.set_cons_succ, List.getD_cons_zero, List.getD_cons_succ, List.drop_zero, List.drop_succ_cons, List.take_zero, List.flatten_cons, List.flatten_nil, Bool.true_and, Bool.not_false, true_and, and_true, true_or, and_self, Nat.reduceLT, List.reverse_cons, List.reverse_nil, Nat.zero_add, Nat.add_zero, Bool.false_eq_true, F6, G6, at_clone, Z02, Z01, Z4j, List.length_set, hge2, li, List.getD_cons_zero]
        refine ⟨fun _ => ⟨⟨by omega, by omega⟩, hin, r3 i hin, ⟨by omega, by omega⟩, hin, ?_⟩, fun c => absurd c (by omega)⟩
        rw [Z2n hin (by unfold maxLen; omega)]
        have hcan : ∀ Y, Z0v [0, 1, 2, 3, 4, 5, 6, 7] ((Z46 StampG.row (cpL a3 Y)).set h.p [.ref 7 3 0 (a3.getD h.p default).1.length true]) = some ((Z46 StampG.row (cpL a3 Y)).set h.p [.ref 7 3 0 (a3.getD h.p default).1.length true]) := fun _ => canRows_set _ _ _ _ _ _ (Z3e _ _) rfl
        have hcm : ∀ x y, ((Z46 StampG.row (cpL a3 i)).set h.p x).set i y = ((Z46 StampG.row (cpL a3 i)).set i y).set h.p x := fun x y => List.set_comm _ _ (by omega)
        refine Z0r.ices [8] (Z0r.thaw 0 (Z0r.thaw 1 (Z0r.thaw 4 (Z0r.mk [0, 1, 2, 3, 4, 5, 6, 7] (i + 1) (by simp) (by simp [State.thaw, ices_len]) ?_ (by show i + 1 ≤ a3.length; omega) (by show a3.length - (i + 1) < a3.length - i; omega)))))
        rw [if_neg (show ¬ i + 1 ≤ h.p by omega)]
        simp only [State.can, AV.can, AV.canL, HO.can, Z0v, idx, Z03, Z00, Heap.at, Nat.reduceBEq, ↓reduceIte, Nat.reduceEqDiff, Option.getD_some, Option.map_some, List.map_cons, List.map_nil, List.getD_cons_zero, List.getD_cons_succ, State.ices, State.ice, HO.data, iceEnv, Z42, HO.ice, AV.ice, AV.iceL, State.thaw, thaw_mkVec, Z33, Z3h, iceRows_set, iceRows_rowsL, List.set_cons_zero, List.set_cons_succ, List.drop_zero, Z11, List.take_length, Bool.not_true, Nat.zero_add, Nat.le_refl, List.length_map, and_self, Option.map_some, hcm, rowsL_set (d := default) hin, hcan]
        try rfl
    · have e : i = a3.length := by omega
      subst e
      rw [if_neg (by omega)]
      simp only [↓Z0g, ↓Z16, ↓Z04, ↓Z0p, ↓Z0f, ↓Z09, ↓Z1g, ↓Z0a, ↓Z0o, ↓Z1u, ↓Z15, ↓Z0n, ↓Z30, ↓Z0b, Z2m, Z05, Z17, Z1b, evN, Z19, Z0m, Z1a, Z24, Z0l, Z0e, Z0k, Z0w, evT, Opd.ev, Z03, Z00, Z18, Z0u, Z0x, Z0d, Z1t, LOp.isNew, State.prune, Heap.at, Z06, Z02, Z08, List.length_set, Int.toNat_natCast, Z3x, Z2p, Z3a, Z32, binT, binQ, Z13, Z1y, fnOf, Z1v, Z0t, ↓reduceIte, Nat.reduceAdd, Nat.reduceBEq, List.length_cons, List.length_nil, List.replicate_succ, List.replicate_zero, List.nil_append, List.cons_append, List.append_nil, List.map_cons, List.map_nil, List.getD_cons_zero, List.getD_cons_succ, true_and, and_self, Nat.reduceLT, Nat.zero_add, Nat.add_zero, Bool.false_eq_true, F6, G6, Z02, Z4j, List.length_set, li, List.getD_cons_zero]
      refine ⟨fun c => absurd c (by omega), fun _ => ?_⟩
      refine Loop.thaw 5 (Nat.zero_le _) ?_
      have e7 : (a7.map rowRats).map (·.map AV.d) = Z46 RatG.row (cpL a7 0) := by unfold Z46 cpL rowRats; rw [List.map_map]; simp
      have r7 : ∀ i, i < a7.length → roomy (a7.getD i default).1.length 16 := fun i hi => c7 _ (by rw [Z3z hi]; exact List.getElem_mem hi)
      have hcp : Z0v [0, 1, 2, 3, 4, 5, 6, 7] ((Z46 StampG.row (cpL a3 a3.length)).set h.p [.ref 7 3 0 (a3.getD h.p default).1.length true]) = some ((Z46 StampG.row (cpL a3 a3.length)).set h.p [.ref 7 3 0 (a3.getD h.p default).1.length true]) := canRows_set _ _ _ _ _ _ (Z3e _ _) rfl
      clear hin li hi
      refine Loop.fam [1, 45, 46, 2] (fun i : Nat => ⟨[(1, .ptr 0 5 0 0), (45, .d (.int .i64 a7.length)), (46, .d (.int .i64 i)), (2, .ptr 1 5 0 0)], [.vec 5 [[.ref 2 2 0 a1.length true, .ref 4 1 0 a3.length true, .ref 3 1 0 a5.length true, .ref 5 1 0 a7.length true, .ref 6 1 0 a9.length true]], .vec 5 [[.d (.list [] true), .d (.list [] true), .d (.list [] true), .d (.list [] true), .d (.list [] true)]], .dvec 2 (a1.map LocG.row), .dvec 1 (a5.map rowI), .vec 1 ((Z46 StampG.row (cpL a3 a3.length)).set h.p [.ref 7 3 0 (a3.getD h.p default).1.length true]), .vec 1 (Z46 RatG.row (cpL a7 i)), .dvec 1 (a9.map rowRats), .dvec 3 ((a3.getD h.p default).1.map StampG.row)]⟩)
        (fun i => i ≤ a7.length) (fun i => a7.length - i) 0 [0, 1, 2, 3, 4, 5, 6, 7] (by simp) (by simp [State.thaw]) (by
          simp only [State.can, AV.can, AV.canL, HO.can, Z0v, idx, Z03, Z00, Heap.at, Nat.reduceBEq, ↓reduceIte, Nat.reduceEqDiff, Option.getD_some, Option.map_some, List.map_cons, List.map_nil, List.getD_cons_zero, List.getD_cons_succ, State.thaw, HO.thaw, e7, Z3e, hcp, List.set_cons_zero, List.set_cons_succ]; rfl) (by omega) ?_
      intro i hi
      have hi : i ≤ a7.length := hi
      have li : (cpL a7 i).length = a7.length := cpL_len a7 i
      by_cases hin : i < a7.length
      · have hge := rowsL_cp (f := RatG.row) (d := default) hin
        simp only [↓Z0g, ↓Z16, ↓Z04, ↓Z0p, ↓Z0f, ↓Z09, ↓Z1g, ↓Z0a, ↓Z0o, ↓Z1u, ↓Z14, ↓Z15, ↓Z0n, ↓Z3g, ↓Z30, ↓Z0b, Z2m, Z05, Z0q, Z17, Z1b, evN, Z19, Z0m, Z1a, Z24, Z0l, Z0e, Z0k, Z0w, evT, Opd.ev, Z03, Z00, Z18, Z2l, Z1k, Z0u, Z0x, Z0d, Z1t, LOp.isNew, State.prune, Z1j, Z1d, Heap.at, Z06, Z02, Z08, Z07, Z01, Int.toNat_natCast, Z3x, List.length_map, Z2p, Z3a, Z32, binT, binQ, chk, Z2h, List.contains_cons, List.contains_nil, Bool.or_false, Bool.and_self, Z13, Z1y, fnOf, Z1v, Z3u, Z2z, putRow, Z0t, Z1c, Nat.le_refl, ↓reduceIte, Nat.reduceAdd, Nat.reduceBEq, List.length_cons, List.length_nil, List.replicate_succ, List.replicate_zero, List.nil_append, List.cons_append, List.append_nil, List.map_cons, List.map_nil, List.all_cons, List.all_nil, List.set_cons_zero, List.set_cons_succ, List.getD_cons_zero, List.getD_cons_succ, List.drop_zero, List.drop_succ_cons, List.take_zero, List.flatten_cons, List.flatten_nil, Bool.true_and, Bool.not_false, true_and, and_true, or_true, and_self, Nat.reduceLT, List.reverse_cons, List.reverse_nil, Nat.zero_add, Nat.add_zero, Bool.false_eq_true, F3, G3, at_clone, Z02, Z01, Z4j, hge, li, List.getD_cons_zero]
        refine ⟨fun _ => ⟨⟨by omega, by omega⟩, hin, r7 i hin, ⟨by omega, by omega⟩, hin, ?_⟩, fun c => absurd c (by omega)⟩
        rw [Z2n hin (by unfold maxLen; omega)]
        refine Z0r.ices [8] (Z0r.thaw 0 (Z0r.thaw 1 (Z0r.thaw 4 (Z0r.thaw 5 (Z0r.mk [0, 1, 2, 3, 4, 5, 6, 7] (i + 1) (by simp) (by simp [State.thaw, ices_len]) ?_ (by show i + 1 ≤ a7.length; omega) (by show a7.length - (i + 1) < a7.length - i; omega))))))
        simp only [State.can, AV.can, AV.canL, HO.can, Z0v, idx, Z03, Z00, Heap.at, Nat.reduceBEq, ↓reduceIte, Nat.reduceEqDiff, Option.getD_some, Option.map_some, List.map_cons, List.map_nil, List.getD_cons_zero, List.getD_cons_succ, State.ices, State.ice, HO.data, iceEnv, Z42, HO.ice, AV.ice, AV.iceL, State.thaw, thaw_mkVec, Z33, Z3h, iceRows_set, iceRows_rowsL, Z3e, List.set_cons_zero, List.set_cons_succ, List.drop_zero, Z11, List.take_length, Bool.not_true, Nat.zero_add, Nat.le_refl, List.length_map, and_self, Option.map_some, rowsL_set (d := default) hin, hcp]
        try rfl
      · have e : i = a7.length := by omega
        subst e
        simp only [↓Z0g, ↓Z16, ↓Z04, ↓Z0p, ↓Z0f, ↓Z09, ↓Z1g, ↓Z0a, ↓Z0o, ↓Z1u, ↓Z15, ↓Z0n, ↓Z30, ↓Z0b, Z2m, Z05, Z17, Z1b, evN, Z19, Z0m, Z1a, Z24, Z0l, Z0e, Z0k, Z0w, evT, Opd.ev, Z03, Z00, Z18, Z0u, Z0x, Z0d, Z1t, LOp.isNew, State.prune, Heap.at, Z06, Z02, Z08, Int.toNat_natCast, Z3x, Z2p, Z3a, Z32, binT, binQ, Z13, Z1y, fnOf, Z1v, Z0t, ↓reduceIte, Nat.reduceAdd, Nat.reduceBEq, List.length_cons, List.length_nil, List.replicate_succ, List.replicate_zero, List.nil_append, List.cons_append, List.append_nil, List.map_cons, List.map_nil, List.getD_cons_zero, List.getD_cons_succ, true_and, and_self, Nat.reduceLT, Nat.zero_add, Nat.add_zero, Bool.false_eq_true, F3, G3, Z02, Z4j, li, List.getD_cons_zero]
        refine ⟨fun c => absurd c (by omega), fun _ => ?_⟩
        refine Loop.thaw 6 (Nat.zero_le _) ?_
        have e9 : (a9.map rowRats).map (·.map AV.d) = Z46 RatG.row (cpL a9 0) := by unfold Z46 cpL rowRats; rw [List.map_map]; simp
        have r9 : ∀ i, i < a9.length → roomy (a9.getD i default).1.length 16 := fun i hi => c8 _ (by rw [Z3z hi]; exact List.getElem_mem hi)
        have hcp9 : Z0v [0, 1, 2, 3, 4, 5, 6, 7, 8] ((Z46 StampG.row (cpL a3 a3.length)).set h.p [.ref 7 3 0 (a3.getD h.p default).1.length true]) = some ((Z46 StampG.row (cpL a3 a3.length)).set h.p [.ref 7 3 0 (a3.getD h.p default).1.length true]) := canRows_set _ _ _ _ _ _ (Z3e _ _) rfl
        have hcf9 : ∀ Y, Z0v [0, 1, 2, 3, 4, 5, 6, 7, 8] ((Z46 RatG.row (cpL a9 Y)).set h.f [.ref 8 2 0 (a9.getD h.f default).1.length true]) = some ((Z46 RatG.row (cpL a9 Y)).set h.f [.ref 8 2 0 (a9.getD h.f default).1.length true]) := fun _ => canRows_set _ _ _ _ _ _ (Z3e _ _) rfl
        clear hin li hi
        refine Loop.fam [1, 62, 63, 2] (fun i : Nat => if i ≤ h.f then ⟨[(1, .ptr 0 5 0 0), (62, .d (.int .i64 a9.length)), (63, .d (.int .i64 i)), (2, .ptr 1 5 0 0)], [.vec 5 [[.ref 2 2 0 a1.length true, .ref 4 1 0 a3.length true, .ref 3 1 0 a5.length true, .ref 5 1 0 a7.length true, .ref 6 1 0 a9.length true]], .vec 5 [[.d (.list [] true), .d (.list [] true), .d (.list [] true), .d (.list [] true), .d (.list [] true)]], .dvec 2 (a1.map LocG.row), .dvec 1 (a5.map rowI), .vec 1 ((Z46 StampG.row (cpL a3 a3.length)).set h.p [.ref 7 3 0 (a3.getD h.p default).1.length true]), .vec 1 (Z46 RatG.row (cpL a7 a7.length)), .vec 1 (Z46 RatG.row (cpL a9 i)), .dvec 3 ((a3.getD h.p default).1.map StampG.row)]⟩ else ⟨[(1, .ptr 0 5 0 0), (62, .d (.int .i64 a9.length)), (63, .d (.int .i64 i)), (2, .ptr 1 5 0 0)], [.vec 5 [[.ref 2 2 0 a1.length true, .ref 4 1 0 a3.length true, .ref 3 1 0 a5.length true, .ref 5 1 0 a7.length true, .ref 6 1 0 a9.length true]], .vec 5 [[.d (.list [] true), .d (.list [] true), .d (.list [] true), .d (.list [] true), .d (.list [] true)]], .dvec 2 (a1.map LocG.row), .dvec 1 (a5.map rowI), .vec 1 ((Z46 StampG.row (cpL a3 a3.length)).set h.p [.ref 7 3 0 (a3.getD h.p default).1.length true]), .vec 1 (Z46 RatG.row (cpL a7 a7.length)), .vec 1 ((Z46 RatG.row (cpL a9 i)).set h.f [.ref 8 2 0 (a9.getD h.f default).1.length true]), .dvec 3 ((a3.getD h.p default).1.map StampG.row), .dvec 2 ((a9.getD h.f default).1.map RatG.row)]⟩)
          (fun i => i ≤ a9.length) (fun i => a9.length - i) 0 [0, 1, 2, 3, 4, 5, 6, 7] (by simp) (by simp [State.thaw]) (by
            rw [if_pos (Nat.zero_le _)]
            simp only [State.can, AV.can, AV.canL, HO.can, Z0v, idx, Z03, Z00, Heap.at, Nat.reduceBEq, ↓reduceIte, Nat.reduceEqDiff, Option.getD_some, Option.map_some, List.map_cons, List.map_nil, List.getD_cons_zero, List.getD_cons_succ, State.thaw, HO.thaw, e9, Z3e, hcp, List.set_cons_zero, List.set_cons_succ]; rfl) (by omega) ?_
        intro i hi
        have hi : i ≤ a9.length := hi
        have li : (cpL a9 i).length = a9.length := cpL_len a9 i
        by_cases hin : i < a9.length
        · have hge := rowsL_cp (f := RatG.row) (d := default) hin
          by_cases hip : i ≤ h.f
          · rw [if_pos hip]
            simp only [↓Z0g, ↓Z10, ↓Z16, ↓Z04, ↓Z0p, ↓Z0f, ↓Z09, ↓Z0a, ↓Z0o, ↓Z1u, ↓Z14, ↓Z15, ↓Z0n, ↓Z1p, ↓Z3g, ↓Z30, ↓Z0b, Z2m, Z05, Z0q, Z17, Z1b, evN, Z19, Z0m, Z1a, Z24, Z0l, Z0e, Z0k, Z0w, evT, Opd.ev, Z03, Z00, Z18, Z2l, Z1k, Z0u, Z0x, Z0d, Z1t, LOp.isNew, State.prune, Z1j, Z1d, AV.leaf, Heap.at, Z06, Z02, Z08, Z07, Z01, Int.toNat_natCast, List.length_map, List.take_of_length_le, Z2p, Z3a, Z32, binT, binQ, chk, Z2h, List.contains_cons, List.contains_nil, Bool.or_false, Bool.and_self, resQ, resV, resT, Z13, Z1y, fnOf, Z1v, Z3u, Z2z, putRow, Z0t, Z1c, Nat.le_refl, ↓reduceIte, Nat.reduceAdd, Nat.reduceBEq, List.length_cons, List.length_nil, List.replicate_succ, List.replicate_zero, List.nil_append, List.cons_append, List.append_nil, List.map_cons, List.map_nil, List.all_cons, List.all_nil, List.set_cons_zero, List.set_cons_succ, List.getD_cons_zero, List.getD_cons_succ, List.drop_zero, List.drop_succ_cons, List.take_zero, List.flatten_cons, List.flatten_nil, Bool.true_and, Bool.not_false, true_and, and_true, or_true, and_self, Nat.reduceLT, List.reverse_cons, List.reverse_nil, Nat.zero_add, Nat.add_zero, Bool.false_eq_true, F3, G3, at_clone, Z02, Z01, Z4j, hge, li, List.getD_cons_zero]
            refine ⟨fun _ => ⟨⟨by omega, by omega⟩, hin, r9 i hin, ⟨by omega, by omega⟩, hin, ?_⟩, fun c => absurd c (by omega)⟩
            rw [Z2n hin (by unfold maxLen; omega)]
            by_cases hlt : i < h.f
            · refine Z0r.ices [8] (Z0r.thaw 0 (Z0r.thaw 1 (Z0r.thaw 4 (Z0r.thaw 5 (Z0r.thaw 6 (Z0r.mk [0, 1, 2, 3, 4, 5, 6, 7] (i + 1) (by simp) (by simp [State.thaw, ices_len]) ?_ (by show i + 1 ≤ a9.length; omega) (by show a9.length - (i + 1) < a9.length - i; omega)))))))
              rw [if_pos (show i + 1 ≤ h.f by omega)]
              simp only [State.can, AV.can, AV.canL, HO.can, Z0v, idx, Z03, Z00, Heap.at, Nat.reduceBEq, ↓reduceIte, Nat.reduceEqDiff, Option.getD_some, Option.map_some, List.map_cons, List.map_nil, List.getD_cons_zero, List.getD_cons_succ, State.ices, State.ice, HO.data, iceEnv, Z42, HO.ice, AV.ice, AV.iceL, State.thaw, thaw_mkVec, Z33, Z3h, iceRows_set, iceRows_rowsL, Z3e, List.set_cons_zero, List.set_cons_succ, List.drop_zero, Z11, List.take_length, Bool.not_true, Nat.zero_add, Nat.le_refl, List.length_map, and_self, Option.map_some, rowsL_set (d := default) hin, hcp]
              try rfl
            · have e : i = h.f := by omega
              refine Z0r.mk [0, 1, 2, 3, 4, 5, 6, 7, 8] (i + 1) (by simp) (by simp) ?_ (by show i + 1 ≤ a9.length; omega) (by show a9.length - (i + 1) < a9.length - i; omega)
              rw [if_neg (show ¬ i + 1 ≤ h.f by omega), rowsL_over hin, e]
              simp only [State.can, AV.can, AV.canL, HO.can, Z0v, idx, Z03, Z00, Heap.at, Nat.reduceBEq, ↓reduceIte, Nat.reduceEqDiff, Option.getD_some, Option.map_some, List.map_cons, List.map_nil, List.getD_cons_zero, List.getD_cons_succ, hcf9, hcp9, Z3e]
          · rw [if_neg hip]
            have hge2 : ∀ x, ((Z46 RatG.row (cpL a9 i)).set h.f x).getD i [] = [.d (.list ((a9.getD i default).1.map RatG.row) (a9.getD i default).2)] := fun x => by
              rw [List.getD_eq_getElem?_getD, List.getElem?_set_ne (by omega), ← List.getD_eq_getElem?_getD]; exact hge
            simp only [↓Z0g, ↓Z10, ↓Z16, ↓Z04, ↓Z0p, ↓Z0f, ↓Z09, ↓Z0a, ↓Z0o, ↓Z1u, ↓Z14, ↓Z15, ↓Z0n, ↓Z1p, ↓Z3g, ↓Z30, ↓Z0b, Z2m, Z05, Z0q, Z17, Z1b, evN, Z19, Z0m, Z1a, Z24, Z0l, Z0e, Z0k, Z0w, evT, Opd.ev, Z03, Z00, Z18, Z2l, Z1k, Z0u, Z0x, Z0d, Z1t, LOp.isNew, State.prune, Z1j, Z1d, AV.leaf, Heap.at, Z06, Z02, Z08, Z07, Z01, List.length_set, Int.toNat_natCast, List.length_map, List.take_of_length_le, Z2p, Z3a, Z32, binT, binQ, chk, Z2h, List.contains_cons, List.contains_nil, Bool.or_false, Bool.and_self, resQ, resV, resT, Z13, Z1y, fnOf, Z1v, Z3u, Z2z, putRow, Z0t, Z1c, Nat.le_refl, ↓reduceIte, Nat.reduceAdd, Nat.reduceBEq, List.length_cons, List.length_nil, List.replicate_succ, List.replicate_zero, List.nil_append, List.cons_append, List.append_nil, List.map_cons, List.map_nil, List.all_cons, List.all_nil, List.set_cons_zero, List.set_cons_succ, List.getD_cons_zero, List.getD_cons_succ, List.drop_zero, List.drop_succ_cons, List.take_zero, List.flatten_cons, List.flatten_nil, Bool.true_and, Bool.not_false, true_and, and_true, or_true, and_self, Nat.reduceLT, List.reverse_cons, List.reverse_nil, Nat.zero_add, Nat.add_zero, Bool.false_eq_true, F3, G3, at_clone, Z02, Z01, Z4j, List.length_set, hge2, li, List.getD_cons_zero]
            refine ⟨fun _ => ⟨⟨by omega, by omega⟩, hin, r9 i hin, ⟨by omega, by omega⟩, hin, ?_⟩, fun c => absurd c (by omega)⟩
            rw [Z2n hin (by unfold maxLen; omega)]
            have hcm : ∀ x y, ((Z46 RatG.row (cpL a9 i)).set h.f x).set i y = ((Z46 RatG.row (cpL a9 i)).set i y).set h.f x := fun x y => List.set_comm _ _ (by omega)
            refine Z0r.ices [9] (Z0r.thaw 0 (Z0r.thaw 1 (Z0r.thaw 4 (Z0r.thaw 5 (Z0r.thaw 6 (Z0r.mk [0, 1, 2, 3, 4, 5, 6, 7, 8] (i + 1) (by simp) (by simp [State.thaw, ices_len]) ?_ (by show i + 1 ≤ a9.length; omega) (by show a9.length - (i + 1) < a9.length - i; omega)))))))
            rw [if_neg (show ¬ i + 1 ≤ h.f by omega)]
            simp only [State.can, AV.can, AV.canL, HO.can, Z0v, idx, Z03, Z00, Heap.at, Nat.reduceBEq, ↓reduceIte, Nat.reduceEqDiff, Option.getD_some, Option.map_some, List.map_cons, List.map_nil, List.getD_cons_zero, List.getD_cons_succ, State.ices, State.ice, HO.data, iceEnv, Z42, HO.ice, AV.ice, AV.iceL, State.thaw, thaw_mkVec, Z33, Z3h, iceRows_set, iceRows_rowsL, Z3e, List.set_cons_zero, List.set_cons_succ, List.drop_zero, Z11, List.take_length, Bool.not_true, Nat.zero_add, Nat.le_refl, List.length_map, and_self, Option.map_some, hcm, rowsL_set (d := default) hin, hcp9, hcf9]
            try rfl
        · have e : i = a9.length := by omega
          subst e
          rw [if_neg (by omega)]
          simp only [↓Z0g, ↓Z10, ↓Z16, ↓Z04, ↓Z0p, ↓Z0f, ↓Z09, ↓Z0a, ↓Z0o, ↓Z1u, ↓Z15, ↓Z0n, ↓Z1p, ↓Z30, ↓Z0b, Z2m, Z05, Z17, Z1b, evN, Z19, Z0m, Z1a, Z24, Z0l, Z0e, Z0k, Z0w, evT, Opd.ev, Z03, Z00, Z18, Z2l, Z1k, Z0u, Z0x, Z0d, Z1t, LOp.isNew, State.prune, Z1j, Z1d, AV.leaf, Heap.at, Z06, Z02, Z08, Z07, Z01, List.length_set, Int.toNat_natCast, List.take_of_length_le, Z2p, Z3a, Z32, binT, binQ, Bool.and_self, resQ, resV, resT, Z13, Z1y, fnOf, Z1v, putRow, Z0t, Nat.le_refl, ↓reduceIte, Nat.reduceAdd, Nat.reduceBEq, List.length_cons, List.length_nil, List.replicate_succ, List.replicate_zero, List.nil_append, List.cons_append, List.append_nil, List.map_cons, List.map_nil, List.all_cons, List.all_nil, List.set_cons_zero, List.set_cons_succ, List.getD_cons_zero, List.getD_cons_succ, List.drop_zero, List.drop_succ_cons, List.take_zero, true_and, and_self, Nat.reduceLT, Nat.zero_add, Nat.add_zero, Bool.false_eq_true, F3, G3, Z02, Z01, Z4j, List.length_set, li, List.getD_cons_zero]
          refine ⟨fun c => absurd c (by omega), fun _ => ?_⟩
          have x1 : Z0v [2, 3, 4, 5, 6, 7, 8] ((Z46 StampG.row (cpL a3 a3.length)).set h.p [.ref 7 3 0 (a3.getD h.p default).1.length true]) = some ((Z46 StampG.row (cpL a3 a3.length)).set h.p [.ref 5 3 0 (a3.getD h.p default).1.length true]) := canRows_set _ _ _ _ _ _ (Z3e _ _) rfl
          have x2 : Z0v [2, 3, 4, 5, 6, 7, 8] ((Z46 RatG.row (cpL a9 a9.length)).set h.f [.ref 8 2 0 (a9.getD h.f default).1.length true]) = some ((Z46 RatG.row (cpL a9 a9.length)).set h.f [.ref 6 2 0 (a9.getD h.f default).1.length true]) := canRows_set _ _ _ _ _ _ (Z3e _ _) rfl
          refine RetG.mk [2, 3, 4, 5, 6, 7, 8] (by simp) (by simp) (fun i h => absurd h (by omega)) ?_ ?_
          · simp only [AV.can, AV.canL, idx, ↓reduceIte, Nat.reduceEqDiff, Option.map_some]
          · simp only [HO.can, Heap.at, List.map_cons, List.map_nil, List.getD_cons_zero, List.getD_cons_succ, x1, x2, Z3e]
theorem at_copied (h : Hole) (a1 : List LocG) (a2 : Bool) (a3 : List StampsF) (a4 : Bool) (a5 : List Int) (a6 : Bool) (a7 : List RatsF) (a8 : Bool) (a9 : List RatsF) (a10 : Bool) (H : Heap) :
    (ef_copied h).at [.agg [.d (.list (a1.map LocG.row) a2), .d (.list (a3.map rowStamps) a4), .d (.list (a5.map rowI) a6), .d (.list (a7.map rowRats) a8), .d (.list (a9.map rowRats) a10)]] H = some ((ef_copied h).eff ⟨a1, a2, a3, a4, a5, a6, a7, a8, a9, a10⟩ H) :=
  EfN.at_enc (e := ef_copied h) (fun (x y : MemG) e => by
    simp only [ef_copied, List.cons.injEq, and_true] at e
    exact MemG.av_inj _ _ e) ⟨a1, a2, a3, a4, a5, a6, a7, a8, a9, a10⟩ H
end Go.Ago

/- hist.copied, where nothing of it is changed afterwards. Conditions: none. -/
set_option maxRecDepth 100000
set_option linter.unusedSimpArgs false
set_option linter.unusedVariables false
namespace Go.Ago
structure CpOk0 (m : MemG) : Prop where
  locs : roomy m.locs.length 16
  vals : roomy m.vals.length 8
  past : roomy m.past.length 24
  marks : roomy m.marks.length 24
  fronts : roomy m.fronts.length 24
  pasts : ∀ r ∈ m.past, roomy r.1.length 24
  markss : ∀ r ∈ m.marks, roomy r.1.length 16
  frontss : ∀ r ∈ m.fronts, roomy r.1.length 16
def ef_copied0 : EfN where
  A := MemG
  args m := [m.av]
  ok m := CpOk0 m
  val m := .agg [.ref 0 2 0 m.locs.length true, .ref 2 1 0 m.past.length true, .ref 1 1 0 m.vals.length true, .ref 3 1 0 m.marks.length true, .ref 4 1 0 m.fronts.length true]
  news m := [.dvec 2 (m.locs.map LocG.row), .dvec 1 (m.vals.map rowI), .vec 1 (Z46 StampG.row (cpL m.past m.past.length)), .vec 1 (Z46 RatG.row (cpL m.marks m.marks.length)), .vec 1 (Z46 RatG.row (cpL m.fronts m.fronts.length))]
set_option maxHeartbeats 4000000 in
theorem eff0_hist_copied {T : Tab} {n1 n2 n3 n4 n5 n6 : Nat} (k1 : Knows T n1 (cloneS 1 8)) (k2 : Knows T n2 (cloneS 2 16)) (k3 : Knows T n3 (cloneS 2 16)) (k4 : Knows T n4 (cloneS 1 24)) (k5 : Knows T n5 (cloneS 1 24)) (k6 : Knows T n6 (cloneS 3 24)) :
    ef_copied0.Body T V_hist_copied (L_hist_copied n1 n2 n3 n4 n5 n6) R_hist_copied where
  ren m ρ := by simp [ef_copied0, MemG.av, AV.ren, AV.renL]
  body := by
    have F1 := k1.F; have G1 := k1.G; have F2 := k2.F; have G2 := k2.G; have F3 := k3.F; have G3 := k3.G; have F4 := k4.F; have G4 := k4.G; have F5 := k5.F; have G5 := k5.G; have F6 := k6.F; have G6 := k6.G
    rintro ⟨a1, a2, a3, a4, a5, a6, a7, a8, a9, a10⟩ ⟨c1, c2, c3, c4, c5, c6, c7, c8⟩
    simp only at c1 c2 c3 c4 c5 c6 c7 c8
    have m1 : a3.length ≤ 2 ^ 40 := c3.1
    have m2 : a7.length ≤ 2 ^ 40 := c4.1
    have m3 : a9.length ≤ 2 ^ 40 := c5.1
    have e_a3 : (a3.map rowStamps).map (·.map AV.d) = Z46 StampG.row (cpL a3 0) := by unfold Z46 cpL rowStamps; rw [List.map_map]; simp
    have r_a3 : ∀ i, i < a3.length → roomy (a3.getD i default).1.length 24 := fun i hi => c6 _ (by rw [Z3z hi]; exact List.getElem_mem hi)
    have e_a7 : (a7.map rowRats).map (·.map AV.d) = Z46 RatG.row (cpL a7 0) := by unfold Z46 cpL rowRats; rw [List.map_map]; simp
    have r_a7 : ∀ i, i < a7.length → roomy (a7.getD i default).1.length 16 := fun i hi => c7 _ (by rw [Z3z hi]; exact List.getElem_mem hi)
    have e_a9 : (a9.map rowRats).map (·.map AV.d) = Z46 RatG.row (cpL a9 0) := by unfold Z46 cpL rowRats; rw [List.map_map]; simp
    have r_a9 : ∀ i, i < a9.length → roomy (a9.getD i default).1.length 16 := fun i hi => c8 _ (by rw [Z3z hi]; exact List.getElem_mem hi)
    unfold V_hist_copied L_hist_copied R_hist_copied
    simp only [↓Z04, ↓Z0p, ↓Z09, ↓Z1g, ↓Z0a, ↓Z0o, ↓Z0n, Z2m, Z05, Z0q, Z17, Z1b, evN, Z19, Z0m, Z1a, Z24, Z0l, Z0e, Z0k, evT, Opd.ev, Z03, Z00, Z18, Z2l, Z1k, Z0y, Z0d, Z1t, LOp.isNew, State.prune, Z1j, Z1d, AV.leaf, Heap.at, Z06, Z02, Z07, Z01, Z3x, List.length_map, Z2p, Z3a, chk, Z2h, List.contains_cons, List.contains_nil, Bool.or_false, Bool.and_self, Z13, Z1y, fnOf, Z1v, Z3u, lens_I, Z3c, putRow, Z0t, Z2o, Nat.le_refl, ↓reduceIte, Nat.reduceAdd, Nat.reduceBEq, List.length_cons, List.length_nil, List.replicate_succ, List.replicate_zero, List.nil_append, List.cons_append, List.append_nil, List.map_cons, List.map_nil, List.all_cons, List.all_nil, List.set_cons_zero, List.set_cons_succ, List.getD_cons_zero, List.getD_cons_succ, List.drop_zero, List.drop_succ_cons, List.take_succ_cons, List.take_zero, List.flatten_cons, List.flatten_nil, Bool.and_true, Bool.not_false, true_and, and_true, true_or, or_true, and_self, Nat.reduceLT, Nat.reduceLeDiff, List.reverse_cons, List.reverse_nil, Nat.zero_add, Nat.add_zero, Bool.false_eq_true, ef_copied0, MemG.av, F1, G1, F2, G2, F4, G4, F5, G5, at_clone]
    refine ⟨c1, c2, ⟨rows_len (f := rowStamps) (fun _ => rfl) _, c3⟩, ⟨rows_len (f := rowRats) (fun _ => rfl) _, c4⟩, ⟨rows_len (f := rowRats) (fun _ => rfl) _, c5⟩, ?_⟩
    refine Loop.thaw 4 (Nat.zero_le _) ?_
    refine Loop.fam [1, 28, 29, 2] (fun i : Nat => ⟨[(1, .ptr 0 5 0 0), (28, .d (.int .i64 a3.length)), (29, .d (.int .i64 i)), (2, .ptr 1 5 0 0)], [.vec 5 [[.ref 2 2 0 a1.length true, .ref 4 1 0 a3.length true, .ref 3 1 0 a5.length true, .ref 5 1 0 a7.length true, .ref 6 1 0 a9.length true]], .vec 5 [[.d (.list [] true), .d (.list [] true), .d (.list [] true), .d (.list [] true), .d (.list [] true)]], .dvec 2 (a1.map LocG.row), .dvec 1 (a5.map rowI), .vec 1 (Z46 StampG.row (cpL a3 i)), .dvec 1 (a7.map rowRats), .dvec 1 (a9.map rowRats)]⟩)
      (fun i => i ≤ a3.length) (fun i => a3.length - i) 0 [0, 1, 2, 3, 4, 5, 6] (by simp) (by simp [State.thaw]) (by
        simp only [State.can, AV.can, AV.canL, HO.can, Z0v, idx, Z03, Z00, Heap.at, Nat.reduceBEq, ↓reduceIte, Nat.reduceEqDiff, Option.getD_some, Option.map_some, List.map_cons, List.map_nil, List.getD_cons_zero, List.getD_cons_succ, State.thaw, HO.thaw, e_a3, Z3e, List.set_cons_zero, List.set_cons_succ]; rfl) (by omega) ?_
    intro i hi
    have hi : i ≤ a3.length := hi
    have li : (cpL a3 i).length = a3.length := cpL_len a3 i
    by_cases hin : i < a3.length
    · have hge := rowsL_cp (f := StampG.row) (d := default) hin
      simp only [↓Z0g, ↓Z16, ↓Z04, ↓Z0p, ↓Z0f, ↓Z09, ↓Z1g, ↓Z0a, ↓Z0o, ↓Z1u, ↓Z14, ↓Z15, ↓Z0n, ↓Z3g, ↓Z30, ↓Z0b, Z2m, Z05, Z0q, Z17, Z1b, evN, Z19, Z0m, Z1a, Z24, Z0l, Z0e, Z0k, Z0w, evT, Opd.ev, Z03, Z00, Z18, Z2l, Z1k, Z0u, Z0x, Z0d, Z1t, LOp.isNew, State.prune, Z1j, Z1d, Heap.at, Z06, Z02, Z08, Z07, Z01, Int.toNat_natCast, Z3x, List.length_map, Z2p, Z3a, Z32, binT, binQ, chk, Z2h, List.contains_cons, List.contains_nil, Bool.or_false, Bool.and_self, Z13, Z1y, fnOf, Z1v, Z3u, Z1w, putRow, Z0t, Nat.le_refl, ↓reduceIte, Nat.reduceAdd, Nat.reduceBEq, List.length_cons, List.length_nil, List.replicate_succ, List.replicate_zero, List.nil_append, List.cons_append, List.append_nil, List.map_cons, List.map_nil, List.all_cons, List.all_nil, List.set_cons_zero, List.set_cons_succ, List.getD_cons_zero, List.getD_cons_succ, List.drop_zero, List.drop_succ_cons, List.take_zero, List.flatten_cons, List.flatten_nil, Bool.true_and, Bool.not_false, true_and, and_true, true_or, and_self, Nat.reduceLT, List.reverse_cons, List.reverse_nil, Nat.zero_add, Nat.add_zero, Bool.false_eq_true, F6, G6, at_clone, Z02, Z01, Z4j, hge, li, List.getD_cons_zero]
      refine ⟨fun _ => ⟨⟨by omega, by omega⟩, hin, r_a3 i hin, ⟨by omega, by omega⟩, hin, ?_⟩, fun c => absurd c (by omega)⟩
      rw [Z2n hin (by unfold maxLen; omega)]
      refine Z0r.ices [7] (Z0r.thaw 0 (Z0r.thaw 1 (Z0r.thaw 4 (Z0r.mk [0, 1, 2, 3, 4, 5, 6] (i + 1) (by simp) (by simp [State.thaw, ices_len]) ?_ (by show i + 1 ≤ a3.length; omega) (by show a3.length - (i + 1) < a3.length - i; omega)))))
      simp only [State.can, AV.can, AV.canL, HO.can, Z0v, idx, Z03, Z00, Heap.at, Nat.reduceBEq, ↓reduceIte, Nat.reduceEqDiff, Option.getD_some, Option.map_some, List.map_cons, List.map_nil, List.getD_cons_zero, List.getD_cons_succ, State.ices, State.ice, HO.data, iceEnv, Z42, HO.ice, AV.ice, AV.iceL, State.thaw, thaw_mkVec, Z33, Z3h, iceRows_set, iceRows_rowsL, Z3e, List.set_cons_zero, List.set_cons_succ, List.drop_zero, Z11, List.take_length, Bool.not_true, Nat.zero_add, Nat.le_refl, List.length_map, and_self, Option.map_some, rowsL_set (d := default) hin]
      try rfl
    · have e : i = a3.length := by omega
      subst e
      simp only [↓Z0g, ↓Z16, ↓Z04, ↓Z0p, ↓Z0f, ↓Z09, ↓Z1g, ↓Z0a, ↓Z0o, ↓Z1u, ↓Z15, ↓Z0n, ↓Z30, ↓Z0b, Z2m, Z05, Z17, Z1b, evN, Z19, Z0m, Z1a, Z24, Z0l, Z0e, Z0k, Z0w, evT, Opd.ev, Z03, Z00, Z18, Z0u, Z0x, Z0d, Z1t, LOp.isNew, State.prune, Heap.at, Z06, Z02, Z08, Int.toNat_natCast, Z3x, Z2p, Z3a, Z32, binT, binQ, Z13, Z1y, fnOf, Z1v, Z0t, ↓reduceIte, Nat.reduceAdd, Nat.reduceBEq, List.length_cons, List.length_nil, List.replicate_succ, List.replicate_zero, List.nil_append, List.cons_append, List.append_nil, List.map_cons, List.map_nil, List.getD_cons_zero, List.getD_cons_succ, true_and, and_self, Nat.reduceLT, Nat.zero_add, Nat.add_zero, Bool.false_eq_true, F6, G6, Z02, Z4j, li, List.getD_cons_zero]
      refine ⟨fun c => absurd c (by omega), fun _ => ?_⟩
      clear hin li hi
      refine Loop.thaw 5 (Nat.zero_le _) ?_
      refine Loop.fam [1, 45, 46, 2] (fun i : Nat => ⟨[(1, .ptr 0 5 0 0), (45, .d (.int .i64 a7.length)), (46, .d (.int .i64 i)), (2, .ptr 1 5 0 0)], [.vec 5 [[.ref 2 2 0 a1.length true, .ref 4 1 0 a3.length true, .ref 3 1 0 a5.length true, .ref 5 1 0 a7.length true, .ref 6 1 0 a9.length true]], .vec 5 [[.d (.list [] true), .d (.list [] true), .d (.list [] true), .d (.list [] true), .d (.list [] true)]], .dvec 2 (a1.map LocG.row), .dvec 1 (a5.map rowI), .vec 1 (Z46 StampG.row (cpL a3 a3.length)), .vec 1 (Z46 RatG.row (cpL a7 i)), .dvec 1 (a9.map rowRats)]⟩)
        (fun i => i ≤ a7.length) (fun i => a7.length - i) 0 [0, 1, 2, 3, 4, 5, 6] (by simp) (by simp [State.thaw]) (by
          simp only [State.can, AV.can, AV.canL, HO.can, Z0v, idx, Z03, Z00, Heap.at, Nat.reduceBEq, ↓reduceIte, Nat.reduceEqDiff, Option.getD_some, Option.map_some, List.map_cons, List.map_nil, List.getD_cons_zero, List.getD_cons_succ, State.thaw, HO.thaw, e_a7, Z3e, List.set_cons_zero, List.set_cons_succ]; rfl) (by omega) ?_
      intro i hi
      have hi : i ≤ a7.length := hi
      have li : (cpL a7 i).length = a7.length := cpL_len a7 i
      by_cases hin : i < a7.length
      · have hge := rowsL_cp (f := RatG.row) (d := default) hin
        simp only [↓Z0g, ↓Z16, ↓Z04, ↓Z0p, ↓Z0f, ↓Z09, ↓Z1g, ↓Z0a, ↓Z0o, ↓Z1u, ↓Z14, ↓Z15, ↓Z0n, ↓Z3g, ↓Z30, ↓Z0b, Z2m, Z05, Z0q, Z17, Z1b, evN, Z19, Z0m, Z1a, Z24, Z0l, Z0e, Z0k, Z0w, evT, Opd.ev, Z03, Z00, Z18, Z2l, Z1k, Z0u, Z0x, Z0d, Z1t, LOp.isNew, State.prune, Z1j, Z1d, Heap.at, Z06, Z02, Z08, Z07, Z01, Int.toNat_natCast, Z3x, List.length_map, Z2p, Z3a, Z32, binT, binQ, chk, Z2h, List.contains_cons, List.contains_nil, Bool.or_false, Bool.and_self, Z13, Z1y, fnOf, Z1v, Z3u, Z2z, putRow, Z0t, Z1c, Nat.le_refl, ↓reduceIte, Nat.reduceAdd, Nat.reduceBEq, List.length_cons, List.length_nil, List.replicate_succ, List.replicate_zero, List.nil_append, List.cons_append, List.append_nil, List.map_cons, List.map_nil, List.all_cons, List.all_nil, List.set_cons_zero, List.set_cons_succ, List.getD_cons_zero, List.getD_cons_succ, List.drop_zero, List.drop_succ_cons, List.take_zero, List.flatten_cons, List.flatten_nil, Bool.true_and, Bool.not_false, true_and, and_true, or_true, and_self, Nat.reduceLT, List.reverse_cons, List.reverse_nil, Nat.zero_add, Nat.add_zero, Bool.false_eq_true, F3, G3, at_clone, Z02, Z01, Z4j, hge, li, List.getD_cons_zero]
        refine ⟨fun _ => ⟨⟨by omega, by omega⟩, hin, r_a7 i hin, ⟨by omega, by omega⟩, hin, ?_⟩, fun c => absurd c (by omega)⟩
        rw [Z2n hin (by unfold maxLen; omega)]
        refine Z0r.ices [7] (Z0r.thaw 0 (Z0r.thaw 1 (Z0r.thaw 4 (Z0r.thaw 5 (Z0r.mk [0, 1, 2, 3, 4, 5, 6] (i + 1) (by simp) (by simp [State.thaw, ices_len]) ?_ (by show i + 1 ≤ a7.length; omega) (by show a7.length - (i + 1) < a7.length - i; omega))))))
        simp only [State.can, AV.can, AV.canL, HO.can, Z0v, idx, Z03, Z00, Heap.at, Nat.reduceBEq, ↓reduceIte, Nat.reduceEqDiff, Option.getD_some, Option.map_some, List.map_cons, List.map_nil, List.getD_cons_zero, List.getD_cons_succ, State.ices, State.ice, HO.data, iceEnv, Z42, HO.ice, AV.ice, AV.iceL, State.thaw, thaw_mkVec, Z33, Z3h, iceRows_set, iceRows_rowsL, Z3e, List.set_cons_zero, List.set_cons_succ, List.drop_zero, Z11, List.take_length, Bool.not_true, Nat.zero_add, Nat.le_refl, List.length_map, and_self, Option.map_some, rowsL_set (d := default) hin]
        try rfl
      · have e : i = a7.length := by omega
        subst e
        simp only [↓Z0g, ↓Z16, ↓Z04, ↓Z0p, ↓Z0f, ↓Z09, ↓Z1g, ↓Z0a, ↓Z0o, ↓Z1u, ↓Z15, ↓Z0n, ↓Z30, ↓Z0b, Z2m, Z05, Z17, Z1b, evN, Z19, Z0m, Z1a, Z24, Z0l, Z0e, Z0k, Z0w, evT, Opd.ev, Z03, Z00, Z18, Z0u, Z0x, Z0d, Z1t, LOp.isNew, State.prune, Heap.at, Z06, Z02, Z08, Int.toNat_natCast, Z3x, Z2p, Z3a, Z32, binT, binQ, Z13, Z1y, fnOf, Z1v, Z0t, ↓reduceIte, Nat.reduceAdd, Nat.reduceBEq, List.length_cons, List.length_nil, List.replicate_succ, List.replicate_zero, List.nil_append, List.cons_append, List.append_nil, List.map_cons, List.map_nil, List.getD_cons_zero, List.getD_cons_succ, true_and, and_self, Nat.reduceLT, Nat.zero_add, Nat.add_zero, Bool.false_eq_true, F3, G3, Z02, Z4j, li, List.getD_cons_zero]
        refine ⟨fun c => absurd c (by omega), fun _ => ?_⟩
        clear hin li hi
        refine Loop.thaw 6 (Nat.zero_le _) ?_
        refine Loop.fam [1, 62, 63, 2] (fun i : Nat => ⟨[(1, .ptr 0 5 0 0), (62, .d (.int .i64 a9.length)), (63, .d (.int .i64 i)), (2, .ptr 1 5 0 0)], [.vec 5 [[.ref 2 2 0 a1.length true, .ref 4 1 0 a3.length true, .ref 3 1 0 a5.length true, .ref 5 1 0 a7.length true, .ref 6 1 0 a9.length true]], .vec 5 [[.d (.list [] true), .d (.list [] true), .d (.list [] true), .d (.list [] true), .d (.list [] true)]], .dvec 2 (a1.map LocG.row), .dvec 1 (a5.map rowI), .vec 1 (Z46 StampG.row (cpL a3 a3.length)), .vec 1 (Z46 RatG.row (cpL a7 a7.length)), .vec 1 (Z46 RatG.row (cpL a9 i))]⟩)
          (fun i => i ≤ a9.length) (fun i => a9.length - i) 0 [0, 1, 2, 3, 4, 5, 6] (by simp) (by simp [State.thaw]) (by
            simp only [State.can, AV.can, AV.canL, HO.can, Z0v, idx, Z03, Z00, Heap.at, Nat.reduceBEq, ↓reduceIte, Nat.reduceEqDiff, Option.getD_some, Option.map_some, List.map_cons, List.map_nil, List.getD_cons_zero, List.getD_cons_succ, State.thaw, HO.thaw, e_a9, Z3e, List.set_cons_zero, List.set_cons_succ]; rfl) (by omega) ?_
        intro i hi
        have hi : i ≤ a9.length := hi
        have li : (cpL a9 i).length = a9.length := cpL_len a9 i
        by_cases hin : i < a9.length
        · have hge := rowsL_cp (f := RatG.row) (d := default) hin
          simp only [↓Z0g, ↓Z10, ↓Z16, ↓Z04, ↓Z0p, ↓Z0f, ↓Z09, ↓Z0a, ↓Z0o, ↓Z1u, ↓Z14, ↓Z15, ↓Z0n, ↓Z1p, ↓Z3g, ↓Z30, ↓Z0b, Z2m, Z05, Z0q, Z17, Z1b, evN, Z19, Z0m, Z1a, Z24, Z0l, Z0e, Z0k, Z0w, evT, Opd.ev, Z03, Z00, Z18, Z2l, Z1k, Z0u, Z0x, Z0d, Z1t, LOp.isNew, State.prune, Z1j, Z1d, AV.leaf, Heap.at, Z06, Z02, Z08, Z07, Z01, Int.toNat_natCast, List.length_map, List.take_of_length_le, Z2p, Z3a, Z32, binT, binQ, chk, Z2h, List.contains_cons, List.contains_nil, Bool.or_false, Bool.and_self, resQ, resV, resT, Z13, Z1y, fnOf, Z1v, Z3u, Z2z, putRow, Z0t, Z1c, Nat.le_refl, ↓reduceIte, Nat.reduceAdd, Nat.reduceBEq, List.length_cons, List.length_nil, List.replicate_succ, List.replicate_zero, List.nil_append, List.cons_append, List.append_nil, List.map_cons, List.map_nil, List.all_cons, List.all_nil, List.set_cons_zero, List.set_cons_succ, List.getD_cons_zero, List.getD_cons_succ, List.drop_zero, List.drop_succ_cons, List.take_zero, List.flatten_cons, List.flatten_nil, Bool.true_and, Bool.not_false, true_and, and_true, or_true, and_self, Nat.reduceLT, List.reverse_cons, List.reverse_nil, Nat.zero_add, Nat.add_zero, Bool.false_eq_true, F3, G3, at_clone, Z02, Z01, Z4j, hge, li, List.getD_cons_zero]
          refine ⟨fun _ => ⟨⟨by omega, by omega⟩, hin, r_a9 i hin, ⟨by omega, by omega⟩, hin, ?_⟩, fun c => absurd c (by omega)⟩
          rw [Z2n hin (by unfold maxLen; omega)]
          refine Z0r.ices [7] (Z0r.thaw 0 (Z0r.thaw 1 (Z0r.thaw 4 (Z0r.thaw 5 (Z0r.thaw 6 (Z0r.mk [0, 1, 2, 3, 4, 5, 6] (i + 1) (by simp) (by simp [State.thaw, ices_len]) ?_ (by show i + 1 ≤ a9.length; omega) (by show a9.length - (i + 1) < a9.length - i; omega)))))))
          simp only [State.can, AV.can, AV.canL, HO.can, Z0v, idx, Z03, Z00, Heap.at, Nat.reduceBEq, ↓reduceIte, Nat.reduceEqDiff, Option.getD_some, Option.map_some, List.map_cons, List.map_nil, List.getD_cons_zero, List.getD_cons_succ, State.ices, State.ice, HO.data, iceEnv, Z42, HO.ice, AV.ice, AV.iceL, State.thaw, thaw_mkVec, Z33, Z3h, iceRows_set, iceRows_rowsL, Z3e, List.set_cons_zero, List.set_cons_succ, List.drop_zero, Z11, List.take_length, Bool.not_true, Nat.zero_add, Nat.le_refl, List.length_map, and_self, Option.map_some, rowsL_set (d := default) hin]
          try rfl
        · have e : i = a9.length := by omega
          subst e
          simp only [↓Z0g, ↓Z10, ↓Z16, ↓Z04, ↓Z0p, ↓Z0f, ↓Z09, ↓Z0a, ↓Z0o, ↓Z1u, ↓Z15, ↓Z0n, ↓Z1p, ↓Z30, ↓Z0b, Z2m, Z05, Z17, Z1b, evN, Z19, Z0m, Z1a, Z24, Z0l, Z0e, Z0k, Z0w, evT, Opd.ev, Z03, Z00, Z18, Z2l, Z1k, Z0u, Z0x, Z0d, Z1t, LOp.isNew, State.prune, Z1j, Z1d, AV.leaf, Heap.at, Z06, Z02, Z08, Z07, Z01, Int.toNat_natCast, List.take_of_length_le, Z2p, Z3a, Z32, binT, binQ, Bool.and_self, resQ, resV, resT, Z13, Z1y, fnOf, Z1v, putRow, Z0t, Nat.le_refl, ↓reduceIte, Nat.reduceAdd, Nat.reduceBEq, List.length_cons, List.length_nil, List.replicate_succ, List.replicate_zero, List.nil_append, List.cons_append, List.append_nil, List.map_cons, List.map_nil, List.all_cons, List.all_nil, List.set_cons_zero, List.set_cons_succ, List.getD_cons_zero, List.getD_cons_succ, List.drop_zero, List.drop_succ_cons, List.take_zero, true_and, and_self, Nat.reduceLT, Nat.zero_add, Nat.add_zero, Bool.false_eq_true, F3, G3, Z02, Z01, Z4j, li, List.getD_cons_zero]
          refine ⟨fun c => absurd c (by omega), fun _ => ?_⟩
          clear hin li hi
          refine RetG.mk [2, 3, 4, 5, 6] (by simp) (by simp) (fun i h => absurd h (by omega)) ?_ ?_
          · simp only [AV.can, AV.canL, idx, ↓reduceIte, Nat.reduceEqDiff, Option.map_some]
          · simp only [HO.can, Heap.at, List.map_cons, List.map_nil, List.getD_cons_zero, List.getD_cons_succ, Z3e]
theorem cp0_eff (a1 : List LocG) (a2 : Bool) (a3 : List StampsF) (a4 : Bool) (a5 : List Int) (a6 : Bool) (a7 : List RatsF) (a8 : Bool) (a9 : List RatsF) (a10 : Bool) (H : Heap) :
    ef_copied0.at [.agg [.d (.list (a1.map LocG.row) a2), .d (.list (a3.map rowStamps) a4), .d (.list (a5.map rowI) a6), .d (.list (a7.map rowRats) a8), .d (.list (a9.map rowRats) a10)]] H =
      some ⟨CpOk0 ⟨a1, a2, a3, a4, a5, a6, a7, a8, a9, a10⟩, .agg [.ref (H.length + 0) 2 0 a1.length true, .ref (H.length + 2) 1 0 a3.length true, .ref (H.length + 1) 1 0 a5.length true, .ref (H.length + 3) 1 0 a7.length true, .ref (H.length + 4) 1 0 a9.length true], [],
        [.dvec 2 (a1.map LocG.row), .dvec 1 (a5.map rowI), .vec 1 (Z46 StampG.row (cpL a3 a3.length)), .vec 1 (Z46 RatG.row (cpL a7 a7.length)), .vec 1 (Z46 RatG.row (cpL a9 a9.length))], none⟩ := by
  have hd : ∀ {α : Type} (f : α → List DV) (L : List (List α × Bool)) (ρ : Nat → Nat), (Z46 f L).map (·.map (AV.ren ρ)) = Z46 f L := fun f L ρ => by
    unfold Z46; rw [List.map_map]; exact List.map_congr_left fun x _ => by simp [AV.ren]
  have := EfN.at_enc (e := ef_copied0) (fun (x y : MemG) e => by
    simp only [ef_copied0, List.cons.injEq, and_true] at e
    exact MemG.av_inj _ _ e) ⟨a1, a2, a3, a4, a5, a6, a7, a8, a9, a10⟩ H
  refine this.trans ?_
  simp only [EfN.eff, ef_copied0, AV.ren, AV.renL, List.map_cons, List.map_nil, HO.ren, hd]
end Go.Ago

/- What may be read of a memory, and what was written last. Conditions: none. -/
set_option maxRecDepth 100000
set_option linter.unusedSimpArgs false
set_option linter.unusedVariables false
namespace Go.Ago

end Go.Ago

/- hist.Do: a step of a memory. Conditions: none. -/
set_option maxRecDepth 100000
set_option linter.unusedSimpArgs false
set_option linter.unusedVariables false
namespace Go.Ago

/-! ### Ends of calls, said with less -/
def SaysK (Post : AV → Heap → Prop) : AV → Heap → Prop := fun r H => ∃ S', Says 0 ⟨[(0, r)], H⟩ S' ∧ Post (S'.env.get 0) S'.heap
theorem ACalls.saysK {P : Program} {f : FuncId} {args : List AV} {Post : AV → Heap → Prop} (h : ACalls P f args [] (SaysK Post)) : ACalls P f args [] Post := by
  refine ⟨h.1, fun A φ w vals hs hz hr => (h.2 A φ w vals hs hz hr).mono ?_⟩
  rintro e w' ⟨v, r, H', φ', rfl, ⟨S', hw, hp⟩, hs', hrr, hext⟩
  have hsim : Sim P A 1 φ' ⟨[(0, r)], H'⟩ { tmps := #[v], defers := [] } w' := by
    refine ⟨hs', rfl, rfl, fun t => ?_⟩
    cases t with
    | zero => exact hrr
    | succ t => exact .undef _
  obtain ⟨φ2, hs2, he⟩ := hw P A 1 φ' _ w' hsim
  exact ⟨v, _, S'.heap, φ2, rfl, hp, hs2.heap, hs2.slots 0, hext.trans he⟩

/-! ### What a step does, in plain words -/
structure Mem where
  locs : List LocG
  past : List (List StampG)
  vals : List Int
  marks : List (List RatG)
  fronts : List (List RatG)
  deriving DecidableEq
/-- Lists, whatever stands behind their ends. -/
def inn {α : Type} (L : List (List α × Bool)) : List (List α) := L.map (·.1)
theorem Z31 {α : Type} (L : List (List α × Bool)) : (inn L).length = L.length := by simp [inn]
theorem inn_mem {α : Type} {L : List (List α × Bool)} {r : List α × Bool} (h : r ∈ L) : r.1 ∈ inn L := List.mem_map_of_mem h
theorem inn_get {α : Type} {L : List (List α × Bool)} {i : Nat} (h : i < L.length) : (inn L).getD i [] ∈ inn L := by
  rw [List.getD_eq_getElem?_getD, List.getElem?_eq_getElem (by rw [Z31]; exact h)]; exact List.getElem_mem _
def MemG.plain (m : MemG) : Mem := ⟨m.locs, inn m.past, m.vals, inn m.marks, inn m.fronts⟩
def Mem.av (m : Mem) : MemG := ⟨m.locs, false, m.past.map (·, false), false, m.vals, false, m.marks.map (·, false), false, m.fronts.map (·, false), false⟩
def MemG.nil : MemG := ⟨[], false, [], false, [], false, [], false, [], false⟩
def Z4l (x : RatG) : Bool := Z47 x.num x.den
def cmpQ' (x y : RatG) : Int := rat_cmp x.num x.den y.num y.den
def leastQ (x : RatG) : RatG := ⟨(Z41 x.num x.den).1, (Z41 x.num x.den).2⟩
def isPl (k : Int) : Bool := decide (k = 1) || decide (k = 2)
def isAt (k : Int) : Bool := decide (k = 3) || decide (k = 4) || decide (k = 5)
def goodQ (m : Mem) (s : StepG) : Bool :=
  !decide (s.thread < 0) && !decide ((m.fronts.length : Int) ≤ s.thread) && s.act.right m.locs && (!isPl s.act.kind || Z4l s.when) && (isPl s.act.kind || decide (s.when = ⟨0, 0⟩))
def frontOf (m : Mem) (s : StepG) : List RatG := m.fronts.getD s.thread.toNat []
def pastOf (m : Mem) (s : StepG) : List StampG := m.past.getD s.act.loc.toNat []
def markOf (m : Mem) (s : StepG) : List RatG := m.marks.getD s.act.loc.toNat []
def doErr (m : Mem) (s : StepG) : Int :=
  if goodQ m s = false then 1
  else if s.act.kind = 1 then
    (if bsHas (pastOf m s) s.when = false then 4 else if cmpQ' s.when ((frontOf m s).getD s.act.loc.toNat default) < 0 then 6 else if ((pastOf m s).getD (bsAt (pastOf m s) s.when) default).val ≠ s.act.old then 3 else 0)
  else if s.act.kind = 2 then
    (if bsHas (pastOf m s) s.when = true then 5 else if cmpQ' s.when ((frontOf m s).getD s.act.loc.toNat default) ≤ 0 then 6 else 0)
  else if isAt s.act.kind = true ∧ s.act.kind ≠ 4 ∧ m.vals.getD s.act.loc.toNat 0 ≠ s.act.old then 3 else 0
def doMem (m : Mem) (s : StepG) : Mem :=
  if s.act.kind = 2 then
    { m with past := m.past.set s.act.loc.toNat (insG (pastOf m s) (bsAt (pastOf m s) s.when) ⟨leastQ s.when, s.act.new⟩), fronts := m.fronts.set s.thread.toNat ((frontOf m s).set s.act.loc.toNat (leastQ s.when)) }
  else if isAt s.act.kind = true then
    let both := joinG (frontOf m s) (markOf m s)
    if s.act.kind = 3 then { m with fronts := m.fronts.set s.thread.toNat both }
    else { m with vals := m.vals.set s.act.loc.toNat s.act.new, marks := m.marks.set s.act.loc.toNat both, fronts := m.fronts.set s.thread.toNat both }
  else m
def resM (m : Mem) (s : StepG) : MemG := if doErr m s = 0 then (doMem m s).av else .nil
/-- A memory that is in order. -/
structure Mem.Wf (b : Nat) (m : Mem) : Prop where
  locs : m.locs.length ≤ 16
  past : m.past.length = m.locs.length
  vals : m.vals.length = m.locs.length
  marks : m.marks.length = m.locs.length
  fronts : m.fronts.length ≤ 3
  pasts : ∀ r ∈ m.past, r.length ≤ b
  marksL : ∀ r ∈ m.marks, r.length ≤ m.locs.length
  marksA : ∀ i, i < m.locs.length → (m.locs.getD i default).atom = true → (m.marks.getD i []).length = m.locs.length
  frontsL : ∀ r ∈ m.fronts, r.length = m.locs.length
def StepG.av7 (s : StepG) : AV := .agg [.d (.int .i64 s.thread), .d (.int .i64 s.act.kind), .d (.int .i64 s.act.loc), .d (.int .i64 s.act.old), .d (.int .i64 s.act.new), .d (.int .i64 s.when.num), .d (.int .i64 s.when.den)]
def sp_Do : Sp := ⟨MemG × StepG, fun x => [x.1.av, x.2.av7], fun x => .data (x.1.plain.Wf 1000000) (.tup [(resM x.1.plain x.2).av, .d (.int .i64 (doErr x.1.plain x.2))]) false⟩
theorem cp_eff (h : Hole) (a1 : List LocG) (a2 : Bool) (a3 : List StampsF) (a4 : Bool) (a5 : List Int) (a6 : Bool) (a7 : List RatsF) (a8 : Bool) (a9 : List RatsF) (a10 : Bool) (H : Heap) :
    (ef_copied h).at [.agg [.d (.list (a1.map LocG.row) a2), .d (.list (a3.map rowStamps) a4), .d (.list (a5.map rowI) a6), .d (.list (a7.map rowRats) a8), .d (.list (a9.map rowRats) a10)]] H =
      some ⟨CpOk h ⟨a1, a2, a3, a4, a5, a6, a7, a8, a9, a10⟩, .agg [.ref (H.length + 0) 2 0 a1.length true, .ref (H.length + 2) 1 0 a3.length true, .ref (H.length + 1) 1 0 a5.length true, .ref (H.length + 3) 1 0 a7.length true, .ref (H.length + 4) 1 0 a9.length true], [],
        [.dvec 2 (a1.map LocG.row), .dvec 1 (a5.map rowI), .vec 1 ((Z46 StampG.row (cpL a3 a3.length)).set h.p [.ref (H.length + 5) 3 0 (a3.getD h.p default).1.length true]), .vec 1 (Z46 RatG.row (cpL a7 a7.length)),
          .vec 1 ((Z46 RatG.row (cpL a9 a9.length)).set h.f [.ref (H.length + 6) 2 0 (a9.getD h.f default).1.length true]), .dvec 3 ((a3.getD h.p default).1.map StampG.row), .dvec 2 ((a9.getD h.f default).1.map RatG.row)], none⟩ := by
  have hd : ∀ {α : Type} (f : α → List DV) (L : List (List α × Bool)) (ρ : Nat → Nat), (Z46 f L).map (·.map (AV.ren ρ)) = Z46 f L := fun f L ρ => by
    unfold Z46; rw [List.map_map]; exact List.map_congr_left fun x _ => by simp [AV.ren]
  rw [at_copied]
  simp only [EfN.eff, ef_copied, AV.ren, AV.renL, List.map_cons, List.map_nil, HO.ren, List.map_set, hd]

theorem rowsL_all {α : Type} {f : α → List DV} {L : List (List α × Bool)} {i : Nat} (h : i < L.length) : (Z46 f (cpL L L.length)).getD i [] = [.d (.list (((inn L).getD i []).map f) false)] := by
  rw [rowsL_get (d := default) (by rw [cpL_len]; exact h)]
  have e : (cpL L L.length).getD i default = ((inn L).getD i [], false) := by
    unfold cpL inn
    rw [List.take_length, List.drop_length, List.append_nil, List.getD_eq_getElem?_getD, List.getElem?_map, List.getElem?_eq_getElem h, List.getD_eq_getElem?_getD, List.getElem?_map, List.getElem?_eq_getElem h]; rfl
  rw [e]
theorem nil_end {H : Heap} {e : Int} : SaysK (RetD (.tup [MemG.nil.av, .d (.int .i64 e)])) (.tup [.agg [.d (.list [] true), .d (.list [] true), .d (.list [] true), .d (.list [] true), .d (.list [] true)], .d (.int .i64 e)]) H :=
  ⟨_, Says.refl, rfl⟩
theorem cp_ok {m : MemG} {b : Nat} (h : m.plain.Wf b) (hb : b ≤ 1000000) : CpOk0 m := by
  have hl : m.locs.length ≤ 16 := h.locs
  have h1 : m.past.length = m.locs.length := by have := h.past; simpa [MemG.plain, Z31] using this
  have h2 : m.vals.length = m.locs.length := h.vals
  have h3 : m.marks.length = m.locs.length := by have := h.marks; simpa [MemG.plain, Z31] using this
  have h4 : m.fronts.length ≤ 3 := by have := h.fronts; simpa [MemG.plain, Z31] using this
  refine ⟨Z1e (by omega) (by omega), Z1e (by omega) (by omega), Z1e (by omega) (by omega), Z1e (by omega) (by omega), Z1e (by omega) (by omega), fun r hr => ?_, fun r hr => ?_, fun r hr => ?_⟩
  · have := h.pasts r.1 (inn_mem hr)
    exact Z1e (by omega) (by omega)
  · have : r.1.length ≤ m.locs.length := h.marksL r.1 (inn_mem hr)
    exact Z1e (by omega) (by omega)
  · have : r.1.length = m.locs.length := h.frontsL r.1 (inn_mem hr)
    exact Z1e (by omega) (by omega)
theorem right_bounds {k o q v : Int} {l : List LocG} (hk : k ≠ 6) (h : ActG.right ⟨k, o, q, v⟩ l = true) : 0 ≤ o ∧ o < l.length := by
  unfold ActG.right at h
  rw [if_neg hk] at h
  simp only [Bool.and_eq_true, decide_eq_true_eq] at h
  omega
theorem end_err {m : Mem} {s : StepG} {e : Int} {H : Heap} (h : doErr m s = e) (he : e ≠ 0) :
    SaysK (RetD (.tup [(resM m s).av, .d (.int .i64 (doErr m s))])) (.tup [.agg [.d (.list [] true), .d (.list [] true), .d (.list [] true), .d (.list [] true), .d (.list [] true)], .d (.int .i64 e)]) H := by
  have e2 : resM m s = .nil := by unfold resM; rw [if_neg (by rw [h]; exact he)]
  rw [h, e2]
  exact nil_end
/-- A memory as it stands on the heap at the end. -/
structure AtEnd (H : Heap) (M : Mem) (i0 i1 i2 i3 i4 : Nat) : Prop where
  locs : H.at i0 = .dvec 2 (M.locs.map LocG.row)
  past : H.at i1 = .dvec 1 (M.past.map fun l => [.list (l.map StampG.row) false])
  vals : H.at i2 = .dvec 1 (M.vals.map rowI)
  marks : H.at i3 = .dvec 1 (M.marks.map fun l => [.list (l.map RatG.row) false])
  fronts : H.at i4 = .dvec 1 (M.fronts.map fun l => [.list (l.map RatG.row) false])
theorem AtEnd.frz {H : Heap} {M : Mem} {i0 i1 i2 i3 i4 n0 n1 n2 n3 n4 : Nat} (h : AtEnd H M i0 i1 i2 i3 i4) (l0 : n0 = M.locs.length) (l1 : n1 = M.past.length) (l2 : n2 = M.vals.length) (l3 : n3 = M.marks.length) (l4 : n4 = M.fronts.length) {e : Int} :
    AV.frz H (.tup [.agg [.ref i0 2 0 n0 true, .ref i1 1 0 n1 true, .ref i2 1 0 n2 true, .ref i3 1 0 n3 true, .ref i4 1 0 n4 true], .d (.int .i64 e)]) = some (.tup [M.av.av, .d (.int .i64 e)]) := by
  have one : ∀ {i sz n : Nat} {D : List (List DV)}, H.at i = .dvec sz D → n = D.length → AV.frz H (.ref i sz 0 n true) = some (.d (.list D false)) := fun {i sz n D} h e => by
    subst e
    simp only [AV.frz, h, Nat.zero_add, Nat.le_refl, and_self, if_true, List.drop_zero, List.take_length]
  have f0 := one h.locs (n := n0) (by simpa using l0)
  have f1 := one h.past (n := n1) (by simpa using l1)
  have f2 := one h.vals (n := n2) (by simpa using l2)
  have f3 := one h.marks (n := n3) (by simpa using l3)
  have f4 := one h.fronts (n := n4) (by simpa using l4)
  have e1 : (M.past.map fun l => [DV.list (l.map StampG.row) false]) = (M.past.map (·, false)).map rowStamps := by rw [List.map_map]; rfl
  have e3 : (M.marks.map fun l => [DV.list (l.map RatG.row) false]) = (M.marks.map (·, false)).map rowRats := by rw [List.map_map]; rfl
  have e4 : (M.fronts.map fun l => [DV.list (l.map RatG.row) false]) = (M.fronts.map (·, false)).map rowRats := by rw [List.map_map]; rfl
  rw [e1] at f1; rw [e3] at f3; rw [e4] at f4
  have hl : AV.frzL H [.ref i0 2 0 n0 true, .ref i1 1 0 n1 true, .ref i2 1 0 n2 true, .ref i3 1 0 n3 true, .ref i4 1 0 n4 true] = some [.d (.list (M.locs.map LocG.row) false), .d (.list ((M.past.map (·, false)).map rowStamps) false), .d (.list (M.vals.map rowI) false), .d (.list ((M.marks.map (·, false)).map rowRats) false), .d (.list ((M.fronts.map (·, false)).map rowRats) false)] := by
    simp only [AV.frzL, f0, f1, f2, f3, f4]
  have ha : AV.frz H (.agg [.ref i0 2 0 n0 true, .ref i1 1 0 n1 true, .ref i2 1 0 n2 true, .ref i3 1 0 n3 true, .ref i4 1 0 n4 true]) = some M.av.av := by
    rw [AV.frz, hl]; rfl
  rw [AV.frz, AV.frzL, ha]
  rfl
theorem end_ok {m : Mem} {s : StepG} {H H' : Heap} {ids : List Nat} {i0 i1 i2 i3 i4 n0 n1 n2 n3 n4 : Nat} (h : doErr m s = 0)
    (hs : State.ices ids ⟨[(0, .tup [.agg [.ref i0 2 0 n0 true, .ref i1 1 0 n1 true, .ref i2 1 0 n2 true, .ref i3 1 0 n3 true, .ref i4 1 0 n4 true], .d (.int .i64 0)])], H⟩ = ⟨[(0, .tup [.agg [.ref i0 2 0 n0 true, .ref i1 1 0 n1 true, .ref i2 1 0 n2 true, .ref i3 1 0 n3 true, .ref i4 1 0 n4 true], .d (.int .i64 0)])], H'⟩)
    (he : AtEnd H' (doMem m s) i0 i1 i2 i3 i4) (l0 : n0 = (doMem m s).locs.length) (l1 : n1 = (doMem m s).past.length) (l2 : n2 = (doMem m s).vals.length) (l3 : n3 = (doMem m s).marks.length) (l4 : n4 = (doMem m s).fronts.length) :
    SaysK (RetD (.tup [(resM m s).av, .d (.int .i64 (doErr m s))])) (.tup [.agg [.ref i0 2 0 n0 true, .ref i1 1 0 n1 true, .ref i2 1 0 n2 true, .ref i3 1 0 n3 true, .ref i4 1 0 n4 true], .d (.int .i64 0)]) H := by
  have e2 : resM m s = (doMem m s).av := by unfold resM; rw [if_pos h]
  rw [h, e2]
  refine ⟨_, ices_says ids _, ?_⟩
  rw [hs]
  exact he.frz l0 l1 l2 l3 l4
theorem cpL_all {α : Type} (L : List (List α × Bool)) : cpL L L.length = (inn L).map (·, false) := by
  unfold cpL inn; rw [List.take_length, List.drop_length, List.append_nil, List.map_map]; rfl
theorem mk_rowsL {α : Type} {f : α → List DV} (L : List (List α × Bool)) : Z4f 1 (Z46 f (cpL L L.length)) = .dvec 1 ((inn L).map fun l => [.list (l.map f) false]) := by
  rw [cpL_all]
  unfold Z4f
  rw [drows_rowsL, List.map_map]; rfl
theorem inn_at {α : Type} (L : List (List α × Bool)) (i : Nat) : (L.getD i default).1 = (inn L).getD i [] := by
  unfold inn
  rw [List.getD_eq_getElem?_getD, List.getD_eq_getElem?_getD, List.getElem?_map]
  cases L[i]? <;> rfl
/-! ### slices.Insert, as the caller meets it -/
open Classical in
noncomputable def insE (n : Nat) (o1 o2 : HO) (id k len : Nat) (i : Int) : Option Eff :=
  if h : ∃ x : List StampG × StampG × Nat, o1 = .dvec 3 (x.1.map StampG.row) ∧ o2 = .dvec 3 [x.2.1.row] ∧ len = x.1.length ∧ i = (x.2.2 : Int) ∧ id ≠ k then
    some ⟨h.choose.2.2 ≤ h.choose.1.length ∧ roomy (h.choose.1.length + 1) 24, .ref n 3 0 ((insG h.choose.1 h.choose.2.2 h.choose.2.1).map StampG.row).length true, [(id, .dead)], [.dvec 3 ((insG h.choose.1 h.choose.2.2 h.choose.2.1).map StampG.row)], some ⟨id, k, 3, (insG h.choose.1 h.choose.2.2 h.choose.2.1).map StampG.row, false⟩⟩
  else none
theorem insE_d {n id k : Nat} {l : List StampG} {i : Nat} {a b c : Int} (hne : (id == k) = false) :
    insE n (.dvec 3 (l.map StampG.row)) (.dvec 3 [[.int .i64 a, .int .i64 b, .int .i64 c]]) id k l.length (i : Int) =
      some ⟨i ≤ l.length ∧ roomy (l.length + 1) 24, .ref n 3 0 ((insG l i ⟨⟨a, b⟩, c⟩).map StampG.row).length true, [(id, .dead)], [.dvec 3 ((insG l i ⟨⟨a, b⟩, c⟩).map StampG.row)], some ⟨id, k, 3, (insG l i ⟨⟨a, b⟩, c⟩).map StampG.row, false⟩⟩ := by
  have hne' : id ≠ k := by simpa using hne
  have h : ∃ x : List StampG × StampG × Nat, HO.dvec 3 (l.map StampG.row) = .dvec 3 (x.1.map StampG.row) ∧ HO.dvec 3 [[.int .i64 a, .int .i64 b, .int .i64 c]] = .dvec 3 [x.2.1.row] ∧ l.length = x.1.length ∧ (i : Int) = (x.2.2 : Int) ∧ id ≠ k := ⟨(l, ⟨⟨a, b⟩, c⟩, i), rfl, rfl, rfl, rfl, hne'⟩
  unfold insE
  rw [dif_pos h]
  have e : h.choose = (l, ⟨⟨a, b⟩, c⟩, i) := by
    obtain ⟨e1, e2, _, e4, _⟩ := h.choose_spec
    generalize h.choose = x at e1 e2 e4
    obtain ⟨l', v', i'⟩ := x
    simp only [HO.dvec.injEq, true_and] at e1 e2
    have e1 := Z4h StampG.row_inj e1
    have e2 := StampG.row_inj ⟨⟨a, b⟩, c⟩ v' (by simpa [StampG.row] using e2)
    rw [e1, ← e2, Int.ofNat_inj.1 e4]
  rw [e]
theorem at_InsertE {id k len : Nat} {i : Int} {H : Heap} : ef_Insert.at [.ref id 3 0 len true, .d (.int .i64 i), .ref k 3 0 1 true] H = insE H.length (H.at id) (H.at k) id k len i := by
  by_cases h : ∃ x : List StampG × StampG × Nat, H.at id = .dvec 3 (x.1.map StampG.row) ∧ H.at k = .dvec 3 [x.2.1.row] ∧ len = x.1.length ∧ i = (x.2.2 : Int) ∧ id ≠ k
  · obtain ⟨⟨l, v, j⟩, h1, h2, h3, h4, h5⟩ := h
    simp only at h1 h2 h3 h4
    subst h3; subst h4
    rw [at_Insert h1 h2 h5, h1, h2]
    obtain ⟨⟨a, b⟩, c⟩ := v
    exact (insE_d (by simpa using h5)).symm
  · unfold insE
    rw [dif_neg h]
    unfold EfI.at
    rw [dif_neg]
    rintro ⟨⟨⟨l, j, v⟩, id', k'⟩, e1, e2, e3, e4⟩
    simp only [ef_Insert, List.cons.injEq, AV.ref.injEq, AV.d.injEq, DV.int.injEq, and_true, true_and] at e1
    obtain ⟨⟨rfl, e5⟩, e6, rfl⟩ := e1
    exact h ⟨(l, v, j), e2, e3, e5.symm, e6.symm, e4⟩
end Go.Ago

/- hist.Do: all steps but writes. Conditions: none. -/
set_option maxRecDepth 100000
set_option linter.unusedSimpArgs false
set_option linter.unusedVariables false
namespace Go.Ago
set_option maxHeartbeats 4000000 in
theorem do_read {T : Tab} {n1 n2 n3 n4 n5 n6 n7 n8 n9 n10 : Nat} (k1 : Knows T n1 sp_act_Right) (k2 : Knows T n2 sp_plain) (k3 : Knows T n3 sp_rat_Right) (k4 : KnowsG T n4 ef_copied0.at) (k5 : Knows T n5 sp_hist_at) (k6 : Knows T n6 sp_rat_Cmp) (k7 : Knows T n7 sp_rat_Least) (k8 : KnowsG T n8 ef_Insert.at) (k9 : Knows T n9 sp_join) (k10 : Knows T n10 (cloneS 2 16))
    (m : MemG) (th o q v : Int) (w : RatG) (hm : m.plain.Wf 1000000) :
    vck T 0 V_hist_Do (L_hist_Do n1 n2 n3 n4 n5 n6 n7 n8 n9 n10) ⟨Z0y 0 [m.av, StepG.av7 ⟨th, ⟨1, o, q, v⟩, w⟩], []⟩ (retK R_hist_Do (SaysK (RetD (.tup [(resM m.plain ⟨th, ⟨1, o, q, v⟩, w⟩).av, .d (.int .i64 (doErr m.plain ⟨th, ⟨1, o, q, v⟩, w⟩))])))) := by
  have F1 := k1.F; have G1 := k1.G; have F2 := k2.F; have G2 := k2.G; have F3 := k3.F; have G3 := k3.G; have G4 := k4.G; have F5 := k5.F; have G5 := k5.G; have F6 := k6.F; have G6 := k6.G; have F7 := k7.F; have G7 := k7.G; have G8 := k8.G; have F9 := k9.F; have G9 := k9.G; have F10 := k10.F; have G10 := k10.G
  generalize hX : SaysK _ = X
  obtain ⟨a1, a2, a3, a4, a5, a6, a7, a8, a9, a10⟩ := m
  obtain ⟨wn, wd⟩ := w
  have hl : a1.length ≤ 16 := hm.locs
  have h1 : a3.length = a1.length := by have := hm.past; simpa [MemG.plain, Z31] using this
  have h2 : a5.length = a1.length := hm.vals
  have h3 : a7.length = a1.length := by have := hm.marks; simpa [MemG.plain, Z31] using this
  have h4 : a9.length ≤ 3 := by have := hm.fronts; simpa [MemG.plain, Z31] using this
  have hcp := cp_ok hm (Nat.le_refl _)
  by_cases hb : (0 ≤ th ∧ th < a9.length) ∧ ActG.right ⟨1, o, q, v⟩ a1 = true
  · obtain ⟨⟨b1, b2⟩, b3⟩ := hb
    obtain ⟨b4, b5⟩ := right_bounds (by decide) b3
    have r6 := rowsL_all (f := StampG.row) (L := a3) (i := o.toNat) (by omega)
    have r8 := rowsL_all (f := RatG.row) (L := a9) (i := th.toNat) (by omega)
    have c1 : (th < 0) = False := by simp; omega
    have c2 : ((a9.length : Int) ≤ th) = False := by simp; omega
    unfold V_hist_Do L_hist_Do R_hist_Do
    simp (maxSteps := 3000000) only [↓Z0g, ↓Z10, ↓Z04, ↓Z0p, ↓Z0f, ↓Z09, ↓Z0a, ↓Z0o, ↓Z1i, ↓Z14, ↓Z23, ↓Z0n, ↓Z1p, ↓Z0i, ↓Z0c, ↓Z0z, ↓Z0b, Z2m, Z05, Z0q, Z17, Z12, Z1b, evN, Z19, Z0m, Z1a, Z24, Z0l, Z0e, Z0k, Z1s, Z1q, Z1o, Z0w, evT, Opd.ev, Z03, Z00, Z18, Z2l, Z1k, Z1h, Z0u, Z0x, Z0y, Z0d, Z1t, LOp.isNew, State.prune, Z1j, Z1d, AV.leaf, Heap.at, Z06, Z0s, Z02, Z44, Z2j, Z08, Z07, Z01, Z2i, RatG.row, StampG.row, Z1z, Int.toNat_natCast, Z3x, List.length_map, List.take_of_length_le, Z2p, Z3a, Z32, evUn, binT, binQ, chk, Z2h, Bool.or_false, Bool.and_self, resQ, resV, resT, Z4n, Z13, Z1y, fnOf, Z1v, isD, Z3u, Z3t, Z3i, putRow, Z0t, Nat.le_refl, ↓reduceIte, Nat.reduceAdd, Nat.reduceBEq, List.length_cons, List.length_nil, List.replicate_succ, List.replicate_zero, List.nil_append, List.cons_append, List.append_nil, List.map_cons, List.map_nil, List.all_cons, List.all_nil, List.set_cons_zero, List.set_cons_succ, List.getD_cons_zero, List.getD_cons_succ, List.drop_zero, List.drop_succ_cons, List.take_succ_cons, List.take_zero, List.flatten_cons, List.flatten_nil, Bool.not_true, true_and, and_true, decide_true, decide_false, and_self, Nat.reduceLT, Nat.reduceLeDiff, List.reverse_cons, List.reverse_nil, Nat.zero_add, Nat.add_zero, Bool.false_eq_true, MemG.av, StepG.av7, F1, G1, F2, G2, F3, G3, G4, F5, G5, F6, G6, Z4q, at_plain, at_rat_Right, cp0_eff, at_hist_at, at_rat_Cmp, Z02, Z01, Z4j, cpL_len, Int.reduceEq, decide_true, decide_false, Bool.or_false, c1, c2, b3, r6, r8]
    have hgood : goodQ (MemG.plain ⟨a1, a2, a3, a4, a5, a6, a7, a8, a9, a10⟩) ⟨th, ⟨1, o, q, v⟩, ⟨wn, wd⟩⟩ = Z47 wn wd := by
      have e1 : decide (th < 0) = false := decide_eq_false (by omega)
      have e2 : decide ((a9.length : Int) ≤ th) = false := decide_eq_false (by omega)
      simp [goodQ, MemG.plain, Z31, isPl, Z4l, b3, e1, e2]
    have hk1 : ((1 : Int) = 1) = True := by simp
    have hp : pastOf (MemG.plain ⟨a1, a2, a3, a4, a5, a6, a7, a8, a9, a10⟩) ⟨th, ⟨1, o, q, v⟩, ⟨wn, wd⟩⟩ = (inn a3).getD o.toNat [] := rfl
    have hf : frontOf (MemG.plain ⟨a1, a2, a3, a4, a5, a6, a7, a8, a9, a10⟩) ⟨th, ⟨1, o, q, v⟩, ⟨wn, wd⟩⟩ = (inn a9).getD th.toNat [] := rfl
    have hpl : ((inn a3).getD o.toNat []).length ≤ 1000000 := by
      exact hm.pasts _ (inn_get (L := a3) (i := o.toNat) (by omega))
    have hfl : ((inn a9).getD th.toNat []).length = a1.length := by
      exact hm.frontsL _ (inn_get (L := a9) (i := th.toNat) (by omega))
    have hD : doErr (MemG.plain ⟨a1, a2, a3, a4, a5, a6, a7, a8, a9, a10⟩) ⟨th, ⟨1, o, q, v⟩, ⟨wn, wd⟩⟩ = if Z47 wn wd = false then 1 else (if bsHas ((inn a3).getD o.toNat []) ⟨wn, wd⟩ = false then 4 else if rat_cmp wn wd (((inn a9).getD th.toNat []).getD o.toNat default).num (((inn a9).getD th.toNat []).getD o.toNat default).den < 0 then 6 else if (((inn a3).getD o.toNat []).getD (bsAt ((inn a3).getD o.toNat []) ⟨wn, wd⟩) default).val ≠ q then 3 else 0) := by
      unfold doErr
      rw [hgood, hp, hf]; rfl
    have hbs : bsHas ((inn a3).getD o.toNat []) ⟨wn, wd⟩ = true → bsAt ((inn a3).getD o.toNat []) ⟨wn, wd⟩ < ((inn a3).getD o.toNat []).length := fun h => by
      unfold bsHas at h
      simp only [Bool.and_eq_true, decide_eq_true_eq] at h
      exact h.1
    have hM : doMem (MemG.plain ⟨a1, a2, a3, a4, a5, a6, a7, a8, a9, a10⟩) ⟨th, ⟨1, o, q, v⟩, ⟨wn, wd⟩⟩ = MemG.plain ⟨a1, a2, a3, a4, a5, a6, a7, a8, a9, a10⟩ := by
      unfold doMem; rw [if_neg (by show ¬ (1 : Int) = 2; decide), if_neg (by show ¬ isAt 1 = true; decide)]
    subst hX
    refine ⟨fun g1 => ⟨hcp, ⟨by omega, by omega⟩, by omega, ⟨by omega, by omega⟩, by omega, by omega, fun g2 => ⟨⟨by omega, by omega⟩, fun g3 => ?_, fun g3 => ⟨⟨by omega, by omega⟩, by omega, ⟨by omega, by have := hbs g2; omega⟩, fun g4 => ?_, fun g4 => ?_⟩⟩, fun g2 => ?_⟩, fun g1 => ?_⟩
    · exact end_err (by rw [hD, g1, g2, if_neg (by simp), if_neg (by simp), if_pos g3]) (by decide)
    · refine end_ok (ids := [3]) (by rw [hD, g1, g2, if_neg (by simp), if_neg (by simp), if_neg g3, if_neg (by simpa using g4)]) (by simp only [State.ices, State.ice, HO.data, iceEnv, Z42, HO.ice, AV.ice, AV.iceL, Z33, Z3h, iceRows_set, iceRows_rowsL, iceL_data, Heap.at, List.getD_cons_zero, List.getD_cons_succ, ↓reduceIte, Nat.reduceEqDiff, Option.map_some, Nat.zero_add, Nat.reduceAdd, Nat.reduceBEq]; rfl) (by rw [hM]; exact ⟨rfl, mk_rowsL _, rfl, mk_rowsL _, mk_rowsL _⟩) (by rw [hM]; rfl) (by rw [hM]; simp [MemG.plain, Z31]) (by rw [hM]; rfl) (by rw [hM]; simp [MemG.plain, Z31]) (by rw [hM]; simp [MemG.plain, Z31])
    · exact end_err (by rw [hD, g1, g2, if_neg (by simp), if_neg (by simp), if_neg g3, if_pos (by simpa using g4)]) (by decide)
    · exact end_err (by rw [hD, g1, g2, if_neg (by simp), if_pos rfl]) (by decide)
    · exact end_err (by rw [hD, g1, if_pos rfl]) (by decide)
  · have hD : doErr (MemG.plain ⟨a1, a2, a3, a4, a5, a6, a7, a8, a9, a10⟩) ⟨th, ⟨1, o, q, v⟩, ⟨wn, wd⟩⟩ = 1 := by
      unfold doErr
      rw [if_pos]
      unfold goodQ
      have e : ((inn a9).length : Int) = a9.length := by rw [Z31]
      show (!decide (th < 0) && !decide (((inn a9).length : Int) ≤ th) && ActG.right ⟨1, o, q, v⟩ a1 && _ && _) = false
      rw [e]
      by_cases c1 : th < 0
      · simp [c1]
      · by_cases c2 : (a9.length : Int) ≤ th
        · simp [c2]
        · have : ActG.right ⟨1, o, q, v⟩ a1 = false := by
            cases h : ActG.right ⟨1, o, q, v⟩ a1 with
            | false => rfl
            | true => exact absurd ⟨⟨by omega, by omega⟩, h⟩ hb
          simp [this]
    unfold V_hist_Do L_hist_Do R_hist_Do
    simp (maxSteps := 3000000) only [↓Z0g, ↓Z10, ↓Z04, ↓Z0p, ↓Z0f, ↓Z09, ↓Z0a, ↓Z0o, ↓Z1i, ↓Z0n, ↓Z1p, ↓Z0i, ↓Z0c, ↓Z0z, ↓Z0b, Z2m, Z05, Z17, Z12, Z1b, evN, Z19, Z0m, Z1a, Z24, Z0l, Z0e, Z0k, Z1s, Z1q, Z1o, Z0w, evT, Opd.ev, Z03, Z00, Z18, Z2l, Z1k, Z1h, Z0u, Z0x, Z0y, Z0d, Z1t, LOp.isNew, State.prune, Z1j, Z1d, AV.leaf, Heap.at, Z06, Z02, Z08, Z07, Z01, Z3x, List.length_map, List.take_of_length_le, Z2p, Z3a, Z32, evUn, binT, binQ, Bool.or_false, Bool.and_self, resQ, resV, resT, Z4n, Z13, Z1y, fnOf, Z1v, isD, Z3u, Z3t, Z3i, putRow, Z0t, Nat.le_refl, ↓reduceIte, Nat.reduceAdd, Nat.reduceBEq, List.length_cons, List.length_nil, List.replicate_succ, List.replicate_zero, List.nil_append, List.cons_append, List.append_nil, List.map_cons, List.map_nil, List.all_cons, List.all_nil, List.set_cons_zero, List.set_cons_succ, List.getD_cons_zero, List.getD_cons_succ, List.drop_zero, List.drop_succ_cons, List.take_succ_cons, List.take_zero, List.flatten_cons, List.flatten_nil, Bool.not_true, true_and, decide_true, decide_false, and_self, Nat.reduceLT, Nat.reduceLeDiff, Nat.zero_add, Nat.add_zero, Bool.false_eq_true, MemG.av, StepG.av7, F1, G1, F2, G2, F3, G3, G4, F5, G5, Z4q, at_plain, at_rat_Right, cp0_eff, Z02, Z01, Z4j, cpL_len, Int.reduceEq, decide_true, decide_false, Bool.or_false]
    subst hX
    exact ⟨fun _ => end_err hD (by decide), fun g1 => ⟨fun _ => end_err hD (by decide), fun g2 => ⟨fun g3 => absurd ⟨⟨by omega, by omega⟩, g3⟩ hb, fun _ => end_err hD (by decide)⟩⟩⟩
end Go.Ago
