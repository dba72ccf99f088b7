/- Calls with a result as data or with rows taken over; every operation is carried out by the model's ('op_sound'). Conditions: none. -/
import Derived.Test.YtlphhmgfjdecjaaAgo14
set_option linter.unusedSimpArgs false
set_option linter.unusedVariables false
namespace Go.Ago

section
variable {A : Nat → Prop} {φ : Nat → Option (Nat × Nat)} {H : Heap} {w : World} {P : Program} {n : Nat} {S : State} {a : Act}

theorem own_noIds (b : Nat) : ¬ own noIds [] b := fun ⟨i, o, hi, hb⟩ => by cases hb

/-- Rows in a new block that nobody else has become an object of ours. -/
theorem SimH.adopt (h : SimH A φ H w) {w' : World} (hp : Pres (own noIds []) w w') {i : Nat} (hi : i < H.length) (hφ : φ i = none) {x : HO} {sz : Nat} {rows : List (List AV)}
    (hx : x.rows = some (sz, rows)) {b o : Nat} (hb : b < w'.heap.size) (hge : w.heap.size ≤ b) {c : Array Value} {T : TypeId} (hblk : w'.heap[b]? = some (.cells c T (0, 0)))
    (hfit : o + rows.length * sz ≤ c.size) (hrow : ∀ r ∈ rows, r.length = sz)
    (hc : ∀ (k : Nat) (r : List AV) (j : Nat) (y : AV), rows[k]? = some r → r[j]? = some y → ∃ v, c[o + k * sz + j]? = some v ∧
      Rel (fun j => if j = i then some (b, o) else φ j) (Mb A (fun j => if j = i then some (b, o) else φ j) (H.set i x)) w' y v) :
    SimH A (fun j => if j = i then some (b, o) else φ j) (H.set i x) w' ∧ Onward A φ H w (fun j => if j = i then some (b, o) else φ j) (H.set i x) w' := by
  have hxal : x.alive := HO.alive_rows.2 ⟨_, _, hx⟩
  have hlt : ∀ b' , own φ H b' → b' < w.heap.size := fun b' ⟨j, o', _, hb'⟩ => (h.dom j b' o' hb').2
  have hA : ¬ A b := fun hA => by have := h.amb b hA; omega
  have hown : ¬ own φ H b := fun ho => by have := hlt b ho; omega
  have hmono : ∀ b', own (fun j => if j = i then some (b, o) else φ j) (H.set i x) b' → own φ H b' ∨ b' = b := by
    intro b' ⟨j, o', hal, hb'⟩
    by_cases e : j = i
    · simp only [e, if_true, Option.some.injEq, Prod.mk.injEq] at hb'
      exact .inr hb'.1.symm
    · simp only [e, if_false] at hb'
      rw [Heap.at_set hi, if_neg (fun h => e h.symm)] at hal
      exact .inl ⟨j, o', hal, hb'⟩
  have hon : Onward A φ H w (fun j => if j = i then some (b, o) else φ j) (H.set i x) w' := by
    refine ⟨fun j p hp' => ?_, ⟨hp.size, fun b1 h1 _ => hp.same b1 h1 (own_noIds b1), hp.keep, hp.os, hp.fz⟩, fun b1 h1 => ?_⟩
    · by_cases e : j = i
      · subst e; rw [hφ] at hp'; cases hp'
      · simp [e, hp']
    · rcases hmono b1 h1 with h2 | h2
      · exact .inl h2
      · exact .inr (h2 ▸ hge)
  refine ⟨⟨fun j b' o' hb' => ?_, fun j sz' rows' hr hne => ?_, fun j k b' o1 o2 hj hk h1 h2 => ?_, fun b' hA' => Nat.lt_of_lt_of_le (h.amb b' hA') hp.size, fun b' hA' ho' => ?_, fun j b' o' hal hb' => ?_⟩, hon⟩
  · rw [List.length_set]
    by_cases e : j = i
    · simp only [e, if_true, Option.some.injEq, Prod.mk.injEq] at hb'
      exact ⟨e ▸ hi, hb'.1 ▸ hb⟩
    · simp only [e, if_false] at hb'
      have := h.dom j b' o' hb'
      exact ⟨this.1, Nat.lt_of_lt_of_le this.2 hp.size⟩
  · by_cases e : j = i
    · exact ⟨b, o, by simp [e]⟩
    · rw [Heap.at_set hi, if_neg (fun h => e h.symm)] at hr
      obtain ⟨b', o', hb'⟩ := h.there j sz' rows' hr hne
      exact ⟨b', o', by simp [e, hb']⟩
  · rw [Heap.at_set hi] at hj hk
    by_cases e : j = i
    · by_cases e' : k = i
      · omega
      · simp only [e, if_true, Option.some.injEq, Prod.mk.injEq] at h1
        simp only [e', if_false] at h2
        rw [if_neg (fun h => e' h.symm)] at hk
        exact absurd ⟨k, o2, hk, h1.1 ▸ h2⟩ hown
    · by_cases e' : k = i
      · simp only [e', if_true, Option.some.injEq, Prod.mk.injEq] at h2
        simp only [e, if_false] at h1
        rw [if_neg (fun h => e h.symm)] at hj
        exact absurd ⟨j, o1, hj, h2.1 ▸ h1⟩ hown
      · simp only [e, if_false] at h1
        simp only [e', if_false] at h2
        rw [if_neg (fun h => e h.symm)] at hj
        rw [if_neg (fun h => e' h.symm)] at hk
        exact h.inj j k b' o1 o2 hj hk h1 h2
  · rcases hmono b' ho' with h1 | h1
    · exact h.apart b' hA' h1
    · exact hA (h1 ▸ hA')
  · rw [Heap.at_set hi] at hal
    rw [Heap.at_set hi]
    by_cases e : j = i
    · subst e
      simp only [if_true, Option.some.injEq, Prod.mk.injEq] at hb'
      obtain ⟨rfl, rfl⟩ := hb'
      simp only [if_true]
      intro sz' rows' hr
      rw [hx] at hr
      simp only [Option.some.injEq, Prod.mk.injEq] at hr
      obtain ⟨rfl, rfl⟩ := hr
      exact ⟨c, T, hblk, hfit, hrow, hc⟩
    · rw [if_neg (fun h => e h.symm)] at hal ⊢
      simp only [e, if_false] at hb'
      intro sz' rows' hr
      obtain ⟨c1, T1, e1, e2, e3, e4⟩ := h.objs j b' o' hal hb' sz' rows' hr
      exact ⟨c1, T1, by rw [hp.same b' (h.dom j b' o' hb').2 (own_noIds b')]; exact e1, e2, e3, fun k r j y hk hy => by obtain ⟨v, hv, hrel⟩ := e4 k r j y hk hy; exact ⟨v, hv, hon.rel hrel⟩⟩

theorem fnOf_rel {φ : Nat → Option (Nat × Nat)} {M : Nat → Prop} {x : AV} {v : Value} (h : Rel φ M w x v) {g : FuncId} {caps : List AV} (hf : fnOf x = some (g, caps)) :
    ∃ vs : Array Value, v = .func (.func g) #[] vs ∧ RelL φ M w caps vs.toList := by
  unfold fnOf at hf
  split at hf
  · simp only [Option.some.injEq, Prod.mk.injEq] at hf; obtain ⟨rfl, rfl⟩ := hf
    cases h with
    | d _ _ h => cases h; exact ⟨#[], rfl, .nil⟩
  · simp only [Option.some.injEq, Prod.mk.injEq] at hf; obtain ⟨rfl, rfl⟩ := hf
    cases h with
    | clo _ _ vs hl h => exact ⟨vs, rfl, by simpa using hl, fun i x v h1 h2 => h i x v h1 (by simpa using h2)⟩
  · cases hf

theorem run_call {o : Oper} {f : Operand} {args : Array Operand} {ts : Array TypeId} (ho : o.op = .call { callee := .value f, args, argTypes := ts }) {g : FuncId} (hg : Enters P g) {vs : Array Value}
    (hf : a.eval f = .func (.func g) #[] vs) : (execOp a.eval o).run P w = .ok (.enter g (args.map a.eval ++ vs)) w := by
  obtain ⟨fn, h1, h2, h3⟩ := hg
  simp only [execOp, ho, resolve, hf, Deferred.ofValue, invoke, callFunc, Sem.run_bind, Sem.run_pure, Result.andThen_ok, run_program, h1, h2, h3, Bool.false_eq_true, if_false]
  simp

theorem views_rel (hs : SimH A φ H w) {args args' : List AV} {ids : List Nat} (h : Views H args args' ids) {vals : Array Value} (hr : RelL φ (Mb A φ H) w args vals.toList) :
    RelL noIds (Mb (Away A φ H ids) noIds []) w args' vals.toList := by
  obtain ⟨l, h1, h2, rfl, h3⟩ := h
  refine ⟨by rw [hr.len, h1], fun i x v hx hv => ?_⟩
  have hi : i < args.length := by have := lt_of_get hx; omega
  have hi2 : i < l.length := by omega
  exact view_rel hs (h3 i args[i] x l[i] (List.getElem?_eq_getElem hi) hx (List.getElem?_eq_getElem hi2)) (fun j hj => List.mem_flatten.2 ⟨l[i], List.getElem_mem hi2, hj⟩) v
    (hr.get i args[i] v (List.getElem?_eq_getElem hi) hv)

theorem away_lt (hs : SimH A φ H w) {ids : List Nat} (b : Nat) (h : Away A φ H ids b) : b < w.heap.size := mb_lt hs h.1

theorem away_nil {ids : List Nat} (h : ids = []) {b : Nat} (hb : Mb A φ H b) : Away A φ H ids b := ⟨hb, fun ⟨i, o, hi, _⟩ => by subst h; simp at hi⟩

/-- Some objects are given up. -/
theorem SimH.kills {A : Nat → Prop} {φ : Nat → Option (Nat × Nat)} {w : World} : ∀ (ids : List Nat) {H : Heap}, SimH A φ H w →
    SimH A φ ((ids.map fun i => (i, HO.dead)).foldl (fun H p => H.set p.1 p.2) H) w ∧ Onward A φ H w φ ((ids.map fun i => (i, HO.dead)).foldl (fun H p => H.set p.1 p.2) H) w ∧
      ∀ j, (Heap.at ((ids.map fun i => (i, HO.dead)).foldl (fun H p => H.set p.1 p.2) H) j).alive → j ∉ ids ∧ Heap.at ((ids.map fun i => (i, HO.dead)).foldl (fun H p => H.set p.1 p.2) H) j = H.at j := by
  intro ids
  induction ids with
  | nil => intro H h; exact ⟨h, ⟨fun _ _ h => h, Pres.refl _ _, fun b hb => .inl hb⟩, fun j _ => ⟨by simp, rfl⟩⟩
  | cons i ids ih =>
    intro H h
    obtain ⟨h1, h2⟩ := h.kill i
    obtain ⟨g1, g2, g3⟩ := ih h1
    refine ⟨g1, h2.trans g2, fun j hj => ?_⟩
    obtain ⟨k1, k2⟩ := g3 j hj
    simp only [List.map_cons, List.foldl_cons] at hj k2 ⊢
    rw [k2] at hj ⊢
    rcases Nat.lt_or_ge i H.length with hi | hi
    · rw [Heap.at_set hi] at hj ⊢
      by_cases e : i = j
      · rw [if_pos e] at hj; exact hj.elim
      · exact ⟨fun hm => by rcases List.mem_cons.1 hm with hm | hm; exact e hm.symm; exact k1 hm, if_neg e⟩
    · rw [List.set_eq_of_length_le hi] at hj ⊢
      have hlt := Heap.at_lt hj
      exact ⟨fun hm => by rcases List.mem_cons.1 hm with hm | hm; omega; exact k1 hm, rfl⟩

theorem call_data_sound (hs : Sim A n φ S a w) {o : Oper} {nu : Bool} {nw : Nat} (hd : ∀ t, o.dst = some t → t < n) {f : Operand} {args : Array Operand} {ts : Array TypeId}
    (ho : o.op = .call { callee := .value f, args, argTypes := ts }) {g : FuncId} {vs : Array Value} (hf : a.eval f = .func (.func g) #[] vs) {full : List AV}
    (hr : RelL φ (Mb A φ S.heap) w full (args.map a.eval ++ vs).toList) {δ : Delta} (h : callData P S.heap g full (· = δ)) : Fine P n A φ S a w o nu nw δ := by
  obtain ⟨args', ids, x, hv, hp, ⟨hc, rfl⟩ | ⟨hc, rfl⟩⟩ := h
  · intro next Q hn
    unfold Oper.wp
    rw [run_call ho hc.1 hf]
    simp only [Oper.upon]
    have hra := views_rel hs.heap hv hr
    refine (hc.2 (Away A φ S.heap ids) noIds w (args.map a.eval ++ vs) (simH_nil (fun b hb => away_lt hs.heap b hb)) (by simpa using hra.len) (fun i x v h1 h2 => hra.get i x v h1 (by rw [Array.getElem?_toList]; exact h2))).mono ?_
    rintro e w' ⟨v, r, H', φ', rfl, ⟨hfz, hfr⟩, hs', hrr, hext⟩
    obtain ⟨hk, hon⟩ := hs.heap.keep hext.pres
    have hfin := frz_rel (φ := φ) hs' (M1 := Mb A φ S.heap) (fresh := ids ≠ []) (fun b ho hb => by
        rcases hext.mono b ho with h1 | h1
        · exact own_noIds b h1
        · have := mb_lt hs.heap hb; omega) (fun hf b hb => .inl (away_nil (by simpa using hf) hb)) hfz (fun h => by
        rcases hfr with h1 | h1
        · exact absurd h1 h
        · exact h1) v hrr
    show next (a.put o.dst v) w'
    exact hn φ v w' (sim_put hs hk hon hd hfin) hon (fun _ _ => rfl)
  · intro next Q hn
    unfold Oper.wp
    rw [run_call ho hc.1 hf]
    simp only [Oper.upon]
    have hra := views_rel hs.heap hv hr
    refine (hc.2 (Away A φ S.heap ids) noIds w (args.map a.eval ++ vs) (simH_nil (fun b hb => away_lt hs.heap b hb)) (by simpa using hra.len) (fun i x v h1 h2 => hra.get i x v h1 (by rw [Array.getElem?_toList]; exact h2))).mono ?_
    rintro e w' ⟨v, r, H', φ', rfl, hfz, hs', hrr, hext⟩
    obtain ⟨hk0, hon0⟩ := hs.heap.keep hext.pres
    obtain ⟨hk, hon1, hal⟩ := hk0.kills ids
    have hon := hon0.trans hon1
    have haway : ∀ b, Mb A φ ((ids.map fun i => (i, HO.dead)).foldl (fun H p => H.set p.1 p.2) S.heap) b → Away A φ S.heap ids b := by
      rintro b (hA | ⟨j, o', hj, hb⟩)
      · exact ⟨.inl hA, fun ⟨i, o1, _, hi2, hi3⟩ => hs.heap.apart b hA ⟨i, o1, hi2, hi3⟩⟩
      · obtain ⟨g1, g2⟩ := hal j hj
        rw [g2] at hj
        exact ⟨.inr ⟨j, o', hj, hb⟩, fun ⟨i, o1, hi1, hi2, hi3⟩ => g1 (by rw [hs.heap.inj j i b o' o1 hj hi2 hb hi3]; exact hi1)⟩
    have hfin := frz_rel (φ := φ) hs' (M1 := Mb A φ ((ids.map fun i => (i, HO.dead)).foldl (fun H p => H.set p.1 p.2) S.heap)) (fresh := False) (fun b ho hb => by
        rcases hext.mono b ho with h1 | h1
        · exact own_noIds b h1
        · have := mb_lt hs.heap (haway b hb).1; omega) (fun _ b hb => .inl (haway b hb)) hfz (fun h => h.elim) v hrr
    show next (a.put o.dst v) w'
    exact hn φ v w' (sim_put hs hk hon hd hfin) hon (fun _ _ => rfl)

theorem call_imp_sound (hs : Sim A n φ S a w) {o : Oper} {nw : Nat} (hnw : nw < S.heap.length) (hφ : φ nw = none) (hd : ∀ t, o.dst = some t → t < n) {f : Operand} {args : Array Operand} {ts : Array TypeId}
    (ho : o.op = .call { callee := .value f, args, argTypes := ts }) {g : FuncId} {vs : Array Value} (hf : a.eval f = .func (.func g) #[] vs) {full : List AV}
    (hr : RelL φ (Mb A φ S.heap) w full (args.map a.eval ++ vs).toList) {δ : Delta} (h : callImp P S.heap nw g full (· = δ)) : Fine P n A φ S a w o true nw δ := by
  obtain ⟨args', ids, sz, rows, hv, hrow, hsc, hc, rfl⟩ := h
  intro next Q hn
  unfold Oper.wp
  rw [run_call ho hc.1 hf]
  simp only [Oper.upon]
  have hra := views_rel hs.heap hv hr
  refine (hc.2 (Away A φ S.heap ids) noIds w (args.map a.eval ++ vs) (simH_nil (fun b hb => away_lt hs.heap b hb)) (by simpa using hra.len) (fun i x v h1 h2 => hra.get i x v h1 (by rw [Array.getElem?_toList]; exact h2))).mono ?_
  rintro e w' ⟨v, r, H', φ', rfl, hir, hs', hrr, hext⟩
  obtain ⟨hk, hon⟩ := hs.heap.keep hext.pres
  show next (a.put o.dst v) w'
  -- nothing is there
  have void : ∀ (v : Value), rows = [] → (∃ a', v = .slice a' 0 0) → next (a.put o.dst v) w' := by
    intro v hr0 ⟨a', hv'⟩
    subst hr0; subst hv'
    obtain ⟨h1, h2⟩ := hk.void (i := nw) hnw hφ (o := .dvec sz []) (sz := sz) rfl
    exact hn φ _ w' (sim_put hs h1 (hon.trans h2) hd (.ref0 _ _ _ _ _)) (hon.trans h2) (fun _ _ => rfl)
  rcases hir with ⟨id, room, rfl, hat⟩ | ⟨hr0, rfl⟩
  · generalize hlen : rows.length = len at hrr hn
    cases hrr with
    | ref0 _ _ _ _ a' => exact void _ (List.eq_nil_of_length_eq_zero hlen) ⟨a', rfl⟩
    | ref _ _ _ _ b o' cap _ c T hb hcap hroom hheap hfit =>
      have hal : (H'.at id).alive := by rw [hat]; trivial
      obtain ⟨c1, T1, e1, e2, e3, e4⟩ := hs'.objs id b o' hal hb sz (rows.map (·.map .d)) (by rw [hat]; rfl)
      rw [hheap] at e1; cases e1
      have hownb : own φ' H' b := ⟨id, o', hal, hb⟩
      have hge : w.heap.size ≤ b := by
        rcases hext.mono b hownb with h1 | h1
        · exact absurd h1 (own_noIds b)
        · exact h1
      have hmono2 : ∀ b', Mb A (fun j => if j = nw then some (b, o') else φ j) (S.heap.set nw (.dvec sz rows)) b' → Mb A φ S.heap b' ∨ b' = b := by
        intro b' hb'
        rcases hb' with hA | ⟨j, o1, hal', hb'⟩
        · exact .inl (.inl hA)
        · by_cases e : j = nw
          · simp only [e, if_true, Option.some.injEq, Prod.mk.injEq] at hb'
            exact .inr hb'.1.symm
          · simp only [e, if_false] at hb'
            rw [Heap.at_set hnw, if_neg (fun h => e h.symm)] at hal'
            exact .inl (.inr ⟨j, o1, hal', hb'⟩)
      have hblt := (hs'.dom id b o' hb).2
      have hcells : ∀ (k : Nat) (r : List AV) (j : Nat) (y : AV), (rows.map (·.map AV.d))[k]? = some r → r[j]? = some y → ∃ v, c[o' + k * sz + j]? = some v ∧
          Rel (fun j => if j = nw then some (b, o') else φ j) (Mb A (fun j => if j = nw then some (b, o') else φ j) (S.heap.set nw (.dvec sz rows))) w' y v := by
        intro k r j y hk' hy
        obtain ⟨v, hv, hrel⟩ := e4 k r j y hk' hy
        refine ⟨v, hv, ?_⟩
        simp only [List.getElem?_map, Option.map_eq_some_iff] at hk'
        obtain ⟨r', hk', rfl⟩ := hk'
        simp only [List.getElem?_map, Option.map_eq_some_iff] at hy
        obtain ⟨z, hz, rfl⟩ := hy
        cases hrel with
        | d _ _ hrel =>
          refine .d _ _ ?_
          rcases hsc with h0 | h0
          · refine hrel.less (fun b1 h1 => ?_)
            rcases hmono2 b1 h1 with h2 | h2
            · exact .inl (away_nil h0 h2)
            · exact .inr (h2 ▸ hownb)
          · exact hrel.scal (h0 r' (List.mem_of_getElem? hk') z (List.mem_of_getElem? hz))
      obtain ⟨hsim, hon2⟩ := hs.heap.adopt hext.pres hnw hφ (x := .dvec sz rows) rfl hblt hge hheap e2 (fun r hr => e3 r hr) hcells
      refine hn _ _ w' (sim_put hs hsim hon2 hd ?_) hon2 (fun j hj => by simp [hj])
      rw [Nat.zero_mul, Nat.add_zero]
      have hself : (fun j => if j = nw then some (b, o') else φ j) nw = some (b, o') := by simp
      exact Rel.ref_head (φ := fun j => if j = nw then some (b, o') else φ j) hself hcap (fun h => by cases h) hheap (by rw [Nat.zero_add] at hfit; exact hfit)
  · cases hrr with
    | d _ _ hrr =>
      cases hrr with
      | nil _ a' cap hf => exact void _ hr0 ⟨a', by rw [hf rfl]⟩
      | list _ _ sz' b off cap f hb hM hsz hcap hfull hc2 hr2 => exact void _ hr0 ⟨some ⟨b, off, none⟩, by rw [hfull rfl]; rfl⟩

end
end Go.Ago
