/- Rows in memory as grids; the builtin append. Conditions: none. -/
import Derived.Test.YtlphhmgfjdecjaaAgo10
set_option linter.unusedSimpArgs false
set_option linter.unusedVariables false
namespace Go.Ago

section
variable {A : Nat → Prop} {φ : Nat → Option (Nat × Nat)} {M : Nat → Prop} {H : Heap} {w : World} {P : Program}

structure Grid (φ : Nat → Option (Nat × Nat)) (M : Nat → Prop) (w : World) (sz : Nat) (rows : List (List AV)) (vs : List Value) : Prop where
  len : vs.length = rows.length * sz
  row : ∀ r ∈ rows, r.length = sz
  get : ∀ (k : Nat) (r : List AV) (j : Nat) (x : AV), rows[k]? = some r → r[j]? = some x → ∃ v, vs[k * sz + j]? = some v ∧ Rel φ M w x v

theorem lt_of_get {α : Type} {l : List α} {i : Nat} {x : α} (h : l[i]? = some x) : i < l.length := by
  rcases Nat.lt_or_ge i l.length with hl | hl
  · exact hl
  · rw [List.getElem?_eq_none hl] at h; cases h

theorem Grid.nil (sz : Nat) : Grid φ M w sz [] [] := ⟨by simp, fun r h => by simp at h, fun k r j x h => by simp at h⟩

theorem cell_lt {k n j sz : Nat} (hk : k < n) (hj : j < sz) : k * sz + j < n * sz := by
  have := Nat.mul_le_mul_right sz (Nat.succ_le_of_lt hk)
  rw [Nat.succ_mul] at this
  omega

theorem Grid.append {sz : Nat} {r1 r2 : List (List AV)} {v1 v2 : List Value} (h1 : Grid φ M w sz r1 v1) (h2 : Grid φ M w sz r2 v2) : Grid φ M w sz (r1 ++ r2) (v1 ++ v2) := by
  refine ⟨by simp [h1.len, h2.len, Nat.add_mul], fun r hr => ?_, fun k r j x hk hx => ?_⟩
  · rcases List.mem_append.1 hr with h | h
    · exact h1.row r h
    · exact h2.row r h
  · rw [List.getElem?_append] at hk
    split at hk
    · rename_i hlt
      obtain ⟨v, hv, hrel⟩ := h1.get k r j x hk hx
      exact ⟨v, by rw [List.getElem?_append_left (lt_of_get hv)]; exact hv, hrel⟩
    · rename_i hge
      obtain ⟨v, hv, hrel⟩ := h2.get _ r j x hk hx
      refine ⟨v, ?_, hrel⟩
      have : k * sz + j = v1.length + ((k - r1.length) * sz + j) := by
        rw [h1.len, Nat.sub_mul]
        have := Nat.mul_le_mul_right sz (show r1.length ≤ k by omega)
        omega
      rw [this, List.getElem?_append_right (by omega)]
      rw [Nat.add_sub_cancel_left]; exact hv

theorem Grid.sub {sz : Nat} {rows : List (List AV)} {vs : List Value} (h : Grid φ M w sz rows vs) (a n : Nat) : Grid φ M w sz ((rows.drop a).take n) ((vs.drop (a * sz)).take (n * sz)) := by
  refine ⟨?_, fun r hr => h.row r (List.mem_of_mem_drop (List.mem_of_mem_take hr)), fun k r j x hk hx => ?_⟩
  · simp only [List.length_take, List.length_drop, h.len]
    rw [← Nat.sub_mul]
    rcases Nat.le_total n (rows.length - a) with hle | hle
    · rw [Nat.min_eq_left hle, Nat.min_eq_left (Nat.mul_le_mul_right _ hle)]
    · rw [Nat.min_eq_right hle, Nat.min_eq_right (Nat.mul_le_mul_right _ hle)]
  · rw [List.getElem?_take] at hk
    split at hk
    · rename_i hlt
      rw [List.getElem?_drop] at hk
      obtain ⟨v, hv, hrel⟩ := h.get _ r j x hk hx
      have hj : j < sz := by have := lt_of_get hx; rw [h.row r (List.mem_of_getElem? hk)] at this; exact this
      refine ⟨v, ?_, hrel⟩
      rw [List.getElem?_take, if_pos (cell_lt hlt hj), List.getElem?_drop, ← Nat.add_assoc, ← Nat.add_mul]
      exact hv
    · cases hk

theorem Grid.one {sz : Nat} {rows : List (List AV)} {vs : List Value} (h : Grid φ M w sz rows vs) (hl : ∀ r ∈ rows, ∀ x ∈ r, AV.leaf x = true) : ∀ v ∈ vs, v.oneCell' = true := by
  intro v hv
  obtain ⟨i, hi, rfl⟩ := List.mem_iff_getElem.1 hv
  have hi' : i < rows.length * sz := by rw [← h.len]; exact hi
  have hsz : 0 < sz := by
    rcases Nat.eq_zero_or_pos sz with h0 | h0
    · subst h0; simp at hi'
    · exact h0
  have hk : i / sz < rows.length := (Nat.div_lt_iff_lt_mul hsz).2 hi'
  have hj : i % sz < (rows[i / sz]).length := by rw [h.row _ (List.getElem_mem hk)]; exact Nat.mod_lt _ hsz
  obtain ⟨u, hu, hrel⟩ := h.get (i / sz) rows[i / sz] (i % sz) _ (List.getElem?_eq_getElem hk) (List.getElem?_eq_getElem hj)
  have e : i / sz * sz + i % sz = i := by rw [Nat.mul_comm]; exact Nat.div_add_mod i sz
  rw [e, List.getElem?_eq_getElem hi] at hu
  cases hu
  exact hrel.leaf_one (hl _ (List.getElem_mem hk) _ (List.getElem_mem hj))

/-- The rows of an object, as they lie in memory. -/
theorem obj_grid (hs : SimH A φ H w) {id sz b o : Nat} {rows : List (List AV)} (hr : (H.at id).rows = some (sz, rows)) (hb : φ id = some (b, o)) :
    ∃ c T, w.heap[b]? = some (.cells c T (0, 0)) ∧ o + rows.length * sz ≤ c.size ∧ Grid φ (Mb A φ H) w sz rows ((c.toList.drop o).take (rows.length * sz)) := by
  obtain ⟨c, T, e1, e2, e3, e4⟩ := hs.objs id b o (HO.alive_rows.2 ⟨_, _, hr⟩) hb sz rows hr
  refine ⟨c, T, e1, e2, by simp; omega, e3, fun k r j x hk hx => ?_⟩
  obtain ⟨v, hv, hrel⟩ := e4 k r j x hk hx
  have hj : j < sz := by have := lt_of_get hx; rw [e3 r (List.mem_of_getElem? hk)] at this; exact this
  refine ⟨v, ?_, hrel⟩
  rw [List.getElem?_take, if_pos (cell_lt (lt_of_get hk) hj), List.getElem?_drop, Array.getElem?_toList, ← Nat.add_assoc]
  exact hv

theorem srcOf_len {sz : Nat} {y : AV} {s : Src} {ids : List Nat} (h : srcOf H sz y = some (s, ids)) : s.len = s.all.length := by
  cases s <;> simp [Src.len, Src.all]

/-- What a source is in memory: a slice, whose cells can be read. -/
theorem src_run (hs : SimH A φ H w) {sz : Nat} {y : AV} {vy : Value} (hy : Rel φ (Mb A φ H) w y vy) {s : Src} {ids : List Nat} (h : srcOf H sz y = some (s, ids))
    (hrow : ∀ r ∈ s.all, r.length = sz) :
    ∃ a cap vs, vy = .slice a s.len cap ∧ Grid φ (Mb A φ H) w sz s.all vs ∧
      ∀ n, n ≤ s.len → (Builtin.firstCells sz n vy).run P w = .ok (vs.take (n * sz)).toArray w := by
  have readAll : ∀ (b q n : Nat) (vs : List Value), (∀ i v, vs[i]? = some v → w.cell? ⟨b, q + i, none⟩ = some v) → n * sz ≤ vs.length → ∀ len cap,
      (Builtin.firstCells sz n (.slice (some ⟨b, q, none⟩) len cap)).run P w = .ok (vs.take (n * sz)).toArray w := by
    intro b q n vs hc hle len cap
    have hl : (vs.take (n * sz)).length = n * sz := by simp; omega
    have := run_loadCells_at (P := P) (w := w) (b := b) (o := q) (vs.take (n * sz)) (fun i v hv => by
      rw [List.getElem?_take] at hv
      split at hv
      · exact hc i v hv
      · cases hv)
    rw [hl] at this
    exact this
  have empty : ∀ (a : Option Addr) (n len cap : Nat), n = 0 → (Builtin.firstCells sz n (.slice a len cap)).run P w = .ok #[] w := by
    intro a n len cap hn
    subst hn
    cases a <;> simp [Builtin.firstCells, loadCells, loadCellsFrom]
  unfold srcOf at h
  split at h
  · rename_i id sz' row len room
    have key : ∀ (rows : List (List AV)), (H.at id).rows = some (sz, rows) → sz' = sz → row + len ≤ rows.length → s.all = (rows.drop row).take len → s.len = len →
        ∃ a cap vs, vy = .slice a s.len cap ∧ Grid φ (Mb A φ H) w sz s.all vs ∧ ∀ n, n ≤ s.len → (Builtin.firstCells sz n vy).run P w = .ok (vs.take (n * sz)).toArray w := by
      intro rows hro he hfit hall hlen
      subst he
      cases hy with
      | ref0 _ _ _ _ a =>
        refine ⟨a, 0, [], by rw [hlen], ?_, fun n hn => ?_⟩
        · have : s.all = [] := by rw [hall]; simp
          rw [this]; exact Grid.nil _
        · have hn0 : n = 0 := by omega
          rw [empty a n 0 0 hn0]; simp
      | ref _ _ _ _ b o cap _ c T hb hcap hroom hheap hfit2 =>
        obtain ⟨c1, T1, e1, e2, g⟩ := obj_grid hs hro hb
        refine ⟨_, cap, _, by rw [hlen], by rw [hall]; exact g.sub row len, fun n hn => ?_⟩
        rw [hlen] at hn
        refine readAll b (o + row * sz') n _ (fun i v hv => ?_) ?_ _ _
        · rw [List.getElem?_take] at hv
          split at hv
          · rw [List.getElem?_drop, List.getElem?_take] at hv
            split at hv
            · rw [List.getElem?_drop] at hv
              rw [cell_block e1, ← Array.getElem?_toList, Nat.add_assoc]; exact hv
            · cases hv
          · cases hv
        · have h1 := Nat.mul_le_mul_right sz' hn
          have h2 := Nat.mul_le_mul_right sz' hfit
          rw [Nat.add_mul] at h2
          simp
          omega
    split at h
    · rename_i sz2 rows hat
      split at h
      · rename_i hc
        simp only [Option.some.injEq, Prod.mk.injEq] at h
        obtain ⟨rfl, rfl⟩ := h
        obtain ⟨e1, rfl, e3⟩ := hc
        exact key rows (by rw [hat]; rfl) e1 e3 rfl (by simp [Src.len]; omega)
      · cases h
    · rename_i sz2 rows hat
      split at h
      · rename_i hc
        simp only [Option.some.injEq, Prod.mk.injEq] at h
        obtain ⟨rfl, rfl⟩ := h
        obtain ⟨e1, rfl, e3⟩ := hc
        exact key _ (by rw [hat]; rfl) e1 (by simpa using e3) (by simp [Src.all, List.map_drop, List.map_take]) (by simp [Src.len]; omega)
      · cases h
    · cases h
  · rename_i rows full
    simp only [Option.some.injEq, Prod.mk.injEq] at h
    obtain ⟨rfl, rfl⟩ := h
    cases hy with
    | d _ _ hy =>
      cases hy with
      | nil _ a cap hfull =>
        refine ⟨a, cap, [], by simp [Src.len], by simp only [Src.all, List.map_nil]; exact Grid.nil _, fun n hn => ?_⟩
        have hn0 : n = 0 := by simpa [Src.len] using hn
        rw [empty a n 0 cap hn0]; simp
      | list _ _ sz' b off cap f hb hM hsz hcap hfull hc hr =>
        by_cases hemp : rows = []
        · subst hemp
          refine ⟨some ⟨b, off, none⟩, cap, [], rfl, by simp only [Src.all, List.map_nil]; exact Grid.nil _, fun n hn => ?_⟩
          have hn0 : n = 0 := by simpa [Src.len] using hn
          rw [empty _ n _ cap hn0]; simp
        · have he : sz' = sz := by
            obtain ⟨r, hr0⟩ := List.exists_mem_of_ne_nil rows hemp
            have a1 := hsz r hr0
            have a2 := hrow (r.map .d) (by simp only [Src.all]; exact List.mem_map_of_mem hr0)
            simp at a2; omega
          subst he
          -- the values, cell by cell
          let vs : List Value := (List.range (rows.length * sz')).map fun i => f (i / sz') (i % sz')
          have hvs : ∀ (k j : Nat), k < rows.length → j < sz' → vs[k * sz' + j]? = some (f k j) := by
            intro k j hk hj
            have : k * sz' + j < rows.length * sz' := cell_lt hk hj
            simp only [vs, List.getElem?_map, List.getElem?_range this, Option.map_some]
            have e1 : (k * sz' + j) / sz' = k := by
              rw [Nat.mul_comm, Nat.mul_add_div (by omega), Nat.div_eq_of_lt hj]; omega
            have e2 : (k * sz' + j) % sz' = j := by
              rw [Nat.mul_comm, Nat.mul_add_mod, Nat.mod_eq_of_lt hj]
            rw [e1, e2]
          refine ⟨some ⟨b, off, none⟩, cap, vs, rfl, ⟨by simp [vs, Src.all], hrow, fun k r j x hk hx => ?_⟩, fun n hn => ?_⟩
          · simp only [Src.all, List.getElem?_map, Option.map_eq_some_iff] at hk
            obtain ⟨r', hk', rfl⟩ := hk
            simp only [List.getElem?_map, Option.map_eq_some_iff] at hx
            obtain ⟨y, hy, rfl⟩ := hx
            have hj : j < sz' := by have := lt_of_get hy; rw [hsz r' (List.mem_of_getElem? hk')] at this; exact this
            exact ⟨_, hvs k j (lt_of_get hk') hj, .d _ _ (hr k r' j y hk' hy)⟩
          · simp only [Src.len] at hn
            refine readAll b off n vs (fun i v hv => ?_) (by simp only [vs, List.length_map, List.length_range]; exact Nat.mul_le_mul_right _ hn) _ _
            have hi : i < rows.length * sz' := by have := lt_of_get hv; simpa [vs] using this
            have hsz0 : 0 < sz' := by
              rcases Nat.eq_zero_or_pos sz' with h0 | h0
              · rw [h0] at hi; simp at hi
              · exact h0
            have hk : i / sz' < rows.length := (Nat.div_lt_iff_lt_mul hsz0).2 hi
            have hj : i % sz' < (rows[i / sz']).length := by rw [hsz _ (List.getElem_mem hk)]; exact Nat.mod_lt _ hsz0
            have := hc (i / sz') rows[i / sz'] (i % sz') _ (List.getElem?_eq_getElem hk) (List.getElem?_eq_getElem hj)
            have e : i / sz' * sz' + i % sz' = i := by rw [Nat.mul_comm]; exact Nat.div_add_mod i sz'
            rw [e] at this
            have hv' := hvs (i / sz') (i % sz') hk (Nat.mod_lt _ hsz0)
            rw [e] at hv'
            rw [hv] at hv'; cases hv'
            exact this
  · cases h

theorem SimH.draw (hs : SimH A φ H w) : SimH A φ H w.drew ∧ Onward A φ H w φ H w.drew := by
  have hon : Onward A φ H w φ H w.drew := ⟨fun _ _ h => h, ⟨Nat.le_refl _, fun _ _ _ => rfl, fun _ c _ h => ⟨c, h, rfl⟩, ⟨rfl, rfl⟩, fun _ => rfl⟩, fun b hb => .inl hb⟩
  refine ⟨⟨hs.dom, hs.there, hs.inj, hs.amb, hs.apart, fun i b o hal hb sz rows hr => ?_⟩, hon⟩
  obtain ⟨c, T, e1, e2, e3, e4⟩ := hs.objs i b o hal hb sz rows hr
  exact ⟨c, T, e1, e2, e3, fun k r j x hk hx => by obtain ⟨v, hv, hrel⟩ := e4 k r j x hk hx; exact ⟨v, hv, hon.rel hrel⟩⟩

theorem Grid.on {φ' : Nat → Option (Nat × Nat)} {H' : Heap} {w' : World} (hon : Onward A φ H w φ' H' w') {sz : Nat} {rows : List (List AV)} {vs : List Value} (h : Grid φ (Mb A φ H) w sz rows vs) :
    Grid φ' (Mb A φ' H') w' sz rows vs :=
  ⟨h.len, h.row, fun k r j x hk hx => by obtain ⟨v, hv, hrel⟩ := h.get k r j x hk hx; exact ⟨v, hv, hon.rel hrel⟩⟩

theorem growBy_le (n : Nat) : ∀ (r c : Nat), c < n → Builtin.growBy n r c ≤ 2 * n + 192 := by
  intro r
  induction r with
  | zero => intro c h; simp [Builtin.growBy]; omega
  | succ r ih =>
    intro c h
    simp only [Builtin.growBy]
    split
    · omega
    · by_cases h2 : c + (c + 768) / 4 < n
      · exact ih _ h2
      · cases r with
        | zero => simp only [Builtin.growBy]; omega
        | succ r => simp only [Builtin.growBy]; rw [if_pos (by omega)]; omega

theorem nextcap_le {need cap bytes : Nat} (h : cap < need) (hb : need * bytes ≤ 2 ^ 46) : Builtin.nextslicecap need cap * bytes ≤ 2 ^ 48 := by
  unfold Builtin.nextslicecap
  split
  · omega
  · split
    · have : 2 * cap * bytes ≤ 2 * need * bytes := Nat.mul_le_mul_right _ (by omega)
      rw [Nat.mul_assoc 2 need] at this
      omega
    · rename_i h1 h2
      have h3 := growBy_le need 4 cap h
      have h4 : Builtin.growBy need 4 cap * bytes ≤ 3 * need * bytes := Nat.mul_le_mul_right _ (by omega)
      rw [Nat.mul_assoc 3 need] at h4
      omega

theorem zeroCells_len (z : Array Value) (n : Nat) : (Builtin.zeroCells z n).size = n * z.size := by simp [Builtin.zeroCells]

/-- The heart of an append that makes a new array. -/
theorem new_of_grid (hs : SimH A φ H w) {nw : Nat} (hn : nw < H.length) (hφ : φ nw = none) {o : HO} {sz : Nat} {rows : List (List AV)} (ho : o.rows = some (sz, rows)) {vs rest : List Value}
    (g : Grid φ (Mb A φ H) w sz rows vs) (T : TypeId) :
    SimH A (fun j => if j = nw then some (w.heap.size, 0) else φ j) (H.set nw o) (w.alloc (.cells (vs ++ rest).toArray T)) ∧
      Onward A φ H w (fun j => if j = nw then some (w.heap.size, 0) else φ j) (H.set nw o) (w.alloc (.cells (vs ++ rest).toArray T)) := by
  refine hs.new hn hφ ho (by simp [g.len]) g.row (fun k r j x hk hx => ?_)
  obtain ⟨v, hv, hrel⟩ := g.get k r j x hk hx
  refine ⟨v, ?_, hrel⟩
  rw [List.getElem?_toArray, List.getElem?_append_left (lt_of_get hv)]
  exact hv

theorem set_set_dead {H : Heap} {i nw : Nat} {o : HO} : ([(i, HO.dead), (nw, o)] : List (Nat × HO)).foldl (fun H p => H.set p.1 p.2) H = (H.set i .dead).set nw o := rfl

theorem Rel.ref_head {id sz len b o cap : Nat} {room : Bool} {c : Array Value} {T : TypeId} (hb : φ id = some (b, o)) (hcap : len ≤ cap) (hroom : room = false → cap = len)
    (hheap : w.heap[b]? = some (.cells c T (0, 0))) (hfit : o + cap * sz ≤ c.size) : Rel φ M w (.ref id sz 0 len room) (.slice (some ⟨b, o, none⟩) len cap) := by
  have := Rel.ref (φ := φ) (M := M) (w := w) id sz 0 len b o cap room c T hb hcap hroom hheap (by rw [Nat.zero_add]; exact hfit)
  rwa [Nat.zero_mul, Nat.add_zero] at this

/-- The builtin append. -/
theorem run_append_op (hs : SimH A φ H w) {nw : Nat} (hn : nw < H.length) (hφ : φ nw = none) {t1 t2 T : TypeId} {e e2 : TypeId} {i : TypeInfo} {z : List AV}
    (h1 : P.underlying t1 = some (.slice e)) (h2 : P.underlying t2 = some (.slice e2)) (h3 : P.info? e = some i) (h4 : zeroA P e = some z) {argTypes : Array TypeId}
    (a1 : argTypes[0]? = some t1) (a2 : argTypes[1]? = some t2) {x y : AV} {vx vy : Value} (hx : Rel φ (Mb A φ H) w x vx) (hy : Rel φ (Mb A φ H) w y vy)
    {k : Delta → Prop} (h : actAppend H nw i.size i.bytes x y k) :
    ∃ (w' : World) (v : Value) (zv : AV) (φ' : Nat → Option (Nat × Nat)) (ups : List (Nat × HO)) (ids : List Nat), (Builtin.append_ argTypes T #[vx, vy]).run P w = .ok v w' ∧
      SimH A φ' (ups.foldl (fun H p => H.set p.1 p.2) H) w' ∧ Onward A φ H w φ' (ups.foldl (fun H p => H.set p.1 p.2) H) w' ∧
      Rel φ' (Mb A φ' (ups.foldl (fun H p => H.set p.1 p.2) H)) w' zv v ∧ k ⟨zv, ups, ids⟩ ∧ ∀ j, j ≠ nw → φ' j = φ j := by
  obtain ⟨i', zv0, z1, z2, z3, z4, z5, z6⟩ := zeroA_spec h4
  rw [h3] at z1; cases z1
  have hsz : lowSz P e = some i.size := by simp [lowSz, h3]
  -- what runs: the row at its end, in place, or made anew
  have runIn : ∀ (a : Option Addr) (len cap n : Nat) (b : Option Addr) (cap2 : Nat) (new : Array Value) (w2 : World), vx = .slice a len cap → vy = .slice b n cap2 → len + n ≤ cap →
      (Builtin.firstCells i.size n vy).run P w = .ok new w → ((match a with | some a => storeCells (a.add (len * i.size)) new.toList | none => pure ()).run P w = .ok () w2) →
      (Builtin.append_ argTypes T #[vx, vy]).run P w = .ok (.slice a (len + n) cap) w2 := by
    intro a len cap n b cap2 new w2 e1 e2 hle e3 e4
    subst e1; subst e2
    cases a <;> simp [Builtin.append_, a1, a2, run_underlying h1, run_underlying h2, run_sizeOf hsz, Builtin.lenOf, hle, e3] at e4 ⊢
    · exact e4
    · simp [e4]
  have runNew : ∀ (a : Option Addr) (len cap n : Nat) (b : Option Addr) (cap2 : Nat) (old new : Array Value), vx = .slice a len cap → vy = .slice b n cap2 → cap < len + n →
      roomy (len + n) i.bytes → (Builtin.firstCells i.size len vx).run P w.drew = .ok old w.drew → (Builtin.firstCells i.size n vy).run P w.drew = .ok new w.drew →
      ∃ (cap' : Nat) (rest : Array Value), len + n ≤ cap' ∧ rest.size = (cap' - (len + n)) * i.size ∧
        (Builtin.append_ argTypes T #[vx, vy]).run P w = .ok (.slice (some ⟨w.heap.size, 0, none⟩) (len + n) cap') (w.drew.alloc (.cells (old ++ new ++ rest) e)) := by
    intro a len cap n b cap2 old new e1 e2 hlt hroom e3 e4
    subst e1; subst e2
    have hb1 : ¬ (9223372036854775807 : Int) < (len : Int) + (n : Int) := by have := hroom.1; omega
    have hb2 : ¬ 2 ^ 48 < Builtin.nextslicecap (len + n) cap * i.bytes := by have := nextcap_le hlt hroom.2; omega
    refine ⟨Question.cut (.appendCap (len + n) cap e) (w.tape w.drawn (.appendCap (len + n) cap e)),
      Builtin.zeroCells zv0.cells ((Question.cut (.appendCap (len + n) cap e) (w.tape w.drawn (.appendCap (len + n) cap e))) - (len + n)), ?_, ?_, ?_⟩
    · simp [Question.cut]
    · rw [zeroCells_len]
      have := (z4 φ (Mb A φ H) w).len
      simp at this
      rw [this, z3]
    · have hnot : ¬ (len + n ≤ cap) := by omega
      simp [Builtin.append_, a1, a2, run_underlying h1, run_underlying h2, run_sizeOf hsz, Builtin.lenOf, hnot, run_typeInfo h3, hb1, hb2, Question.forced, newRow, run_zeroValue h3 z2, e3, e4]
  obtain ⟨hsd, hond⟩ := hs.draw
  -- a new array: whatever the heap 'H1' is that is left of 'H'
  have finNew : ∀ (H1 : Heap) (ids0 : List (Nat × HO)) (d s : Src) (a : Option Addr) (cap : Nat) (b : Option Addr) (cap2 : Nat) (i2 : List Nat), H1 = ids0.foldl (fun H p => H.set p.1 p.2) H →
      SimH A φ H1 w.drew → Onward A φ H w.drew φ H1 w.drew → H1.length = H.length →
      vx = .slice a d.len cap → vy = .slice b s.len cap2 → cap < d.len + s.len → roomy (d.len + s.len) i.bytes → (∀ r ∈ d.all, r.length = i.size) → (∀ r ∈ s.all, r.length = i.size) →
      (∃ i1, srcOf H i.size x = some (d, i1)) → srcOf H i.size y = some (s, i2) →
      k ⟨.ref nw i.size 0 (d.len + s.len) true, ids0 ++ [(nw, joinV i.size d s)], i2⟩ →
      ∃ (w' : World) (v : Value) (zv : AV) (φ' : Nat → Option (Nat × Nat)) (ups : List (Nat × HO)) (ids : List Nat), (Builtin.append_ argTypes T #[vx, vy]).run P w = .ok v w' ∧
        SimH A φ' (ups.foldl (fun H p => H.set p.1 p.2) H) w' ∧ Onward A φ H w φ' (ups.foldl (fun H p => H.set p.1 p.2) H) w' ∧
        Rel φ' (Mb A φ' (ups.foldl (fun H p => H.set p.1 p.2) H)) w' zv v ∧ k ⟨zv, ups, ids⟩ ∧ ∀ j, j ≠ nw → φ' j = φ j := by
    intro H1 ids0 d s a cap b cap2 i2 hH1 hs1 hon1 hl1 e1 e2 hlt hroom hrd hrs ⟨i1, hd⟩ hsrc hk
    obtain ⟨ad, capd, vd, ed, gd, fd⟩ := src_run (P := P) hsd (hond.rel hx) hd hrd
    obtain ⟨as, caps, vs, es, gs, fs⟩ := src_run (P := P) hsd (hond.rel hy) hsrc hrs
    have f1 := fd d.len (Nat.le_refl _)
    have f2 := fs s.len (Nat.le_refl _)
    rw [srcOf_len hd, List.take_of_length_le (by rw [gd.len]; exact Nat.le_refl _)] at f1
    rw [srcOf_len hsrc, List.take_of_length_le (by rw [gs.len]; exact Nat.le_refl _)] at f2
    rw [← srcOf_len hd] at f1
    rw [← srcOf_len hsrc] at f2
    obtain ⟨cap', rest, hc1, hc2, hrun⟩ := runNew a d.len cap s.len b cap2 _ _ e1 e2 hlt hroom f1 f2
    have hφ1 : φ nw = none := hφ
    obtain ⟨hs2, hon2⟩ := new_of_grid hs1 (nw := nw) (by rw [hl1]; exact hn) hφ1 (joinV_rows i.size d s) ((gd.append gs).on hon1) (rest := rest.toList) e
    have hfold : (ids0 ++ [(nw, joinV i.size d s)]).foldl (fun H p => H.set p.1 p.2) H = H1.set nw (joinV i.size d s) := by rw [List.foldl_append, ← hH1]; rfl
    have harr : (vd ++ vs ++ rest.toList).toArray = vd.toArray ++ vs.toArray ++ rest := by
      apply Array.ext'; simp
    rw [harr] at hs2 hon2
    refine ⟨_, _, .ref nw i.size 0 (d.len + s.len) true, (fun j => if j = nw then some (w.drew.heap.size, 0) else φ j), ids0 ++ [(nw, joinV i.size d s)], i2, hrun, by rw [hfold]; exact hs2, by rw [hfold]; exact (hond.trans hon1).trans hon2, ?_, hk, fun j hj => by simp [hj]⟩
    rw [hfold]
    have hblk := alloc_at w.drew (.cells (vd.toArray ++ vs.toArray ++ rest) e)
    have hself : (fun j => if j = nw then some (w.drew.heap.size, 0) else φ j) nw = some (w.heap.size, 0) := by simp
    refine Rel.ref_head (φ := fun j => if j = nw then some (w.drew.heap.size, 0) else φ j) hself hc1 (fun hf => by cases hf) hblk ?_
    have l1 := gd.len
    have l2 := gs.len
    rw [← srcOf_len hd] at l1
    rw [← srcOf_len hsrc] at l2
    simp only [Array.size_append, List.size_toArray, l1, l2, hc2, Nat.zero_add]
    rw [← Nat.add_mul, ← Nat.add_mul]
    exact Nat.le_of_eq (by congr 1; omega)
  -- nothing is there, and nothing comes
  have finVoid : ∀ (H1 : Heap) (ids0 : List (Nat × HO)) (d s : Src) (a : Option Addr) (b : Option Addr) (cap2 : Nat) (i2 : List Nat), H1 = ids0.foldl (fun H p => H.set p.1 p.2) H →
      SimH A φ H1 w → Onward A φ H w φ H1 w → H1.length = H.length → vx = .slice a 0 0 → vy = .slice b 0 cap2 → d.len = 0 → s.len = 0 → d.all = [] → s.all = [] →
      (Builtin.firstCells i.size 0 vy).run P w = .ok #[] w →
      k ⟨.ref nw i.size 0 (d.len + s.len) true, ids0 ++ [(nw, joinV i.size d s)], i2⟩ →
      ∃ (w' : World) (v : Value) (zv : AV) (φ' : Nat → Option (Nat × Nat)) (ups : List (Nat × HO)) (ids : List Nat), (Builtin.append_ argTypes T #[vx, vy]).run P w = .ok v w' ∧
        SimH A φ' (ups.foldl (fun H p => H.set p.1 p.2) H) w' ∧ Onward A φ H w φ' (ups.foldl (fun H p => H.set p.1 p.2) H) w' ∧
        Rel φ' (Mb A φ' (ups.foldl (fun H p => H.set p.1 p.2) H)) w' zv v ∧ k ⟨zv, ups, ids⟩ ∧ ∀ j, j ≠ nw → φ' j = φ j := by
    intro H1 ids0 d s a b cap2 i2 hH1 hs1 hon1 hl1 e1 e2 hd0 hs0 hda hsa hf hk
    have hrun := runIn a 0 0 0 b cap2 #[] w e1 e2 (Nat.le_refl _) hf (by cases a <;> simp [storeCells])
    obtain ⟨hs2, hon2⟩ := hs1.void (i := nw) (by rw [hl1]; exact hn) hφ (o := joinV i.size d s) (sz := i.size) (by rw [joinV_rows, hda, hsa]; rfl)
    have hfold : (ids0 ++ [(nw, joinV i.size d s)]).foldl (fun H p => H.set p.1 p.2) H = H1.set nw (joinV i.size d s) := by rw [List.foldl_append, ← hH1]; rfl
    refine ⟨w, _, .ref nw i.size 0 (d.len + s.len) true, φ, ids0 ++ [(nw, joinV i.size d s)], i2, hrun, by rw [hfold]; exact hs2, by rw [hfold]; exact hon1.trans hon2, ?_, hk, fun j hj => rfl⟩
    rw [hd0, hs0]
    exact .ref0 _ _ _ _ _
  unfold actAppend at h
  split at h
  · rename_i id sz0 row len room
    obtain ⟨d, i1, s, i2, rfl, hd, hsrc, hrow, hleaf, hroom, hk⟩ := h
    obtain ⟨hsk, honk⟩ := hs.kill id
    have hdlen : d.len = len ∧ ∃ rows, (H.at id).rows = some (i.size, rows) ∧ row + len ≤ rows.length ∧ d.all = (rows.drop row).take len := by
      simp only [srcOf] at hd
      split at hd
      · rename_i sz2 rows hat
        split at hd
        · rename_i hc
          simp only [Option.some.injEq, Prod.mk.injEq] at hd
          obtain ⟨rfl, _⟩ := hd
          obtain ⟨_, rfl, e3⟩ := hc
          exact ⟨by simp [Src.len]; omega, rows, by rw [hat]; rfl, e3, rfl⟩
        · cases hd
      · rename_i sz2 rows hat
        split at hd
        · rename_i hc
          simp only [Option.some.injEq, Prod.mk.injEq] at hd
          obtain ⟨rfl, _⟩ := hd
          obtain ⟨_, rfl, e3⟩ := hc
          exact ⟨by simp [Src.len]; omega, _, by rw [hat]; rfl, by simpa using e3, by simp [Src.all, List.map_drop, List.map_take]⟩
        · cases hd
      · cases hd
    obtain ⟨hdl, rows, hro, hfitr, hdall⟩ := hdlen
    have hrd : ∀ r ∈ d.all, r.length = i.size := by
      intro r hr
      rw [hdall] at hr
      have hr' := List.mem_of_mem_drop (List.mem_of_mem_take hr)
      obtain ⟨b, o, hb⟩ := hs.there id i.size rows hro (fun h0 => by rw [h0] at hr'; simp at hr')
      obtain ⟨c, T', e1, e2, e3, e4⟩ := hs.objs id b o (HO.alive_rows.2 ⟨_, _, hro⟩) hb i.size rows hro
      exact e3 r hr'
    obtain ⟨as, caps, vs, es, gs, fs⟩ := src_run (P := P) hs hy hsrc hrow
    have hleaf' : ∀ r ∈ s.all, ∀ z ∈ r, AV.leaf z = true := by
      intro r hr z hz
      cases s with
      | rows l => exact List.all_eq_true.1 (List.all_eq_true.1 hleaf r hr) z hz
      | drows l =>
        simp only [Src.all, List.mem_map] at hr
        obtain ⟨r', _, rfl⟩ := hr
        simp only [List.mem_map] at hz
        obtain ⟨z', _, rfl⟩ := hz
        rfl
    have hlk : (H.set id .dead).length = H.length := by simp
    cases hx with
    | ref0 _ _ _ _ a =>
      by_cases hz : s.len = 0
      · refine finVoid (H.set id .dead) [(id, .dead)] d s a as caps i2 rfl hsk honk hlk rfl (by rw [es, hz]) hdl hz (by rw [hdall]; simp) ?_ ?_ hk
        · exact List.eq_nil_of_length_eq_zero (by rw [← srcOf_len hsrc]; exact hz)
        · have := fs 0 (Nat.zero_le _); simpa using this
      · obtain ⟨hsk2, honk2⟩ := hsd.kill id
        exact finNew (H.set id .dead) [(id, .dead)] d s a 0 as caps i2 rfl hsk2 honk2 hlk (by rw [hdl]) es (by omega) hroom hrd hrow ⟨i1, hd⟩ hsrc hk
    | ref _ _ _ _ b o cap _ c T' hb hcap hroom' hheap hfit =>
      by_cases hle : len + s.len ≤ cap
      · -- in place
        have hal : (H.at id).alive := HO.alive_rows.2 ⟨_, _, hro⟩
        obtain ⟨c1, T1, e1, e2, e3, e4⟩ := hs.objs id b o hal hb i.size rows hro
        rw [hheap] at e1; cases e1
        have hvl : vs.length = s.len * i.size := by rw [gs.len, srcOf_len hsrc]
        have m1 := Nat.mul_le_mul_right i.size hle
        rw [Nat.add_mul] at m1 hfit
        have hst := run_storeCells (P := P) vs w b (o + row * i.size + len * i.size) 0 c T' hheap (by omega) (gs.one hleaf')
        have hrun := runIn _ len cap s.len as caps (vs.take (s.len * i.size)).toArray _ rfl es hle (fs s.len (Nat.le_refl _)) (by
          simp only [addr_add]
          rw [List.take_of_length_le (by omega)]
          exact hst)
        obtain ⟨hs2, hon2⟩ := hs.move hal hb hn hφ (o2 := o + row * i.size) hheap (c' := arrPut c (o + row * i.size + len * i.size + 0) vs) (arrPut_size _ _ _) (joinV_rows i.size d s)
          (by
            rw [List.length_append, ← srcOf_len hd, ← srcOf_len hsrc, hdl, Nat.add_mul]
            omega)
          (fun r hr => by
            rcases List.mem_append.1 hr with hr | hr
            · exact hrd r hr
            · exact hrow r hr)
          (fun kk q j z hq hz => by
            rw [List.getElem?_append] at hq
            rw [← srcOf_len hd, hdl] at hq
            have hj : j < i.size := by
              have := lt_of_get hz
              split at hq
              · rw [hrd q (List.mem_of_getElem? hq)] at this; exact this
              · rw [hrow q (List.mem_of_getElem? hq)] at this; exact this
            rw [arrPut_get _ _ _ _ (by omega)]
            split at hq
            · rename_i hlt
              have m2 := cell_lt hlt hj
              rw [if_neg (by omega)]
              rw [hdall, List.getElem?_take, if_pos hlt, List.getElem?_drop] at hq
              obtain ⟨v, hv, hrel⟩ := e4 (row + kk) q j z hq hz
              refine ⟨v, ?_, hrel⟩
              rw [Nat.add_mul, ← Nat.add_assoc] at hv
              exact hv
            · rename_i hge
              obtain ⟨v, hv, hrel⟩ := gs.get (kk - len) q j z hq hz
              have m2 := lt_of_get hv
              have m3 := Nat.mul_le_mul_right i.size (show len ≤ kk by omega)
              rw [Nat.sub_mul] at hv m2
              rw [if_pos (by omega), show o + row * i.size + kk * i.size + j - (o + row * i.size + len * i.size + 0) = kk * i.size - len * i.size + j by omega]
              exact ⟨v, hv, hrel⟩)
        refine ⟨_, _, .ref nw i.size 0 (d.len + s.len) true, _, [(id, .dead), (nw, joinV i.size d s)], i2, hrun, hs2, hon2, ?_, hk, fun j hj => by simp [hj]⟩
        have hlt := (hs.dom id b o hb).2
        have := Rel.ref (φ := fun j => if j = nw then some (b, o + row * i.size) else φ j) (M := Mb A (fun j => if j = nw then some (b, o + row * i.size) else φ j) ([(id, HO.dead), (nw, joinV i.size d s)].foldl (fun H p => H.set p.1 p.2) H))
          (w := World.setBlock w b (arrPut c (o + row * i.size + len * i.size + 0) vs) T') nw i.size 0 (d.len + s.len) b (o + row * i.size) cap true
          (arrPut c (o + row * i.size + len * i.size + 0) vs) T' (by simp) (by omega) (fun hf => by cases hf) (setBlock_at w b _ T' hlt) (by rw [arrPut_size, Nat.zero_add]; omega)
        simpa [hdl] using this
      · obtain ⟨hsk2, honk2⟩ := hsd.kill id
        exact finNew (H.set id .dead) [(id, .dead)] d s _ cap as caps i2 rfl hsk2 honk2 hlk (by rw [hdl]) es (by omega) hroom hrd hrow ⟨i1, hd⟩ hsrc hk
  · rename_i rows
    obtain ⟨s, i2, hsrc, hrd, hrow, hleaf, hor, hroom, hk⟩ := h
    obtain ⟨as, caps, vs, es, gs, fs⟩ := src_run (P := P) hs hy hsrc hrow
    have hrd' : ∀ r ∈ (Src.drows rows).all, r.length = i.size := by
      intro r hr
      simp only [Src.all, List.mem_map] at hr
      obtain ⟨r', h', rfl⟩ := hr
      simpa using hrd r' h'
    obtain ⟨a, cap, ex, hcapx⟩ : ∃ a cap, vx = .slice a rows.length cap ∧ cap = rows.length := by
      cases hx with
      | d _ _ hx =>
        cases hx with
        | nil _ a cap hf => exact ⟨a, cap, rfl, hf rfl⟩
        | list _ _ sz' b off cap f hb hM hsz' hcap hfull hc hr => exact ⟨_, cap, rfl, hfull rfl⟩
    by_cases hz : s.len = 0
    · have hre : rows = [] := by
        rcases hor with h0 | h0
        · exact h0
        · omega
      subst hre
      have hcap0 : cap = 0 := hcapx
      subst hcap0
      refine finVoid H [] (.drows []) s a as caps i2 rfl hs ⟨fun _ _ h => h, Pres.refl _ _, fun b hb => .inl hb⟩ rfl ex (by rw [es, hz]) rfl hz rfl ?_ ?_ hk
      · exact List.eq_nil_of_length_eq_zero (by rw [← srcOf_len hsrc]; exact hz)
      · have := fs 0 (Nat.zero_le _); simpa using this
    · exact finNew H [] (.drows rows) s a cap as caps i2 rfl hsd ⟨fun _ _ h => h, Pres.refl _ _, fun b hb => .inl hb⟩ rfl ex es (by rw [hcapx]; show rows.length < rows.length + s.len; omega) hroom hrd' hrow ⟨[], rfl⟩ hsrc hk
  · exact h.elim

end
end Go.Ago
