/- Runs of loads, stores, addresses, slices: what the world does, and what the abstract heap does. Conditions: none. -/
import Derived.Test.YtlphhmgfjdecjaaAgo8
set_option linter.unusedSimpArgs false
set_option linter.unusedVariables false
namespace Go.Ago

section
variable {A : Nat → Prop} {φ : Nat → Option (Nat × Nat)} {H : Heap} {w : World} {P : Program}

theorem HO.row_rows {o : HO} {sz row : Nat} {r : List AV} (h : o.row sz row = some r) : ∃ rows, o.rows = some (sz, rows) ∧ rows[row]? = some r := by
  cases o with
  | dead => cases h
  | vec sz' rows =>
    simp only [HO.row] at h
    split at h
    · subst_vars; exact ⟨rows, rfl, h⟩
    · cases h
  | dvec sz' rows =>
    simp only [HO.row] at h
    split at h
    · subst_vars; exact ⟨_, rfl, by simpa using h⟩
    · cases h

theorem HO.row_some {o : HO} {sz row : Nat} {rows : List (List AV)} (h : o.rows = some (sz, rows)) : o.row sz row = rows[row]? := by
  cases o with
  | dead => cases h
  | vec sz' rows' => simp only [HO.rows, Option.some.injEq, Prod.mk.injEq] at h; obtain ⟨rfl, rfl⟩ := h; simp [HO.row]
  | dvec sz' rows' => simp only [HO.rows, Option.some.injEq, Prod.mk.injEq] at h; obtain ⟨rfl, rfl⟩ := h; simp [HO.row]

/-- The cells of one row of ours, as they lie in memory. -/
theorem row_cells (hs : SimH A φ H w) {id sz row b o : Nat} {r : List AV} (hr : (H.at id).row sz row = some r) (hb : φ id = some (b, o)) :
    ∃ c T, w.heap[b]? = some (.cells c T (0, 0)) ∧ r.length = sz ∧ o + (row + 1) * sz ≤ c.size ∧ RelL φ (Mb A φ H) w r ((c.toList.drop (o + row * sz)).take sz) := by
  obtain ⟨rows, h1, h2⟩ := HO.row_rows hr
  obtain ⟨c, T, e1, e2, e3, e4⟩ := hs.objs id b o (HO.alive_rows.2 ⟨_, _, h1⟩) hb sz rows h1
  have hrow : row < rows.length := by
    rcases Nat.lt_or_ge row rows.length with hl | hl
    · exact hl
    · rw [List.getElem?_eq_none hl] at h2; cases h2
  have hlen := e3 r (List.mem_of_getElem? h2)
  have hfit : o + (row + 1) * sz ≤ c.size := by
    have : (row + 1) * sz ≤ rows.length * sz := Nat.mul_le_mul_right _ hrow
    omega
  refine ⟨c, T, e1, hlen, hfit, ?_, fun i x v hx hv => ?_⟩
  · rw [Nat.add_mul] at hfit
    simp; omega
  · obtain ⟨u, hu, hrel⟩ := e4 row r i x h2 hx
    rw [List.getElem?_take] at hv
    split at hv
    · rw [List.getElem?_drop] at hv
      have : c[o + row * sz + i]? = some v := by rw [← Array.getElem?_toList]; exact hv
      rw [hu] at this; cases this; exact hrel
    · cases hv

theorem loadRow_rel {r : List AV} {vs : List Value} {M : Nat → Prop} (h : RelL φ M w r vs) {g : Bool} {sz j : Nat} {x : AV} (hl : loadRow g sz j r = some x) :
    (g = true ∧ j + sz ≤ r.length ∧ Rel φ M w x (.agg ((vs.drop j).take sz).toArray)) ∨ (g = false ∧ ∃ v, vs[j]? = some v ∧ Rel φ M w x v) := by
  unfold loadRow at hl
  cases g with
  | true =>
    simp only [if_true] at hl
    split at hl
    · simp only [Option.some.injEq] at hl; subst hl
      rename_i hj
      exact .inl ⟨rfl, hj, ((h.drop j).take sz).agg⟩
    · cases hl
  | false =>
    simp only [Bool.false_eq_true, if_false] at hl
    obtain ⟨v, hv, hr⟩ := h.at hl
    exact .inr ⟨rfl, v, hv, hr⟩

/-- A read of cells whose values are known. -/
theorem run_loadAt {t : TypeId} {g : Bool} {sz b q : Nat} (hg : lowAgg P t = some g) (hsz : lowSz P t = some sz) {M : Nat → Prop} {r : List AV} {vs : List Value} (h : RelL φ M w r vs)
    (hc : ∀ j v, vs[j]? = some v → w.cell? ⟨b, q + j, none⟩ = some v) {j : Nat} {x : AV} (hl : loadRow g sz j r = some x) :
    ∃ v, (Instr.loadAt t (.pointer (some ⟨b, q + j, none⟩))).run P w = .ok v w ∧ Rel φ M w x v := by
  rcases loadRow_rel h hl with ⟨rfl, hj, hr⟩ | ⟨rfl, v, hv, hr⟩
  · refine ⟨_, ?_, hr⟩
    have hlen : ((vs.drop j).take sz).length = sz := by have := h.len; simp; omega
    simp only [Instr.loadAt, Instr.sureAddr, pure_bind]
    refine run_loadVar_agg hg _ (by rw [hlen]; exact hsz) (fun i v hv => ?_)
    rw [List.getElem?_take] at hv
    split at hv
    · rw [List.getElem?_drop] at hv
      have := hc (j + i) v hv
      rwa [← Nat.add_assoc] at this
    · cases hv
  · refine ⟨v, ?_, hr⟩
    simp only [Instr.loadAt, Instr.sureAddr, pure_bind]
    exact run_loadVar_one hg (hc j v hv)

theorem run_load_op (hs : SimH A φ H w) {t : TypeId} {g : Bool} {sz : Nat} (hg : lowAgg P t = some g) (hsz : lowSz P t = some sz) {x : AV} {vx : Value}
    (hx : Rel φ (Mb A φ H) w x vx) {k : Delta → Prop} (h : actLoad H g sz x k) : ∃ v z ids, (Instr.loadAt t vx).run P w = .ok v w ∧ Rel φ (Mb A φ H) w z v ∧ k ⟨z, [], ids⟩ := by
  unfold actLoad at h
  split at h
  · rename_i id sz0 row j
    obtain ⟨r, hr, z, hz, hk⟩ := h
    cases hx with
    | ptr _ _ _ _ b o hb =>
      obtain ⟨c, T, e1, e2, e3, e4⟩ := row_cells hs hr hb
      obtain ⟨v, h1, h2⟩ := run_loadAt (P := P) hg hsz e4 (b := b) (q := o + row * sz0) (fun i v hv => by
        rw [cell_block e1]
        rw [List.getElem?_take] at hv
        split at hv
        · rw [List.getElem?_drop] at hv
          rw [← Array.getElem?_toList]; exact hv
        · cases hv) hz
      exact ⟨v, z, _, h1, h2, hk⟩
  · rename_i cs j
    obtain ⟨z, hz, hk⟩ := h
    cases hx with
    | dptr _ _ b off f hlt hM hc hr =>
      rw [← loadRowD_eq] at hz
      have hrl : RelL φ (Mb A φ H) w (cs.map .d) ((List.range cs.length).map f) := by
        refine ⟨by simp, fun i x v hx hv => ?_⟩
        simp only [List.getElem?_map, Option.map_eq_some_iff] at hx hv
        obtain ⟨y, hy, rfl⟩ := hx
        obtain ⟨i', hi', rfl⟩ := hv
        rw [List.getElem?_range] at hi'
        · cases hi'; exact .d _ _ (hr i y hy)
        · rcases Nat.lt_or_ge i cs.length with hl | hl
          · exact hl
          · rw [List.getElem?_eq_none hl] at hy; cases hy
      obtain ⟨v, h1, h2⟩ := run_loadAt (P := P) hg hsz hrl (b := b) (q := off) (fun i v hv => by
        simp only [List.getElem?_map, Option.map_eq_some_iff] at hv
        obtain ⟨i', hi', rfl⟩ := hv
        have hlt' : i < cs.length := by
          rcases Nat.lt_or_ge i cs.length with hl | hl
          · exact hl
          · rw [List.getElem?_eq_none (by simpa using hl)] at hi'; cases hi'
        rw [List.getElem?_range hlt'] at hi'
        cases hi'
        exact hc i cs[i] (List.getElem?_eq_getElem hlt')) hz
      exact ⟨v, z, _, h1, h2, hk⟩
  · exact h.elim

theorem putRow_get {α : Type} (j : Nat) (cs r : List α) (h : j + cs.length ≤ r.length) (i : Nat) :
    (putRow j cs r)[i]? = if j ≤ i ∧ i < j + cs.length then cs[i - j]? else r[i]? := by
  unfold putRow
  rw [List.append_assoc, List.getElem?_append]
  simp only [List.length_take, Nat.min_eq_left (show j ≤ r.length by omega)]
  by_cases h1 : i < j
  · rw [if_pos h1, if_neg (by omega), List.getElem?_take, if_pos h1]
  · rw [if_neg h1, List.getElem?_append]
    by_cases h2 : i - j < cs.length
    · rw [if_pos h2, if_pos (by omega)]
    · rw [if_neg h2, if_neg (by omega), List.getElem?_drop]
      congr 1; omega

theorem HO.put_rows {o o' : HO} {sz row j : Nat} {cs : List AV} {rows : List (List AV)} (h : o.rows = some (sz, rows)) (hp : o.put row j cs = some o') :
    ∃ r, rows[row]? = some r ∧ j + cs.length ≤ sz ∧ o'.rows = some (sz, rows.set row (putRow j cs r)) := by
  cases o with
  | dead => cases h
  | vec sz' rows' =>
    simp only [HO.rows, Option.some.injEq, Prod.mk.injEq] at h; obtain ⟨rfl, rfl⟩ := h
    simp only [HO.put, Option.bind_eq_some_iff] at hp
    obtain ⟨r, h1, h2⟩ := hp
    split at h2
    · cases h2; exact ⟨r, h1, by assumption, rfl⟩
    · cases h2
  | dvec sz' rows' =>
    simp only [HO.rows, Option.some.injEq, Prod.mk.injEq] at h; obtain ⟨rfl, rfl⟩ := h
    simp only [HO.put, Option.bind_eq_some_iff] at hp
    obtain ⟨r, h1, ds, h3, h2⟩ := hp
    split at h2
    · cases h2
      refine ⟨r.map .d, by simp [h1], by assumption, ?_⟩
      have hds := dcells_map _ _ h3
      subst hds
      simp [HO.rows, List.map_set, putRow, List.map_take, List.map_drop]
    · cases h2

theorem run_store_op (hs : SimH A φ H w) {t : TypeId} {sz : Nat} (hsz : lowSz P t = some sz) {x y : AV} {vx vy : Value} (hx : Rel φ (Mb A φ H) w x vx)
    (hy : Rel φ (Mb A φ H) w y vy) {k : Delta → Prop} (h : actStore H sz x y k) :
    ∃ w' id o, (Instr.storeAt t vx vy).run P w = .ok () w' ∧ SimH A φ (H.set id o) w' ∧ Onward A φ H w φ (H.set id o) w' ∧ k ⟨.tup [], [(id, o)], []⟩ := by
  unfold actStore at h
  split at h
  · rename_i id sz0 row j
    obtain ⟨cs, h1, h2, ⟨r0, h3⟩, o', h4, hk⟩ := h
    cases hx with
    | ptr _ _ _ _ b o hb =>
      obtain ⟨hrl, hone, hleaf⟩ := cellsOf_rel hy h1
      obtain ⟨rows, g1, g2⟩ := HO.row_rows h3
      obtain ⟨r, g3, g4, g5⟩ := HO.put_rows g1 h4
      rw [g2] at g3; cases g3
      have hal : (H.at id).alive := HO.alive_rows.2 ⟨_, _, g1⟩
      obtain ⟨c, T, e1, e2, e3, e4⟩ := hs.objs id b o hal hb sz0 rows g1
      have hrow : row < rows.length := by
        rcases Nat.lt_or_ge row rows.length with hl | hl
        · exact hl
        · rw [List.getElem?_eq_none hl] at g2; cases g2
      have hr0 := e3 r0 (List.mem_of_getElem? g2)
      have hcs : vy.cells.size = cs.length := by have := hrl.len; simpa using this
      have hfit : (row + 1) * sz0 ≤ rows.length * sz0 := Nat.mul_le_mul_right _ hrow
      rw [Nat.add_mul] at hfit
      have hrun := run_storeVar (P := P) (t := t) (w := w) (b := b) (o := o + row * sz0 + j) (c := c) (T := T) (v := vy) (by rw [hcs, h2]; exact hsz) e1 (by omega) hone
      refine ⟨_, id, o', by simp only [Instr.storeAt, Instr.sureAddr, pure_bind]; exact hrun, ?_⟩
      have hch := hs.change hal hb e1 (c' := arrPut c (o + row * sz0 + j) vy.cells.toList) (arrPut_size _ _ _) g5 (by simpa using e2) (fun q hq => by
        rcases List.mem_or_eq_of_mem_set hq with hq | hq
        · exact e3 q hq
        · subst hq; simp [putRow]; omega) (fun kk q i z hq hz => by
          rw [arrPut_get _ _ _ _ (by simp only [Array.length_toList]; omega)]
          simp only [Array.length_toList]
          rw [List.getElem?_set] at hq
          by_cases hkk : row = kk
          · subst hkk
            rw [if_pos rfl, if_pos hrow] at hq
            cases hq
            rw [putRow_get _ _ _ (by omega)] at hz
            by_cases hin : j ≤ i ∧ i < j + cs.length
            · rw [if_pos hin] at hz
              rw [if_pos (by omega), show o + row * sz0 + i - (o + row * sz0 + j) = i - j by omega]
              exact hrl.at hz
            · rw [if_neg hin] at hz
              rw [if_neg (by omega)]
              exact e4 row r0 i z g2 hz
          · rw [if_neg hkk] at hq
            have hi : i < sz0 := by
              have := e3 q (List.mem_of_getElem? hq)
              rcases Nat.lt_or_ge i q.length with hl | hl
              · omega
              · rw [List.getElem?_eq_none hl] at hz; cases hz
            have hnot : ¬ (o + row * sz0 + j ≤ o + kk * sz0 + i ∧ o + kk * sz0 + i < o + row * sz0 + j + vy.cells.size) := by
              rcases Nat.lt_or_gt_of_ne hkk with hlt | hgt
              · have := Nat.mul_le_mul_right sz0 hlt
                rw [Nat.succ_mul] at this
                omega
              · have := Nat.mul_le_mul_right sz0 hgt
                rw [Nat.succ_mul] at this
                omega
            rw [if_neg hnot]
            exact e4 kk q i z hq hz)
      exact ⟨hch.1, hch.2, hk⟩
  · exact h.elim

end
end Go.Ago
