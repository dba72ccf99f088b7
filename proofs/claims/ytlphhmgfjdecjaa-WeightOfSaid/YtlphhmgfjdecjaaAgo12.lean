/- Runs of what builds values and rows, of copy, len, min, max, and of comparisons. Conditions: none. -/
import Derived.Test.YtlphhmgfjdecjaaAgo11
import Derived.Laws.StructEq
import Derived.ChangeKeysEq
import Derived.IntWalk
set_option linter.unusedSimpArgs false
set_option linter.unusedVariables false
namespace Go.Ago
open Go.IntWalk

section
variable {A : Nat → Prop} {φ : Nat → Option (Nat × Nat)} {M : Nat → Prop} {H : Heap} {w : World} {P : Program}

theorem zip_fold : ∀ (l : List Value) (k off : Nat) (c : Array Value), (l.zipIdx k).foldl (fun cs p => cs.setIfInBounds (off + p.2) p.1) c = arrPut c (off + k) l := by
  intro l
  induction l with
  | nil => intro k off c; rfl
  | cons v l ih => intro k off c; simp only [List.zipIdx_cons, List.foldl_cons, arrPut]; rw [ih]; rfl

theorem zip_fold_arr (v : Array Value) (off : Nat) (c : Array Value) : v.zipIdx.foldl (fun cs (x : Value × Nat) => cs.setIfInBounds (off + x.2) x.1) c = arrPut c off v.toList := by
  rw [← Array.foldl_toList, Array.toList_zipIdx]
  exact zip_fold v.toList 0 off c

theorem arrPut_list (c : Array Value) (o : Nat) (vs : List Value) (h : o + vs.length ≤ c.size) : (arrPut c o vs).toList = putRow o vs c.toList := by
  apply List.ext_getElem?
  intro i
  have e1 := arrPut_get vs c o i h
  have e2 := putRow_get o vs c.toList (by simpa using h) i
  rw [Array.getElem?_toList, e1, e2]
  split
  · rfl
  · rw [Array.getElem?_toList]

theorem run_fill_build {place : Nat → Option (Nat × Nat)} : ∀ (ps : List (Nat × Nat × AV)) (parts : List (Nat × Value)) (cells : List AV) (c : Array Value) (cs : List AV),
    parts.length = ps.length → (∀ (j : Nat) (p : Nat × Nat × AV) (q : Nat × Value), ps[j]? = some p → parts[j]? = some q → place q.1 = some (p.1, p.2.1) ∧ Rel φ M w p.2.2 q.2) →
    RelL φ M w cells c.toList → buildA cells ps = some cs → ∃ c', Instr.fill place c parts = some c' ∧ RelL φ M w cs c'.toList := by
  intro ps
  induction ps with
  | nil =>
    intro parts cells c cs hl hp hr hb
    have : parts = [] := List.eq_nil_of_length_eq_zero hl
    subst this
    simp [buildA] at hb; subst hb
    exact ⟨c, rfl, hr⟩
  | cons p ps ih =>
    intro parts cells c cs hl hp hr hb
    cases parts with
    | nil => simp at hl
    | cons q parts =>
      obtain ⟨off, size, x⟩ := p
      obtain ⟨i, v⟩ := q
      obtain ⟨hpl, hrel⟩ := hp 0 _ _ rfl rfl
      simp only at hpl hrel
      simp only [buildA, Option.bind_eq_some_iff] at hb
      obtain ⟨xs, hx, hb⟩ := hb
      split at hb
      · rename_i hc
        obtain ⟨hrl, hone, hleaf⟩ := cellsOf_rel hrel hx
        have hvs : v.cells.size = size := by have := hrl.len; simp at this; omega
        have hcs : c.size = cells.length := by have := hr.len; simpa using this
        have hput : RelL φ M w (putRow off xs cells) (arrPut c off v.cells.toList).toList := by
          rw [arrPut_list _ _ _ (by simp; omega)]
          exact hr.putRow hrl off
        obtain ⟨c', h1, h2⟩ := ih parts _ _ cs (by simpa using hl) (fun j p q h1 h2 => hp (j + 1) p q (by simpa using h1) (by simpa using h2)) hput hb
        refine ⟨c', ?_, h2⟩
        simp only [Instr.fill, hpl]
        rw [if_neg (by simp; omega)]
        rw [zip_fold_arr]
        exact h1
      · cases hb

theorem lowParts_get {fs : Array Field} : ∀ (l : List (Nat × Operand)) (ps : List (Nat × Nat × Opd)), lowParts P fs l = some ps → ps.length = l.length ∧
    ∀ (j : Nat) (p : Nat × Nat × Opd) (q : Nat × Operand), ps[j]? = some p → l[j]? = some q → ∃ f, fs[q.1]? = some f ∧ f.offset = p.1 ∧ lowSz P f.type = some p.2.1 ∧ lowOpd q.2 = some p.2.2 := by
  intro l
  induction l with
  | nil => intro ps h; simp [lowParts] at h; subst h; simp
  | cons q l ih =>
    intro ps h
    obtain ⟨i, x⟩ := q
    simp only [lowParts, Option.bind_eq_some_iff, Option.map_eq_some_iff] at h
    obtain ⟨f, h1, sz, h2, y, h3, ps', h4, rfl⟩ := h
    obtain ⟨e1, e2⟩ := ih ps' h4
    refine ⟨by simp [e1], fun j => ?_⟩
    cases j with
    | zero => intro p q hp hq; simp at hp hq; subst hp; subst hq; exact ⟨f, h1, rfl, h2, h3⟩
    | succ j => intro p q hp hq; simp at hp hq; exact e2 j p q hp hq

theorem lowPartsA_get {sz : Nat} : ∀ (l : List (Nat × Operand)) (ps : List (Nat × Nat × Opd)), lowPartsA sz l = some ps → ps.length = l.length ∧
    ∀ (j : Nat) (p : Nat × Nat × Opd) (q : Nat × Operand), ps[j]? = some p → l[j]? = some q → p.1 = q.1 * sz ∧ p.2.1 = sz ∧ lowOpd q.2 = some p.2.2 := by
  intro l
  induction l with
  | nil => intro ps h; simp [lowPartsA] at h; subst h; simp
  | cons q l ih =>
    intro ps h
    obtain ⟨i, x⟩ := q
    simp only [lowPartsA, Option.bind_eq_some_iff, Option.map_eq_some_iff] at h
    obtain ⟨y, h3, ps', h4, rfl⟩ := h
    obtain ⟨e1, e2⟩ := ih ps' h4
    refine ⟨by simp [e1], fun j => ?_⟩
    cases j with
    | zero => intro p q hp hq; simp at hp hq; subst hp; subst hq; exact ⟨rfl, rfl, h3⟩
    | succ j => intro p q hp hq; simp at hp hq; exact e2 j p q hp hq

theorem lowPartsS_get : ∀ (l : List (Nat × Operand)) (ps : List (Nat × Opd)), lowPartsS l = some ps → ps.length = l.length ∧
    ∀ (j : Nat) (p : Nat × Opd) (q : Nat × Operand), ps[j]? = some p → l[j]? = some q → p.1 = q.1 ∧ lowOpd q.2 = some p.2 := by
  intro l
  induction l with
  | nil => intro ps h; simp [lowPartsS] at h; subst h; simp
  | cons q l ih =>
    intro ps h
    obtain ⟨i, x⟩ := q
    simp only [lowPartsS, Option.bind_eq_some_iff, Option.map_eq_some_iff] at h
    obtain ⟨y, h3, ps', h4, rfl⟩ := h
    obtain ⟨e1, e2⟩ := ih ps' h4
    refine ⟨by simp [e1], fun j => ?_⟩
    cases j with
    | zero => intro p q hp hq; simp at hp hq; subst hp; subst hq; exact ⟨rfl, h3⟩
    | succ j => intro p q hp hq; simp at hp hq; exact e2 j p q hp hq

theorem run_mapM_fields {fs : Array Field} (h : fs.all (fun f => (lowSz P f.type).isSome) = true) :
    (fs.mapM fun f => (do pure (f.offset, ← sizeOf f.type) : Sem (Nat × Nat))).run P w = .ok (fs.map fun f => (f.offset, (lowSz P f.type).getD 0)) w := by
  have hl : ∀ l : List Field, (∀ f ∈ l, (lowSz P f.type).isSome = true) →
      (l.mapM fun f => (do pure (f.offset, ← sizeOf f.type) : Sem (Nat × Nat))).run P w = .ok (l.map fun f => (f.offset, (lowSz P f.type).getD 0)) w := by
    intro l
    induction l with
    | nil => intro _; simp
    | cons f l ih =>
      intro hf
      obtain ⟨n, hn⟩ := Option.isSome_iff_exists.1 (hf f (by simp))
      simp only [List.mapM_cons, Sem.run_bind, run_sizeOf hn, Result.andThen_ok, Sem.run_pure, ih (fun g hg => hf g (by simp [hg])), List.map_cons, hn, Option.getD_some]
  rw [Array.mapM_eq_mapM_toList]
  simp only [Sem.run_map]
  rw [hl fs.toList (fun f hf => by have := Array.all_eq_true_iff_forall_mem.1 h f (by simpa using hf); exact this)]
  simp only [Result.andThen]
  congr 1
  apply Array.ext'
  simp

theorem run_build_struct {t : TypeId} {fs : Array Field} (h1 : P.underlying t = some (.struct fs)) {z : List AV} (hz : zeroA P t = some z) (hall : fs.all (fun f => (lowSz P f.type).isSome) = true)
    {parts : List (Nat × Value)} {ps : List (Nat × Nat × AV)} (hl : parts.length = ps.length)
    (hp : ∀ (j : Nat) (p : Nat × Nat × AV) (q : Nat × Value), ps[j]? = some p → parts[j]? = some q → (∃ f, fs[q.1]? = some f ∧ f.offset = p.1 ∧ lowSz P f.type = some p.2.1) ∧ Rel φ M w p.2.2 q.2)
    {cs : List AV} (hb : buildA z ps = some cs) : ∃ v, (Instr.build t parts.toArray).run P w = .ok v w ∧ Rel φ M w (.agg cs) v := by
  obtain ⟨i, zv, z1, z2, z3, z4, z5, z6⟩ := zeroA_spec hz
  obtain ⟨c', e1, e2⟩ := run_fill_build (φ := φ) (M := M) (w := w) (place := ((fs.map fun f => (f.offset, (lowSz P f.type).getD 0))[·]?)) ps parts z zv.cells cs hl (fun j p q h1 h2 => by
    obtain ⟨⟨f, g1, g2, g3⟩, g4⟩ := hp j p q h1 h2
    refine ⟨?_, g4⟩
    simp [g1, g2, g3]) (z4 φ M w) hb
  refine ⟨_, ?_, e2.agg'⟩
  simp only [Instr.build, Sem.run_bind, run_zeroValue z1 z2, Result.andThen_ok, run_underlying h1, run_mapM_fields hall]
  simp only [e1, Sem.run_pure]

theorem run_build_array {t e : TypeId} {n sz : Nat} (h1 : P.underlying t = some (.array n e)) {z : List AV} (hz : zeroA P t = some z) (hsz : lowSz P e = some sz)
    {parts : List (Nat × Value)} {ps : List (Nat × Nat × AV)} (hl : parts.length = ps.length)
    (hp : ∀ (j : Nat) (p : Nat × Nat × AV) (q : Nat × Value), ps[j]? = some p → parts[j]? = some q → (p.1 = q.1 * sz ∧ p.2.1 = sz) ∧ Rel φ M w p.2.2 q.2)
    {cs : List AV} (hb : buildA z ps = some cs) : ∃ v, (Instr.build t parts.toArray).run P w = .ok v w ∧ Rel φ M w (.agg cs) v := by
  obtain ⟨i, zv, z1, z2, z3, z4, z5, z6⟩ := zeroA_spec hz
  obtain ⟨c', e1, e2⟩ := run_fill_build (φ := φ) (M := M) (w := w) (place := (fun i => some (i * sz, sz))) ps parts z zv.cells cs hl (fun j p q h1 h2 => by
    obtain ⟨⟨g1, g2⟩, g4⟩ := hp j p q h1 h2
    exact ⟨by rw [g1, g2], g4⟩) (z4 φ M w) hb
  refine ⟨_, ?_, e2.agg'⟩
  simp only [Instr.build, Sem.run_bind, run_zeroValue z1 z2, Result.andThen_ok, run_underlying h1, run_sizeOf hsz]
  simp only [e1, Sem.run_pure]

/-- Rows that are all the zero row. -/
theorem zero_grid {z : List AV} {zv : Array Value} (h : RelL φ M w z zv.toList) (n : Nat) :
    Grid φ M w z.length (List.replicate n z) ((Array.range (n * z.length)).map fun i => zv[i % zv.size]!).toList := by
  have hzs : zv.size = z.length := by have := h.len; simpa using this
  refine ⟨by simp, fun r hr => by rw [(List.mem_replicate.1 hr).2], fun k r j x hk hx => ?_⟩
  rw [List.getElem?_replicate] at hk
  split at hk
  · rename_i hkn
    cases hk
    have hj := lt_of_get hx
    have hlt := cell_lt hkn hj
    obtain ⟨v, hv, hrel⟩ := h.at hx
    refine ⟨v, ?_, hrel⟩
    have e2 : (k * z.length + j) % zv.size = j := by rw [hzs, Nat.mul_comm, Nat.mul_add_mod, Nat.mod_eq_of_lt hj]
    rw [Array.getElem?_toList]
    rw [Array.getElem?_map]
    have : (Array.range (n * z.length))[k * z.length + j]? = some (k * z.length + j) := by simp [hlt]
    rw [this]
    simp only [Option.map_some, e2]
    rw [Array.getElem?_toList] at hv
    rw [getElem!_def, hv]
  · cases hk

theorem run_mk_op (hs : SimH A φ H w) {nw : Nat} (hn : nw < H.length) (hφ : φ nw = none) {t e : TypeId} {i : TypeInfo} {z : List AV} (h1 : P.underlying t = some (.slice e))
    (h3 : P.info? e = some i) (h4 : zeroA P e = some z) {x y : AV} {vx vy : Value} (hx : Rel φ (Mb A φ H) w x vx) (hy : Rel φ (Mb A φ H) w y vy) {k : Nat → Prop}
    (h : actMk i.size i.bytes z x y k) :
    ∃ (w' : World) (v : Value) (n : Nat), (Instr.makeSlice t vx vy).run P w = .ok v w' ∧ k n ∧
      SimH A (fun j => if j = nw then some (w.heap.size, 0) else φ j) (H.set nw (mkVec i.size (List.replicate n z))) w' ∧
      Onward A φ H w (fun j => if j = nw then some (w.heap.size, 0) else φ j) (H.set nw (mkVec i.size (List.replicate n z))) w' ∧
      Rel (fun j => if j = nw then some (w.heap.size, 0) else φ j) (Mb A (fun j => if j = nw then some (w.heap.size, 0) else φ j) (H.set nw (mkVec i.size (List.replicate n z)))) w' (.ref nw i.size 0 n true) v := by
  unfold actMk at h
  split at h
  · rename_i k1 n k2 m
    obtain ⟨h0, hnm, hroom, hk⟩ := h
    have e1 := hx.int_inv
    have e2 := hy.int_inv
    subst e1; subst e2
    obtain ⟨i', zv, z1, z2, z3, z4, z5, z6⟩ := zeroA_spec h4
    rw [h3] at z1; cases z1
    have hsz : lowSz P e = some i.size := by simp [lowSz, h3]
    obtain ⟨r1, r2⟩ := hroom
    have wn : IntKind.i64.wrap n = n := i64_in n (by omega)
    have wm : IntKind.i64.wrap m = m := i64_in m (by omega)
    have hbm : ¬ ((281474976710656 : Int) < (i.bytes : Int) * m) := by
      have : (i.bytes : Int) * m = ((m.toNat * i.bytes : Nat) : Int) := by
        rw [Int.natCast_mul, Int.toNat_of_nonneg (by omega), Int.mul_comm]
      rw [this]; omega
    have hbn : ¬ ((281474976710656 : Int) < (i.bytes : Int) * n) := by
      have h2 : (i.bytes : Int) * n ≤ (i.bytes : Int) * m := Int.mul_le_mul_of_nonneg_left hnm (Int.natCast_nonneg _)
      omega
    let c : Array Value := (Array.range (m.toNat * i.size)).map fun j => zv.cells[j % zv.cells.size]!
    have hrun : (Instr.makeSlice t (.int k1 n) (.int k2 m)).run P w = .ok (.slice (some ⟨w.heap.size, 0, none⟩) n.toNat m.toNat) (w.alloc (.cells c e)) := by
      have hlm : ¬ m < n := by omega
      have hn0 : ¬ n < 0 := by omega
      have hm0 : ¬ m < 0 := by omega
      by_cases hz0 : m.toNat * i.size = 0
      · have hc : c = #[] := by simp [c, hz0]
        have hz0' : (m ≤ 0 ∨ i.size = 0) := by
          rcases Nat.mul_eq_zero.1 hz0 with h | h
          · left; omega
          · exact .inr h
        simp [Instr.makeSlice, run_underlying h1, asInt, asIntOf, run_typeInfo h3, wn, wm, hm0, hn0, hlm, hbm, run_sizeOf hsz, newRow, hz0, hz0', hc]
        exact congrArg _ (by rw [Array.range_zero']; simp)
      · have hz0' : ¬ (m ≤ 0 ∨ i.size = 0) := fun h => hz0 (by
          rcases h with h | h
          · rw [show m.toNat = 0 by omega, Nat.zero_mul]
          · rw [h, Nat.mul_zero])
        simp [Instr.makeSlice, run_underlying h1, asInt, asIntOf, run_typeInfo h3, wn, wm, hm0, hn0, hlm, hbm, run_sizeOf hsz, newRow, hz0, hz0', run_zeroValue h3 z2, c]
    have g := zero_grid (z4 φ (Mb A φ H) w) m.toNat
    rw [← z3] at g
    have hrow : ∀ (k : Nat) (r : List AV), (List.replicate n.toNat z)[k]? = some r → (List.replicate m.toNat z)[k]? = some r := by
      intro k r hk
      rw [List.getElem?_replicate] at hk ⊢
      split at hk
      · rw [if_pos (by omega)]; exact hk
      · cases hk
    obtain ⟨hs2, hon2⟩ := hs.new hn hφ (mkVec_rows i.size (List.replicate n.toNat z)) (c := c) (T := e) (by
        have := Nat.mul_le_mul_right i.size (show n.toNat ≤ m.toNat by omega)
        simp [c]; exact this) (fun r hr => by rw [(List.mem_replicate.1 hr).2, z3]) (fun k r j x hk hx => by
        obtain ⟨v, hv, hrel⟩ := g.get k r j x (hrow k r hk) hx
        exact ⟨v, by rw [← Array.getElem?_toList]; exact hv, hrel⟩)
    refine ⟨_, _, n.toNat, hrun, hk, hs2, hon2, ?_⟩
    exact Rel.ref_head (φ := fun j => if j = nw then some (w.heap.size, 0) else φ j) (by simp) (by omega) (fun hf => by cases hf) (alloc_at w _) (by simp [c])
  · exact h.elim

/-! ### Literals of slices -/
theorem run_fill_rows {sz : Nat} : ∀ (ps : List (Nat × AV)) (parts : List (Nat × Value)) (rows : List (List AV)) (c : Array Value) (rows' : List (List AV)),
    parts.length = ps.length → (∀ (j : Nat) (p : Nat × AV) (q : Nat × Value), ps[j]? = some p → parts[j]? = some q → p.1 = q.1 ∧ Rel φ M w p.2 q.2) →
    Grid φ M w sz rows c.toList → buildR sz rows ps = some rows' → ∃ c', Instr.fill (fun i => some (i * sz, sz)) c parts = some c' ∧ c'.size = c.size ∧ Grid φ M w sz rows' c'.toList := by
  intro ps
  induction ps with
  | nil =>
    intro parts rows c rows' hl hp hr hb
    have : parts = [] := List.eq_nil_of_length_eq_zero hl
    subst this
    simp [buildR] at hb; subst hb
    exact ⟨c, rfl, rfl, hr⟩
  | cons p ps ih =>
    intro parts rows c rows' hl hp hr hb
    cases parts with
    | nil => simp at hl
    | cons q parts =>
      obtain ⟨i, x⟩ := p
      obtain ⟨i2, v⟩ := q
      obtain ⟨hpl, hrel⟩ := hp 0 _ _ rfl rfl
      simp only at hpl hrel
      subst hpl
      simp only [buildR, Option.bind_eq_some_iff] at hb
      obtain ⟨xs, hx, hb⟩ := hb
      split at hb
      · rename_i hc
        obtain ⟨hrl, hone, hleaf⟩ := cellsOf_rel hrel hx
        have hvs : v.cells.size = sz := by have := hrl.len; simp at this; omega
        have hcs : c.size = rows.length * sz := by have := hr.len; simpa using this
        have hfit : i * sz + sz ≤ c.size := by
          have := Nat.mul_le_mul_right sz (Nat.succ_le_of_lt hc.2)
          rw [Nat.succ_mul] at this
          omega
        have hg : Grid φ M w sz (rows.set i xs) (arrPut c (i * sz) v.cells.toList).toList := by
          refine ⟨by simp [arrPut_size, hcs], fun r hr' => ?_, fun k r j y hk hy => ?_⟩
          · rcases List.mem_or_eq_of_mem_set hr' with h | h
            · exact hr.row r h
            · rw [h]; exact hc.1
          · rw [Array.getElem?_toList, arrPut_get _ _ _ _ (by simp only [Array.length_toList]; omega)]
            simp only [Array.length_toList]
            rw [List.getElem?_set] at hk
            by_cases e : i = k
            · subst e
              rw [if_pos rfl, if_pos hc.2] at hk
              cases hk
              have hj := lt_of_get hy
              rw [if_pos (by omega), show i * sz + j - i * sz = j by omega]
              exact hrl.at hy
            · rw [if_neg e] at hk
              have hj : j < sz := by have := lt_of_get hy; rw [hr.row r (List.mem_of_getElem? hk)] at this; exact this
              have hnot : ¬ (i * sz ≤ k * sz + j ∧ k * sz + j < i * sz + v.cells.size) := by
                rcases Nat.lt_or_gt_of_ne e with hlt | hgt
                · have := Nat.mul_le_mul_right sz hlt
                  rw [Nat.succ_mul] at this
                  omega
                · have := Nat.mul_le_mul_right sz hgt
                  rw [Nat.succ_mul] at this
                  omega
              rw [if_neg hnot]
              obtain ⟨u, hu, hur⟩ := hr.get k r j y hk hy
              exact ⟨u, by rw [← Array.getElem?_toList]; exact hu, hur⟩
        obtain ⟨c', h1, h2, h3⟩ := ih parts _ _ rows' (by simpa using hl) (fun j p q h1 h2 => hp (j + 1) p q (by simpa using h1) (by simpa using h2)) hg hb
        refine ⟨c', ?_, by rw [h2, arrPut_size], h3⟩
        simp only [Instr.fill]
        rw [if_neg (by simp; omega)]
        rw [zip_fold_arr]
        exact h1
      · cases hb

theorem run_bslice_op (hs : SimH A φ H w) {nw : Nat} (hn : nw < H.length) (hφ : φ nw = none) {t e : TypeId} {len sz : Nat} {z : List AV} (h1 : P.underlying t = some (.slice e))
    (hsz : lowSz P e = some sz) (h4 : zeroA P e = some z) (hpos : 0 < sz ∧ 0 < len ∧ len * sz ≤ 2 ^ 20) {parts : List (Nat × Value)} {ps : List (Nat × AV)} (hl : parts.length = ps.length)
    (hp : ∀ (j : Nat) (p : Nat × AV) (q : Nat × Value), ps[j]? = some p → parts[j]? = some q → p.1 = q.1 ∧ Rel φ (Mb A φ H) w p.2 q.2) {rows : List (List AV)}
    (hb : buildR sz (List.replicate len z) ps = some rows) :
    ∃ (w' : World) (v : Value), (Instr.buildSlice t len parts.toArray).run P w = .ok v w' ∧
      SimH A (fun j => if j = nw then some (w.heap.size, 0) else φ j) (H.set nw (mkVec sz rows)) w' ∧
      Onward A φ H w (fun j => if j = nw then some (w.heap.size, 0) else φ j) (H.set nw (mkVec sz rows)) w' ∧
      Rel (fun j => if j = nw then some (w.heap.size, 0) else φ j) (Mb A (fun j => if j = nw then some (w.heap.size, 0) else φ j) (H.set nw (mkVec sz rows))) w' (.ref nw sz 0 len true) v := by
  obtain ⟨i, zv, z1, z2, z3, z4, z5, z6⟩ := zeroA_spec h4
  rw [hsz] at z5
  have z5 : sz = z.length := by simpa using z5
  have g := zero_grid (z4 φ (Mb A φ H) w) len
  rw [← z5] at g
  have hrl : ∀ (ps : List (Nat × AV)) (r0 r1 : List (List AV)), buildR sz r0 ps = some r1 → r1.length = r0.length := by
    intro ps
    induction ps with
    | nil => intro r0 r1 h; simp [buildR] at h; rw [h]
    | cons p ps ih =>
      intro r0 r1 h
      simp only [buildR, Option.bind_eq_some_iff] at h
      obtain ⟨xs, hx, h⟩ := h
      split at h
      · rw [ih _ _ h]; simp
      · cases h
  have hlen : rows.length = len := by rw [hrl _ _ _ hb]; simp
  obtain ⟨c', e1, e2, e3⟩ := run_fill_rows ps parts (List.replicate len z) _ rows hl hp g hb
  have hne : ¬ (len * sz = 0) := by
    have := Nat.mul_pos hpos.2.1 hpos.1
    omega
  have hbig : ¬ (2 ^ 24 < len * sz) := by have := hpos.2.2; omega
  have hne' : ¬ (len = 0 ∨ sz = 0) := by omega
  have hrun : (Instr.buildSlice t len parts.toArray).run P w = .ok (.slice (some ⟨w.heap.size, 0, none⟩) len len) (w.alloc (.cells c' e)) := by
    simp [Instr.buildSlice, run_underlying h1, run_sizeOf hsz, hbig, hne', run_zeroValue z1 z2, newRow, e1]
    exact fun hc => absurd hc hne
  obtain ⟨hs2, hon2⟩ := hs.new hn hφ (mkVec_rows sz rows) (c := c') (T := e) (by have := e3.len; simp at this; omega) e3.row (fun k r j x hk hx => by
    obtain ⟨v, hv, hrel⟩ := e3.get k r j x hk hx
    exact ⟨v, by rw [← Array.getElem?_toList]; exact hv, hrel⟩)
  refine ⟨_, _, hrun, hs2, hon2, ?_⟩
  exact Rel.ref_head (φ := fun j => if j = nw then some (w.heap.size, 0) else φ j) (by simp) (Nat.le_refl _) (fun hf => by cases hf) (alloc_at w _) (by rw [e2]; simp)

end
end Go.Ago
