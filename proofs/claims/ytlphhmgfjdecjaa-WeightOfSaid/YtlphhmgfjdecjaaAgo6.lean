/- Runs of the model's small operations on cells, over worlds given by blocks. Conditions: none. -/
import Derived.Test.YtlphhmgfjdecjaaAgo5
set_option linter.unusedSimpArgs false
set_option linter.unusedVariables false
namespace Go.Ago

def arrPut (c : Array Value) (o : Nat) : List Value → Array Value
  | [] => c
  | v :: vs => arrPut (c.setIfInBounds o v) (o + 1) vs

theorem arrPut_size : ∀ (vs : List Value) (c : Array Value) (o : Nat), (arrPut c o vs).size = c.size := by
  intro vs
  induction vs with
  | nil => intro c o; rfl
  | cons v vs ih => intro c o; simp [arrPut, ih]

theorem arrPut_get : ∀ (vs : List Value) (c : Array Value) (o k : Nat), o + vs.length ≤ c.size →
    (arrPut c o vs)[k]? = if o ≤ k ∧ k < o + vs.length then vs[k - o]? else c[k]? := by
  intro vs
  induction vs with
  | nil => intro c o k h; simp [arrPut]; omega
  | cons v vs ih =>
    intro c o k h
    simp only [arrPut, List.length_cons] at h ⊢
    rw [ih _ _ _ (by simp; omega)]
    by_cases h1 : o + 1 ≤ k ∧ k < o + 1 + vs.length
    · rw [if_pos h1, if_pos (by omega)]
      obtain ⟨d, hd⟩ : ∃ d, k - o = d + 1 := ⟨k - o - 1, by omega⟩
      rw [hd, List.getElem?_cons_succ, show k - (o + 1) = d by omega]
    · rw [if_neg h1]
      by_cases h2 : k = o
      · subst h2
        rw [if_pos (by omega)]
        simp only [Nat.sub_self, List.getElem?_cons_zero]
        rw [Array.getElem?_setIfInBounds_self_of_lt (by omega)]
      · rw [if_neg (by omega), Array.getElem?_setIfInBounds_ne (fun e => h2 e.symm)]

theorem setCell_block {w : World} {b o : Nat} {c : Array Value} {T : TypeId} (hb : w.heap[b]? = some (.cells c T (0, 0))) (v : Value) :
    w.setCell ⟨b, o, none⟩ v = World.setBlock w b (c.setIfInBounds o v) T := by
  have hlt : b < w.heap.size := by
    rcases Nat.lt_or_ge b w.heap.size with h | h
    · exact h
    · simp [Array.getElem?_eq_none h] at hb
  have hget : w.heap[b] = .cells c T (0, 0) := by rw [Array.getElem?_eq_getElem hlt] at hb; exact Option.some.inj hb
  unfold World.setCell World.setBlock
  congr 1
  apply Array.ext_getElem?
  intro k
  simp only [Array.getElem?_modify, Array.getElem?_setIfInBounds, hlt]
  by_cases e : b = k
  · subst e; simp [hget, hlt]
  · simp [e]

theorem cell_block {w : World} {b : Nat} {c : Array Value} {T : TypeId} (hb : w.heap[b]? = some (.cells c T (0, 0))) (o : Nat) : w.cell? ⟨b, o, none⟩ = c[o]? := by
  simp [World.cell?, hb]

theorem frozen_block {w : World} {b : Nat} {c : Array Value} {T : TypeId} (hb : w.heap[b]? = some (.cells c T (0, 0))) (o : Nat) : w.frozen? ⟨b, o, none⟩ = false := by
  simp [World.frozen?, hb]

theorem addr_add (b o n : Nat) : Addr.add ⟨b, o, none⟩ n = ⟨b, o + n, none⟩ := by
  unfold Addr.add
  split
  · subst_vars; rfl
  · rfl

theorem setBlock_setBlock (w : World) (b : Nat) (c c' : Array Value) (T : TypeId) : World.setBlock (World.setBlock w b c T) b c' T = World.setBlock w b c' T := by
  unfold World.setBlock
  congr 1
  apply Array.ext_getElem?
  intro k
  simp only [Array.getElem?_setIfInBounds, Array.size_setIfInBounds]
  by_cases e : b = k
  · subst e; by_cases h : b < w.heap.size <;> simp [h]
  · simp [e]

theorem setBlock_same {w : World} {b : Nat} {c : Array Value} {T : TypeId} (hb : w.heap[b]? = some (.cells c T (0, 0))) : World.setBlock w b c T = w := by
  have hlt : b < w.heap.size := by
    rcases Nat.lt_or_ge b w.heap.size with h | h
    · exact h
    · simp [Array.getElem?_eq_none h] at hb
  have : w.heap.setIfInBounds b (.cells c T (0, 0)) = w.heap := by
    apply Array.ext_getElem?
    intro k
    rw [Array.getElem?_setIfInBounds]
    by_cases e : b = k
    · subst e; simp [hlt]; rw [Array.getElem?_eq_getElem hlt] at hb; exact (Option.some.inj hb).symm
    · simp [e]
  unfold World.setBlock
  rw [this]

theorem run_storeCells {P : Program} : ∀ (vs : List Value) (w : World) (b o i : Nat) (c : Array Value) (T : TypeId), w.heap[b]? = some (.cells c T (0, 0)) →
    o + i + vs.length ≤ c.size → (∀ v ∈ vs, v.oneCell' = true) → (storeCells ⟨b, o, none⟩ vs i).run P w = .ok () (World.setBlock w b (arrPut c (o + i) vs) T) := by
  intro vs
  induction vs with
  | nil => intro w b o i c T hb hs hv; simp [storeCells, arrPut, setBlock_same hb]
  | cons v vs ih =>
    intro w b o i c T hb hs hv
    have hlt : b < w.heap.size := by
      rcases Nat.lt_or_ge b w.heap.size with h | h
      · exact h
      · simp [Array.getElem?_eq_none h] at hb
    simp only [List.length_cons] at hs
    have hcell : w.cell? ⟨b, o + i, none⟩ = some c[o + i] := by rw [cell_block hb, Array.getElem?_eq_getElem]
    simp only [storeCells, Sem.run_bind, addr_add]
    rw [run_store P w _ v _ (hv v (by simp)), hcell]
    simp only [frozen_block hb, Bool.false_eq_true, if_false, Result.andThen_ok]
    rw [setCell_block hb, ih (World.setBlock w b (c.setIfInBounds (o + i) v) T) b o (i + 1) _ T (setBlock_at w b _ T hlt) (by simp; omega) (fun v' h' => hv v' (by simp [h']))]
    rw [setBlock_setBlock]
    rfl

theorem run_loadCells_at {P : Program} {w : World} {b o : Nat} (vs : List Value) (h : ∀ j v, vs[j]? = some v → w.cell? ⟨b, o + j, none⟩ = some v) :
    (loadCells ⟨b, o, none⟩ vs.length).run P w = .ok vs.toArray w := by
  refine run_loadCells_list (P := P) w ⟨b, o, none⟩ vs (fun j v hv => ?_)
  rw [addr_add]; exact h j v hv

/-! ### What a program says of a type -/
def lowSz (P : Program) (t : TypeId) : Option Nat := (P.info? t).map (·.size)

def lowAgg (P : Program) (t : TypeId) : Option Bool :=
  match P.underlying t with
  | some (.struct _) => some true
  | some (.array _ _) => some true
  | some _ => some false
  | none => none

theorem run_typeInfo {P : Program} {t : TypeId} {i : TypeInfo} (h : P.info? t = some i) (w : World) : (typeInfo t).run P w = .ok i w := by
  simp [typeInfo, h]

theorem run_sizeOf {P : Program} {t : TypeId} {n : Nat} (h : lowSz P t = some n) (w : World) : (sizeOf t).run P w = .ok n w := by
  unfold lowSz at h
  obtain ⟨i, h1, h2⟩ := Option.map_eq_some_iff.1 h
  simp [sizeOf, run_typeInfo h1, h2]

theorem run_isAgg {P : Program} {t : TypeId} {b : Bool} (h : lowAgg P t = some b) (w : World) : (isAgg t).run P w = .ok b w := by
  unfold lowAgg at h
  split at h <;> simp at h <;> subst h
  · rename_i d hd; simp [isAgg, run_underlying hd]
  · rename_i d hd; simp [isAgg, run_underlying hd]
  · rename_i d hs ha hd
    simp only [isAgg, Sem.run_bind, run_underlying hd, Result.andThen_ok]
    rfl

theorem run_zeroValue {P : Program} {t : TypeId} {i : TypeInfo} {z : Value} (h : P.info? t = some i) (hz : i.zero = some z) (w : World) : (zeroValue t).run P w = .ok z w := by
  simp [zeroValue, run_typeInfo h, hz]

theorem run_loadVar_agg {P : Program} {t : TypeId} {w : World} {b o : Nat} (ha : lowAgg P t = some true) (vs : List Value) (hn : lowSz P t = some vs.length)
    (h : ∀ j v, vs[j]? = some v → w.cell? ⟨b, o + j, none⟩ = some v) : (loadVar t ⟨b, o, none⟩).run P w = .ok (.agg vs.toArray) w := by
  simp [loadVar, run_isAgg ha, run_sizeOf hn, run_loadCells_at vs h]

theorem run_loadVar_one {P : Program} {t : TypeId} {w : World} {a : Addr} (ha : lowAgg P t = some false) {v : Value} (h : w.cell? a = some v) : (loadVar t a).run P w = .ok v w := by
  simp [loadVar, run_isAgg ha, h]

theorem run_storeVar {P : Program} {t : TypeId} {w : World} {b o : Nat} {c : Array Value} {T : TypeId} {v : Value} (hn : lowSz P t = some v.cells.size)
    (hb : w.heap[b]? = some (.cells c T (0, 0))) (hs : o + v.cells.size ≤ c.size) (hv : ∀ x ∈ v.cells.toList, x.oneCell' = true) :
    (storeVar t ⟨b, o, none⟩ v).run P w = .ok () (World.setBlock w b (arrPut c o v.cells.toList) T) := by
  simp only [storeVar, Sem.run_bind, run_sizeOf hn, Result.andThen_ok]
  simp only [ne_eq, not_true_eq_false, if_false, Sem.run_bind, Sem.run_pure, Result.andThen_ok, pure_bind]
  have := run_storeCells (P := P) v.cells.toList w b o 0 c T hb (by simpa using hs) hv
  simpa using this

end Go.Ago
