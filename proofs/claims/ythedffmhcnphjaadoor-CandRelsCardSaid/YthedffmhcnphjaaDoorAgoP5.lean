/- The contracts of package rat. Conditions: none. -/
import Derived.Test.YthedffmhcnphjaaDoorAgoP3
import Derived.Test.YthedffmhcnphjaaDoorAgoP4
import Derived.Laws.Bits64b
import Derived.Shelf.SlSortCmp.Whole1
import Derived.Shelf.Sort.AssemblyIn
import Derived.Shelf.Slices.In.SortNone
import Derived.Sort.EveryDepth
set_option maxRecDepth 100000
set_option linter.unusedSimpArgs false
set_option linter.unusedVariables false
namespace Go.Ago

theorem wrap_id {n : Int} (h : -9223372036854775808 ≤ n) (h' : n ≤ 9223372036854775807) : IntKind.wrap .i64 n = n := by
  simp [IntKind.wrap, IntKind.signed, IntKind.bits]
  split <;> omega

end Go.Ago

/- The contracts of package act and of its reference. Conditions: none. -/
set_option maxRecDepth 100000
set_option linter.unusedSimpArgs false
set_option linter.unusedVariables false
namespace Go.Ago

theorem clone_end {sz bytes : Nat} {l : List (List DV)} (h1 : ∀ r ∈ l, r.length = sz) (h2 : roomy l.length bytes) : (((∀ (r : List AV), r ∈ List.map (fun x => List.map AV.d x) l → r.length = sz) ∧ roomy l.length bytes) ∧
      RetRows sz l (AV.ref 0 sz 0 l.length true) [HO.dvec sz l]) ∧
    (l.length = 0 → RetRows sz l (AV.d (DV.list [] true)) []) :=
  ⟨⟨⟨fun r h => by
      obtain ⟨x, hx, rfl⟩ := List.mem_map.1 h
      simpa using h1 x hx, h2⟩, .inl ⟨0, true, rfl, rfl⟩⟩, fun h => .inr ⟨List.eq_nil_of_length_eq_zero h, rfl⟩⟩

def ActG.isR (a : ActG) : Bool := decide (a.kind = 1) || decide (a.kind = 3) || decide (a.kind = 5)
def ActG.isW (a : ActG) : Bool := decide (a.kind = 2) || decide (a.kind = 4) || decide (a.kind = 5)
def ActG.isA (a : ActG) : Bool := decide (a.kind = 3) || decide (a.kind = 4) || decide (a.kind = 5)
/-- May it be an act on these locations? -/
def ActG.right (a : ActG) (l : List LocG) : Bool :=
  if a.kind = 6 then decide (a.loc = 0) && decide (a.old = 0)
  else decide (1 ≤ a.kind) && decide (a.kind ≤ 5) && decide (0 ≤ a.loc) && decide (a.loc < l.length) && ((l.getD a.loc.toNat default).atom == a.isA) && (a.isR || decide (a.old = 0)) && (a.isW || decide (a.new = 0))

theorem wrap_succ {i n : Nat} (h : i < n) (hn : n ≤ maxLen) : IntKind.i64.wrap ((i : Int) + 1) = ((i + 1 : Nat) : Int) := by
  have hm : maxLen = 9223372036854775807 := rfl
  rw [wrap_id (by omega) (by omega)]; omega

def sp_sameI : Sp := ⟨List Int × Bool × List Int × Bool, fun x => [.d (.list (x.1.map rowI) x.2.1), .d (.list (x.2.2.1.map rowI) x.2.2.2)], fun x => .data (x.1.length ≤ maxLen) (.d (.bool (decide (x.1 = x.2.2.1)))) true⟩
theorem at_sameI (a b : List Int) (f g : Bool) : sp_sameI.at [.d (.list (a.map rowI) f), .d (.list (b.map rowI) g)] = .data (a.length ≤ maxLen) (.d (.bool (decide (a = b)))) true :=
  Sp.at_enc (s := sp_sameI) (fun x y h => by
    obtain ⟨a, b, c, d⟩ := x; obtain ⟨a', b', c', d'⟩ := y
    simp only [sp_sameI, List.cons.injEq, AV.d.injEq, DV.list.injEq, and_true] at h
    obtain ⟨⟨h1, h2⟩, h3, h4⟩ := h
    rw [Z3i rowI_inj h1, h2, Z3i rowI_inj h3, h4]) (a, f, b, g)

theorem take_next {α : Type} {a b : List α} {i : Nat} {d : α} (h2 : a.take i = b.take i) (h3 : i < a.length) (h4 : i < b.length) (h5 : a.getD i d = b.getD i d) : a.take (i + 1) = b.take (i + 1) := by
  rw [getD_lt h3, getD_lt h4] at h5
  rw [List.take_add_one, List.take_add_one, h2, List.getElem?_eq_getElem h3, List.getElem?_eq_getElem h4, h5]
theorem take_all {α : Type} {a b : List α} (h : a.take a.length = b.take a.length) (hl : a.length = b.length) : a = b := by
  rw [List.take_length, hl, List.take_length] at h; exact h

/-- Are two lists the same? -/
def sp_same {α : Type} [DecidableEq α] (row : α → List DV) : Sp := ⟨List α × Bool × List α × Bool, fun x => [.d (.list (x.1.map row) x.2.1), .d (.list (x.2.2.1.map row) x.2.2.2)], fun x => .data (x.1.length ≤ maxLen) (.d (.bool (decide (x.1 = x.2.2.1)))) true⟩
theorem at_same {α : Type} [DecidableEq α] {row : α → List DV} (hr : ∀ x y, row x = row y → x = y) (a b : List α) (f g : Bool) : (sp_same row).at [.d (.list (a.map row) f), .d (.list (b.map row) g)] = .data (a.length ≤ maxLen) (.d (.bool (decide (a = b)))) true :=
  Sp.at_enc (s := sp_same row) (fun x y h => by
    obtain ⟨a, b, c, d⟩ := x; obtain ⟨a', b', c', d'⟩ := y
    simp only [sp_same, List.cons.injEq, AV.d.injEq, DV.list.injEq, and_true] at h
    obtain ⟨⟨h1, h2⟩, h3, h4⟩ := h
    rw [Z3i hr h1, h2, Z3i hr h3, h4]) (a, f, b, g)
end Go.Ago

/- An object of ours that nobody changes any more is said as data from here on. Conditions: none. -/
set_option linter.unusedSimpArgs false
set_option linter.unusedVariables false
namespace Go.Ago

mutual
/-- A value, when the rows of object 'id' are data. -/
def AV.ice (id sz0 : Nat) (rows : List (List DV)) : AV → AV
  | .undef => .undef
  | .d x => .d x
  | .agg cs => .agg (AV.iceL id sz0 rows cs)
  | .tup cs => .tup (AV.iceL id sz0 rows cs)
  | .ptr i sz row j => if i = id then (if sz = sz0 then (match rows[row]? with | some r => .dptr r j | none => .undef) else .undef) else .ptr i sz row j
  | .dptr cs j => .dptr cs j
  | .ref i sz row len room => if i = id then (if sz = sz0 ∧ row + len ≤ rows.length then .d (.list ((rows.drop row).take len) (!room)) else .undef) else .ref i sz row len room
  | .clo f caps => .clo f (AV.iceL id sz0 rows caps)
  | .rcap i sz row len cap => if i = id then .undef else .rcap i sz row len cap
  | .mapr i => if i = id then .undef else .mapr i
def AV.iceL (id sz0 : Nat) (rows : List (List DV)) : List AV → List AV
  | [] => []
  | x :: xs => AV.ice id sz0 rows x :: AV.iceL id sz0 rows xs
end

theorem AV.iceL_map (id sz0 : Nat) (rows : List (List DV)) (xs : List AV) : AV.iceL id sz0 rows xs = xs.map (AV.ice id sz0 rows) := by
  induction xs with
  | nil => simp [AV.iceL]
  | cons x xs ih => simp [AV.iceL, ih]

/-- Rows, when those of an object are data. -/
def iceRows (id sz0 : Nat) (rows : List (List DV)) (l : List (List AV)) : List (List AV) := l.map fun r => AV.iceL id sz0 rows r

def HO.ice (id sz0 : Nat) (rows : List (List DV)) : HO → HO
  | .dead => .dead
  | .dvec sz l => .dvec sz l
  | .vec sz l => mkVec sz (iceRows id sz0 rows l)
  | .mapo es => .mapo es
  | .iter m n seen => .iter m n seen

/-- The rows of an object, as data. -/
def HO.data : HO → Option (Nat × List (List DV))
  | .dead | .mapo _ | .iter .. => none
  | .dvec sz l => some (sz, l)
  | .vec sz l => (drows l).map fun ds => (sz, ds)

theorem HO.data_rows {o : HO} {sz : Nat} {ds : List (List DV)} (h : o.data = some (sz, ds)) : o.rows = some (sz, ds.map (·.map .d)) := by
  cases o with
  | dead | mapo | iter => simp [HO.data] at h
  | dvec sz' l => simp [HO.data] at h; obtain ⟨rfl, rfl⟩ := h; rfl
  | vec sz' l =>
    simp only [HO.data, Option.map_eq_some_iff] at h
    obtain ⟨ds', h1, h2⟩ := h
    simp at h2; obtain ⟨rfl, rfl⟩ := h2
    rw [HO.rows, drows_map _ _ h1]

def iceHeap (id sz0 : Nat) (rows : List (List DV)) : Nat → Heap → Heap
  | _, [] => []
  | i, o :: os => (if i = id then .dead else o.ice id sz0 rows) :: iceHeap id sz0 rows (i + 1) os

theorem iceHeap_at (id sz0 : Nat) (rows : List (List DV)) : ∀ (H : Heap) (k i : Nat), (iceHeap id sz0 rows k H).at i = if k + i = id then .dead else (H.at i).ice id sz0 rows := by
  intro H
  induction H with
  | nil => intro k i; simp [iceHeap, Heap.at, HO.ice]
  | cons o os ih =>
    intro k i
    cases i with
    | zero => simp [iceHeap, Heap.at]
    | succ i =>
      have := ih (k + 1) i
      simp only [Heap.at] at this
      simp only [iceHeap, Heap.at, List.getD_cons_succ, this, show k + 1 + i = k + (i + 1) by omega]

theorem iceHeap_len (id sz0 : Nat) (rows : List (List DV)) : ∀ (H : Heap) (k : Nat), (iceHeap id sz0 rows k H).length = H.length := by
  intro H
  induction H with
  | nil => intro k; rfl
  | cons o os ih => intro k; simp [iceHeap, ih]

def iceEnv (id sz0 : Nat) (rows : List (List DV)) : Env → Env
  | [] => []
  | (t, x) :: e => (t, x.ice id sz0 rows) :: iceEnv id sz0 rows e

theorem iceEnv_get (id sz0 : Nat) (rows : List (List DV)) : ∀ (e : Env) (t : Nat), (iceEnv id sz0 rows e).get t = (e.get t).ice id sz0 rows := by
  intro e
  induction e with
  | nil => intro t; simp [iceEnv, Env.get, AV.ice]
  | cons p e ih =>
    intro t
    obtain ⟨t0, x⟩ := p
    simp only [iceEnv, Env.get]
    split
    · rfl
    · exact ih t

/-- A state in which object 'id' is data. -/
def State.ice (id : Nat) (S : State) : State :=
  match (S.heap.at id).data with
  | some (sz0, rows) => ⟨iceEnv id sz0 rows S.env, iceHeap id sz0 rows 0 S.heap⟩
  | none => S

theorem HO.ice_rows {id sz0 : Nat} {rows : List (List DV)} {o : HO} {sz : Nat} {l : List (List AV)} (h : (o.ice id sz0 rows).rows = some (sz, l)) :
    ∃ l0, o.rows = some (sz, l0) ∧ l = l0.map (·.map (AV.ice id sz0 rows)) := by
  cases o with
  | dead | mapo | iter => simp [HO.ice, HO.rows] at h
  | dvec sz' r =>
    simp only [HO.ice, HO.rows, Option.some.injEq, Prod.mk.injEq] at h
    obtain ⟨rfl, rfl⟩ := h
    refine ⟨_, rfl, ?_⟩
    rw [List.map_map]
    refine List.map_congr_left fun x _ => ?_
    rw [Function.comp, List.map_map]
    exact List.map_congr_left fun y _ => by simp [AV.ice]
  | vec sz' r =>
    simp only [HO.ice, mkVec_rows, Option.some.injEq, Prod.mk.injEq] at h
    obtain ⟨rfl, rfl⟩ := h
    exact ⟨_, rfl, by rw [iceRows]; exact List.map_congr_left fun x _ => AV.iceL_map _ _ _ _⟩

theorem HO.ice_alive {id sz0 : Nat} {rows : List (List DV)} {o : HO} : (o.ice id sz0 rows).alive ↔ o.alive := by
  cases o with
  | vec sz l => exact ⟨fun _ => trivial, fun _ => HO.alive_of ⟨_, _, mkVec_rows _ _⟩⟩
  | _ => exact Iff.rfl

theorem HO.ice_x {id sz0 : Nat} {rows : List (List DV)} {φ : Nat → Option (Nat × Nat)} {w : World} {b o : Nat} {x : HO} (h : RelX φ w b o x) : RelX φ w b o (x.ice id sz0 rows) := by
  cases x with
  | vec sz l => exact RelX.rows (mkVec_rows _ _)
  | mapo es => exact h
  | iter m n seen => exact h
  | _ => trivial

theorem ice_says {n0 id : Nat} {S : State} : Says n0 S (S.ice id) := by
  intro P A n φ a w hs
  unfold State.ice
  split
  case h_2 => exact Says.refl P A n φ a w hs
  rename_i sz0 rows hd
  have hro := HO.data_rows hd
  have hal : (S.heap.at id).alive := HO.alive_of ⟨_, _, hro⟩
  have hat : ∀ i, (iceHeap id sz0 rows 0 S.heap).at i = if i = id then .dead else (S.heap.at i).ice id sz0 rows := fun i => by rw [iceHeap_at, Nat.zero_add]
  have halive : ∀ i, ((iceHeap id sz0 rows 0 S.heap).at i).alive → i ≠ id ∧ (S.heap.at i).alive := fun i hi => by
    rw [hat] at hi
    split at hi
    · exact hi.elim
    · refine ⟨by assumption, ?_⟩
      exact HO.ice_alive.1 hi
  have hown : ∀ b, own φ (iceHeap id sz0 rows 0 S.heap) b → own φ S.heap b := fun b ⟨i, o, hi, hb⟩ => ⟨i, o, (halive i hi).2, hb⟩
  have hM : ∀ b, Mb A φ (iceHeap id sz0 rows 0 S.heap) b → Mb A φ S.heap b := fun b hb => hb.imp _root_.id (hown b)
  have hid : ∀ b o, φ id = some (b, o) → ¬ Mb A φ (iceHeap id sz0 rows 0 S.heap) b := by
    rintro b o hb (hA | ⟨i, o', hi, hb'⟩)
    · exact hs.heap.apart b hA ⟨id, o, hal, hb⟩
    · exact (halive i hi).1 (hs.heap.inj i id b o' o (halive i hi).2 hal hb' hb)
  obtain ⟨c0, T0, hcells⟩ : ∃ (c0 : Unit) (T0 : Unit), ∀ b o, φ id = some (b, o) → ∃ c T, w.heap[b]? = some (.cells c T (0, 0)) ∧ (∀ r ∈ rows, r.length = sz0) ∧
      ∀ (i : Nat) (r : List DV) (j : Nat) (x : DV), rows[i]? = some r → r[j]? = some x → ∃ v, c[o + i * sz0 + j]? = some v ∧ RelD (Mb A φ (iceHeap id sz0 rows 0 S.heap)) w x v := by
    refine ⟨(), (), fun b o hb => ?_⟩
    obtain ⟨c, T, e1, e2, e3, e4⟩ := hs.heap.objs id b o hal hb sz0 _ hro
    refine ⟨c, T, e1, fun r hr => ?_, fun i r j x hi hx => ?_⟩
    · have := e3 (r.map .d) (List.mem_map_of_mem hr)
      simpa using this
    · obtain ⟨v, hv, hrel⟩ := e4 i (r.map .d) j (.d x) (by simp [hi]) (by simp [hx])
      cases hrel with
      | d _ _ h => exact ⟨v, hv, h.less hM⟩
  have tr : ∀ {x : AV} {v : Value}, Rel φ (Mb A φ S.heap) w x v → Rel φ (Mb A φ (iceHeap id sz0 rows 0 S.heap)) w (x.ice id sz0 rows) v := by
    intro x v h
    induction h with
    | undef v => simp only [AV.ice]; exact .undef v
    | d x v h => simp only [AV.ice]; exact .d x v (h.less hM)
    | agg cells vs hl h ih =>
      simp only [AV.ice, AV.iceL_map]
      refine .agg _ vs (by simpa using hl) fun i x v h1 h2 => ?_
      rw [List.getElem?_map, Option.map_eq_some_iff] at h1
      obtain ⟨y, h1, rfl⟩ := h1
      exact ih i y v h1 h2
    | tup cells vs hl h ih =>
      simp only [AV.ice, AV.iceL_map]
      refine .tup _ vs (by simpa using hl) fun i x v h1 h2 => ?_
      rw [List.getElem?_map, Option.map_eq_some_iff] at h1
      obtain ⟨y, h1, rfl⟩ := h1
      exact ih i y v h1 h2
    | clo f cells vs hl h ih =>
      simp only [AV.ice, AV.iceL_map]
      refine .clo f _ vs (by simpa using hl) fun i x v h1 h2 => ?_
      rw [List.getElem?_map, Option.map_eq_some_iff] at h1
      obtain ⟨y, h1, rfl⟩ := h1
      exact ih i y v h1 h2
    | rcap i sz row len b o cap c T hb hcap hheap hfit =>
      simp only [AV.ice]
      split
      · exact .undef _
      · exact .rcap i sz row len b o cap c T hb hcap hheap hfit
    | mapr i b o hb =>
      simp only [AV.ice]
      split
      · exact .undef _
      · exact .mapr i b o hb
    | dptr cs j b off f hlt hm hc hr => simp only [AV.ice]; exact .dptr cs j b off f hlt (fun h => hm (hM b h)) hc fun i x h1 => (hr i x h1).less hM
    | ptr i sz row j b o hb =>
      simp only [AV.ice]
      split
      · rename_i e; subst e
        split
        · rename_i e; subst e
          split
          · rename_i r hr
            obtain ⟨c, T, g1, g2, g3⟩ := hcells b o hb
            refine .dptr (off := o + row * sz) r j b (fun k => (c[o + row * sz + k]?).getD undef) (hs.heap.dom _ b o hb).2 (hid b o hb) (fun k x hx => ?_) (fun k x hx => ?_)
            · obtain ⟨v, hv, _⟩ := g3 row r k x hr hx
              rw [cell_block g1, hv]; rfl
            · obtain ⟨v, hv, h⟩ := g3 row r k x hr hx
              rw [hv]; exact h
          · exact .undef _
        · exact .undef _
      · exact .ptr i sz row j b o hb
    | ref0 i sz row room a =>
      simp only [AV.ice]
      split
      · split
        · have : (rows.drop row).take 0 = [] := by simp
          rw [this]; exact .d _ _ (.nil _ _ _ (fun _ => rfl))
        · exact .undef _
      · exact .ref0 _ _ _ _ _
    | ref i sz row len b o cap room c T hb hcap hroom hheap hfit =>
      simp only [AV.ice]
      split
      · rename_i e; subst e
        split
        · rename_i e
          obtain ⟨rfl, hle⟩ := e
          obtain ⟨c1, T1, g1, g2, g3⟩ := hcells b o hb
          have hlen : ((rows.drop row).take len).length = len := by simp; omega
          have hget : ∀ (k : Nat) (r : List DV) (j : Nat) (x : DV), ((rows.drop row).take len)[k]? = some r → r[j]? = some x → ∃ v, c1[o + row * sz + (k * sz + j)]? = some v ∧ RelD (Mb A φ (iceHeap i sz rows 0 S.heap)) w x v := by
            intro k r j x hi hx
            obtain ⟨hi', _⟩ := drop_take_get hi
            obtain ⟨v, hv, hrel⟩ := g3 (row + k) r j x hi' hx
            refine ⟨v, ?_, hrel⟩
            rw [Nat.add_mul] at hv
            rw [← hv]; congr 1; omega
          have := RelD.list (M := Mb A φ (iceHeap i sz rows 0 S.heap)) (w := w) ((rows.drop row).take len) (!room) sz b (o + row * sz) cap (fun k j => (c1[o + row * sz + (k * sz + j)]?).getD undef) (hs.heap.dom _ b o hb).2 (hid b o hb)
            (fun r hr => g2 r (List.mem_of_mem_drop (List.mem_of_mem_take hr))) (by rw [hlen]; exact hcap)
            (fun h => by rw [hlen]; exact hroom (by simpa using h)) (fun k r j x hi hx => by
              obtain ⟨v, hv, _⟩ := hget k r j x hi hx
              rw [cell_block g1, hv]; rfl) (fun k r j x hi hx => by
              obtain ⟨v, hv, hrel⟩ := hget k r j x hi hx
              rw [hv]; exact hrel)
          rw [hlen] at this
          exact .d _ _ this
        · exact .undef _
      · exact .ref i sz row len b o cap room c T hb hcap hroom hheap hfit
  refine ⟨φ, ⟨⟨?_, ?_, ?_, hs.heap.amb, fun b hA ho => hs.heap.apart b hA (hown b ho), ?_, hs.heap.tab.less hM, fun i b o hi hb => by
    rw [show (State.heap ⟨iceEnv id sz0 rows S.env, iceHeap id sz0 rows 0 S.heap⟩) = iceHeap id sz0 rows 0 S.heap from rfl] at hi ⊢
    rw [hat, if_neg (halive i hi).1]
    exact HO.ice_x (hs.heap.objx i b o (halive i hi).2 hb)⟩, hs.size, hs.defs, ?_⟩, ⟨fun i hi => rfl, Pres.refl _ _, fun b hb => .inl (hown b hb)⟩⟩
  · intro i b o hb
    rw [show (State.heap ⟨iceEnv id sz0 rows S.env, iceHeap id sz0 rows 0 S.heap⟩) = iceHeap id sz0 rows 0 S.heap from rfl, iceHeap_len]
    exact hs.heap.dom i b o hb
  · intro i sz l hi hne
    rw [show (State.heap ⟨iceEnv id sz0 rows S.env, iceHeap id sz0 rows 0 S.heap⟩) = iceHeap id sz0 rows 0 S.heap from rfl, hat] at hi
    split at hi
    · simp [HO.rows] at hi
    · obtain ⟨l0, h0, rfl⟩ := HO.ice_rows hi
      exact hs.heap.there i sz l0 h0 (by simpa using hne)
  · intro i j b o o' hi hj h1 h2
    exact hs.heap.inj i j b o o' (halive i hi).2 (halive j hj).2 h1 h2
  · intro i b o hi hb sz l hl
    rw [show (State.heap ⟨iceEnv id sz0 rows S.env, iceHeap id sz0 rows 0 S.heap⟩) = iceHeap id sz0 rows 0 S.heap from rfl] at hi hl
    rw [hat, if_neg (halive i hi).1] at hl
    obtain ⟨l0, h0, rfl⟩ := HO.ice_rows hl
    obtain ⟨c, T, e1, e2, e3, e4⟩ := hs.heap.objs i b o (halive i hi).2 hb sz l0 h0
    refine ⟨c, T, e1, by simpa using e2, fun r hr => ?_, fun k r j x hk hx => ?_⟩
    · obtain ⟨r0, hr0, rfl⟩ := List.mem_map.1 hr
      simpa using e3 r0 hr0
    · rw [List.getElem?_map, Option.map_eq_some_iff] at hk
      obtain ⟨r0, hk, rfl⟩ := hk
      rw [List.getElem?_map, Option.map_eq_some_iff] at hx
      obtain ⟨x0, hx, rfl⟩ := hx
      obtain ⟨v, hv, hrel⟩ := e4 k r0 j x0 hk hx
      exact ⟨v, hv, tr hrel⟩
  · intro t
    show Rel φ _ w ((iceEnv id sz0 rows S.env).get t) _
    rw [iceEnv_get]
    exact tr (hs.slots t)

/-- Objects that are data from here on, one after the other. -/
def State.ices : List Nat → State → State
  | [], S => S
  | i :: is, S => State.ices is (S.ice i)

theorem ices_says {n0 : Nat} : ∀ (is : List Nat) (S : State), Says n0 S (S.ices is)
  | [], S => Says.refl
  | i :: is, S => ice_says.trans (ices_says is (S.ice i))

theorem ice_len (id : Nat) (S : State) : (S.ice id).heap.length = S.heap.length := by
  unfold State.ice; split
  · exact iceHeap_len _ _ _ _ _
  · rfl

theorem ices_len : ∀ (is : List Nat) (S : State), (S.ices is).heap.length = S.heap.length
  | [], S => rfl
  | i :: is, S => (ices_len is (S.ice i)).trans (ice_len i S)

theorem Z44.ices {α : Type} {L : List Nat} {st : α → State} {Inv : α → Prop} {m : α → Nat} {k : Nat} {S : State} (is : List Nat) (h : Z44 L st Inv m k (S.ices is)) : Z44 L st Inv m k S :=
  Z44.says (ices_says is S) h

theorem Loop.ices {T : Tab} {n0 : Nat} {live : List Nat} {b : LCode} {S : State} {K : AExit → State → Prop} (is : List Nat) (hl : n0 ≤ S.heap.length) (h : Loop T n0 live b (S.ices is) K) : Loop T n0 live b S K :=
  Loop.says (ices_says is S) (by rw [ices_len]; exact hl) h

/-! ### Rules -/
/-! ### Rows of data, said as rows of cells -/
end Go.Ago

/- A call on objects of its own, as a call on a greater heap; contracts of calls that change or add objects. Conditions: none. -/
set_option linter.unusedSimpArgs false
set_option linter.unusedVariables false
namespace Go.Ago

/-- The end of a call: its heap, said with other ids, is this one. -/
def RetG (n0 : Nat) (v' : AV) (os' : Heap) : AV → Heap → Prop := fun r H => ∃ ρ, Weak n0 ρ ⟨[(0, r)], H⟩ ⟨[(0, v')], os'⟩ ∧ n0 ≤ os'.length

theorem RetG.mk {n0 : Nat} {v' r : AV} {os' H : Heap} (ρ : List Nat) (h1 : ρ.Nodup) (h2 : ∀ i ∈ ρ, i < H.length) (h3 : ∀ i, i < n0 → ρ[i]? = some i) (hv : AV.can ρ r = some v') (ho : ρ.map (fun i => (Heap.at H i).can ρ) = os') : RetG n0 v' os' r H := by
  have hw := can_weak (S := ⟨[(0, r)], H⟩) (live := [0]) h1 h3 h2
  have e : State.can ρ [0] ⟨[(0, r)], H⟩ = ⟨[(0, v')], os'⟩ := by
    simp only [State.can, List.map_cons, List.map_nil, Env.get, if_true, hv, Option.getD_some, ho]
  rw [e] at hw
  refine ⟨ρ, hw, ?_⟩
  rw [← ho, List.length_map]
  cases n0 with
  | zero => omega
  | succ n =>
    rcases Nat.lt_or_ge n ρ.length with h | h
    · omega
    · have := h3 n (by omega)
      rw [List.getElem?_eq_none (by omega)] at this
      cases this



theorem ACalls.exact {P : Program} {f : FuncId} {args : List AV} {H0 os' : Heap} {v' : AV} (h : ACalls P f args H0 (RetG H0.length v' os')) : ACalls P f args H0 (fun r H => r = v' ∧ H = os') := by
  refine ⟨h.1, fun A φ w vals hs hz hr => (h.2 A φ w vals hs hz hr).mono ?_⟩
  rintro e w' ⟨v, r, H', φ', rfl, ⟨ρ, hw, hl⟩, hs', hrr, hext⟩
  have hsim : Sim P A 1 φ' ⟨[(0, r)], H'⟩ { tmps := #[v], defers := [] } w' := by
    refine ⟨hs', rfl, rfl, fun t => ?_⟩
    cases t with
    | zero => exact hrr
    | succ t => exact .undef _
  obtain ⟨hs2, he⟩ := hw.sim hsim
  exact ⟨v, v', os', _, rfl, ⟨rfl, rfl⟩, hs2.heap, hs2.slots 0, hext.trans he⟩

/-- What is known of a function that changes one object that it is handed. -/
structure Ef where
  A : Type
  args : A → Nat → List AV
  sz : Nat
  rows : A → List (List DV)
  ok : A → Prop
  val : A → AV
  rows' : A → List (List DV)

def Ef.fits (e : Ef) (p : e.A × Nat) (args : List AV) (H : Heap) : Prop := e.args p.1 p.2 = args ∧ H.at p.2 = .dvec e.sz (e.rows p.1)
def Ef.eff (e : Ef) (p : e.A × Nat) : Eff := ⟨e.ok p.1, e.val p.1, [(p.2, .dvec e.sz (e.rows' p.1))], [], none⟩
open Classical in
noncomputable def Ef.at (e : Ef) (args : List AV) (H : Heap) : Option Eff := if h : ∃ p, e.fits p args H then some (e.eff h.choose) else none

theorem Ef.at_fits {e : Ef} (hi : ∀ p q args H, e.fits p args H → e.fits q args H → p = q) {p : e.A × Nat} {args : List AV} {H : Heap} (h : e.fits p args H) : e.at args H = some (e.eff p) := by
  have h' : ∃ p, e.fits p args H := ⟨p, h⟩
  unfold Ef.at
  rw [dif_pos h', hi _ _ _ _ h'.choose_spec h]

structure Ef.Body (e : Ef) (T : Tab) (live : List Nat) (lc : LCode) (rs : List LRes) : Prop where
  ren : ∀ x (ρ : Nat → Nat), e.args x (ρ 0) = (e.args x 0).map (AV.ren ρ)
  val : ∀ x (ρ : Nat → Nat), (e.val x).ren ρ = e.val x
  body : ∀ x, e.ok x → vck T 1 live lc ⟨Z1d 0 (e.args x 0), [.dvec e.sz (e.rows x)]⟩ (retK rs (RetG 1 (e.val x) [.dvec e.sz (e.rows' x)]))

theorem Ef.Body.ok {P : Program} {T : Tab} (hT : TabOK P T) {e : Ef} {f : FuncId} {fn : Func} {c : Code} {lc : LCode} {rs : List LRes} {live : List Nat} (h : e.Body T live lc rs) (hf : P.funcs[f]? = some fn)
    (hname : (fn.name == "runtime.NumGoroutine") = false) (hb : fn.body = some c) (hl : lowCode P fn.ntmps c = some lc) (hr : lowRess P fn.results.toList = some rs) (ha : ∀ x, (e.args x 0).length ≤ fn.ntmps) :
    ∀ args H x, e.at args H = some x → x.ok → ACalls P f args H fun r H' => r = x.val ∧ H' = applyUps H x.ups ++ x.news := by
  intro args H x hx hok
  unfold Ef.at at hx
  split at hx
  case isFalse => cases hx
  rename_i hp
  have hfit := hp.choose_spec
  generalize hp.choose = q at hx hfit
  simp only [Option.some.injEq] at hx
  subst hx
  obtain ⟨x, id⟩ := q
  obtain ⟨h1, h2⟩ := hfit
  simp only at h1 h2
  subst h1
  have hlt : id < H.length := Heap.at_lt (H := H) (i := id) (by rw [h2]; trivial)
  have hcall : ACalls P f (e.args x 0) [.dvec e.sz (e.rows x)] (fun r H1 => r = e.val x ∧ H1 = [.dvec e.sz (e.rows' x)]) :=
    ACalls.exact (ACalls.of_vck hT live hf hname hb hl hr (ha x) (h.body x hok))
  have hfr : Framed H [id] [.dvec e.sz (e.rows' x)] (H.set id (.dvec e.sz (e.rows' x)) ++ []) := by
    refine ⟨by simp, fun j hj hm => ?_, fun i hi => ?_⟩
    · rw [List.append_nil, Heap.at_set hlt, if_neg (fun h => hm (by simp [h]))]
    · have : i = 0 := by simpa using hi
      subst this
      rw [List.append_nil, into_lt (by simp), Heap.at_set hlt]
      simp [Heap.at, HO.ren]
  have := ACalls.frame (ids := [id]) (by simp) (by simp) (by simpa using hlt) (by simp) (fun k hk => by
    have : k = 0 := by simpa using hk
    subst this
    simp only [List.getElem_cons_zero, h2]
    simp [Heap.at, HO.ren]) hfr hcall
  have e1 : (e.args x 0).map (AV.ren (into H [id])) = e.args x id := by
    rw [← h.ren x (into H [id])]
    rw [into_lt (by simp)]; rfl
  rw [e1, h.val] at this
  exact this

theorem Ef.at_take {e : Ef} {args : List AV} {H : Heap} {x : Eff} (h : e.at args H = some x) : x.take = none := by
  unfold Ef.at at h
  split at h
  · simp only [Option.some.injEq] at h; subst h; rfl
  · cases h
theorem Ef.Body.tab {P : Program} {T T0 : Tab} {e : Ef} {live : List Nat} {lc : LCode} {rs : List LRes} (h : e.Body T live lc rs) (hT : TabOK P T) (hT0 : TabOK P T0) {f : FuncId} {fn : Func} {c : Code} (hf : P.funcs[f]? = some fn)
    (hname : (fn.name == "runtime.NumGoroutine") = false) (hb : fn.body = some c) (hl : lowCode P fn.ntmps c = some lc) (hr : lowRess P fn.results.toList = some rs) (ha : ∀ x, (e.args x 0).length ≤ fn.ntmps) : TabOK P (T0.addG f e.at) :=
  hT0.addG (Ef.Body.ok hT h hf hname hb hl hr ha) fun args H x t h1 h2 => by rw [Ef.at_take h1] at h2; cases h2

end Go.Ago

/- Words of 64 bits: rows of them, the operations on them, and sets of bits. Conditions: none. -/
set_option linter.unusedSimpArgs false
set_option linter.unusedVariables false
namespace Go.Ago

abbrev W := BitVec 64
def rowW (x : W) : List DV := [.int .u64 (x.toNat : Int)]
theorem W.inj {x y : W} (h : (x.toNat : Int) = (y.toNat : Int)) : x = y := BitVec.eq_of_toNat_eq (by omega)
theorem rowW_inj (x y : W) (h : rowW x = rowW y) : x = y := by
  simp only [rowW, List.cons.injEq, DV.int.injEq, and_true, true_and] at h
  exact W.inj h
theorem idx_W {l : List W} {full : Bool} {kd : IntKind} {n : Int} {k : Delta → Prop} : stepK (evIdxAddr 1 (.d (.list (l.map rowW) full)) (.d (.int kd n))) k ↔ (0 ≤ n ∧ n < l.length) ∧ k ⟨.dptr (rowW (l.getD n.toNat default)) 0, [], []⟩ := stepK_idx_map (fun _ => rfl)
theorem Z26 {l : List W} {i : Nat} {x : W} : (l.map rowW).set i [.int .u64 (x.toNat : Int)] = (l.set i x).map rowW := by rw [List.map_set]; rfl
theorem Z2w {l : List W} {x : W} : l.map rowW ++ [[.int .u64 (x.toNat : Int)]] = (l ++ [x]).map rowW := by simp [rowW]
theorem Z22 {l : List W} : l.map rowW ++ [[.int .u64 0]] = (l ++ [0#64]).map rowW := by simp [rowW]
theorem Z1e {n : Nat} : List.replicate n [DV.int .u64 0] = (List.replicate n 0#64).map rowW := by simp [rowW]
theorem lens_W {l : List W} : (∀ r ∈ l.map rowW, r.length = 1) ↔ True := ⟨fun _ => trivial, fun _ => rows_len (f := rowW) (fun _ => rfl) l⟩
theorem Z3s {l : List W} : (∀ r ∈ List.map (fun x => List.map AV.d x) (l.map rowW), r.length = 1) ↔ True := ⟨fun _ => trivial, fun _ r hr => by
  obtain ⟨x, hx, rfl⟩ := List.mem_map.1 hr
  simpa using rows_len (f := rowW) (sz := 1) (fun _ => rfl) l x hx⟩
theorem Z1f {l : List W} : (∀ r ∈ l.map rowW, ∀ x ∈ r, DV.scal x = true) ↔ True := ⟨fun _ => trivial, fun _ r hr x hx => by
  obtain ⟨n, _, rfl⟩ := List.mem_map.1 hr; simp [rowW] at hx; subst hx; rfl⟩
theorem Z15 : (default : W) = 0#64 := rfl

/-- Not by 'rfl': the kernel would reckon the number out. -/
theorem Z06 {n : Nat} : ((n : Nat) : Int).toNat = n := by omega
theorem Z0y {len sz : Nat} {cs : List DV} {j : Nat} {kd : IntKind} {n : Int} : evIdxArrAddr len sz (.dptr cs j) (.d (.int kd n)) = .v (0 ≤ n ∧ n < len) (.dptr cs (j + n.toNat * sz)) := rfl
theorem Z0z {len sz id sz0 row j : Nat} {kd : IntKind} {n : Int} : evIdxArrAddr len sz (.ptr id sz0 row j) (.d (.int kd n)) = .v (0 ≤ n ∧ n < len) (.ptr id sz0 row (j + n.toNat * sz)) := rfl

def rowB (b : Bool) : List DV := [.bool b]
theorem Z2x {n : Nat} : List.replicate n [DV.bool false] = (List.replicate n false).map rowB := by simp [rowB]
theorem Z2y {l : List Bool} {i : Nat} {b : Bool} : (l.map rowB).set i [.bool b] = (l.set i b).map rowB := by rw [List.map_set]; rfl
def rowN (x : Nat) : List DV := [.int .i64 (x : Int)]
/-! ### Operations -/
theorem wlt (x : W) : x.toNat < 18446744073709551616 := x.isLt
theorem bits_u64 : IntKind.u64.bits = 64 := rfl
theorem wrap_w {n : Int} : IntKind.u64.wrap n = ((BitVec.ofInt 64 n).toNat : Int) := by
  rw [IntKind.wrap_u64]
  simp [BitVec.toNat_ofInt]
  omega
theorem ofInt_w (x : W) : BitVec.ofInt 64 (x.toNat : Int) = x := by
  apply BitVec.eq_of_toNat_eq
  simp [BitVec.toNat_ofInt]
theorem w_or {x y : W} : bits .or .u64 (x.toNat : Int) (y.toNat : Int) = ((x ||| y).toNat : Int) := by
  rw [bits_or_u64_nat _ _ (wlt x) (wlt y), BitVec.toNat_or]
theorem w_and {x y : W} : bits .and .u64 (x.toNat : Int) (y.toNat : Int) = ((x &&& y).toNat : Int) := by
  rw [bits_and_u64_nat _ _ (wlt x) (wlt y), BitVec.toNat_and]
theorem Z2z {x y : W} : bits .andNot .u64 (x.toNat : Int) (y.toNat : Int) = ((x &&& ~~~y).toNat : Int) := by
  unfold bits
  simp only [bits_u64, ofInt_w]
  rw [wrap_w, ofInt_w]
  rfl
theorem Z4d {x : W} : bits .and .u64 (x.toNat : Int) 1 = ((x &&& 1#64).toNat : Int) := w_and (y := 1#64)
theorem w_shl {x : W} {k : Nat} : IntKind.u64.wrap ((x.toNat : Int) * 2 ^ min k IntKind.u64.bits) = ((x <<< k).toNat : Int) := by
  rw [IntKind.wrap_u64, bits_u64]
  have e : ((x.toNat : Int) * 2 ^ min k 64) = ((x.toNat * 2 ^ min k 64 : Nat) : Int) := by push_cast; rfl
  rw [e, BitVec.toNat_shiftLeft, Nat.shiftLeft_eq]
  by_cases h : k ≤ 64
  · rw [Nat.min_eq_left h]; omega
  · rw [Nat.min_eq_right (by omega)]
    have h2 : x.toNat * 2 ^ k = x.toNat * 2 ^ (k - 64) * 2 ^ 64 := by rw [Nat.mul_assoc, ← Nat.pow_add]; congr 2; omega
    rw [h2]
    have h3 : x.toNat * 2 ^ (k - 64) * 2 ^ 64 % 2 ^ 64 = 0 := Nat.mul_mod_left _ _
    have h4 : x.toNat * 2 ^ 64 % 2 ^ 64 = 0 := Nat.mul_mod_left _ _
    omega
theorem Z4c {k : Nat} : IntKind.u64.wrap (1 * 2 ^ min k IntKind.u64.bits) = ((1#64 <<< k).toNat : Int) := w_shl (x := 1#64)
theorem w_shr {x : W} {k : Nat} : Int.fdiv (x.toNat : Int) (2 ^ min k IntKind.u64.bits) = ((x >>> k).toNat : Int) := by
  rw [bits_u64, BitVec.toNat_ushiftRight, Nat.shiftRight_eq_div_pow]
  have e : ((2 : Int) ^ min k 64) = ((2 ^ min k 64 : Nat) : Int) := by push_cast; rfl
  rw [e, ← Int.ofNat_fdiv]
  congr 1
  by_cases h : k ≤ 64
  · rw [Nat.min_eq_left h]
  · rw [Nat.min_eq_right (by omega)]
    have h1 : x.toNat / 2 ^ 64 = 0 := Nat.div_eq_of_lt x.isLt
    rw [h1]
    exact (Nat.div_eq_of_lt (Nat.lt_of_lt_of_le x.isLt (Nat.pow_le_pow_right (by omega) (by omega)))).symm
theorem Z4e {x : W} : IntKind.u64.wrap ((x.toNat : Int) - 1) = ((x - 1#64).toNat : Int) := by
  rw [IntKind.wrap_u64, BitVec.toNat_sub]
  have h1 : (1#64).toNat = 1 := rfl
  have h2 := wlt x
  rw [h1]
  omega
theorem w_add {x y : W} : IntKind.u64.wrap ((x.toNat : Int) + (y.toNat : Int)) = ((x + y).toNat : Int) := by
  rw [IntKind.wrap_u64, BitVec.toNat_add]
  omega
theorem w_neg {x : W} : IntKind.u64.wrap (0 - (x.toNat : Int)) = ((-x).toNat : Int) := by
  rw [IntKind.wrap_u64, BitVec.toNat_neg]
  have h2 := wlt x
  omega
theorem w_mulC {x : W} : IntKind.u64.wrap ((x.toNat : Int) * 285870213051353865) = ((x * 285870213051353865#64).toNat : Int) := by
  have e : ((x.toNat : Int) * 285870213051353865) = ((x.toNat * 285870213051353865 : Nat) : Int) := (Int.natCast_mul _ _).symm
  have h1 : (285870213051353865#64).toNat = 285870213051353865 := by decide
  rw [IntKind.wrap_u64, BitVec.toNat_mul, e, h1]
  generalize x.toNat * 285870213051353865 = n
  omega
theorem w_eq {x y : W} : ((x.toNat : Int) = (y.toNat : Int)) = (x = y) := propext ⟨W.inj, fun h => by rw [h]⟩
theorem w_eq0 {x : W} : ((x.toNat : Int) = 0) = (x = 0#64) := w_eq (y := 0#64)
theorem w_eq1 {x : W} : ((x.toNat : Int) = 1) = (x = 1#64) := w_eq (y := 1#64)
theorem w_bit {x : W} {k : Nat} : (x >>> k &&& 1#64 = 1#64) = (x.getLsbD k = true) := by
  apply propext
  constructor
  · intro h
    have := congrArg (fun y : W => y.getLsbD 0) h
    simpa using this
  · intro h
    apply BitVec.eq_of_getLsbD_eq
    intro i hi
    cases i with
    | zero => simpa using h
    | succ i => simp [BitVec.getLsbD_one]
theorem wrapU {k : Nat} (h : k < 18446744073709551616) : IntKind.u64.wrap (k : Int) = (k : Int) := by rw [IntKind.wrap_u64]; omega
/-! ### Sets of bits -/
def ofB : (Nat → Bool) → Nat → W
  | _, 0 => 0#64
  | q, n + 1 => ofB q n ||| (if q n then BitVec.twoPow 64 n else 0#64)
theorem get_ofB (q : Nat → Bool) : ∀ (n k : Nat), (ofB q n).getLsbD k = (decide (k < n) && decide (k < 64) && q k) := by
  intro n
  induction n with
  | zero => intro k; simp [ofB]
  | succ n ih =>
    intro k
    simp only [ofB, BitVec.getLsbD_or, ih]
    by_cases h : k = n
    · subst h
      cases hq : q k <;> simp [BitVec.getLsbD_twoPow]
    · have e1 : decide (k < n + 1) = decide (k < n) := by simp; omega
      rw [e1]
      split
      · rw [BitVec.getLsbD_twoPow]
        have : ¬ n = k := fun e => h e.symm
        simp [this]
      · simp
theorem W.ext {x y : W} (h : ∀ k, k < 64 → x.getLsbD k = y.getLsbD k) : x = y := BitVec.eq_of_getLsbD_eq h
theorem getLsb_ge {x : W} {k : Nat} (h : 64 ≤ k) : x.getLsbD k = false := BitVec.getLsbD_of_ge x k h
/-- The place of the least bit. -/
def tz (x : W) : Nat := ((List.range 64).find? fun t => x.getLsbD t).getD 64
theorem tz_spec {x : W} (h : x ≠ 0#64) : tz x < 64 ∧ x.getLsbD (tz x) = true ∧ ∀ j, j < tz x → x.getLsbD j = false := by
  unfold tz
  cases hf : (List.range 64).find? fun t => x.getLsbD t with
  | none =>
    exfalso
    apply h
    apply W.ext
    intro k hk
    have := List.find?_eq_none.1 hf k (by simpa using hk)
    simpa using this
  | some t =>
    obtain ⟨h1, h2⟩ := List.find?_eq_some_iff_append.1 hf
    obtain ⟨as0, bs, h3, h4⟩ := h2
    have hl : as0 = List.range as0.length ∧ t = as0.length := by
      have hlen : as0.length < 64 := by
        have := congrArg List.length h3
        simp at this; omega
      have e := congrArg (List.take as0.length) h3
      rw [List.take_left, List.take_range, Nat.min_eq_left (by omega)] at e
      have e2 := congrArg (fun l => l[as0.length]?) h3
      simp only [List.getElem?_append_right (Nat.le_refl _), Nat.sub_self, List.getElem?_cons_zero] at e2
      rw [List.getElem?_range hlen] at e2
      exact ⟨e.symm, (Option.some.inj e2).symm⟩
    obtain ⟨hl, rfl⟩ := hl
    have hlen : as0.length < 64 := by
      have := congrArg List.length h3
      simp at this; omega
    refine ⟨hlen, h1, fun j hj => ?_⟩
    have : j ∈ as0 := by rw [hl]; simpa using hj
    have := h4 j this
    simpa using this
theorem tz_zero : tz 0#64 = 64 := by decide
theorem tz_low {x : W} (h : x ≠ 0#64) : x &&& -x = BitVec.twoPow 64 (tz x) := by
  obtain ⟨h1, h2, h3⟩ := tz_spec h
  apply W.ext
  intro k hk
  rw [BitVec.getLsbD_and, BitVec.getLsbD_neg, BitVec.getLsbD_twoPow]
  by_cases e : tz x = k
  · rw [← e]
    have hno : ¬ ∃ j, j < tz x ∧ x.getLsbD j = true := fun ⟨j, hj, hj2⟩ => by rw [h3 j hj] at hj2; cases hj2
    simp [h1, h2, hno]
  · rw [decide_eq_false e, Bool.and_false]
    rcases Nat.lt_or_ge k (tz x) with hl | hl
    · rw [h3 k hl]; rfl
    · have hyes : ∃ j, j < k ∧ x.getLsbD j = true := ⟨tz x, by omega, h2⟩
      simp [hyes, hk]
/-- The bits without the least one. -/
theorem tz_rest {x : W} (h : x ≠ 0#64) (k : Nat) : (x &&& (x - 1#64)).getLsbD k = (x.getLsbD k && !decide (k = tz x)) := by
  obtain ⟨h1, h2, h3⟩ := tz_spec h
  by_cases hk : k < 64
  · rw [← BitVec.not_neg, BitVec.getLsbD_and, BitVec.getLsbD_not, BitVec.getLsbD_neg]
    by_cases e : k = tz x
    · subst e
      have hno : ¬ ∃ j, j < tz x ∧ x.getLsbD j = true := fun ⟨j, hj, hj2⟩ => by rw [h3 j hj] at hj2; cases hj2
      simp [hk, h2, hno]
    · rcases Nat.lt_or_ge k (tz x) with hl | hl
      · rw [h3 k hl]; rfl
      · have hyes : ∃ j, j < k ∧ x.getLsbD j = true := ⟨tz x, by omega, h2⟩
        simp [hyes, hk, e]
  · rw [getLsb_ge (by omega), getLsb_ge (by omega)]; rfl
theorem tz_less {x : W} (h : x ≠ 0#64) : (x &&& (x - 1#64)).toNat < x.toNat := by
  have h0 : 0 < x.toNat := by
    rcases Nat.eq_zero_or_pos x.toNat with h' | h'
    · exact absurd (BitVec.eq_of_toNat_eq h') h
    · exact h'
  have e : (x - 1#64).toNat = x.toNat - 1 := by
    rw [BitVec.toNat_sub]
    have := x.isLt
    simp; omega
  have := Nat.and_le_right (n := x.toNat) (m := (x - 1#64).toNat)
  rw [BitVec.toNat_and]; omega

theorem has_rowW {r : List DV} (h : (Sh.int .u64).has r) : ∃ x : W, r = rowW x ∧ True := by
  obtain ⟨n, rfl, h1, h2⟩ := has_u64 h
  refine ⟨BitVec.ofNat 64 n.toNat, ?_, trivial⟩
  unfold rowW
  have e : ((BitVec.ofNat 64 n.toNat).toNat : Int) = n := by
    rw [BitVec.toNat_ofNat]; omega
  rw [e]
end Go.Ago

/- Contracts of package rel: its small functions, and two relations laid together. Conditions: none. -/
set_option maxRecDepth 100000
set_option linter.unusedSimpArgs false
set_option linter.unusedVariables false
namespace Go.Ago

/-! ### Relations -/
def szR (R : List W) : Nat := min R.length 64
def hasN (R : List W) (i k : Nat) : Bool := decide (i < szR R) && decide (k < szR R) && (R.getD i 0#64).getLsbD k
def hasI (R : List W) (i k : Int) : Bool := decide (0 ≤ i) && decide (0 ≤ k) && hasN R i.toNat k.toNat
def rowG (R : List W) (i : Nat) : W := ofB (hasN R i) 64
def mkR (n : Nat) (p : Nat → Nat → Bool) : List W := (List.range n).map fun i => ofB (p i) n
theorem szR_le (R : List W) : szR R ≤ 64 := Nat.min_le_right _ _
theorem szR_len (R : List W) : szR R ≤ R.length := Nat.min_le_left _ _
theorem hasN_lt {R : List W} {i k : Nat} (h : hasN R i k = true) : i < szR R ∧ k < szR R := by
  simp only [hasN, Bool.and_eq_true, decide_eq_true_eq] at h; exact h.1
theorem get_rowG {R : List W} {i k : Nat} : (rowG R i).getLsbD k = hasN R i k := by
  unfold rowG
  rw [get_ofB]
  by_cases h : hasN R i k = true
  · have := (hasN_lt h).2
    have := szR_le R
    rw [h]; simp; omega
  · simp [h]
theorem mkR_len {n : Nat} {p : Nat → Nat → Bool} : (mkR n p).length = n := by simp [mkR]
theorem mkR_get {n : Nat} {p : Nat → Nat → Bool} {i k : Nat} (hi : i < n) : ((mkR n p).getD i 0#64).getLsbD k = (decide (k < n) && decide (k < 64) && p i k) := by
  rw [List.getD_eq_getElem?_getD, mkR, List.getElem?_map, List.getElem?_range hi]
  exact get_ofB _ _ _
theorem mkR_ext {n : Nat} {p : Nat → Nat → Bool} {l : List W} (hl : l.length = n) (h : ∀ i k, i < n → k < 64 → (l.getD i 0#64).getLsbD k = (decide (k < n) && p i k)) : l = mkR n p := by
  apply List.ext_getElem (by rw [hl, mkR_len])
  intro i h1 h2
  apply W.ext
  intro k hk
  have e1 := h i k (by omega) hk
  have e2 := mkR_get (n := n) (p := p) (i := i) (k := k) (by omega)
  rw [List.getD_eq_getElem?_getD, List.getElem?_eq_getElem h1, Option.getD_some] at e1
  rw [List.getD_eq_getElem?_getD, List.getElem?_eq_getElem h2, Option.getD_some] at e2
  rw [e1, e2]
  simp [hk]
theorem szR_mk {n : Nat} {p : Nat → Nat → Bool} : szR (mkR n p) = min n 64 := by simp [szR, mkR_len]
theorem hasN_mk {n : Nat} {p : Nat → Nat → Bool} {i k : Nat} (hn : n ≤ 64) : hasN (mkR n p) i k = (decide (i < n) && decide (k < n) && p i k) := by
  unfold hasN
  rw [szR_mk, Nat.min_eq_left hn]
  by_cases hi : i < n
  · rw [mkR_get hi]
    by_cases hk : k < n
    · simp [hi, hk]; omega
    · simp [hk]
  · simp [hi]
theorem mkR_congr {n : Nat} {p q : Nat → Nat → Bool} (h : ∀ i k, i < n → k < n → p i k = q i k) : mkR n p = mkR n q := by
  apply mkR_ext mkR_len
  intro i k hi hk
  rw [mkR_get hi]
  by_cases hkn : k < n
  · rw [h i k hi hkn]; simp [hk]
  · simp [hkn]

/-! ### size, all, row, Has -/
def sp_size : Sp := ⟨List W × Bool, fun x => [.d (.list (x.1.map rowW) x.2)], fun x => .data (x.1.length ≤ maxLen) (.d (.int .i64 (szR x.1))) true⟩
theorem at_size (l : List W) (f : Bool) : sp_size.at [.d (.list (l.map rowW) f)] = .data (l.length ≤ maxLen) (.d (.int .i64 (szR l))) true :=
  Sp.at_enc (s := sp_size) (fun x y h => by
    obtain ⟨a, b⟩ := x; obtain ⟨a', b'⟩ := y
    simp only [sp_size, List.cons.injEq, AV.d.injEq, DV.list.injEq, and_true] at h
    rw [Z3i rowW_inj h.1, h.2]) (l, f)
theorem body_rel_size {T : Tab} : sp_size.Body T V_rel_size L_rel_size R_rel_size := by
  rintro ⟨l, f⟩ h
  refine .inl ⟨rfl, ?_⟩
  unfold V_rel_size L_rel_size R_rel_size
  simp only [↓Z2b, ↓Z05, ↓Z1g, ↓Z0m, ↓Z20, ↓Z1z, ↓Z3r, nf_mk, Z09, Z34, Z37, evN, Z1y, Z36, Z1x, Z1i, evT, Opd.ev, Z02, Z00, Z35, Z1d, Z0c, Z3e, LOp.isNew, State.prune, evLen, List.length_map, resQ, resV, resT, Z3y, RetS, AV.d.injEq, DV.int.injEq, ↓reduceIte, Nat.reduceBEq, List.length_nil, List.replicate_zero, List.append_nil, List.map_cons, List.map_nil, true_and, Nat.add_zero, Bool.false_eq_true, sp_size]
  unfold szR
  split <;> omega

def allB (n : Nat) : W := ofB (fun _ => true) n
theorem get_allB {n k : Nat} : (allB n).getLsbD k = (decide (k < n) && decide (k < 64)) := by unfold allB; rw [get_ofB]; simp
theorem allB_sub {n : Nat} (h : n < 64) : (1#64 <<< n) - 1#64 = allB n := by
  apply W.ext
  intro k hk
  rw [get_allB, BitVec.getLsbD]
  have e : ((1#64 <<< n) - 1#64).toNat = 2 ^ n - 1 := by
    have h1 : (1#64 <<< n).toNat = 2 ^ n := by
      rw [BitVec.toNat_shiftLeft, Nat.shiftLeft_eq]
      have : 2 ^ n < 2 ^ 64 := Nat.pow_lt_pow_right (by omega) h
      have e1 : (1#64).toNat = 1 := rfl
      rw [e1, Nat.one_mul]; exact Nat.mod_eq_of_lt this
    have h2 : (1#64).toNat = 1 := rfl
    rw [BitVec.toNat_sub, h1, h2]
    have : 2 ^ n < 2 ^ 64 := Nat.pow_lt_pow_right (by omega) h
    have : 0 < 2 ^ n := Nat.pow_pos (by omega)
    omega
  rw [e, Nat.testBit_two_pow_sub_one]
  simp [hk]
def sp_all : Sp := ⟨Int, fun n => [.d (.int .i64 n)], fun n => .data (0 ≤ n ∧ n ≤ 64) (.d (.int .u64 ((allB n.toNat).toNat : Int))) true⟩
theorem at_all (n : Int) : sp_all.at [.d (.int .i64 n)] = .data (0 ≤ n ∧ n ≤ 64) (.d (.int .u64 ((allB n.toNat).toNat : Int))) true :=
  Sp.at_enc (s := sp_all) (fun (x y : Int) h => by simpa [sp_all] using h) n
theorem body_rel_all {T : Tab} : sp_all.Body T V_rel_all L_rel_all R_rel_all := by
  rintro (n : Int) ⟨h1, h2⟩
  have h1 : 0 ≤ n := h1
  have h2 : n ≤ 64 := h2
  obtain ⟨n, rfl⟩ := Int.eq_ofNat_of_zero_le h1
  refine .inl ⟨rfl, ?_⟩
  unfold V_rel_all L_rel_all R_rel_all
  simp only [↓Z1a, ↓Z2b, ↓Z05, ↓Z1g, ↓Z19, ↓Z0m, ↓Z20, ↓Z33, ↓Z1z, ↓Z3r, ↓Z0i, nf_mk, Z09, Z34, Z37, evN, Z1y, Z36, Z1x, Z1i, Z2c, evT, Opd.ev, Z02, Z00, Z35, Z2a, Z2e, Z1d, Z0c, Z3e, LOp.isNew, State.prune, Z4c, Z4e, w_eq, Z06, evBin, binT, binQ, resQ, resV, resT, get_nil, RetS, AV.d.injEq, DV.int.injEq, ↓reduceIte, Nat.reduceBEq, List.length_nil, List.replicate_zero, List.append_nil, List.map_cons, List.map_nil, true_and, Nat.add_zero, Bool.false_eq_true, sp_all, wrapU (k := n) (by omega)]
  refine ⟨fun h => ?_, fun h => ⟨by omega, ?_⟩⟩
  · have : n = 64 := by omega
    subst this
    decide
  · rw [allB_sub (by omega)]

def sp_row : Sp := ⟨List W × Bool × Int, fun x => [.d (.list (x.1.map rowW) x.2.1), .d (.int .i64 x.2.2)], fun x => .data (0 ≤ x.2.2 ∧ x.1.length ≤ maxLen) (.d (.int .u64 ((rowG x.1 x.2.2.toNat).toNat : Int))) true⟩
theorem at_row (l : List W) (f : Bool) (i : Int) : sp_row.at [.d (.list (l.map rowW) f), .d (.int .i64 i)] = .data (0 ≤ i ∧ l.length ≤ maxLen) (.d (.int .u64 ((rowG l i.toNat).toNat : Int))) true :=
  Sp.at_enc (s := sp_row) (fun x y h => by
    obtain ⟨a, b, c⟩ := x; obtain ⟨a', b', c'⟩ := y
    simp only [sp_row, List.cons.injEq, AV.d.injEq, DV.list.injEq, DV.int.injEq, and_true, true_and] at h
    rw [Z3i rowW_inj h.1.1, h.1.2, h.2]) (l, f, i)
theorem row_and {R : List W} {i : Nat} (h : i < szR R) : R.getD i 0#64 &&& allB (szR R) = rowG R i := by
  apply W.ext
  intro k hk
  rw [BitVec.getLsbD_and, get_allB, get_rowG]
  unfold hasN
  simp only [h, decide_true, Bool.true_and, hk, Bool.and_true]
  rw [Bool.and_comm]
theorem row_out {R : List W} {i : Nat} (h : ¬ i < szR R) : rowG R i = 0#64 := by
  apply W.ext
  intro k hk
  rw [get_rowG]
  unfold hasN
  simp [h]
theorem body_rel_row {T : Tab} {n1 n2 : Nat} (k1 : Knows T n1 sp_size) (k2 : Knows T n2 sp_all) : sp_row.Body T V_rel_row (L_rel_row n1 n2) R_rel_row := by
  have F1 := k1.F; have G1 := k1.G; have F2 := k2.F; have G2 := k2.G
  rintro ⟨l, f, i⟩ ⟨h1, h2⟩
  have h1 : 0 ≤ i := h1
  have h2 : l.length ≤ maxLen := h2
  have := szR_le l
  have := szR_len l
  obtain ⟨i, rfl⟩ := Int.eq_ofNat_of_zero_le h1
  refine .inl ⟨rfl, ?_⟩
  unfold V_rel_row L_rel_row R_rel_row
  simp only [↓Z1a, ↓Z2b, ↓Z05, ↓Z1g, ↓Z19, ↓Z0m, ↓Z20, ↓Z33, ↓Z1z, ↓Z3r, ↓Z0i, nf_mk, Z09, Z18, Z34, Z37, evN, Z2i, Z1y, Z36, Z47, Z1x, Z17, Z1i, Z2c, evT, Opd.ev, Z02, Z00, Z35, Z2a, Z2e, Z1d, Z0c, Z3e, LOp.isNew, State.prune, Z0a, idx_W, rowW, Z15, w_and, w_eq, Z21, Z06, loadQ, evBin, binT, binQ, chk, Z3u, List.contains_nil, Bool.and_self, resQ, resV, resT, Z2d, Z3q, fnOf, Z3f, viewT, get_nil, RetS, AV.d.injEq, DV.int.injEq, ↓reduceIte, Nat.reduceBEq, List.length_cons, List.length_nil, List.replicate_zero, List.nil_append, List.cons_append, List.append_nil, List.map_cons, List.map_nil, List.all_cons, List.all_nil, List.getD_cons_zero, List.getD_cons_succ, List.flatten_cons, List.flatten_nil, Bool.not_false, true_and, Nat.reduceLT, List.reverse_cons, List.reverse_nil, Nat.zero_add, Nat.add_zero, Bool.false_eq_true, sp_row, F1, G1, F2, G2, at_size, at_all]
  refine ⟨h2, fun h => ⟨⟨by omega, by omega⟩, ⟨by omega, by omega⟩, ?_⟩, fun h => ?_⟩
  · rw [row_and (by omega)]
  · rw [row_out (by omega)]; rfl

def sp_Has : Sp := ⟨List W × Bool × Int × Int, fun x => [.d (.list (x.1.map rowW) x.2.1), .d (.int .i64 x.2.2.1), .d (.int .i64 x.2.2.2)], fun x => .data (x.1.length ≤ maxLen) (.d (.bool (hasI x.1 x.2.2.1 x.2.2.2))) true⟩
theorem at_Has (l : List W) (f : Bool) (i k : Int) : sp_Has.at [.d (.list (l.map rowW) f), .d (.int .i64 i), .d (.int .i64 k)] = .data (l.length ≤ maxLen) (.d (.bool (hasI l i k))) true :=
  Sp.at_enc (s := sp_Has) (fun x y h => by
    obtain ⟨a, b, c, d⟩ := x; obtain ⟨a', b', c', d'⟩ := y
    simp only [sp_Has, List.cons.injEq, AV.d.injEq, DV.list.injEq, DV.int.injEq, and_true, true_and] at h
    rw [Z3i rowW_inj h.1.1, h.1.2, h.2.1, h.2.2]) (l, f, i, k)
theorem hasI_no {R : List W} {i k : Int} (h : ¬ (0 ≤ i ∧ i < szR R ∧ 0 ≤ k ∧ k < szR R)) : hasI R i k = false := by
  unfold hasI hasN
  by_cases h1 : 0 ≤ i <;> by_cases h2 : 0 ≤ k <;> simp [h1, h2]
  intro h3 h4
  exact absurd ⟨h1, by omega, h2, by omega⟩ h
theorem hasI_nat {R : List W} {i k : Nat} : hasI R i k = hasN R i k := by
  unfold hasI
  simp
theorem body_rel_Has {T : Tab} {n1 : Nat} (k1 : Knows T n1 sp_size) : sp_Has.Body T V_rel_Has (L_rel_Has n1) R_rel_Has := by
  have F1 := k1.F; have G1 := k1.G
  rintro ⟨l, f, i, k⟩ h2
  have h2 : l.length ≤ maxLen := h2
  have := szR_le l
  have := szR_len l
  refine .inl ⟨rfl, ?_⟩
  unfold V_rel_Has L_rel_Has R_rel_Has
  simp only [↓Z2b, ↓Z05, ↓Z1g, ↓Z0m, ↓Z20, ↓Z1z, ↓Z3r, ↓Z0j, ↓Z08, ↓Z0i, nf_mk, Z09, Z34, Z1c, Z37, evN, Z2i, Z1y, Z36, Z1x, Z17, Z1i, Z2j, evT, Opd.ev, Z02, Z00, Z35, Z27, Z2a, Z1d, Z0c, Z3e, LOp.isNew, State.prune, Z0a, idx_W, rowW, Z15, Z4d, w_shr, w_bit, w_eq1, Bool.decide_eq_true, Z21, loadQ, evBin, binT, binQ, resQ, resV, resT, pickV, Z2d, Z3q, fnOf, Z3f, viewT, get_nil, RetS, AV.d.injEq, DV.bool.injEq, ↓reduceIte, Nat.reduceAdd, Nat.reduceBEq, List.length_cons, List.length_nil, List.replicate_zero, List.append_nil, List.map_cons, List.map_nil, List.getD_cons_zero, List.flatten_cons, List.flatten_nil, true_and, Nat.reduceLT, Nat.zero_add, Nat.add_zero, Bool.false_eq_true, sp_Has, F1, G1, at_size]
  refine ⟨h2, fun c1 => ⟨fun c2 => ⟨fun c3 => ⟨fun c4 => ?_, fun c4 => ?_⟩, fun c3 => ?_⟩, fun c2 => ?_⟩, fun c1 => ?_⟩
  · obtain ⟨i, rfl⟩ := Int.eq_ofNat_of_zero_le c1
    obtain ⟨k, rfl⟩ := Int.eq_ofNat_of_zero_le c3
    rw [wrapU (k := k) (by omega)]
    simp only [Z06, w_shr, w_eq1, w_bit]
    refine ⟨⟨by omega, by omega⟩, by omega, ?_⟩
    rw [hasI_nat]
    unfold hasN
    rw [decide_eq_true (by omega : i < szR l), decide_eq_true (by omega : k < szR l)]
    simp
  · rw [hasI_no (by omega)]
  · rw [hasI_no (by omega)]
  · rw [hasI_no (by omega)]
  · rw [hasI_no (by omega)]

/-! ### TrailingZeros64 -/
def sp_tz : Sp := ⟨W, fun x => [.d (.int .u64 (x.toNat : Int))], fun x => .data True (.d (.int .i64 (tz x))) true⟩
theorem at_tz (x : W) : sp_tz.at [.d (.int .u64 (x.toNat : Int))] = .data True (.d (.int .i64 (tz x))) true :=
  Sp.at_enc (s := sp_tz) (fun (x y : W) h => by
    simp only [sp_tz, List.cons.injEq, AV.d.injEq, DV.int.injEq, and_true, true_and] at h
    exact W.inj h) x
theorem tab_hit : ∀ t, t < 64 → ((BitVec.twoPow 64 t * 285870213051353865#64) >>> 58).toNat < 64 ∧ tabCells.getD ((BitVec.twoPow 64 t * 285870213051353865#64) >>> 58).toNat .nilp = .int .u8 t := by
  have h1 : ∀ t, t < 64 → ((BitVec.twoPow 64 t * 285870213051353865#64) >>> 58).toNat < 64 ∧ tabNum ((BitVec.twoPow 64 t * 285870213051353865#64) >>> 58).toNat = t := by decide +kernel
  intro t ht
  obtain ⟨h2, h3⟩ := h1 t ht
  refine ⟨h2, ?_⟩
  unfold tabCells
  rw [List.getD_eq_getElem?_getD, List.getElem?_map, List.getElem?_range h2, Option.map_some, Option.getD_some, h3]
/-- As a function that nobody reckons out. -/
theorem mulC_ex : ∃ f : W → W, (∀ x : W, IntKind.u64.wrap ((x.toNat : Int) * 285870213051353865) = ((f x).toNat : Int)) ∧
    ∀ t, t < 64 → (f (BitVec.twoPow 64 t) >>> 58).toNat < 64 ∧ tabCells.getD (f (BitVec.twoPow 64 t) >>> 58).toNat .nilp = .int .u8 t :=
  ⟨fun x => x * 285870213051353865#64, fun x => w_mulC, tab_hit⟩
theorem tabCells_len : tabCells.length = 64 := by simp [tabCells]
theorem body_math_bits_TrailingZeros64 {T : Tab} : sp_tz.Body T V_math_bits_TrailingZeros64 L_math_bits_TrailingZeros64 R_math_bits_TrailingZeros64 := by
  rintro (x : W) -
  refine .inl ⟨rfl, ?_⟩
  obtain ⟨f, hf, hf2⟩ := mulC_ex
  have hl := tabCells_len
  unfold V_math_bits_TrailingZeros64 L_math_bits_TrailingZeros64 R_math_bits_TrailingZeros64
  generalize tabCells = c at *
  simp only [↓Z1a, ↓Z2b, ↓Z05, ↓Z1g, ↓Z19, ↓Z0m, ↓Z20, ↓Z33, ↓Z1z, ↓Z3r, ↓Z0i, nf_mk, Z09, Z34, Z37, evN, Z1y, Z36, Z1x, Z1i, Z2c, evT, Opd.ev, Z02, Z00, Z35, Z2a, Z2e, Z1d, Z0c, Z3e, LOp.isNew, State.prune, Z0a, w_and, w_shr, w_neg, w_eq0, Z21, Z06, Int.reduceToNat, loadQ, evBin, evUn, Z0y, binT, binQ, resQ, resV, resT, get_nil, RetS, AV.d.injEq, DV.int.injEq, ↓reduceIte, Nat.reduceBEq, List.length_nil, List.replicate_zero, List.append_nil, List.map_cons, List.map_nil, true_and, Nat.zero_add, Nat.add_zero, Bool.false_eq_true, Nat.mul_one, sp_tz, hf]
  refine ⟨fun h => by rw [h, tz_zero]; rfl, fun h => ?_⟩
  obtain ⟨h1, -, -⟩ := tz_spec h
  obtain ⟨h3, h4⟩ := hf2 (tz x) h1
  rw [tz_low h, h4]
  simp only [↓Z2b, ↓Z0m, ↓Z20, ↓Z1z, ↓Z3r, nf_mk, Z09, Z34, Z37, evN, Z1y, Z36, Z1x, Z1i, evT, Opd.ev, Z02, Z00, Z35, State.prune, resQ, resV, resT, RetS, AV.d.injEq, DV.int.injEq, Nat.reduceBEq, List.append_nil, List.map_cons, List.map_nil, true_and]
  exact ⟨by omega, ⟨by omega, by omega⟩, by omega, wrap_id (by omega) (by omega)⟩

/-! ### Laid together -/
def sp_h2 (h : W → W → W) : Sp := ⟨W × W, fun x => [.d (.int .u64 (x.1.toNat : Int)), .d (.int .u64 (x.2.toNat : Int))], fun x => .data True (.d (.int .u64 ((h x.1 x.2).toNat : Int))) true⟩
theorem at_h2 (h : W → W → W) (x y : W) : (sp_h2 h).at [.d (.int .u64 (x.toNat : Int)), .d (.int .u64 (y.toNat : Int))] = .data True (.d (.int .u64 ((h x y).toNat : Int))) true :=
  Sp.at_enc (s := sp_h2 h) (fun x y h => by
    obtain ⟨a, b⟩ := x; obtain ⟨c, d⟩ := y
    simp only [sp_h2, List.cons.injEq, AV.d.injEq, DV.int.injEq, and_true, true_and] at h
    rw [W.inj h.1, W.inj h.2]) (x, y)
def fstW (x _ : W) : W := x
theorem body_rel_Plus_1 {T : Tab} : (sp_h2 fstW).Body T V_rel_Plus_1 L_rel_Plus_1 R_rel_Plus_1 := by
  rintro ⟨x, y⟩ -
  refine .inl ⟨rfl, ?_⟩
  unfold V_rel_Plus_1 L_rel_Plus_1 R_rel_Plus_1
  simp only [↓Z2b, ↓Z05, ↓Z1g, ↓Z0m, ↓Z20, ↓Z1z, ↓Z3r, nf_mk, Z09, Z34, Z37, evN, Z1y, Z36, Z1x, Z1i, evT, Opd.ev, Z02, Z00, Z35, Z1d, Z0c, Z3e, LOp.isNew, State.prune, resQ, resV, resT, RetS, ↓reduceIte, Nat.reduceBEq, List.length_nil, List.replicate_zero, List.append_nil, List.map_cons, List.map_nil, and_self, Nat.zero_add, Nat.add_zero, Bool.false_eq_true, sp_h2, fstW]

def mxR (A B : List W) : Nat := max (szR A) (szR B)
theorem mxR_le (A B : List W) : mxR A B ≤ 64 := by have := szR_le A; have := szR_le B; unfold mxR; omega
def layG (h : W → W → W) (A B : List W) : List W := (List.range (mxR A B)).map fun i => h (rowG A i) (rowG B i)
theorem layG_len {h : W → W → W} {A B : List W} : (layG h A B).length = mxR A B := by simp [layG]
def layOut (h : W → W → W) (A B : List W) : SpecR := .rows (A.length ≤ maxLen ∧ B.length ≤ maxLen) 1 ((layG h A B).map rowW)
/-- Told by the number of the function that is handed over. -/
def sp_lay (hs : Nat → Option (W → W → W)) : Sp := ⟨List W × Bool × List W × Bool × Nat, fun x => [.d (.list (x.1.map rowW) x.2.1), .d (.list (x.2.2.1.map rowW) x.2.2.2.1), .d (.fn x.2.2.2.2)],
  fun x => match hs x.2.2.2.2 with | some h => layOut h x.1 x.2.2.1 | none => .none⟩
theorem at_lay {hs : Nat → Option (W → W → W)} {g : Nat} {h : W → W → W} (hg : hs g = some h) (A B : List W) (e f : Bool) : (sp_lay hs).at [.d (.list (A.map rowW) e), .d (.list (B.map rowW) f), .d (.fn g)] = layOut h A B := by
  rw [show [AV.d (.list (A.map rowW) e), AV.d (.list (B.map rowW) f), AV.d (.fn g)] = (sp_lay hs).enc (A, e, B, f, g) from rfl]
  rw [Sp.at_enc (s := sp_lay hs) (fun x y h => by
    obtain ⟨a, b, c, d, e⟩ := x; obtain ⟨a', b', c', d', e'⟩ := y
    simp only [sp_lay, List.cons.injEq, AV.d.injEq, DV.list.injEq, DV.fn.injEq, and_true, true_and] at h
    rw [Z3i rowW_inj h.1.1, h.1.2, Z3i rowW_inj h.2.1.1, h.2.1.2, h.2.2]) (A, e, B, f, g)]
  simp only [sp_lay, hg]

theorem set_map_range {n i : Nat} {f : Nat → W} (h : i < n) : ((List.range i).map f ++ List.replicate (n - i) 0#64).set i (f i) = (List.range (i + 1)).map f ++ List.replicate (n - (i + 1)) 0#64 := by
  have e : List.replicate (n - i) 0#64 = 0#64 :: List.replicate (n - (i + 1)) 0#64 := by rw [← List.replicate_succ]; congr 1; omega
  rw [e, List.range_succ, List.map_append, List.append_assoc]
  have hl : ((List.range i).map f).length = i := by simp
  have := List.set_append_right (s := (List.range i).map f) (t := 0#64 :: List.replicate (n - (i + 1)) 0#64) i (f i) (by omega)
  rw [this, hl, Nat.sub_self]; rfl

theorem lay_body {T : Tab} {n1 n2 g : Nat} {h : W → W → W} (k1 : Knows T n1 sp_size) (k2 : Knows T n2 sp_row) (k3 : Knows T g (sp_h2 h)) (A B : List W) (e f : Bool) :
    (layOut h A B).asks fun Post => vck T 0 V_rel_lay (L_rel_lay n1 n2) ⟨Z1d 0 [.d (.list (A.map rowW) e), .d (.list (B.map rowW) f), .d (.fn g)], []⟩ (retK R_rel_lay Post) := by
  have F1 := k1.F; have G1 := k1.G; have F2 := k2.F; have G2 := k2.G; have F3 := k3.F; have G3 := k3.G
  rintro ⟨h1, h2⟩
  refine ⟨rows_len (f := rowW) (fun _ => rfl) _, ?_⟩
  unfold V_rel_lay L_rel_lay R_rel_lay
  simp only [↓Z05, ↓Z1g, ↓Z0d, ↓Z1l, ↓Z0m, ↓Z20, ↓Z1z, nf_mk, Z09, Z34, Z37, evN, Z2i, Z1y, Z36, Z1x, Z17, Z1i, evT, Opd.ev, Z02, Z00, Z35, Z3w, Z1d, Z0c, Z3e, LOp.isNew, State.prune, Z1e, evLen, Z0l, mkVec, evMk, Z2d, Z3q, fnOf, Z3f, viewT, Z3y, get_nil, ↓reduceIte, Nat.reduceAdd, Nat.reduceBEq, List.length_cons, List.length_nil, List.replicate_succ, List.replicate_zero, List.nil_append, List.append_nil, List.map_cons, List.map_nil, List.set_cons_zero, List.flatten_cons, List.flatten_nil, true_and, Nat.zero_add, Nat.add_zero, Bool.false_eq_true, F1, G1, at_size]
  have hm : (if ((szR B : Nat) : Int) > ((szR A : Nat) : Int) then ((szR B : Nat) : Int) else ((szR A : Nat) : Int)) = ((mxR A B : Nat) : Int) := by unfold mxR; split <;> omega
  have hle := mxR_le A B
  rw [hm]
  simp only [Z06]
  refine ⟨h1, h2, ⟨by omega, by omega, roomy_of (by omega) (by omega)⟩, ?_⟩
  refine Loop.fam [0, 1, 2, 7, 16, 17] (fun i : Nat => ⟨[(0, .d (.list (A.map rowW) e)), (1, .d (.list (B.map rowW) f)), (2, .d (.fn g)), (7, .ref 0 1 0 (mxR A B) true), (16, .d (.int .i64 (mxR A B : Nat))), (17, .d (.int .i64 i))],
      [.dvec 1 (((List.range i).map (fun i => h (rowG A i) (rowG B i)) ++ List.replicate (mxR A B - i) 0#64).map rowW)]⟩) (fun i => i ≤ mxR A B) (fun i => mxR A B - i) 0 [0] (by simp) (by simp) (by simp only [State.can, AV.can, HO.can, idx, Z02, Z00, Heap.at, Nat.reduceBEq, ↓reduceIte, Option.getD_some, Option.map_some, List.map_cons, List.map_nil, List.getD_cons_zero]; simp) (by omega) ?_
  intro i hi
  simp only [↓Z1a, ↓Z2b, ↓Z1k, ↓Z05, ↓Z1g, ↓Z19, ↓Z0d, ↓Z0m, ↓Z20, ↓Z30, ↓Z24, ↓Z1j, ↓Z1z, ↓Z3r, ↓Z41, ↓Z3x, ↓Z0i, nf_mk, Z09, Z34, Z37, evN, Z2i, Z1y, Z36, Z1x, Z17, Z1i, Z2c, evT, Opd.ev, Z02, Z00, Z35, Z45, Z3w, Z2a, Z2e, Z0c, Z3e, LOp.isNew, State.prune, Heap.at, rowW, Z26, Z15, Z04, Z0b, Z01, List.length_replicate, Z06, List.length_map, List.length_append, evBin, binT, binQ, resQ, resV, resT, Z2d, Z3q, fnOf, Z3f, viewT, putRow, get_nil, Nat.le_refl, ↓reduceIte, Nat.reduceBEq, List.length_cons, List.length_nil, List.replicate_zero, List.nil_append, List.append_nil, List.map_cons, List.map_nil, List.set_cons_zero, List.getD_cons_zero, List.drop_zero, List.drop_succ_cons, List.take_zero, List.flatten_cons, List.flatten_nil, true_and, and_true, and_self, Nat.zero_add, Nat.add_zero, Bool.false_eq_true, F2, G2, F3, G3, at_row, at_h2]
  refine ⟨fun c => ?_, fun c => ?_⟩
  · have c' : i < mxR A B := by omega
    rw [wrap_succ c' (by unfold maxLen; omega), set_map_range (f := fun i => h (rowG A i) (rowG B i)) c']
    refine ⟨⟨by omega, h1⟩, ⟨by omega, h2⟩, ⟨by omega, by omega⟩, by simp; omega, Z44.mk [0] (i + 1) (by simp) (by simp) (by simp only [State.can, AV.can, HO.can, idx, Z02, Z00, Heap.at, Nat.reduceBEq, ↓reduceIte, Option.getD_some, Option.map_some, List.map_cons, List.map_nil, List.getD_cons_zero]) (by show i + 1 ≤ mxR A B; omega) (by show mxR A B - (i + 1) < mxR A B - i; omega)⟩
  · have : i = mxR A B := by omega
    subst this
    rw [Nat.sub_self, List.replicate_zero, List.append_nil]
    exact .inl ⟨0, true, by simp [layG_len], rfl⟩

end Go.Ago

/- Contracts of package rel: Union, Inter, Minus, Then, Back. Conditions: none. -/
set_option maxRecDepth 100000
set_option linter.unusedSimpArgs false
set_option linter.unusedVariables false
namespace Go.Ago

theorem getD_set {l : List W} {i j : Nat} {x : W} (hi : i < l.length) : (l.set i x).getD j 0#64 = if i = j then x else l.getD j 0#64 := by
  rw [List.getD_eq_getElem?_getD, List.getElem?_set, List.getD_eq_getElem?_getD]
  by_cases e : i = j
  · subst e; simp [hi]
  · simp [e]
theorem mkR_set {n : Nat} {p q : Nat → Nat → Bool} {i : Nat} {x : W} (hi : i < n) (hx : ∀ k, k < 64 → x.getLsbD k = (decide (k < n) && q i k)) (ho : ∀ a k, a < n → k < n → a ≠ i → q a k = p a k) : (mkR n p).set i x = mkR n q := by
  apply mkR_ext (by simp [mkR_len])
  intro a k ha hk
  rw [getD_set (by rw [mkR_len]; exact hi)]
  by_cases e : i = a
  · subst e; rw [if_pos rfl]; exact hx k hk
  · rw [if_neg e, mkR_get ha]
    by_cases hkn : k < n
    · rw [ho a k ha hkn (Ne.symm e)]; simp [hk]
    · simp [hkn]
theorem mkR_zero {n : Nat} {p : Nat → Nat → Bool} (h : ∀ i k, i < n → k < n → p i k = false) : List.replicate n 0#64 = mkR n p := by
  apply mkR_ext (by simp)
  intro i k hi hk
  have e : (List.replicate n 0#64).getD i 0#64 = 0#64 := by
    rw [List.getD_eq_getElem?_getD, List.getElem?_replicate]; split <;> rfl
  rw [e]
  by_cases hkn : k < n
  · rw [h i k hi hkn]; simp
  · simp [hkn]
theorem hasN_off {R : List W} {i k : Nat} (h : ¬ k < szR R) : hasN R i k = false := by unfold hasN; simp [h]
/-- Two laid together, place by place. -/
def lay2 (q : Bool → Bool → Bool) (A B : List W) : List W := mkR (mxR A B) fun i k => q (hasN A i k) (hasN B i k)
theorem layG_get {h : W → W → W} {A B : List W} {i : Nat} (hi : i < mxR A B) : (layG h A B).getD i 0#64 = h (rowG A i) (rowG B i) := by
  unfold layG
  rw [List.getD_eq_getElem?_getD, List.getElem?_map, List.getElem?_range hi]; rfl
theorem layG_mk {h : W → W → W} {q : Bool → Bool → Bool} (hh : ∀ x y k, k < 64 → (h x y).getLsbD k = q (x.getLsbD k) (y.getLsbD k)) (hq : q false false = false) (A B : List W) : layG h A B = lay2 q A B := by
  apply mkR_ext layG_len
  intro i k hi hk
  rw [layG_get hi, hh _ _ _ hk, get_rowG, get_rowG]
  by_cases hkn : k < mxR A B
  · simp [hkn]
  · have h1 : ¬ k < szR A := by unfold mxR at hkn; omega
    have h2 : ¬ k < szR B := by unfold mxR at hkn; omega
    rw [hasN_off h1, hasN_off h2, hq]; simp [hkn]
def qOr (a b : Bool) : Bool := a || b
def qAnd (a b : Bool) : Bool := a && b
def qMinus (a b : Bool) : Bool := a && !b

/-! ### Then -/
def thenP (A B : List W) (i k : Nat) : Bool := (List.range 64).any fun j => hasN A i j && hasN B j k
theorem thenP_iff {A B : List W} {i k : Nat} : thenP A B i k = true ↔ ∃ j, hasN A i j = true ∧ hasN B j k = true := by
  unfold thenP
  rw [List.any_eq_true]
  constructor
  · rintro ⟨j, _, h⟩
    rw [Bool.and_eq_true] at h
    exact ⟨j, h⟩
  · rintro ⟨j, h1, h2⟩
    have := hasN_lt h1; have := szR_le A
    exact ⟨j, by simp; omega, by rw [h1, h2]; rfl⟩
def thenG (A B : List W) : List W := mkR (mxR A B) (thenP A B)
/-- What is there so far: rows ahead of i are done; of row i, what leads through bits that are not in x any more. -/
def thenS (A B : List W) (i : Nat) (x : W) (a k : Nat) : Bool := if a < i then thenP A B a k else if a = i then (List.range 64).any fun j => hasN A i j && !x.getLsbD j && hasN B j k else false
theorem thenS_iff {A B : List W} {i k : Nat} {x : W} : thenS A B i x i k = true ↔ ∃ j, hasN A i j = true ∧ x.getLsbD j = false ∧ hasN B j k = true := by
  unfold thenS
  rw [if_neg (Nat.lt_irrefl i), if_pos rfl, List.any_eq_true]
  constructor
  · rintro ⟨j, _, h⟩
    simp only [Bool.and_eq_true, Bool.not_eq_true'] at h
    exact ⟨j, h.1.1, h.1.2, h.2⟩
  · rintro ⟨j, h1, h2, h3⟩
    have := hasN_lt h1; have := szR_le A
    exact ⟨j, by simp; omega, by simp [h1, h2, h3]⟩
theorem beq_of_iff {a b : Bool} (h : a = true ↔ b = true) : a = b := by cases a <;> cases b <;> simp_all

def sp_Then : Sp := ⟨List W × Bool × List W × Bool, fun x => [.d (.list (x.1.map rowW) x.2.1), .d (.list (x.2.2.1.map rowW) x.2.2.2)], fun x => .rows (x.1.length ≤ maxLen ∧ x.2.2.1.length ≤ maxLen) 1 ((thenG x.1 x.2.2.1).map rowW)⟩
theorem at_Then (A B : List W) (e f : Bool) : sp_Then.at [.d (.list (A.map rowW) e), .d (.list (B.map rowW) f)] = .rows (A.length ≤ maxLen ∧ B.length ≤ maxLen) 1 ((thenG A B).map rowW) :=
  Sp.at_enc (s := sp_Then) (fun x y h => by
    obtain ⟨a, b, c, d⟩ := x; obtain ⟨a', b', c', d'⟩ := y
    simp only [sp_Then, List.cons.injEq, AV.d.injEq, DV.list.injEq, and_true] at h
    rw [Z3i rowW_inj h.1.1, h.1.2, Z3i rowW_inj h.2.1, h.2.2]) (A, e, B, f)
theorem body_rel_Then {T : Tab} {n1 n2 n3 : Nat} (k1 : Knows T n1 sp_size) (k2 : Knows T n2 sp_row) (k3 : Knows T n3 sp_tz) : sp_Then.Body T V_rel_Then (L_rel_Then n1 n2 n3) R_rel_Then := by
  have F1 := k1.F; have G1 := k1.G; have F2 := k2.F; have G2 := k2.G; have F3 := k3.F; have G3 := k3.G
  rintro ⟨A, e, B, f⟩ ⟨h1, h2⟩
  have h1 : A.length ≤ maxLen := h1
  have h2 : B.length ≤ maxLen := h2
  refine ⟨rows_len (f := rowW) (fun _ => rfl) _, ?_⟩
  unfold V_rel_Then L_rel_Then R_rel_Then
  simp only [↓Z05, ↓Z1g, ↓Z0d, ↓Z1l, ↓Z0m, ↓Z20, ↓Z1z, nf_mk, Z09, Z34, Z37, evN, Z2i, Z1y, Z36, Z1x, Z17, Z1i, evT, Opd.ev, Z02, Z00, Z35, Z3w, Z1d, Z0c, Z3e, LOp.isNew, State.prune, Z1e, evLen, Z0l, mkVec, evMk, Z2d, Z3q, fnOf, Z3f, viewT, Z3y, get_nil, ↓reduceIte, Nat.reduceBEq, List.length_cons, List.length_nil, List.replicate_succ, List.replicate_zero, List.nil_append, List.append_nil, List.map_cons, List.map_nil, List.set_cons_zero, List.flatten_cons, List.flatten_nil, true_and, Nat.zero_add, Nat.add_zero, Bool.false_eq_true, sp_Then, F1, G1, at_size]
  have hm : (if ((szR B : Nat) : Int) > ((szR A : Nat) : Int) then ((szR B : Nat) : Int) else ((szR A : Nat) : Int)) = ((mxR A B : Nat) : Int) := by unfold mxR; split <;> omega
  have hle := mxR_le A B
  have hA : szR A ≤ mxR A B := by unfold mxR; omega
  rw [hm]
  generalize hn : mxR A B = n at *
  simp only [Z06]
  refine ⟨h1, h2, ⟨by omega, by omega, roomy_of (by omega) (by omega)⟩, ?_⟩
  refine Loop.fam [0, 1, 5, 15, 16] (fun i : Nat => ⟨[(0, .d (.list (A.map rowW) e)), (1, .d (.list (B.map rowW) f)), (5, .ref 0 1 0 n true), (15, .d (.int .i64 n)), (16, .d (.int .i64 i))],
      [.dvec 1 ((mkR n (thenS A B i (rowG A i))).map rowW)]⟩) (fun i => i ≤ n) (fun i => n - i) 0 [0] (by simp) (by simp) (by
        simp only [State.can, AV.can, HO.can, idx, Z02, Z00, Heap.at, Nat.reduceBEq, ↓reduceIte, Option.getD_some, Option.map_some, List.map_cons, List.map_nil, List.getD_cons_zero]
        rw [mkR_zero (p := thenS A B 0 (rowG A 0))]
        · rfl
        · intro a k _ _
          unfold thenS
          rw [if_neg (by omega)]
          split
          · rename_i e0; subst e0
            rw [List.any_eq_false]
            intro j _
            rw [get_rowG]
            cases hasN A 0 j <;> simp
          · rfl) (by omega) ?_
  intro i hi
  simp only [↓Z1a, ↓Z2b, ↓Z1k, ↓Z05, ↓Z1g, ↓Z19, ↓Z0d, ↓Z1l, ↓Z0m, ↓Z20, ↓Z30, ↓Z1j, ↓Z1z, ↓Z3r, ↓Z3x, ↓Z0i, nf_mk, Z09, Z34, Z37, evN, Z2i, Z1y, Z36, Z1x, Z17, Z1i, Z2c, evT, Opd.ev, Z02, Z00, Z35, Z2a, Z2e, Z0c, Z3e, LOp.isNew, State.prune, Z06, evBin, binT, binQ, resQ, resV, resT, Z2d, Z3q, fnOf, Z3f, viewT, get_nil, ↓reduceIte, Nat.reduceBEq, List.length_cons, List.length_nil, List.replicate_zero, List.append_nil, List.map_cons, List.map_nil, List.flatten_cons, List.flatten_nil, true_and, Nat.zero_add, Nat.add_zero, Bool.false_eq_true, F2, G2, at_row]
  refine ⟨fun c => ?_, fun c => ?_⟩
  · have c' : i < n := by omega
    refine ⟨⟨by omega, h1⟩, ?_⟩
    refine Loop.fam [0, 1, 5, 6, 7, 15, 16] (fun x : W => ⟨[(0, .d (.list (A.map rowW) e)), (1, .d (.list (B.map rowW) f)), (5, .ref 0 1 0 n true), (6, .d (.int .i64 i)), (7, .d (.int .u64 (x.toNat : Int))), (15, .d (.int .i64 n)), (16, .d (.int .i64 i))],
      [.dvec 1 ((mkR n (thenS A B i x)).map rowW)]⟩) (fun x => ∀ j, x.getLsbD j = true → hasN A i j = true) (fun x => x.toNat) (rowG A i) [0] (by simp) (by simp) (by simp only [State.can, AV.can, HO.can, idx, Z02, Z00, Heap.at, Nat.reduceBEq, ↓reduceIte, Option.getD_some, Option.map_some, List.map_cons, List.map_nil, List.getD_cons_zero]) (fun j h => by rw [get_rowG] at h; exact h) ?_
    intro x hx
    simp only [↓Z1a, ↓Z1k, ↓Z05, ↓Z1g, ↓Z19, ↓Z0d, ↓Z0m, ↓Z20, ↓Z30, ↓Z24, ↓Z1j, ↓Z1z, ↓Z41, ↓Z3x, ↓Z1b, ↓Z0i, nf_mk, Z09, Z18, Z34, Z37, evN, Z2i, Z1y, Z36, Z47, Z1x, Z17, Z1i, Z2c, evT, Opd.ev, Z02, Z00, Z35, Z45, Z3w, Z2a, Z2e, Z0c, Z3e, LOp.isNew, State.prune, Heap.at, Z0k, Z03, rowW, Z26, Z15, w_or, w_and, Z4e, w_eq0, Z04, Z0b, Z01, Z21, Z06, loadQ, evBin, binT, binQ, chk, Z3u, List.contains_cons, List.contains_nil, Bool.or_false, Bool.and_self, Z2d, Z3q, fnOf, Z3f, viewT, putRow, get_nil, Nat.le_refl, ↓reduceIte, Nat.reduceBEq, List.length_cons, List.length_nil, List.replicate_zero, List.nil_append, List.cons_append, List.append_nil, List.map_cons, List.map_nil, List.all_cons, List.all_nil, List.set_cons_zero, List.getD_cons_zero, List.getD_cons_succ, List.drop_zero, List.drop_succ_cons, List.take_zero, List.flatten_cons, List.flatten_nil, Bool.not_false, true_and, and_true, and_self, Nat.reduceLT, List.reverse_cons, List.reverse_nil, Nat.zero_add, Nat.add_zero, Bool.false_eq_true, F2, G2, F3, G3, at_row, at_tz]
    refine ⟨fun hz => ?_, fun hz => ?_⟩
    rotate_left
    · obtain ⟨t1, t2, t3⟩ := tz_spec hz
      have hat := hx _ t2
      rw [mkR_len]
      refine ⟨by omega, by omega, by omega, by omega, by omega, ?_⟩
      refine Z44.mk [0] (x &&& (x - 1#64)) (by simp) (by simp) ?_ (fun j hj => hx j (by rw [tz_rest hz] at hj; rw [Bool.and_eq_true] at hj; exact hj.1)) (tz_less hz)
      rw [mkR_set (q := thenS A B i (x &&& (x - 1#64))) c']
      · simp only [State.can, AV.can, HO.can, idx, Z02, Z00, Heap.at, Nat.reduceBEq, ↓reduceIte, Option.getD_some, Option.map_some, List.map_cons, List.map_nil, List.getD_cons_zero]
      · intro k hk
        rw [BitVec.getLsbD_or, mkR_get c', get_rowG]
        by_cases hkn : k < n
        · simp only [hkn, hk, decide_true, Bool.true_and]
          apply beq_of_iff
          rw [Bool.or_eq_true, thenS_iff, thenS_iff]
          constructor
          · rintro (⟨j, g1, g2, g3⟩ | g)
            · exact ⟨j, g1, by rw [tz_rest hz, g2]; rfl, g3⟩
            · exact ⟨tz x, hat, by rw [tz_rest hz]; simp, g⟩
          · rintro ⟨j, g1, g2, g3⟩
            rw [tz_rest hz, Bool.and_eq_false_iff] at g2
            rcases g2 with g2 | g2
            · exact .inl ⟨j, g1, g2, g3⟩
            · have : j = tz x := by simpa using g2
              subst this; exact .inr g3
        · have : ¬ k < szR B := by unfold mxR at hn; omega
          rw [hasN_off this]; simp [hkn]
      · intro a k ha hk hne
        unfold thenS
        rw [if_neg hne, if_neg hne]
    · have hz : x = 0#64 := by simpa using hz
      subst hz
      rw [wrap_succ c' (by unfold maxLen; omega)]
      refine Z44.mk [0] (i + 1) (by simp) (by simp) ?_ (by show i + 1 ≤ n; omega) (by show n - (i + 1) < n - i; omega)
      have : mkR n (thenS A B i 0#64) = mkR n (thenS A B (i + 1) (rowG A (i + 1))) := by
        apply mkR_congr
        intro a k ha hk
        by_cases e1 : a < i
        · unfold thenS; rw [if_pos e1, if_pos (by omega)]
        · by_cases e2 : a = i
          · subst e2
            apply beq_of_iff
            rw [thenS_iff]
            unfold thenS
            rw [if_pos (by omega), thenP_iff]
            simp
          · unfold thenS
            rw [if_neg e1, if_neg e2, if_neg (by omega)]
            split
            · rename_i e3; subst e3
              symm
              rw [List.any_eq_false]
              intro j _
              rw [get_rowG]
              cases hasN A (i + 1) j <;> simp
            · rfl
      rw [this]
      simp only [State.can, AV.can, HO.can, idx, Z02, Z00, Heap.at, Nat.reduceBEq, ↓reduceIte, Option.getD_some, Option.map_some, List.map_cons, List.map_nil, List.getD_cons_zero]
  · have : i = n := by omega
    subst this
    have : mkR i (thenS A B i (rowG A i)) = thenG A B := by
      unfold thenG
      rw [hn]
      apply mkR_congr
      intro a k ha hk
      unfold thenS
      rw [if_pos ha]
    rw [this]
    exact .inl ⟨0, true, by simp [thenG, mkR_len, hn], rfl⟩
end Go.Ago

/- Contracts of package rel: Back, Plus, Star, Ring. Conditions: none. -/
set_option maxRecDepth 100000
set_option linter.unusedSimpArgs false
set_option linter.unusedVariables false
namespace Go.Ago

/-! ### Back -/
def backG (R : List W) : List W := mkR (szR R) fun i k => hasN R k i
def backS (R : List W) (i : Nat) (x : W) (a k : Nat) : Bool := hasN R k a && (decide (k < i) || decide (k = i) && !x.getLsbD a)
def sp_Back : Sp := ⟨List W × Bool, fun x => [.d (.list (x.1.map rowW) x.2)], fun x => .rows (x.1.length ≤ maxLen) 1 ((backG x.1).map rowW)⟩
theorem at_Back (A : List W) (e : Bool) : sp_Back.at [.d (.list (A.map rowW) e)] = .rows (A.length ≤ maxLen) 1 ((backG A).map rowW) :=
  Sp.at_enc (s := sp_Back) (fun x y h => by
    obtain ⟨a, b⟩ := x; obtain ⟨a', b'⟩ := y
    simp only [sp_Back, List.cons.injEq, AV.d.injEq, DV.list.injEq, and_true] at h
    rw [Z3i rowW_inj h.1, h.2]) (A, e)
theorem one_shl {i k : Nat} (hi : i < 64) : (1#64 <<< i).getLsbD k = decide (i = k) := by
  by_cases hk : k < 64
  · rw [BitVec.getLsbD_shiftLeft, BitVec.getLsbD_one]
    by_cases e : i = k
    · subst e; simp [hi]
    · by_cases e2 : k < i
      · simp [e2, e]
      · have : ¬ k - i = 0 := by omega
        simp [e, this]
  · rw [getLsb_ge (by omega)]; simp; omega
theorem body_rel_Back {T : Tab} {n1 n2 n3 : Nat} (k1 : Knows T n1 sp_size) (k2 : Knows T n2 sp_row) (k3 : Knows T n3 sp_tz) : sp_Back.Body T V_rel_Back (L_rel_Back n1 n2 n3) R_rel_Back := by
  have F1 := k1.F; have G1 := k1.G; have F2 := k2.F; have G2 := k2.G; have F3 := k3.F; have G3 := k3.G
  rintro ⟨A, e⟩ h1
  have h1 : A.length ≤ maxLen := h1
  refine ⟨rows_len (f := rowW) (fun _ => rfl) _, ?_⟩
  unfold V_rel_Back L_rel_Back R_rel_Back
  simp only [↓Z05, ↓Z1g, ↓Z0d, ↓Z1l, ↓Z0m, ↓Z20, ↓Z1z, nf_mk, Z09, Z34, Z37, evN, Z2i, Z1y, Z36, Z1x, Z17, Z1i, evT, Opd.ev, Z02, Z00, Z35, Z3w, Z1d, Z0c, Z3e, LOp.isNew, State.prune, Z1e, Z06, evLen, Z0l, mkVec, evMk, Z2d, Z3q, fnOf, Z3f, viewT, get_nil, ↓reduceIte, Nat.reduceBEq, List.length_cons, List.length_nil, List.replicate_succ, List.replicate_zero, List.nil_append, List.append_nil, List.map_cons, List.map_nil, List.set_cons_zero, List.flatten_cons, List.flatten_nil, true_and, Nat.zero_add, Nat.add_zero, Bool.false_eq_true, sp_Back, F1, G1, at_size]
  have hle := szR_le A
  generalize hn : szR A = n at *
  refine ⟨h1, ⟨by omega, by omega, roomy_of (by omega) (by omega)⟩, ?_⟩
  refine Loop.fam [0, 3, 10, 11] (fun i : Nat => ⟨[(0, .d (.list (A.map rowW) e)), (3, .ref 0 1 0 n true), (10, .d (.int .i64 n)), (11, .d (.int .i64 i))],
      [.dvec 1 ((mkR n (backS A i (rowG A i))).map rowW)]⟩) (fun i => i ≤ n) (fun i => n - i) 0 [0] (by simp) (by simp) (by
        simp only [State.can, AV.can, HO.can, idx, Z02, Z00, Heap.at, Nat.reduceBEq, ↓reduceIte, Option.getD_some, Option.map_some, List.map_cons, List.map_nil, List.getD_cons_zero]
        rw [mkR_zero (p := backS A 0 (rowG A 0))]
        · rfl
        · intro a k _ _
          unfold backS
          rw [get_rowG]
          by_cases e0 : k = 0
          · subst e0; cases hasN A 0 a <;> simp
          · simp [e0]) (by omega) ?_
  intro i hi
  simp only [↓Z1a, ↓Z2b, ↓Z1k, ↓Z05, ↓Z1g, ↓Z19, ↓Z0d, ↓Z1l, ↓Z0m, ↓Z20, ↓Z30, ↓Z1j, ↓Z1z, ↓Z3r, ↓Z3x, ↓Z0i, nf_mk, Z09, Z34, Z37, evN, Z2i, Z1y, Z36, Z1x, Z17, Z1i, Z2c, evT, Opd.ev, Z02, Z00, Z35, Z2a, Z2e, Z0c, Z3e, LOp.isNew, State.prune, Z06, evBin, binT, binQ, resQ, resV, resT, Z2d, Z3q, fnOf, Z3f, viewT, get_nil, ↓reduceIte, Nat.reduceBEq, List.length_cons, List.length_nil, List.replicate_zero, List.append_nil, List.map_cons, List.map_nil, List.flatten_cons, List.flatten_nil, true_and, Nat.zero_add, Nat.add_zero, Bool.false_eq_true, F2, G2, at_row]
  refine ⟨fun c => ?_, fun c => ?_⟩
  · have c' : i < n := by omega
    refine ⟨⟨by omega, h1⟩, ?_⟩
    refine Loop.fam [0, 3, 4, 5, 10, 11] (fun x : W => ⟨[(0, .d (.list (A.map rowW) e)), (3, .ref 0 1 0 n true), (4, .d (.int .i64 i)), (5, .d (.int .u64 (x.toNat : Int))), (10, .d (.int .i64 n)), (11, .d (.int .i64 i))],
      [.dvec 1 ((mkR n (backS A i x)).map rowW)]⟩) (fun x => ∀ j, x.getLsbD j = true → hasN A i j = true) (fun x => x.toNat) (rowG A i) [0] (by simp) (by simp) (by simp only [State.can, AV.can, HO.can, idx, Z02, Z00, Heap.at, Nat.reduceBEq, ↓reduceIte, Option.getD_some, Option.map_some, List.map_cons, List.map_nil, List.getD_cons_zero]) (fun j h => by rw [get_rowG] at h; exact h) ?_
    intro x hx
    simp only [↓Z1a, ↓Z1k, ↓Z05, ↓Z1g, ↓Z19, ↓Z0d, ↓Z0m, ↓Z20, ↓Z30, ↓Z24, ↓Z1j, ↓Z1z, ↓Z41, ↓Z3x, ↓Z1b, ↓Z0i, nf_mk, Z09, Z34, Z37, evN, Z2i, Z1y, Z36, Z1x, Z17, Z1i, Z2c, evT, Opd.ev, Z02, Z00, Z35, Z45, Z3w, Z2a, Z2e, Z0c, Z3e, LOp.isNew, State.prune, Heap.at, Z0k, Z03, rowW, Z26, Z15, w_or, w_and, Z4c, Z4e, w_eq0, Z04, Z0b, Z01, Z21, Z06, loadQ, evBin, binT, binQ, Z2d, Z3q, fnOf, Z3f, viewT, putRow, get_nil, Nat.le_refl, ↓reduceIte, Nat.reduceBEq, List.length_cons, List.length_nil, List.replicate_zero, List.nil_append, List.append_nil, List.map_cons, List.map_nil, List.set_cons_zero, List.getD_cons_zero, List.drop_zero, List.drop_succ_cons, List.take_zero, List.flatten_cons, List.flatten_nil, true_and, and_true, and_self, Nat.reduceLT, Nat.zero_add, Nat.add_zero, Bool.false_eq_true, F3, G3, at_tz, wrapU (k := i) (by omega)]
    refine ⟨fun hz => ?_, fun hz => ?_⟩
    rotate_left
    · obtain ⟨t1, t2, t3⟩ := tz_spec hz
      have hat := hx _ t2
      have htn : tz x < n := by have := (hasN_lt hat).2; omega
      rw [mkR_len]
      refine ⟨by omega, by omega, by omega, by omega, by omega, ?_⟩
      refine Z44.mk [0] (x &&& (x - 1#64)) (by simp) (by simp) ?_ (fun j hj => hx j (by rw [tz_rest hz] at hj; rw [Bool.and_eq_true] at hj; exact hj.1)) (tz_less hz)
      rw [mkR_set (q := backS A i (x &&& (x - 1#64))) htn]
      · simp only [State.can, AV.can, HO.can, idx, Z02, Z00, Heap.at, Nat.reduceBEq, ↓reduceIte, Option.getD_some, Option.map_some, List.map_cons, List.map_nil, List.getD_cons_zero]
      · intro k hk
        rw [BitVec.getLsbD_or, mkR_get htn, one_shl (by omega)]
        unfold backS
        rw [tz_rest hz]
        by_cases hkn : k < n
        · by_cases e1 : k = i
          · subst e1; simp [hkn, hk, hat]
          · have : ¬ i = k := fun h => e1 h.symm
            simp [hkn, hk, e1, this]
        · have : ¬ i = k := by omega
          simp [hkn, this]
      · intro a k ha hk hne
        unfold backS
        rw [tz_rest hz]
        simp [hne]
    · have hz : x = 0#64 := by simpa using hz
      subst hz
      rw [wrap_succ c' (by unfold maxLen; omega)]
      refine Z44.mk [0] (i + 1) (by simp) (by simp) ?_ (by show i + 1 ≤ n; omega) (by show n - (i + 1) < n - i; omega)
      have : mkR n (backS A i 0#64) = mkR n (backS A (i + 1) (rowG A (i + 1))) := by
        apply mkR_congr
        intro a k ha hk
        unfold backS
        rw [get_rowG]
        by_cases e1 : k < i
        · have : k < i + 1 := by omega
          simp [e1, this]
        · by_cases e2 : k = i
          · subst e2; simp
          · have : ¬ k < i + 1 := by omega
            by_cases e3 : k = i + 1
            · subst e3; cases hasN A (i + 1) a <;> simp
            · simp [e1, e2, e3, this]
      rw [this]
      simp only [State.can, AV.can, HO.can, idx, Z02, Z00, Heap.at, Nat.reduceBEq, ↓reduceIte, Option.getD_some, Option.map_some, List.map_cons, List.map_nil, List.getD_cons_zero]
  · have : i = n := by omega
    subst this
    have : mkR i (backS A i (rowG A i)) = backG A := by
      unfold backG
      rw [hn]
      apply mkR_congr
      intro a k ha hk
      unfold backS
      simp [hk]
    rw [this]
    exact .inl ⟨0, true, by simp [backG, mkR_len, hn], rfl⟩

/-! ### Plus -/
/-- Ways whose places between are ahead of m. -/
def way (p : Nat → Nat → Bool) : Nat → Nat → Nat → Bool
  | 0, i, k => p i k
  | m + 1, i, k => way p m i k || way p m i m && way p m m k
def plusG (R : List W) : List W := mkR (szR R) (way (hasN R) (szR R))
def plusS (R : List W) (m i a b : Nat) : Bool := if a < i then way (hasN R) (m + 1) a b else way (hasN R) m a b
def sp_Plus : Sp := ⟨List W × Bool, fun x => [.d (.list (x.1.map rowW) x.2)], fun x => .rows (x.1.length ≤ maxLen) 1 ((plusG x.1).map rowW)⟩
theorem at_Plus (A : List W) (e : Bool) : sp_Plus.at [.d (.list (A.map rowW) e)] = .rows (A.length ≤ maxLen) 1 ((plusG A).map rowW) :=
  Sp.at_enc (s := sp_Plus) (fun x y h => by
    obtain ⟨a, b⟩ := x; obtain ⟨a', b'⟩ := y
    simp only [sp_Plus, List.cons.injEq, AV.d.injEq, DV.list.injEq, and_true] at h
    rw [Z3i rowW_inj h.1, h.2]) (A, e)
theorem szR_nil : szR [] = 0 := rfl
theorem lay_fst (A : List W) : layG fstW A [] = mkR (szR A) (hasN A) := by
  rw [layG_mk (h := fstW) (q := fun a _ => a) (fun x y k _ => rfl) rfl]
  unfold lay2 mxR
  rw [szR_nil, Nat.max_eq_left (Nat.zero_le _)]
theorem plus_body {T : Tab} {n1 n2 : Nat} {hs : Nat → Option (W → W → W)} (k1 : Knows T n1 (sp_lay hs)) (e1 : hs n2 = some fstW) :
    sp_Plus.Body T V_rel_Plus (L_rel_Plus n1 n2) R_rel_Plus := by
  have F1 := k1.F; have G1 := k1.G
  rintro ⟨A, e⟩ h1
  have h1 : A.length ≤ maxLen := h1
  refine ⟨rows_len (f := rowW) (fun _ => rfl) _, ?_⟩
  have hat : ∀ f : Bool, (sp_lay hs).at [.d (.list (A.map rowW) e), .d (.list [] f), .d (.fn n2)] = .rows (A.length ≤ maxLen ∧ 0 ≤ maxLen) 1 ((mkR (szR A) (hasN A)).map rowW) := fun f => by
    have := at_lay e1 A [] e f
    unfold layOut at this
    rw [lay_fst] at this
    exact this
  unfold V_rel_Plus L_rel_Plus R_rel_Plus
  simp only [↓Z05, ↓Z1g, ↓Z0d, ↓Z1l, ↓Z0m, ↓Z20, ↓Z1z, nf_mk, Z09, Z34, Z37, evN, Z2i, Z1y, Z36, Z1x, Z17, Z1i, evT, Opd.ev, Z02, Z00, Z35, Z3w, Z1d, Z0c, Z3e, LOp.isNew, State.prune, Z1f, evLen, List.length_map, Z2d, Z3q, fnOf, Z3f, viewT, get_nil, ↓reduceIte, Nat.reduceBEq, List.length_cons, List.length_nil, List.replicate_succ, List.replicate_zero, List.nil_append, List.append_nil, List.map_cons, List.map_nil, List.set_cons_zero, List.flatten_cons, List.flatten_nil, true_and, and_true, or_true, Nat.zero_add, Nat.add_zero, Bool.false_eq_true, sp_Plus, F1, G1, hat]
  have hle := szR_le A
  rw [mkR_len]
  generalize hn : szR A = n at *
  refine ⟨⟨h1, by omega⟩, ?_⟩
  refine Loop.fam [3, 9, 10] (fun m : Nat => ⟨[(3, .ref 0 1 0 n true), (9, .d (.int .i64 n)), (10, .d (.int .i64 m))],
      [.dvec 1 ((mkR n (way (hasN A) m)).map rowW)]⟩) (fun m => m ≤ n) (fun m => n - m) 0 [0] (by simp) (by simp) (by simp only [State.can, AV.can, HO.can, idx, Z02, Z00, Heap.at, Nat.reduceBEq, ↓reduceIte, Option.getD_some, Option.map_some, List.map_cons, List.map_nil, List.getD_cons_zero]; rfl) (by omega) ?_
  intro m hm
  simp only [↓Z1a, ↓Z2b, ↓Z1k, ↓Z05, ↓Z1g, ↓Z19, ↓Z0d, ↓Z1l, ↓Z0m, ↓Z20, ↓Z30, ↓Z1j, ↓Z1z, ↓Z3r, ↓Z3x, ↓Z0i, nf_mk, Z09, Z34, Z37, evN, Z1y, Z36, Z1x, Z1i, Z2c, evT, Opd.ev, Z02, Z00, Z35, Z2a, Z2e, Z0c, Z3e, LOp.isNew, State.prune, evLen, evBin, binT, binQ, resQ, resV, resT, get_nil, ↓reduceIte, Nat.reduceBEq, List.length_cons, List.length_nil, List.replicate_zero, List.append_nil, List.map_cons, List.map_nil, true_and, Nat.zero_add, Nat.add_zero, Bool.false_eq_true]
  refine ⟨fun c => ?_, fun c => ?_⟩
  · have c' : m < n := by omega
    refine Loop.fam [3, 4, 9, 10, 14, 15] (fun i : Nat => ⟨[(3, .ref 0 1 0 n true), (4, .d (.int .i64 m)), (9, .d (.int .i64 n)), (10, .d (.int .i64 m)), (14, .d (.int .i64 n)), (15, .d (.int .i64 i))],
      [.dvec 1 ((mkR n (plusS A m i)).map rowW)]⟩) (fun i => i ≤ n) (fun i => n - i) 0 [0] (by simp) (by simp) (by
        simp only [State.can, AV.can, HO.can, idx, Z02, Z00, Heap.at, Nat.reduceBEq, ↓reduceIte, Option.getD_some, Option.map_some, List.map_cons, List.map_nil, List.getD_cons_zero]
        rw [show mkR n (plusS A m 0) = mkR n (way (hasN A) m) from mkR_congr fun a b _ _ => by unfold plusS; rw [if_neg (by omega)]]
        rfl) (by omega) ?_
    intro i hi
    simp only [↓Z1a, ↓Z1k, ↓Z05, ↓Z1g, ↓Z19, ↓Z0d, ↓Z0m, ↓Z20, ↓Z30, ↓Z24, ↓Z1j, ↓Z1z, ↓Z41, ↓Z3x, ↓Z0i, nf_mk, Z09, Z18, Z34, Z37, evN, Z1y, Z36, Z47, Z1x, Z1i, Z2c, evT, Opd.ev, Z02, Z00, Z35, Z45, Z3w, Z2a, Z2e, Z0c, Z3e, LOp.isNew, State.prune, Heap.at, Z0k, Z03, rowW, Z26, Z15, w_or, Z4d, w_shr, w_bit, w_eq1, Bool.decide_eq_true, Z04, Z0b, Z01, Z21, Z06, loadQ, evBin, binT, binQ, chk, Z3u, putRow, get_nil, Nat.le_refl, ↓reduceIte, Nat.reduceBEq, List.length_cons, List.length_nil, List.replicate_zero, List.nil_append, List.cons_append, List.append_nil, List.map_cons, List.map_nil, List.all_nil, List.set_cons_zero, List.getD_cons_zero, List.drop_zero, List.drop_succ_cons, List.take_zero, true_and, and_true, and_self, Nat.reduceLT, List.reverse_cons, List.reverse_nil, Nat.zero_add, Nat.add_zero, Bool.false_eq_true, wrapU (k := m) (by omega)]
    rw [mkR_len]
    refine ⟨fun g => ?_, fun g => ?_⟩
    · have g' : i < n := by omega
      have bit : ((mkR n (plusS A m i)).getD i 0#64).getLsbD m = way (hasN A) m i m := by
        rw [mkR_get g']
        unfold plusS
        rw [if_neg (by omega)]
        simp only [decide_eq_true c', decide_eq_true (by omega : m < 64), Bool.true_and]
      rw [bit, wrap_succ g' (by unfold maxLen; omega)]
      refine ⟨by omega, by omega, by omega, fun hb => ⟨by omega, by omega, by omega, by omega, by omega, by omega, ?_⟩, fun hb => ?_⟩
      · refine Z44.mk [0] (i + 1) (by simp) (by simp) ?_ (by show i + 1 ≤ n; omega) (by show n - (i + 1) < n - i; omega)
        rw [mkR_set (q := plusS A m (i + 1)) g']
        · simp only [State.can, AV.can, HO.can, idx, Z02, Z00, Heap.at, Nat.reduceBEq, ↓reduceIte, Option.getD_some, Option.map_some, List.map_cons, List.map_nil, List.getD_cons_zero]
        · intro k hk
          rw [BitVec.getLsbD_or, mkR_get g', mkR_get c']
          by_cases hkn : k < n
          · simp only [hkn, hk, decide_true, Bool.true_and]
            have g1 : plusS A m i i k = way (hasN A) m i k := if_neg (by omega)
            have g2 : plusS A m (i + 1) i k = way (hasN A) (m + 1) i k := if_pos (by omega)
            have g3 : plusS A m i m k = way (hasN A) m m k := by
              unfold plusS
              split
              · simp only [way]; cases way (hasN A) m m k <;> simp
              · rfl
            rw [g1, g2, g3]
            simp only [way, hb, Bool.true_and]
          · simp [hkn]
        · intro a k ha hk hne
          unfold plusS
          by_cases e1 : a < i
          · rw [if_pos e1, if_pos (by omega)]
          · rw [if_neg e1, if_neg (by omega)]
      · refine Z44.mk [0] (i + 1) (by simp) (by simp) ?_ (by show i + 1 ≤ n; omega) (by show n - (i + 1) < n - i; omega)
        rw [show mkR n (plusS A m (i + 1)) = mkR n (plusS A m i) from mkR_congr fun a b _ _ => by
          unfold plusS
          by_cases e1 : a < i
          · rw [if_pos e1, if_pos (by omega)]
          · by_cases e2 : a = i
            · subst e2
              rw [if_pos (by omega), if_neg (by omega)]
              simp only [way]
              have hb' : way (hasN A) m a m = false := by simpa using hb
              simp [hb']
            · rw [if_neg e1, if_neg (by omega)]]
        simp only [State.can, AV.can, HO.can, idx, Z02, Z00, Heap.at, Nat.reduceBEq, ↓reduceIte, Option.getD_some, Option.map_some, List.map_cons, List.map_nil, List.getD_cons_zero]
    · have : i = n := by omega
      subst this
      rw [wrap_succ c' (by unfold maxLen; omega)]
      refine Z44.mk [0] (m + 1) (by simp) (by simp) ?_ (by show m + 1 ≤ i; omega) (by show i - (m + 1) < i - m; omega)
      rw [show mkR i (plusS A m i) = mkR i (way (hasN A) (m + 1)) from mkR_congr fun a b ha _ => by unfold plusS; rw [if_pos ha]]
      simp only [State.can, AV.can, HO.can, idx, Z02, Z00, Heap.at, Nat.reduceBEq, ↓reduceIte, Option.getD_some, Option.map_some, List.map_cons, List.map_nil, List.getD_cons_zero]
  · have : m = n := by omega
    subst this
    have : mkR m (way (hasN A) m) = plusG A := by unfold plusG; rw [hn]
    rw [this]
    exact .inl ⟨0, true, by simp [plusG, mkR_len, hn], rfl⟩
/-! Where no other function is laid: -/
def hs1 (n : Nat) : Nat → Option (W → W → W) := fun g => if g = n then some fstW else none
theorem bodyP_rel_lay {T : Tab} {n1 n2 n_rel_Plus_1 : Nat} (k1 : Knows T n1 sp_size) (k2 : Knows T n2 sp_row) (k3 : Knows T n_rel_Plus_1 (sp_h2 fstW)) : (sp_lay (hs1 n_rel_Plus_1)).Body T V_rel_lay (L_rel_lay n1 n2) R_rel_lay := by
  rintro ⟨A, e, B, f, g⟩
  simp only [sp_lay, hs1]
  split
  · rename_i h hh
    split at hh
    · rename_i e; cases hh; rw [e]; exact lay_body k1 k2 k3 A B _ f
    · cases hh
  · trivial
theorem bodyP_rel_Plus {T : Tab} {n1 n2 n_rel_Plus_1 : Nat} (k1 : Knows T n1 (sp_lay (hs1 n_rel_Plus_1))) (e1 : hs1 n_rel_Plus_1 n2 = some fstW) :
    sp_Plus.Body T V_rel_Plus (L_rel_Plus n1 n2) R_rel_Plus := plus_body k1 e1
end Go.Ago

/- Contracts of package rel: Star, Ring, Of, Order. Conditions: none. -/
set_option maxRecDepth 100000
set_option linter.unusedSimpArgs false
set_option linter.unusedVariables false
namespace Go.Ago

/-! ### Star, Ring -/
def ringG (R : List W) : Bool := (List.range (szR R)).any fun i => way (hasN R) (szR R) i i
def sp_Ring : Sp := ⟨List W × Bool, fun x => [.d (.list (x.1.map rowW) x.2)], fun x => .data (x.1.length ≤ maxLen) (.d (.bool (ringG x.1))) true⟩
theorem at_Ring (A : List W) (e : Bool) : sp_Ring.at [.d (.list (A.map rowW) e)] = .data (A.length ≤ maxLen) (.d (.bool (ringG A))) true :=
  Sp.at_enc (s := sp_Ring) (fun x y h => by
    obtain ⟨a, b⟩ := x; obtain ⟨a', b'⟩ := y
    simp only [sp_Ring, List.cons.injEq, AV.d.injEq, DV.list.injEq, and_true] at h
    rw [Z3i rowW_inj h.1, h.2]) (A, e)
theorem body_rel_Ring {T : Tab} {n1 : Nat} (k1 : Knows T n1 sp_Plus) : sp_Ring.Body T V_rel_Ring (L_rel_Ring n1) R_rel_Ring := by
  have F1 := k1.F; have G1 := k1.G
  rintro ⟨A, e⟩ h1
  have h1 : A.length ≤ maxLen := h1
  refine .inl ⟨rfl, ?_⟩
  unfold V_rel_Ring L_rel_Ring R_rel_Ring
  simp only [↓Z05, ↓Z1g, ↓Z0d, ↓Z1l, ↓Z0m, ↓Z20, ↓Z1z, nf_mk, Z09, Z34, Z37, evN, Z2i, Z1y, Z36, Z1x, Z17, Z1i, evT, Opd.ev, Z02, Z00, Z35, Z3w, Z1d, Z0c, Z3e, LOp.isNew, State.prune, Z1f, evLen, List.length_map, Z2d, Z3q, fnOf, Z3f, viewT, get_nil, ↓reduceIte, Nat.reduceBEq, List.length_nil, List.replicate_succ, List.replicate_zero, List.nil_append, List.append_nil, List.map_cons, List.map_nil, List.set_cons_zero, List.flatten_cons, List.flatten_nil, true_and, and_true, or_true, Nat.zero_add, Nat.add_zero, Bool.false_eq_true, sp_Ring, F1, G1, at_Plus]
  have hle := szR_le A
  have hl : (plusG A).length = szR A := mkR_len
  have hp : plusG A = mkR (szR A) (way (hasN A) (szR A)) := rfl
  rw [hl]
  have hr : ringG A = (List.range (szR A)).any fun i => way (hasN A) (szR A) i i := rfl
  generalize szR A = n at *
  refine ⟨h1, ?_⟩
  refine Loop.fam [6, 7, 8] (fun m : Nat => ⟨[(6, .ref 0 1 0 n true), (7, .d (.int .i64 n)), (8, .d (.int .i64 m))],
      [.dvec 1 ((plusG A).map rowW)]⟩) (fun m => m ≤ n ∧ ∀ i, i < m → way (hasN A) n i i = false) (fun m => n - m) 0 [0] (by simp) (by simp) (by simp only [State.can, AV.can, HO.can, idx, Z02, Z00, Heap.at, Nat.reduceBEq, ↓reduceIte, Option.getD_some, Option.map_some, List.map_cons, List.map_nil, List.getD_cons_zero]; rfl) ⟨by omega, fun i hi => by omega⟩ ?_
  rintro m ⟨hm, hno⟩
  simp only [↓Z1a, ↓Z2b, ↓Z1k, ↓Z05, ↓Z1g, ↓Z19, ↓Z0d, ↓Z0m, ↓Z20, ↓Z30, ↓Z33, ↓Z24, ↓Z1j, ↓Z28, ↓Z1z, ↓Z3r, ↓Z41, ↓Z3x, ↓Z4b, ↓Z0i, nf_mk, Z09, Z34, Z37, evN, Z1y, Z36, Z1x, Z1i, Z2c, evT, Opd.ev, Z02, Z00, Z35, Z2a, Z2e, Z0c, Z3e, LOp.isNew, State.prune, Heap.at, Z0k, Z03, rowW, Z15, Z4d, w_shr, w_bit, w_eq1, Bool.decide_eq_true, Z04, Z21, Z06, loadQ, evBin, binT, binQ, resQ, resV, resT, get_nil, RetS, AV.d.injEq, DV.bool.injEq, ↓reduceIte, Nat.reduceBEq, List.length_cons, List.length_nil, List.replicate_zero, List.append_nil, List.map_cons, List.map_nil, List.getD_cons_zero, true_and, and_true, Nat.reduceLT, Nat.zero_add, Nat.add_zero, Bool.false_eq_true]
  refine ⟨fun c => ?_, fun c => ?_⟩
  · have c' : m < n := by omega
    rw [wrap_succ c' (by unfold maxLen; omega), wrapU (k := m) (by omega)]
    simp only [Z06]
    rw [hl, hp, mkR_get c']
    simp only [decide_eq_true c', decide_eq_true (by omega : m < 64), Bool.true_and]
    refine ⟨by omega, by omega, by omega, fun hb => ?_, fun hb => ?_⟩
    · rw [hr]; symm
      rw [List.any_eq_true]
      exact ⟨m, by simpa using c', hb⟩
    · refine Z44.mk [0] (m + 1) (by simp) (by simp) (by simp only [State.can, AV.can, HO.can, idx, Z02, Z00, Heap.at, Nat.reduceBEq, ↓reduceIte, Option.getD_some, Option.map_some, List.map_cons, List.map_nil, List.getD_cons_zero]) ⟨by omega, fun i hi => ?_⟩ (by omega)
      by_cases e1 : i = m
      · subst e1; simpa using hb
      · exact hno i (by omega)
  · have : m = n := by omega
    subst this
    rw [hr]; symm
    rw [List.any_eq_false]
    intro i hi
    rw [hno i (by simpa using hi)]; simp

/-! ### Of pairs -/
def ofBad (n : Int) (p : RatG) : Bool := decide (p.num < 0) || decide (n ≤ p.num) || decide (p.den < 0) || decide (n ≤ p.den)
def ofErr (n : Int) (l : List RatG) : Int := if n < 0 ∨ 64 < n then 1 else if l.any (ofBad n) then 2 else 0
def ofP (l : List RatG) (i k : Nat) : Bool := l.any fun p => decide (p.num = i) && decide (p.den = k)
def ofG (n : Int) (l : List RatG) : List W := if ofErr n l = 0 then mkR n.toNat (ofP l) else []
def ofAV (n : Int) (l : List RatG) : AV := .tup [.d (.list ((ofG n l).map rowW) false), .d (.int .i64 (ofErr n l))]
def sp_Of : Sp := ⟨Int × List RatG × Bool, fun x => [.d (.int .i64 x.1), .d (.list (x.2.1.map RatG.row) x.2.2)], fun x => .data (x.2.1.length ≤ maxLen) (ofAV x.1 x.2.1) true⟩
theorem at_Of (n : Int) (l : List RatG) (f : Bool) : sp_Of.at [.d (.int .i64 n), .d (.list (l.map RatG.row) f)] = .data (l.length ≤ maxLen) (.tup [.d (.list ((ofG n l).map rowW) false), .d (.int .i64 (ofErr n l))]) true :=
  Sp.at_enc (s := sp_Of) (fun x y h => by
    obtain ⟨a, b, c⟩ := x; obtain ⟨a', b', c'⟩ := y
    simp only [sp_Of, List.cons.injEq, AV.d.injEq, DV.list.injEq, DV.int.injEq, and_true, true_and] at h
    rw [h.1, Z3i RatG.row_inj h.2.1, h.2.2]) (n, l, f)
theorem any_take_succ {α : Type} {q : α → Bool} {l : List α} {i : Nat} {d : α} (h : i < l.length) : (l.take (i + 1)).any q = ((l.take i).any q || q (l.getD i d)) := by
  have e : l.take (i + 1) = l.take i ++ [l.getD i d] := by rw [List.take_add_one, List.getElem?_eq_getElem h, getD_lt h]; rfl
  rw [e, List.any_append, List.any_cons, List.any_nil, Bool.or_false]
theorem ofP_take {l : List RatG} {i a b : Nat} (h : i < l.length) : ofP (l.take (i + 1)) a b = (ofP (l.take i) a b || (decide ((l.getD i default).num = a) && decide ((l.getD i default).den = b))) := any_take_succ h
theorem body_rel_Of {T : Tab} : sp_Of.Body T V_rel_Of L_rel_Of R_rel_Of := by
  rintro ⟨n, l, f⟩ h1
  have h1 : l.length ≤ maxLen := h1
  refine .inr ⟨rfl, ?_⟩
  unfold V_rel_Of L_rel_Of R_rel_Of
  simp only [↓Z1a, ↓Z2b, ↓Z05, ↓Z1g, ↓Z19, ↓Z0d, ↓Z1l, ↓Z0m, ↓Z20, ↓Z33, ↓Z1z, ↓Z3r, ↓Z0j, ↓Z08, ↓Z0i, nf_mk, Z09, Z34, Z1c, Z37, evN, Z1y, Z36, Z1x, Z17, Z1i, Z2f, Z2c, evT, Opd.ev, Z02, Z00, Z35, Z3w, Z27, Z2a, Z2e, Z1d, Z0c, Z3e, LOp.isNew, State.prune, Z1e, evLen, Z0l, mkVec, evMk, List.length_map, evBin, binT, binQ, resQ, resV, resT, pickV, get_nil, RetF, AV.frz, AV.frzL, AV.freshP, AV.freshL, DV.less, Z2g, Z2h, Option.some.injEq, AV.tup.injEq, List.cons.injEq, DV.list.injEq, AV.d.injEq, DV.int.injEq, ↓reduceIte, Nat.reduceBEq, List.length_cons, List.length_nil, List.replicate_succ, List.replicate_zero, List.nil_append, List.append_nil, List.map_cons, List.map_nil, List.set_cons_zero, true_and, and_true, Option.map_some, and_self, Nat.zero_add, Nat.add_zero, Bool.false_eq_true, sp_Of, ofAV]
  have bad : (n < 0 ∨ 64 < n) → ofErr n l = 1 ∧ ofG n l = [] := fun h => by
    have : ofErr n l = 1 := by unfold ofErr; rw [if_pos h]
    exact ⟨this, by unfold ofG; rw [this]; rfl⟩
  refine ⟨fun c => ?_, fun c => ⟨fun c2 => ?_, fun c2 => ?_⟩⟩
  · obtain ⟨e1, e2⟩ := bad (.inl c)
    rw [e1, e2]; simp
  · obtain ⟨e1, e2⟩ := bad (.inr c2)
    rw [e1, e2]; simp
  · obtain ⟨n, rfl⟩ := Int.eq_ofNat_of_zero_le (by omega : 0 ≤ n)
    simp only [Z06]
    refine ⟨⟨by omega, by omega, roomy_of (by omega) (by omega)⟩, ?_⟩
    have notbad : ofErr n l = if l.any (ofBad n) then 2 else 0 := by unfold ofErr; rw [if_neg (by omega)]
    refine Loop.fam [0, 6, 17, 18, 19] (fun i : Nat => ⟨[(0, .d (.int .i64 n)), (6, .ref 0 1 0 n true), (17, .d (.list (l.map RatG.row) f)), (18, .d (.int .i64 l.length)), (19, .d (.int .i64 i))],
        [.dvec 1 ((mkR n (ofP (l.take i))).map rowW)]⟩) (fun i => i ≤ l.length ∧ (l.take i).any (ofBad n) = false) (fun i => l.length - i) 0 [0] (by simp) (by simp) (by
          simp only [State.can, AV.can, HO.can, idx, Z02, Z00, Heap.at, Nat.reduceBEq, ↓reduceIte, Option.getD_some, Option.map_some, List.map_cons, List.map_nil, List.getD_cons_zero]
          rw [mkR_zero (p := ofP (l.take 0)) (fun i k _ _ => by simp [ofP])]; rfl) ⟨by omega, by simp⟩ ?_
    rintro i ⟨hi, hb⟩
    simp only [↓Z1a, ↓Z2b, ↓Z1k, ↓Z05, ↓Z1g, ↓Z19, ↓Z0d, ↓Z0m, ↓Z20, ↓Z30, ↓Z33, ↓Z24, ↓Z1j, ↓Z28, ↓Z1z, ↓Z3r, ↓Z41, ↓Z3x, ↓Z4b, ↓Z0j, ↓Z08, ↓Z0i, nf_mk, Z09, Z18, Z34, Z1c, Z37, evN, Z1y, Z36, Z47, Z1x, Z17, Z1i, Z2f, Z2c, evT, Opd.ev, Z02, Z00, Z35, Z45, Z3w, Z27, Z2a, Z2e, Z0c, Z3e, LOp.isNew, State.prune, Z3t, Z31, AV.leaf, Heap.at, Z0k, Z0a, Z1h, Z03, rowW, Z26, Z1f, Z15, w_or, Z4c, Z3h, Z04, Z0b, Z0n, Z01, Z21, RatG.row, Z2k, Z06, Int.reduceToNat, List.length_map, Z1w, List.take_of_length_le, loadQ, loadT, evBin, Z0z, binT, binQ, chk, Z3u, Bool.and_self, resQ, resV, resT, pickV, putRow, get_nil, RetF, AV.frz, AV.frzL, AV.freshP, AV.freshL, DV.less, Z2g, Z2h, Option.some.injEq, AV.tup.injEq, List.cons.injEq, DV.list.injEq, Nat.le_refl, AV.d.injEq, DV.int.injEq, ↓reduceIte, Nat.reduceAdd, Nat.reduceBEq, List.length_cons, List.length_nil, List.replicate_succ, List.replicate_zero, List.nil_append, List.cons_append, List.append_nil, List.map_cons, List.map_nil, List.all_cons, List.all_nil, List.set_cons_zero, List.set_cons_succ, List.getD_cons_zero, List.getD_cons_succ, List.drop_zero, List.drop_succ_cons, List.take_zero, true_and, and_true, Option.map_some, and_self, Nat.reduceLT, List.reverse_cons, List.reverse_nil, Nat.zero_add, Nat.add_zero, Bool.false_eq_true, Nat.mul_one]
    refine ⟨fun g => ?_, fun g => ?_⟩
    · have g' : i < l.length := by omega
      have e1 := any_take_succ (q := ofBad n) (d := default) g'
      have e2 : ∀ a b, _ := fun a b => ofP_take (a := a) (b := b) g'
      have out : ofBad n (l.getD i default) = true → ofErr n l = 2 ∧ ofG n l = [] := fun h => by
        have h2 : l.any (ofBad n) = true := by
          rw [List.any_eq_true]
          refine ⟨l.getD i default, ?_, h⟩
          rw [getD_lt g']; exact List.getElem_mem g'
        have : ofErr n l = 2 := by rw [notbad, if_pos h2]
        exact ⟨this, by unfold ofG; rw [this]; rfl⟩
      generalize l.getD i default = x at *
      simp only [wrap_succ g' h1]
      have isbad : ∀ q : ofBad n x = true, ([] : List (List DV)) = List.map rowW (ofG n l) ∧ (2 : Int) = ofErr n l := fun q => by
        obtain ⟨o1, o2⟩ := out q
        rw [o1, o2]; simp
      refine ⟨by omega, by omega, fun b1 => isbad (by simp [ofBad, b1]), fun b1 => ⟨by omega, fun b2 => isbad (by simp [ofBad, b2]), fun b2 => ⟨by omega, fun b3 => isbad (by simp [ofBad, b3]), fun b3 => ⟨by omega, fun b4 => isbad (by simp [ofBad, b4]), fun b4 => ?_⟩⟩⟩⟩
      have nb : ofBad n x = false := by simp [ofBad]; omega
      obtain ⟨a, ha⟩ := Int.eq_ofNat_of_zero_le (by omega : 0 ≤ x.num)
      obtain ⟨b, hb2⟩ := Int.eq_ofNat_of_zero_le (by omega : 0 ≤ x.den)
      simp only [ha, hb2] at e2 b2 b4 ⊢
      simp only [wrapU (k := b) (by omega), Z06, Z4c, w_or]
      rw [mkR_len]
      refine ⟨by omega, by omega, by omega, by omega, by omega, by omega, by omega, ?_⟩
      have han : a < n := by omega
      refine Z44.mk [0] (i + 1) (by simp) (by simp) ?_ ⟨by omega, by rw [e1, hb, nb]; rfl⟩ (by omega)
      rw [mkR_set (q := ofP (l.take (i + 1))) han]
      · simp only [State.can, AV.can, HO.can, idx, Z02, Z00, Heap.at, Nat.reduceBEq, ↓reduceIte, Option.getD_some, Option.map_some, List.map_cons, List.map_nil, List.getD_cons_zero]
      · intro k hk
        rw [BitVec.getLsbD_or, mkR_get han, one_shl (by omega), e2]
        by_cases hkn : k < n
        · by_cases e3 : b = k
          · subst e3; simp [hkn, hk]
          · have : ¬ (b : Int) = k := by omega
            simp [hkn, hk, e3, this]
        · have : ¬ b = k := by omega
          simp [hkn, this]
      · intro a' k ha' hk hne
        rw [e2]
        have : ¬ (a : Int) = a' := by omega
        simp [this]
    · have : i = l.length := by omega
      subst this
      rw [List.take_length] at hb ⊢
      have e1 : ofErr n l = 0 := by rw [notbad, hb]; rfl
      have e2 : ofG n l = mkR n (ofP l) := by unfold ofG; rw [e1, if_pos rfl]; rfl
      rw [e1, e2]
      simp [mkR_len, List.take_of_length_le]

/-! ### Order -/
end Go.Ago

/- Contracts of package power: its small functions. Conditions: none. -/
set_option maxRecDepth 100000
set_option linter.unusedSimpArgs false
set_option linter.unusedVariables false
namespace Go.Ago

/-! ### Rows that a call made, taken as data -/
def SpecR.dat : SpecR → SpecR
  | .rows ok _ l => .data ok (.d (.list l false)) true
  | o => o
def Sp.dat (s : Sp) : Sp := ⟨s.A, s.enc, fun x => (s.out x).dat⟩
theorem Sp.at_dat (s : Sp) (args : List AV) : s.dat.at args = (s.at args).dat := by
  unfold Sp.at
  by_cases h : ∃ x, s.enc x = args
  · have h' : ∃ x, s.dat.enc x = args := h
    rw [dif_pos h, dif_pos h']
    rfl
  · have h' : ¬ ∃ x, s.dat.enc x = args := h
    rw [dif_neg h, dif_neg h']
    rfl
theorem SpecR.dat_rows (ok : Prop) (sz : Nat) (l : List (List DV)) : (SpecR.rows ok sz l).dat = .data ok (.d (.list l false)) true := rfl
theorem retRows_retF {sz : Nat} {rows : List (List DV)} (hs : ∀ r ∈ rows, ∀ x ∈ r, DV.scal x = true) {r : AV} {H : Heap} (h : RetRows sz rows r H) : RetF (.d (.list rows false)) r H := by
  rcases h with ⟨id, room, rfl, hat⟩ | ⟨rfl, rfl⟩
  · constructor
    · simp [AV.frz, hat]
    · simpa [AV.freshP, hat] using hs
  · constructor
    · rfl
    · rfl
theorem retK_mono {rs : List LRes} {P Q : AV → Heap → Prop} (h : ∀ r H, P r H → Q r H) : ∀ x S, retK rs P x S → retK rs Q x S := by
  intro x S hk
  cases x with
  | exit => exact hk
  | normal => exact ⟨hk.1, h _ _ hk.2⟩
  | ret => exact ⟨hk.1, h _ _ hk.2⟩
theorem Sp.Body.dat {s : Sp} {T : Tab} {live : List Nat} {lc : LCode} {rs : List LRes} (h : s.Body T live lc rs)
    (hs : ∀ x ok sz l, s.out x = .rows ok sz l → ∀ r ∈ l, ∀ y ∈ r, DV.scal y = true) : s.dat.Body T live lc rs := by
  intro x
  have hx := h x
  have hsx := hs x
  show ((s.out x).dat).asks _
  revert hx hsx
  cases s.out x with
  | data ok val fresh => exact fun hx _ => hx
  | none => exact fun _ _ => trivial
  | rows ok sz l =>
    intro hx hsx hok
    obtain ⟨_, h2⟩ := hx hok
    exact .inr ⟨rfl, vck_mono _ _ _ _ (retK_mono fun r H h => retRows_retF (hsx ok sz l rfl) h) h2⟩
theorem scal_W {l : List W} : ∀ r ∈ l.map rowW, ∀ y ∈ r, DV.scal y = true := Z1f.2 trivial

/-! ### Rows by a rule -/
def mapW (n : Nat) (f : Nat → W) : List W := (List.range n).map f
/-! ### keep -/
def keepG (r : List W) (a b : W) : List W := mapW r.length fun i => if a.getLsbD i then r.getD i 0#64 &&& b else 0#64
/-! ### Two loops, bit by bit -/
/-! ### fit -/
def fitG (r : List W) (n : Nat) : List W := mkR n (hasN r)
/-! ### trim -/
def trimG (r : List W) (n : Nat) : List W := r.take n ++ List.replicate (n - r.length) 0#64
/-! ### where -/
/-- A node of an execution is a row of four numbers, as an act is: Thread, Kind, Loc, Val. -/
abbrev NodeG := ActG
def NodeG.th (n : NodeG) : Int := n.kind
def NodeG.kd (n : NodeG) : Int := n.loc
def NodeG.lc (n : NodeG) : Int := n.old
def apartQ (a b : NodeG) : Bool := !decide (a.th = b.th) || decide (a.th < 0)
def locQ (a b : NodeG) : Bool := decide (a.lc = b.lc)
/-- What a candidate execution is, and what is made of it. -/
structure MG where
  nodes : List NodeG
  nf : Bool
  xn : List NodeG
  xf : Bool
  po : List W
  rf : List W
  co : List W
  fr : List W
  addr : List W
  data : List W
  ctrl : List W
  fenced : List W
  sync : List W
  lwsync : List W
  pairs : List W
  read : W
  write : W
def lsW (r : List W) : DV := .list (r.map rowW) false
def MG.cells (m : MG) : List DV := [.list (m.nodes.map ActG.row) m.nf, .list (m.xn.map ActG.row) m.xf, lsW m.po, lsW m.rf, lsW m.co, lsW m.fr, lsW m.addr, lsW m.data, lsW m.ctrl, lsW m.fenced, lsW m.sync, lsW m.lwsync, lsW m.pairs,
  .int .u64 (m.read.toNat : Int), .int .u64 (m.write.toNat : Int)]
def whereG (nodes : List NodeG) (q : NodeG → NodeG → Bool) (r : List W) : List W := mkR r.length fun i k => hasN r i k && q (nodes.getD i default) (nodes.getD k default)
/-! ### ext, poloc -/
/-! ### all -/
end Go.Ago

/- Deeds: rows of five numbers, and lists of lists. Conditions: none. -/
set_option maxRecDepth 100000
set_option linter.unusedSimpArgs false
set_option linter.unusedVariables false
namespace Go.Ago
structure DeedG where
  th : Int
  act : ActG
  deriving DecidableEq, Inhabited
def DeedG.row (d : DeedG) : List DV := [.int .i64 d.th, .int .i64 d.act.kind, .int .i64 d.act.loc, .int .i64 d.act.old, .int .i64 d.act.new]
theorem DeedG.row_inj (x y : DeedG) (h : x.row = y.row) : x = y := by
  obtain ⟨t, ⟨a, b, c, d⟩⟩ := x; obtain ⟨t', ⟨a', b', c', d'⟩⟩ := y
  simp [DeedG.row] at h; simp [h]
def rowLI (x : List Int × Bool) : List DV := [.list (x.1.map rowI) x.2]
theorem rowLI_inj (x y : List Int × Bool) (h : rowLI x = rowLI y) : x = y := by
  obtain ⟨a, b⟩ := x; obtain ⟨c, d⟩ := y
  simp only [rowLI, List.cons.injEq, DV.list.injEq, and_true] at h
  rw [Z3i rowI_inj h.1, h.2]
theorem idx_LI {l : List (List Int × Bool)} {full : Bool} {kd : IntKind} {n : Int} {k : Delta → Prop} : stepK (evIdxAddr 1 (.d (.list (l.map rowLI) full)) (.d (.int kd n))) k ↔ (0 ≤ n ∧ n < l.length) ∧ k ⟨.dptr (rowLI (l.getD n.toNat default)) 0, [], []⟩ := stepK_idx_map (fun _ => rfl)
theorem rowLI_len (x : List Int × Bool) : (rowLI x).length = 1 := rfl
theorem rowLI_get (x : List Int × Bool) : (rowLI x).getD 0 DV.nilp = .list (x.1.map rowI) x.2 := rfl
/-! ### The deeds of threads -/
end Go.Ago

/- Contracts of package power: the model of an execution. Conditions: none. -/
set_option maxRecDepth 100000
set_option linter.unusedSimpArgs false
set_option linter.unusedVariables false
namespace Go.Ago

/-! ### slices.Equal, slices.ContainsFunc at words -/
/-! ### empty -/
/-! ### of -/
/-- A candidate execution as it is handed over. -/
structure XG where
  nodes : List NodeG
  nf : Bool
  po : List W × Bool
  rf : List W × Bool
  co : List W × Bool
  fr : List W × Bool
  addr : List W × Bool
  data : List W × Bool
  ctrl : List W × Bool
  fenced : List W × Bool
  sync : List W × Bool
  lwsync : List W × Bool
  pairs : List W × Bool
def lsX (r : List W × Bool) : DV := .list (r.1.map rowW) r.2
def XG.cells (x : XG) : List DV := [.list (x.nodes.map ActG.row) x.nf, lsX x.po, lsX x.rf, lsX x.co, lsX x.fr, lsX x.addr, lsX x.data, lsX x.ctrl, lsX x.fenced, lsX x.sync, lsX x.lwsync, lsX x.pairs]
def XG.av (x : XG) : AV := .agg [.d (.list (x.nodes.map ActG.row) x.nf), .d (lsX x.po), .d (lsX x.rf), .d (lsX x.co), .d (lsX x.fr), .d (lsX x.addr), .d (lsX x.data), .d (lsX x.ctrl), .d (lsX x.fenced), .d (lsX x.sync), .d (lsX x.lwsync), .d (lsX x.pairs)]
theorem lsX_inj {r s : List W × Bool} (h : lsX r = lsX s) : r = s := by
  obtain ⟨a, b⟩ := r; obtain ⟨c, d⟩ := s
  simp only [lsX, DV.list.injEq] at h
  rw [Z3i rowW_inj h.1, h.2]
theorem XG.av_inj (x y : XG) (h : x.av = y.av) : x = y := by
  obtain ⟨a, b, c, d, e, f, g, i, j, k, l, n, o⟩ := x
  obtain ⟨a', b', c', d', e', f', g', i', j', k', l', n', o'⟩ := y
  simp only [XG.av, AV.agg.injEq, List.cons.injEq, AV.d.injEq, DV.list.injEq, and_true] at h
  obtain ⟨⟨h1, h2⟩, h3, h4, h5, h6, h7, h8, h9, h10, h11, h12, h13⟩ := h
  rw [Z3i ActG.row_inj h1, h2, lsX_inj h3, lsX_inj h4, lsX_inj h5, lsX_inj h6, lsX_inj h7, lsX_inj h8, lsX_inj h9, lsX_inj h10, lsX_inj h11, lsX_inj h12, lsX_inj h13]
def XG.n (x : XG) : Nat := min x.nodes.length 64
def fitX (r : List W × Bool) (n : Nat) : List W := fitG (trimG r.1 n) n
def kindW (l : List NodeG) (q : Int) (n : Nat) : W := ofB (fun i => decide ((l.getD i default).kd = q)) n
/-- The model so far: 'a' relations are fitted, 'b' nodes are looked at. -/
def XG.rel (x : XG) (a j : Nat) (r : List W × Bool) : DV := if j < a then lsW (fitX r x.n) else lsX r
def XG.up (x : XG) (a b : Nat) : List DV := [.list ((x.nodes.take x.n).map ActG.row) (x.nf && decide (x.n = x.nodes.length)), .list (x.nodes.map ActG.row) x.nf, x.rel a 0 x.po, x.rel a 1 x.rf, x.rel a 2 x.co, x.rel a 3 x.fr, x.rel a 4 x.addr, x.rel a 5 x.data, x.rel a 6 x.ctrl,
  x.rel a 7 x.fenced, x.rel a 8 x.sync, x.rel a 9 x.lwsync, x.rel a 10 x.pairs, .int .u64 ((kindW x.nodes 1 b).toNat : Int), .int .u64 ((kindW x.nodes 2 b).toNat : Int)]
structure XG.Ok (x : XG) : Prop where
  nodes : x.nodes.length ≤ maxLen
  po : x.po.1.length ≤ maxLen
  rf : x.rf.1.length ≤ maxLen
  co : x.co.1.length ≤ maxLen
  fr : x.fr.1.length ≤ maxLen
  addr : x.addr.1.length ≤ maxLen
  data : x.data.1.length ≤ maxLen
  ctrl : x.ctrl.1.length ≤ maxLen
  fenced : x.fenced.1.length ≤ maxLen
  sync : x.sync.1.length ≤ maxLen
  lwsync : x.lwsync.1.length ≤ maxLen
  pairs : x.pairs.1.length ≤ maxLen
end Go.Ago

/- A list that is nil, taken as a row of ours that has nothing in it. Conditions: none. -/
set_option linter.unusedSimpArgs false
set_option linter.unusedVariables false
namespace Go.Ago
theorem at_snoc {H : Heap} {x : HO} {i : Nat} (hi : i < H.length) : Heap.at (H ++ [x]) i = H.at i := by
  unfold Heap.at
  rw [List.getD_eq_getElem?_getD, List.getD_eq_getElem?_getD, List.getElem?_append_left hi]
theorem SimH.nilobj {P : Program} {A : Nat → Prop} {φ : Nat → Option (Nat × Nat)} {H : Heap} {w : World} (h : SimH P A φ H w) (sz : Nat) :
    SimH P A φ (H ++ [.dvec sz []]) w ∧ Onward A φ H w φ (H ++ [.dvec sz []]) w := by
  have hlt : ∀ i b o, φ i = some (b, o) → i < H.length := fun i b o hb => (h.dom i b o hb).1
  have hat : ∀ i b o, φ i = some (b, o) → Heap.at (H ++ [.dvec sz []]) i = H.at i := fun i b o hb => at_snoc (hlt i b o hb)
  have hmono : ∀ b, own φ (H ++ [.dvec sz []]) b → own φ H b := fun b ⟨j, o, hal, hb⟩ => ⟨j, o, by rw [← hat j b o hb]; exact hal, hb⟩
  have hon : Onward A φ H w φ (H ++ [.dvec sz []]) w := ⟨fun _ _ h => h, Pres.refl _ _, fun b hb => .inl (hmono b hb)⟩
  refine ⟨⟨fun j b o hb => ⟨by rw [List.length_append]; have := hlt j b o hb; omega, (h.dom j b o hb).2⟩, fun j sz' rows' hr hn => ?_, fun j k b o1 o2 hj hk h1 h2 => ?_, h.amb, fun b hA ho => h.apart b hA (hmono b ho), fun j b o hal hb => ?_, hon.tab h.tab, fun j b o hal hb => by
    rw [hat j b o hb] at hal ⊢
    exact h.objx j b o hal hb⟩, hon⟩
  · rcases Nat.lt_or_ge j H.length with hl | hl
    · rw [at_snoc hl] at hr; exact h.there j sz' rows' hr hn
    · unfold Heap.at at hr
      rw [List.getD_eq_getElem?_getD, List.getElem?_append_right hl] at hr
      by_cases e : j = H.length
      · rw [e] at hr
        simp [HO.rows] at hr
        exact absurd hr.2 hn
      · rw [List.getElem?_eq_none (by simp; omega)] at hr
        simp [HO.rows] at hr
  · rw [hat j b o1 h1] at hj
    rw [hat k b o2 h2] at hk
    exact h.inj j k b o1 o2 hj hk h1 h2
  · rw [hat j b o hb] at hal ⊢
    intro sz' rows' hr
    obtain ⟨c1, T1, e1, e2, e3, e4⟩ := h.objs j b o hal hb sz' rows' hr
    exact ⟨c1, T1, e1, e2, e3, fun k r j x hk hx => by obtain ⟨v, hv, hrel⟩ := e4 k r j x hk hx; exact ⟨v, hv, hon.rel hrel⟩⟩
theorem nil_says {n0 : Nat} {env : Env} {H : Heap} {t : Nat} (sz : Nat) (h : Env.get env t = .d (.list [] true)) : Says n0 ⟨env, H⟩ ⟨(t, .ref H.length sz 0 0 true) :: env, H ++ [.dvec sz []]⟩ := by
  intro P A n φ a w hs
  obtain ⟨s1, o1⟩ := hs.heap.nilobj sz
  refine ⟨φ, ⟨s1, hs.size, hs.defs, fun t' => ?_⟩, fun _ _ => rfl, o1.pres, o1.mono⟩
  show Rel φ _ w (if t = t' then _ else Env.get env t') _
  by_cases e : t = t'
  · rw [if_pos e]
    subst e
    have hr := hs.slots t
    have hr' : Rel φ (Mb A φ H) w (.d (.list [] true)) (a.tmps.getD t undef) := by rw [← h]; exact hr
    generalize a.tmps.getD t undef = v at hr'
    cases hr' with
    | d _ _ hd =>
      generalize hx : DV.list [] true = x at hd
      cases hd with
      | nil full ad cap hfull =>
        simp only [DV.list.injEq, true_and] at hx
        rw [hfull hx.symm]
        exact .ref0 _ _ _ _ _
      | list rows full sz' b off cap f hb hM hsz hcap hfull hc hrr =>
        simp only [DV.list.injEq] at hx
        obtain ⟨rfl, rfl⟩ := hx
        have := hfull rfl
        simp at this
        subst this
        exact .ref0 _ _ _ _ _
      | _ => cases hx
  · rw [if_neg e]
    exact o1.rel (hs.slots t')
theorem Loop.nilref {T : Tab} {n0 : Nat} {live : List Nat} {b : LCode} {env : Env} {H : Heap} {K : AExit → State → Prop} (t sz : Nat) (h : Env.get env t = .d (.list [] true)) (hn : n0 ≤ H.length)
    (g : Loop T n0 live b ⟨(t, .ref H.length sz 0 0 true) :: env, H ++ [.dvec sz []]⟩ K) : Loop T n0 live b ⟨env, H⟩ K :=
  Loop.says (nil_says sz h) (by show n0 ≤ (H ++ [_]).length; rw [List.length_append]; omega) g
end Go.Ago

/- Events and runs of threads: rows of numbers and masks, and lists of them. Conditions: none. -/
set_option maxRecDepth 100000
set_option linter.unusedSimpArgs false
set_option linter.unusedVariables false
namespace Go.Ago
structure EvG where
  kind : Int
  loc : Int
  val : Int
  pair : Int
  addr : W
  data : W
  ctrl : W
  fenced : W
  deriving DecidableEq, Inhabited
def EvG.row (e : EvG) : List DV := [.int .i64 e.kind, .int .i64 e.loc, .int .i64 e.val, .int .i64 e.pair, .int .u64 (e.addr.toNat : Int), .int .u64 (e.data.toNat : Int), .int .u64 (e.ctrl.toNat : Int), .int .u64 (e.fenced.toNat : Int)]
def EvG.av (e : EvG) : AV := .agg [.d (.int .i64 e.kind), .d (.int .i64 e.loc), .d (.int .i64 e.val), .d (.int .i64 e.pair), .d (.int .u64 (e.addr.toNat : Int)), .d (.int .u64 (e.data.toNat : Int)), .d (.int .u64 (e.ctrl.toNat : Int)), .d (.int .u64 (e.fenced.toNat : Int))]
theorem W.nat_inj {a b : W} (h : (a.toNat : Int) = b.toNat) : a = b := BitVec.eq_of_toNat_eq (by omega)
theorem EvG.row_inj (x y : EvG) (h : x.row = y.row) : x = y := by
  obtain ⟨a, b, c, d, e, f, g, i⟩ := x; obtain ⟨a', b', c', d', e', f', g', i'⟩ := y
  simp only [EvG.row, List.cons.injEq, DV.int.injEq, true_and, and_true] at h
  obtain ⟨h1, h2, h3, h4, h5, h6, h7, h8⟩ := h
  rw [h1, h2, h3, h4, W.nat_inj h5, W.nat_inj h6, W.nat_inj h7, W.nat_inj h8]
theorem EvG.av_inj (x y : EvG) (h : x.av = y.av) : x = y := by
  obtain ⟨a, b, c, d, e, f, g, i⟩ := x; obtain ⟨a', b', c', d', e', f', g', i'⟩ := y
  simp only [EvG.av, AV.agg.injEq, List.cons.injEq, AV.d.injEq, DV.int.injEq, true_and, and_true] at h
  obtain ⟨h1, h2, h3, h4, h5, h6, h7, h8⟩ := h
  rw [h1, h2, h3, h4, W.nat_inj h5, W.nat_inj h6, W.nat_inj h7, W.nat_inj h8]
theorem idx_Ev {l : List EvG} {full : Bool} {kd : IntKind} {n : Int} {k : Delta → Prop} : stepK (evIdxAddr 8 (.d (.list (l.map EvG.row) full)) (.d (.int kd n))) k ↔ (0 ≤ n ∧ n < l.length) ∧ k ⟨.dptr (EvG.row (l.getD n.toNat default)) 0, [], []⟩ := stepK_idx_map (fun _ => rfl)
structure RunG where
  evs : List EvG
  full : Bool
  st : Int
  deriving DecidableEq, Inhabited
def RunG.row (r : RunG) : List DV := [.list (r.evs.map EvG.row) r.full, .int .i64 r.st]
theorem RunG.row_inj (x y : RunG) (h : x.row = y.row) : x = y := by
  obtain ⟨a, b, c⟩ := x; obtain ⟨a', b', c'⟩ := y
  simp only [RunG.row, List.cons.injEq, DV.list.injEq, DV.int.injEq, true_and, and_true] at h
  rw [Z3i EvG.row_inj h.1.1, h.1.2, h.2]
theorem idx_Run {l : List RunG} {full : Bool} {kd : IntKind} {n : Int} {k : Delta → Prop} : stepK (evIdxAddr 2 (.d (.list (l.map RunG.row) full)) (.d (.int kd n))) k ↔ (0 ≤ n ∧ n < l.length) ∧ k ⟨.dptr (RunG.row (l.getD n.toNat default)) 0, [], []⟩ := stepK_idx_map (fun _ => rfl)
/-! ### The nodes of threads -/
def EvG.isM (e : EvG) : Bool := decide (e.kind = 1) || decide (e.kind = 2)
def sp_isM : Sp := ⟨EvG, fun e => [e.av], fun e => .data True (.d (.bool e.isM)) true⟩
theorem at_isM (e : EvG) : sp_isM.at [.agg [.d (.int .i64 e.kind), .d (.int .i64 e.loc), .d (.int .i64 e.val), .d (.int .i64 e.pair), .d (.int .u64 (e.addr.toNat : Int)), .d (.int .u64 (e.data.toNat : Int)), .d (.int .u64 (e.ctrl.toNat : Int)), .d (.int .u64 (e.fenced.toNat : Int))]] = .data True (.d (.bool e.isM)) true :=
  Sp.at_enc (s := sp_isM) (fun (x y : EvG) h => by
    simp only [sp_isM, List.cons.injEq, and_true] at h
    exact EvG.av_inj _ _ h) e
theorem body_cand_memory {T : Tab} : sp_isM.Body T V_cand_memory L_cand_memory R_cand_memory := by
  rintro ⟨a, b, c, d, e, f, g, i⟩ -
  refine .inl ⟨rfl, ?_⟩
  unfold V_cand_memory L_cand_memory R_cand_memory
  simp (maxSteps := 3000000) only [↓Z1a, ↓Z2b, ↓Z1k, ↓Z05, ↓Z2v, ↓Z2r, nilG_d, nilG_r, ↓Z1g, ↓Z19, ↓Z0d, ↓Z1l, ↓Z0m, ↓Z20, ↓Z30, ↓Z33, ↓Z24, ↓Z1j, ↓Z2m, ↓Z28, ↓Z1z, ↓Z3r, ↓retK_n, ↓Z3n, ↓Z3p, ↓Z3o, ↓Z41, ↓Z3x, ↓Z4b, ↓Z0j, ↓Z08, ↓Z1b, ↓Z0i, ↓Z1n, nf_mk, Z09, Z18, Z34, Z1c, Z37, evN, Z2i, Z1y, Z36, Z47, Z1x, Z17, Z1i, Z2u, Z2j, Z2f, Z1o, Z2c, evT, Opd.ev, Z02, Z00, Z35, Z45, Z3w, Z27, Z1m, Z2a, Z2e, Z3l, Z1d, Z0c, Z3e, LOp.isNew, State.prune, Z3t, Z31, AV.leaf, Heap.at, Z0k, Z0a, Z1h, Z0g, Z03, idx_I, idx_W, rowW, Z26, Z2w, Z22, Z1e, rowB, Z2y, Z2x, rowN, lens_W, Z3s, Z1f, Z15, w_or, w_and, Z2z, Z4d, w_shl, Z4c, w_shr, Z4e, w_neg, w_add, w_bit, w_eq0, w_eq1, w_eq, Bool.decide_eq_true, Z3h, Z3k, Z3j, Z2n, Z1p, Z04, Z0b, Z0n, Z01, Z21, rowI, RatG.row, LocG.row, ActG.row, StepG.row, StampG.row, ActG.av, ActG.eta, RatG.eta, LocG.eta, beq_true, beq_false, Z2k, Z2t, Z2l, Z2s, Z14, Z0q, Z12, Z13, Z0p, Z0o, Z0e, List.length_set, List.length_replicate, Z06, Int.reduceToNat, evLen, Z29, Z40, Src.all, Src.len, Src.leaf, Src.leafN, Z3c, Z48, joinV, Z0l, Z0r, Z0s, Z0t, Z0u, Z0v, Z0w, Z0x, mkVec, drows, evMk, List.length_map, Z1w, Z23, List.take_length, List.take_left, List.length_append, Nat.le_add_right, ite_self, List.take_of_length_le, Z3d, intOr, Z43, Option.isSome_none, Option.isSome_some, Nat.sub_zero, loadQ, loadT, evBin, evUn, Z0y, Z0z, binT, binQ, chk, Z3u, List.contains_cons, List.contains_nil, Bool.or_false, Bool.false_or, Bool.and_self, resQ, resV, resT, pickV, Z2d, Z4a, Z3q, fnOf, Z3f, isD, HO.drow, viewT, Z3y, evEq, eqV, eqK, eqC1, Z49, Z46, Z3b, Z38, lens_I, Z3m, Z2q, Z1s, Z2p, Z1r, Z2o, Z1q, Z1t, Z10, Z11, Z0f, List.mem_cons, List.not_mem_nil, or_false, forall_eq, putRow, Z3g, get_nil, RetS, RetF, RetD, AV.frz, AV.frzL, AV.freshP, AV.freshL, DV.less, Z2g, Z1u, Z2h, Z1v, Z0h, Z07, Option.some.injEq, AV.tup.injEq, AV.agg.injEq, List.cons.injEq, DV.list.injEq, List.isEmpty_nil, Nat.le_refl, AV.d.injEq, DV.int.injEq, DV.bool.injEq, ↓reduceIte, Nat.reduceEqDiff, Nat.reduceAdd, Nat.reduceBEq, List.length_cons, List.length_nil, List.replicate_succ, List.replicate_zero, List.nil_append, List.cons_append, List.append_nil, List.foldl_cons, List.foldl_nil, List.map_cons, List.map_nil, List.all_cons, List.all_nil, List.set_cons_zero, List.set_cons_succ, List.getD_cons_zero, List.getD_cons_succ, List.drop_zero, List.drop_succ_cons, List.take_succ_cons, List.take_zero, List.flatten_cons, List.flatten_nil, Bool.true_and, Bool.and_true, Bool.not_true, Bool.not_false, true_and, and_true, true_or, or_true, Option.bind_some, Option.map_some, decide_true, decide_false, beq_self_eq_true, true_implies, false_implies, implies_true, not_true_eq_false, not_false_eq_true, and_self, Bool.and_false, Bool.false_and, Nat.reduceLT, Nat.reduceLeDiff, List.reverse_cons, List.reverse_nil, Nat.zero_add, Nat.add_zero, Bool.false_eq_true, List.getElem?_cons_zero, Nat.reduceMul, Nat.mul_one, sp_isM, EvG.av]
  (repeat' (first | intro _ | apply And.intro))
  all_goals simp_all [EvG.isM]
def initN (x : LocG) (i : Nat) : NodeG := ⟨-1, 2, i, x.init⟩
def initNL (l : List LocG) (k : Nat) : List NodeG := (List.range k).map fun i => initN (l.getD i default) i
theorem initNL_succ (l : List LocG) (k : Nat) : initNL l (k + 1) = initNL l k ++ [initN (l.getD k default) k] := by unfold initNL; rw [List.range_succ, List.map_append]; rfl
theorem initNL_len (l : List LocG) (k : Nat) : (initNL l k).length = k := by unfold initNL; simp
def nodeOf (t : Nat) (e : EvG) : NodeG := ⟨t, e.kind, e.loc, e.val⟩
def keepN (t : Nat) (es : List EvG) : List NodeG := (es.filter EvG.isM).map (nodeOf t)
def keptN (runs : List RunG) (t : Nat) : List NodeG := ((List.range t).map fun i => keepN i (runs.getD i default).evs).flatten
theorem keptN_succ (runs : List RunG) (t : Nat) : keptN runs (t + 1) = keptN runs t ++ keepN t (runs.getD t default).evs := by
  unfold keptN; rw [List.range_succ, List.map_append, List.flatten_append]; simp
def EvG.inL (e : EvG) (n : Nat) : Bool := !e.isM || decide (0 ≤ e.loc) && decide (e.loc < n)
def rightN (l : List LocG) (runs : List RunG) : Bool := runs.all fun r => r.evs.all fun e => e.inL l.length
def nodesAll (l : List LocG) (runs : List RunG) : List NodeG := initNL l l.length ++ keptN runs runs.length
def nodesG (l : List LocG) (runs : List RunG) : List NodeG × Int :=
  if 16 < l.length ∨ 3 < runs.length then ([], 1) else if rightN l runs = false then ([], 3) else if 64 < (nodesAll l runs).length then ([], 15) else (nodesAll l runs, 0)
def smallR (runs : List RunG) : Prop := ∀ r ∈ runs, r.evs.length ≤ maxLen
def sp_Nodes : Sp := ⟨List LocG × Bool × List RunG × Bool, fun x => [.d (.list (x.1.map LocG.row) x.2.1), .d (.list (x.2.2.1.map RunG.row) x.2.2.2)],
  fun x => .data (smallR x.2.2.1) (.tup [.d (.list ((nodesG x.1 x.2.2.1).1.map ActG.row) false), .d (.int .i64 (nodesG x.1 x.2.2.1).2)]) false⟩
theorem at_Nodes (l : List LocG) (f : Bool) (runs : List RunG) (g : Bool) : sp_Nodes.at [.d (.list (l.map LocG.row) f), .d (.list (runs.map RunG.row) g)] =
    .data (smallR runs) (.tup [.d (.list ((nodesG l runs).1.map ActG.row) false), .d (.int .i64 (nodesG l runs).2)]) false :=
  Sp.at_enc (s := sp_Nodes) (fun x y h => by
    obtain ⟨a, b, c, d⟩ := x; obtain ⟨a', b', c', d'⟩ := y
    simp only [sp_Nodes, List.cons.injEq, AV.d.injEq, DV.list.injEq, and_true] at h
    obtain ⟨⟨h1, h2⟩, h3, h4⟩ := h
    rw [Z3i LocG.row_inj h1, h2, Z3i RunG.row_inj h3, h4]) (l, f, runs, g)
theorem rightN_no {l : List LocG} {runs : List RunG} {t j : Nat} (ht : t < runs.length) (hj : j < (runs.getD t default).evs.length) (h : ((runs.getD t default).evs.getD j default).inL l.length = false) : rightN l runs = false := by
  unfold rightN
  rw [Bool.eq_false_iff]
  intro hh
  rw [List.all_eq_true] at hh
  have h1 := hh (runs.getD t default) (by rw [getD_lt ht]; exact List.getElem_mem ht)
  rw [List.all_eq_true] at h1
  have h2 := h1 ((runs.getD t default).evs.getD j default) (by rw [getD_lt hj]; exact List.getElem_mem hj)
  rw [h] at h2; cases h2
theorem rightN_yes {l : List LocG} {runs : List RunG} (h : ∀ i, i < runs.length → (runs.getD i default).evs.all (fun e => e.inL l.length) = true) : rightN l runs = true := by
  unfold rightN
  rw [List.all_eq_true]
  intro x hx
  obtain ⟨i, hi, rfl⟩ := List.getElem_of_mem hx
  have := h i hi
  rwa [getD_lt hi] at this
theorem take_app {α : Type} {D : List α} {a : α} {n : Nat} (h : D.length < n) : (D ++ [a]).take n = D.take n ++ [a] := by
  rw [List.take_of_length_le (by rw [List.length_append, List.length_singleton]; omega), List.take_of_length_le (by omega)]
theorem take_no {α : Type} {D : List α} {a : α} {n : Nat} (h : n ≤ D.length) : (D ++ [a]).take n = D.take n := List.take_append_of_le_length h
theorem keepN_next {t j : Nat} {es : List EvG} (hj : j < es.length) : keepN t (es.take (j + 1)) = keepN t (es.take j) ++ (if (es.getD j default).isM = true then [nodeOf t (es.getD j default)] else []) := by
  unfold keepN
  rw [List.take_add_one, List.getElem?_eq_getElem hj, getD_lt hj]
  simp only [Option.toList_some, List.filter_append, List.map_append]
  congr 1
  cases h : (es[j]).isM <;> simp [h]
def nSt1 (l : List LocG) (f : Bool) (runs : List RunG) (g : Bool) (i : Nat) : State :=
  ⟨[(0, .d (.list (l.map LocG.row) f)), (1, .d (.list (runs.map RunG.row) g)), (6, .ref 0 4 0 (initNL l i).length true), (21, .d (.list (l.map LocG.row) f)), (22, .d (.int .i64 l.length)), (23, .d (.int .i64 i))], [.dvec 4 ((initNL l i).map ActG.row)]⟩
def nSt2 (l : List LocG) (f : Bool) (runs : List RunG) (g : Bool) (x : Nat × List NodeG) : State :=
  ⟨[(0, .d (.list (l.map LocG.row) f)), (6, .ref 0 4 0 x.2.length true), (36, .d (.list (runs.map RunG.row) g)), (37, .d (.int .i64 runs.length)), (38, .d (.int .i64 x.1))], [.dvec 4 (x.2.map ActG.row)]⟩
def nInv2 (l : List LocG) (runs : List RunG) (x : Nat × List NodeG) : Prop :=
  x.1 ≤ runs.length ∧ (∀ i, i < x.1 → (runs.getD i default).evs.all (fun e => e.inL l.length) = true) ∧ x.2 = (initNL l l.length ++ keptN runs x.1).take 65
def nSt3 (l : List LocG) (f : Bool) (runs : List RunG) (g : Bool) (t : Nat) (es : List EvG) (eg : Bool) (x : Nat × List NodeG) : State :=
  ⟨[(0, .d (.list (l.map LocG.row) f)), (6, .ref 0 4 0 x.2.length true), (9, .d (.int .i64 t)), (36, .d (.list (runs.map RunG.row) g)), (37, .d (.int .i64 runs.length)), (38, .d (.int .i64 t)), (44, .d (.list (es.map EvG.row) eg)), (45, .d (.int .i64 es.length)), (46, .d (.int .i64 x.1))],
    [.dvec 4 (x.2.map ActG.row)]⟩
def nInv3 (l : List LocG) (runs : List RunG) (t : Nat) (es : List EvG) (x : Nat × List NodeG) : Prop :=
  x.1 ≤ es.length ∧ (∀ i, i < x.1 → (es.getD i default).inL l.length = true) ∧ x.2 = (initNL l l.length ++ (keptN runs t ++ keepN t (es.take x.1))).take 65
set_option maxHeartbeats 4000000 in
theorem body_cand_Nodes {T : Tab} {n1 : Nat} (k1 : Knows T n1 sp_isM) : sp_Nodes.Body T V_cand_Nodes (L_cand_Nodes n1) R_cand_Nodes := by
  have F1 := k1.F; have G1 := k1.G
  rintro ⟨l, f, runs, g⟩ hR
  have hR : smallR runs := hR
  refine ⟨rfl, ?_⟩
  unfold V_cand_Nodes L_cand_Nodes R_cand_Nodes
  simp (maxSteps := 3000000) only [↓Z1a, ↓Z2b, ↓Z1k, ↓Z05, ↓Z2v, ↓Z2r, nilG_d, nilG_r, ↓Z1g, ↓Z19, ↓Z0d, ↓Z1l, ↓Z0m, ↓Z20, ↓Z30, ↓Z33, ↓Z24, ↓Z1j, ↓Z2m, ↓Z28, ↓Z1z, ↓Z3r, ↓retK_n, ↓Z3n, ↓Z3p, ↓Z3o, ↓Z41, ↓Z3x, ↓Z4b, ↓Z0j, ↓Z08, ↓Z1b, ↓Z0i, ↓Z1n, nf_mk, Z09, Z18, Z34, Z1c, Z37, evN, Z2i, Z1y, Z36, Z47, Z1x, Z17, Z1i, Z2u, Z2j, Z2f, Z1o, Z2c, evT, Opd.ev, Z02, Z00, Z35, Z45, Z3w, Z27, Z1m, Z2a, Z2e, Z3l, Z1d, Z0c, Z3e, LOp.isNew, State.prune, Z3t, Z31, AV.leaf, Heap.at, Z0k, Z0a, Z1h, Z0g, Z03, idx_I, idx_W, rowW, Z26, Z2w, Z22, Z1e, rowB, Z2y, Z2x, rowN, lens_W, Z3s, Z1f, Z15, w_or, w_and, Z2z, Z4d, w_shl, Z4c, w_shr, Z4e, w_neg, w_add, w_bit, w_eq0, w_eq1, w_eq, Bool.decide_eq_true, Z3h, Z3k, Z3j, Z2n, Z1p, Z04, Z0b, Z0n, Z01, Z21, rowI, RatG.row, LocG.row, ActG.row, StepG.row, StampG.row, ActG.av, ActG.eta, RatG.eta, LocG.eta, beq_true, beq_false, Z2k, Z2t, Z2l, Z2s, Z14, Z0q, Z12, Z13, Z0p, Z0o, Z0e, List.length_set, List.length_replicate, Z06, Int.reduceToNat, evLen, Z29, Z40, Src.all, Src.len, Src.leaf, Src.leafN, Z3c, Z48, joinV, Z0l, Z0r, Z0s, Z0t, Z0u, Z0v, Z0w, Z0x, mkVec, drows, evMk, List.length_map, Z1w, Z23, List.take_length, List.take_left, List.length_append, Nat.le_add_right, ite_self, List.take_of_length_le, Z3d, intOr, Z43, Option.isSome_none, Option.isSome_some, Nat.sub_zero, loadQ, loadT, evBin, evUn, Z0y, Z0z, binT, binQ, chk, Z3u, List.contains_cons, List.contains_nil, Bool.or_false, Bool.false_or, Bool.and_self, resQ, resV, resT, pickV, Z2d, Z4a, Z3q, fnOf, Z3f, isD, HO.drow, viewT, Z3y, evEq, eqV, eqK, eqC1, Z49, Z46, Z3b, Z38, lens_I, Z3m, Z2q, Z1s, Z2p, Z1r, Z2o, Z1q, Z1t, Z10, Z11, Z0f, List.mem_cons, List.not_mem_nil, or_false, forall_eq, putRow, Z3g, get_nil, RetS, RetF, RetD, AV.frz, AV.frzL, AV.freshP, AV.freshL, DV.less, Z2g, Z1u, Z2h, Z1v, Z0h, Z07, Option.some.injEq, AV.tup.injEq, AV.agg.injEq, List.cons.injEq, DV.list.injEq, List.isEmpty_nil, Nat.le_refl, AV.d.injEq, DV.int.injEq, DV.bool.injEq, ↓reduceIte, Nat.reduceEqDiff, Nat.reduceAdd, Nat.reduceBEq, List.length_cons, List.length_nil, List.replicate_succ, List.replicate_zero, List.nil_append, List.cons_append, List.append_nil, List.foldl_cons, List.foldl_nil, List.map_cons, List.map_nil, List.all_cons, List.all_nil, List.set_cons_zero, List.set_cons_succ, List.getD_cons_zero, List.getD_cons_succ, List.drop_zero, List.drop_succ_cons, List.take_succ_cons, List.take_zero, List.flatten_cons, List.flatten_nil, Bool.true_and, Bool.and_true, Bool.not_true, Bool.not_false, true_and, and_true, true_or, or_true, Option.bind_some, Option.map_some, decide_true, decide_false, beq_self_eq_true, true_implies, false_implies, implies_true, not_true_eq_false, not_false_eq_true, and_self, Bool.and_false, Bool.false_and, Nat.reduceLT, Nat.reduceLeDiff, List.reverse_cons, List.reverse_nil, Nat.zero_add, Nat.add_zero, Bool.false_eq_true, List.getElem?_cons_zero, Nat.reduceMul, Nat.mul_one, EvG.row, RunG.row, idx_Ev, idx_Run, sp_Nodes, F1, G1, at_isM]
  have e16 : 16 < l.length → nodesG l runs = ([], 1) := fun h => by unfold nodesG; rw [if_pos (.inl h)]
  have e3 : 3 < runs.length → nodesG l runs = ([], 1) := fun h => by unfold nodesG; rw [if_pos (.inr h)]
  refine ⟨fun c => by rw [e16 (by omega)]; exact ⟨rfl, rfl⟩, fun c => ⟨fun c2 => by rw [e3 (by omega)]; exact ⟨rfl, rfl⟩, fun c2 => ?_⟩⟩
  have c : l.length ≤ 16 := by omega
  have c2 : runs.length ≤ 3 := by omega
  refine Loop.nilref 6 4 rfl (Nat.zero_le _) ?_
  refine Loop.fam [0, 1, 6, 21, 22, 23] (nSt1 l f runs g) (fun i => i ≤ l.length) (fun i => l.length - i) 0 [0] (by simp) (by simp) (by simp only [List.length_nil, List.nil_append, State.can, AV.can, AV.canL, HO.can, Z25, idx, Z02, Z00, Heap.at, Nat.reduceBEq, ↓reduceIte, Nat.reduceEqDiff, Option.getD_some, Option.map_some, List.map_cons, List.map_nil, List.getD_cons_zero, List.getD_cons_succ, nSt1]; rfl) (by omega) ?_
  intro i hi
  have hi : i ≤ l.length := hi
  simp (maxSteps := 3000000) only [↓Z1a, ↓Z2b, ↓Z1k, ↓Z05, ↓Z2v, ↓Z2r, nilG_d, nilG_r, ↓Z1g, ↓Z19, ↓Z0d, ↓Z1l, ↓Z0m, ↓Z20, ↓Z30, ↓Z33, ↓Z24, ↓Z1j, ↓Z2m, ↓Z28, ↓Z1z, ↓Z3r, ↓retK_n, ↓Z3n, ↓Z3p, ↓Z3o, ↓Z41, ↓Z3x, ↓Z4b, ↓Z0j, ↓Z08, ↓Z1b, ↓Z0i, ↓Z1n, nf_mk, Z09, Z18, Z34, Z1c, Z37, evN, Z2i, Z1y, Z36, Z47, Z1x, Z17, Z1i, Z2u, Z2j, Z2f, Z1o, Z2c, evT, Opd.ev, Z02, Z00, Z35, Z45, Z3w, Z27, Z1m, Z2a, Z2e, Z3l, Z1d, Z0c, Z3e, LOp.isNew, State.prune, Z3t, Z31, AV.leaf, Heap.at, Z0k, Z0a, Z1h, Z0g, Z03, idx_I, idx_W, rowW, Z26, Z2w, Z22, Z1e, rowB, Z2y, Z2x, rowN, lens_W, Z3s, Z1f, Z15, w_or, w_and, Z2z, Z4d, w_shl, Z4c, w_shr, Z4e, w_neg, w_add, w_bit, w_eq0, w_eq1, w_eq, Bool.decide_eq_true, Z3h, Z3k, Z3j, Z2n, Z1p, Z04, Z0b, Z0n, Z01, Z21, rowI, RatG.row, LocG.row, ActG.row, StepG.row, StampG.row, ActG.av, ActG.eta, RatG.eta, LocG.eta, beq_true, beq_false, Z2k, Z2t, Z2l, Z2s, Z14, Z0q, Z12, Z13, Z0p, Z0o, Z0e, List.length_set, List.length_replicate, Z06, Int.reduceToNat, evLen, Z29, Z40, Src.all, Src.len, Src.leaf, Src.leafN, Z3c, Z48, joinV, Z0l, Z0r, Z0s, Z0t, Z0u, Z0v, Z0w, Z0x, mkVec, drows, evMk, List.length_map, Z1w, Z23, List.take_length, List.take_left, List.length_append, Nat.le_add_right, ite_self, List.take_of_length_le, Z3d, intOr, Z43, Option.isSome_none, Option.isSome_some, Nat.sub_zero, loadQ, loadT, evBin, evUn, Z0y, Z0z, binT, binQ, chk, Z3u, List.contains_cons, List.contains_nil, Bool.or_false, Bool.false_or, Bool.and_self, resQ, resV, resT, pickV, Z2d, Z4a, Z3q, fnOf, Z3f, isD, HO.drow, viewT, Z3y, evEq, eqV, eqK, eqC1, Z49, Z46, Z3b, Z38, lens_I, Z3m, Z2q, Z1s, Z2p, Z1r, Z2o, Z1q, Z1t, Z10, Z11, Z0f, List.mem_cons, List.not_mem_nil, or_false, forall_eq, putRow, Z3g, get_nil, RetS, RetF, RetD, AV.frz, AV.frzL, AV.freshP, AV.freshL, DV.less, Z2g, Z1u, Z2h, Z1v, Z0h, Z07, Option.some.injEq, AV.tup.injEq, AV.agg.injEq, List.cons.injEq, DV.list.injEq, List.isEmpty_nil, Nat.le_refl, AV.d.injEq, DV.int.injEq, DV.bool.injEq, ↓reduceIte, Nat.reduceEqDiff, Nat.reduceAdd, Nat.reduceBEq, List.length_cons, List.length_nil, List.replicate_succ, List.replicate_zero, List.nil_append, List.cons_append, List.append_nil, List.foldl_cons, List.foldl_nil, List.map_cons, List.map_nil, List.all_cons, List.all_nil, List.set_cons_zero, List.set_cons_succ, List.getD_cons_zero, List.getD_cons_succ, List.drop_zero, List.drop_succ_cons, List.take_succ_cons, List.take_zero, List.flatten_cons, List.flatten_nil, Bool.true_and, Bool.and_true, Bool.not_true, Bool.not_false, true_and, and_true, true_or, or_true, Option.bind_some, Option.map_some, decide_true, decide_false, beq_self_eq_true, true_implies, false_implies, implies_true, not_true_eq_false, not_false_eq_true, and_self, Bool.and_false, Bool.false_and, Nat.reduceLT, Nat.reduceLeDiff, List.reverse_cons, List.reverse_nil, Nat.zero_add, Nat.add_zero, Bool.false_eq_true, List.getElem?_cons_zero, Nat.reduceMul, Nat.mul_one, EvG.row, RunG.row, idx_Ev, idx_Run, nSt1, F1, G1, at_isM]
  refine ⟨fun d => ⟨⟨by omega, by omega⟩, roomy_of (by rw [initNL_len]; omega) (by omega), ?_⟩, fun d => ?_⟩
  · have d' : i < l.length := by omega
    have w1 : IntKind.i64.wrap ((i : Int) + 1) = ((i + 1 : Nat) : Int) := by rw [wrap_id (by omega) (by omega)]; omega
    rw [w1]
    refine Z44.mk [3] (i + 1) (by simp) (by simp) ?_ (by omega) (by omega)
    simp only [State.can, AV.can, AV.canL, HO.can, Z25, idx, Z02, Z00, Heap.at, Nat.reduceBEq, ↓reduceIte, Nat.reduceEqDiff, Option.getD_some, Option.map_some, List.map_cons, List.map_nil, List.getD_cons_zero, List.getD_cons_succ, nSt1, initNL_succ, List.length_append, List.length_singleton]; rfl
  · have d' : i = l.length := by omega
    subst d'
    have hL := initNL_len l l.length
    refine Loop.fam [0, 6, 36, 37, 38] (nSt2 l f runs g) (nInv2 l runs) (fun x => runs.length - x.1) (0, initNL l l.length) [0] (by simp) (by simp) (by simp only [State.can, AV.can, AV.canL, HO.can, Z25, idx, Z02, Z00, Heap.at, Nat.reduceBEq, ↓reduceIte, Nat.reduceEqDiff, Option.getD_some, Option.map_some, List.map_cons, List.map_nil, List.getD_cons_zero, List.getD_cons_succ, nSt2]; rfl)
      ⟨Nat.zero_le _, fun i hi => by omega, by simp only [keptN]; rw [List.range_zero, List.map_nil, List.flatten_nil, List.append_nil, List.take_of_length_le (by omega)]⟩ ?_
    rintro ⟨t, O⟩ ⟨i1, i2, i4⟩
    have i1 : t ≤ runs.length := i1
    have i2 : ∀ i, i < t → (runs.getD i default).evs.all (fun e => e.inL l.length) = true := i2
    have i4 : O = (initNL l l.length ++ keptN runs t).take 65 := i4
    simp (maxSteps := 3000000) only [↓Z1a, ↓Z2b, ↓Z1k, ↓Z05, ↓Z2v, ↓Z2r, nilG_d, nilG_r, ↓Z1g, ↓Z19, ↓Z0d, ↓Z1l, ↓Z0m, ↓Z20, ↓Z30, ↓Z33, ↓Z24, ↓Z1j, ↓Z2m, ↓Z28, ↓Z1z, ↓Z3r, ↓retK_n, ↓Z3n, ↓Z3p, ↓Z3o, ↓Z41, ↓Z3x, ↓Z4b, ↓Z0j, ↓Z08, ↓Z1b, ↓Z0i, ↓Z1n, nf_mk, Z09, Z18, Z34, Z1c, Z37, evN, Z2i, Z1y, Z36, Z47, Z1x, Z17, Z1i, Z2u, Z2j, Z2f, Z1o, Z2c, evT, Opd.ev, Z02, Z00, Z35, Z45, Z3w, Z27, Z1m, Z2a, Z2e, Z3l, Z1d, Z0c, Z3e, LOp.isNew, State.prune, Z3t, Z31, AV.leaf, Heap.at, Z0k, Z0a, Z1h, Z0g, Z03, idx_I, idx_W, rowW, Z26, Z2w, Z22, Z1e, rowB, Z2y, Z2x, rowN, lens_W, Z3s, Z1f, Z15, w_or, w_and, Z2z, Z4d, w_shl, Z4c, w_shr, Z4e, w_neg, w_add, w_bit, w_eq0, w_eq1, w_eq, Bool.decide_eq_true, Z3h, Z3k, Z3j, Z2n, Z1p, Z04, Z0b, Z0n, Z01, Z21, rowI, RatG.row, LocG.row, ActG.row, StepG.row, StampG.row, ActG.av, ActG.eta, RatG.eta, LocG.eta, beq_true, beq_false, Z2k, Z2t, Z2l, Z2s, Z14, Z0q, Z12, Z13, Z0p, Z0o, Z0e, List.length_set, List.length_replicate, Z06, Int.reduceToNat, evLen, Z29, Z40, Src.all, Src.len, Src.leaf, Src.leafN, Z3c, Z48, joinV, Z0l, Z0r, Z0s, Z0t, Z0u, Z0v, Z0w, Z0x, mkVec, drows, evMk, List.length_map, Z1w, Z23, List.take_length, List.take_left, List.length_append, Nat.le_add_right, ite_self, List.take_of_length_le, Z3d, intOr, Z43, Option.isSome_none, Option.isSome_some, Nat.sub_zero, loadQ, loadT, evBin, evUn, Z0y, Z0z, binT, binQ, chk, Z3u, List.contains_cons, List.contains_nil, Bool.or_false, Bool.false_or, Bool.and_self, resQ, resV, resT, pickV, Z2d, Z4a, Z3q, fnOf, Z3f, isD, HO.drow, viewT, Z3y, evEq, eqV, eqK, eqC1, Z49, Z46, Z3b, Z38, lens_I, Z3m, Z2q, Z1s, Z2p, Z1r, Z2o, Z1q, Z1t, Z10, Z11, Z0f, List.mem_cons, List.not_mem_nil, or_false, forall_eq, putRow, Z3g, get_nil, RetS, RetF, RetD, AV.frz, AV.frzL, AV.freshP, AV.freshL, DV.less, Z2g, Z1u, Z2h, Z1v, Z0h, Z07, Option.some.injEq, AV.tup.injEq, AV.agg.injEq, List.cons.injEq, DV.list.injEq, List.isEmpty_nil, Nat.le_refl, AV.d.injEq, DV.int.injEq, DV.bool.injEq, ↓reduceIte, Nat.reduceEqDiff, Nat.reduceAdd, Nat.reduceBEq, List.length_cons, List.length_nil, List.replicate_succ, List.replicate_zero, List.nil_append, List.cons_append, List.append_nil, List.foldl_cons, List.foldl_nil, List.map_cons, List.map_nil, List.all_cons, List.all_nil, List.set_cons_zero, List.set_cons_succ, List.getD_cons_zero, List.getD_cons_succ, List.drop_zero, List.drop_succ_cons, List.take_succ_cons, List.take_zero, List.flatten_cons, List.flatten_nil, Bool.true_and, Bool.and_true, Bool.not_true, Bool.not_false, true_and, and_true, true_or, or_true, Option.bind_some, Option.map_some, decide_true, decide_false, beq_self_eq_true, true_implies, false_implies, implies_true, not_true_eq_false, not_false_eq_true, and_self, Bool.and_false, Bool.false_and, Nat.reduceLT, Nat.reduceLeDiff, List.reverse_cons, List.reverse_nil, Nat.zero_add, Nat.add_zero, Bool.false_eq_true, List.getElem?_cons_zero, Nat.reduceMul, Nat.mul_one, EvG.row, RunG.row, idx_Ev, idx_Run, nSt2, F1, G1, at_isM]
    refine ⟨fun d => ⟨⟨by omega, by omega⟩, ?_⟩, fun d => ?_⟩
    · have d' : t < runs.length := by omega
      generalize hA : runs.getD t default = A
      obtain ⟨es, eg, st⟩ := A
      have hes : es.length ≤ maxLen := by
        have := hR (runs.getD t default) (by rw [getD_lt d']; exact List.getElem_mem d')
        rw [hA] at this; exact this
      simp only
      refine Loop.fam [0, 6, 9, 36, 37, 38, 44, 45, 46] (nSt3 l f runs g t es eg) (nInv3 l runs t es) (fun x => es.length - x.1) (0, O) [0] (by simp) (by simp) (by simp only [State.can, AV.can, AV.canL, HO.can, Z25, idx, Z02, Z00, Heap.at, Nat.reduceBEq, ↓reduceIte, Nat.reduceEqDiff, Option.getD_some, Option.map_some, List.map_cons, List.map_nil, List.getD_cons_zero, List.getD_cons_succ, nSt3]; rfl)
        ⟨Nat.zero_le _, fun i hi => by omega, by rw [i4]; simp [keepN]⟩ ?_
      rintro ⟨j, Q⟩ ⟨j1, j2, j4⟩
      have j1 : j ≤ es.length := j1
      have j2 : ∀ i, i < j → (es.getD i default).inL l.length = true := j2
      have j4 : Q = (initNL l l.length ++ (keptN runs t ++ keepN t (es.take j))).take 65 := j4
      simp (maxSteps := 3000000) only [↓Z1a, ↓Z2b, ↓Z1k, ↓Z05, ↓Z2v, ↓Z2r, nilG_d, nilG_r, ↓Z1g, ↓Z19, ↓Z0d, ↓Z1l, ↓Z0m, ↓Z20, ↓Z30, ↓Z33, ↓Z24, ↓Z1j, ↓Z2m, ↓Z28, ↓Z1z, ↓Z3r, ↓retK_n, ↓Z3n, ↓Z3p, ↓Z3o, ↓Z41, ↓Z3x, ↓Z4b, ↓Z0j, ↓Z08, ↓Z1b, ↓Z0i, ↓Z1n, nf_mk, Z09, Z18, Z34, Z1c, Z37, evN, Z2i, Z1y, Z36, Z47, Z1x, Z17, Z1i, Z2u, Z2j, Z2f, Z1o, Z2c, evT, Opd.ev, Z02, Z00, Z35, Z45, Z3w, Z27, Z1m, Z2a, Z2e, Z3l, Z1d, Z0c, Z3e, LOp.isNew, State.prune, Z3t, Z31, AV.leaf, Heap.at, Z0k, Z0a, Z1h, Z0g, Z03, idx_I, idx_W, rowW, Z26, Z2w, Z22, Z1e, rowB, Z2y, Z2x, rowN, lens_W, Z3s, Z1f, Z15, w_or, w_and, Z2z, Z4d, w_shl, Z4c, w_shr, Z4e, w_neg, w_add, w_bit, w_eq0, w_eq1, w_eq, Bool.decide_eq_true, Z3h, Z3k, Z3j, Z2n, Z1p, Z04, Z0b, Z0n, Z01, Z21, rowI, RatG.row, LocG.row, ActG.row, StepG.row, StampG.row, ActG.av, ActG.eta, RatG.eta, LocG.eta, beq_true, beq_false, Z2k, Z2t, Z2l, Z2s, Z14, Z0q, Z12, Z13, Z0p, Z0o, Z0e, List.length_set, List.length_replicate, Z06, Int.reduceToNat, evLen, Z29, Z40, Src.all, Src.len, Src.leaf, Src.leafN, Z3c, Z48, joinV, Z0l, Z0r, Z0s, Z0t, Z0u, Z0v, Z0w, Z0x, mkVec, drows, evMk, List.length_map, Z1w, Z23, List.take_length, List.take_left, List.length_append, Nat.le_add_right, ite_self, List.take_of_length_le, Z3d, intOr, Z43, Option.isSome_none, Option.isSome_some, Nat.sub_zero, loadQ, loadT, evBin, evUn, Z0y, Z0z, binT, binQ, chk, Z3u, List.contains_cons, List.contains_nil, Bool.or_false, Bool.false_or, Bool.and_self, resQ, resV, resT, pickV, Z2d, Z4a, Z3q, fnOf, Z3f, isD, HO.drow, viewT, Z3y, evEq, eqV, eqK, eqC1, Z49, Z46, Z3b, Z38, lens_I, Z3m, Z2q, Z1s, Z2p, Z1r, Z2o, Z1q, Z1t, Z10, Z11, Z0f, List.mem_cons, List.not_mem_nil, or_false, forall_eq, putRow, Z3g, get_nil, RetS, RetF, RetD, AV.frz, AV.frzL, AV.freshP, AV.freshL, DV.less, Z2g, Z1u, Z2h, Z1v, Z0h, Z07, Option.some.injEq, AV.tup.injEq, AV.agg.injEq, List.cons.injEq, DV.list.injEq, List.isEmpty_nil, Nat.le_refl, AV.d.injEq, DV.int.injEq, DV.bool.injEq, ↓reduceIte, Nat.reduceEqDiff, Nat.reduceAdd, Nat.reduceBEq, List.length_cons, List.length_nil, List.replicate_succ, List.replicate_zero, List.nil_append, List.cons_append, List.append_nil, List.foldl_cons, List.foldl_nil, List.map_cons, List.map_nil, List.all_cons, List.all_nil, List.set_cons_zero, List.set_cons_succ, List.getD_cons_zero, List.getD_cons_succ, List.drop_zero, List.drop_succ_cons, List.take_succ_cons, List.take_zero, List.flatten_cons, List.flatten_nil, Bool.true_and, Bool.and_true, Bool.not_true, Bool.not_false, true_and, and_true, true_or, or_true, Option.bind_some, Option.map_some, decide_true, decide_false, beq_self_eq_true, true_implies, false_implies, implies_true, not_true_eq_false, not_false_eq_true, and_self, Bool.and_false, Bool.false_and, Nat.reduceLT, Nat.reduceLeDiff, List.reverse_cons, List.reverse_nil, Nat.zero_add, Nat.add_zero, Bool.false_eq_true, List.getElem?_cons_zero, Nat.reduceMul, Nat.mul_one, EvG.row, RunG.row, idx_Ev, idx_Run, nSt3, F1, G1, at_isM]
      have w1 : j < es.length → IntKind.i64.wrap ((j : Int) + 1) = ((j + 1 : Nat) : Int) := fun h => wrap_succ (n := es.length) h hes
      have w3 : IntKind.i64.wrap ((t : Int) + 1) = ((t + 1 : Nat) : Int) := by rw [wrap_id (by omega) (by omega)]; omega
      have hbad : j < es.length → (es.getD j default).inL l.length = false → nodesG l runs = ([], 3) := fun hj h => by
        have hno : rightN l runs = false := rightN_no d' (by rw [hA]; exact hj) (by rw [hA]; exact h)
        unfold nodesG
        rw [if_neg (by omega), if_pos hno]
      have all : (es.getD j default).inL l.length = true → ∀ i, i < j + 1 → (es.getD i default).inL l.length = true := fun h i hi => by
        by_cases e : i = j
        · rw [e]; exact h
        · exact j2 i (by omega)
      refine ⟨fun e => ⟨⟨by omega, by omega⟩, fun hm => ⟨fun c3 => ?_, fun c3 => ⟨fun c4 => ?_, fun c4 => ⟨fun h64 => ⟨roomy_of (by omega) (by omega), ?_⟩, fun h64 => ?_⟩⟩⟩, fun hm => ?_⟩, fun e => ?_⟩
      · rw [hbad (by omega) (by unfold EvG.inL; rw [hm, decide_eq_false (by omega)]; rfl)]; exact ⟨rfl, rfl⟩
      · rw [hbad (by omega) (by unfold EvG.inL; rw [hm, decide_eq_false (show ¬ (es.getD j default).loc < (l.length : Int) by omega), Bool.and_false]; rfl)]; exact ⟨rfl, rfl⟩
      · have e' : j < es.length := by omega
        have hin : (es.getD j default).inL l.length = true := by unfold EvG.inL; rw [decide_eq_true (show 0 ≤ (es.getD j default).loc by omega), decide_eq_true (show (es.getD j default).loc < (l.length : Int) by omega)]; simp
        have hass : initNL l l.length ++ (keptN runs t ++ keepN t (es.take (j + 1))) = (initNL l l.length ++ (keptN runs t ++ keepN t (es.take j))) ++ [nodeOf t (es.getD j default)] := by
          rw [keepN_next e', if_pos hm]; simp only [List.append_assoc]
        have hlen : (initNL l l.length ++ (keptN runs t ++ keepN t (es.take j))).length < 65 := by
          have h1 : Q.length ≤ 64 := by omega
          rw [j4, List.length_take] at h1
          omega
        rw [w1 e']
        refine Z44.mk [3] (j + 1, Q ++ [nodeOf t (es.getD j default)]) (by simp) (by simp) (by simp only [State.can, AV.can, AV.canL, HO.can, Z25, idx, Z02, Z00, Heap.at, Nat.reduceBEq, ↓reduceIte, Nat.reduceEqDiff, Option.getD_some, Option.map_some, List.map_cons, List.map_nil, List.getD_cons_zero, List.getD_cons_succ, nSt3, List.length_append, List.length_singleton, nodeOf]) ⟨by show j + 1 ≤ _; omega, all hin, ?_⟩ (by show es.length - (j + 1) < es.length - j; omega)
        show Q ++ [_] = (initNL l l.length ++ (keptN runs t ++ keepN t (es.take (j + 1)))).take 65
        rw [hass, take_app hlen, j4]
      · have e' : j < es.length := by omega
        have hin : (es.getD j default).inL l.length = true := by unfold EvG.inL; rw [decide_eq_true (show 0 ≤ (es.getD j default).loc by omega), decide_eq_true (show (es.getD j default).loc < (l.length : Int) by omega)]; simp
        have hass : initNL l l.length ++ (keptN runs t ++ keepN t (es.take (j + 1))) = (initNL l l.length ++ (keptN runs t ++ keepN t (es.take j))) ++ [nodeOf t (es.getD j default)] := by
          rw [keepN_next e', if_pos hm]; simp only [List.append_assoc]
        have hlen : 65 ≤ (initNL l l.length ++ (keptN runs t ++ keepN t (es.take j))).length := by
          have h1 : ¬ Q.length ≤ 64 := by omega
          rw [j4, List.length_take] at h1
          omega
        rw [w1 e']
        refine Z44.mk [0] (j + 1, Q) (by simp) (by simp) (by simp only [State.can, AV.can, AV.canL, HO.can, Z25, idx, Z02, Z00, Heap.at, Nat.reduceBEq, ↓reduceIte, Nat.reduceEqDiff, Option.getD_some, Option.map_some, List.map_cons, List.map_nil, List.getD_cons_zero, List.getD_cons_succ, nSt3]) ⟨by show j + 1 ≤ _; omega, all hin, ?_⟩ (by show es.length - (j + 1) < es.length - j; omega)
        show Q = (initNL l l.length ++ (keptN runs t ++ keepN t (es.take (j + 1)))).take 65
        rw [hass, take_no hlen, j4]
      · have e' : j < es.length := by omega
        have hin : (es.getD j default).inL l.length = true := by unfold EvG.inL; rw [hm]; rfl
        rw [w1 e']
        refine Z44.mk [0] (j + 1, Q) (by simp) (by simp) (by simp only [State.can, AV.can, AV.canL, HO.can, Z25, idx, Z02, Z00, Heap.at, Nat.reduceBEq, ↓reduceIte, Nat.reduceEqDiff, Option.getD_some, Option.map_some, List.map_cons, List.map_nil, List.getD_cons_zero, List.getD_cons_succ, nSt3]) ⟨by show j + 1 ≤ _; omega, all hin, ?_⟩ (by show es.length - (j + 1) < es.length - j; omega)
        show Q = (initNL l l.length ++ (keptN runs t ++ keepN t (es.take (j + 1)))).take 65
        rw [keepN_next e', if_neg (by rw [hm]; simp), List.append_nil, j4]
      · have e' : j = es.length := by omega
        subst e'
        rw [List.take_length] at j4
        have hks : keptN runs (t + 1) = keptN runs t ++ keepN t es := by rw [keptN_succ, hA]
        rw [w3]
        refine Z44.mk [0] (t + 1, Q) (by simp) (by simp) (by simp only [State.can, AV.can, AV.canL, HO.can, Z25, idx, Z02, Z00, Heap.at, Nat.reduceBEq, ↓reduceIte, Nat.reduceEqDiff, Option.getD_some, Option.map_some, List.map_cons, List.map_nil, List.getD_cons_zero, List.getD_cons_succ, nSt2]) ⟨by show t + 1 ≤ _; omega, fun i hi => ?_, ?_⟩ (by show runs.length - (t + 1) < runs.length - t; omega)
        · by_cases h : i = t
          · rw [h, hA, List.all_eq_true]
            intro x hx
            obtain ⟨k, hk, rfl⟩ := List.getElem_of_mem hx
            have := j2 k hk
            rwa [getD_lt hk] at this
          · exact i2 i (by have : i < t + 1 := hi; omega)
        · show Q = (initNL l l.length ++ keptN runs (t + 1)).take 65
          rw [hks, j4]
    · have d' : t = runs.length := by omega
      subst d'
      have hr : rightN l runs = true := rightN_yes i2
      have hO : O.length = min 65 (nodesAll l runs).length := by rw [i4, List.length_take]; rfl
      unfold nodesG
      rw [if_neg (by omega), hr, if_neg (by simp)]
      refine ⟨fun e => ?_, fun e => ?_⟩
      · rw [if_pos (by omega)]; exact ⟨rfl, rfl⟩
      · rw [if_neg (by omega), i4, List.take_of_length_le (by unfold nodesAll at hO; omega)]
        exact ⟨rfl, rfl⟩
end Go.Ago

/- Calls that are handed objects, and change, give up and add some. Conditions: none. -/
set_option linter.unusedSimpArgs false
set_option linter.unusedVariables false
namespace Go.Ago

/-- What is known of such a function, told on objects of its own: the first are those that it is handed. -/
structure EfH where
  A : Type
  args : A → List AV
  os : A → Heap
  ok : A → Prop
  val : A → AV
  os' : A → Heap

/-- A reckoning of calls says what is known, at the caller's heap. -/
structure EfH.At (e : EfH) (E : List AV → Heap → Option Eff) : Prop where
  at_ : ∀ args H x, E args H = some x → x.take = none ∧ (x.ok → ∃ (y : e.A) (ids : List Nat), ids.Nodup ∧ ids.length = (e.os y).length ∧ (∀ i ∈ ids, i < H.length) ∧ (∀ k (hk : k < ids.length), H.at ids[k] = ((e.os y).at k).ren (into H ids)) ∧
    args = (e.args y).map (AV.ren (into H ids)) ∧ e.ok y ∧ x.val = (e.val y).ren (into H ids) ∧ x.ups = ids.zip ((e.os' y).map (HO.ren (into H ids))) ∧ x.news = ((e.os' y).drop ids.length).map (HO.ren (into H ids)))

structure EfH.Body (e : EfH) (T : Tab) (live : List Nat) (lc : LCode) (rs : List LRes) : Prop where
  len : ∀ x, (e.os x).length ≤ (e.os' x).length
  body : ∀ x, e.ok x → vck T (e.os x).length live lc ⟨Z1d 0 (e.args x), e.os x⟩ (retK rs (RetG (e.os x).length (e.val x) (e.os' x)))

/-- The reckoning itself, where it is told what the arguments are. -/
structure EfH.Fits (e : EfH) (p : e.A × List Nat) (args : List AV) (H : Heap) : Prop where
  nodup : p.2.Nodup
  len : p.2.length = (e.os p.1).length
  lt : ∀ i ∈ p.2, i < H.length
  at_ : ∀ k (hk : k < p.2.length), H.at p.2[k] = ((e.os p.1).at k).ren (into H p.2)
  args : args = (e.args p.1).map (AV.ren (into H p.2))
def EfH.eff (e : EfH) (p : e.A × List Nat) (H : Heap) : Eff := ⟨e.ok p.1, (e.val p.1).ren (into H p.2), p.2.zip ((e.os' p.1).map (HO.ren (into H p.2))), ((e.os' p.1).drop p.2.length).map (HO.ren (into H p.2)), none⟩
open Classical in
noncomputable def EfH.pick (e : EfH) (args : List AV) (H : Heap) : Option Eff := if h : ∃ p, e.Fits p args H then some (e.eff h.choose H) else none
theorem EfH.pick_at (e : EfH) : e.At e.pick := by
  constructor
  intro args H x hx
  unfold EfH.pick at hx
  split at hx
  · rename_i h
    have hf := h.choose_spec
    generalize h.choose = p at hx hf
    simp only [Option.some.injEq] at hx
    subst hx
    exact ⟨rfl, fun hok => ⟨p.1, p.2, hf.nodup, hf.len, hf.lt, hf.at_, hf.args, hok, rfl, rfl, rfl⟩⟩
  · cases hx
theorem EfH.pick_fits {e : EfH} {p : e.A × List Nat} {args : List AV} {H : Heap} (hi : ∀ q, e.Fits q args H → q = p) (h : e.Fits p args H) : e.pick args H = some (e.eff p H) := by
  have h' : ∃ p, e.Fits p args H := ⟨p, h⟩
  unfold EfH.pick
  rw [dif_pos h', hi _ h'.choose_spec]

theorem zip_at : ∀ (ids : List Nat) (L : List HO) (H : Heap) (k : Nat) (hk : k < ids.length) (h2 : k < L.length), ids.Nodup → (∀ i ∈ ids, i < H.length) → (applyUps H (ids.zip L)).at ids[k] = L[k] := by
  intro ids
  induction ids with
  | nil => intro L H k hk; simp at hk
  | cons i ids ih =>
    intro L H k hk h2 hn hlt
    cases L with
    | nil => simp at h2
    | cons o L =>
      rw [List.nodup_cons] at hn
      show (applyUps (H.set i o) (ids.zip L)).at (i :: ids)[k] = (o :: L)[k]
      cases k with
      | zero =>
        simp only [List.getElem_cons_zero]
        unfold applyUps
        rw [foldl_set_at]
        · rw [Heap.at_set (hlt i (by simp)), if_pos rfl]
        · intro h
          obtain ⟨p, hp, e⟩ := List.mem_map.1 h
          have := (List.of_mem_zip hp).1
          rw [e] at this
          exact hn.1 this
      | succ k =>
        simp only [List.getElem_cons_succ]
        exact ih L _ k (by simpa using hk) (by simpa using h2) hn.2 (fun j hj => by rw [List.length_set]; exact hlt j (by simp [hj]))

theorem EfH.Body.tab {P : Program} {T T0 : Tab} {e : EfH} {E : List AV → Heap → Option Eff} (hE : e.At E) {live : List Nat} {lc : LCode} {rs : List LRes} (h : e.Body T live lc rs) (hT : TabOK P T) (hT0 : TabOK P T0) {f : FuncId} {fn : Func} {c : Code} (hf : P.funcs[f]? = some fn)
    (hname : (fn.name == "runtime.NumGoroutine") = false) (hb : fn.body = some c) (hl : lowCode P fn.ntmps c = some lc) (hr : lowRess P fn.results.toList = some rs) (ha : ∀ x, (e.args x).length ≤ fn.ntmps) : TabOK P (T0.addG f E) := by
  refine hT0.addG (fun args H x hx hok => ?_) fun args H x t hx ht hok => by rw [(hE.at_ args H x hx).1] at ht; cases ht
  obtain ⟨y, ids, h1, h2, h3, h4, rfl, h6, h7, h8, h9⟩ := (hE.at_ args H x hx).2 hok
  have hcall : ACalls P f (e.args y) (e.os y) (fun r H1 => r = e.val y ∧ H1 = e.os' y) := ACalls.exact (ACalls.of_vck hT live hf hname hb hl hr (ha y) (h.body y h6))
  have hlen := h.len y
  have hul : (applyUps H x.ups).length = H.length := foldl_set_len _ _
  have hfr : Framed H ids (e.os' y) (applyUps H x.ups ++ x.news) := by
    refine ⟨by rw [List.length_append, hul, h9]; simp, fun j hj hm => ?_, fun i hi => ?_⟩
    · have e1 : Heap.at (applyUps H x.ups ++ x.news) j = (applyUps H x.ups).at j := by
        unfold Heap.at
        rw [List.getD_eq_getElem?_getD, List.getElem?_append_left (by rw [hul]; exact hj), List.getD_eq_getElem?_getD]
      rw [e1]
      unfold applyUps
      rw [foldl_set_at]
      intro hh
      obtain ⟨p, hp, e2⟩ := List.mem_map.1 hh
      rw [h8] at hp
      have := (List.of_mem_zip hp).1
      rw [e2] at this
      exact hm this
    · by_cases hk : i < ids.length
      · have e1 : Heap.at (applyUps H x.ups ++ x.news) ids[i] = (applyUps H x.ups).at ids[i] := by
          unfold Heap.at
          rw [List.getD_eq_getElem?_getD, List.getElem?_append_left (by rw [hul]; exact h3 _ (List.getElem_mem hk)), List.getD_eq_getElem?_getD]
        rw [into_lt hk, e1, h8, zip_at _ _ _ _ hk (by rw [List.length_map]; exact hi) h1 h3, List.getElem_map]
        unfold Heap.at
        rw [List.getD_eq_getElem?_getD, List.getElem?_eq_getElem hi]; rfl
      · rw [into_ge (by omega)]
        unfold Heap.at
        rw [List.getD_eq_getElem?_getD, List.getElem?_append_right (by rw [hul]; omega), hul, show H.length + (i - ids.length) - H.length = i - ids.length by omega, h9, List.getElem?_map, List.getElem?_drop, show ids.length + (i - ids.length) = i by omega,
          List.getElem?_eq_getElem hi, List.getD_eq_getElem?_getD, List.getElem?_eq_getElem hi]; rfl
  have := ACalls.frame (ids := ids) h1 h2 h3 (by omega) h4 hfr hcall
  rw [← h7] at this
  exact this

end Go.Ago

/- A list that is nil, in a cell of an object of ours, taken as a row of ours that has nothing in it. Conditions: none. -/
set_option linter.unusedSimpArgs false
set_option linter.unusedVariables false
namespace Go.Ago
/-- An object said in other words. -/
theorem SimH.redo {P : Program} {A : Nat → Prop} {φ : Nat → Option (Nat × Nat)} {H : Heap} {w : World} (h : SimH P A φ H w) {i : Nat} {x : HO} (hal : (H.at i).alive) (hx : x.alive)
    (hr : ∀ b o, φ i = some (b, o) → RelO φ (Mb A φ H) w b o x) (hx2 : ∀ b o, φ i = some (b, o) → RelX φ w b o x) (hth : ∀ sz rows, x.rows = some (sz, rows) → rows ≠ [] → ∃ b o, φ i = some (b, o)) :
    SimH P A φ (H.set i x) w ∧ own φ (H.set i x) = own φ H := by
  have hi : i < H.length := Heap.at_lt hal
  have hali : ∀ j, (Heap.at (H.set i x) j).alive ↔ (H.at j).alive := fun j => by
    rw [Heap.at_set hi]
    by_cases e : i = j
    · subst e; rw [if_pos rfl]; exact ⟨fun _ => hal, fun _ => hx⟩
    · rw [if_neg e]
  have hown : own φ (H.set i x) = own φ H := funext fun b => propext ⟨fun ⟨j, o, h1, h2⟩ => ⟨j, o, (hali j).1 h1, h2⟩, fun ⟨j, o, h1, h2⟩ => ⟨j, o, (hali j).2 h1, h2⟩⟩
  have hM : (fun b => A b ∨ own φ (H.set i x) b) = (fun b => A b ∨ own φ H b) := by rw [hown]
  refine ⟨⟨fun j b o hb => ?_, fun j sz rows hr' hn => ?_, fun j k b o o' hj hk => h.inj j k b o o' ((hali j).1 hj) ((hali k).1 hk), h.amb, fun b hA => by rw [hown]; exact h.apart b hA, fun j b o hj hb => ?_, by rw [hM]; exact h.tab, fun j b o hj hb => ?_⟩, hown⟩
  · rw [List.length_set]; exact h.dom j b o hb
  · rw [Heap.at_set hi] at hr'
    by_cases e : i = j
    · subst e; rw [if_pos rfl] at hr'; exact hth sz rows hr' hn
    · rw [if_neg e] at hr'; exact h.there j sz rows hr' hn
  · rw [hM, Heap.at_set hi]
    by_cases e : i = j
    · subst e; rw [if_pos rfl]; exact hr b o hb
    · rw [if_neg e]; exact h.objs j b o ((hali j).1 hj) hb
  · rw [Heap.at_set hi]
    by_cases e : i = j
    · subst e; rw [if_pos rfl]; exact hx2 b o hb
    · rw [if_neg e]; exact h.objx j b o ((hali j).1 hj) hb
theorem nilcell_says {n0 : Nat} {env : Env} {H : Heap} {id : Nat} (sz : Nat) (h : H.at id = .vec 1 [[.d (.list [] true)]]) : Says n0 ⟨env, H⟩ ⟨env, (H ++ [HO.dvec sz []]).set id (.vec 1 [[.ref H.length sz 0 0 true]])⟩ := by
  intro P A n φ a w hs
  obtain ⟨s1, o1⟩ := hs.heap.nilobj sz
  have hal0 : (Heap.at H id).alive := by rw [h]; trivial
  have hat : Heap.at (H ++ [HO.dvec sz []]) id = .vec 1 [[.d (.list [] true)]] := by rw [at_snoc (Heap.at_lt hal0)]; exact h
  have hal : (Heap.at (H ++ [HO.dvec sz []]) id).alive := by rw [hat]; trivial
  obtain ⟨s2, e2⟩ := s1.redo (x := .vec 1 [[.ref H.length sz 0 0 true]]) hal trivial (fun b o hb => by
    intro sz' rows hr
    simp only [HO.rows, Option.some.injEq, Prod.mk.injEq] at hr
    obtain ⟨rfl, rfl⟩ := hr
    obtain ⟨c, T, g1, g2, g3, g4⟩ := s1.objs id b o hal hb 1 [[.d (.list [] true)]] (by rw [hat]; rfl)
    refine ⟨c, T, g1, g2, fun r hr => by simp at hr; subst hr; rfl, fun k r j x hk hx => ?_⟩
    cases k with
    | succ k => simp at hk
    | zero =>
      simp at hk; subst hk
      cases j with
      | succ j => simp at hx
      | zero =>
        simp at hx; subst hx
        obtain ⟨v, hv, hrel⟩ := g4 0 _ 0 _ rfl rfl
        refine ⟨v, hv, ?_⟩
        cases hrel with
        | d _ _ hd =>
          generalize hX : DV.list [] true = X at hd
          cases hd <;> simp at hX
          case nil full a cap hf =>
            subst hX
            have := hf rfl
            subst this
            exact .ref0 _ _ _ _ _
          case list rows full sz b off cap f hb hM hsz hcap hfull hc hr =>
            obtain ⟨rfl, rfl⟩ := hX
            have := hfull rfl
            simp at this
            subst this
            exact .ref0 _ _ _ _ _) (fun b o hb => trivial) (fun sz' rows hr hn => s1.there id 1 [[.d (.list [] true)]] (by rw [hat]; rfl) (by simp))
  have hM : Mb A φ ((H ++ [HO.dvec sz []]).set id (.vec 1 [[.ref H.length sz 0 0 true]])) = Mb A φ (H ++ [HO.dvec sz []]) := funext fun b => by show (A b ∨ _) = (A b ∨ _); rw [e2]
  refine ⟨φ, ⟨s2, hs.size, hs.defs, fun t => ?_⟩, fun _ _ => rfl, Pres.refl _ _, fun b hb => ?_⟩
  · show Rel φ (Mb A φ ((H ++ [HO.dvec sz []]).set id _)) w _ _
    rw [hM]; exact o1.rel (hs.slots t)
  · have hb' : own φ ((H ++ [HO.dvec sz []]).set id (.vec 1 [[.ref H.length sz 0 0 true]])) b := hb
    rw [e2] at hb'
    exact o1.mono b hb'
theorem Loop.nilcell {T : Tab} {n0 : Nat} {live : List Nat} {b : LCode} {env : Env} {H : Heap} {K : AExit → State → Prop} (id sz : Nat) (h : H.at id = .vec 1 [[.d (.list [] true)]]) (hn : n0 ≤ H.length)
    (hl : Loop T n0 live b ⟨env, (H ++ [HO.dvec sz []]).set id (.vec 1 [[.ref H.length sz 0 0 true]])⟩ K) : Loop T n0 live b ⟨env, H⟩ K :=
  Loop.says (nilcell_says sz h) (by rw [List.length_set, List.length_append]; omega) hl
end Go.Ago

/- Chapter 18: pairs; who reads whom. Conditions: none. -/
set_option maxRecDepth 100000
set_option linter.unusedSimpArgs false
set_option linter.unusedVariables false
namespace Go.Ago
attribute [local irreducible] vck
/-! ### One pair more -/
def ef_add : EfH where
  A := List (List DV) × Int × Int
  args := fun x => [.ptr 0 1 0 0, .d (.int .i64 x.2.1), .d (.int .i64 x.2.2)]
  os := fun x => [.vec 1 [[.ref 1 2 0 x.1.length true]], .dvec 2 x.1]
  ok := fun x => (∀ r ∈ x.1, r.length = 2) ∧ roomy (x.1.length + 1) 16
  val := fun _ => .tup []
  os' := fun x => [.vec 1 [[.ref 2 2 0 (x.1.length + 1) true]], .dead, .dvec 2 (x.1 ++ [[.int .i64 x.2.1, .int .i64 x.2.2]])]
def addE2 (H : Heap) (o : HO) (id id2 n : Nat) (a b : Int) : Option Eff :=
  match o with
  | .dvec 2 rows => some ⟨n = rows.length ∧ (∀ r ∈ rows, r.length = 2) ∧ id ≠ id2 ∧ roomy (rows.length + 1) 16, .tup [], [(id, .vec 1 [[.ref H.length 2 0 (rows.length + 1) true]]), (id2, .dead)], [.dvec 2 (rows ++ [[.int .i64 a, .int .i64 b]])], none⟩
  | _ => none
def addE1 (H : Heap) (o : HO) (id : Nat) (a b : Int) : Option Eff :=
  match o with
  | .vec 1 [[.ref id2 2 0 n true]] => addE2 H (H.at id2) id id2 n a b
  | _ => none
def addE (args : List AV) (H : Heap) : Option Eff :=
  match args with
  | [.ptr id 1 0 0, .d (.int .i64 a), .d (.int .i64 b)] => addE1 H (H.at id) id a b
  | _ => none
theorem add_at : ef_add.At addE := by
  constructor
  intro args H x hx
  unfold addE at hx
  split at hx
  case h_2 => cases hx
  rename_i id a b
  unfold addE1 at hx
  split at hx
  case h_2 => cases hx
  rename_i id2 n h1
  unfold addE2 at hx
  split at hx
  case h_2 => cases hx
  rename_i rows h2
  simp only [Option.some.injEq] at hx
  subst hx
  refine ⟨rfl, ?_⟩
  rintro ⟨rfl, h3, h4, h5⟩
  have l1 : id < H.length := Heap.at_lt (by rw [h1]; trivial)
  have l2 : id2 < H.length := Heap.at_lt (by rw [h2]; trivial)
  have e0 : into H [id, id2] 0 = id := rfl
  have e1 : into H [id, id2] 1 = id2 := rfl
  have e2 : into H [id, id2] 2 = H.length := rfl
  refine ⟨(rows, a, b), [id, id2], by simp [h4], rfl, by simp [l1, l2], fun k hk => ?_, ?_, ⟨h3, h5⟩, rfl, ?_, ?_⟩
  · match k, hk with
    | 0, _ => show H.at id = _; rw [h1]; simp [ef_add, Heap.at, HO.ren, AV.ren, e1]
    | 1, _ => show H.at id2 = _; rw [h2]; simp [ef_add, Heap.at, HO.ren]
  · simp [ef_add, AV.ren, e0]
  · simp [ef_add, HO.ren, AV.ren, e2]
  · simp [ef_add, HO.ren]
theorem efh_cand_pairs_add {T : Tab} : ef_add.Body T V_cand_pairs_add L_cand_pairs_add R_cand_pairs_add := by
  refine ⟨fun x => by show 2 ≤ 3; omega, ?_⟩
  rintro ⟨rows, a, b⟩ ⟨h1, h2⟩
  have h1 : ∀ r ∈ rows, r.length = 2 := h1
  have h2 : roomy (rows.length + 1) 16 := h2
  unfold V_cand_pairs_add L_cand_pairs_add R_cand_pairs_add
  simp (maxSteps := 3000000) only [↓Z1a, ↓Z2b, ↓Z1k, ↓Z05, ↓Z2v, ↓Z2r, nilG_d, nilG_r, ↓Z1g, ↓Z19, ↓Z0d, ↓Z1l, ↓Z0m, ↓Z20, ↓Z30, ↓Z33, ↓Z24, ↓Z1j, ↓Z2m, ↓Z28, ↓Z1z, ↓Z3r, ↓retK_n, ↓Z3n, ↓Z3p, ↓Z3o, ↓Z41, ↓Z3x, ↓Z4b, ↓Z0j, ↓Z08, ↓Z1b, ↓Z0i, ↓Z1n, nf_mk, Z09, Z18, Z34, Z1c, Z37, evN, Z2i, Z1y, Z36, Z47, Z1x, Z17, Z1i, Z2u, Z2j, Z2f, Z1o, Z2c, evT, Opd.ev, Z02, Z00, Z35, Z45, Z3w, Z27, Z1m, Z2a, Z2e, Z3l, Z1d, Z0c, Z3e, LOp.isNew, State.prune, Z3t, Z31, AV.leaf, Heap.at, Z0k, Z0a, Z1h, Z0g, Z03, idx_I, idx_W, rowW, Z26, Z2w, Z22, Z1e, rowB, Z2y, Z2x, rowN, lens_W, Z3s, Z1f, Z15, w_or, w_and, Z2z, Z4d, w_shl, Z4c, w_shr, Z4e, w_neg, w_add, w_bit, w_eq0, w_eq1, w_eq, Bool.decide_eq_true, Z3h, Z3k, Z3j, Z2n, Z1p, Z04, Z0b, Z0n, Z01, Z21, rowI, RatG.row, LocG.row, ActG.row, StepG.row, StampG.row, ActG.av, ActG.eta, RatG.eta, LocG.eta, beq_true, beq_false, Z2k, Z2t, Z2l, Z2s, Z14, Z0q, Z12, Z13, Z0p, Z0o, Z0e, List.length_set, List.length_replicate, Z06, Int.reduceToNat, evLen, Z29, Z40, Src.all, Src.len, Src.leaf, Src.leafN, Z3c, Z48, joinV, Z0l, Z0r, Z0s, Z0t, Z0u, Z0v, Z0w, Z0x, mkVec, drows, evMk, List.length_map, Z1w, Z23, List.take_length, List.take_left, List.length_append, Nat.le_add_right, ite_self, List.take_of_length_le, Z3d, intOr, Z43, Option.isSome_none, Option.isSome_some, Nat.sub_zero, loadQ, loadT, evBin, evUn, Z0y, Z0z, binT, binQ, chk, Z3u, List.contains_cons, List.contains_nil, Bool.or_false, Bool.false_or, Bool.and_self, resQ, resV, resT, pickV, Z2d, Z4a, Z3q, fnOf, Z3f, isD, HO.drow, viewT, Z3y, evEq, eqV, eqK, eqC1, Z49, Z46, Z3b, Z38, lens_I, Z3m, Z2q, Z1s, Z2p, Z1r, Z2o, Z1q, Z1t, Z10, Z11, Z0f, List.mem_cons, List.not_mem_nil, or_false, forall_eq, putRow, Z3g, get_nil, RetS, RetF, RetD, AV.frz, AV.frzL, AV.freshP, AV.freshL, DV.less, Z2g, Z1u, Z2h, Z1v, Z0h, Z07, Option.some.injEq, AV.tup.injEq, AV.agg.injEq, List.cons.injEq, DV.list.injEq, List.isEmpty_nil, Nat.le_refl, AV.d.injEq, DV.int.injEq, DV.bool.injEq, ↓reduceIte, Nat.reduceEqDiff, Nat.reduceAdd, Nat.reduceBEq, List.length_cons, List.length_nil, List.replicate_succ, List.replicate_zero, List.nil_append, List.cons_append, List.append_nil, List.foldl_cons, List.foldl_nil, List.map_cons, List.map_nil, List.all_cons, List.all_nil, List.set_cons_zero, List.set_cons_succ, List.getD_cons_zero, List.getD_cons_succ, List.drop_zero, List.drop_succ_cons, List.take_succ_cons, List.take_zero, List.flatten_cons, List.flatten_nil, Bool.true_and, Bool.and_true, Bool.not_true, Bool.not_false, true_and, and_true, true_or, or_true, Option.bind_some, Option.map_some, decide_true, decide_false, beq_self_eq_true, true_implies, false_implies, implies_true, not_true_eq_false, not_false_eq_true, and_self, Bool.and_false, Bool.false_and, Nat.reduceLT, Nat.reduceLeDiff, List.reverse_cons, List.reverse_nil, Nat.zero_add, Nat.add_zero, Bool.false_eq_true, List.getElem?_cons_zero, Nat.reduceMul, Nat.mul_one, ef_add]
  exact ⟨h2, RetG.mk [0, 1, 3] (by simp) (by simp) (fun i hi => by
    match i, hi with
    | 0, _ => rfl
    | 1, _ => rfl) rfl (by simp only [State.can, AV.can, AV.canL, HO.can, Z25, idx, Z02, Z00, Heap.at, Nat.reduceBEq, ↓reduceIte, Nat.reduceEqDiff, Option.getD_some, Option.map_some, List.map_cons, List.map_nil, List.getD_cons_zero, List.getD_cons_succ, List.map_cons, List.map_nil])⟩
/-! ### Pairs as a relation -/
def sp_prel : Sp := ⟨List RatG × Bool × Int, fun x => [.d (.list (x.1.map RatG.row) x.2.1), .d (.int .i64 x.2.2)], fun x => .data (x.1.length ≤ maxLen) (.d (.list ((ofG x.2.2 x.1).map rowW) false)) false⟩
theorem at_prel (l : List RatG) (f : Bool) (n : Int) : sp_prel.at [.d (.list (l.map RatG.row) f), .d (.int .i64 n)] = .data (l.length ≤ maxLen) (.d (.list ((ofG n l).map rowW) false)) false :=
  Sp.at_enc (s := sp_prel) (fun x y h => by
    obtain ⟨a, b, c⟩ := x; obtain ⟨a', b', c'⟩ := y
    simp only [sp_prel, List.cons.injEq, AV.d.injEq, DV.list.injEq, DV.int.injEq, and_true, true_and] at h
    rw [Z3i RatG.row_inj h.1.1, h.1.2, h.2]) (l, f, n)
theorem body_cand_pairs_rel {T : Tab} {n1 : Nat} (k1 : Knows T n1 sp_Of) : sp_prel.Body T V_cand_pairs_rel (L_cand_pairs_rel n1) R_cand_pairs_rel := by
  have F1 := k1.F; have G1 := k1.G
  rintro ⟨l, f, n⟩ h
  have h : l.length ≤ maxLen := h
  refine ⟨rfl, ?_⟩
  unfold V_cand_pairs_rel L_cand_pairs_rel R_cand_pairs_rel
  simp (maxSteps := 3000000) only [↓Z1a, ↓Z2b, ↓Z1k, ↓Z05, ↓Z2v, ↓Z2r, nilG_d, nilG_r, ↓Z1g, ↓Z19, ↓Z0d, ↓Z1l, ↓Z0m, ↓Z20, ↓Z30, ↓Z33, ↓Z24, ↓Z1j, ↓Z2m, ↓Z28, ↓Z1z, ↓Z3r, ↓retK_n, ↓Z3n, ↓Z3p, ↓Z3o, ↓Z41, ↓Z3x, ↓Z4b, ↓Z0j, ↓Z08, ↓Z1b, ↓Z0i, ↓Z1n, nf_mk, Z09, Z18, Z34, Z1c, Z37, evN, Z2i, Z1y, Z36, Z47, Z1x, Z17, Z1i, Z2u, Z2j, Z2f, Z1o, Z2c, evT, Opd.ev, Z02, Z00, Z35, Z45, Z3w, Z27, Z1m, Z2a, Z2e, Z3l, Z1d, Z0c, Z3e, LOp.isNew, State.prune, Z3t, Z31, AV.leaf, Heap.at, Z0k, Z0a, Z1h, Z0g, Z03, idx_I, idx_W, rowW, Z26, Z2w, Z22, Z1e, rowB, Z2y, Z2x, rowN, lens_W, Z3s, Z1f, Z15, w_or, w_and, Z2z, Z4d, w_shl, Z4c, w_shr, Z4e, w_neg, w_add, w_bit, w_eq0, w_eq1, w_eq, Bool.decide_eq_true, Z3h, Z3k, Z3j, Z2n, Z1p, Z04, Z0b, Z0n, Z01, Z21, rowI, RatG.row, LocG.row, ActG.row, StepG.row, StampG.row, ActG.av, ActG.eta, RatG.eta, LocG.eta, beq_true, beq_false, Z2k, Z2t, Z2l, Z2s, Z14, Z0q, Z12, Z13, Z0p, Z0o, Z0e, List.length_set, List.length_replicate, Z06, Int.reduceToNat, evLen, Z29, Z40, Src.all, Src.len, Src.leaf, Src.leafN, Z3c, Z48, joinV, Z0l, Z0r, Z0s, Z0t, Z0u, Z0v, Z0w, Z0x, mkVec, drows, evMk, List.length_map, Z1w, Z23, List.take_length, List.take_left, List.length_append, Nat.le_add_right, ite_self, List.take_of_length_le, Z3d, intOr, Z43, Option.isSome_none, Option.isSome_some, Nat.sub_zero, loadQ, loadT, evBin, evUn, Z0y, Z0z, binT, binQ, chk, Z3u, List.contains_cons, List.contains_nil, Bool.or_false, Bool.false_or, Bool.and_self, resQ, resV, resT, pickV, Z2d, Z4a, Z3q, fnOf, Z3f, isD, HO.drow, viewT, Z3y, evEq, eqV, eqK, eqC1, Z49, Z46, Z3b, Z38, lens_I, Z3m, Z2q, Z1s, Z2p, Z1r, Z2o, Z1q, Z1t, Z10, Z11, Z0f, List.mem_cons, List.not_mem_nil, or_false, forall_eq, putRow, Z3g, get_nil, RetS, RetF, RetD, AV.frz, AV.frzL, AV.freshP, AV.freshL, DV.less, Z2g, Z1u, Z2h, Z1v, Z0h, Z07, Option.some.injEq, AV.tup.injEq, AV.agg.injEq, List.cons.injEq, DV.list.injEq, List.isEmpty_nil, Nat.le_refl, AV.d.injEq, DV.int.injEq, DV.bool.injEq, ↓reduceIte, Nat.reduceEqDiff, Nat.reduceAdd, Nat.reduceBEq, List.length_cons, List.length_nil, List.replicate_succ, List.replicate_zero, List.nil_append, List.cons_append, List.append_nil, List.foldl_cons, List.foldl_nil, List.map_cons, List.map_nil, List.all_cons, List.all_nil, List.set_cons_zero, List.set_cons_succ, List.getD_cons_zero, List.getD_cons_succ, List.drop_zero, List.drop_succ_cons, List.take_succ_cons, List.take_zero, List.flatten_cons, List.flatten_nil, Bool.true_and, Bool.and_true, Bool.not_true, Bool.not_false, true_and, and_true, true_or, or_true, Option.bind_some, Option.map_some, decide_true, decide_false, beq_self_eq_true, true_implies, false_implies, implies_true, not_true_eq_false, not_false_eq_true, and_self, Bool.and_false, Bool.false_and, Nat.reduceLT, Nat.reduceLeDiff, List.reverse_cons, List.reverse_nil, Nat.zero_add, Nat.add_zero, Bool.false_eq_true, List.getElem?_cons_zero, Nat.reduceMul, Nat.mul_one, sp_prel, F1, G1, at_Of]
  exact h
/-! ### Who reads whom -/
def okN (D : List NodeG) (w : Int) (i : Nat) : Bool :=
  decide (0 ≤ w) && decide (w < D.length) && decide ((D.getD w.toNat default).loc = 2) && decide ((D.getD w.toNat default).old = (D.getD i default).old) && decide ((D.getD w.toNat default).new = (D.getD i default).new)
def rdN (D : List NodeG) (fr : List Int) : Nat → Option (List Int × List RatG)
  | 0 => some (fr, [])
  | i + 1 => match rdN D fr i with
    | none => none
    | some (r, ps) => if (D.getD i default).loc = 1 then (match r with
      | [] => none
      | w :: r' => if okN D w i = true then some (r', ps ++ [⟨w, i⟩]) else none) else some (r, ps)
theorem rdN_no {D : List NodeG} {fr r : List Int} {ps : List RatG} {i : Nat} (h : rdN D fr i = some (r, ps)) (hR : ¬ (D.getD i default).loc = 1) : rdN D fr (i + 1) = some (r, ps) := by
  unfold rdN; rw [h]; simp only; rw [if_neg hR]
theorem rdN_yes {D : List NodeG} {fr r : List Int} {w : Int} {ps : List RatG} {i : Nat} (h : rdN D fr i = some (w :: r, ps)) (hR : (D.getD i default).loc = 1) (hk : okN D w i = true) : rdN D fr (i + 1) = some (r, ps ++ [⟨w, i⟩]) := by
  unfold rdN; rw [h]; simp only; rw [if_pos hR, if_pos hk]
theorem rdN_end {D : List NodeG} {fr : List Int} {ps : List RatG} {i : Nat} (h : rdN D fr i = some ([], ps)) (hR : (D.getD i default).loc = 1) : rdN D fr (i + 1) = none := by
  unfold rdN; rw [h]; simp only; rw [if_pos hR]
theorem rdN_bad {D : List NodeG} {fr r : List Int} {w : Int} {ps : List RatG} {i : Nat} (h : rdN D fr i = some (w :: r, ps)) (hR : (D.getD i default).loc = 1) (hk : okN D w i = false) : rdN D fr (i + 1) = none := by
  unfold rdN; rw [h]; simp only; rw [if_pos hR, if_neg (by rw [hk]; simp)]
theorem rdN_none {D : List NodeG} {fr : List Int} {i n : Nat} (h : rdN D fr i = none) (hn : i ≤ n) : rdN D fr n = none := by
  induction n with
  | zero => rwa [show i = 0 by omega] at h
  | succ n ih =>
    by_cases e : i = n + 1
    · rwa [← e]
    · unfold rdN; rw [ih (by omega)]
def readN (D : List NodeG) (fr : List Int) : List RatG × Bool := match rdN D fr D.length with
  | none => ([], false)
  | some (r, ps) => (ps, decide (r.length = 0))
theorem readN_none {D : List NodeG} {fr : List Int} {i : Nat} (h : rdN D fr i = none) (hi : i ≤ D.length) : readN D fr = ([], false) := by
  unfold readN; rw [rdN_none h hi]
def sp_readN : Sp := ⟨List NodeG × Bool × List Int × Bool, fun x => [.d (.list (x.1.map ActG.row) x.2.1), .d (.list (x.2.2.1.map rowI) x.2.2.2)],
  fun x => .data (x.1.length ≤ 64) (.tup [.d (.list ((readN x.1 x.2.2.1).1.map RatG.row) false), .d (.bool (readN x.1 x.2.2.1).2)]) false⟩
theorem at_readN (D : List NodeG) (f : Bool) (fr : List Int) (g : Bool) : sp_readN.at [.d (.list (D.map ActG.row) f), .d (.list (fr.map rowI) g)] =
    .data (D.length ≤ 64) (.tup [.d (.list ((readN D fr).1.map RatG.row) false), .d (.bool (readN D fr).2)]) false :=
  Sp.at_enc (s := sp_readN) (fun x y h => by
    obtain ⟨a, b, c, d⟩ := x; obtain ⟨a', b', c', d'⟩ := y
    simp only [sp_readN, List.cons.injEq, AV.d.injEq, DV.list.injEq, and_true] at h
    obtain ⟨⟨h1, h2⟩, h3, h4⟩ := h
    rw [Z3i ActG.row_inj h1, h2, Z3i rowI_inj h3, h4]) (D, f, fr, g)
def vSt (D : List NodeG) (f : Bool) (x : Nat × (List Int × Bool) × List RatG) : State :=
  ⟨[(0, .d (.list (D.map ActG.row) f)), (1, .d (.list (x.2.1.1.map rowI) x.2.1.2)), (6, .ptr 0 1 0 0), (10, .d (.list (D.map ActG.row) f)), (11, .d (.int .i64 D.length)), (12, .d (.int .i64 x.1))], [.vec 1 [[.ref 1 2 0 x.2.2.length true]], .dvec 2 (x.2.2.map RatG.row)]⟩
def vInv (D : List NodeG) (fr : List Int) (x : Nat × (List Int × Bool) × List RatG) : Prop := x.1 ≤ D.length ∧ rdN D fr x.1 = some (x.2.1.1, x.2.2) ∧ x.2.2.length ≤ x.1
set_option maxHeartbeats 4000000 in
theorem body_cand_readers {T : Tab} {n1 : Nat} (k1 : KnowsG T n1 addE) : sp_readN.Body T V_cand_readers (L_cand_readers n1) R_cand_readers := by
  have G1 := k1.G
  rintro ⟨D, f, fr, g⟩ h
  have h : D.length ≤ 64 := h
  refine ⟨rfl, ?_⟩
  unfold V_cand_readers L_cand_readers R_cand_readers
  simp (maxSteps := 3000000) only [↓Z1a, ↓Z2b, ↓Z1k, ↓Z05, ↓Z2v, ↓Z2r, nilG_d, nilG_r, ↓Z1g, ↓Z19, ↓Z0d, ↓Z1l, ↓Z0m, ↓Z20, ↓Z30, ↓Z33, ↓Z24, ↓Z1j, ↓Z2m, ↓Z28, ↓Z1z, ↓Z3r, ↓retK_n, ↓Z3n, ↓Z3p, ↓Z3o, ↓Z41, ↓Z3x, ↓Z4b, ↓Z0j, ↓Z08, ↓Z1b, ↓Z0i, ↓Z1n, nf_mk, Z09, Z18, Z34, Z1c, Z37, evN, Z2i, Z1y, Z36, Z47, Z1x, Z17, Z1i, Z2u, Z2j, Z2f, Z1o, Z2c, evT, Opd.ev, Z02, Z00, Z35, Z45, Z3w, Z27, Z1m, Z2a, Z2e, Z3l, Z1d, Z0c, Z3e, LOp.isNew, State.prune, Z3t, Z31, AV.leaf, Heap.at, Z0k, Z0a, Z1h, Z0g, Z03, idx_I, idx_W, rowW, Z26, Z2w, Z22, Z1e, rowB, Z2y, Z2x, rowN, lens_W, Z3s, Z1f, Z15, w_or, w_and, Z2z, Z4d, w_shl, Z4c, w_shr, Z4e, w_neg, w_add, w_bit, w_eq0, w_eq1, w_eq, Bool.decide_eq_true, Z3h, Z3k, Z3j, Z2n, Z1p, Z04, Z0b, Z0n, Z01, Z21, rowI, RatG.row, LocG.row, ActG.row, StepG.row, StampG.row, ActG.av, ActG.eta, RatG.eta, LocG.eta, beq_true, beq_false, Z2k, Z2t, Z2l, Z2s, Z14, Z0q, Z12, Z13, Z0p, Z0o, Z0e, List.length_set, List.length_replicate, Z06, Int.reduceToNat, evLen, Z29, Z40, Src.all, Src.len, Src.leaf, Src.leafN, Z3c, Z48, joinV, Z0l, Z0r, Z0s, Z0t, Z0u, Z0v, Z0w, Z0x, mkVec, drows, evMk, List.length_map, Z1w, Z23, List.take_length, List.take_left, List.length_append, Nat.le_add_right, ite_self, List.take_of_length_le, Z3d, intOr, Z43, Option.isSome_none, Option.isSome_some, Nat.sub_zero, loadQ, loadT, evBin, evUn, Z0y, Z0z, binT, binQ, chk, Z3u, List.contains_cons, List.contains_nil, Bool.or_false, Bool.false_or, Bool.and_self, resQ, resV, resT, pickV, Z2d, Z4a, Z3q, fnOf, Z3f, isD, HO.drow, viewT, Z3y, evEq, eqV, eqK, eqC1, Z49, Z46, Z3b, Z38, lens_I, Z3m, Z2q, Z1s, Z2p, Z1r, Z2o, Z1q, Z1t, Z10, Z11, Z0f, List.mem_cons, List.not_mem_nil, or_false, forall_eq, putRow, Z3g, get_nil, RetS, RetF, RetD, AV.frz, AV.frzL, AV.freshP, AV.freshL, DV.less, Z2g, Z1u, Z2h, Z1v, Z0h, Z07, Option.some.injEq, AV.tup.injEq, AV.agg.injEq, List.cons.injEq, DV.list.injEq, List.isEmpty_nil, Nat.le_refl, AV.d.injEq, DV.int.injEq, DV.bool.injEq, ↓reduceIte, Nat.reduceEqDiff, Nat.reduceAdd, Nat.reduceBEq, List.length_cons, List.length_nil, List.replicate_succ, List.replicate_zero, List.nil_append, List.cons_append, List.append_nil, List.foldl_cons, List.foldl_nil, List.map_cons, List.map_nil, List.all_cons, List.all_nil, List.set_cons_zero, List.set_cons_succ, List.getD_cons_zero, List.getD_cons_succ, List.drop_zero, List.drop_succ_cons, List.take_succ_cons, List.take_zero, List.flatten_cons, List.flatten_nil, Bool.true_and, Bool.and_true, Bool.not_true, Bool.not_false, true_and, and_true, true_or, or_true, Option.bind_some, Option.map_some, decide_true, decide_false, beq_self_eq_true, true_implies, false_implies, implies_true, not_true_eq_false, not_false_eq_true, and_self, Bool.and_false, Bool.false_and, Nat.reduceLT, Nat.reduceLeDiff, List.reverse_cons, List.reverse_nil, Nat.zero_add, Nat.add_zero, Bool.false_eq_true, List.getElem?_cons_zero, Nat.reduceMul, Nat.mul_one, sp_readN, G1, addE, addE1, addE2]
  refine Loop.nilcell 0 2 rfl (Nat.zero_le _) ?_
  refine Loop.fam [0, 1, 6, 10, 11, 12] (vSt D f) (vInv D fr) (fun x => D.length - x.1) (0, (fr, g), []) [0, 1] (by simp) (by simp) (by simp only [List.length_cons, List.length_nil, List.cons_append, List.nil_append, List.set_cons_zero, State.can, AV.can, AV.canL, HO.can, Z25, idx, Z02, Z00, Heap.at, Nat.reduceBEq, ↓reduceIte, Nat.reduceEqDiff, Option.getD_some, Option.map_some, List.map_cons, List.map_nil, List.getD_cons_zero, List.getD_cons_succ, vSt]; rfl) ⟨Nat.zero_le _, rfl, Nat.zero_le _⟩ ?_
  rintro ⟨i, ⟨r, rg⟩, ps⟩ ⟨i1, i2, i3⟩
  have i1 : i ≤ D.length := i1
  have i2 : rdN D fr i = some (r, ps) := i2
  have i3 : ps.length ≤ i := i3
  simp (maxSteps := 3000000) only [vSt, ↓Z1a, ↓Z2b, ↓Z1k, ↓Z05, ↓Z2v, ↓Z2r, nilG_d, nilG_r, ↓Z1g, ↓Z19, ↓Z0d, ↓Z1l, ↓Z0m, ↓Z20, ↓Z30, ↓Z33, ↓Z24, ↓Z1j, ↓Z2m, ↓Z28, ↓Z1z, ↓Z3r, ↓retK_n, ↓Z3n, ↓Z3p, ↓Z3o, ↓Z41, ↓Z3x, ↓Z4b, ↓Z0j, ↓Z08, ↓Z1b, ↓Z0i, ↓Z1n, nf_mk, Z09, Z18, Z34, Z1c, Z37, evN, Z2i, Z1y, Z36, Z47, Z1x, Z17, Z1i, Z2u, Z2j, Z2f, Z1o, Z2c, evT, Opd.ev, Z02, Z00, Z35, Z45, Z3w, Z27, Z1m, Z2a, Z2e, Z3l, Z1d, Z0c, Z3e, LOp.isNew, State.prune, Z3t, Z31, AV.leaf, Heap.at, Z0k, Z0a, Z1h, Z0g, Z03, idx_I, idx_W, rowW, Z26, Z2w, Z22, Z1e, rowB, Z2y, Z2x, rowN, lens_W, Z3s, Z1f, Z15, w_or, w_and, Z2z, Z4d, w_shl, Z4c, w_shr, Z4e, w_neg, w_add, w_bit, w_eq0, w_eq1, w_eq, Bool.decide_eq_true, Z3h, Z3k, Z3j, Z2n, Z1p, Z04, Z0b, Z0n, Z01, Z21, rowI, RatG.row, LocG.row, ActG.row, StepG.row, StampG.row, ActG.av, ActG.eta, RatG.eta, LocG.eta, beq_true, beq_false, Z2k, Z2t, Z2l, Z2s, Z14, Z0q, Z12, Z13, Z0p, Z0o, Z0e, List.length_set, List.length_replicate, Z06, Int.reduceToNat, evLen, Z29, Z40, Src.all, Src.len, Src.leaf, Src.leafN, Z3c, Z48, joinV, Z0l, Z0r, Z0s, Z0t, Z0u, Z0v, Z0w, Z0x, mkVec, drows, evMk, List.length_map, Z1w, Z23, List.take_length, List.take_left, List.length_append, Nat.le_add_right, ite_self, List.take_of_length_le, Z3d, intOr, Z43, Option.isSome_none, Option.isSome_some, Nat.sub_zero, loadQ, loadT, evBin, evUn, Z0y, Z0z, binT, binQ, chk, Z3u, List.contains_cons, List.contains_nil, Bool.or_false, Bool.false_or, Bool.and_self, resQ, resV, resT, pickV, Z2d, Z4a, Z3q, fnOf, Z3f, isD, HO.drow, viewT, Z3y, evEq, eqV, eqK, eqC1, Z49, Z46, Z3b, Z38, lens_I, Z3m, Z2q, Z1s, Z2p, Z1r, Z2o, Z1q, Z1t, Z10, Z11, Z0f, List.mem_cons, List.not_mem_nil, or_false, forall_eq, putRow, Z3g, get_nil, RetS, RetF, RetD, AV.frz, AV.frzL, AV.freshP, AV.freshL, DV.less, Z2g, Z1u, Z2h, Z1v, Z0h, Z07, Option.some.injEq, AV.tup.injEq, AV.agg.injEq, List.cons.injEq, DV.list.injEq, List.isEmpty_nil, Nat.le_refl, AV.d.injEq, DV.int.injEq, DV.bool.injEq, ↓reduceIte, Nat.reduceEqDiff, Nat.reduceAdd, Nat.reduceBEq, List.length_cons, List.length_nil, List.replicate_succ, List.replicate_zero, List.nil_append, List.cons_append, List.append_nil, List.foldl_cons, List.foldl_nil, List.map_cons, List.map_nil, List.all_cons, List.all_nil, List.set_cons_zero, List.set_cons_succ, List.getD_cons_zero, List.getD_cons_succ, List.drop_zero, List.drop_succ_cons, List.take_succ_cons, List.take_zero, List.flatten_cons, List.flatten_nil, Bool.true_and, Bool.and_true, Bool.not_true, Bool.not_false, true_and, and_true, true_or, or_true, Option.bind_some, Option.map_some, decide_true, decide_false, beq_self_eq_true, true_implies, false_implies, implies_true, not_true_eq_false, not_false_eq_true, and_self, Bool.and_false, Bool.false_and, Nat.reduceLT, Nat.reduceLeDiff, List.reverse_cons, List.reverse_nil, Nat.zero_add, Nat.add_zero, Bool.false_eq_true, List.getElem?_cons_zero, Nat.reduceMul, Nat.mul_one, G1, addE, addE1, addE2]
  have hno : rdN D fr (i + 1) = none → i < D.length → [] = List.map RatG.row (readN D fr).1 ∧ false = (readN D fr).2 := fun hn hi => by
    rw [readN_none hn (by omega)]; exact ⟨rfl, rfl⟩
  have w1 : i < D.length → IntKind.i64.wrap ((i : Int) + 1) = ((i + 1 : Nat) : Int) := fun h => by rw [wrap_id (by omega) (by omega)]; omega
  refine ⟨fun e => ⟨⟨by omega, by omega⟩, fun hR => ?_, fun hR => ?_⟩, fun e => ?_⟩
  · have e' : i < D.length := by omega
    cases r with
    | nil => exact ⟨fun _ => hno (rdN_end i2 hR) e', fun h => absurd rfl h⟩
    | cons w r =>
      have hbad : okN D w i = false → [] = List.map RatG.row (readN D fr).1 ∧ false = (readN D fr).2 := fun hk => hno (rdN_bad i2 hR hk) e'
      simp only [List.getD_cons_zero, List.length_cons, List.drop_succ_cons, List.drop_zero]
      rw [w1 e']
      refine ⟨fun h => by omega, fun _ => ⟨⟨by omega, by omega⟩, ⟨by omega, by omega, by omega⟩, fun c1 => hbad ?_, fun c1 => ⟨fun c2 => hbad ?_, fun c2 => ⟨⟨by omega, by omega⟩, fun c3 => ⟨⟨by omega, by omega⟩, fun c4 => ⟨⟨by omega, by omega⟩, fun c5 => ⟨⟨by decide, roomy_of (by omega) (by omega)⟩, ?_⟩, fun c5 => hbad ?_⟩, fun c4 => hbad ?_⟩, fun c3 => hbad ?_⟩⟩⟩⟩
      · unfold okN; rw [decide_eq_false (by omega)]; rfl
      · unfold okN; rw [decide_eq_false (show ¬ w < (D.length : Int) by omega)]; simp
      · have hk : okN D w i = true := by unfold okN; rw [decide_eq_true (show 0 ≤ w by omega), decide_eq_true (show w < (D.length : Int) by omega), decide_eq_true c3, decide_eq_true c4, decide_eq_true c5]; rfl
        exact Z44.mk [0, 3] (i + 1, (r, rg), ps ++ [⟨w, i⟩]) (by simp) (by simp) (by simp only [State.can, AV.can, AV.canL, HO.can, Z25, idx, Z02, Z00, Heap.at, Nat.reduceBEq, ↓reduceIte, Nat.reduceEqDiff, Option.getD_some, Option.map_some, List.map_cons, List.map_nil, List.getD_cons_zero, List.getD_cons_succ, vSt, List.length_append, List.length_singleton]) ⟨by show i + 1 ≤ _; omega, rdN_yes i2 hR hk, by show (ps ++ [_]).length ≤ i + 1; rw [List.length_append, List.length_singleton]; omega⟩ (by show D.length - (i + 1) < D.length - i; omega)
      · unfold okN; rw [decide_eq_false c5]; simp
      · unfold okN; rw [decide_eq_false c4]; simp
      · unfold okN; rw [decide_eq_false c3]; simp
  · have e' : i < D.length := by omega
    rw [w1 e']
    exact Z44.mk [0, 1] (i + 1, (r, rg), ps) (by simp) (by simp) (by simp only [State.can, AV.can, AV.canL, HO.can, Z25, idx, Z02, Z00, Heap.at, Nat.reduceBEq, ↓reduceIte, Nat.reduceEqDiff, Option.getD_some, Option.map_some, List.map_cons, List.map_nil, List.getD_cons_zero, List.getD_cons_succ, vSt]) ⟨by show i + 1 ≤ _; omega, rdN_no i2 hR, by show ps.length ≤ i + 1; omega⟩ (by show D.length - (i + 1) < D.length - i; omega)
  · have e' : i = D.length := by omega
    subst e'
    unfold readN
    rw [i2]
    refine ⟨rfl, ?_⟩
    show _ = decide (r.length = 0)
    exact decide_eq_decide.2 ⟨fun h => by omega, fun h => by omega⟩
end Go.Ago

/- Chapter 23: the deeds. Conditions: none. -/
set_option maxRecDepth 100000
set_option linter.unusedSimpArgs false
set_option linter.unusedVariables false
namespace Go.Ago
attribute [local irreducible] vck
end Go.Ago

/- Power: the rules that are used until nothing more follows. Conditions: none. -/
set_option maxRecDepth 100000
set_option linter.unusedSimpArgs false
set_option linter.unusedVariables false
namespace Go.Ago

/-! ### Relations of n rows -/
structure Sq (n : Nat) (r : List W) : Prop where
  of ::
  eq : r = mkR n (hasN r)
theorem Sq.len {n : Nat} {r : List W} (h : Sq n r) : r.length = n := by
  rw [h.eq, mkR_len]
theorem Sq.mk {n : Nat} (hn : n ≤ 64) (p : Nat → Nat → Bool) : Sq n (mkR n p) := by
  constructor
  apply mkR_congr
  intro i k hi hk
  rw [hasN_mk hn]; simp [hi, hk]
theorem Sq.ext {n : Nat} {a b : List W} (ha : Sq n a) (hb : Sq n b) (h : ∀ i k, i < n → k < n → hasN a i k = hasN b i k) : a = b := by
  rw [ha.eq, hb.eq]
  exact mkR_congr h
theorem Sq.lt {n : Nat} {r : List W} (hs : Sq n r) {i k : Nat} (h : hasN r i k = true) : i < n ∧ k < n := by
  have := hasN_lt h; have := szR_len r; rw [hs.len] at this; omega
theorem mxR_eq {n : Nat} {a b : List W} (ha : a.length = n) (hb : b.length = n) (hn : n ≤ 64) : mxR a b = n := by unfold mxR szR; omega
theorem Sq.lay2 {n : Nat} {q : Bool → Bool → Bool} {a b : List W} (ha : a.length = n) (hb : b.length = n) (hn : n ≤ 64) : Sq n (lay2 q a b) := by
  unfold Go.Ago.lay2; rw [mxR_eq ha hb hn]; exact Sq.mk hn _
theorem Sq.thenG {n : Nat} {a b : List W} (ha : a.length = n) (hb : b.length = n) (hn : n ≤ 64) : Sq n (thenG a b) := by
  unfold Go.Ago.thenG; rw [mxR_eq ha hb hn]; exact Sq.mk hn _
def orL (l : List (List W)) : List W := l.foldl (lay2 qOr) []
theorem Sq.fold {n : Nat} (hn : n ≤ 64) : ∀ (l : List (List W)) (o : List W), Sq n o → (∀ r ∈ l, r.length = n) → Sq n (l.foldl (Go.Ago.lay2 qOr) o) := by
  intro l
  induction l with
  | nil => exact fun o ho _ => ho
  | cons r l ih => exact fun o ho hl => ih _ (Sq.lay2 ho.len (hl r (by simp)) hn) (fun x hx => hl x (by simp [hx]))
theorem mxR_nil {n : Nat} {r : List W} (h : r.length = n) (hn : n ≤ 64) : mxR [] r = n := by unfold mxR szR; simp; omega
theorem Sq.orL {n : Nat} (hn : n ≤ 64) {r : List W} {l : List (List W)} (h : r.length = n) (hl : ∀ x ∈ l, x.length = n) : Sq n (orL (r :: l)) := by
  unfold Go.Ago.orL
  rw [List.foldl_cons]
  refine Sq.fold hn l _ ?_ hl
  unfold Go.Ago.lay2; rw [mxR_nil h hn]; exact Sq.mk hn _
/-! ### all, of some -/
/-! ### Until nothing more follows -/
section
variable {α : Type} [DecidableEq α] {f : α → α} {Inv : α → Prop} {μ : α → Nat} {B : Nat}
end

/-! ### How many pairs -/
def cntR (r : List W) : Nat := (List.range 4096).countP fun t => hasN r (t / 64) (t % 64)
/-! ### ppo -/
structure P4 where
  ii : List W
  ci : List W
  ic : List W
  cc : List W
  deriving DecidableEq
structure P4.Ok (n : Nat) (s : P4) : Prop where
  ii : Sq n s.ii
  ci : Sq n s.ci
  ic : Sq n s.ic
  cc : Sq n s.cc
attribute [local irreducible] orL thenG lay2 whereG keepG mkR cntR
structure MG.Ok (m : MG) : Prop where
  n : m.nodes.length ≤ 64
  po : Sq m.nodes.length m.po
  rf : Sq m.nodes.length m.rf
  co : Sq m.nodes.length m.co
  fr : Sq m.nodes.length m.fr
  addr : Sq m.nodes.length m.addr
  data : Sq m.nodes.length m.data
  ctrl : Sq m.nodes.length m.ctrl
  fenced : Sq m.nodes.length m.fenced
  sync : Sq m.nodes.length m.sync
  lwsync : Sq m.nodes.length m.lwsync
  pairs : Sq m.nodes.length m.pairs
def MG.ext (m : MG) (r : List W) : List W := whereG m.nodes apartQ r
def MG.poloc (m : MG) : List W := whereG m.nodes locQ m.po
def MG.dd (m : MG) : List W := lay2 qOr m.addr m.data
def MG.start (m : MG) : P4 := ⟨orL [m.dd, lay2 qMinus m.rf (m.ext m.rf), lay2 qAnd m.poloc (thenG (m.ext m.fr) (m.ext m.rf))],
  orL [m.fenced, lay2 qAnd m.poloc (thenG (m.ext m.co) (m.ext m.rf))],
  List.replicate m.nodes.length 0#64,
  orL [m.dd, m.poloc, m.ctrl, thenG m.addr m.po]⟩
end Go.Ago

/- Chapter 23: what is atomic, the order, what is read ahead of. Conditions: none. -/
set_option maxRecDepth 100000
set_option linter.unusedSimpArgs false
set_option linter.unusedVariables false
namespace Go.Ago
attribute [local irreducible] vck
def DeedG.av (d : DeedG) : AV := .agg [.d (.int .i64 d.th), .d (.int .i64 d.act.kind), .d (.int .i64 d.act.loc), .d (.int .i64 d.act.old), .d (.int .i64 d.act.new)]
theorem DeedG.av_inj (x y : DeedG) (h : x.av = y.av) : x = y := by
  obtain ⟨t, ⟨a, b, c, d⟩⟩ := x; obtain ⟨t', ⟨a', b', c', d'⟩⟩ := y
  simp [DeedG.av] at h; simp [h]
theorem body_slices_Clone_int {T : Tab} : (cloneS 1 8).Body T V_slices_Clone_int L_slices_Clone_int R_slices_Clone_int := by
  rintro ⟨l, full⟩ ⟨h1, h2⟩
  refine ⟨h1, ?_⟩
  unfold V_slices_Clone_int L_slices_Clone_int R_slices_Clone_int
  simp only [↓Z1a, ↓Z2b, ↓Z1k, ↓Z05, ↓Z2v, ↓Z2r, nilG_d, nilG_r, ↓Z1g, ↓Z19, ↓Z0d, ↓Z1l, ↓Z0m, ↓Z20, ↓Z30, ↓Z33, ↓Z24, ↓Z1j, ↓Z2m, ↓Z28, ↓Z1z, ↓Z3r, ↓retK_n, ↓Z3n, ↓Z3p, ↓Z3o, ↓Z41, ↓Z3x, ↓Z4b, ↓Z0j, ↓Z08, ↓Z1b, ↓Z0i, ↓Z1n, nf_mk, Z09, Z18, Z34, Z1c, Z37, evN, Z2i, Z1y, Z36, Z47, Z1x, Z17, Z1i, Z2u, Z2j, Z2f, Z1o, Z2c, evT, Opd.ev, Z02, Z00, Z35, Z45, Z3w, Z27, Z1m, Z2a, Z2e, Z3l, Z1d, Z0c, Z3e, LOp.isNew, State.prune, Z3t, Z31, AV.leaf, Heap.at, Z0k, Z0a, Z1h, Z0g, Z03, idx_I, idx_U, Z3h, Z3k, Z3j, Z2n, Z1p, Z04, Z0b, Z0n, Z01, Z21, rowI, rowU, RatG.row, LocG.row, ActG.row, StepG.row, StampG.row, ActG.av, ActG.eta, RatG.eta, LocG.eta, beq_true, beq_false, Z2k, Z2t, set_rowU, Z2l, app_rowU, Z2s, rep_rowU, Z14, Z0q, Z12, Z13, Z0p, Z0o, Z0e, List.length_set, List.length_replicate, Int.toNat_natCast, Int.reduceToNat, evLen, Z29, Z40, Src.all, Src.len, Src.leaf, Src.leafN, Z3c, Z48, joinV, Z0l, Z0r, Z0s, Z0t, Z0u, Z0v, Z0w, Z0x, mkVec, drows, evMk, List.length_map, take_map_len, take_map_ge, loadQ, loadT, evBin, evUn, binT, binQ, chk, Z3u, List.contains_cons, List.contains_nil, Bool.or_false, Bool.false_or, Bool.and_self, resQ, resV, resT, pickV, Z2d, Z4a, Z3q, fnOf, Z3f, isD, HO.drow, viewT, Z3y, evEq, eqV, eqK, eqC1, Z49, Z46, Z3b, Z38, lens_I, Z3m, lens_U, lensA_U, Z2q, Z1s, Z2p, Z1r, Z2o, Z1q, Z1t, Z10, Z11, Z0f, List.mem_cons, List.not_mem_nil, or_false, forall_eq, putRow, Z3g, get_nil, RetS, RetF, RetD, AV.frz, AV.frzL, AV.freshP, AV.freshL, DV.less, Z2g, Z1u, Z2h, Z1v, scal_rowU, Z0h, Z07, Option.some.injEq, AV.tup.injEq, AV.agg.injEq, List.cons.injEq, DV.list.injEq, List.isEmpty_nil, Nat.le_refl, AV.d.injEq, DV.int.injEq, DV.bool.injEq, ↓reduceIte, Nat.reduceEqDiff, Nat.reduceAdd, Nat.reduceBEq, List.length_cons, List.length_nil, List.replicate_succ, List.replicate_zero, List.nil_append, List.cons_append, List.append_nil, List.foldl_cons, List.foldl_nil, List.map_cons, List.map_nil, List.all_cons, List.all_nil, List.set_cons_zero, List.set_cons_succ, List.getD_cons_zero, List.getD_cons_succ, List.drop_zero, List.drop_succ_cons, List.take_succ_cons, List.take_zero, List.flatten_cons, List.flatten_nil, Bool.true_and, Bool.and_true, Bool.not_true, Bool.not_false, true_and, and_true, true_or, or_true, Option.bind_some, Option.map_some, decide_true, decide_false, beq_self_eq_true, true_implies, false_implies, implies_true, not_true_eq_false, not_false_eq_true, and_self, Bool.and_false, Bool.false_and, Nat.reduceLT, Nat.reduceLeDiff, List.reverse_cons, List.reverse_nil, Nat.zero_add, Nat.add_zero, Bool.false_eq_true, List.getElem?_cons_zero, cloneS]
  exact clone_end h1 h2
/-! ### Worlds -/
structure WG where
  locs : List LocG
  lf : Bool
  deeds : List DeedG
  df : Bool
  rf : List W
  rff : Bool
  co : List W
  cof : Bool
def WG.av (x : WG) : AV := .agg [.d (.list (x.locs.map LocG.row) x.lf), .d (.list (x.deeds.map DeedG.row) x.df), .d (.list (x.rf.map rowW) x.rff), .d (.list (x.co.map rowW) x.cof)]
theorem WG.av_inj (x y : WG) (h : x.av = y.av) : x = y := by
  obtain ⟨a, b, c, d, e, f, g, i⟩ := x
  obtain ⟨a', b', c', d', e', f', g', i'⟩ := y
  simp only [WG.av, AV.agg.injEq, List.cons.injEq, AV.d.injEq, DV.list.injEq, and_true] at h
  obtain ⟨⟨h1, h2⟩, ⟨h3, h4⟩, ⟨h5, h6⟩, h7, h8⟩ := h
  rw [Z3i LocG.row_inj h1, h2, Z3i DeedG.row_inj h3, h4, Z3i rowW_inj h5, h6, Z3i rowW_inj h7, h8]
def WG.dl (x : WG) (i : Nat) : Int := (x.deeds.getD i default).act.loc
def WG.atom (x : WG) (i : Nat) : Bool := decide (0 ≤ x.dl i) && decide (x.dl i < x.locs.length) && (x.locs.getD (x.dl i).toNat default).atom
/-! ### The order -/
structure WG.Ok (x : WG) : Prop where
  n : x.deeds.length ≤ 64
  rf : Sq x.deeds.length x.rf
  co : Sq x.deeds.length x.co
def WG.hv (x : WG) : HO := .vec 4 [[.d (.list (x.locs.map LocG.row) x.lf), .d (.list (x.deeds.map DeedG.row) x.df), .d (.list (x.rf.map rowW) x.rff), .d (.list (x.co.map rowW) x.cof)]]
/-! ### What follows what is read -/
/-! ### Check -/
end Go.Ago

/- A row of ours that the library sorts: the kit's proved summary of slices.SortFunc as an effect of the abstract machine. Conditions: none. -/
set_option linter.unusedSimpArgs false
set_option linter.unusedVariables false
namespace Go.Ago
open Go.Shelf Go.Sort Go.Proofs Go.RowKit Go.Lib

theorem pres_grow (M : Nat → Prop) (w : World) (os : Array Obj) : Pres M w (grow w os) where
  size := by simp [grow]
  same b hb _ := by show (w.heap ++ os)[b]? = _; rw [Array.getElem?_append_left hb]
  keep b c T h := by
    have hb : b < w.heap.size := by
      rcases Nat.lt_or_ge b w.heap.size with h1 | h1
      · exact h1
      · rw [Array.getElem?_eq_none h1] at h; cases h
    exact ⟨c, by show (w.heap ++ os)[b]? = _; rw [Array.getElem?_append_left hb]; exact h, rfl⟩
  os := ⟨rfl, rfl, rfl, Nat.le_refl _⟩
  fz a ha := by
    unfold World.frozen?
    rw [show (grow w os).heap[a.block]? = w.heap[a.block]? from Array.getElem?_append_left ha]

theorem pres_ahead (M : Nat → Prop) (w : World) (n : Nat) : Pres M w (Sort.ahead w n) :=
  ⟨Nat.le_refl _, fun _ _ _ => rfl, fun _ c _ h => ⟨c, h, rfl⟩, ⟨rfl, rfl, rfl, Nat.le_add_right _ _⟩, fun _ _ => rfl⟩

theorem putRow_block {α : Type} [Inhabited α] {enc : α → Value} {w : World} {b o : Nat} {d : Array α} {c : Array Value} {T : TypeId} (h : w.heap[b]? = some (.cells c T (0, 0))) :
    Go.Sort.putRow enc w b o d = World.setBlock w b (putCells enc o d c) T := by
  unfold Go.Sort.putRow mapBlock World.setBlock
  congr 1
  apply Array.ext_getElem?
  intro i
  rw [Array.getElem?_modify, Array.getElem?_setIfInBounds]
  by_cases e : b = i
  · subst e
    have hb : b < w.heap.size := by
      rcases Nat.lt_or_ge b w.heap.size with h1 | h1
      · exact h1
      · rw [Array.getElem?_eq_none h1] at h; cases h
    rw [if_pos rfl, if_pos rfl, if_pos hb, h]; rfl
  · rw [if_neg e, if_neg e]

section
variable {P : Program} {α : Type} [Inhabited α] {enc : α → Value} {row : α → DV}

/-- The object that is a row of such values, in its block. -/
theorem row_holds (hR : ∀ M w x v, RelD M w (row x) v → v = enc x) {A : Nat → Prop} {φ : Nat → Option (Nat × Nat)} {H : Heap} {w : World} (hs : SimH P A φ H w) {id b o : Nat} {d : List α}
    (hat : H.at id = .dvec 1 (d.map fun x => [row x])) (hb : φ id = some (b, o)) :
    ∃ c T, w.heap[b]? = some (.cells c T (0, 0)) ∧ o + d.length ≤ c.size ∧ (∀ j, j < d.length → c[o + j]? = some (enc (d.toArray)[j]!)) := by
  obtain ⟨c, T, e1, e2, e3, e4⟩ := hs.objs id b o (by rw [hat]; trivial) hb 1 _ (by rw [hat]; rfl)
  refine ⟨c, T, e1, by simpa using e2, fun j hj => ?_⟩
  obtain ⟨v, hv, hr⟩ := e4 j [.d (row d[j])] 0 (.d (row d[j])) (by simp [hj]) rfl
  have : v = enc d[j] := by
    cases hr with
    | d _ _ h => exact hR _ _ _ _ h
  subst this
  rw [show o + j * 1 + 0 = o + j by omega] at hv
  rw [hv]
  simp [hj]

theorem row_sorted (hR : ∀ M w x v, RelD M w (row x) v → v = enc x) (hR' : ∀ M w x, RelD M w (row x) (enc x)) {A : Nat → Prop} {φ : Nat → Option (Nat × Nat)} {H : Heap} {w : World} (hs : SimH P A φ H w) {id b o : Nat} {d : List α}
    (hat : H.at id = .dvec 1 (d.map fun x => [row x])) (hb : φ id = some (b, o)) (n : Nat) (os : Array Obj) {d' : Array α} (hz : d'.size = d.length) :
    SimH P A φ (H.set id (.dvec 1 (d'.toList.map fun x => [row x]))) (sortWorld enc w b o n d' os) ∧ Onward A φ H w φ (H.set id (.dvec 1 (d'.toList.map fun x => [row x]))) (sortWorld enc w b o n d' os) := by
  obtain ⟨c, T, e1, e2, e3⟩ := row_holds hR hs hat hb
  obtain ⟨s1, o1⟩ := hs.keep (pres_ahead _ w n)
  have e1' : (Sort.ahead w n).heap[b]? = some (.cells c T (0, 0)) := e1
  obtain ⟨s2, o2⟩ := s1.change (i := id) (by rw [hat]; trivial) hb e1' (c' := putCells enc o d' c) (by simp [putCells]) (x := .dvec 1 (d'.toList.map fun x => [row x])) (sz := 1) (rows := d'.toList.map fun x => [.d (row x)])
    (by simp [HO.rows]) (by simp [hz]; omega) (by intro r hr; simp at hr; obtain ⟨x, _, rfl⟩ := hr; rfl) (fun k r j y hk hy => by
      rw [List.getElem?_map, Option.map_eq_some_iff] at hk
      obtain ⟨x, hx, rfl⟩ := hk
      have hk' : k < d'.size := by
        rw [← Array.length_toList]
        rcases Nat.lt_or_ge k d'.toList.length with h1 | h1
        · exact h1
        · rw [List.getElem?_eq_none h1] at hx; cases hx
      cases j with
      | succ j => simp at hy
      | zero =>
        simp at hy; subst hy
        refine ⟨enc x, ?_, .d _ _ (hR' _ _ _)⟩
        have hc : o + k < c.size := by omega
        have hx' : d'[k]! = x := by
          rw [Array.getElem?_toList] at hx
          rw [getElem!_def, hx]
        simp only [putCells, Nat.mul_one, Nat.add_zero, Array.getElem?_mapIdx, Array.getElem?_eq_getElem hc, Option.map_some]
        rw [if_pos (by omega), show o + k - o = k by omega, hx'])
  rw [← putRow_block e1'] at s2 o2
  obtain ⟨s3, o3⟩ := s2.keep (pres_grow _ (Go.Sort.putRow enc (Sort.ahead w n) b o d') os)
  exact ⟨s3, (o1.trans o2).trans o3⟩

end
end Go.Ago

/- A row of ints of ours that the library sorts (slices.Sort): the kit's proved summary as an effect of the abstract machine. Conditions: none. -/
set_option linter.unusedSimpArgs false
set_option linter.unusedVariables false
namespace Go.Ago
section
open Go.Shelf Go.Sort Go.Proofs Go.RowKit Go.Lib
def sortI (l : List Int) : List Int := l.mergeSort fun x y => decide (x ≤ y)
theorem sortI_len (l : List Int) : (sortI l).length = l.length := by unfold sortI; simp
theorem sortI_nil : sortI [] = [] := by unfold sortI; simp
theorem acall_sortI {P : Program} {ρ : Ren} (L : Lays.n189 P ρ) (hE : Go.Ago.Enters P (ρ.f 189)) {H : Heap} {id : Nat} {d : List Int} (hat : H.at id = .dvec 1 (d.map rowI)) (hz : d.length < 4611686018427387904) (room : Bool) :
    ACalls P (ρ.f 189) [.ref id 1 0 d.length room] H fun r H' => r = .tup [] ∧ H' = H.set id (.dvec 1 ((sortI d).map rowI)) := by
  have hR : ∀ M w (x : Int) v, RelD M w (.int .i64 x) v → v = Value.int .i64 x := fun M w x v h => by cases h; rfl
  have hR' : ∀ M w (x : Int), RelD M w (.int .i64 x) (Value.int .i64 x) := fun M w x => .int _ _
  refine ⟨hE, fun A φ w vals hs hv hr => ?_⟩
  obtain ⟨v0, hv2⟩ : ∃ v0, vals = #[v0] := by
    match vals, hv with
    | ⟨[v0]⟩, _ => exact ⟨v0, rfl⟩
  subst hv2
  have r0 := hr 0 _ _ rfl rfl
  have hid : id < H.length := Heap.at_lt (H := H) (i := id) (by rw [hat]; trivial)
  have none_case : d = [] → ∀ a cap, Calls P (ρ.f 189) #[.slice a 0 cap] w fun e w' => ∃ v r H' φ', e = .returned v ∧ (r = AV.tup [] ∧ H' = H.set id (.dvec 1 ((sortI d).map rowI))) ∧ SimH P A φ' H' w' ∧ Rel φ' (Mb A φ' H') w' r v ∧ Ext H.length φ H w φ' H' w' := fun hd a cap => by
    subst hd
    refine (Any.slices_Sort_int_none L a cap w).mono ?_
    rintro e w' ⟨rfl, rfl⟩
    have e1 : H.set id (.dvec 1 ((sortI []).map rowI)) = H := by
      rw [sortI_nil]
      apply List.ext_getElem?
      intro i
      rw [List.getElem?_set]
      by_cases e : id = i
      · subst e
        rw [if_pos rfl, if_pos hid]
        unfold Heap.at at hat
        rw [List.getD_eq_getElem?_getD, List.getElem?_eq_getElem hid] at hat
        rw [List.getElem?_eq_getElem hid]
        exact congrArg some hat.symm
      · rw [if_neg e]
    refine ⟨.tuple #[], .tup [], _, φ, rfl, ⟨rfl, rfl⟩, ?_⟩
    rw [e1]
    exact ⟨hs, .tup [] #[] rfl (fun i x v h => by simp at h), Ext.refl _ _ _ _⟩
  generalize hn : d.length = n at r0
  cases r0 with
  | ref0 => exact none_case (List.length_eq_zero_iff.1 hn) _ _
  | ref _ _ _ _ b o cap _ c T hb hcap hroom hheap hfit =>
  by_cases h0 : d = []
  · have : n = 0 := by rw [← hn, h0]; rfl
    subst this
    exact none_case h0 _ _
  subst hn
  have hat' : H.at id = .dvec 1 (d.map fun x => [DV.int .i64 x]) := hat
  obtain ⟨c', T', e1, e2, e3⟩ := row_holds (enc := Value.int .i64) (row := fun x => DV.int .i64 x) hR hs hat' hb
  rw [hheap] at e1
  simp only [Option.some.injEq, Obj.cells.injEq] at e1
  obtain ⟨rfl, rfl, _⟩ := e1
  have hblk : b < w.heap.size := (hs.dom id b o hb).2
  rw [show o + 0 * 1 = o by omega]
  have hH : Go.Sort.Holds (Value.int .i64) w b o d.toArray := fun j hj => by
    have hj' : j < d.length := by simpa using hj
    refine ⟨?_, by simp [World.frozen?, hheap]⟩
    simp only [World.cell?, hheap, Option.isSome_none, Bool.false_eq_true, if_false]
    exact e3 j hj'
  have main : Calls P (ρ.f 189) #[.slice (some ⟨b, o, none⟩) d.length cap] w _ := calls_of_every_depth fun D => AnyS.slices_Sort_int_in L D b o cap d w hH hblk hz
  refine main.mono ?_
  rintro e w' ⟨rfl, m, os, rfl⟩
  obtain ⟨s1, o1⟩ := row_sorted (enc := Value.int .i64) (row := fun x => DV.int .i64 x) hR hR' hs hat' hb m os (d' := (d.mergeSort fun x y => decide (x ≤ y)).toArray) (by simp)
  exact ⟨.tuple #[], .tup [], _, φ, rfl, ⟨rfl, rfl⟩, s1, .tup [] #[] rfl (fun i x v h => by simp at h), ⟨fun _ _ => rfl, o1.pres, o1.mono⟩⟩
end
def ef_sortI : Ef where
  A := List Int × Nat × Bool
  args := fun x id => [.ref id 1 0 x.2.1 x.2.2]
  sz := 1
  rows := fun x => x.1.map rowI
  ok := fun x => x.2.1 = x.1.length ∧ x.1.length ≤ 17592186044416
  val := fun _ => .tup []
  rows' := fun x => (sortI x.1).map rowI
open Classical in
noncomputable def sortIE (o : HO) (id n : Nat) : Option Eff := if h : ∃ R, o = .dvec 1 (R.map rowI) then some ⟨n = h.choose.length ∧ h.choose.length ≤ 17592186044416, .tup [], [(id, .dvec 1 ((sortI h.choose).map rowI))], [], none⟩ else none
theorem sortIE_d {R : List Int} {id n : Nat} : sortIE (.dvec 1 (R.map rowI)) id n = some ⟨n = R.length ∧ R.length ≤ 17592186044416, .tup [], [(id, .dvec 1 ((sortI R).map rowI))], [], none⟩ := by
  have h : ∃ R' : List Int, HO.dvec 1 (R.map rowI) = .dvec 1 (R'.map rowI) := ⟨R, rfl⟩
  unfold sortIE
  rw [dif_pos h]
  have e : R = h.choose := by
    have h1 := h.choose_spec
    simp only [HO.dvec.injEq, true_and] at h1
    exact Z3i rowI_inj (by simpa using h1)
  rw [← e]
theorem at_sortI {id n : Nat} {room : Bool} {H : Heap} : ef_sortI.at [.ref id 1 0 n room] H = sortIE (H.at id) id n := by
  by_cases h : ∃ R : List Int, H.at id = .dvec 1 (R.map rowI)
  · obtain ⟨R, hR⟩ := h
    rw [hR, sortIE_d]
    refine (Ef.at_fits (e := ef_sortI) (p := ((R, n, room), id)) ?_ ⟨rfl, hR⟩).trans rfl
    rintro ⟨⟨a, b, c⟩, p⟩ ⟨⟨a', b', c'⟩, p'⟩ args H ⟨h1, h2⟩ ⟨h3, h4⟩
    simp only [ef_sortI] at h1 h2 h3 h4
    rw [← h1] at h3
    simp only [List.cons.injEq, AV.ref.injEq, and_true, true_and] at h3
    obtain ⟨rfl, rfl, rfl⟩ := h3
    rw [h2] at h4
    simp only [HO.dvec.injEq, true_and] at h4
    rw [Z3i rowI_inj h4]
  · unfold Ef.at sortIE
    rw [dif_neg h, dif_neg]
    rintro ⟨⟨⟨a, b, c⟩, p⟩, h1, h2⟩
    simp only [ef_sortI, List.cons.injEq, AV.ref.injEq, and_true, true_and] at h1 h2
    obtain ⟨rfl, _⟩ := h1
    exact h ⟨_, h2⟩
theorem sortI_tab {P : Program} {T0 : Tab} (hT0 : TabOK P T0) {ρ : Go.Shelf.Ren} (L : Go.Proofs.Lays.n189 P ρ) {f : Nat} (hf : ρ.f 189 = f) (hE : Enters P f) : TabOK P (T0.addG f ef_sortI.at) := by
  refine hT0.addG (fun args H e he hok => ?_) (fun args H e t h1 h2 => by rw [Ef.at_take h1] at h2; cases h2)
  unfold Ef.at at he
  split at he
  case isFalse => cases he
  rename_i hp
  have hfit := hp.choose_spec
  generalize hp.choose = q at he hfit
  simp only [Option.some.injEq] at he
  subst he
  obtain ⟨⟨R, n, room⟩, id⟩ := q
  obtain ⟨h1, h2⟩ := hfit
  simp only [ef_sortI] at h1 h2
  subst h1
  obtain ⟨h3, h4⟩ := hok
  simp only at h3 h4
  subst h3
  subst hf
  have main := acall_sortI L hE h2 (by omega) room
  refine main.mono ?_
  rintro r H' ⟨rfl, rfl⟩
  refine ⟨rfl, ?_⟩
  simp only [Ef.eff, ef_sortI, applyUps, List.foldl_cons, List.foldl_nil, List.append_nil]
end Go.Ago

/- Chapter 23: Build. Conditions: none. -/
set_option maxRecDepth 100000
set_option linter.unusedSimpArgs false
set_option linter.unusedVariables false
namespace Go.Ago
attribute [local irreducible] vck
theorem body_slices_Equal_int {T : Tab} : sp_sameI.Body T V_slices_Equal_int L_slices_Equal_int R_slices_Equal_int := by
  rintro ⟨a, f, b, g⟩ hlen
  refine .inl ⟨rfl, ?_⟩
  unfold V_slices_Equal_int L_slices_Equal_int R_slices_Equal_int
  simp only [↓Z1a, ↓Z2b, ↓Z1k, ↓Z05, ↓Z2v, ↓Z2r, nilG_d, nilG_r, ↓Z1g, ↓Z19, ↓Z0d, ↓Z1l, ↓Z0m, ↓Z20, ↓Z30, ↓Z33, ↓Z24, ↓Z1j, ↓Z2m, ↓Z28, ↓Z1z, ↓Z3r, ↓retK_n, ↓Z3n, ↓Z3p, ↓Z3o, ↓Z41, ↓Z3x, ↓Z4b, ↓Z0j, ↓Z08, ↓Z1b, ↓Z0i, ↓Z1n, nf_mk, Z09, Z18, Z34, Z1c, Z37, evN, Z2i, Z1y, Z36, Z47, Z1x, Z17, Z1i, Z2u, Z2j, Z2f, Z1o, Z2c, evT, Opd.ev, Z02, Z00, Z35, Z45, Z3w, Z27, Z1m, Z2a, Z2e, Z3l, Z1d, Z0c, Z3e, LOp.isNew, State.prune, Z3t, Z31, AV.leaf, Heap.at, Z0k, Z0a, Z1h, Z0g, Z03, idx_I, idx_W, rowW, Z26, Z2w, Z22, Z1e, rowB, Z2y, Z2x, rowN, lens_W, Z3s, Z1f, Z15, w_or, w_and, Z2z, Z4d, w_shl, Z4c, w_shr, Z4e, w_neg, w_add, w_bit, w_eq0, w_eq1, w_eq, Bool.decide_eq_true, Z3h, Z3k, Z3j, Z2n, Z1p, Z04, Z0b, Z0n, Z01, Z21, rowI, RatG.row, LocG.row, ActG.row, StepG.row, StampG.row, ActG.av, ActG.eta, RatG.eta, LocG.eta, beq_true, beq_false, Z2k, Z2t, Z2l, Z2s, Z14, Z0q, Z12, Z13, Z0p, Z0o, Z0e, List.length_set, List.length_replicate, Z06, Int.reduceToNat, evLen, Z29, Z40, Src.all, Src.len, Src.leaf, Src.leafN, Z3c, Z48, joinV, Z0l, Z0r, Z0s, Z0t, Z0u, Z0v, Z0w, Z0x, mkVec, drows, evMk, List.length_map, Z1w, Z23, List.take_length, List.take_left, List.length_append, Nat.le_add_right, ite_self, List.take_of_length_le, Z3d, intOr, Z43, Option.isSome_none, Option.isSome_some, Nat.sub_zero, loadQ, loadT, evBin, evUn, Z0y, Z0z, binT, binQ, chk, Z3u, List.contains_cons, List.contains_nil, Bool.or_false, Bool.false_or, Bool.and_self, resQ, resV, resT, pickV, Z2d, Z4a, Z3q, fnOf, Z3f, isD, HO.drow, viewT, Z3y, evEq, eqV, eqK, eqC1, Z49, Z46, Z3b, Z38, lens_I, Z3m, Z2q, Z1s, Z2p, Z1r, Z2o, Z1q, Z1t, Z10, Z11, Z0f, List.mem_cons, List.not_mem_nil, or_false, forall_eq, putRow, Z3g, get_nil, RetS, RetF, RetD, AV.frz, AV.frzL, AV.freshP, AV.freshL, DV.less, Z2g, Z1u, Z2h, Z1v, Z0h, Z07, Option.some.injEq, AV.tup.injEq, AV.agg.injEq, List.cons.injEq, DV.list.injEq, List.isEmpty_nil, Nat.le_refl, AV.d.injEq, DV.int.injEq, DV.bool.injEq, ↓reduceIte, Nat.reduceEqDiff, Nat.reduceAdd, Nat.reduceBEq, List.length_cons, List.length_nil, List.replicate_succ, List.replicate_zero, List.nil_append, List.cons_append, List.append_nil, List.foldl_cons, List.foldl_nil, List.map_cons, List.map_nil, List.all_cons, List.all_nil, List.set_cons_zero, List.set_cons_succ, List.getD_cons_zero, List.getD_cons_succ, List.drop_zero, List.drop_succ_cons, List.take_succ_cons, List.take_zero, List.flatten_cons, List.flatten_nil, Bool.true_and, Bool.and_true, Bool.not_true, Bool.not_false, true_and, and_true, true_or, or_true, Option.bind_some, Option.map_some, decide_true, decide_false, beq_self_eq_true, true_implies, false_implies, implies_true, not_true_eq_false, not_false_eq_true, and_self, Bool.and_false, Bool.false_and, Nat.reduceLT, Nat.reduceLeDiff, List.reverse_cons, List.reverse_nil, Nat.zero_add, Nat.add_zero, Bool.false_eq_true, List.getElem?_cons_zero, Nat.reduceMul, Nat.mul_one, sp_sameI]
  have hm : maxLen = 9223372036854775807 := rfl
  have hlen : a.length ≤ maxLen := hlen
  refine ⟨fun h => ?_, fun h => ?_⟩
  · have hab : a.length = b.length := by omega
    refine Loop.fam [0, 1, 12, 13] (fun i : Nat => ⟨[(0, .d (.list (a.map rowI) f)), (1, .d (.list (b.map rowI) g)), (12, .d (.int .i64 a.length)), (13, .d (.int .i64 (i : Nat)))], []⟩) (fun i => i ≤ a.length ∧ a.take i = b.take i) (fun i => a.length - i) 0 [] (by simp) (by simp)
      (by simp only [State.can, AV.can, AV.canL, HO.can, Z25, idx, Z02, Z00, Heap.at, Nat.reduceBEq, ↓reduceIte, Nat.reduceEqDiff, Option.getD_some, Option.map_some, List.map_cons, List.map_nil, List.getD_cons_zero, List.getD_cons_succ]; rfl) ⟨by omega, by simp⟩ ?_
    rintro i ⟨h1, h2⟩
    simp only [↓Z1a, ↓Z2b, ↓Z1k, ↓Z05, ↓Z2v, ↓Z2r, nilG_d, nilG_r, ↓Z1g, ↓Z19, ↓Z0d, ↓Z1l, ↓Z0m, ↓Z20, ↓Z30, ↓Z33, ↓Z24, ↓Z1j, ↓Z2m, ↓Z28, ↓Z1z, ↓Z3r, ↓retK_n, ↓Z3n, ↓Z3p, ↓Z3o, ↓Z41, ↓Z3x, ↓Z4b, ↓Z0j, ↓Z08, ↓Z1b, ↓Z0i, ↓Z1n, nf_mk, Z09, Z18, Z34, Z1c, Z37, evN, Z2i, Z1y, Z36, Z47, Z1x, Z17, Z1i, Z2u, Z2j, Z2f, Z1o, Z2c, evT, Opd.ev, Z02, Z00, Z35, Z45, Z3w, Z27, Z1m, Z2a, Z2e, Z3l, Z1d, Z0c, Z3e, LOp.isNew, State.prune, Z3t, Z31, AV.leaf, Heap.at, Z0k, Z0a, Z1h, Z0g, Z03, idx_I, idx_W, rowW, Z26, Z2w, Z22, Z1e, rowB, Z2y, Z2x, rowN, lens_W, Z3s, Z1f, Z15, w_or, w_and, Z2z, Z4d, w_shl, Z4c, w_shr, Z4e, w_neg, w_add, w_bit, w_eq0, w_eq1, w_eq, Bool.decide_eq_true, Z3h, Z3k, Z3j, Z2n, Z1p, Z04, Z0b, Z0n, Z01, Z21, rowI, RatG.row, LocG.row, ActG.row, StepG.row, StampG.row, ActG.av, ActG.eta, RatG.eta, LocG.eta, beq_true, beq_false, Z2k, Z2t, Z2l, Z2s, Z14, Z0q, Z12, Z13, Z0p, Z0o, Z0e, List.length_set, List.length_replicate, Z06, Int.reduceToNat, evLen, Z29, Z40, Src.all, Src.len, Src.leaf, Src.leafN, Z3c, Z48, joinV, Z0l, Z0r, Z0s, Z0t, Z0u, Z0v, Z0w, Z0x, mkVec, drows, evMk, List.length_map, Z1w, Z23, List.take_length, List.take_left, List.length_append, Nat.le_add_right, ite_self, List.take_of_length_le, Z3d, intOr, Z43, Option.isSome_none, Option.isSome_some, Nat.sub_zero, loadQ, loadT, evBin, evUn, Z0y, Z0z, binT, binQ, chk, Z3u, List.contains_cons, List.contains_nil, Bool.or_false, Bool.false_or, Bool.and_self, resQ, resV, resT, pickV, Z2d, Z4a, Z3q, fnOf, Z3f, isD, HO.drow, viewT, Z3y, evEq, eqV, eqK, eqC1, Z49, Z46, Z3b, Z38, lens_I, Z3m, Z2q, Z1s, Z2p, Z1r, Z2o, Z1q, Z1t, Z10, Z11, Z0f, List.mem_cons, List.not_mem_nil, or_false, forall_eq, putRow, Z3g, get_nil, RetS, RetF, RetD, AV.frz, AV.frzL, AV.freshP, AV.freshL, DV.less, Z2g, Z1u, Z2h, Z1v, Z0h, Z07, Option.some.injEq, AV.tup.injEq, AV.agg.injEq, List.cons.injEq, DV.list.injEq, List.isEmpty_nil, Nat.le_refl, AV.d.injEq, DV.int.injEq, DV.bool.injEq, ↓reduceIte, Nat.reduceEqDiff, Nat.reduceAdd, Nat.reduceBEq, List.length_cons, List.length_nil, List.replicate_succ, List.replicate_zero, List.nil_append, List.cons_append, List.append_nil, List.foldl_cons, List.foldl_nil, List.map_cons, List.map_nil, List.all_cons, List.all_nil, List.set_cons_zero, List.set_cons_succ, List.getD_cons_zero, List.getD_cons_succ, List.drop_zero, List.drop_succ_cons, List.take_succ_cons, List.take_zero, List.flatten_cons, List.flatten_nil, Bool.true_and, Bool.and_true, Bool.not_true, Bool.not_false, true_and, and_true, true_or, or_true, Option.bind_some, Option.map_some, decide_true, decide_false, beq_self_eq_true, true_implies, false_implies, implies_true, not_true_eq_false, not_false_eq_true, and_self, Bool.and_false, Bool.false_and, Nat.reduceLT, Nat.reduceLeDiff, List.reverse_cons, List.reverse_nil, Nat.zero_add, Nat.add_zero, Bool.false_eq_true, List.getElem?_cons_zero, Nat.reduceMul, Nat.mul_one]
    refine ⟨fun h3 => ?_, fun h3 => ?_⟩
    · have h3 : i < a.length := by omega
      rw [wrap_succ h3 hlen]
      refine ⟨⟨by omega, by omega⟩, ⟨by omega, by omega⟩, fun h4 => ?_, fun h4 => ?_⟩
      · exact Z44.mk [] (i + 1) (by simp) (by simp) (by simp only [State.can, AV.can, AV.canL, HO.can, Z25, idx, Z02, Z00, Heap.at, Nat.reduceBEq, ↓reduceIte, Nat.reduceEqDiff, Option.getD_some, Option.map_some, List.map_cons, List.map_nil, List.getD_cons_zero, List.getD_cons_succ]) ⟨by omega, take_next (d := default) h2 h3 (by omega) h4⟩ (by omega)
      · simp only [Bool.false_eq, decide_eq_false_iff_not]
        intro e; subst e; exact h4 rfl
    · have : i = a.length := by omega
      subst this
      exact (decide_eq_true (take_all h2 hab)).symm
  · simp only [Bool.false_eq, decide_eq_false_iff_not]
    intro e; subst e; exact h rfl
theorem take_sortI (l : List Int) : (sortI l).take l.length = sortI l := List.take_of_length_le (by rw [sortI_len]; exact Nat.le_refl _)
def WG.none : WG := ⟨[], false, [], false, [], false, [], false⟩
end Go.Ago

/- Chapter 18: how writes follow one another. Conditions: none. -/
set_option maxRecDepth 100000
set_option linter.unusedSimpArgs false
set_option linter.unusedVariables false
namespace Go.Ago
attribute [local irreducible] vck
def NodeG.isW (x : NodeG) : Bool := decide (x.loc = 2)
/-- The writes of a location among the nodes from n on, up to i. -/
def wantN (D : List NodeG) (n : Nat) (loc : Nat) : Nat → List Int
  | 0 => []
  | i + 1 => if (D.getD (n + i) default).loc = 2 ∧ (D.getD (n + i) default).old = loc then wantN D n loc i ++ [((n + i : Nat) : Int)] else wantN D n loc i
theorem wantN_le (D : List NodeG) (n loc : Nat) : ∀ i, (wantN D n loc i).length ≤ i
  | 0 => Nat.le_refl _
  | i + 1 => by
    have := wantN_le D n loc i
    unfold wantN
    split
    · rw [List.length_append, List.length_singleton]; omega
    · omega
/-- The pairs of one line of writes, as they are told: each write behind its location, and behind those ahead of it. -/
def pairF (loc : Nat) (l : List Int) : Nat → List RatG
  | 0 => []
  | i + 1 => pairF loc l i ++ (⟨loc, l.getD i default⟩ :: (l.take i).map fun b => ⟨b, l.getD i default⟩)
def coN (D : List NodeG) (n : Nat) (order : List (List Int × Bool)) : Nat → Option (List RatG)
  | 0 => some []
  | t + 1 => match coN D n order t with
    | none => none
    | some ps => if sortI (order.getD t default).1 = wantN D n t (D.length - n) then some (ps ++ pairF t (order.getD t default).1 (order.getD t default).1.length) else none
theorem coN_none {D : List NodeG} {n : Nat} {order : List (List Int × Bool)} {i k : Nat} (h : coN D n order i = none) (hk : i ≤ k) : coN D n order k = none := by
  induction k with
  | zero => rwa [show i = 0 by omega] at h
  | succ k ih =>
    by_cases e : i = k + 1
    · rwa [← e]
    · unfold coN; rw [ih (by omega)]
def followN (D : List NodeG) (n : Nat) (order : List (List Int × Bool)) : List RatG × Bool :=
  if order.length ≠ n then ([], false) else match coN D n order n with
    | none => ([], false)
    | some ps => (ps, true)
theorem followN_none {D : List NodeG} {n : Nat} {order : List (List Int × Bool)} {i : Nat} (h : coN D n order i = none) (hi : i ≤ n) : followN D n order = ([], false) := by
  unfold followN
  split
  · rfl
  · rw [coN_none h hi]
/-- Lists that a look can hold. -/
def smallO (order : List (List Int × Bool)) : Prop := ∀ x ∈ order, x.1.length ≤ 17592186044416
def sp_followN : Sp := ⟨List NodeG × Bool × Nat × List (List Int × Bool) × Bool, fun x => [.d (.list (x.1.map ActG.row) x.2.1), .d (.int .i64 (x.2.2.1 : Int)), .d (.list (x.2.2.2.1.map rowLI) x.2.2.2.2)],
  fun x => .data (x.1.length ≤ 64 ∧ x.2.2.1 ≤ x.1.length ∧ smallO x.2.2.2.1) (.tup [.d (.list ((followN x.1 x.2.2.1 x.2.2.2.1).1.map RatG.row) false), .d (.bool (followN x.1 x.2.2.1 x.2.2.2.1).2)]) false⟩
theorem at_followN (D : List NodeG) (f : Bool) (n : Nat) (order : List (List Int × Bool)) (g : Bool) : sp_followN.at [.d (.list (D.map ActG.row) f), .d (.int .i64 (n : Int)), .d (.list (order.map rowLI) g)] =
    .data (D.length ≤ 64 ∧ n ≤ D.length ∧ smallO order) (.tup [.d (.list ((followN D n order).1.map RatG.row) false), .d (.bool (followN D n order).2)]) false :=
  Sp.at_enc (s := sp_followN) (fun x y h => by
    obtain ⟨a, b, c, d, e⟩ := x; obtain ⟨a', b', c', d', e'⟩ := y
    simp only [sp_followN, List.cons.injEq, AV.d.injEq, DV.list.injEq, DV.int.injEq, and_true, true_and] at h
    obtain ⟨⟨h1, h2⟩, h3, h4, h5⟩ := h
    rw [Z3i ActG.row_inj h1, h2, Int.ofNat.inj h3, Z3i rowLI_inj h4, h5]) (D, f, n, order, g)
def fSt1 (D : List NodeG) (f : Bool) (n : Nat) (order : List (List Int × Bool)) (og : Bool) (x : Nat × List RatG) : State :=
  ⟨[(0, .d (.list (D.map ActG.row) f)), (1, .d (.int .i64 (n : Int))), (8, .ptr 0 1 0 0), (23, .d (.list (order.map rowLI) og)), (24, .d (.int .i64 order.length)), (25, .d (.int .i64 x.1))], [.vec 1 [[.ref 1 2 0 x.2.length true]], .dvec 2 (x.2.map RatG.row)]⟩
def fInv1 (D : List NodeG) (n : Nat) (order : List (List Int × Bool)) (x : Nat × List RatG) : Prop := x.1 ≤ order.length ∧ coN D n order x.1 = some x.2 ∧ x.2.length ≤ 4225 * x.1
def fSt2 (D : List NodeG) (f : Bool) (n : Nat) (order : List (List Int × Bool)) (og : Bool) (t : Nat) (ps : List RatG) (i : Nat) : State :=
  ⟨[(0, .d (.list (D.map ActG.row) f)), (1, .d (.int .i64 (n : Int))), (8, .ptr 0 1 0 0), (9, .d (.int .i64 t)), (10, .d (.list ((order.getD t default).1.map rowI) (order.getD t default).2)), (11, .ref 2 1 0 (wantN D n t i).length true), (23, .d (.list (order.map rowLI) og)), (24, .d (.int .i64 order.length)), (25, .d (.int .i64 t)),
    (32, .d (.list ((D.drop n).map ActG.row) f)), (33, .d (.int .i64 (D.drop n).length)), (34, .d (.int .i64 i))], [.vec 1 [[.ref 1 2 0 ps.length true]], .dvec 2 (ps.map RatG.row), .dvec 1 ((wantN D n t i).map rowI)]⟩
def fSt3 (D : List NodeG) (f : Bool) (n : Nat) (order : List (List Int × Bool)) (og : Bool) (t : Nat) (l : List Int) (lg : Bool) (x : Nat × List RatG) : State :=
  ⟨[(0, .d (.list (D.map ActG.row) f)), (1, .d (.int .i64 (n : Int))), (8, .ptr 0 1 0 0), (9, .d (.int .i64 t)), (10, .d (.list (l.map rowI) lg)), (23, .d (.list (order.map rowLI) og)), (24, .d (.int .i64 order.length)), (25, .d (.int .i64 t)), (63, .d (.list (l.map rowI) lg)), (64, .d (.int .i64 l.length)), (65, .d (.int .i64 x.1))],
    [.vec 1 [[.ref 1 2 0 x.2.length true]], .dvec 2 (x.2.map RatG.row)]⟩
def fInv3 (t : Nat) (l : List Int) (ps : List RatG) (x : Nat × List RatG) : Prop := x.1 ≤ l.length ∧ x.2 = ps ++ pairF t l x.1
def fSt4 (D : List NodeG) (f : Bool) (n : Nat) (order : List (List Int × Bool)) (og : Bool) (t : Nat) (l : List Int) (lg : Bool) (i : Nat) (x : Nat × List RatG) : State :=
  ⟨[(0, .d (.list (D.map ActG.row) f)), (1, .d (.int .i64 (n : Int))), (8, .ptr 0 1 0 0), (9, .d (.int .i64 t)), (10, .d (.list (l.map rowI) lg)), (16, .d (.int .i64 (l.getD i default))), (23, .d (.list (order.map rowLI) og)), (24, .d (.int .i64 order.length)), (25, .d (.int .i64 t)), (63, .d (.list (l.map rowI) lg)), (64, .d (.int .i64 l.length)), (65, .d (.int .i64 i)),
    (75, .d (.list ((l.take i).map rowI) (lg && decide ((i : Int) = l.length)))), (76, .d (.int .i64 (l.take i).length)), (77, .d (.int .i64 x.1))], [.vec 1 [[.ref 1 2 0 x.2.length true]], .dvec 2 (x.2.map RatG.row)]⟩
def fInv4 (t : Nat) (l : List Int) (ps : List RatG) (i : Nat) (x : Nat × List RatG) : Prop := x.1 ≤ i ∧ x.2 = ps ++ (pairF t l i ++ (⟨t, l.getD i default⟩ :: (l.take x.1).map fun b => ⟨b, l.getD i default⟩))
theorem pairF_le (t : Nat) (l : List Int) : ∀ i, (pairF t l i).length ≤ i * (l.length + 1)
  | 0 => Nat.zero_le _
  | i + 1 => by
    have := pairF_le t l i
    unfold pairF
    rw [List.length_append, List.length_cons, List.length_map, List.length_take, Nat.succ_mul]
    omega
theorem getD_drop {α : Type} [Inhabited α] (l : List α) (n i : Nat) : (l.drop n).getD i default = l.getD (n + i) default := by
  rw [List.getD_eq_getElem?_getD, List.getElem?_drop, List.getD_eq_getElem?_getD]
set_option maxHeartbeats 4000000 in
theorem body_cand_follows {T : Tab} {n1 n2 n3 n4 : Nat} (k1 : KnowsG T n1 addE) (k2 : Knows T n2 (cloneS 1 8)) (k3 : KnowsG T n3 ef_sortI.at) (k4 : Knows T n4 sp_sameI) : sp_followN.Body T V_cand_follows (L_cand_follows n1 n2 n3 n4) R_cand_follows := by
  have G1 := k1.G; have F2 := k2.F; have G2 := k2.G; have G3 := k3.G; have F4 := k4.F; have G4 := k4.G
  rintro ⟨D, f, n, order, og⟩ ⟨h1, h2, h3⟩
  have h1 : D.length ≤ 64 := h1
  have h2 : n ≤ D.length := h2
  have h3 : smallO order := h3
  refine ⟨rfl, ?_⟩
  unfold V_cand_follows L_cand_follows R_cand_follows
  simp (maxSteps := 3000000) only [↓Z1a, ↓Z2b, ↓Z1k, ↓Z05, ↓Z2v, ↓Z2r, nilG_d, nilG_r, ↓Z1g, ↓Z19, ↓Z0d, ↓Z1l, ↓Z0m, ↓Z20, ↓Z30, ↓Z33, ↓Z24, ↓Z1j, ↓Z2m, ↓Z28, ↓Z1z, ↓Z3r, ↓retK_n, ↓Z3n, ↓Z3p, ↓Z3o, ↓Z41, ↓Z3x, ↓Z4b, ↓Z0j, ↓Z08, ↓Z1b, ↓Z0i, ↓Z1n, nf_mk, Z09, Z18, Z34, Z1c, Z37, evN, Z2i, Z1y, Z36, Z47, Z1x, Z17, Z1i, Z2u, Z2j, Z2f, Z1o, Z2c, evT, Opd.ev, Z02, Z00, Z35, Z45, Z3w, Z27, Z1m, Z2a, Z2e, Z3l, Z1d, Z0c, Z3e, LOp.isNew, State.prune, Z3t, Z31, AV.leaf, Heap.at, Z0k, Z0a, Z1h, Z0g, Z03, idx_I, idx_W, rowW, Z26, Z2w, Z22, Z1e, rowB, Z2y, Z2x, rowN, lens_W, Z3s, Z1f, Z15, w_or, w_and, Z2z, Z4d, w_shl, Z4c, w_shr, Z4e, w_neg, w_add, w_bit, w_eq0, w_eq1, w_eq, Bool.decide_eq_true, Z3h, Z3k, Z3j, Z2n, Z1p, Z04, Z0b, Z0n, Z01, Z21, rowI, RatG.row, LocG.row, ActG.row, StepG.row, StampG.row, ActG.av, ActG.eta, RatG.eta, LocG.eta, beq_true, beq_false, Z2k, Z2t, Z2l, Z2s, Z14, Z0q, Z12, Z13, Z0p, Z0o, Z0e, List.length_set, List.length_replicate, Z06, Int.reduceToNat, evLen, Z29, Z40, Src.all, Src.len, Src.leaf, Src.leafN, Z3c, Z48, joinV, Z0l, Z0r, Z0s, Z0t, Z0u, Z0v, Z0w, Z0x, mkVec, drows, evMk, List.length_map, Z1w, Z23, List.take_length, List.take_left, List.length_append, Nat.le_add_right, ite_self, List.take_of_length_le, Z3d, intOr, Z43, Option.isSome_none, Option.isSome_some, Nat.sub_zero, loadQ, loadT, evBin, evUn, Z0y, Z0z, binT, binQ, chk, Z3u, List.contains_cons, List.contains_nil, Bool.or_false, Bool.false_or, Bool.and_self, resQ, resV, resT, pickV, Z2d, Z4a, Z3q, fnOf, Z3f, isD, HO.drow, viewT, Z3y, evEq, eqV, eqK, eqC1, Z49, Z46, Z3b, Z38, lens_I, Z3m, Z2q, Z1s, Z2p, Z1r, Z2o, Z1q, Z1t, Z10, Z11, Z0f, List.mem_cons, List.not_mem_nil, or_false, forall_eq, putRow, Z3g, get_nil, RetS, RetF, RetD, AV.frz, AV.frzL, AV.freshP, AV.freshL, DV.less, Z2g, Z1u, Z2h, Z1v, Z0h, Z07, Option.some.injEq, AV.tup.injEq, AV.agg.injEq, List.cons.injEq, DV.list.injEq, List.isEmpty_nil, Nat.le_refl, AV.d.injEq, DV.int.injEq, DV.bool.injEq, ↓reduceIte, Nat.reduceEqDiff, Nat.reduceAdd, Nat.reduceBEq, List.length_cons, List.length_nil, List.replicate_succ, List.replicate_zero, List.nil_append, List.cons_append, List.append_nil, List.foldl_cons, List.foldl_nil, List.map_cons, List.map_nil, List.all_cons, List.all_nil, List.set_cons_zero, List.set_cons_succ, List.getD_cons_zero, List.getD_cons_succ, List.drop_zero, List.drop_succ_cons, List.take_succ_cons, List.take_zero, List.flatten_cons, List.flatten_nil, Bool.true_and, Bool.and_true, Bool.not_true, Bool.not_false, true_and, and_true, true_or, or_true, Option.bind_some, Option.map_some, decide_true, decide_false, beq_self_eq_true, true_implies, false_implies, implies_true, not_true_eq_false, not_false_eq_true, and_self, Bool.and_false, Bool.false_and, Nat.reduceLT, Nat.reduceLeDiff, List.reverse_cons, List.reverse_nil, Nat.zero_add, Nat.add_zero, Bool.false_eq_true, List.getElem?_cons_zero, Nat.reduceMul, Nat.mul_one, sp_followN, G1, addE, addE1, addE2, idx_LI, rowLI_len, rowLI_get]
  refine ⟨fun ho => ?_, fun ho => ?_⟩
  rotate_left
  · have : followN D n order = ([], false) := by unfold followN; rw [if_pos (by omega)]
    rw [this]; exact ⟨rfl, rfl⟩
  have ho : order.length = n := by omega
  refine Loop.nilcell 0 2 rfl (Nat.zero_le _) ?_
  refine Loop.fam [0, 1, 8, 23, 24, 25] (fSt1 D f n order og) (fInv1 D n order) (fun x => order.length - x.1) (0, []) [0, 1] (by simp) (by simp) (by simp only [List.length_cons, List.length_nil, List.cons_append, List.nil_append, List.set_cons_zero, State.can, AV.can, AV.canL, HO.can, Z25, idx, Z02, Z00, Heap.at, Nat.reduceBEq, ↓reduceIte, Nat.reduceEqDiff, Option.getD_some, Option.map_some, List.map_cons, List.map_nil, List.getD_cons_zero, List.getD_cons_succ, fSt1]; rfl) ⟨Nat.zero_le _, rfl, Nat.zero_le _⟩ ?_
  rintro ⟨t, ps⟩ ⟨i1, i2, i3⟩
  have i1 : t ≤ order.length := i1
  have i2 : coN D n order t = some ps := i2
  have i3 : ps.length ≤ 4225 * t := i3
  simp (maxSteps := 3000000) only [fSt1, ↓Z1a, ↓Z2b, ↓Z1k, ↓Z05, ↓Z2v, ↓Z2r, nilG_d, nilG_r, ↓Z1g, ↓Z19, ↓Z0d, ↓Z1l, ↓Z0m, ↓Z20, ↓Z30, ↓Z33, ↓Z24, ↓Z1j, ↓Z2m, ↓Z28, ↓Z1z, ↓Z3r, ↓retK_n, ↓Z3n, ↓Z3p, ↓Z3o, ↓Z41, ↓Z3x, ↓Z4b, ↓Z0j, ↓Z08, ↓Z1b, ↓Z0i, ↓Z1n, nf_mk, Z09, Z18, Z34, Z1c, Z37, evN, Z2i, Z1y, Z36, Z47, Z1x, Z17, Z1i, Z2u, Z2j, Z2f, Z1o, Z2c, evT, Opd.ev, Z02, Z00, Z35, Z45, Z3w, Z27, Z1m, Z2a, Z2e, Z3l, Z1d, Z0c, Z3e, LOp.isNew, State.prune, Z3t, Z31, AV.leaf, Heap.at, Z0k, Z0a, Z1h, Z0g, Z03, idx_I, idx_W, rowW, Z26, Z2w, Z22, Z1e, rowB, Z2y, Z2x, rowN, lens_W, Z3s, Z1f, Z15, w_or, w_and, Z2z, Z4d, w_shl, Z4c, w_shr, Z4e, w_neg, w_add, w_bit, w_eq0, w_eq1, w_eq, Bool.decide_eq_true, Z3h, Z3k, Z3j, Z2n, Z1p, Z04, Z0b, Z0n, Z01, Z21, rowI, RatG.row, LocG.row, ActG.row, StepG.row, StampG.row, ActG.av, ActG.eta, RatG.eta, LocG.eta, beq_true, beq_false, Z2k, Z2t, Z2l, Z2s, Z14, Z0q, Z12, Z13, Z0p, Z0o, Z0e, List.length_set, List.length_replicate, Z06, Int.reduceToNat, evLen, Z29, Z40, Src.all, Src.len, Src.leaf, Src.leafN, Z3c, Z48, joinV, Z0l, Z0r, Z0s, Z0t, Z0u, Z0v, Z0w, Z0x, mkVec, drows, evMk, List.length_map, Z1w, Z23, List.take_length, List.take_left, List.length_append, Nat.le_add_right, ite_self, List.take_of_length_le, Z3d, intOr, Z43, Option.isSome_none, Option.isSome_some, Nat.sub_zero, loadQ, loadT, evBin, evUn, Z0y, Z0z, binT, binQ, chk, Z3u, List.contains_cons, List.contains_nil, Bool.or_false, Bool.false_or, Bool.and_self, resQ, resV, resT, pickV, Z2d, Z4a, Z3q, fnOf, Z3f, isD, HO.drow, viewT, Z3y, evEq, eqV, eqK, eqC1, Z49, Z46, Z3b, Z38, lens_I, Z3m, Z2q, Z1s, Z2p, Z1r, Z2o, Z1q, Z1t, Z10, Z11, Z0f, List.mem_cons, List.not_mem_nil, or_false, forall_eq, putRow, Z3g, get_nil, RetS, RetF, RetD, AV.frz, AV.frzL, AV.freshP, AV.freshL, DV.less, Z2g, Z1u, Z2h, Z1v, Z0h, Z07, Option.some.injEq, AV.tup.injEq, AV.agg.injEq, List.cons.injEq, DV.list.injEq, List.isEmpty_nil, Nat.le_refl, AV.d.injEq, DV.int.injEq, DV.bool.injEq, ↓reduceIte, Nat.reduceEqDiff, Nat.reduceAdd, Nat.reduceBEq, List.length_cons, List.length_nil, List.replicate_succ, List.replicate_zero, List.nil_append, List.cons_append, List.append_nil, List.foldl_cons, List.foldl_nil, List.map_cons, List.map_nil, List.all_cons, List.all_nil, List.set_cons_zero, List.set_cons_succ, List.getD_cons_zero, List.getD_cons_succ, List.drop_zero, List.drop_succ_cons, List.take_succ_cons, List.take_zero, List.flatten_cons, List.flatten_nil, Bool.true_and, Bool.and_true, Bool.not_true, Bool.not_false, true_and, and_true, true_or, or_true, Option.bind_some, Option.map_some, decide_true, decide_false, beq_self_eq_true, true_implies, false_implies, implies_true, not_true_eq_false, not_false_eq_true, and_self, Bool.and_false, Bool.false_and, Nat.reduceLT, Nat.reduceLeDiff, List.reverse_cons, List.reverse_nil, Nat.zero_add, Nat.add_zero, Bool.false_eq_true, List.getElem?_cons_zero, Nat.reduceMul, Nat.mul_one, G1, addE, addE1, addE2, idx_LI, rowLI_len, rowLI_get]
  refine ⟨fun e => ⟨⟨by omega, by omega⟩, ⟨by omega, by omega, by omega⟩, ?_⟩, fun e => ?_⟩
  · have e' : t < order.length := by omega
    have hlst : (order.getD t default).1.length ≤ 17592186044416 := h3 _ (by rw [getD_lt e']; exact List.getElem_mem _)
    have hdl : (D.drop n).length = D.length - n := List.length_drop
    refine Loop.nilref 11 1 rfl (Nat.zero_le _) ?_
    refine Loop.fam [0, 1, 8, 9, 10, 11, 23, 24, 25, 32, 33, 34] (fSt2 D f n order og t ps) (fun i => i ≤ D.length - n) (fun i => D.length - n - i) 0 [0, 1, 2] (by simp) (by simp) (by simp only [List.length_cons, List.length_nil, List.cons_append, List.nil_append, State.can, AV.can, AV.canL, HO.can, Z25, idx, Z02, Z00, Heap.at, Nat.reduceBEq, ↓reduceIte, Nat.reduceEqDiff, Option.getD_some, Option.map_some, List.map_cons, List.map_nil, List.getD_cons_zero, List.getD_cons_succ, fSt2]; rfl) (by omega) ?_
    intro i hi
    have hi : i ≤ D.length - n := hi
    have hwl := wantN_le D n t i
    simp (maxSteps := 3000000) only [fSt2, ↓Z1a, ↓Z2b, ↓Z1k, ↓Z05, ↓Z2v, ↓Z2r, nilG_d, nilG_r, ↓Z1g, ↓Z19, ↓Z0d, ↓Z1l, ↓Z0m, ↓Z20, ↓Z30, ↓Z33, ↓Z24, ↓Z1j, ↓Z2m, ↓Z28, ↓Z1z, ↓Z3r, ↓retK_n, ↓Z3n, ↓Z3p, ↓Z3o, ↓Z41, ↓Z3x, ↓Z4b, ↓Z0j, ↓Z08, ↓Z1b, ↓Z0i, ↓Z1n, nf_mk, Z09, Z18, Z34, Z1c, Z37, evN, Z2i, Z1y, Z36, Z47, Z1x, Z17, Z1i, Z2u, Z2j, Z2f, Z1o, Z2c, evT, Opd.ev, Z02, Z00, Z35, Z45, Z3w, Z27, Z1m, Z2a, Z2e, Z3l, Z1d, Z0c, Z3e, LOp.isNew, State.prune, Z3t, Z31, AV.leaf, Heap.at, Z0k, Z0a, Z1h, Z0g, Z03, idx_I, idx_W, rowW, Z26, Z2w, Z22, Z1e, rowB, Z2y, Z2x, rowN, lens_W, Z3s, Z1f, Z15, w_or, w_and, Z2z, Z4d, w_shl, Z4c, w_shr, Z4e, w_neg, w_add, w_bit, w_eq0, w_eq1, w_eq, Bool.decide_eq_true, Z3h, Z3k, Z3j, Z2n, Z1p, Z04, Z0b, Z0n, Z01, Z21, rowI, RatG.row, LocG.row, ActG.row, StepG.row, StampG.row, ActG.av, ActG.eta, RatG.eta, LocG.eta, beq_true, beq_false, Z2k, Z2t, Z2l, Z2s, Z14, Z0q, Z12, Z13, Z0p, Z0o, Z0e, List.length_set, List.length_replicate, Z06, Int.reduceToNat, evLen, Z29, Z40, Src.all, Src.len, Src.leaf, Src.leafN, Z3c, Z48, joinV, Z0l, Z0r, Z0s, Z0t, Z0u, Z0v, Z0w, Z0x, mkVec, drows, evMk, List.length_map, Z1w, Z23, List.take_length, List.take_left, List.length_append, Nat.le_add_right, ite_self, List.take_of_length_le, Z3d, intOr, Z43, Option.isSome_none, Option.isSome_some, Nat.sub_zero, loadQ, loadT, evBin, evUn, Z0y, Z0z, binT, binQ, chk, Z3u, List.contains_cons, List.contains_nil, Bool.or_false, Bool.false_or, Bool.and_self, resQ, resV, resT, pickV, Z2d, Z4a, Z3q, fnOf, Z3f, isD, HO.drow, viewT, Z3y, evEq, eqV, eqK, eqC1, Z49, Z46, Z3b, Z38, lens_I, Z3m, Z2q, Z1s, Z2p, Z1r, Z2o, Z1q, Z1t, Z10, Z11, Z0f, List.mem_cons, List.not_mem_nil, or_false, forall_eq, putRow, Z3g, get_nil, RetS, RetF, RetD, AV.frz, AV.frzL, AV.freshP, AV.freshL, DV.less, Z2g, Z1u, Z2h, Z1v, Z0h, Z07, Option.some.injEq, AV.tup.injEq, AV.agg.injEq, List.cons.injEq, DV.list.injEq, List.isEmpty_nil, Nat.le_refl, AV.d.injEq, DV.int.injEq, DV.bool.injEq, ↓reduceIte, Nat.reduceEqDiff, Nat.reduceAdd, Nat.reduceBEq, List.length_cons, List.length_nil, List.replicate_succ, List.replicate_zero, List.nil_append, List.cons_append, List.append_nil, List.foldl_cons, List.foldl_nil, List.map_cons, List.map_nil, List.all_cons, List.all_nil, List.set_cons_zero, List.set_cons_succ, List.getD_cons_zero, List.getD_cons_succ, List.drop_zero, List.drop_succ_cons, List.take_succ_cons, List.take_zero, List.flatten_cons, List.flatten_nil, Bool.true_and, Bool.and_true, Bool.not_true, Bool.not_false, true_and, and_true, true_or, or_true, Option.bind_some, Option.map_some, decide_true, decide_false, beq_self_eq_true, true_implies, false_implies, implies_true, not_true_eq_false, not_false_eq_true, and_self, Bool.and_false, Bool.false_and, Nat.reduceLT, Nat.reduceLeDiff, List.reverse_cons, List.reverse_nil, Nat.zero_add, Nat.add_zero, Bool.false_eq_true, List.getElem?_cons_zero, Nat.reduceMul, Nat.mul_one, G1, addE, addE1, addE2, idx_LI, rowLI_len, rowLI_get, F2, G2, G3, F4, G4, at_clone, at_sortI, sortIE_d, sortI_len, take_sortI, at_sameI, getD_drop]
    have w1 : i < D.length - n → IntKind.i64.wrap ((i : Int) + 1) = ((i + 1 : Nat) : Int) := fun h => by rw [wrap_id (by omega) (by omega)]; omega
    have w0 : i < D.length - n → IntKind.i64.wrap ((i : Int) + n) = ((n + i : Nat) : Int) := fun h => by rw [wrap_id (by omega) (by omega)]; omega
    have hskip : i < D.length - n → ¬ ((D.getD (n + i) default).loc = 2 ∧ (D.getD (n + i) default).old = (t : Int)) → ∀ {S : State}, 3 ≤ S.heap.length → S.can [0, 1, 2] [0, 1, 8, 9, 10, 11, 23, 24, 25, 32, 33, 34] =
        ⟨[(0, .d (.list (D.map ActG.row) f)), (1, .d (.int .i64 (n : Int))), (8, .ptr 0 1 0 0), (9, .d (.int .i64 t)), (10, .d (.list ((order.getD t default).1.map rowI) (order.getD t default).2)), (11, .ref 2 1 0 (wantN D n t i).length true), (23, .d (.list (order.map rowLI) og)), (24, .d (.int .i64 order.length)), (25, .d (.int .i64 t)),
          (32, .d (.list ((D.drop n).map ActG.row) f)), (33, .d (.int .i64 (D.drop n).length)), (34, .d (.int .i64 (i + 1 : Nat)))], [.vec 1 [[.ref 1 2 0 ps.length true]], .dvec 2 (ps.map RatG.row), .dvec 1 ((wantN D n t i).map rowI)]⟩ →
        Z44 [0, 1, 8, 9, 10, 11, 23, 24, 25, 32, 33, 34] (fSt2 D f n order og t ps) (fun i => i ≤ D.length - n) (fun i => D.length - n - i) (D.length - n - i) S := fun hi hno S hS hc =>
      Z44.mk [0, 1, 2] (i + 1) (by simp) (by simp; omega) (by rw [hc]; unfold fSt2; rw [show wantN D n t (i + 1) = wantN D n t i by rw [wantN, if_neg hno]]) (by show i + 1 ≤ _; omega) (by show D.length - n - (i + 1) < D.length - n - i; omega)
    refine ⟨fun d => ?_, fun d => ?_⟩
    · have d' : i < D.length - n := by omega
      rw [w1 d', w0 d']
      refine ⟨⟨by omega, by omega⟩, fun k1 => ⟨fun k2 => ⟨roomy_of (by omega) (by omega), ?_⟩, fun k2 => ?_⟩, fun k1 => ?_⟩
      · have hw : wantN D n t (i + 1) = wantN D n t i ++ [((n + i : Nat) : Int)] := by rw [wantN, if_pos ⟨k1, k2⟩]
        exact Z44.mk [0, 1, 5] (i + 1) (by simp) (by simp) (by unfold fSt2; rw [hw]; simp only [State.can, AV.can, AV.canL, HO.can, Z25, idx, Z02, Z00, Heap.at, Nat.reduceBEq, ↓reduceIte, Nat.reduceEqDiff, Option.getD_some, Option.map_some, List.map_cons, List.map_nil, List.getD_cons_zero, List.getD_cons_succ, List.length_append, List.length_singleton]) (by show i + 1 ≤ _; omega) (by show D.length - n - (i + 1) < D.length - n - i; omega)
      · exact hskip d' (fun h => k2 h.2) (by simp) (by simp only [State.can, AV.can, AV.canL, HO.can, Z25, idx, Z02, Z00, Heap.at, Nat.reduceBEq, ↓reduceIte, Nat.reduceEqDiff, Option.getD_some, Option.map_some, List.map_cons, List.map_nil, List.getD_cons_zero, List.getD_cons_succ])
      · exact hskip d' (fun h => k1 h.1) (by simp) (by simp only [State.can, AV.can, AV.canL, HO.can, Z25, idx, Z02, Z00, Heap.at, Nat.reduceBEq, ↓reduceIte, Nat.reduceEqDiff, Option.getD_some, Option.map_some, List.map_cons, List.map_nil, List.getD_cons_zero, List.getD_cons_succ])
    · have d' : i = D.length - n := by omega
      subst d'
      have hM : maxLen = 9223372036854775807 := rfl
      have hno : sortI (order.getD t default).1 ≠ wantN D n t (D.length - n) → followN D n order = ([], false) := fun h => followN_none (i := t + 1) (by unfold coN; rw [i2]; simp only; rw [if_neg h]) (by omega)
      refine ⟨⟨by omega, by omega⟩, by omega, by omega, fun hs => ?_, fun hs => by rw [hno hs]; exact ⟨rfl, rfl⟩⟩
      have hcn : coN D n order (t + 1) = some (ps ++ pairF t (order.getD t default).1 (order.getD t default).1.length) := by unfold coN; rw [i2]; simp only; rw [if_pos hs]
      have hl64 : (order.getD t default).1.length ≤ 64 := by rw [← sortI_len, hs]; omega
      clear hlst
      generalize hA : order.getD t default = A at *
      obtain ⟨l, lg⟩ := A
      have hl64 : l.length ≤ 64 := hl64
      have hcn : coN D n order (t + 1) = some (ps ++ pairF t l l.length) := hcn
      simp only
      refine Loop.fam [0, 1, 8, 9, 10, 23, 24, 25, 63, 64, 65] (fSt3 D f n order og t l lg) (fInv3 t l ps) (fun x => l.length - x.1) (0, ps) [0, 1] (by simp) (by simp) (by simp only [State.can, AV.can, AV.canL, HO.can, Z25, idx, Z02, Z00, Heap.at, Nat.reduceBEq, ↓reduceIte, Nat.reduceEqDiff, Option.getD_some, Option.map_some, List.map_cons, List.map_nil, List.getD_cons_zero, List.getD_cons_succ, fSt3]; rfl) ⟨Nat.zero_le _, by simp [pairF]⟩ ?_
      rintro ⟨k, qs⟩ ⟨q1, q2⟩
      have q1 : k ≤ l.length := q1
      have q2 : qs = ps ++ pairF t l k := q2
      have hpf := pairF_le t l k
      have hkl : k * (l.length + 1) ≤ 64 * 65 := Nat.mul_le_mul (by omega) (by omega)
      have hql : qs.length ≤ 4225 * t + 4160 := by rw [q2, List.length_append]; omega
      simp (maxSteps := 3000000) only [fSt3, ↓Z1a, ↓Z2b, ↓Z1k, ↓Z05, ↓Z2v, ↓Z2r, nilG_d, nilG_r, ↓Z1g, ↓Z19, ↓Z0d, ↓Z1l, ↓Z0m, ↓Z20, ↓Z30, ↓Z33, ↓Z24, ↓Z1j, ↓Z2m, ↓Z28, ↓Z1z, ↓Z3r, ↓retK_n, ↓Z3n, ↓Z3p, ↓Z3o, ↓Z41, ↓Z3x, ↓Z4b, ↓Z0j, ↓Z08, ↓Z1b, ↓Z0i, ↓Z1n, nf_mk, Z09, Z18, Z34, Z1c, Z37, evN, Z2i, Z1y, Z36, Z47, Z1x, Z17, Z1i, Z2u, Z2j, Z2f, Z1o, Z2c, evT, Opd.ev, Z02, Z00, Z35, Z45, Z3w, Z27, Z1m, Z2a, Z2e, Z3l, Z1d, Z0c, Z3e, LOp.isNew, State.prune, Z3t, Z31, AV.leaf, Heap.at, Z0k, Z0a, Z1h, Z0g, Z03, idx_I, idx_W, rowW, Z26, Z2w, Z22, Z1e, rowB, Z2y, Z2x, rowN, lens_W, Z3s, Z1f, Z15, w_or, w_and, Z2z, Z4d, w_shl, Z4c, w_shr, Z4e, w_neg, w_add, w_bit, w_eq0, w_eq1, w_eq, Bool.decide_eq_true, Z3h, Z3k, Z3j, Z2n, Z1p, Z04, Z0b, Z0n, Z01, Z21, rowI, RatG.row, LocG.row, ActG.row, StepG.row, StampG.row, ActG.av, ActG.eta, RatG.eta, LocG.eta, beq_true, beq_false, Z2k, Z2t, Z2l, Z2s, Z14, Z0q, Z12, Z13, Z0p, Z0o, Z0e, List.length_set, List.length_replicate, Z06, Int.reduceToNat, evLen, Z29, Z40, Src.all, Src.len, Src.leaf, Src.leafN, Z3c, Z48, joinV, Z0l, Z0r, Z0s, Z0t, Z0u, Z0v, Z0w, Z0x, mkVec, drows, evMk, List.length_map, Z1w, Z23, List.take_length, List.take_left, List.length_append, Nat.le_add_right, ite_self, List.take_of_length_le, Z3d, intOr, Z43, Option.isSome_none, Option.isSome_some, Nat.sub_zero, loadQ, loadT, evBin, evUn, Z0y, Z0z, binT, binQ, chk, Z3u, List.contains_cons, List.contains_nil, Bool.or_false, Bool.false_or, Bool.and_self, resQ, resV, resT, pickV, Z2d, Z4a, Z3q, fnOf, Z3f, isD, HO.drow, viewT, Z3y, evEq, eqV, eqK, eqC1, Z49, Z46, Z3b, Z38, lens_I, Z3m, Z2q, Z1s, Z2p, Z1r, Z2o, Z1q, Z1t, Z10, Z11, Z0f, List.mem_cons, List.not_mem_nil, or_false, forall_eq, putRow, Z3g, get_nil, RetS, RetF, RetD, AV.frz, AV.frzL, AV.freshP, AV.freshL, DV.less, Z2g, Z1u, Z2h, Z1v, Z0h, Z07, Option.some.injEq, AV.tup.injEq, AV.agg.injEq, List.cons.injEq, DV.list.injEq, List.isEmpty_nil, Nat.le_refl, AV.d.injEq, DV.int.injEq, DV.bool.injEq, ↓reduceIte, Nat.reduceEqDiff, Nat.reduceAdd, Nat.reduceBEq, List.length_cons, List.length_nil, List.replicate_succ, List.replicate_zero, List.nil_append, List.cons_append, List.append_nil, List.foldl_cons, List.foldl_nil, List.map_cons, List.map_nil, List.all_cons, List.all_nil, List.set_cons_zero, List.set_cons_succ, List.getD_cons_zero, List.getD_cons_succ, List.drop_zero, List.drop_succ_cons, List.take_succ_cons, List.take_zero, List.flatten_cons, List.flatten_nil, Bool.true_and, Bool.and_true, Bool.not_true, Bool.not_false, true_and, and_true, true_or, or_true, Option.bind_some, Option.map_some, decide_true, decide_false, beq_self_eq_true, true_implies, false_implies, implies_true, not_true_eq_false, not_false_eq_true, and_self, Bool.and_false, Bool.false_and, Nat.reduceLT, Nat.reduceLeDiff, List.reverse_cons, List.reverse_nil, Nat.zero_add, Nat.add_zero, Bool.false_eq_true, List.getElem?_cons_zero, Nat.reduceMul, Nat.mul_one, G1, addE, addE1, addE2, idx_LI, rowLI_len, rowLI_get, F2, G2, G3, F4, G4, at_clone, at_sortI, sortIE_d, sortI_len, take_sortI, at_sameI, getD_drop]
      have w2 : k < l.length → IntKind.i64.wrap ((k : Int) + 1) = ((k + 1 : Nat) : Int) := fun h => by rw [wrap_id (by omega) (by omega)]; omega
      have w3 : IntKind.i64.wrap ((t : Int) + 1) = ((t + 1 : Nat) : Int) := by rw [wrap_id (by omega) (by omega)]; omega
      refine ⟨fun d => ?_, fun d => ?_⟩
      · have d' : k < l.length := by omega
        refine ⟨⟨by omega, by omega⟩, ⟨by decide, roomy_of (by omega) (by omega)⟩, ⟨by omega, by omega, by omega, by omega⟩, ?_⟩
        refine Loop.fam [0, 1, 8, 9, 10, 16, 23, 24, 25, 63, 64, 65, 75, 76, 77] (fSt4 D f n order og t l lg k) (fInv4 t l ps k) (fun x => k - x.1) (0, qs ++ [⟨t, l.getD k default⟩]) [0, 2] (by simp) (by simp) (by simp only [State.can, AV.can, AV.canL, HO.can, Z25, idx, Z02, Z00, Heap.at, Nat.reduceBEq, ↓reduceIte, Nat.reduceEqDiff, Option.getD_some, Option.map_some, List.map_cons, List.map_nil, List.getD_cons_zero, List.getD_cons_succ, fSt4, List.length_append, List.length_singleton]; rfl)
          ⟨Nat.zero_le _, by show qs ++ [_] = ps ++ (pairF t l k ++ (_ :: List.map _ (List.take 0 l))); rw [q2]; simp⟩ ?_
        rintro ⟨m, us⟩ ⟨v1, v2⟩
        have v1 : m ≤ k := v1
        have v2 : us = ps ++ (pairF t l k ++ (⟨t, l.getD k default⟩ :: (l.take m).map fun b => ⟨b, l.getD k default⟩)) := v2
        have hul : us.length ≤ 4225 * t + 4160 + 65 := by
          rw [v2, List.length_append, List.length_append, List.length_cons, List.length_map, List.length_take]; omega
        simp (maxSteps := 3000000) only [fSt4, ↓Z1a, ↓Z2b, ↓Z1k, ↓Z05, ↓Z2v, ↓Z2r, nilG_d, nilG_r, ↓Z1g, ↓Z19, ↓Z0d, ↓Z1l, ↓Z0m, ↓Z20, ↓Z30, ↓Z33, ↓Z24, ↓Z1j, ↓Z2m, ↓Z28, ↓Z1z, ↓Z3r, ↓retK_n, ↓Z3n, ↓Z3p, ↓Z3o, ↓Z41, ↓Z3x, ↓Z4b, ↓Z0j, ↓Z08, ↓Z1b, ↓Z0i, ↓Z1n, nf_mk, Z09, Z18, Z34, Z1c, Z37, evN, Z2i, Z1y, Z36, Z47, Z1x, Z17, Z1i, Z2u, Z2j, Z2f, Z1o, Z2c, evT, Opd.ev, Z02, Z00, Z35, Z45, Z3w, Z27, Z1m, Z2a, Z2e, Z3l, Z1d, Z0c, Z3e, LOp.isNew, State.prune, Z3t, Z31, AV.leaf, Heap.at, Z0k, Z0a, Z1h, Z0g, Z03, idx_I, idx_W, rowW, Z26, Z2w, Z22, Z1e, rowB, Z2y, Z2x, rowN, lens_W, Z3s, Z1f, Z15, w_or, w_and, Z2z, Z4d, w_shl, Z4c, w_shr, Z4e, w_neg, w_add, w_bit, w_eq0, w_eq1, w_eq, Bool.decide_eq_true, Z3h, Z3k, Z3j, Z2n, Z1p, Z04, Z0b, Z0n, Z01, Z21, rowI, RatG.row, LocG.row, ActG.row, StepG.row, StampG.row, ActG.av, ActG.eta, RatG.eta, LocG.eta, beq_true, beq_false, Z2k, Z2t, Z2l, Z2s, Z14, Z0q, Z12, Z13, Z0p, Z0o, Z0e, List.length_set, List.length_replicate, Z06, Int.reduceToNat, evLen, Z29, Z40, Src.all, Src.len, Src.leaf, Src.leafN, Z3c, Z48, joinV, Z0l, Z0r, Z0s, Z0t, Z0u, Z0v, Z0w, Z0x, mkVec, drows, evMk, List.length_map, Z1w, Z23, List.take_length, List.take_left, List.length_append, Nat.le_add_right, ite_self, List.take_of_length_le, Z3d, intOr, Z43, Option.isSome_none, Option.isSome_some, Nat.sub_zero, loadQ, loadT, evBin, evUn, Z0y, Z0z, binT, binQ, chk, Z3u, List.contains_cons, List.contains_nil, Bool.or_false, Bool.false_or, Bool.and_self, resQ, resV, resT, pickV, Z2d, Z4a, Z3q, fnOf, Z3f, isD, HO.drow, viewT, Z3y, evEq, eqV, eqK, eqC1, Z49, Z46, Z3b, Z38, lens_I, Z3m, Z2q, Z1s, Z2p, Z1r, Z2o, Z1q, Z1t, Z10, Z11, Z0f, List.mem_cons, List.not_mem_nil, or_false, forall_eq, putRow, Z3g, get_nil, RetS, RetF, RetD, AV.frz, AV.frzL, AV.freshP, AV.freshL, DV.less, Z2g, Z1u, Z2h, Z1v, Z0h, Z07, Option.some.injEq, AV.tup.injEq, AV.agg.injEq, List.cons.injEq, DV.list.injEq, List.isEmpty_nil, Nat.le_refl, AV.d.injEq, DV.int.injEq, DV.bool.injEq, ↓reduceIte, Nat.reduceEqDiff, Nat.reduceAdd, Nat.reduceBEq, List.length_cons, List.length_nil, List.replicate_succ, List.replicate_zero, List.nil_append, List.cons_append, List.append_nil, List.foldl_cons, List.foldl_nil, List.map_cons, List.map_nil, List.all_cons, List.all_nil, List.set_cons_zero, List.set_cons_succ, List.getD_cons_zero, List.getD_cons_succ, List.drop_zero, List.drop_succ_cons, List.take_succ_cons, List.take_zero, List.flatten_cons, List.flatten_nil, Bool.true_and, Bool.and_true, Bool.not_true, Bool.not_false, true_and, and_true, true_or, or_true, Option.bind_some, Option.map_some, decide_true, decide_false, beq_self_eq_true, true_implies, false_implies, implies_true, not_true_eq_false, not_false_eq_true, and_self, Bool.and_false, Bool.false_and, Nat.reduceLT, Nat.reduceLeDiff, List.reverse_cons, List.reverse_nil, Nat.zero_add, Nat.add_zero, Bool.false_eq_true, List.getElem?_cons_zero, Nat.reduceMul, Nat.mul_one, G1, addE, addE1, addE2, idx_LI, rowLI_len, rowLI_get, F2, G2, G3, F4, G4, at_clone, at_sortI, sortIE_d, sortI_len, take_sortI, at_sameI, getD_drop]
        have htk : (l.take k).length = k := by rw [List.length_take]; omega
        have w4 : m < k → IntKind.i64.wrap ((m : Int) + 1) = ((m + 1 : Nat) : Int) := fun h => by rw [wrap_id (by omega) (by omega)]; omega
        refine ⟨fun g => ?_, fun g => ?_⟩
        · have g' : m < k := by omega
          have hg : (l.take k).getD m default = l.getD m default := by rw [List.getD_eq_getElem?_getD, List.getElem?_take, if_pos g', List.getD_eq_getElem?_getD]
          rw [w4 g', hg]
          refine ⟨⟨by omega, by omega⟩, ⟨by decide, roomy_of (by omega) (by omega)⟩, ?_⟩
          refine Z44.mk [0, 2] (m + 1, us ++ [⟨l.getD m default, l.getD k default⟩]) (by simp) (by simp) (by simp only [State.can, AV.can, AV.canL, HO.can, Z25, idx, Z02, Z00, Heap.at, Nat.reduceBEq, ↓reduceIte, Nat.reduceEqDiff, Option.getD_some, Option.map_some, List.map_cons, List.map_nil, List.getD_cons_zero, List.getD_cons_succ, fSt4, List.length_append, List.length_singleton]) ⟨by show m + 1 ≤ k; omega, ?_⟩ (by show k - (m + 1) < k - m; omega)
          show us ++ [_] = ps ++ (pairF t l k ++ (_ :: List.map _ (l.take (m + 1))))
          rw [v2, List.take_add_one, List.getElem?_eq_getElem (by omega), getD_lt (show m < l.length by omega)]
          simp only [Option.toList_some, List.map_append, List.map_cons, List.map_nil, List.append_assoc, List.cons_append]
        · have g' : m = k := by omega
          subst g'
          rw [w2 d']
          refine Z44.mk [0, 1] (m + 1, us) (by simp) (by simp) (by simp only [State.can, AV.can, AV.canL, HO.can, Z25, idx, Z02, Z00, Heap.at, Nat.reduceBEq, ↓reduceIte, Nat.reduceEqDiff, Option.getD_some, Option.map_some, List.map_cons, List.map_nil, List.getD_cons_zero, List.getD_cons_succ, fSt3]) ⟨by show m + 1 ≤ _; omega, ?_⟩ (by show l.length - (m + 1) < l.length - m; omega)
          show us = ps ++ pairF t l (m + 1)
          exact v2
      · have d' : k = l.length := by omega
        subst d'
        rw [w3]
        refine Z44.mk [0, 1] (t + 1, qs) (by simp) (by simp) (by simp only [State.can, AV.can, AV.canL, HO.can, Z25, idx, Z02, Z00, Heap.at, Nat.reduceBEq, ↓reduceIte, Nat.reduceEqDiff, Option.getD_some, Option.map_some, List.map_cons, List.map_nil, List.getD_cons_zero, List.getD_cons_succ, fSt1]) ⟨by show t + 1 ≤ _; omega, by rw [q2]; exact hcn, by show qs.length ≤ 4225 * (t + 1); omega⟩ (by show order.length - (t + 1) < order.length - t; omega)
  · have e' : t = n := by omega
    subst e'
    have : followN D t order = (ps, true) := by unfold followN; rw [if_neg (by omega), i2]
    rw [this]; exact ⟨rfl, rfl⟩
end Go.Ago

/- A call that is handed rows of ours and gives longer ones (slices.Insert): the rows with their capacity, and what is said of it to the caller. Conditions: none. -/
set_option linter.unusedSimpArgs false
set_option linter.unusedVariables false
namespace Go.Ago

/-- The end of a call: its result and heap, said with less. -/
def RetW (n0 : Nat) (v' : AV) (os' : Heap) : AV → Heap → Prop := fun r H => Says n0 ⟨[(0, r)], H⟩ ⟨[(0, v')], os'⟩ ∧ n0 ≤ os'.length

theorem ACalls.exactW {P : Program} {f : FuncId} {args : List AV} {H0 os' : Heap} {v' : AV} (h : ACalls P f args H0 (RetW H0.length v' os')) : ACalls P f args H0 (fun r H => r = v' ∧ H = os') := by
  refine ⟨h.1, fun A φ w vals hs hz hr => (h.2 A φ w vals hs hz hr).mono ?_⟩
  rintro e w' ⟨v, r, H', φ', rfl, ⟨hw, hl⟩, hs', hrr, hext⟩
  have hsim : Sim P A 1 φ' ⟨[(0, r)], H'⟩ { tmps := #[v], defers := [] } w' := by
    refine ⟨hs', rfl, rfl, fun t => ?_⟩
    cases t with
    | zero => exact hrr
    | succ t => exact .undef _
  obtain ⟨φ2, hs2, he⟩ := hw P A 1 φ' _ w' hsim
  exact ⟨v, v', os', φ2, rfl, ⟨rfl, rfl⟩, hs2.heap, hs2.slots 0, hext.trans he⟩

/-- Rows 'k' of ours are all that is said any more, beside the rows '1', that are as they were. -/
theorem Says.pick {k sz m row sz2 : Nat} {room : Bool} {H : Heap} {R : List (List AV)} {ds r2 : List (List DV)} (hk : (H.at k).rows = some (sz, R)) (h1 : H.at 1 = .dvec sz2 r2) (hne : k ≠ 1)
    (hR : R.take m = ds.map (·.map .d)) (hm : ds.length = m) (hle : m ≤ R.length) :
    Says 2 ⟨[(0, .ref k sz 0 m room)], H⟩ ⟨[(0, .ref 2 sz 0 m true)], [.dead, .dvec sz2 r2, .dvec sz ds]⟩ := by
  intro P A n φ a w hs
  let φ' : Nat → Option (Nat × Nat) := fun i => if i = 2 then φ k else if i < 2 then φ i else none
  have halk : (H.at k).alive := HO.alive_of ⟨_, _, hk⟩
  have hal1 : (H.at 1).alive := by rw [h1]; trivial
  have at0 : Heap.at [.dead, .dvec sz2 r2, .dvec sz ds] 0 = .dead := rfl
  have at1 : Heap.at [.dead, .dvec sz2 r2, .dvec sz ds] 1 = .dvec sz2 r2 := rfl
  have at2 : Heap.at [.dead, .dvec sz2 r2, .dvec sz ds] 2 = .dvec sz ds := rfl
  have which : ∀ i, (Heap.at [.dead, .dvec sz2 r2, .dvec sz ds] i).alive → i = 1 ∨ i = 2 := fun i hi => by
    match i, hi with
    | 0, hi => exact hi.elim
    | 1, _ => exact .inl rfl
    | 2, _ => exact .inr rfl
    | i + 3, hi => exact hi.elim
  have f1 : φ' 1 = φ 1 := rfl
  have f2 : φ' 2 = φ k := rfl
  have hown : ∀ b, own φ' [.dead, .dvec sz2 r2, .dvec sz ds] b → own φ H b := fun b ⟨i, o, hi, hb⟩ => by
    rcases which i hi with rfl | rfl
    · exact ⟨1, o, hal1, hb⟩
    · exact ⟨k, o, halk, hb⟩
  have hM : ∀ b, Mb A φ' [.dead, .dvec sz2 r2, .dvec sz ds] b → Mb A φ H b := fun b hb => hb.imp _root_.id (hown b)
  have hdat : ∀ {x : AV} {v : Value} {y : DV}, Rel φ (Mb A φ H) w x v → x = .d y → Rel φ' (Mb A φ' [.dead, .dvec sz2 r2, .dvec sz ds]) w (.d y) v := fun h e => by
    subst e
    cases h with
    | d _ _ h => exact .d _ _ (h.less hM)
  refine ⟨φ', ⟨⟨fun i b o hb => ?_, fun i s rows hi hr => ?_, fun i j b o o' hi hj hb hb' => ?_, hs.heap.amb, fun b hA ho => hs.heap.apart b hA (hown b ho), fun i b o hi hb => ?_, hs.heap.tab.less hM, fun i b o hi hb => by
    rcases which i hi with rfl | rfl
    · exact RelX.rows (x := .dvec sz2 r2) rfl
    · exact RelX.rows (x := .dvec sz ds) rfl⟩, hs.size, hs.defs, fun t => ?_⟩,
    ⟨fun i hi => by show (if i = 2 then _ else _) = _; rw [if_neg (by omega), if_pos hi], Pres.refl _ _, fun b hb => .inl (hown b hb)⟩⟩
  · show i < 3 ∧ _
    have hb : (if i = 2 then φ k else if i < 2 then φ i else none) = some (b, o) := hb
    split at hb
    · exact ⟨by omega, (hs.heap.dom _ _ _ hb).2⟩
    · split at hb
      · exact ⟨by omega, (hs.heap.dom _ _ _ hb).2⟩
      · cases hb
  · rcases which i (HO.alive_of ⟨_, _, hi⟩) with rfl | rfl
    · rw [at1] at hi
      exact hs.heap.there 1 s rows (by rw [h1]; exact hi) hr
    · rw [at2] at hi
      simp only [HO.rows, Option.some.injEq, Prod.mk.injEq] at hi
      obtain ⟨rfl, rfl⟩ := hi
      exact hs.heap.there k sz R hk (fun e => by
        subst e
        simp at hle
        simp at hr
        exact hr (List.length_eq_zero_iff.1 (by omega)))
  · rcases which i hi with rfl | rfl <;> rcases which j hj with rfl | rfl
    · rfl
    · exact absurd (hs.heap.inj 1 k b o o' hal1 halk hb hb').symm hne
    · exact absurd (hs.heap.inj k 1 b o o' halk hal1 hb hb') hne
    · rfl
  · rcases which i hi with rfl | rfl
    · intro s rows hro
      obtain ⟨c, T, e1, e2, e3, e4⟩ := hs.heap.objs 1 b o hal1 hb s rows (by rw [h1]; exact hro)
      refine ⟨c, T, e1, e2, e3, fun i r j x hr hx => ?_⟩
      obtain ⟨v, hv, hrel⟩ := e4 i r j x hr hx
      rw [at1] at hro
      simp only [HO.rows, Option.some.injEq, Prod.mk.injEq] at hro
      obtain ⟨rfl, rfl⟩ := hro
      rw [List.getElem?_map, Option.map_eq_some_iff] at hr
      obtain ⟨r', hr', rfl⟩ := hr
      rw [List.getElem?_map, Option.map_eq_some_iff] at hx
      obtain ⟨x', hx', rfl⟩ := hx
      exact ⟨v, hv, hdat hrel rfl⟩
    · intro s rows hro
      obtain ⟨c, T, e1, e2, e3, e4⟩ := hs.heap.objs k b o halk hb sz R hk
      rw [at2] at hro
      simp only [HO.rows, Option.some.injEq, Prod.mk.injEq] at hro
      obtain ⟨rfl, rfl⟩ := hro
      have hmem : ∀ i r, (ds.map (·.map AV.d))[i]? = some r → R[i]? = some r := fun i r hr => by
        rw [← hR, List.getElem?_take] at hr
        split at hr
        · exact hr
        · cases hr
      refine ⟨c, T, e1, ?_, fun r hr => ?_, fun i r j x hr hx => ?_⟩
      · have : ds.length * sz ≤ R.length * sz := Nat.mul_le_mul_right _ (by omega)
        simp only [List.length_map]; omega
      · obtain ⟨i, hi, rfl⟩ := List.mem_iff_getElem.1 hr
        exact e3 _ (List.mem_of_getElem? (hmem i _ (List.getElem?_eq_getElem hi)))
      · obtain ⟨v, hv, hrel⟩ := e4 i r j x (hmem i r hr) hx
        rw [List.getElem?_map, Option.map_eq_some_iff] at hr
        obtain ⟨r', hr', rfl⟩ := hr
        rw [List.getElem?_map, Option.map_eq_some_iff] at hx
        obtain ⟨x', hx', rfl⟩ := hx
        exact ⟨v, hv, hdat hrel rfl⟩
  · have := hs.slots t
    cases t with
    | succ t => exact .undef _
    | zero =>
      have h0 : Rel φ (Mb A φ H) w (.ref k sz 0 m room) (a.tmps.getD 0 undef) := this
      show Rel φ' _ w (.ref 2 sz 0 m true) _
      generalize a.tmps.getD 0 undef = v at h0
      cases h0 with
      | ref0 _ _ _ _ a => exact .ref0 _ _ _ _ _
      | ref _ _ _ _ b o cap _ c T hb hcap hroom hheap hfit => exact .ref 2 sz 0 m b o cap true c T hb hcap (fun h => by cases h) hheap hfit

/-- Rows of ours, with what lies behind them as far as they may grow. -/
def capRows (sz c : Nat) (rows : List (List DV)) : List (List AV) := rows.map (·.map .d) ++ List.replicate (c - rows.length) (List.replicate sz .undef)

theorem ACalls.ofCap {P : Program} {f : FuncId} {sz : Nat} {rows : List (List DV)} {as0 : List AV} {os : Heap} {Post : AV → Heap → Prop} (hne : rows ≠ [])
    (h : ∀ c, rows.length ≤ c → ACalls P f (.rcap 0 sz 0 rows.length c :: as0) (.vec sz (capRows sz c rows) :: os) Post) :
    ACalls P f (.ref 0 sz 0 rows.length true :: as0) (.dvec sz rows :: os) Post := by
  refine ⟨(h rows.length (Nat.le_refl _)).1, fun A φ w vals hs hz hrel => ?_⟩
  have h0 : 0 < vals.size := by rw [hz]; simp
  have hr0 := hrel 0 _ _ rfl (Array.getElem?_eq_getElem h0)
  have key : ∃ b o cap c T, φ 0 = some (b, o) ∧ rows.length ≤ cap ∧ w.heap[b]? = some (.cells c T (0, 0)) ∧ o + (0 + cap) * sz ≤ c.size ∧ vals[0] = .slice (some ⟨b, o + 0 * sz, none⟩) rows.length cap := by
    generalize vals[0] = v at hr0
    generalize hn : rows.length = n at hr0
    cases hr0 with
    | ref0 _ _ _ _ a => exact absurd (List.length_eq_zero_iff.1 hn) hne
    | ref _ _ _ _ b o cap _ c T hb hcap hroom hheap hfit => exact ⟨b, o, cap, c, T, hb, hcap, hheap, hfit, rfl⟩
  obtain ⟨b, o, cap, c, T, hb, hcap, hheap, hfit, hv⟩ := key
  have hat : ∀ i, (Heap.at (.vec sz (capRows sz cap rows) :: os) i).alive ↔ (Heap.at (.dvec sz rows :: os) i).alive := fun i => by cases i <;> exact Iff.rfl
  have hown : ∀ b, own φ (.vec sz (capRows sz cap rows) :: os) b ↔ own φ (.dvec sz rows :: os) b := fun b =>
    ⟨fun ⟨i, o, hi, hb⟩ => ⟨i, o, (hat i).1 hi, hb⟩, fun ⟨i, o, hi, hb⟩ => ⟨i, o, (hat i).2 hi, hb⟩⟩
  have hMe : Mb A φ (.vec sz (capRows sz cap rows) :: os) = Mb A φ (.dvec sz rows :: os) := funext fun b => propext ⟨fun h => h.imp _root_.id (hown b).1, fun h => h.imp _root_.id (hown b).2⟩
  have hs' : SimH P A φ (.vec sz (capRows sz cap rows) :: os) w := by
    refine ⟨hs.dom, fun i s r hi hr => ?_, fun i j b o o' hi hj => hs.inj i j b o o' ((hat i).1 hi) ((hat j).1 hj), hs.amb, fun b hA ho => hs.apart b hA ((hown b).1 ho), fun i b' o' hi hb' => ?_, ?_, fun i b' o' hi hb' => ?_⟩
    · cases i with
      | zero => exact ⟨b, o, hb⟩
      | succ i => exact hs.there (i + 1) s r hi hr
    · show RelO φ (Mb A φ (.vec sz (capRows sz cap rows) :: os)) w b' o' _
      rw [hMe]
      cases i with
      | succ i => exact hs.objs (i + 1) b' o' hi hb'
      | zero =>
        rw [hb] at hb'; cases hb'
        intro s r hr
        have hr : some (sz, capRows sz cap rows) = some (s, r) := hr
        simp only [Option.some.injEq, Prod.mk.injEq] at hr
        obtain ⟨rfl, rfl⟩ := hr
        obtain ⟨c1, T1, e1, e2, e3, e4⟩ := hs.objs 0 b o trivial hb sz _ rfl
        rw [hheap] at e1; cases e1
        have hl : (capRows sz cap rows).length = cap := by simp [capRows]; omega
        refine ⟨c, T, hheap, by rw [hl]; simpa using hfit, fun r hr => ?_, fun i r j x hr hx => ?_⟩
        · rcases List.mem_append.1 hr with hr | hr
          · exact e3 r hr
          · rw [(List.mem_replicate.1 hr).2, List.length_replicate]
        · by_cases hi : i < rows.length
          · refine e4 i r j x ?_ hx
            rw [capRows, List.getElem?_append_left (by simpa using hi)] at hr
            exact hr
          · rw [capRows, List.getElem?_append_right (by simp; omega), List.getElem?_replicate] at hr
            split at hr
            · rename_i hlt
              cases hr
              rw [List.getElem?_replicate] at hx
              split at hx
              · rename_i hj
                cases hx
                simp only [List.length_map] at hlt
                have : i * sz + j < cap * sz := by
                  have := Nat.mul_le_mul_right sz (show i + 1 ≤ cap by omega)
                  rw [Nat.add_mul, Nat.one_mul] at this; omega
                have hlt2 : o + i * sz + j < c.size := by simp at hfit; omega
                exact ⟨c[o + i * sz + j], Array.getElem?_eq_getElem hlt2, .undef _⟩
              · cases hx
            · cases hr
    · show TabIn P (Mb A φ (.vec sz (capRows sz cap rows) :: os)) w
      rw [hMe]; exact hs.tab
    · cases i with
      | zero => exact RelX.rows (x := .vec sz (capRows sz cap rows)) rfl
      | succ i => exact hs.objx (i + 1) b' o' hi hb'
  refine ((h cap hcap).2 A φ w vals hs' (by simpa using hz) (fun i x v h1 h2 => ?_)).mono ?_
  · rw [hMe]
    cases i with
    | zero =>
      rw [Array.getElem?_eq_getElem h0] at h2
      simp only [List.getElem?_cons_zero, Option.some.injEq] at h1 h2
      subst h1; subst h2
      rw [hv]
      exact .rcap 0 sz 0 rows.length b o cap c T hb hcap hheap hfit
    | succ i => exact hrel (i + 1) x v h1 h2
  rintro e w' ⟨v, r, H', φ', h1, h2, h3, h4, h5⟩
  refine ⟨v, r, H', φ', h1, h2, h3, h4, ⟨h5.ids, ?_, fun b hb => (h5.mono b hb).imp (hown b).1 _root_.id⟩⟩
  have hoe : own φ (.vec sz (capRows sz cap rows) :: os) = own φ (.dvec sz rows :: os) := funext fun b => propext (hown b)
  rw [← hoe]; exact h5.pres

theorem Heap.at_left {H G : Heap} {j : Nat} (h : j < H.length) : Heap.at (H ++ G) j = H.at j := by
  unfold Heap.at
  rw [List.getD_eq_getElem?_getD, List.getElem?_append_left h, List.getD_eq_getElem?_getD]
theorem Heap.at_end {H G : Heap} {o : HO} {n : Nat} (h : H.length = n) : Heap.at (H ++ o :: G) n = o := by
  unfold Heap.at
  rw [List.getD_eq_getElem?_getD, List.getElem?_append_right (by omega), h]; simp

/-- What is known of slices.Insert with one element more: the rows and the element are handed over, and new rows come back. -/
structure EfI where
  A : Type
  args : A → Nat → Nat → List AV
  sz : Nat
  rows : A → List (List DV)
  rows2 : A → List (List DV)
  ok : A → Prop
  rows' : A → List (List DV)

def EfI.fits (e : EfI) (p : e.A × Nat × Nat) (args : List AV) (H : Heap) : Prop := e.args p.1 p.2.1 p.2.2 = args ∧ H.at p.2.1 = .dvec e.sz (e.rows p.1) ∧ H.at p.2.2 = .dvec e.sz (e.rows2 p.1) ∧ p.2.1 ≠ p.2.2
def EfI.eff (e : EfI) (p : e.A × Nat × Nat) (H : Heap) : Eff := ⟨e.ok p.1, .ref H.length e.sz 0 (e.rows' p.1).length true, [(p.2.1, .dead)], [.dvec e.sz (e.rows' p.1)], some ⟨p.2.1, p.2.2, e.sz, e.rows' p.1, false⟩⟩
open Classical in
noncomputable def EfI.at (e : EfI) (args : List AV) (H : Heap) : Option Eff := if h : ∃ p, e.fits p args H then some (e.eff h.choose H) else none

theorem EfI.at_fits {e : EfI} (hi : ∀ p q args H, e.fits p args H → e.fits q args H → p = q) {p : e.A × Nat × Nat} {args : List AV} {H : Heap} (h : e.fits p args H) : e.at args H = some (e.eff p H) := by
  have h' : ∃ p, e.fits p args H := ⟨p, h⟩
  unfold EfI.at
  rw [dif_pos h', hi _ _ _ _ h'.choose_spec h]

theorem EfI.ok' {P : Program} {e : EfI} {f : FuncId} (hren : ∀ x (ρ : Nat → Nat), e.args x (ρ 0) (ρ 1) = (e.args x 0 1).map (AV.ren ρ))
    (h : ∀ x, e.ok x → ACalls P f (e.args x 0 1) [.dvec e.sz (e.rows x), .dvec e.sz (e.rows2 x)] (RetW 2 (.ref 2 e.sz 0 (e.rows' x).length true) [.dead, .dvec e.sz (e.rows2 x), .dvec e.sz (e.rows' x)])) :
    ∀ args H x, e.at args H = some x → x.ok → ACalls P f args H fun r H' => r = x.val ∧ H' = applyUps H x.ups ++ x.news := by
  intro args H x hx hok
  unfold EfI.at at hx
  split at hx
  case isFalse => cases hx
  rename_i hp
  have hfit := hp.choose_spec
  generalize hp.choose = q at hx hfit
  simp only [Option.some.injEq] at hx
  subst hx
  obtain ⟨x, id, k⟩ := q
  obtain ⟨h1, h2, h3, h4⟩ := hfit
  simp only at h1 h2 h3 h4
  subst h1
  have hlt : id < H.length := Heap.at_lt (H := H) (i := id) (by rw [h2]; trivial)
  have hlt2 : k < H.length := Heap.at_lt (H := H) (i := k) (by rw [h3]; trivial)
  have hcall := ACalls.exactW (h x hok)
  have i0 : into H [id, k] 0 = id := into_lt (by simp)
  have i1 : into H [id, k] 1 = k := into_lt (by simp)
  have i2 : into H [id, k] 2 = H.length := into_ge (by simp)
  have hfr : Framed H [id, k] [.dead, .dvec e.sz (e.rows2 x), .dvec e.sz (e.rows' x)] (H.set id .dead ++ [.dvec e.sz (e.rows' x)]) := by
    refine ⟨by simp, fun j hj hm => ?_, fun i hi => ?_⟩
    · simp only [List.mem_cons, List.not_mem_nil, or_false, not_or] at hm
      rw [Heap.at_left (by simpa using hj), Heap.at_set hlt, if_neg (fun h => hm.1 h.symm)]
    · simp only [List.length_cons, List.length_nil] at hi
      match i, hi with
      | 0, _ =>
        rw [i0]
        rw [Heap.at_left (by simpa using hlt), Heap.at_set hlt, if_pos rfl]; rfl
      | 1, _ =>
        rw [i1]
        rw [Heap.at_left (by simpa using hlt2), Heap.at_set hlt, if_neg h4]
        exact h3
      | 2, _ =>
        rw [i2]
        rw [Heap.at_end (by simp)]; rfl
  have := ACalls.frame (ids := [id, k]) (by simpa using h4) (by simp) (by simp; exact ⟨hlt, hlt2⟩) (by simp) (fun j hj => by
    simp only [List.length_cons, List.length_nil] at hj
    match j, hj with
    | 0, _ => simp only [List.getElem_cons_zero, h2]; rfl
    | 1, _ => simp only [List.getElem_cons_succ, List.getElem_cons_zero, h3]; rfl) hfr hcall
  have e1 : (e.args x 0 1).map (AV.ren (into H [id, k])) = e.args x id k := by rw [← hren x (into H [id, k]), i0, i1]
  rw [e1] at this
  refine this.mono fun r H' ⟨hr, hH⟩ => ⟨?_, hH⟩
  rw [hr]
  simp only [AV.ren, i2, EfI.eff]

/-- What is asked of a body: from the rows as they are, or from the rows with their capacity. -/
structure EfI.Body (e : EfI) (T : Tab) (live : List Nat) (lc : LCode) (rs : List LRes) : Prop where
  ren : ∀ x (ρ : Nat → Nat), e.args x (ρ 0) (ρ 1) = (e.args x 0 1).map (AV.ren ρ)
  body : ∀ x, e.ok x →
    vck T 2 live lc ⟨Z1d 0 (e.args x 0 1), [.dvec e.sz (e.rows x), .dvec e.sz (e.rows2 x)]⟩ (retK rs (RetW 2 (.ref 2 e.sz 0 (e.rows' x).length true) [.dead, .dvec e.sz (e.rows2 x), .dvec e.sz (e.rows' x)])) ∨
    (e.rows x ≠ [] ∧ ∃ as0, e.args x 0 1 = .ref 0 e.sz 0 (e.rows x).length true :: as0 ∧ ∀ c, (e.rows x).length ≤ c →
      vck T 2 live lc ⟨Z1d 0 (.rcap 0 e.sz 0 (e.rows x).length c :: as0), [.vec e.sz (capRows e.sz c (e.rows x)), .dvec e.sz (e.rows2 x)]⟩ (retK rs (RetW 2 (.ref 2 e.sz 0 (e.rows' x).length true) [.dead, .dvec e.sz (e.rows2 x), .dvec e.sz (e.rows' x)])))

theorem EfI.Body.calls {P : Program} {T : Tab} (hT : TabOK P T) {e : EfI} {f : FuncId} {fn : Func} {c : Code} {lc : LCode} {rs : List LRes} {live : List Nat} (h : e.Body T live lc rs) (hf : P.funcs[f]? = some fn)
    (hname : (fn.name == "runtime.NumGoroutine") = false) (hb : fn.body = some c) (hl : lowCode P fn.ntmps c = some lc) (hr : lowRess P fn.results.toList = some rs) (ha : ∀ x, (e.args x 0 1).length ≤ fn.ntmps) :
    ∀ x, e.ok x → ACalls P f (e.args x 0 1) [.dvec e.sz (e.rows x), .dvec e.sz (e.rows2 x)] (RetW 2 (.ref 2 e.sz 0 (e.rows' x).length true) [.dead, .dvec e.sz (e.rows2 x), .dvec e.sz (e.rows' x)]) := fun x hok => by
    rcases h.body x hok with hv | ⟨hne, as0, e1, hv⟩
    · exact ACalls.of_vck hT live hf hname hb hl hr (ha x) hv
    · rw [e1]
      refine ACalls.ofCap hne fun c hc => ACalls.of_vck hT live hf hname hb hl hr ?_ (hv c hc)
      have := ha x
      rw [e1] at this
      simpa using this
theorem EfI.Body.tab {P : Program} {T T0 : Tab} {e : EfI} {live : List Nat} {lc : LCode} {rs : List LRes} (h : e.Body T live lc rs) (hT : TabOK P T) (hT0 : TabOK P T0) {f : FuncId} {fn : Func} {c : Code} (hf : P.funcs[f]? = some fn)
    (hname : (fn.name == "runtime.NumGoroutine") = false) (hb : fn.body = some c) (hl : lowCode P fn.ntmps c = some lc) (hr : lowRess P fn.results.toList = some rs) (ha : ∀ x, (e.args x 0 1).length ≤ fn.ntmps) : TabOK P (T0.addG f e.at) := by
  have hc := EfI.Body.calls hT h hf hname hb hl hr ha
  refine hT0.addG (EfI.ok' h.ren hc) fun args H x t h1 h2 hok => ?_
  unfold EfI.at at h1
  split at h1
  case isFalse => cases h1
  rename_i hp
  have hfit := hp.choose_spec
  generalize hp.choose = q at h1 hfit
  simp only [Option.some.injEq] at h1
  subst h1
  obtain ⟨x, id, k⟩ := q
  obtain ⟨g1, g2, g3, g4⟩ := hfit
  simp only at g1 g2 g3 g4
  subst g1
  simp only [EfI.eff, Option.some.injEq] at h2
  subst h2
  exact ⟨e.args x 0 1, e.rows x, e.rows2 x, g4, fun n => h.ren x (two n id k), g2, g3, ACalls.exactW (hc x hok)⟩

/-! ### A call that gives objects of its own -/
structure EfN where
  A : Type
  args : A → List AV
  ok : A → Prop
  val : A → AV
  news : A → List HO

def EfN.eff (e : EfN) (x : e.A) (H : Heap) : Eff := ⟨e.ok x, (e.val x).ren (H.length + ·), [], (e.news x).map (HO.ren (H.length + ·)), none⟩
open Classical in
noncomputable def EfN.at (e : EfN) (args : List AV) (H : Heap) : Option Eff := if h : ∃ x, e.args x = args then some (e.eff h.choose H) else none
theorem EfN.at_enc {e : EfN} (hi : ∀ x y, e.args x = e.args y → x = y) (x : e.A) (H : Heap) : e.at (e.args x) H = some (e.eff x H) := by
  have h : ∃ y, e.args y = e.args x := ⟨x, rfl⟩
  unfold EfN.at
  rw [dif_pos h, hi _ _ h.choose_spec]
structure EfN.Body (e : EfN) (T : Tab) (live : List Nat) (lc : LCode) (rs : List LRes) : Prop where
  ren : ∀ x (ρ : Nat → Nat), (e.args x).map (AV.ren ρ) = e.args x
  body : ∀ x, e.ok x → vck T 0 live lc ⟨Z1d 0 (e.args x), []⟩ (retK rs (RetG 0 (e.val x) (e.news x)))
theorem EfN.Body.tab {P : Program} {T T0 : Tab} {e : EfN} {live : List Nat} {lc : LCode} {rs : List LRes} (h : e.Body T live lc rs) (hT : TabOK P T) (hT0 : TabOK P T0) {f : FuncId} {fn : Func} {c : Code} (hf : P.funcs[f]? = some fn)
    (hname : (fn.name == "runtime.NumGoroutine") = false) (hb : fn.body = some c) (hl : lowCode P fn.ntmps c = some lc) (hr : lowRess P fn.results.toList = some rs) (ha : ∀ x, (e.args x).length ≤ fn.ntmps) : TabOK P (T0.addG f e.at) := by
  have hat : ∀ args H x, e.at args H = some x → ∃ y, e.args y = args ∧ x = e.eff y H := fun args H x hx => by
    unfold EfN.at at hx
    split at hx
    · rename_i hp
      exact ⟨hp.choose, hp.choose_spec, by simpa using hx.symm⟩
    · cases hx
  refine hT0.addG (fun args H x hx hok => ?_) fun args H x t hx ht hok => ?_
  · obtain ⟨y, rfl, rfl⟩ := hat _ _ _ hx
    have hcall := ACalls.exact (H0 := []) (ACalls.of_vck hT live hf hname hb hl hr (ha y) (h.body y hok))
    have hge : into H [] = (H.length + ·) := funext fun i => by rw [into_ge (Nat.zero_le _)]; rfl
    have hfr : Framed H [] (e.news y) (H ++ (e.news y).map (HO.ren (H.length + ·))) := by
      refine ⟨by simp, fun j hj _ => Heap.at_left hj, fun i hi => ?_⟩
      rw [hge]
      show Heap.at _ (H.length + i) = _
      unfold Heap.at
      rw [List.getD_eq_getElem?_getD, List.getElem?_append_right (by omega), show H.length + i - H.length = i by omega, List.getElem?_map, List.getElem?_eq_getElem hi, List.getD_eq_getElem?_getD, List.getElem?_eq_getElem hi]; rfl
    have := ACalls.frame (ids := []) (by simp) rfl (by simp) (by simp) (fun k hk => by simp at hk) hfr hcall
    rw [h.ren, hge] at this
    exact this
  · obtain ⟨y, rfl, rfl⟩ := hat _ _ _ hx
    cases ht

end Go.Ago
