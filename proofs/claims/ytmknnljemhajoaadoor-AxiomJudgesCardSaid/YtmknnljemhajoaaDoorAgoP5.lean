/- The contracts of package rat. Conditions: none. -/
import Derived.Test.YtmknnljemhajoaaDoorAgoP3
import Derived.Test.YtmknnljemhajoaaDoorAgoP4
import Derived.Laws.Bits64b
import Derived.Shelf.SlSortCmp.Whole1
import Derived.Shelf.Sort.AssemblyIn
import Derived.Shelf.Slices.In.SortNone
import Derived.Sort.EveryDepth
set_option maxRecDepth 100000
set_option linter.unusedSimpArgs false
set_option linter.unusedVariables false
namespace Go.Ago

theorem wrap_id {n : Int} (h : -9223372036854775808 ≤ n) (h' : n ≤ 9223372036854775807) : IntKind.wrap .i64 n = n := by
  simp [IntKind.wrap, IntKind.signed, IntKind.bits]
  split <;> omega

end Go.Ago

/- The contracts of package act and of its reference. Conditions: none. -/
set_option maxRecDepth 100000
set_option linter.unusedSimpArgs false
set_option linter.unusedVariables false
namespace Go.Ago

theorem clone_end {sz bytes : Nat} {l : List (List DV)} (h1 : ∀ r ∈ l, r.length = sz) (h2 : roomy l.length bytes) : (((∀ (r : List AV), r ∈ List.map (fun x => List.map AV.d x) l → r.length = sz) ∧ roomy l.length bytes) ∧
      RetRows sz l (AV.ref 0 sz 0 l.length true) [HO.dvec sz l]) ∧
    (l.length = 0 → RetRows sz l (AV.d (DV.list [] true)) []) :=
  ⟨⟨⟨fun r h => by
      obtain ⟨x, hx, rfl⟩ := List.mem_map.1 h
      simpa using h1 x hx, h2⟩, .inl ⟨0, true, rfl, rfl⟩⟩, fun h => .inr ⟨List.eq_nil_of_length_eq_zero h, rfl⟩⟩

theorem body_slices_Clone_api_Loc {T : Tab} : (cloneS 2 16).Body T V_slices_Clone_api_Loc L_slices_Clone_api_Loc R_slices_Clone_api_Loc := by
  rintro ⟨l, full⟩ ⟨h1, h2⟩
  refine ⟨h1, ?_⟩
  unfold V_slices_Clone_api_Loc L_slices_Clone_api_Loc R_slices_Clone_api_Loc
  simp only [↓Z19, ↓Z26, ↓Z05, ↓Z2m, ↓Z2l, Z4b, ↓Z1l, ↓Z17, ↓Z0k, ↓Z1k, ↓Z30, ↓Z1j, ↓Z3b, ↓Z0i, ↓Z09, Z49, Z07, Z32, Z35, evN, Z1g, Z34, Z1f, Z15, Z1e, Z2a, evT, Opd.ev, Z02, Z00, Z33, Z3q, Z28, Z2b, Z1m, Z0l, Z3o, LOp.isNew, State.prune, Z2d, Z4a, Src.all, Src.len, Src.leaf, Z4p, resQ, resV, resT, List.not_mem_nil, Z23, ↓reduceIte, Nat.reduceBEq, List.length_nil, List.replicate_succ, List.replicate_zero, List.nil_append, List.append_nil, List.map_cons, List.map_nil, List.set_cons_zero, Bool.not_false, true_and, true_or, false_implies, implies_true, Nat.zero_add, Nat.add_zero, Bool.false_eq_true, cloneS]
  exact clone_end h1 h2

def ActG.isR (a : ActG) : Bool := decide (a.kind = 1) || decide (a.kind = 3) || decide (a.kind = 5)
def ActG.isW (a : ActG) : Bool := decide (a.kind = 2) || decide (a.kind = 4) || decide (a.kind = 5)
def ActG.isA (a : ActG) : Bool := decide (a.kind = 3) || decide (a.kind = 4) || decide (a.kind = 5)
/-- May it be an act on these locations? -/
def ActG.right (a : ActG) (l : List LocG) : Bool :=
  if a.kind = 6 then decide (a.loc = 0) && decide (a.old = 0)
  else decide (1 ≤ a.kind) && decide (a.kind ≤ 5) && decide (0 ≤ a.loc) && decide (a.loc < l.length) && ((l.getD a.loc.toNat default).atom == a.isA) && (a.isR || decide (a.old = 0)) && (a.isW || decide (a.new = 0))

def sp_act_Right : Sp := ⟨ActG × List LocG × Bool, fun x => [x.1.av, .d (.list (x.2.1.map LocG.row) x.2.2)], fun x => .data True (.d (.bool (x.1.right x.2.1))) true⟩
theorem at_act_Right (k o m n : Int) (l : List LocG) (full : Bool) : sp_act_Right.at [.agg [.d (.int .i64 k), .d (.int .i64 o), .d (.int .i64 m), .d (.int .i64 n)], .d (.list (l.map LocG.row) full)] = .data True (.d (.bool (ActG.right ⟨k, o, m, n⟩ l))) true :=
  Sp.at_enc (s := sp_act_Right) (fun x y h => by
    obtain ⟨a, b, c⟩ := x; obtain ⟨a', b', c'⟩ := y
    simp only [sp_act_Right, List.cons.injEq, AV.d.injEq, DV.list.injEq, and_true] at h
    obtain ⟨h1, h2, h3⟩ := h
    rw [ActG.av_inj _ _ h1, Z3t LocG.row_inj h2, h3]) (⟨k, o, m, n⟩, l, full)

theorem body_act_Right {T : Tab} : sp_act_Right.Body T V_act_Right L_act_Right R_act_Right := by
  rintro ⟨a, l, full⟩ -
  refine .inl ⟨rfl, ?_⟩
  unfold V_act_Right L_act_Right R_act_Right
  simp only [↓Z26, ↓Z05, ↓Z1l, ↓Z17, ↓Z0h, ↓Z0k, ↓Z1k, ↓Z30, ↓Z24, ↓Z2c, ↓Z1j, ↓Z3b, ↓Z0i, ↓Z09, ↓Z18, ↓Z0g, Z49, Z07, Z32, Z1a, Z35, evN, Z1g, Z34, Z1f, Z15, Z1e, Z2h, Z29, Z1h, Z2a, evT, Opd.ev, Z02, Z00, Z33, Z3q, Z27, Z28, Z2b, Z1m, Z0l, Z3o, LOp.isNew, State.prune, Z3u, Z37, AV.leaf, Heap.at, Z0j, Z0a, Z1i, Z3e, Z1y, LocG.row, ActG.av, beq_true, beq_false, Z4t, List.length_map, Z4m, Z4v, Z4l, binT, binQ, Bool.and_self, resQ, resV, resT, Z4u, evEq, eqV, Z23, RetS, AV.d.injEq, DV.bool.injEq, ↓reduceIte, Nat.reduceAdd, Nat.reduceBEq, List.length_cons, List.length_nil, List.replicate_succ, List.replicate_zero, List.nil_append, List.append_nil, List.map_cons, List.map_nil, List.all_cons, List.all_nil, List.set_cons_zero, List.getD_cons_zero, List.getD_cons_succ, true_and, and_self, Nat.reduceLT, Nat.zero_add, Nat.add_zero, Bool.false_eq_true, sp_act_Right, ActG.av]
  simp only [boolK]
  (repeat' (first | intro _ | apply And.intro))
  all_goals (simp_all [ActG.right, ActG.isR, ActG.isW, ActG.isA] <;> omega)

theorem Z4h {i n : Nat} (h : i < n) (hn : n ≤ maxLen) : IntKind.i64.wrap ((i : Int) + 1) = ((i + 1 : Nat) : Int) := by
  have hm : maxLen = 9223372036854775807 := rfl
  rw [wrap_id (by omega) (by omega)]; omega

def sp_sameI : Sp := ⟨List Int × Bool × List Int × Bool, fun x => [.d (.list (x.1.map rowI) x.2.1), .d (.list (x.2.2.1.map rowI) x.2.2.2)], fun x => .data (x.1.length ≤ maxLen) (.d (.bool (decide (x.1 = x.2.2.1)))) true⟩
theorem at_sameI (a b : List Int) (f g : Bool) : sp_sameI.at [.d (.list (a.map rowI) f), .d (.list (b.map rowI) g)] = .data (a.length ≤ maxLen) (.d (.bool (decide (a = b)))) true :=
  Sp.at_enc (s := sp_sameI) (fun x y h => by
    obtain ⟨a, b, c, d⟩ := x; obtain ⟨a', b', c', d'⟩ := y
    simp only [sp_sameI, List.cons.injEq, AV.d.injEq, DV.list.injEq, and_true] at h
    obtain ⟨⟨h1, h2⟩, h3, h4⟩ := h
    rw [Z3t rowI_inj h1, h2, Z3t rowI_inj h3, h4]) (a, f, b, g)

theorem take_next {α : Type} {a b : List α} {i : Nat} {d : α} (h2 : a.take i = b.take i) (h3 : i < a.length) (h4 : i < b.length) (h5 : a.getD i d = b.getD i d) : a.take (i + 1) = b.take (i + 1) := by
  rw [getD_lt h3, getD_lt h4] at h5
  rw [List.take_add_one, List.take_add_one, h2, List.getElem?_eq_getElem h3, List.getElem?_eq_getElem h4, h5]
theorem take_all {α : Type} {a b : List α} (h : a.take a.length = b.take a.length) (hl : a.length = b.length) : a = b := by
  rw [List.take_length, hl, List.take_length] at h; exact h

/-- Are two lists the same? -/
def sp_same {α : Type} [DecidableEq α] (row : α → List DV) : Sp := ⟨List α × Bool × List α × Bool, fun x => [.d (.list (x.1.map row) x.2.1), .d (.list (x.2.2.1.map row) x.2.2.2)], fun x => .data (x.1.length ≤ maxLen) (.d (.bool (decide (x.1 = x.2.2.1)))) true⟩
theorem at_same {α : Type} [DecidableEq α] {row : α → List DV} (hr : ∀ x y, row x = row y → x = y) (a b : List α) (f g : Bool) : (sp_same row).at [.d (.list (a.map row) f), .d (.list (b.map row) g)] = .data (a.length ≤ maxLen) (.d (.bool (decide (a = b)))) true :=
  Sp.at_enc (s := sp_same row) (fun x y h => by
    obtain ⟨a, b, c, d⟩ := x; obtain ⟨a', b', c', d'⟩ := y
    simp only [sp_same, List.cons.injEq, AV.d.injEq, DV.list.injEq, and_true] at h
    obtain ⟨⟨h1, h2⟩, h3, h4⟩ := h
    rw [Z3t hr h1, h2, Z3t hr h3, h4]) (a, f, b, g)
end Go.Ago

/- An object of ours that nobody changes any more is said as data from here on. Conditions: none. -/
set_option linter.unusedSimpArgs false
set_option linter.unusedVariables false
namespace Go.Ago


/-- The rows of an object, as data. -/
def HO.data : HO → Option (Nat × List (List DV))
  | .dead => none
  | .dvec sz l => some (sz, l)
  | .vec sz l => (drows l).map fun ds => (sz, ds)

/-! ### Rules -/
/-! ### Rows of data, said as rows of cells -/
end Go.Ago

/- A call on objects of its own, as a call on a greater heap; contracts of calls that change or add objects. Conditions: none. -/
set_option linter.unusedSimpArgs false
set_option linter.unusedVariables false
namespace Go.Ago

/-- The end of a call: its heap, said with other ids, is this one. -/
def RetG (n0 : Nat) (v' : AV) (os' : Heap) : AV → Heap → Prop := fun r H => ∃ ρ, Weak n0 ρ ⟨[(0, r)], H⟩ ⟨[(0, v')], os'⟩ ∧ n0 ≤ os'.length

theorem RetG.mk {n0 : Nat} {v' r : AV} {os' H : Heap} (ρ : List Nat) (h1 : ρ.Nodup) (h2 : ∀ i ∈ ρ, i < H.length) (h3 : ∀ i, i < n0 → ρ[i]? = some i) (hv : AV.can ρ r = some v') (ho : ρ.map (fun i => (Heap.at H i).can ρ) = os') : RetG n0 v' os' r H := by
  have hw := can_weak (S := ⟨[(0, r)], H⟩) (live := [0]) h1 h3 h2
  have e : State.can ρ [0] ⟨[(0, r)], H⟩ = ⟨[(0, v')], os'⟩ := by
    simp only [State.can, List.map_cons, List.map_nil, Env.get, if_true, hv, Option.getD_some, ho]
  rw [e] at hw
  refine ⟨ρ, hw, ?_⟩
  rw [← ho, List.length_map]
  cases n0 with
  | zero => omega
  | succ n =>
    rcases Nat.lt_or_ge n ρ.length with h | h
    · omega
    · have := h3 n (by omega)
      rw [List.getElem?_eq_none (by omega)] at this
      cases this



theorem ACalls.exact {P : Program} {f : FuncId} {args : List AV} {H0 os' : Heap} {v' : AV} (h : ACalls P f args H0 (RetG H0.length v' os')) : ACalls P f args H0 (fun r H => r = v' ∧ H = os') := by
  refine ⟨h.1, fun A φ w vals hs hz hr => (h.2 A φ w vals hs hz hr).mono ?_⟩
  rintro e w' ⟨v, r, H', φ', rfl, ⟨ρ, hw, hl⟩, hs', hrr, hext⟩
  have hsim : Sim P A 1 φ' ⟨[(0, r)], H'⟩ { tmps := #[v], defers := [] } w' := by
    refine ⟨hs', rfl, rfl, fun t => ?_⟩
    cases t with
    | zero => exact hrr
    | succ t => exact .undef _
  obtain ⟨hs2, he⟩ := hw.sim hsim
  exact ⟨v, v', os', _, rfl, ⟨rfl, rfl⟩, hs2.heap, hs2.slots 0, hext.trans he⟩

/-- What is known of a function that changes one object that it is handed. -/
structure Ef where
  A : Type
  args : A → Nat → List AV
  sz : Nat
  rows : A → List (List DV)
  ok : A → Prop
  val : A → AV
  rows' : A → List (List DV)

def Ef.fits (e : Ef) (p : e.A × Nat) (args : List AV) (H : Heap) : Prop := e.args p.1 p.2 = args ∧ H.at p.2 = .dvec e.sz (e.rows p.1)
def Ef.eff (e : Ef) (p : e.A × Nat) : Eff := ⟨e.ok p.1, e.val p.1, [(p.2, .dvec e.sz (e.rows' p.1))], [], none⟩
open Classical in
noncomputable def Ef.at (e : Ef) (args : List AV) (H : Heap) : Option Eff := if h : ∃ p, e.fits p args H then some (e.eff h.choose) else none

theorem Ef.at_fits {e : Ef} (hi : ∀ p q args H, e.fits p args H → e.fits q args H → p = q) {p : e.A × Nat} {args : List AV} {H : Heap} (h : e.fits p args H) : e.at args H = some (e.eff p) := by
  have h' : ∃ p, e.fits p args H := ⟨p, h⟩
  unfold Ef.at
  rw [dif_pos h', hi _ _ _ _ h'.choose_spec h]

structure Ef.Body (e : Ef) (T : Tab) (live : List Nat) (lc : LCode) (rs : List LRes) : Prop where
  ren : ∀ x (ρ : Nat → Nat), e.args x (ρ 0) = (e.args x 0).map (AV.ren ρ)
  val : ∀ x (ρ : Nat → Nat), (e.val x).ren ρ = e.val x
  body : ∀ x, e.ok x → vck T 1 live lc ⟨Z1m 0 (e.args x 0), [.dvec e.sz (e.rows x)]⟩ (retK rs (RetG 1 (e.val x) [.dvec e.sz (e.rows' x)]))

theorem Ef.Body.ok {P : Program} {T : Tab} (hT : TabOK P T) {e : Ef} {f : FuncId} {fn : Func} {c : Code} {lc : LCode} {rs : List LRes} {live : List Nat} (h : e.Body T live lc rs) (hf : P.funcs[f]? = some fn)
    (hname : (fn.name == "runtime.NumGoroutine") = false) (hb : fn.body = some c) (hl : lowCode P fn.ntmps c = some lc) (hr : lowRess P fn.results.toList = some rs) (ha : ∀ x, (e.args x 0).length ≤ fn.ntmps) :
    ∀ args H x, e.at args H = some x → x.ok → ACalls P f args H fun r H' => r = x.val ∧ H' = applyUps H x.ups ++ x.news := by
  intro args H x hx hok
  unfold Ef.at at hx
  split at hx
  case isFalse => cases hx
  rename_i hp
  have hfit := hp.choose_spec
  generalize hp.choose = q at hx hfit
  simp only [Option.some.injEq] at hx
  subst hx
  obtain ⟨x, id⟩ := q
  obtain ⟨h1, h2⟩ := hfit
  simp only at h1 h2
  subst h1
  have hlt : id < H.length := Heap.at_lt (H := H) (i := id) (by rw [h2]; trivial)
  have hcall : ACalls P f (e.args x 0) [.dvec e.sz (e.rows x)] (fun r H1 => r = e.val x ∧ H1 = [.dvec e.sz (e.rows' x)]) :=
    ACalls.exact (ACalls.of_vck hT live hf hname hb hl hr (ha x) (h.body x hok))
  have hfr : Framed H [id] [.dvec e.sz (e.rows' x)] (H.set id (.dvec e.sz (e.rows' x)) ++ []) := by
    refine ⟨by simp, fun j hj hm => ?_, fun i hi => ?_⟩
    · rw [List.append_nil, Heap.at_set hlt, if_neg (fun h => hm (by simp [h]))]
    · have : i = 0 := by simpa using hi
      subst this
      rw [List.append_nil, into_lt (by simp), Heap.at_set hlt]
      simp [Heap.at, HO.ren]
  have := ACalls.frame (ids := [id]) (by simp) (by simp) (by simpa using hlt) (by simp) (fun k hk => by
    have : k = 0 := by simpa using hk
    subst this
    simp only [List.getElem_cons_zero, h2]
    simp [Heap.at, HO.ren]) hfr hcall
  have e1 : (e.args x 0).map (AV.ren (into H [id])) = e.args x id := by
    rw [← h.ren x (into H [id])]
    rw [into_lt (by simp)]; rfl
  rw [e1, h.val] at this
  exact this

theorem Ef.at_take {e : Ef} {args : List AV} {H : Heap} {x : Eff} (h : e.at args H = some x) : x.take = none := by
  unfold Ef.at at h
  split at h
  · simp only [Option.some.injEq] at h; subst h; rfl
  · cases h
theorem Ef.Body.tab {P : Program} {T T0 : Tab} {e : Ef} {live : List Nat} {lc : LCode} {rs : List LRes} (h : e.Body T live lc rs) (hT : TabOK P T) (hT0 : TabOK P T0) {f : FuncId} {fn : Func} {c : Code} (hf : P.funcs[f]? = some fn)
    (hname : (fn.name == "runtime.NumGoroutine") = false) (hb : fn.body = some c) (hl : lowCode P fn.ntmps c = some lc) (hr : lowRess P fn.results.toList = some rs) (ha : ∀ x, (e.args x 0).length ≤ fn.ntmps) : TabOK P (T0.addG f e.at) :=
  hT0.addG (Ef.Body.ok hT h hf hname hb hl hr ha) fun args H x t h1 h2 => by rw [Ef.at_take h1] at h2; cases h2

end Go.Ago

/- Words of 64 bits: rows of them, the operations on them, and sets of bits. Conditions: none. -/
set_option linter.unusedSimpArgs false
set_option linter.unusedVariables false
namespace Go.Ago

abbrev W := BitVec 64
def rowW (x : W) : List DV := [.int .u64 (x.toNat : Int)]
theorem W.inj {x y : W} (h : (x.toNat : Int) = (y.toNat : Int)) : x = y := BitVec.eq_of_toNat_eq (by omega)
theorem rowW_inj (x y : W) (h : rowW x = rowW y) : x = y := by
  simp only [rowW, List.cons.injEq, DV.int.injEq, and_true, true_and] at h
  exact W.inj h
theorem idx_W {l : List W} {full : Bool} {kd : IntKind} {n : Int} {k : Delta → Prop} : stepK (evIdxAddr 1 (.d (.list (l.map rowW) full)) (.d (.int kd n))) k ↔ (0 ≤ n ∧ n < l.length) ∧ k ⟨.dptr (rowW (l.getD n.toNat default)) 0, [], []⟩ := stepK_idx_map (fun _ => rfl)
theorem Z2f {l : List W} {i : Nat} {x : W} : (l.map rowW).set i [.int .u64 (x.toNat : Int)] = (l.set i x).map rowW := by rw [List.map_set]; rfl
theorem Z2w {l : List W} {x : W} : l.map rowW ++ [[.int .u64 (x.toNat : Int)]] = (l ++ [x]).map rowW := by simp [rowW]
theorem Z21 {l : List W} : l.map rowW ++ [[.int .u64 0]] = (l ++ [0#64]).map rowW := by simp [rowW]
theorem Z1c {n : Nat} : List.replicate n [DV.int .u64 0] = (List.replicate n 0#64).map rowW := by simp [rowW]
theorem Z4i {l : List W} : (∀ r ∈ l.map rowW, r.length = 1) ↔ True := ⟨fun _ => trivial, fun _ => rows_len (f := rowW) (fun _ => rfl) l⟩
theorem Z3p {l : List W} : (∀ r ∈ List.map (fun x => List.map AV.d x) (l.map rowW), r.length = 1) ↔ True := ⟨fun _ => trivial, fun _ r hr => by
  obtain ⟨x, hx, rfl⟩ := List.mem_map.1 hr
  simpa using rows_len (f := rowW) (sz := 1) (fun _ => rfl) l x hx⟩
theorem Z1d {l : List W} : (∀ r ∈ l.map rowW, ∀ x ∈ r, DV.scal x = true) ↔ True := ⟨fun _ => trivial, fun _ r hr x hx => by
  obtain ⟨n, _, rfl⟩ := List.mem_map.1 hr; simp [rowW] at hx; subst hx; rfl⟩
theorem Z16 : (default : W) = 0#64 := rfl

/-- Not by 'rfl': the kernel would reckon the number out. -/
theorem Z06 {n : Nat} : ((n : Nat) : Int).toNat = n := by omega
theorem Z13 {len sz : Nat} {cs : List DV} {j : Nat} {kd : IntKind} {n : Int} : evIdxArrAddr len sz (.dptr cs j) (.d (.int kd n)) = .v (0 ≤ n ∧ n < len) (.dptr cs (j + n.toNat * sz)) := rfl
theorem Z14 {len sz id sz0 row j : Nat} {kd : IntKind} {n : Int} : evIdxArrAddr len sz (.ptr id sz0 row j) (.d (.int kd n)) = .v (0 ≤ n ∧ n < len) (.ptr id sz0 row (j + n.toNat * sz)) := rfl

def rowB (b : Bool) : List DV := [.bool b]
theorem Z2x {n : Nat} : List.replicate n [DV.bool false] = (List.replicate n false).map rowB := by simp [rowB]
theorem Z2y {l : List Bool} {i : Nat} {b : Bool} : (l.map rowB).set i [.bool b] = (l.set i b).map rowB := by rw [List.map_set]; rfl
def rowN (x : Nat) : List DV := [.int .i64 (x : Int)]
/-! ### Operations -/
theorem wlt (x : W) : x.toNat < 18446744073709551616 := x.isLt
theorem bits_u64 : IntKind.u64.bits = 64 := rfl
theorem wrap_w {n : Int} : IntKind.u64.wrap n = ((BitVec.ofInt 64 n).toNat : Int) := by
  rw [IntKind.wrap_u64]
  simp [BitVec.toNat_ofInt]
  omega
theorem ofInt_w (x : W) : BitVec.ofInt 64 (x.toNat : Int) = x := by
  apply BitVec.eq_of_toNat_eq
  simp [BitVec.toNat_ofInt]
theorem w_or {x y : W} : bits .or .u64 (x.toNat : Int) (y.toNat : Int) = ((x ||| y).toNat : Int) := by
  rw [bits_or_u64_nat _ _ (wlt x) (wlt y), BitVec.toNat_or]
theorem w_and {x y : W} : bits .and .u64 (x.toNat : Int) (y.toNat : Int) = ((x &&& y).toNat : Int) := by
  rw [bits_and_u64_nat _ _ (wlt x) (wlt y), BitVec.toNat_and]
theorem Z2z {x y : W} : bits .andNot .u64 (x.toNat : Int) (y.toNat : Int) = ((x &&& ~~~y).toNat : Int) := by
  unfold bits
  simp only [bits_u64, ofInt_w]
  rw [wrap_w, ofInt_w]
  rfl
theorem Z4d {x : W} : bits .and .u64 (x.toNat : Int) 1 = ((x &&& 1#64).toNat : Int) := w_and (y := 1#64)
theorem w_shl {x : W} {k : Nat} : IntKind.u64.wrap ((x.toNat : Int) * 2 ^ min k IntKind.u64.bits) = ((x <<< k).toNat : Int) := by
  rw [IntKind.wrap_u64, bits_u64]
  have e : ((x.toNat : Int) * 2 ^ min k 64) = ((x.toNat * 2 ^ min k 64 : Nat) : Int) := by push_cast; rfl
  rw [e, BitVec.toNat_shiftLeft, Nat.shiftLeft_eq]
  by_cases h : k ≤ 64
  · rw [Nat.min_eq_left h]; omega
  · rw [Nat.min_eq_right (by omega)]
    have h2 : x.toNat * 2 ^ k = x.toNat * 2 ^ (k - 64) * 2 ^ 64 := by rw [Nat.mul_assoc, ← Nat.pow_add]; congr 2; omega
    rw [h2]
    have h3 : x.toNat * 2 ^ (k - 64) * 2 ^ 64 % 2 ^ 64 = 0 := Nat.mul_mod_left _ _
    have h4 : x.toNat * 2 ^ 64 % 2 ^ 64 = 0 := Nat.mul_mod_left _ _
    omega
theorem Z43 {k : Nat} : IntKind.u64.wrap (1 * 2 ^ min k IntKind.u64.bits) = ((1#64 <<< k).toNat : Int) := w_shl (x := 1#64)
theorem w_shr {x : W} {k : Nat} : Int.fdiv (x.toNat : Int) (2 ^ min k IntKind.u64.bits) = ((x >>> k).toNat : Int) := by
  rw [bits_u64, BitVec.toNat_ushiftRight, Nat.shiftRight_eq_div_pow]
  have e : ((2 : Int) ^ min k 64) = ((2 ^ min k 64 : Nat) : Int) := by push_cast; rfl
  rw [e, ← Int.ofNat_fdiv]
  congr 1
  by_cases h : k ≤ 64
  · rw [Nat.min_eq_left h]
  · rw [Nat.min_eq_right (by omega)]
    have h1 : x.toNat / 2 ^ 64 = 0 := Nat.div_eq_of_lt x.isLt
    rw [h1]
    exact (Nat.div_eq_of_lt (Nat.lt_of_lt_of_le x.isLt (Nat.pow_le_pow_right (by omega) (by omega)))).symm
theorem Z4e {x : W} : IntKind.u64.wrap ((x.toNat : Int) - 1) = ((x - 1#64).toNat : Int) := by
  rw [IntKind.wrap_u64, BitVec.toNat_sub]
  have h1 : (1#64).toNat = 1 := rfl
  have h2 := wlt x
  rw [h1]
  omega
theorem w_add {x y : W} : IntKind.u64.wrap ((x.toNat : Int) + (y.toNat : Int)) = ((x + y).toNat : Int) := by
  rw [IntKind.wrap_u64, BitVec.toNat_add]
  omega
theorem w_neg {x : W} : IntKind.u64.wrap (0 - (x.toNat : Int)) = ((-x).toNat : Int) := by
  rw [IntKind.wrap_u64, BitVec.toNat_neg]
  have h2 := wlt x
  omega
theorem w_mulC {x : W} : IntKind.u64.wrap ((x.toNat : Int) * 285870213051353865) = ((x * 285870213051353865#64).toNat : Int) := by
  have e : ((x.toNat : Int) * 285870213051353865) = ((x.toNat * 285870213051353865 : Nat) : Int) := (Int.natCast_mul _ _).symm
  have h1 : (285870213051353865#64).toNat = 285870213051353865 := by decide
  rw [IntKind.wrap_u64, BitVec.toNat_mul, e, h1]
  generalize x.toNat * 285870213051353865 = n
  omega
theorem w_eq {x y : W} : ((x.toNat : Int) = (y.toNat : Int)) = (x = y) := propext ⟨W.inj, fun h => by rw [h]⟩
theorem w_eq0 {x : W} : ((x.toNat : Int) = 0) = (x = 0#64) := w_eq (y := 0#64)
theorem w_eq1 {x : W} : ((x.toNat : Int) = 1) = (x = 1#64) := w_eq (y := 1#64)
theorem w_bit {x : W} {k : Nat} : (x >>> k &&& 1#64 = 1#64) = (x.getLsbD k = true) := by
  apply propext
  constructor
  · intro h
    have := congrArg (fun y : W => y.getLsbD 0) h
    simpa using this
  · intro h
    apply BitVec.eq_of_getLsbD_eq
    intro i hi
    cases i with
    | zero => simpa using h
    | succ i => simp [BitVec.getLsbD_one]
theorem wrapU {k : Nat} (h : k < 18446744073709551616) : IntKind.u64.wrap (k : Int) = (k : Int) := by rw [IntKind.wrap_u64]; omega
/-! ### Sets of bits -/
def ofB : (Nat → Bool) → Nat → W
  | _, 0 => 0#64
  | q, n + 1 => ofB q n ||| (if q n then BitVec.twoPow 64 n else 0#64)
theorem get_ofB (q : Nat → Bool) : ∀ (n k : Nat), (ofB q n).getLsbD k = (decide (k < n) && decide (k < 64) && q k) := by
  intro n
  induction n with
  | zero => intro k; simp [ofB]
  | succ n ih =>
    intro k
    simp only [ofB, BitVec.getLsbD_or, ih]
    by_cases h : k = n
    · subst h
      cases hq : q k <;> simp [BitVec.getLsbD_twoPow]
    · have e1 : decide (k < n + 1) = decide (k < n) := by simp; omega
      rw [e1]
      split
      · rw [BitVec.getLsbD_twoPow]
        have : ¬ n = k := fun e => h e.symm
        simp [this]
      · simp
theorem W.ext {x y : W} (h : ∀ k, k < 64 → x.getLsbD k = y.getLsbD k) : x = y := BitVec.eq_of_getLsbD_eq h
theorem getLsb_ge {x : W} {k : Nat} (h : 64 ≤ k) : x.getLsbD k = false := BitVec.getLsbD_of_ge x k h
/-- The place of the least bit. -/
def tz (x : W) : Nat := ((List.range 64).find? fun t => x.getLsbD t).getD 64
theorem tz_spec {x : W} (h : x ≠ 0#64) : tz x < 64 ∧ x.getLsbD (tz x) = true ∧ ∀ j, j < tz x → x.getLsbD j = false := by
  unfold tz
  cases hf : (List.range 64).find? fun t => x.getLsbD t with
  | none =>
    exfalso
    apply h
    apply W.ext
    intro k hk
    have := List.find?_eq_none.1 hf k (by simpa using hk)
    simpa using this
  | some t =>
    obtain ⟨h1, h2⟩ := List.find?_eq_some_iff_append.1 hf
    obtain ⟨as0, bs, h3, h4⟩ := h2
    have hl : as0 = List.range as0.length ∧ t = as0.length := by
      have hlen : as0.length < 64 := by
        have := congrArg List.length h3
        simp at this; omega
      have e := congrArg (List.take as0.length) h3
      rw [List.take_left, List.take_range, Nat.min_eq_left (by omega)] at e
      have e2 := congrArg (fun l => l[as0.length]?) h3
      simp only [List.getElem?_append_right (Nat.le_refl _), Nat.sub_self, List.getElem?_cons_zero] at e2
      rw [List.getElem?_range hlen] at e2
      exact ⟨e.symm, (Option.some.inj e2).symm⟩
    obtain ⟨hl, rfl⟩ := hl
    have hlen : as0.length < 64 := by
      have := congrArg List.length h3
      simp at this; omega
    refine ⟨hlen, h1, fun j hj => ?_⟩
    have : j ∈ as0 := by rw [hl]; simpa using hj
    have := h4 j this
    simpa using this
theorem tz_zero : tz 0#64 = 64 := by decide
theorem tz_low {x : W} (h : x ≠ 0#64) : x &&& -x = BitVec.twoPow 64 (tz x) := by
  obtain ⟨h1, h2, h3⟩ := tz_spec h
  apply W.ext
  intro k hk
  rw [BitVec.getLsbD_and, BitVec.getLsbD_neg, BitVec.getLsbD_twoPow]
  by_cases e : tz x = k
  · rw [← e]
    have hno : ¬ ∃ j, j < tz x ∧ x.getLsbD j = true := fun ⟨j, hj, hj2⟩ => by rw [h3 j hj] at hj2; cases hj2
    simp [h1, h2, hno]
  · rw [decide_eq_false e, Bool.and_false]
    rcases Nat.lt_or_ge k (tz x) with hl | hl
    · rw [h3 k hl]; rfl
    · have hyes : ∃ j, j < k ∧ x.getLsbD j = true := ⟨tz x, by omega, h2⟩
      simp [hyes, hk]
/-- The bits without the least one. -/
theorem tz_rest {x : W} (h : x ≠ 0#64) (k : Nat) : (x &&& (x - 1#64)).getLsbD k = (x.getLsbD k && !decide (k = tz x)) := by
  obtain ⟨h1, h2, h3⟩ := tz_spec h
  by_cases hk : k < 64
  · rw [← BitVec.not_neg, BitVec.getLsbD_and, BitVec.getLsbD_not, BitVec.getLsbD_neg]
    by_cases e : k = tz x
    · subst e
      have hno : ¬ ∃ j, j < tz x ∧ x.getLsbD j = true := fun ⟨j, hj, hj2⟩ => by rw [h3 j hj] at hj2; cases hj2
      simp [hk, h2, hno]
    · rcases Nat.lt_or_ge k (tz x) with hl | hl
      · rw [h3 k hl]; rfl
      · have hyes : ∃ j, j < k ∧ x.getLsbD j = true := ⟨tz x, by omega, h2⟩
        simp [hyes, hk, e]
  · rw [getLsb_ge (by omega), getLsb_ge (by omega)]; rfl
theorem tz_less {x : W} (h : x ≠ 0#64) : (x &&& (x - 1#64)).toNat < x.toNat := by
  have h0 : 0 < x.toNat := by
    rcases Nat.eq_zero_or_pos x.toNat with h' | h'
    · exact absurd (BitVec.eq_of_toNat_eq h') h
    · exact h'
  have e : (x - 1#64).toNat = x.toNat - 1 := by
    rw [BitVec.toNat_sub]
    have := x.isLt
    simp; omega
  have := Nat.and_le_right (n := x.toNat) (m := (x - 1#64).toNat)
  rw [BitVec.toNat_and]; omega

end Go.Ago

/- Contracts of package rel: its small functions, and two relations laid together. Conditions: none. -/
set_option maxRecDepth 100000
set_option linter.unusedSimpArgs false
set_option linter.unusedVariables false
namespace Go.Ago

/-! ### Relations -/
def szR (R : List W) : Nat := min R.length 64
def hasN (R : List W) (i k : Nat) : Bool := decide (i < szR R) && decide (k < szR R) && (R.getD i 0#64).getLsbD k
def hasI (R : List W) (i k : Int) : Bool := decide (0 ≤ i) && decide (0 ≤ k) && hasN R i.toNat k.toNat
def rowG (R : List W) (i : Nat) : W := ofB (hasN R i) 64
def mkR (n : Nat) (p : Nat → Nat → Bool) : List W := (List.range n).map fun i => ofB (p i) n
theorem szR_le (R : List W) : szR R ≤ 64 := Nat.min_le_right _ _
theorem szR_len (R : List W) : szR R ≤ R.length := Nat.min_le_left _ _
theorem hasN_lt {R : List W} {i k : Nat} (h : hasN R i k = true) : i < szR R ∧ k < szR R := by
  simp only [hasN, Bool.and_eq_true, decide_eq_true_eq] at h; exact h.1
theorem get_rowG {R : List W} {i k : Nat} : (rowG R i).getLsbD k = hasN R i k := by
  unfold rowG
  rw [get_ofB]
  by_cases h : hasN R i k = true
  · have := (hasN_lt h).2
    have := szR_le R
    rw [h]; simp; omega
  · simp [h]
theorem Z4o {n : Nat} {p : Nat → Nat → Bool} : (mkR n p).length = n := by simp [mkR]
theorem mkR_get {n : Nat} {p : Nat → Nat → Bool} {i k : Nat} (hi : i < n) : ((mkR n p).getD i 0#64).getLsbD k = (decide (k < n) && decide (k < 64) && p i k) := by
  rw [List.getD_eq_getElem?_getD, mkR, List.getElem?_map, List.getElem?_range hi]
  exact get_ofB _ _ _
theorem mkR_ext {n : Nat} {p : Nat → Nat → Bool} {l : List W} (hl : l.length = n) (h : ∀ i k, i < n → k < 64 → (l.getD i 0#64).getLsbD k = (decide (k < n) && p i k)) : l = mkR n p := by
  apply List.ext_getElem (by rw [hl, Z4o])
  intro i h1 h2
  apply W.ext
  intro k hk
  have e1 := h i k (by omega) hk
  have e2 := mkR_get (n := n) (p := p) (i := i) (k := k) (by omega)
  rw [List.getD_eq_getElem?_getD, List.getElem?_eq_getElem h1, Option.getD_some] at e1
  rw [List.getD_eq_getElem?_getD, List.getElem?_eq_getElem h2, Option.getD_some] at e2
  rw [e1, e2]
  simp [hk]
theorem szR_mk {n : Nat} {p : Nat → Nat → Bool} : szR (mkR n p) = min n 64 := by simp [szR, Z4o]
theorem hasN_mk {n : Nat} {p : Nat → Nat → Bool} {i k : Nat} (hn : n ≤ 64) : hasN (mkR n p) i k = (decide (i < n) && decide (k < n) && p i k) := by
  unfold hasN
  rw [szR_mk, Nat.min_eq_left hn]
  by_cases hi : i < n
  · rw [mkR_get hi]
    by_cases hk : k < n
    · simp [hi, hk]; omega
    · simp [hk]
  · simp [hi]
theorem Z3s {n : Nat} {p q : Nat → Nat → Bool} (h : ∀ i k, i < n → k < n → p i k = q i k) : mkR n p = mkR n q := by
  apply mkR_ext Z4o
  intro i k hi hk
  rw [mkR_get hi]
  by_cases hkn : k < n
  · rw [h i k hi hkn]; simp [hk]
  · simp [hkn]

/-! ### size, all, row, Has -/
def sp_size : Sp := ⟨List W × Bool, fun x => [.d (.list (x.1.map rowW) x.2)], fun x => .data (x.1.length ≤ maxLen) (.d (.int .i64 (szR x.1))) true⟩
theorem at_size (l : List W) (f : Bool) : sp_size.at [.d (.list (l.map rowW) f)] = .data (l.length ≤ maxLen) (.d (.int .i64 (szR l))) true :=
  Sp.at_enc (s := sp_size) (fun x y h => by
    obtain ⟨a, b⟩ := x; obtain ⟨a', b'⟩ := y
    simp only [sp_size, List.cons.injEq, AV.d.injEq, DV.list.injEq, and_true] at h
    rw [Z3t rowW_inj h.1, h.2]) (l, f)
theorem body_rel_size {T : Tab} : sp_size.Body T V_rel_size L_rel_size R_rel_size := by
  rintro ⟨l, f⟩ h
  refine .inl ⟨rfl, ?_⟩
  unfold V_rel_size L_rel_size R_rel_size
  simp only [↓Z26, ↓Z05, ↓Z1l, ↓Z0k, ↓Z1k, ↓Z1j, ↓Z3b, Z49, Z07, Z32, Z35, evN, Z1g, Z34, Z1f, Z1e, evT, Opd.ev, Z02, Z00, Z33, Z1m, Z0l, Z3o, LOp.isNew, State.prune, Z4t, List.length_map, resQ, resV, resT, Z3x, RetS, AV.d.injEq, DV.int.injEq, ↓reduceIte, Nat.reduceBEq, List.length_nil, List.replicate_zero, List.append_nil, List.map_cons, List.map_nil, true_and, Nat.add_zero, Bool.false_eq_true, sp_size]
  unfold szR
  split <;> omega

def allB (n : Nat) : W := ofB (fun _ => true) n
theorem get_allB {n k : Nat} : (allB n).getLsbD k = (decide (k < n) && decide (k < 64)) := by unfold allB; rw [get_ofB]; simp
theorem allB_sub {n : Nat} (h : n < 64) : (1#64 <<< n) - 1#64 = allB n := by
  apply W.ext
  intro k hk
  rw [get_allB, BitVec.getLsbD]
  have e : ((1#64 <<< n) - 1#64).toNat = 2 ^ n - 1 := by
    have h1 : (1#64 <<< n).toNat = 2 ^ n := by
      rw [BitVec.toNat_shiftLeft, Nat.shiftLeft_eq]
      have : 2 ^ n < 2 ^ 64 := Nat.pow_lt_pow_right (by omega) h
      have e1 : (1#64).toNat = 1 := rfl
      rw [e1, Nat.one_mul]; exact Nat.mod_eq_of_lt this
    have h2 : (1#64).toNat = 1 := rfl
    rw [BitVec.toNat_sub, h1, h2]
    have : 2 ^ n < 2 ^ 64 := Nat.pow_lt_pow_right (by omega) h
    have : 0 < 2 ^ n := Nat.pow_pos (by omega)
    omega
  rw [e, Nat.testBit_two_pow_sub_one]
  simp [hk]
def sp_all : Sp := ⟨Int, fun n => [.d (.int .i64 n)], fun n => .data (0 ≤ n ∧ n ≤ 64) (.d (.int .u64 ((allB n.toNat).toNat : Int))) true⟩
theorem at_all (n : Int) : sp_all.at [.d (.int .i64 n)] = .data (0 ≤ n ∧ n ≤ 64) (.d (.int .u64 ((allB n.toNat).toNat : Int))) true :=
  Sp.at_enc (s := sp_all) (fun (x y : Int) h => by simpa [sp_all] using h) n
theorem body_rel_all {T : Tab} : sp_all.Body T V_rel_all L_rel_all R_rel_all := by
  rintro (n : Int) ⟨h1, h2⟩
  have h1 : 0 ≤ n := h1
  have h2 : n ≤ 64 := h2
  obtain ⟨n, rfl⟩ := Int.eq_ofNat_of_zero_le h1
  refine .inl ⟨rfl, ?_⟩
  unfold V_rel_all L_rel_all R_rel_all
  simp only [↓Z19, ↓Z26, ↓Z05, ↓Z1l, ↓Z17, ↓Z0k, ↓Z1k, ↓Z30, ↓Z1j, ↓Z3b, ↓Z0g, Z49, Z07, Z32, Z35, evN, Z1g, Z34, Z1f, Z1e, Z2a, evT, Opd.ev, Z02, Z00, Z33, Z28, Z2b, Z1m, Z0l, Z3o, LOp.isNew, State.prune, Z43, Z4e, w_eq, Z06, Z4l, binT, binQ, resQ, resV, resT, Z23, RetS, AV.d.injEq, DV.int.injEq, ↓reduceIte, Nat.reduceBEq, List.length_nil, List.replicate_zero, List.append_nil, List.map_cons, List.map_nil, true_and, Nat.add_zero, Bool.false_eq_true, sp_all, wrapU (k := n) (by omega)]
  refine ⟨fun h => ?_, fun h => ⟨by omega, ?_⟩⟩
  · have : n = 64 := by omega
    subst this
    decide
  · rw [allB_sub (by omega)]

def sp_row : Sp := ⟨List W × Bool × Int, fun x => [.d (.list (x.1.map rowW) x.2.1), .d (.int .i64 x.2.2)], fun x => .data (0 ≤ x.2.2 ∧ x.1.length ≤ maxLen) (.d (.int .u64 ((rowG x.1 x.2.2.toNat).toNat : Int))) true⟩
theorem at_row (l : List W) (f : Bool) (i : Int) : sp_row.at [.d (.list (l.map rowW) f), .d (.int .i64 i)] = .data (0 ≤ i ∧ l.length ≤ maxLen) (.d (.int .u64 ((rowG l i.toNat).toNat : Int))) true :=
  Sp.at_enc (s := sp_row) (fun x y h => by
    obtain ⟨a, b, c⟩ := x; obtain ⟨a', b', c'⟩ := y
    simp only [sp_row, List.cons.injEq, AV.d.injEq, DV.list.injEq, DV.int.injEq, and_true, true_and] at h
    rw [Z3t rowW_inj h.1.1, h.1.2, h.2]) (l, f, i)
theorem row_and {R : List W} {i : Nat} (h : i < szR R) : R.getD i 0#64 &&& allB (szR R) = rowG R i := by
  apply W.ext
  intro k hk
  rw [BitVec.getLsbD_and, get_allB, get_rowG]
  unfold hasN
  simp only [h, decide_true, Bool.true_and, hk, Bool.and_true]
  rw [Bool.and_comm]
theorem row_out {R : List W} {i : Nat} (h : ¬ i < szR R) : rowG R i = 0#64 := by
  apply W.ext
  intro k hk
  rw [get_rowG]
  unfold hasN
  simp [h]
theorem body_rel_row {T : Tab} {n1 n2 : Nat} (k1 : Knows T n1 sp_size) (k2 : Knows T n2 sp_all) : sp_row.Body T V_rel_row (L_rel_row n1 n2) R_rel_row := by
  have F1 := k1.F; have G1 := k1.G; have F2 := k2.F; have G2 := k2.G
  rintro ⟨l, f, i⟩ ⟨h1, h2⟩
  have h1 : 0 ≤ i := h1
  have h2 : l.length ≤ maxLen := h2
  have := szR_le l
  have := szR_len l
  obtain ⟨i, rfl⟩ := Int.eq_ofNat_of_zero_le h1
  refine .inl ⟨rfl, ?_⟩
  unfold V_rel_row L_rel_row R_rel_row
  simp only [↓Z19, ↓Z26, ↓Z05, ↓Z1l, ↓Z17, ↓Z0k, ↓Z1k, ↓Z30, ↓Z1j, ↓Z3b, ↓Z0g, Z49, Z07, Z1b, Z32, Z35, evN, Z2g, Z1g, Z34, Z41, Z1f, Z15, Z1e, Z2a, evT, Opd.ev, Z02, Z00, Z33, Z28, Z2b, Z1m, Z0l, Z3o, LOp.isNew, State.prune, Z0a, idx_W, rowW, Z16, w_and, w_eq, Z1y, Z06, Z4m, Z4l, binT, binQ, chk, Z3v, List.contains_nil, Bool.and_self, resQ, resV, resT, Z2e, Z3g, fnOf, Z3c, Z4j, Z23, RetS, AV.d.injEq, DV.int.injEq, ↓reduceIte, Nat.reduceBEq, List.length_cons, List.length_nil, List.replicate_zero, List.nil_append, List.cons_append, List.append_nil, List.map_cons, List.map_nil, List.all_cons, List.all_nil, List.getD_cons_zero, List.getD_cons_succ, List.flatten_cons, List.flatten_nil, Bool.not_false, true_and, Nat.reduceLT, List.reverse_cons, List.reverse_nil, Nat.zero_add, Nat.add_zero, Bool.false_eq_true, sp_row, F1, G1, F2, G2, at_size, at_all]
  refine ⟨h2, fun h => ⟨⟨by omega, by omega⟩, ⟨by omega, by omega⟩, ?_⟩, fun h => ?_⟩
  · rw [row_and (by omega)]
  · rw [row_out (by omega)]; rfl

def sp_Has : Sp := ⟨List W × Bool × Int × Int, fun x => [.d (.list (x.1.map rowW) x.2.1), .d (.int .i64 x.2.2.1), .d (.int .i64 x.2.2.2)], fun x => .data (x.1.length ≤ maxLen) (.d (.bool (hasI x.1 x.2.2.1 x.2.2.2))) true⟩
theorem at_Has (l : List W) (f : Bool) (i k : Int) : sp_Has.at [.d (.list (l.map rowW) f), .d (.int .i64 i), .d (.int .i64 k)] = .data (l.length ≤ maxLen) (.d (.bool (hasI l i k))) true :=
  Sp.at_enc (s := sp_Has) (fun x y h => by
    obtain ⟨a, b, c, d⟩ := x; obtain ⟨a', b', c', d'⟩ := y
    simp only [sp_Has, List.cons.injEq, AV.d.injEq, DV.list.injEq, DV.int.injEq, and_true, true_and] at h
    rw [Z3t rowW_inj h.1.1, h.1.2, h.2.1, h.2.2]) (l, f, i, k)
theorem hasI_no {R : List W} {i k : Int} (h : ¬ (0 ≤ i ∧ i < szR R ∧ 0 ≤ k ∧ k < szR R)) : hasI R i k = false := by
  unfold hasI hasN
  by_cases h1 : 0 ≤ i <;> by_cases h2 : 0 ≤ k <;> simp [h1, h2]
  intro h3 h4
  exact absurd ⟨h1, by omega, h2, by omega⟩ h
theorem hasI_nat {R : List W} {i k : Nat} : hasI R i k = hasN R i k := by
  unfold hasI
  simp
theorem body_rel_Has {T : Tab} {n1 : Nat} (k1 : Knows T n1 sp_size) : sp_Has.Body T V_rel_Has (L_rel_Has n1) R_rel_Has := by
  have F1 := k1.F; have G1 := k1.G
  rintro ⟨l, f, i, k⟩ h2
  have h2 : l.length ≤ maxLen := h2
  have := szR_le l
  have := szR_len l
  refine .inl ⟨rfl, ?_⟩
  unfold V_rel_Has L_rel_Has R_rel_Has
  simp only [↓Z26, ↓Z05, ↓Z1l, ↓Z0k, ↓Z1k, ↓Z1j, ↓Z3b, ↓Z0i, ↓Z09, ↓Z0g, Z49, Z07, Z32, Z1a, Z35, evN, Z2g, Z1g, Z34, Z1f, Z15, Z1e, Z2h, evT, Opd.ev, Z02, Z00, Z33, Z27, Z28, Z1m, Z0l, Z3o, LOp.isNew, State.prune, Z0a, idx_W, rowW, Z16, Z4d, w_shr, w_bit, w_eq1, Bool.decide_eq_true, Z1y, Z4m, Z4l, binT, binQ, resQ, resV, resT, Z4u, Z2e, Z3g, fnOf, Z3c, Z4j, Z23, RetS, AV.d.injEq, DV.bool.injEq, ↓reduceIte, Nat.reduceAdd, Nat.reduceBEq, List.length_cons, List.length_nil, List.replicate_zero, List.append_nil, List.map_cons, List.map_nil, List.getD_cons_zero, List.flatten_cons, List.flatten_nil, true_and, Nat.reduceLT, Nat.zero_add, Nat.add_zero, Bool.false_eq_true, sp_Has, F1, G1, at_size]
  refine ⟨h2, fun c1 => ⟨fun c2 => ⟨fun c3 => ⟨fun c4 => ?_, fun c4 => ?_⟩, fun c3 => ?_⟩, fun c2 => ?_⟩, fun c1 => ?_⟩
  · obtain ⟨i, rfl⟩ := Int.eq_ofNat_of_zero_le c1
    obtain ⟨k, rfl⟩ := Int.eq_ofNat_of_zero_le c3
    rw [wrapU (k := k) (by omega)]
    simp only [Z06, w_shr, w_eq1, w_bit]
    refine ⟨⟨by omega, by omega⟩, by omega, ?_⟩
    rw [hasI_nat]
    unfold hasN
    rw [decide_eq_true (by omega : i < szR l), decide_eq_true (by omega : k < szR l)]
    simp
  · rw [hasI_no (by omega)]
  · rw [hasI_no (by omega)]
  · rw [hasI_no (by omega)]
  · rw [hasI_no (by omega)]

/-! ### TrailingZeros64 -/
def sp_tz : Sp := ⟨W, fun x => [.d (.int .u64 (x.toNat : Int))], fun x => .data True (.d (.int .i64 (tz x))) true⟩
theorem at_tz (x : W) : sp_tz.at [.d (.int .u64 (x.toNat : Int))] = .data True (.d (.int .i64 (tz x))) true :=
  Sp.at_enc (s := sp_tz) (fun (x y : W) h => by
    simp only [sp_tz, List.cons.injEq, AV.d.injEq, DV.int.injEq, and_true, true_and] at h
    exact W.inj h) x
theorem tab_hit : ∀ t, t < 64 → ((BitVec.twoPow 64 t * 285870213051353865#64) >>> 58).toNat < 64 ∧ tabCells.getD ((BitVec.twoPow 64 t * 285870213051353865#64) >>> 58).toNat .nilp = .int .u8 t := by
  have h1 : ∀ t, t < 64 → ((BitVec.twoPow 64 t * 285870213051353865#64) >>> 58).toNat < 64 ∧ tabNum ((BitVec.twoPow 64 t * 285870213051353865#64) >>> 58).toNat = t := by decide +kernel
  intro t ht
  obtain ⟨h2, h3⟩ := h1 t ht
  refine ⟨h2, ?_⟩
  unfold tabCells
  rw [List.getD_eq_getElem?_getD, List.getElem?_map, List.getElem?_range h2, Option.map_some, Option.getD_some, h3]
/-- As a function that nobody reckons out. -/
theorem mulC_ex : ∃ f : W → W, (∀ x : W, IntKind.u64.wrap ((x.toNat : Int) * 285870213051353865) = ((f x).toNat : Int)) ∧
    ∀ t, t < 64 → (f (BitVec.twoPow 64 t) >>> 58).toNat < 64 ∧ tabCells.getD (f (BitVec.twoPow 64 t) >>> 58).toNat .nilp = .int .u8 t :=
  ⟨fun x => x * 285870213051353865#64, fun x => w_mulC, tab_hit⟩
theorem tabCells_len : tabCells.length = 64 := by simp [tabCells]
theorem body_math_bits_TrailingZeros64 {T : Tab} : sp_tz.Body T V_math_bits_TrailingZeros64 L_math_bits_TrailingZeros64 R_math_bits_TrailingZeros64 := by
  rintro (x : W) -
  refine .inl ⟨rfl, ?_⟩
  obtain ⟨f, hf, hf2⟩ := mulC_ex
  have hl := tabCells_len
  unfold V_math_bits_TrailingZeros64 L_math_bits_TrailingZeros64 R_math_bits_TrailingZeros64
  generalize tabCells = c at *
  simp only [↓Z19, ↓Z26, ↓Z05, ↓Z1l, ↓Z17, ↓Z0k, ↓Z1k, ↓Z30, ↓Z1j, ↓Z3b, ↓Z0g, Z49, Z07, Z32, Z35, evN, Z1g, Z34, Z1f, Z1e, Z2a, evT, Opd.ev, Z02, Z00, Z33, Z28, Z2b, Z1m, Z0l, Z3o, LOp.isNew, State.prune, Z0a, w_and, w_shr, w_neg, w_eq0, Z1y, Z06, Int.reduceToNat, Z4m, Z4l, evUn, Z13, binT, binQ, resQ, resV, resT, Z23, RetS, AV.d.injEq, DV.int.injEq, ↓reduceIte, Nat.reduceBEq, List.length_nil, List.replicate_zero, List.append_nil, List.map_cons, List.map_nil, true_and, Nat.zero_add, Nat.add_zero, Bool.false_eq_true, Nat.mul_one, sp_tz, hf]
  refine ⟨fun h => by rw [h, tz_zero]; rfl, fun h => ?_⟩
  obtain ⟨h1, -, -⟩ := tz_spec h
  obtain ⟨h3, h4⟩ := hf2 (tz x) h1
  rw [tz_low h, h4]
  simp only [↓Z26, ↓Z0k, ↓Z1k, ↓Z1j, ↓Z3b, Z49, Z07, Z32, Z35, evN, Z1g, Z34, Z1f, Z1e, evT, Opd.ev, Z02, Z00, Z33, State.prune, resQ, resV, resT, RetS, AV.d.injEq, DV.int.injEq, Nat.reduceBEq, List.append_nil, List.map_cons, List.map_nil, true_and]
  exact ⟨by omega, ⟨by omega, by omega⟩, by omega, wrap_id (by omega) (by omega)⟩

/-! ### Laid together -/
def sp_h2 (h : W → W → W) : Sp := ⟨W × W, fun x => [.d (.int .u64 (x.1.toNat : Int)), .d (.int .u64 (x.2.toNat : Int))], fun x => .data True (.d (.int .u64 ((h x.1 x.2).toNat : Int))) true⟩
theorem at_h2 (h : W → W → W) (x y : W) : (sp_h2 h).at [.d (.int .u64 (x.toNat : Int)), .d (.int .u64 (y.toNat : Int))] = .data True (.d (.int .u64 ((h x y).toNat : Int))) true :=
  Sp.at_enc (s := sp_h2 h) (fun x y h => by
    obtain ⟨a, b⟩ := x; obtain ⟨c, d⟩ := y
    simp only [sp_h2, List.cons.injEq, AV.d.injEq, DV.int.injEq, and_true, true_and] at h
    rw [W.inj h.1, W.inj h.2]) (x, y)
def orW (x y : W) : W := x ||| y
def andW (x y : W) : W := x &&& y
def minusW (x y : W) : W := x &&& ~~~y
def fstW (x _ : W) : W := x
theorem body_rel_Union_1 {T : Tab} : (sp_h2 orW).Body T V_rel_Union_1 L_rel_Union_1 R_rel_Union_1 := by
  rintro ⟨x, y⟩ -
  refine .inl ⟨rfl, ?_⟩
  unfold V_rel_Union_1 L_rel_Union_1 R_rel_Union_1
  simp only [↓Z26, ↓Z05, ↓Z1l, ↓Z0k, ↓Z1k, ↓Z1j, ↓Z3b, Z49, Z07, Z32, Z35, evN, Z1g, Z34, Z1f, Z1e, evT, Opd.ev, Z02, Z00, Z33, Z1m, Z0l, Z3o, LOp.isNew, State.prune, w_or, Z4l, binT, binQ, resQ, resV, resT, RetS, ↓reduceIte, Nat.reduceBEq, List.length_nil, List.replicate_zero, List.append_nil, List.map_cons, List.map_nil, and_self, Nat.zero_add, Nat.add_zero, Bool.false_eq_true, sp_h2, orW]
theorem body_rel_Inter_1 {T : Tab} : (sp_h2 andW).Body T V_rel_Inter_1 L_rel_Inter_1 R_rel_Inter_1 := by
  rintro ⟨x, y⟩ -
  refine .inl ⟨rfl, ?_⟩
  unfold V_rel_Inter_1 L_rel_Inter_1 R_rel_Inter_1
  simp only [↓Z26, ↓Z05, ↓Z1l, ↓Z0k, ↓Z1k, ↓Z1j, ↓Z3b, Z49, Z07, Z32, Z35, evN, Z1g, Z34, Z1f, Z1e, evT, Opd.ev, Z02, Z00, Z33, Z1m, Z0l, Z3o, LOp.isNew, State.prune, w_and, Z4l, binT, binQ, resQ, resV, resT, RetS, ↓reduceIte, Nat.reduceBEq, List.length_nil, List.replicate_zero, List.append_nil, List.map_cons, List.map_nil, and_self, Nat.zero_add, Nat.add_zero, Bool.false_eq_true, sp_h2, andW]
theorem body_rel_Plus_1 {T : Tab} : (sp_h2 fstW).Body T V_rel_Plus_1 L_rel_Plus_1 R_rel_Plus_1 := by
  rintro ⟨x, y⟩ -
  refine .inl ⟨rfl, ?_⟩
  unfold V_rel_Plus_1 L_rel_Plus_1 R_rel_Plus_1
  simp only [↓Z26, ↓Z05, ↓Z1l, ↓Z0k, ↓Z1k, ↓Z1j, ↓Z3b, Z49, Z07, Z32, Z35, evN, Z1g, Z34, Z1f, Z1e, evT, Opd.ev, Z02, Z00, Z33, Z1m, Z0l, Z3o, LOp.isNew, State.prune, resQ, resV, resT, RetS, ↓reduceIte, Nat.reduceBEq, List.length_nil, List.replicate_zero, List.append_nil, List.map_cons, List.map_nil, and_self, Nat.zero_add, Nat.add_zero, Bool.false_eq_true, sp_h2, fstW]

def mxR (A B : List W) : Nat := max (szR A) (szR B)
theorem mxR_le (A B : List W) : mxR A B ≤ 64 := by have := szR_le A; have := szR_le B; unfold mxR; omega
def layG (h : W → W → W) (A B : List W) : List W := (List.range (mxR A B)).map fun i => h (rowG A i) (rowG B i)
theorem layG_len {h : W → W → W} {A B : List W} : (layG h A B).length = mxR A B := by simp [layG]
def layOut (h : W → W → W) (A B : List W) : SpecR := .rows (A.length ≤ maxLen ∧ B.length ≤ maxLen) 1 ((layG h A B).map rowW)
/-- Told by the number of the function that is handed over. -/
def sp_lay (hs : Nat → Option (W → W → W)) : Sp := ⟨List W × Bool × List W × Bool × Nat, fun x => [.d (.list (x.1.map rowW) x.2.1), .d (.list (x.2.2.1.map rowW) x.2.2.2.1), .d (.fn x.2.2.2.2)],
  fun x => match hs x.2.2.2.2 with | some h => layOut h x.1 x.2.2.1 | none => .none⟩
theorem at_lay {hs : Nat → Option (W → W → W)} {g : Nat} {h : W → W → W} (hg : hs g = some h) (A B : List W) (e f : Bool) : (sp_lay hs).at [.d (.list (A.map rowW) e), .d (.list (B.map rowW) f), .d (.fn g)] = layOut h A B := by
  rw [show [AV.d (.list (A.map rowW) e), AV.d (.list (B.map rowW) f), AV.d (.fn g)] = (sp_lay hs).enc (A, e, B, f, g) from rfl]
  rw [Sp.at_enc (s := sp_lay hs) (fun x y h => by
    obtain ⟨a, b, c, d, e⟩ := x; obtain ⟨a', b', c', d', e'⟩ := y
    simp only [sp_lay, List.cons.injEq, AV.d.injEq, DV.list.injEq, DV.fn.injEq, and_true, true_and] at h
    rw [Z3t rowW_inj h.1.1, h.1.2, Z3t rowW_inj h.2.1.1, h.2.1.2, h.2.2]) (A, e, B, f, g)]
  simp only [sp_lay, hg]

theorem set_map_range {n i : Nat} {f : Nat → W} (h : i < n) : ((List.range i).map f ++ List.replicate (n - i) 0#64).set i (f i) = (List.range (i + 1)).map f ++ List.replicate (n - (i + 1)) 0#64 := by
  have e : List.replicate (n - i) 0#64 = 0#64 :: List.replicate (n - (i + 1)) 0#64 := by rw [← List.replicate_succ]; congr 1; omega
  rw [e, List.range_succ, List.map_append, List.append_assoc]
  have hl : ((List.range i).map f).length = i := by simp
  have := List.set_append_right (s := (List.range i).map f) (t := 0#64 :: List.replicate (n - (i + 1)) 0#64) i (f i) (by omega)
  rw [this, hl, Nat.sub_self]; rfl

theorem lay_body {T : Tab} {n1 n2 g : Nat} {h : W → W → W} (k1 : Knows T n1 sp_size) (k2 : Knows T n2 sp_row) (k3 : Knows T g (sp_h2 h)) (A B : List W) (e f : Bool) :
    (layOut h A B).asks fun Post => vck T 0 V_rel_lay (L_rel_lay n1 n2) ⟨Z1m 0 [.d (.list (A.map rowW) e), .d (.list (B.map rowW) f), .d (.fn g)], []⟩ (retK R_rel_lay Post) := by
  have F1 := k1.F; have G1 := k1.G; have F2 := k2.F; have G2 := k2.G; have F3 := k3.F; have G3 := k3.G
  rintro ⟨h1, h2⟩
  refine ⟨rows_len (f := rowW) (fun _ => rfl) _, ?_⟩
  unfold V_rel_lay L_rel_lay R_rel_lay
  simp only [↓Z05, ↓Z1l, ↓Z0h, ↓Z20, ↓Z0k, ↓Z1k, ↓Z1j, Z49, Z07, Z32, Z35, evN, Z2g, Z1g, Z34, Z1f, Z15, Z1e, evT, Opd.ev, Z02, Z00, Z33, Z3q, Z1m, Z0l, Z3o, LOp.isNew, State.prune, Z1c, Z4t, Z0m, Z4r, evMk, Z2e, Z3g, fnOf, Z3c, Z4j, Z3x, Z23, ↓reduceIte, Nat.reduceAdd, Nat.reduceBEq, List.length_cons, List.length_nil, List.replicate_succ, List.replicate_zero, List.nil_append, List.append_nil, List.map_cons, List.map_nil, List.set_cons_zero, List.flatten_cons, List.flatten_nil, true_and, Nat.zero_add, Nat.add_zero, Bool.false_eq_true, F1, G1, at_size]
  have hm : (if ((szR B : Nat) : Int) > ((szR A : Nat) : Int) then ((szR B : Nat) : Int) else ((szR A : Nat) : Int)) = ((mxR A B : Nat) : Int) := by unfold mxR; split <;> omega
  have hle := mxR_le A B
  rw [hm]
  simp only [Z06]
  refine ⟨h1, h2, ⟨by omega, by omega, roomy_of (by omega) (by omega)⟩, ?_⟩
  refine Loop.fam [0, 1, 2, 7, 16, 17] (fun i : Nat => ⟨[(0, .d (.list (A.map rowW) e)), (1, .d (.list (B.map rowW) f)), (2, .d (.fn g)), (7, .ref 0 1 0 (mxR A B) true), (16, .d (.int .i64 (mxR A B : Nat))), (17, .d (.int .i64 i))],
      [.dvec 1 (((List.range i).map (fun i => h (rowG A i) (rowG B i)) ++ List.replicate (mxR A B - i) 0#64).map rowW)]⟩) (fun i => i ≤ mxR A B) (fun i => mxR A B - i) 0 [0] (by simp) (by simp) (by simp only [State.can, AV.can, HO.can, idx, Z02, Z00, Heap.at, Nat.reduceBEq, ↓reduceIte, Option.getD_some, Option.map_some, List.map_cons, List.map_nil, List.getD_cons_zero]; simp) (by omega) ?_
  intro i hi
  simp only [↓Z19, ↓Z26, ↓Z1z, ↓Z05, ↓Z1l, ↓Z17, ↓Z0h, ↓Z0k, ↓Z1k, ↓Z31, ↓Z24, ↓Z1x, ↓Z1j, ↓Z3b, ↓Z3y, ↓Z3w, ↓Z0g, Z49, Z07, Z32, Z35, evN, Z2g, Z1g, Z34, Z1f, Z15, Z1e, Z2a, evT, Opd.ev, Z02, Z00, Z33, Z3z, Z3q, Z28, Z2b, Z0l, Z3o, LOp.isNew, State.prune, Heap.at, rowW, Z2f, Z16, Z04, Z0b, Z01, List.length_replicate, Z06, List.length_map, List.length_append, Z4l, binT, binQ, resQ, resV, resT, Z2e, Z3g, fnOf, Z3c, Z4j, putRow, Z23, Nat.le_refl, ↓reduceIte, Nat.reduceBEq, List.length_cons, List.length_nil, List.replicate_zero, List.nil_append, List.append_nil, List.map_cons, List.map_nil, List.set_cons_zero, List.getD_cons_zero, List.drop_zero, List.drop_succ_cons, List.take_zero, List.flatten_cons, List.flatten_nil, true_and, and_true, and_self, Nat.zero_add, Nat.add_zero, Bool.false_eq_true, F2, G2, F3, G3, at_row, at_h2]
  refine ⟨fun c => ?_, fun c => ?_⟩
  · have c' : i < mxR A B := by omega
    rw [Z4h c' (by unfold maxLen; omega), set_map_range (f := fun i => h (rowG A i) (rowG B i)) c']
    refine ⟨⟨by omega, h1⟩, ⟨by omega, h2⟩, ⟨by omega, by omega⟩, by simp; omega, Z36.mk [0] (i + 1) (by simp) (by simp) (by simp only [State.can, AV.can, HO.can, idx, Z02, Z00, Heap.at, Nat.reduceBEq, ↓reduceIte, Option.getD_some, Option.map_some, List.map_cons, List.map_nil, List.getD_cons_zero]) (by show i + 1 ≤ mxR A B; omega) (by show mxR A B - (i + 1) < mxR A B - i; omega)⟩
  · have : i = mxR A B := by omega
    subst this
    rw [Nat.sub_self, List.replicate_zero, List.append_nil]
    exact .inl ⟨0, true, by simp [layG_len], rfl⟩

def hs4 (n1 n2 n3 n4 : Nat) : Nat → Option (W → W → W) := fun g => if g = n1 then some orW else if g = n2 then some andW else if g = n3 then some minusW else if g = n4 then some fstW else none
end Go.Ago

/- Contracts of package rel: Union, Inter, Minus, Then, Back. Conditions: none. -/
set_option maxRecDepth 100000
set_option linter.unusedSimpArgs false
set_option linter.unusedVariables false
namespace Go.Ago

theorem getD_set {l : List W} {i j : Nat} {x : W} (hi : i < l.length) : (l.set i x).getD j 0#64 = if i = j then x else l.getD j 0#64 := by
  rw [List.getD_eq_getElem?_getD, List.getElem?_set, List.getD_eq_getElem?_getD]
  by_cases e : i = j
  · subst e; simp [hi]
  · simp [e]
theorem mkR_set {n : Nat} {p q : Nat → Nat → Bool} {i : Nat} {x : W} (hi : i < n) (hx : ∀ k, k < 64 → x.getLsbD k = (decide (k < n) && q i k)) (ho : ∀ a k, a < n → k < n → a ≠ i → q a k = p a k) : (mkR n p).set i x = mkR n q := by
  apply mkR_ext (by simp [Z4o])
  intro a k ha hk
  rw [getD_set (by rw [Z4o]; exact hi)]
  by_cases e : i = a
  · subst e; rw [if_pos rfl]; exact hx k hk
  · rw [if_neg e, mkR_get ha]
    by_cases hkn : k < n
    · rw [ho a k ha hkn (Ne.symm e)]; simp [hk]
    · simp [hkn]
theorem mkR_zero {n : Nat} {p : Nat → Nat → Bool} (h : ∀ i k, i < n → k < n → p i k = false) : List.replicate n 0#64 = mkR n p := by
  apply mkR_ext (by simp)
  intro i k hi hk
  have e : (List.replicate n 0#64).getD i 0#64 = 0#64 := by
    rw [List.getD_eq_getElem?_getD, List.getElem?_replicate]; split <;> rfl
  rw [e]
  by_cases hkn : k < n
  · rw [h i k hi hkn]; simp
  · simp [hkn]
theorem hasN_off {R : List W} {i k : Nat} (h : ¬ k < szR R) : hasN R i k = false := by unfold hasN; simp [h]
theorem hasN_off1 {R : List W} {i k : Nat} (h : ¬ i < szR R) : hasN R i k = false := by unfold hasN; simp [h]

/-- Two laid together, place by place. -/
def lay2 (q : Bool → Bool → Bool) (A B : List W) : List W := mkR (mxR A B) fun i k => q (hasN A i k) (hasN B i k)
theorem layG_get {h : W → W → W} {A B : List W} {i : Nat} (hi : i < mxR A B) : (layG h A B).getD i 0#64 = h (rowG A i) (rowG B i) := by
  unfold layG
  rw [List.getD_eq_getElem?_getD, List.getElem?_map, List.getElem?_range hi]; rfl
theorem layG_mk {h : W → W → W} {q : Bool → Bool → Bool} (hh : ∀ x y k, k < 64 → (h x y).getLsbD k = q (x.getLsbD k) (y.getLsbD k)) (hq : q false false = false) (A B : List W) : layG h A B = lay2 q A B := by
  apply mkR_ext layG_len
  intro i k hi hk
  rw [layG_get hi, hh _ _ _ hk, get_rowG, get_rowG]
  by_cases hkn : k < mxR A B
  · simp [hkn]
  · have h1 : ¬ k < szR A := by unfold mxR at hkn; omega
    have h2 : ¬ k < szR B := by unfold mxR at hkn; omega
    rw [hasN_off h1, hasN_off h2, hq]; simp [hkn]
def sp_lay2 (q : Bool → Bool → Bool) : Sp := ⟨List W × Bool × List W × Bool, fun x => [.d (.list (x.1.map rowW) x.2.1), .d (.list (x.2.2.1.map rowW) x.2.2.2)], fun x => .rows (x.1.length ≤ maxLen ∧ x.2.2.1.length ≤ maxLen) 1 ((lay2 q x.1 x.2.2.1).map rowW)⟩
theorem at_lay2 (q : Bool → Bool → Bool) (A B : List W) (e f : Bool) : (sp_lay2 q).at [.d (.list (A.map rowW) e), .d (.list (B.map rowW) f)] = .rows (A.length ≤ maxLen ∧ B.length ≤ maxLen) 1 ((lay2 q A B).map rowW) :=
  Sp.at_enc (s := sp_lay2 q) (fun x y h => by
    obtain ⟨a, b, c, d⟩ := x; obtain ⟨a', b', c', d'⟩ := y
    simp only [sp_lay2, List.cons.injEq, AV.d.injEq, DV.list.injEq, and_true] at h
    rw [Z3t rowW_inj h.1.1, h.1.2, Z3t rowW_inj h.2.1, h.2.2]) (A, e, B, f)
def qOr (a b : Bool) : Bool := a || b
def qAnd (a b : Bool) : Bool := a && b
def qMinus (a b : Bool) : Bool := a && !b

theorem body_rel_Union {T : Tab} {n1 n2 n_rel_Union_1 n_rel_Inter_1 n_rel_Minus_1 n_rel_Plus_1 : Nat} (k1 : Knows T n1 (sp_lay (hs4 n_rel_Union_1 n_rel_Inter_1 n_rel_Minus_1 n_rel_Plus_1))) (e1 : hs4 n_rel_Union_1 n_rel_Inter_1 n_rel_Minus_1 n_rel_Plus_1 n2 = some orW) :
    (sp_lay2 qOr).Body T V_rel_Union (L_rel_Union n1 n2) R_rel_Union := by
  have F1 := k1.F; have G1 := k1.G
  rintro ⟨A, e, B, f⟩ ⟨h1, h2⟩
  refine ⟨rows_len (f := rowW) (fun _ => rfl) _, ?_⟩
  unfold V_rel_Union L_rel_Union R_rel_Union
  simp only [↓Z26, ↓Z05, ↓Z1l, ↓Z0k, ↓Z1k, ↓Z1j, ↓Z3b, Z49, Z07, Z32, Z35, evN, Z2g, Z1g, Z34, Z1f, Z15, Z1e, evT, Opd.ev, Z02, Z00, Z33, Z3q, Z1m, Z0l, Z3o, LOp.isNew, State.prune, Z1d, List.length_map, resQ, resV, resT, Z2e, Z3g, fnOf, Z3c, Z4j, ↓reduceIte, Nat.reduceBEq, List.length_nil, List.replicate_succ, List.replicate_zero, List.nil_append, List.append_nil, List.map_cons, List.map_nil, List.set_cons_zero, List.flatten_cons, List.flatten_nil, true_and, and_true, or_true, Nat.zero_add, Nat.add_zero, Bool.false_eq_true, sp_lay2, F1, G1, at_lay e1, layOut]
  rw [← layG_mk (h := orW) (fun x y k _ => by simp [orW, qOr]) rfl A B]
  exact ⟨⟨h1, h2⟩, .inl ⟨0, true, by simp, rfl⟩⟩
theorem body_rel_Inter {T : Tab} {n1 n2 n_rel_Union_1 n_rel_Inter_1 n_rel_Minus_1 n_rel_Plus_1 : Nat} (k1 : Knows T n1 (sp_lay (hs4 n_rel_Union_1 n_rel_Inter_1 n_rel_Minus_1 n_rel_Plus_1))) (e1 : hs4 n_rel_Union_1 n_rel_Inter_1 n_rel_Minus_1 n_rel_Plus_1 n2 = some andW) :
    (sp_lay2 qAnd).Body T V_rel_Inter (L_rel_Inter n1 n2) R_rel_Inter := by
  have F1 := k1.F; have G1 := k1.G
  rintro ⟨A, e, B, f⟩ ⟨h1, h2⟩
  refine ⟨rows_len (f := rowW) (fun _ => rfl) _, ?_⟩
  unfold V_rel_Inter L_rel_Inter R_rel_Inter
  simp only [↓Z26, ↓Z05, ↓Z1l, ↓Z0k, ↓Z1k, ↓Z1j, ↓Z3b, Z49, Z07, Z32, Z35, evN, Z2g, Z1g, Z34, Z1f, Z15, Z1e, evT, Opd.ev, Z02, Z00, Z33, Z3q, Z1m, Z0l, Z3o, LOp.isNew, State.prune, Z1d, List.length_map, resQ, resV, resT, Z2e, Z3g, fnOf, Z3c, Z4j, ↓reduceIte, Nat.reduceBEq, List.length_nil, List.replicate_succ, List.replicate_zero, List.nil_append, List.append_nil, List.map_cons, List.map_nil, List.set_cons_zero, List.flatten_cons, List.flatten_nil, true_and, and_true, or_true, Nat.zero_add, Nat.add_zero, Bool.false_eq_true, sp_lay2, F1, G1, at_lay e1, layOut]
  rw [← layG_mk (h := andW) (fun x y k _ => by simp [andW, qAnd]) rfl A B]
  exact ⟨⟨h1, h2⟩, .inl ⟨0, true, by simp, rfl⟩⟩
/-! ### Then -/
def thenP (A B : List W) (i k : Nat) : Bool := (List.range 64).any fun j => hasN A i j && hasN B j k
theorem thenP_iff {A B : List W} {i k : Nat} : thenP A B i k = true ↔ ∃ j, hasN A i j = true ∧ hasN B j k = true := by
  unfold thenP
  rw [List.any_eq_true]
  constructor
  · rintro ⟨j, _, h⟩
    rw [Bool.and_eq_true] at h
    exact ⟨j, h⟩
  · rintro ⟨j, h1, h2⟩
    have := hasN_lt h1; have := szR_le A
    exact ⟨j, by simp; omega, by rw [h1, h2]; rfl⟩
def thenG (A B : List W) : List W := mkR (mxR A B) (thenP A B)
/-- What is there so far: rows ahead of i are done; of row i, what leads through bits that are not in x any more. -/
def thenS (A B : List W) (i : Nat) (x : W) (a k : Nat) : Bool := if a < i then thenP A B a k else if a = i then (List.range 64).any fun j => hasN A i j && !x.getLsbD j && hasN B j k else false
theorem thenS_iff {A B : List W} {i k : Nat} {x : W} : thenS A B i x i k = true ↔ ∃ j, hasN A i j = true ∧ x.getLsbD j = false ∧ hasN B j k = true := by
  unfold thenS
  rw [if_neg (Nat.lt_irrefl i), if_pos rfl, List.any_eq_true]
  constructor
  · rintro ⟨j, _, h⟩
    simp only [Bool.and_eq_true, Bool.not_eq_true'] at h
    exact ⟨j, h.1.1, h.1.2, h.2⟩
  · rintro ⟨j, h1, h2, h3⟩
    have := hasN_lt h1; have := szR_le A
    exact ⟨j, by simp; omega, by simp [h1, h2, h3]⟩
theorem beq_of_iff {a b : Bool} (h : a = true ↔ b = true) : a = b := by cases a <;> cases b <;> simp_all

def sp_Then : Sp := ⟨List W × Bool × List W × Bool, fun x => [.d (.list (x.1.map rowW) x.2.1), .d (.list (x.2.2.1.map rowW) x.2.2.2)], fun x => .rows (x.1.length ≤ maxLen ∧ x.2.2.1.length ≤ maxLen) 1 ((thenG x.1 x.2.2.1).map rowW)⟩
theorem at_Then (A B : List W) (e f : Bool) : sp_Then.at [.d (.list (A.map rowW) e), .d (.list (B.map rowW) f)] = .rows (A.length ≤ maxLen ∧ B.length ≤ maxLen) 1 ((thenG A B).map rowW) :=
  Sp.at_enc (s := sp_Then) (fun x y h => by
    obtain ⟨a, b, c, d⟩ := x; obtain ⟨a', b', c', d'⟩ := y
    simp only [sp_Then, List.cons.injEq, AV.d.injEq, DV.list.injEq, and_true] at h
    rw [Z3t rowW_inj h.1.1, h.1.2, Z3t rowW_inj h.2.1, h.2.2]) (A, e, B, f)
theorem body_rel_Then {T : Tab} {n1 n2 n3 : Nat} (k1 : Knows T n1 sp_size) (k2 : Knows T n2 sp_row) (k3 : Knows T n3 sp_tz) : sp_Then.Body T V_rel_Then (L_rel_Then n1 n2 n3) R_rel_Then := by
  have F1 := k1.F; have G1 := k1.G; have F2 := k2.F; have G2 := k2.G; have F3 := k3.F; have G3 := k3.G
  rintro ⟨A, e, B, f⟩ ⟨h1, h2⟩
  have h1 : A.length ≤ maxLen := h1
  have h2 : B.length ≤ maxLen := h2
  refine ⟨rows_len (f := rowW) (fun _ => rfl) _, ?_⟩
  unfold V_rel_Then L_rel_Then R_rel_Then
  simp only [↓Z05, ↓Z1l, ↓Z0h, ↓Z20, ↓Z0k, ↓Z1k, ↓Z1j, Z49, Z07, Z32, Z35, evN, Z2g, Z1g, Z34, Z1f, Z15, Z1e, evT, Opd.ev, Z02, Z00, Z33, Z3q, Z1m, Z0l, Z3o, LOp.isNew, State.prune, Z1c, Z4t, Z0m, Z4r, evMk, Z2e, Z3g, fnOf, Z3c, Z4j, Z3x, Z23, ↓reduceIte, Nat.reduceBEq, List.length_cons, List.length_nil, List.replicate_succ, List.replicate_zero, List.nil_append, List.append_nil, List.map_cons, List.map_nil, List.set_cons_zero, List.flatten_cons, List.flatten_nil, true_and, Nat.zero_add, Nat.add_zero, Bool.false_eq_true, sp_Then, F1, G1, at_size]
  have hm : (if ((szR B : Nat) : Int) > ((szR A : Nat) : Int) then ((szR B : Nat) : Int) else ((szR A : Nat) : Int)) = ((mxR A B : Nat) : Int) := by unfold mxR; split <;> omega
  have hle := mxR_le A B
  have hA : szR A ≤ mxR A B := by unfold mxR; omega
  rw [hm]
  generalize hn : mxR A B = n at *
  simp only [Z06]
  refine ⟨h1, h2, ⟨by omega, by omega, roomy_of (by omega) (by omega)⟩, ?_⟩
  refine Loop.fam [0, 1, 5, 15, 16] (fun i : Nat => ⟨[(0, .d (.list (A.map rowW) e)), (1, .d (.list (B.map rowW) f)), (5, .ref 0 1 0 n true), (15, .d (.int .i64 n)), (16, .d (.int .i64 i))],
      [.dvec 1 ((mkR n (thenS A B i (rowG A i))).map rowW)]⟩) (fun i => i ≤ n) (fun i => n - i) 0 [0] (by simp) (by simp) (by
        simp only [State.can, AV.can, HO.can, idx, Z02, Z00, Heap.at, Nat.reduceBEq, ↓reduceIte, Option.getD_some, Option.map_some, List.map_cons, List.map_nil, List.getD_cons_zero]
        rw [mkR_zero (p := thenS A B 0 (rowG A 0))]
        · rfl
        · intro a k _ _
          unfold thenS
          rw [if_neg (by omega)]
          split
          · rename_i e0; subst e0
            rw [List.any_eq_false]
            intro j _
            rw [get_rowG]
            cases hasN A 0 j <;> simp
          · rfl) (by omega) ?_
  intro i hi
  simp only [↓Z19, ↓Z26, ↓Z1z, ↓Z05, ↓Z1l, ↓Z17, ↓Z0h, ↓Z20, ↓Z0k, ↓Z1k, ↓Z31, ↓Z1x, ↓Z1j, ↓Z3b, ↓Z3w, ↓Z0g, Z49, Z07, Z32, Z35, evN, Z2g, Z1g, Z34, Z1f, Z15, Z1e, Z2a, evT, Opd.ev, Z02, Z00, Z33, Z28, Z2b, Z0l, Z3o, LOp.isNew, State.prune, Z06, Z4l, binT, binQ, resQ, resV, resT, Z2e, Z3g, fnOf, Z3c, Z4j, Z23, ↓reduceIte, Nat.reduceBEq, List.length_cons, List.length_nil, List.replicate_zero, List.append_nil, List.map_cons, List.map_nil, List.flatten_cons, List.flatten_nil, true_and, Nat.zero_add, Nat.add_zero, Bool.false_eq_true, F2, G2, at_row]
  refine ⟨fun c => ?_, fun c => ?_⟩
  · have c' : i < n := by omega
    refine ⟨⟨by omega, h1⟩, ?_⟩
    refine Loop.fam [0, 1, 5, 6, 7, 15, 16] (fun x : W => ⟨[(0, .d (.list (A.map rowW) e)), (1, .d (.list (B.map rowW) f)), (5, .ref 0 1 0 n true), (6, .d (.int .i64 i)), (7, .d (.int .u64 (x.toNat : Int))), (15, .d (.int .i64 n)), (16, .d (.int .i64 i))],
      [.dvec 1 ((mkR n (thenS A B i x)).map rowW)]⟩) (fun x => ∀ j, x.getLsbD j = true → hasN A i j = true) (fun x => x.toNat) (rowG A i) [0] (by simp) (by simp) (by simp only [State.can, AV.can, HO.can, idx, Z02, Z00, Heap.at, Nat.reduceBEq, ↓reduceIte, Option.getD_some, Option.map_some, List.map_cons, List.map_nil, List.getD_cons_zero]) (fun j h => by rw [get_rowG] at h; exact h) ?_
    intro x hx
    simp only [↓Z19, ↓Z1z, ↓Z05, ↓Z1l, ↓Z17, ↓Z0h, ↓Z0k, ↓Z1k, ↓Z31, ↓Z24, ↓Z1x, ↓Z1j, ↓Z3y, ↓Z3w, ↓Z18, ↓Z0g, Z49, Z07, Z1b, Z32, Z35, evN, Z2g, Z1g, Z34, Z41, Z1f, Z15, Z1e, Z2a, evT, Opd.ev, Z02, Z00, Z33, Z3z, Z3q, Z28, Z2b, Z0l, Z3o, LOp.isNew, State.prune, Heap.at, Z0j, Z03, rowW, Z2f, Z16, w_or, w_and, Z4e, w_eq0, Z04, Z0b, Z01, Z1y, Z06, Z4m, Z4l, binT, binQ, chk, Z3v, List.contains_cons, List.contains_nil, Bool.or_false, Bool.and_self, Z2e, Z3g, fnOf, Z3c, Z4j, putRow, Z23, Nat.le_refl, ↓reduceIte, Nat.reduceBEq, List.length_cons, List.length_nil, List.replicate_zero, List.nil_append, List.cons_append, List.append_nil, List.map_cons, List.map_nil, List.all_cons, List.all_nil, List.set_cons_zero, List.getD_cons_zero, List.getD_cons_succ, List.drop_zero, List.drop_succ_cons, List.take_zero, List.flatten_cons, List.flatten_nil, Bool.not_false, true_and, and_true, and_self, Nat.reduceLT, List.reverse_cons, List.reverse_nil, Nat.zero_add, Nat.add_zero, Bool.false_eq_true, F2, G2, F3, G3, at_row, at_tz]
    refine ⟨fun hz => ?_, fun hz => ?_⟩
    rotate_left
    · obtain ⟨t1, t2, t3⟩ := tz_spec hz
      have hat := hx _ t2
      rw [Z4o]
      refine ⟨by omega, by omega, by omega, by omega, by omega, ?_⟩
      refine Z36.mk [0] (x &&& (x - 1#64)) (by simp) (by simp) ?_ (fun j hj => hx j (by rw [tz_rest hz] at hj; rw [Bool.and_eq_true] at hj; exact hj.1)) (tz_less hz)
      rw [mkR_set (q := thenS A B i (x &&& (x - 1#64))) c']
      · simp only [State.can, AV.can, HO.can, idx, Z02, Z00, Heap.at, Nat.reduceBEq, ↓reduceIte, Option.getD_some, Option.map_some, List.map_cons, List.map_nil, List.getD_cons_zero]
      · intro k hk
        rw [BitVec.getLsbD_or, mkR_get c', get_rowG]
        by_cases hkn : k < n
        · simp only [hkn, hk, decide_true, Bool.true_and]
          apply beq_of_iff
          rw [Bool.or_eq_true, thenS_iff, thenS_iff]
          constructor
          · rintro (⟨j, g1, g2, g3⟩ | g)
            · exact ⟨j, g1, by rw [tz_rest hz, g2]; rfl, g3⟩
            · exact ⟨tz x, hat, by rw [tz_rest hz]; simp, g⟩
          · rintro ⟨j, g1, g2, g3⟩
            rw [tz_rest hz, Bool.and_eq_false_iff] at g2
            rcases g2 with g2 | g2
            · exact .inl ⟨j, g1, g2, g3⟩
            · have : j = tz x := by simpa using g2
              subst this; exact .inr g3
        · have : ¬ k < szR B := by unfold mxR at hn; omega
          rw [hasN_off this]; simp [hkn]
      · intro a k ha hk hne
        unfold thenS
        rw [if_neg hne, if_neg hne]
    · have hz : x = 0#64 := by simpa using hz
      subst hz
      rw [Z4h c' (by unfold maxLen; omega)]
      refine Z36.mk [0] (i + 1) (by simp) (by simp) ?_ (by show i + 1 ≤ n; omega) (by show n - (i + 1) < n - i; omega)
      have : mkR n (thenS A B i 0#64) = mkR n (thenS A B (i + 1) (rowG A (i + 1))) := by
        apply Z3s
        intro a k ha hk
        by_cases e1 : a < i
        · unfold thenS; rw [if_pos e1, if_pos (by omega)]
        · by_cases e2 : a = i
          · subst e2
            apply beq_of_iff
            rw [thenS_iff]
            unfold thenS
            rw [if_pos (by omega), thenP_iff]
            simp
          · unfold thenS
            rw [if_neg e1, if_neg e2, if_neg (by omega)]
            split
            · rename_i e3; subst e3
              symm
              rw [List.any_eq_false]
              intro j _
              rw [get_rowG]
              cases hasN A (i + 1) j <;> simp
            · rfl
      rw [this]
      simp only [State.can, AV.can, HO.can, idx, Z02, Z00, Heap.at, Nat.reduceBEq, ↓reduceIte, Option.getD_some, Option.map_some, List.map_cons, List.map_nil, List.getD_cons_zero]
  · have : i = n := by omega
    subst this
    have : mkR i (thenS A B i (rowG A i)) = thenG A B := by
      unfold thenG
      rw [hn]
      apply Z3s
      intro a k ha hk
      unfold thenS
      rw [if_pos ha]
    rw [this]
    exact .inl ⟨0, true, by simp [thenG, Z4o, hn], rfl⟩
end Go.Ago

/- Contracts of package rel: Back, Plus, Star, Ring. Conditions: none. -/
set_option maxRecDepth 100000
set_option linter.unusedSimpArgs false
set_option linter.unusedVariables false
namespace Go.Ago

/-! ### Back -/
def backG (R : List W) : List W := mkR (szR R) fun i k => hasN R k i
def backS (R : List W) (i : Nat) (x : W) (a k : Nat) : Bool := hasN R k a && (decide (k < i) || decide (k = i) && !x.getLsbD a)
def sp_Back : Sp := ⟨List W × Bool, fun x => [.d (.list (x.1.map rowW) x.2)], fun x => .rows (x.1.length ≤ maxLen) 1 ((backG x.1).map rowW)⟩
theorem at_Back (A : List W) (e : Bool) : sp_Back.at [.d (.list (A.map rowW) e)] = .rows (A.length ≤ maxLen) 1 ((backG A).map rowW) :=
  Sp.at_enc (s := sp_Back) (fun x y h => by
    obtain ⟨a, b⟩ := x; obtain ⟨a', b'⟩ := y
    simp only [sp_Back, List.cons.injEq, AV.d.injEq, DV.list.injEq, and_true] at h
    rw [Z3t rowW_inj h.1, h.2]) (A, e)
theorem one_shl {i k : Nat} (hi : i < 64) : (1#64 <<< i).getLsbD k = decide (i = k) := by
  by_cases hk : k < 64
  · rw [BitVec.getLsbD_shiftLeft, BitVec.getLsbD_one]
    by_cases e : i = k
    · subst e; simp [hi]
    · by_cases e2 : k < i
      · simp [e2, e]
      · have : ¬ k - i = 0 := by omega
        simp [e, this]
  · rw [getLsb_ge (by omega)]; simp; omega
theorem body_rel_Back {T : Tab} {n1 n2 n3 : Nat} (k1 : Knows T n1 sp_size) (k2 : Knows T n2 sp_row) (k3 : Knows T n3 sp_tz) : sp_Back.Body T V_rel_Back (L_rel_Back n1 n2 n3) R_rel_Back := by
  have F1 := k1.F; have G1 := k1.G; have F2 := k2.F; have G2 := k2.G; have F3 := k3.F; have G3 := k3.G
  rintro ⟨A, e⟩ h1
  have h1 : A.length ≤ maxLen := h1
  refine ⟨rows_len (f := rowW) (fun _ => rfl) _, ?_⟩
  unfold V_rel_Back L_rel_Back R_rel_Back
  simp only [↓Z05, ↓Z1l, ↓Z0h, ↓Z20, ↓Z0k, ↓Z1k, ↓Z1j, Z49, Z07, Z32, Z35, evN, Z2g, Z1g, Z34, Z1f, Z15, Z1e, evT, Opd.ev, Z02, Z00, Z33, Z3q, Z1m, Z0l, Z3o, LOp.isNew, State.prune, Z1c, Z06, Z4t, Z0m, Z4r, evMk, Z2e, Z3g, fnOf, Z3c, Z4j, Z23, ↓reduceIte, Nat.reduceBEq, List.length_cons, List.length_nil, List.replicate_succ, List.replicate_zero, List.nil_append, List.append_nil, List.map_cons, List.map_nil, List.set_cons_zero, List.flatten_cons, List.flatten_nil, true_and, Nat.zero_add, Nat.add_zero, Bool.false_eq_true, sp_Back, F1, G1, at_size]
  have hle := szR_le A
  generalize hn : szR A = n at *
  refine ⟨h1, ⟨by omega, by omega, roomy_of (by omega) (by omega)⟩, ?_⟩
  refine Loop.fam [0, 3, 10, 11] (fun i : Nat => ⟨[(0, .d (.list (A.map rowW) e)), (3, .ref 0 1 0 n true), (10, .d (.int .i64 n)), (11, .d (.int .i64 i))],
      [.dvec 1 ((mkR n (backS A i (rowG A i))).map rowW)]⟩) (fun i => i ≤ n) (fun i => n - i) 0 [0] (by simp) (by simp) (by
        simp only [State.can, AV.can, HO.can, idx, Z02, Z00, Heap.at, Nat.reduceBEq, ↓reduceIte, Option.getD_some, Option.map_some, List.map_cons, List.map_nil, List.getD_cons_zero]
        rw [mkR_zero (p := backS A 0 (rowG A 0))]
        · rfl
        · intro a k _ _
          unfold backS
          rw [get_rowG]
          by_cases e0 : k = 0
          · subst e0; cases hasN A 0 a <;> simp
          · simp [e0]) (by omega) ?_
  intro i hi
  simp only [↓Z19, ↓Z26, ↓Z1z, ↓Z05, ↓Z1l, ↓Z17, ↓Z0h, ↓Z20, ↓Z0k, ↓Z1k, ↓Z31, ↓Z1x, ↓Z1j, ↓Z3b, ↓Z3w, ↓Z0g, Z49, Z07, Z32, Z35, evN, Z2g, Z1g, Z34, Z1f, Z15, Z1e, Z2a, evT, Opd.ev, Z02, Z00, Z33, Z28, Z2b, Z0l, Z3o, LOp.isNew, State.prune, Z06, Z4l, binT, binQ, resQ, resV, resT, Z2e, Z3g, fnOf, Z3c, Z4j, Z23, ↓reduceIte, Nat.reduceBEq, List.length_cons, List.length_nil, List.replicate_zero, List.append_nil, List.map_cons, List.map_nil, List.flatten_cons, List.flatten_nil, true_and, Nat.zero_add, Nat.add_zero, Bool.false_eq_true, F2, G2, at_row]
  refine ⟨fun c => ?_, fun c => ?_⟩
  · have c' : i < n := by omega
    refine ⟨⟨by omega, h1⟩, ?_⟩
    refine Loop.fam [0, 3, 4, 5, 10, 11] (fun x : W => ⟨[(0, .d (.list (A.map rowW) e)), (3, .ref 0 1 0 n true), (4, .d (.int .i64 i)), (5, .d (.int .u64 (x.toNat : Int))), (10, .d (.int .i64 n)), (11, .d (.int .i64 i))],
      [.dvec 1 ((mkR n (backS A i x)).map rowW)]⟩) (fun x => ∀ j, x.getLsbD j = true → hasN A i j = true) (fun x => x.toNat) (rowG A i) [0] (by simp) (by simp) (by simp only [State.can, AV.can, HO.can, idx, Z02, Z00, Heap.at, Nat.reduceBEq, ↓reduceIte, Option.getD_some, Option.map_some, List.map_cons, List.map_nil, List.getD_cons_zero]) (fun j h => by rw [get_rowG] at h; exact h) ?_
    intro x hx
    simp only [↓Z19, ↓Z1z, ↓Z05, ↓Z1l, ↓Z17, ↓Z0h, ↓Z0k, ↓Z1k, ↓Z31, ↓Z24, ↓Z1x, ↓Z1j, ↓Z3y, ↓Z3w, ↓Z18, ↓Z0g, Z49, Z07, Z32, Z35, evN, Z2g, Z1g, Z34, Z1f, Z15, Z1e, Z2a, evT, Opd.ev, Z02, Z00, Z33, Z3z, Z3q, Z28, Z2b, Z0l, Z3o, LOp.isNew, State.prune, Heap.at, Z0j, Z03, rowW, Z2f, Z16, w_or, w_and, Z43, Z4e, w_eq0, Z04, Z0b, Z01, Z1y, Z06, Z4m, Z4l, binT, binQ, Z2e, Z3g, fnOf, Z3c, Z4j, putRow, Z23, Nat.le_refl, ↓reduceIte, Nat.reduceBEq, List.length_cons, List.length_nil, List.replicate_zero, List.nil_append, List.append_nil, List.map_cons, List.map_nil, List.set_cons_zero, List.getD_cons_zero, List.drop_zero, List.drop_succ_cons, List.take_zero, List.flatten_cons, List.flatten_nil, true_and, and_true, and_self, Nat.reduceLT, Nat.zero_add, Nat.add_zero, Bool.false_eq_true, F3, G3, at_tz, wrapU (k := i) (by omega)]
    refine ⟨fun hz => ?_, fun hz => ?_⟩
    rotate_left
    · obtain ⟨t1, t2, t3⟩ := tz_spec hz
      have hat := hx _ t2
      have htn : tz x < n := by have := (hasN_lt hat).2; omega
      rw [Z4o]
      refine ⟨by omega, by omega, by omega, by omega, by omega, ?_⟩
      refine Z36.mk [0] (x &&& (x - 1#64)) (by simp) (by simp) ?_ (fun j hj => hx j (by rw [tz_rest hz] at hj; rw [Bool.and_eq_true] at hj; exact hj.1)) (tz_less hz)
      rw [mkR_set (q := backS A i (x &&& (x - 1#64))) htn]
      · simp only [State.can, AV.can, HO.can, idx, Z02, Z00, Heap.at, Nat.reduceBEq, ↓reduceIte, Option.getD_some, Option.map_some, List.map_cons, List.map_nil, List.getD_cons_zero]
      · intro k hk
        rw [BitVec.getLsbD_or, mkR_get htn, one_shl (by omega)]
        unfold backS
        rw [tz_rest hz]
        by_cases hkn : k < n
        · by_cases e1 : k = i
          · subst e1; simp [hkn, hk, hat]
          · have : ¬ i = k := fun h => e1 h.symm
            simp [hkn, hk, e1, this]
        · have : ¬ i = k := by omega
          simp [hkn, this]
      · intro a k ha hk hne
        unfold backS
        rw [tz_rest hz]
        simp [hne]
    · have hz : x = 0#64 := by simpa using hz
      subst hz
      rw [Z4h c' (by unfold maxLen; omega)]
      refine Z36.mk [0] (i + 1) (by simp) (by simp) ?_ (by show i + 1 ≤ n; omega) (by show n - (i + 1) < n - i; omega)
      have : mkR n (backS A i 0#64) = mkR n (backS A (i + 1) (rowG A (i + 1))) := by
        apply Z3s
        intro a k ha hk
        unfold backS
        rw [get_rowG]
        by_cases e1 : k < i
        · have : k < i + 1 := by omega
          simp [e1, this]
        · by_cases e2 : k = i
          · subst e2; simp
          · have : ¬ k < i + 1 := by omega
            by_cases e3 : k = i + 1
            · subst e3; cases hasN A (i + 1) a <;> simp
            · simp [e1, e2, e3, this]
      rw [this]
      simp only [State.can, AV.can, HO.can, idx, Z02, Z00, Heap.at, Nat.reduceBEq, ↓reduceIte, Option.getD_some, Option.map_some, List.map_cons, List.map_nil, List.getD_cons_zero]
  · have : i = n := by omega
    subst this
    have : mkR i (backS A i (rowG A i)) = backG A := by
      unfold backG
      rw [hn]
      apply Z3s
      intro a k ha hk
      unfold backS
      simp [hk]
    rw [this]
    exact .inl ⟨0, true, by simp [backG, Z4o, hn], rfl⟩

/-! ### Plus -/
/-- Ways whose places between are ahead of m. -/
def way (p : Nat → Nat → Bool) : Nat → Nat → Nat → Bool
  | 0, i, k => p i k
  | m + 1, i, k => way p m i k || way p m i m && way p m m k
def plusG (R : List W) : List W := mkR (szR R) (way (hasN R) (szR R))
def plusS (R : List W) (m i a b : Nat) : Bool := if a < i then way (hasN R) (m + 1) a b else way (hasN R) m a b
def sp_Plus : Sp := ⟨List W × Bool, fun x => [.d (.list (x.1.map rowW) x.2)], fun x => .rows (x.1.length ≤ maxLen) 1 ((plusG x.1).map rowW)⟩
theorem at_Plus (A : List W) (e : Bool) : sp_Plus.at [.d (.list (A.map rowW) e)] = .rows (A.length ≤ maxLen) 1 ((plusG A).map rowW) :=
  Sp.at_enc (s := sp_Plus) (fun x y h => by
    obtain ⟨a, b⟩ := x; obtain ⟨a', b'⟩ := y
    simp only [sp_Plus, List.cons.injEq, AV.d.injEq, DV.list.injEq, and_true] at h
    rw [Z3t rowW_inj h.1, h.2]) (A, e)
theorem szR_nil : szR [] = 0 := rfl
theorem lay_fst (A : List W) : layG fstW A [] = mkR (szR A) (hasN A) := by
  rw [layG_mk (h := fstW) (q := fun a _ => a) (fun x y k _ => rfl) rfl]
  unfold lay2 mxR
  rw [szR_nil, Nat.max_eq_left (Nat.zero_le _)]
theorem plus_body {T : Tab} {n1 n2 : Nat} {hs : Nat → Option (W → W → W)} (k1 : Knows T n1 (sp_lay hs)) (e1 : hs n2 = some fstW) :
    sp_Plus.Body T V_rel_Plus (L_rel_Plus n1 n2) R_rel_Plus := by
  have F1 := k1.F; have G1 := k1.G
  rintro ⟨A, e⟩ h1
  have h1 : A.length ≤ maxLen := h1
  refine ⟨rows_len (f := rowW) (fun _ => rfl) _, ?_⟩
  have hat : ∀ f : Bool, (sp_lay hs).at [.d (.list (A.map rowW) e), .d (.list [] f), .d (.fn n2)] = .rows (A.length ≤ maxLen ∧ 0 ≤ maxLen) 1 ((mkR (szR A) (hasN A)).map rowW) := fun f => by
    have := at_lay e1 A [] e f
    unfold layOut at this
    rw [lay_fst] at this
    exact this
  unfold V_rel_Plus L_rel_Plus R_rel_Plus
  simp only [↓Z05, ↓Z1l, ↓Z0h, ↓Z20, ↓Z0k, ↓Z1k, ↓Z1j, Z49, Z07, Z32, Z35, evN, Z2g, Z1g, Z34, Z1f, Z15, Z1e, evT, Opd.ev, Z02, Z00, Z33, Z3q, Z1m, Z0l, Z3o, LOp.isNew, State.prune, Z1d, Z4t, List.length_map, Z2e, Z3g, fnOf, Z3c, Z4j, Z23, ↓reduceIte, Nat.reduceBEq, List.length_cons, List.length_nil, List.replicate_succ, List.replicate_zero, List.nil_append, List.append_nil, List.map_cons, List.map_nil, List.set_cons_zero, List.flatten_cons, List.flatten_nil, true_and, and_true, or_true, Nat.zero_add, Nat.add_zero, Bool.false_eq_true, sp_Plus, F1, G1, hat]
  have hle := szR_le A
  rw [Z4o]
  generalize hn : szR A = n at *
  refine ⟨⟨h1, by omega⟩, ?_⟩
  refine Loop.fam [3, 9, 10] (fun m : Nat => ⟨[(3, .ref 0 1 0 n true), (9, .d (.int .i64 n)), (10, .d (.int .i64 m))],
      [.dvec 1 ((mkR n (way (hasN A) m)).map rowW)]⟩) (fun m => m ≤ n) (fun m => n - m) 0 [0] (by simp) (by simp) (by simp only [State.can, AV.can, HO.can, idx, Z02, Z00, Heap.at, Nat.reduceBEq, ↓reduceIte, Option.getD_some, Option.map_some, List.map_cons, List.map_nil, List.getD_cons_zero]; rfl) (by omega) ?_
  intro m hm
  simp only [↓Z19, ↓Z26, ↓Z1z, ↓Z05, ↓Z1l, ↓Z17, ↓Z0h, ↓Z20, ↓Z0k, ↓Z1k, ↓Z31, ↓Z1x, ↓Z1j, ↓Z3b, ↓Z3w, ↓Z0g, Z49, Z07, Z32, Z35, evN, Z1g, Z34, Z1f, Z1e, Z2a, evT, Opd.ev, Z02, Z00, Z33, Z28, Z2b, Z0l, Z3o, LOp.isNew, State.prune, Z4t, Z4l, binT, binQ, resQ, resV, resT, Z23, ↓reduceIte, Nat.reduceBEq, List.length_cons, List.length_nil, List.replicate_zero, List.append_nil, List.map_cons, List.map_nil, true_and, Nat.zero_add, Nat.add_zero, Bool.false_eq_true]
  refine ⟨fun c => ?_, fun c => ?_⟩
  · have c' : m < n := by omega
    refine Loop.fam [3, 4, 9, 10, 14, 15] (fun i : Nat => ⟨[(3, .ref 0 1 0 n true), (4, .d (.int .i64 m)), (9, .d (.int .i64 n)), (10, .d (.int .i64 m)), (14, .d (.int .i64 n)), (15, .d (.int .i64 i))],
      [.dvec 1 ((mkR n (plusS A m i)).map rowW)]⟩) (fun i => i ≤ n) (fun i => n - i) 0 [0] (by simp) (by simp) (by
        simp only [State.can, AV.can, HO.can, idx, Z02, Z00, Heap.at, Nat.reduceBEq, ↓reduceIte, Option.getD_some, Option.map_some, List.map_cons, List.map_nil, List.getD_cons_zero]
        rw [show mkR n (plusS A m 0) = mkR n (way (hasN A) m) from Z3s fun a b _ _ => by unfold plusS; rw [if_neg (by omega)]]
        rfl) (by omega) ?_
    intro i hi
    simp only [↓Z19, ↓Z1z, ↓Z05, ↓Z1l, ↓Z17, ↓Z0h, ↓Z0k, ↓Z1k, ↓Z31, ↓Z24, ↓Z1x, ↓Z1j, ↓Z3y, ↓Z3w, ↓Z0g, Z49, Z07, Z1b, Z32, Z35, evN, Z1g, Z34, Z41, Z1f, Z1e, Z2a, evT, Opd.ev, Z02, Z00, Z33, Z3z, Z3q, Z28, Z2b, Z0l, Z3o, LOp.isNew, State.prune, Heap.at, Z0j, Z03, rowW, Z2f, Z16, w_or, Z4d, w_shr, w_bit, w_eq1, Bool.decide_eq_true, Z04, Z0b, Z01, Z1y, Z06, Z4m, Z4l, binT, binQ, chk, Z3v, putRow, Z23, Nat.le_refl, ↓reduceIte, Nat.reduceBEq, List.length_cons, List.length_nil, List.replicate_zero, List.nil_append, List.cons_append, List.append_nil, List.map_cons, List.map_nil, List.all_nil, List.set_cons_zero, List.getD_cons_zero, List.drop_zero, List.drop_succ_cons, List.take_zero, true_and, and_true, and_self, Nat.reduceLT, List.reverse_cons, List.reverse_nil, Nat.zero_add, Nat.add_zero, Bool.false_eq_true, wrapU (k := m) (by omega)]
    rw [Z4o]
    refine ⟨fun g => ?_, fun g => ?_⟩
    · have g' : i < n := by omega
      have bit : ((mkR n (plusS A m i)).getD i 0#64).getLsbD m = way (hasN A) m i m := by
        rw [mkR_get g']
        unfold plusS
        rw [if_neg (by omega)]
        simp only [decide_eq_true c', decide_eq_true (by omega : m < 64), Bool.true_and]
      rw [bit, Z4h g' (by unfold maxLen; omega)]
      refine ⟨by omega, by omega, by omega, fun hb => ⟨by omega, by omega, by omega, by omega, by omega, by omega, ?_⟩, fun hb => ?_⟩
      · refine Z36.mk [0] (i + 1) (by simp) (by simp) ?_ (by show i + 1 ≤ n; omega) (by show n - (i + 1) < n - i; omega)
        rw [mkR_set (q := plusS A m (i + 1)) g']
        · simp only [State.can, AV.can, HO.can, idx, Z02, Z00, Heap.at, Nat.reduceBEq, ↓reduceIte, Option.getD_some, Option.map_some, List.map_cons, List.map_nil, List.getD_cons_zero]
        · intro k hk
          rw [BitVec.getLsbD_or, mkR_get g', mkR_get c']
          by_cases hkn : k < n
          · simp only [hkn, hk, decide_true, Bool.true_and]
            have g1 : plusS A m i i k = way (hasN A) m i k := if_neg (by omega)
            have g2 : plusS A m (i + 1) i k = way (hasN A) (m + 1) i k := if_pos (by omega)
            have g3 : plusS A m i m k = way (hasN A) m m k := by
              unfold plusS
              split
              · simp only [way]; cases way (hasN A) m m k <;> simp
              · rfl
            rw [g1, g2, g3]
            simp only [way, hb, Bool.true_and]
          · simp [hkn]
        · intro a k ha hk hne
          unfold plusS
          by_cases e1 : a < i
          · rw [if_pos e1, if_pos (by omega)]
          · rw [if_neg e1, if_neg (by omega)]
      · refine Z36.mk [0] (i + 1) (by simp) (by simp) ?_ (by show i + 1 ≤ n; omega) (by show n - (i + 1) < n - i; omega)
        rw [show mkR n (plusS A m (i + 1)) = mkR n (plusS A m i) from Z3s fun a b _ _ => by
          unfold plusS
          by_cases e1 : a < i
          · rw [if_pos e1, if_pos (by omega)]
          · by_cases e2 : a = i
            · subst e2
              rw [if_pos (by omega), if_neg (by omega)]
              simp only [way]
              have hb' : way (hasN A) m a m = false := by simpa using hb
              simp [hb']
            · rw [if_neg e1, if_neg (by omega)]]
        simp only [State.can, AV.can, HO.can, idx, Z02, Z00, Heap.at, Nat.reduceBEq, ↓reduceIte, Option.getD_some, Option.map_some, List.map_cons, List.map_nil, List.getD_cons_zero]
    · have : i = n := by omega
      subst this
      rw [Z4h c' (by unfold maxLen; omega)]
      refine Z36.mk [0] (m + 1) (by simp) (by simp) ?_ (by show m + 1 ≤ i; omega) (by show i - (m + 1) < i - m; omega)
      rw [show mkR i (plusS A m i) = mkR i (way (hasN A) (m + 1)) from Z3s fun a b ha _ => by unfold plusS; rw [if_pos ha]]
      simp only [State.can, AV.can, HO.can, idx, Z02, Z00, Heap.at, Nat.reduceBEq, ↓reduceIte, Option.getD_some, Option.map_some, List.map_cons, List.map_nil, List.getD_cons_zero]
  · have : m = n := by omega
    subst this
    have : mkR m (way (hasN A) m) = plusG A := by unfold plusG; rw [hn]
    rw [this]
    exact .inl ⟨0, true, by simp [plusG, Z4o, hn], rfl⟩
theorem body_rel_Plus {T : Tab} {n1 n2 n_rel_Union_1 n_rel_Inter_1 n_rel_Minus_1 n_rel_Plus_1 : Nat} (k1 : Knows T n1 (sp_lay (hs4 n_rel_Union_1 n_rel_Inter_1 n_rel_Minus_1 n_rel_Plus_1))) (e1 : hs4 n_rel_Union_1 n_rel_Inter_1 n_rel_Minus_1 n_rel_Plus_1 n2 = some fstW) :
    sp_Plus.Body T V_rel_Plus (L_rel_Plus n1 n2) R_rel_Plus := plus_body k1 e1
/-! Where no other function is laid: -/
def hs1 (n : Nat) : Nat → Option (W → W → W) := fun g => if g = n then some fstW else none
end Go.Ago

/- Contracts of package rel: Star, Ring, Of, Order. Conditions: none. -/
set_option maxRecDepth 100000
set_option linter.unusedSimpArgs false
set_option linter.unusedVariables false
namespace Go.Ago

/-! ### Star, Ring -/
def ringG (R : List W) : Bool := (List.range (szR R)).any fun i => way (hasN R) (szR R) i i
def sp_Ring : Sp := ⟨List W × Bool, fun x => [.d (.list (x.1.map rowW) x.2)], fun x => .data (x.1.length ≤ maxLen) (.d (.bool (ringG x.1))) true⟩
theorem at_Ring (A : List W) (e : Bool) : sp_Ring.at [.d (.list (A.map rowW) e)] = .data (A.length ≤ maxLen) (.d (.bool (ringG A))) true :=
  Sp.at_enc (s := sp_Ring) (fun x y h => by
    obtain ⟨a, b⟩ := x; obtain ⟨a', b'⟩ := y
    simp only [sp_Ring, List.cons.injEq, AV.d.injEq, DV.list.injEq, and_true] at h
    rw [Z3t rowW_inj h.1, h.2]) (A, e)
theorem body_rel_Ring {T : Tab} {n1 : Nat} (k1 : Knows T n1 sp_Plus) : sp_Ring.Body T V_rel_Ring (L_rel_Ring n1) R_rel_Ring := by
  have F1 := k1.F; have G1 := k1.G
  rintro ⟨A, e⟩ h1
  have h1 : A.length ≤ maxLen := h1
  refine .inl ⟨rfl, ?_⟩
  unfold V_rel_Ring L_rel_Ring R_rel_Ring
  simp only [↓Z05, ↓Z1l, ↓Z0h, ↓Z20, ↓Z0k, ↓Z1k, ↓Z1j, Z49, Z07, Z32, Z35, evN, Z2g, Z1g, Z34, Z1f, Z15, Z1e, evT, Opd.ev, Z02, Z00, Z33, Z3q, Z1m, Z0l, Z3o, LOp.isNew, State.prune, Z1d, Z4t, List.length_map, Z2e, Z3g, fnOf, Z3c, Z4j, Z23, ↓reduceIte, Nat.reduceBEq, List.length_nil, List.replicate_succ, List.replicate_zero, List.nil_append, List.append_nil, List.map_cons, List.map_nil, List.set_cons_zero, List.flatten_cons, List.flatten_nil, true_and, and_true, or_true, Nat.zero_add, Nat.add_zero, Bool.false_eq_true, sp_Ring, F1, G1, at_Plus]
  have hle := szR_le A
  have hl : (plusG A).length = szR A := Z4o
  have hp : plusG A = mkR (szR A) (way (hasN A) (szR A)) := rfl
  rw [hl]
  have hr : ringG A = (List.range (szR A)).any fun i => way (hasN A) (szR A) i i := rfl
  generalize szR A = n at *
  refine ⟨h1, ?_⟩
  refine Loop.fam [6, 7, 8] (fun m : Nat => ⟨[(6, .ref 0 1 0 n true), (7, .d (.int .i64 n)), (8, .d (.int .i64 m))],
      [.dvec 1 ((plusG A).map rowW)]⟩) (fun m => m ≤ n ∧ ∀ i, i < m → way (hasN A) n i i = false) (fun m => n - m) 0 [0] (by simp) (by simp) (by simp only [State.can, AV.can, HO.can, idx, Z02, Z00, Heap.at, Nat.reduceBEq, ↓reduceIte, Option.getD_some, Option.map_some, List.map_cons, List.map_nil, List.getD_cons_zero]; rfl) ⟨by omega, fun i hi => by omega⟩ ?_
  rintro m ⟨hm, hno⟩
  simp only [↓Z19, ↓Z26, ↓Z1z, ↓Z05, ↓Z1l, ↓Z17, ↓Z0h, ↓Z0k, ↓Z1k, ↓Z31, ↓Z30, ↓Z24, ↓Z1x, ↓Z2c, ↓Z1j, ↓Z3b, ↓Z3y, ↓Z3w, ↓Z48, ↓Z0g, Z49, Z07, Z32, Z35, evN, Z1g, Z34, Z1f, Z1e, Z2a, evT, Opd.ev, Z02, Z00, Z33, Z28, Z2b, Z0l, Z3o, LOp.isNew, State.prune, Heap.at, Z0j, Z03, rowW, Z16, Z4d, w_shr, w_bit, w_eq1, Bool.decide_eq_true, Z04, Z1y, Z06, Z4m, Z4l, binT, binQ, resQ, resV, resT, Z23, RetS, AV.d.injEq, DV.bool.injEq, ↓reduceIte, Nat.reduceBEq, List.length_cons, List.length_nil, List.replicate_zero, List.append_nil, List.map_cons, List.map_nil, List.getD_cons_zero, true_and, and_true, Nat.reduceLT, Nat.zero_add, Nat.add_zero, Bool.false_eq_true]
  refine ⟨fun c => ?_, fun c => ?_⟩
  · have c' : m < n := by omega
    rw [Z4h c' (by unfold maxLen; omega), wrapU (k := m) (by omega)]
    simp only [Z06]
    rw [hl, hp, mkR_get c']
    simp only [decide_eq_true c', decide_eq_true (by omega : m < 64), Bool.true_and]
    refine ⟨by omega, by omega, by omega, fun hb => ?_, fun hb => ?_⟩
    · rw [hr]; symm
      rw [List.any_eq_true]
      exact ⟨m, by simpa using c', hb⟩
    · refine Z36.mk [0] (m + 1) (by simp) (by simp) (by simp only [State.can, AV.can, HO.can, idx, Z02, Z00, Heap.at, Nat.reduceBEq, ↓reduceIte, Option.getD_some, Option.map_some, List.map_cons, List.map_nil, List.getD_cons_zero]) ⟨by omega, fun i hi => ?_⟩ (by omega)
      by_cases e1 : i = m
      · subst e1; simpa using hb
      · exact hno i (by omega)
  · have : m = n := by omega
    subst this
    rw [hr]; symm
    rw [List.any_eq_false]
    intro i hi
    rw [hno i (by simpa using hi)]; simp

/-! ### Of pairs -/
def ofBad (n : Int) (p : RatG) : Bool := decide (p.num < 0) || decide (n ≤ p.num) || decide (p.den < 0) || decide (n ≤ p.den)
def ofErr (n : Int) (l : List RatG) : Int := if n < 0 ∨ 64 < n then 1 else if l.any (ofBad n) then 2 else 0
def ofP (l : List RatG) (i k : Nat) : Bool := l.any fun p => decide (p.num = i) && decide (p.den = k)
def ofG (n : Int) (l : List RatG) : List W := if ofErr n l = 0 then mkR n.toNat (ofP l) else []
def ofAV (n : Int) (l : List RatG) : AV := .tup [.d (.list ((ofG n l).map rowW) false), .d (.int .i64 (ofErr n l))]
def sp_Of : Sp := ⟨Int × List RatG × Bool, fun x => [.d (.int .i64 x.1), .d (.list (x.2.1.map RatG.row) x.2.2)], fun x => .data (x.2.1.length ≤ maxLen) (ofAV x.1 x.2.1) true⟩
theorem at_Of (n : Int) (l : List RatG) (f : Bool) : sp_Of.at [.d (.int .i64 n), .d (.list (l.map RatG.row) f)] = .data (l.length ≤ maxLen) (.tup [.d (.list ((ofG n l).map rowW) false), .d (.int .i64 (ofErr n l))]) true :=
  Sp.at_enc (s := sp_Of) (fun x y h => by
    obtain ⟨a, b, c⟩ := x; obtain ⟨a', b', c'⟩ := y
    simp only [sp_Of, List.cons.injEq, AV.d.injEq, DV.list.injEq, DV.int.injEq, and_true, true_and] at h
    rw [h.1, Z3t RatG.row_inj h.2.1, h.2.2]) (n, l, f)
theorem any_take_succ {α : Type} {q : α → Bool} {l : List α} {i : Nat} {d : α} (h : i < l.length) : (l.take (i + 1)).any q = ((l.take i).any q || q (l.getD i d)) := by
  have e : l.take (i + 1) = l.take i ++ [l.getD i d] := by rw [List.take_add_one, List.getElem?_eq_getElem h, getD_lt h]; rfl
  rw [e, List.any_append, List.any_cons, List.any_nil, Bool.or_false]
theorem ofP_take {l : List RatG} {i a b : Nat} (h : i < l.length) : ofP (l.take (i + 1)) a b = (ofP (l.take i) a b || (decide ((l.getD i default).num = a) && decide ((l.getD i default).den = b))) := any_take_succ h
theorem body_rel_Of {T : Tab} : sp_Of.Body T V_rel_Of L_rel_Of R_rel_Of := by
  rintro ⟨n, l, f⟩ h1
  have h1 : l.length ≤ maxLen := h1
  refine .inr ⟨rfl, ?_⟩
  unfold V_rel_Of L_rel_Of R_rel_Of
  simp only [↓Z19, ↓Z26, ↓Z05, ↓Z1l, ↓Z17, ↓Z0h, ↓Z20, ↓Z0k, ↓Z1k, ↓Z30, ↓Z1j, ↓Z3b, ↓Z0i, ↓Z09, ↓Z0g, Z49, Z07, Z32, Z1a, Z35, evN, Z1g, Z34, Z1f, Z15, Z1e, Z29, Z2a, evT, Opd.ev, Z02, Z00, Z33, Z3q, Z27, Z28, Z2b, Z1m, Z0l, Z3o, LOp.isNew, State.prune, Z1c, Z4t, Z0m, Z4r, evMk, List.length_map, Z4l, binT, binQ, resQ, resV, resT, Z4u, Z23, RetF, AV.frz, AV.frzL, AV.freshP, AV.freshL, DV.less, Z2i, Z2j, Option.some.injEq, AV.tup.injEq, List.cons.injEq, DV.list.injEq, AV.d.injEq, DV.int.injEq, ↓reduceIte, Nat.reduceBEq, List.length_cons, List.length_nil, List.replicate_succ, List.replicate_zero, List.nil_append, List.append_nil, List.map_cons, List.map_nil, List.set_cons_zero, true_and, and_true, Option.map_some, and_self, Nat.zero_add, Nat.add_zero, Bool.false_eq_true, sp_Of, ofAV]
  have bad : (n < 0 ∨ 64 < n) → ofErr n l = 1 ∧ ofG n l = [] := fun h => by
    have : ofErr n l = 1 := by unfold ofErr; rw [if_pos h]
    exact ⟨this, by unfold ofG; rw [this]; rfl⟩
  refine ⟨fun c => ?_, fun c => ⟨fun c2 => ?_, fun c2 => ?_⟩⟩
  · obtain ⟨e1, e2⟩ := bad (.inl c)
    rw [e1, e2]; simp
  · obtain ⟨e1, e2⟩ := bad (.inr c2)
    rw [e1, e2]; simp
  · obtain ⟨n, rfl⟩ := Int.eq_ofNat_of_zero_le (by omega : 0 ≤ n)
    simp only [Z06]
    refine ⟨⟨by omega, by omega, roomy_of (by omega) (by omega)⟩, ?_⟩
    have notbad : ofErr n l = if l.any (ofBad n) then 2 else 0 := by unfold ofErr; rw [if_neg (by omega)]
    refine Loop.fam [0, 6, 17, 18, 19] (fun i : Nat => ⟨[(0, .d (.int .i64 n)), (6, .ref 0 1 0 n true), (17, .d (.list (l.map RatG.row) f)), (18, .d (.int .i64 l.length)), (19, .d (.int .i64 i))],
        [.dvec 1 ((mkR n (ofP (l.take i))).map rowW)]⟩) (fun i => i ≤ l.length ∧ (l.take i).any (ofBad n) = false) (fun i => l.length - i) 0 [0] (by simp) (by simp) (by
          simp only [State.can, AV.can, HO.can, idx, Z02, Z00, Heap.at, Nat.reduceBEq, ↓reduceIte, Option.getD_some, Option.map_some, List.map_cons, List.map_nil, List.getD_cons_zero]
          rw [mkR_zero (p := ofP (l.take 0)) (fun i k _ _ => by simp [ofP])]; rfl) ⟨by omega, by simp⟩ ?_
    rintro i ⟨hi, hb⟩
    simp only [↓Z19, ↓Z26, ↓Z1z, ↓Z05, ↓Z1l, ↓Z17, ↓Z0h, ↓Z0k, ↓Z1k, ↓Z31, ↓Z30, ↓Z24, ↓Z1x, ↓Z2c, ↓Z1j, ↓Z3b, ↓Z3y, ↓Z3w, ↓Z48, ↓Z0i, ↓Z09, ↓Z0g, Z49, Z07, Z1b, Z32, Z1a, Z35, evN, Z1g, Z34, Z41, Z1f, Z15, Z1e, Z29, Z2a, evT, Opd.ev, Z02, Z00, Z33, Z3z, Z3q, Z27, Z28, Z2b, Z0l, Z3o, LOp.isNew, State.prune, Z3u, Z37, AV.leaf, Heap.at, Z0j, Z0a, Z1i, Z03, rowW, Z2f, Z1d, Z16, w_or, Z43, Z3f, Z04, Z0b, Z0n, Z01, Z1y, RatG.row, Z2k, Z06, Int.reduceToNat, List.length_map, Z1w, List.take_of_length_le, Z4m, Z4v, Z4l, Z14, binT, binQ, chk, Z3v, Bool.and_self, resQ, resV, resT, Z4u, putRow, Z23, RetF, AV.frz, AV.frzL, AV.freshP, AV.freshL, DV.less, Z2i, Z2j, Option.some.injEq, AV.tup.injEq, List.cons.injEq, DV.list.injEq, Nat.le_refl, AV.d.injEq, DV.int.injEq, ↓reduceIte, Nat.reduceAdd, Nat.reduceBEq, List.length_cons, List.length_nil, List.replicate_succ, List.replicate_zero, List.nil_append, List.cons_append, List.append_nil, List.map_cons, List.map_nil, List.all_cons, List.all_nil, List.set_cons_zero, List.set_cons_succ, List.getD_cons_zero, List.getD_cons_succ, List.drop_zero, List.drop_succ_cons, List.take_zero, true_and, and_true, Option.map_some, and_self, Nat.reduceLT, List.reverse_cons, List.reverse_nil, Nat.zero_add, Nat.add_zero, Bool.false_eq_true, Nat.mul_one]
    refine ⟨fun g => ?_, fun g => ?_⟩
    · have g' : i < l.length := by omega
      have e1 := any_take_succ (q := ofBad n) (d := default) g'
      have e2 : ∀ a b, _ := fun a b => ofP_take (a := a) (b := b) g'
      have out : ofBad n (l.getD i default) = true → ofErr n l = 2 ∧ ofG n l = [] := fun h => by
        have h2 : l.any (ofBad n) = true := by
          rw [List.any_eq_true]
          refine ⟨l.getD i default, ?_, h⟩
          rw [getD_lt g']; exact List.getElem_mem g'
        have : ofErr n l = 2 := by rw [notbad, if_pos h2]
        exact ⟨this, by unfold ofG; rw [this]; rfl⟩
      generalize l.getD i default = x at *
      simp only [Z4h g' h1]
      have isbad : ∀ q : ofBad n x = true, ([] : List (List DV)) = List.map rowW (ofG n l) ∧ (2 : Int) = ofErr n l := fun q => by
        obtain ⟨o1, o2⟩ := out q
        rw [o1, o2]; simp
      refine ⟨by omega, by omega, fun b1 => isbad (by simp [ofBad, b1]), fun b1 => ⟨by omega, fun b2 => isbad (by simp [ofBad, b2]), fun b2 => ⟨by omega, fun b3 => isbad (by simp [ofBad, b3]), fun b3 => ⟨by omega, fun b4 => isbad (by simp [ofBad, b4]), fun b4 => ?_⟩⟩⟩⟩
      have nb : ofBad n x = false := by simp [ofBad]; omega
      obtain ⟨a, ha⟩ := Int.eq_ofNat_of_zero_le (by omega : 0 ≤ x.num)
      obtain ⟨b, hb2⟩ := Int.eq_ofNat_of_zero_le (by omega : 0 ≤ x.den)
      simp only [ha, hb2] at e2 b2 b4 ⊢
      simp only [wrapU (k := b) (by omega), Z06, Z43, w_or]
      rw [Z4o]
      refine ⟨by omega, by omega, by omega, by omega, by omega, by omega, by omega, ?_⟩
      have han : a < n := by omega
      refine Z36.mk [0] (i + 1) (by simp) (by simp) ?_ ⟨by omega, by rw [e1, hb, nb]; rfl⟩ (by omega)
      rw [mkR_set (q := ofP (l.take (i + 1))) han]
      · simp only [State.can, AV.can, HO.can, idx, Z02, Z00, Heap.at, Nat.reduceBEq, ↓reduceIte, Option.getD_some, Option.map_some, List.map_cons, List.map_nil, List.getD_cons_zero]
      · intro k hk
        rw [BitVec.getLsbD_or, mkR_get han, one_shl (by omega), e2]
        by_cases hkn : k < n
        · by_cases e3 : b = k
          · subst e3; simp [hkn, hk]
          · have : ¬ (b : Int) = k := by omega
            simp [hkn, hk, e3, this]
        · have : ¬ b = k := by omega
          simp [hkn, this]
      · intro a' k ha' hk hne
        rw [e2]
        have : ¬ (a : Int) = a' := by omega
        simp [this]
    · have : i = l.length := by omega
      subst this
      rw [List.take_length] at hb ⊢
      have e1 : ofErr n l = 0 := by rw [notbad, hb]; rfl
      have e2 : ofG n l = mkR n (ofP l) := by unfold ofG; rw [e1, if_pos rfl]; rfl
      rw [e1, e2]
      simp [Z4o, List.take_of_length_le]

/-! ### Order -/
def freeK (B : List W) (told : W) (k : Nat) : Bool := !told.getLsbD k && decide (B.getD k 0#64 &&& ~~~told = 0#64)
def freeAt (B : List W) (n : Nat) (told : W) : Nat := ((List.range n).find? (freeK B told)).getD n
theorem freeAt_eq {B : List W} {n a : Nat} {told : W} (hn : a ≤ n) (h : ∀ k, k < a → freeK B told k = false) (ha : a = n ∨ freeK B told a = true) : freeAt B n told = a := by
  unfold freeAt
  rcases Nat.lt_or_ge a n with hl | hl
  · have hf : freeK B told a = true := by rcases ha with ha | ha; omega; exact ha
    have e : (List.range n) = List.range a ++ (a :: (List.range (n - (a + 1))).map (fun x => (a + 1) + x)) := by
      have h1 : List.range n = List.range ((a + 1) + (n - (a + 1))) := by congr 1; omega
      rw [h1, List.range_add, List.range_succ, List.append_assoc]; rfl
    rw [e, List.find?_append, List.find?_eq_none.2 (fun x hx => by rw [h x (by simpa using hx)]; simp), Option.none_or, List.find?_cons_of_pos hf]; rfl
  · have : a = n := by omega
    subst this
    rw [List.find?_eq_none.2 (fun x hx => by rw [h x (by simpa using hx)]; simp)]; rfl
end Go.Ago

/- Contracts of package power: its small functions. Conditions: none. -/
set_option maxRecDepth 100000
set_option linter.unusedSimpArgs false
set_option linter.unusedVariables false
namespace Go.Ago

/-! ### Rows that a call made, taken as data -/
/-! ### Rows by a rule -/
def mapW (n : Nat) (f : Nat → W) : List W := (List.range n).map f
theorem mapW_len {n : Nat} {f : Nat → W} : (mapW n f).length = n := by simp [mapW]
theorem mapW_get {n i : Nat} {f : Nat → W} (hi : i < n) : (mapW n f).getD i 0#64 = f i := by
  rw [List.getD_eq_getElem?_getD, mapW, List.getElem?_map, List.getElem?_range hi]; rfl
theorem list_ext0 {l l' : List W} (hl : l.length = l'.length) (h : ∀ i, i < l.length → l.getD i 0#64 = l'.getD i 0#64) : l = l' := by
  apply List.ext_getElem hl
  intro i h1 h2
  have := h i h1
  rwa [getD_lt h1, getD_lt h2] at this
theorem mapW_set {n i : Nat} {f g : Nat → W} {x : W} (hi : i < n) (hx : x = g i) (ho : ∀ a, a < n → a ≠ i → g a = f a) : (mapW n f).set i x = mapW n g := by
  apply list_ext0 (by simp [mapW_len])
  intro a ha
  rw [List.length_set, mapW_len] at ha
  rw [getD_set (by rw [mapW_len]; exact hi), mapW_get ha]
  by_cases e : i = a
  · subst e; rw [if_pos rfl, hx, mapW_get hi]
  · rw [if_neg e, mapW_get ha, ho a ha (Ne.symm e)]
theorem mapW_congr {n : Nat} {f g : Nat → W} (h : ∀ a, a < n → f a = g a) : mapW n f = mapW n g := by
  apply list_ext0 (by simp [mapW_len])
  intro a ha
  rw [mapW_len] at ha
  rw [mapW_get ha, mapW_get ha, h a ha]
/-! ### keep -/
def keepG (r : List W) (a b : W) : List W := mapW r.length fun i => if a.getLsbD i then r.getD i 0#64 &&& b else 0#64
/-! ### Two loops, bit by bit -/
/-! ### fit -/
def fitG (r : List W) (n : Nat) : List W := mkR n (hasN r)
/-! ### trim -/
def trimG (r : List W) (n : Nat) : List W := r.take n ++ List.replicate (n - r.length) 0#64
theorem body_slices_Clone_uint64 {T : Tab} : (cloneS 1 8).Body T V_slices_Clone_uint64 L_slices_Clone_uint64 R_slices_Clone_uint64 := by
  rintro ⟨l, full⟩ ⟨h1, h2⟩
  refine ⟨h1, ?_⟩
  unfold V_slices_Clone_uint64 L_slices_Clone_uint64 R_slices_Clone_uint64
  simp only [↓Z19, ↓Z26, ↓Z1z, ↓Z05, ↓Z2m, ↓Z2l, Z4b, Z4g, ↓Z1l, ↓Z17, ↓Z0h, ↓Z20, ↓Z0k, ↓Z1k, ↓Z31, ↓Z30, ↓Z24, ↓Z1x, ↓Z2o, ↓Z2c, ↓Z1j, ↓Z3b, ↓Z4c, ↓Z3l, ↓Z3n, ↓Z3m, ↓Z3y, ↓Z3w, ↓Z48, ↓Z0i, ↓Z09, ↓Z18, ↓Z0g, ↓Z1o, Z49, Z07, Z1b, Z32, Z1a, Z35, evN, Z2g, Z1g, Z34, Z41, Z1f, Z15, Z1e, Z2v, Z2h, Z29, Z1h, Z2a, evT, Opd.ev, Z02, Z00, Z33, Z3z, Z3q, Z27, Z1n, Z28, Z2b, Z3j, Z1m, Z0l, Z3o, LOp.isNew, State.prune, Z3u, Z37, AV.leaf, Heap.at, Z0j, Z0a, Z1i, Z0e, Z03, idx_I, idx_U, Z3f, Z3e, Z3i, Z2p, Z1p, Z04, Z0b, Z0n, Z01, Z1y, rowI, rowU, RatG.row, LocG.row, ActG.row, StepG.row, StampG.row, ActG.av, ActG.eta, RatG.eta, LocG.eta, beq_true, beq_false, Z2k, Z2u, set_rowU, Z2n, app_rowU, Z2t, rep_rowU, Z12, Z0q, Z10, Z11, Z0p, Z0o, Z0c, List.length_set, List.length_replicate, Int.toNat_natCast, Int.reduceToNat, Z4t, Z2d, Z4a, Src.all, Src.len, Src.leaf, Src.leafN, Z3a, Z44, Z4p, Z0m, Z0r, Z0s, Z0t, Z0u, Z0v, Z0w, Z0x, Z4r, drows, evMk, List.length_map, take_map_len, take_map_ge, Z4m, Z4v, Z4l, evUn, binT, binQ, chk, Z3v, List.contains_cons, List.contains_nil, Bool.or_false, Bool.false_or, Bool.and_self, resQ, resV, resT, Z4u, Z2e, Z47, Z3g, fnOf, Z3c, isD, HO.drow, Z4j, Z3x, evEq, eqV, eqK, eqC1, Z45, Z40, Z39, Z38, Z4f, Z3k, lens_U, lensA_U, Z2s, Z1s, Z2r, Z1r, Z2q, Z1q, Z1t, Z0y, Z0z, Z0d, List.mem_cons, List.not_mem_nil, or_false, forall_eq, putRow, Z3r, Z23, RetS, RetF, RetD, AV.frz, AV.frzL, AV.freshP, AV.freshL, DV.less, Z2i, Z1u, Z2j, Z1v, scal_rowU, Z0f, Z08, Option.some.injEq, AV.tup.injEq, AV.agg.injEq, List.cons.injEq, DV.list.injEq, List.isEmpty_nil, Nat.le_refl, AV.d.injEq, DV.int.injEq, DV.bool.injEq, ↓reduceIte, Nat.reduceEqDiff, Nat.reduceAdd, Nat.reduceBEq, List.length_cons, List.length_nil, List.replicate_succ, List.replicate_zero, List.nil_append, List.cons_append, List.append_nil, List.foldl_cons, List.foldl_nil, List.map_cons, List.map_nil, List.all_cons, List.all_nil, List.set_cons_zero, List.set_cons_succ, List.getD_cons_zero, List.getD_cons_succ, List.drop_zero, List.drop_succ_cons, List.take_succ_cons, List.take_zero, List.flatten_cons, List.flatten_nil, Bool.true_and, Bool.and_true, Bool.not_true, Bool.not_false, true_and, and_true, true_or, or_true, Option.bind_some, Option.map_some, decide_true, decide_false, beq_self_eq_true, true_implies, false_implies, implies_true, not_true_eq_false, not_false_eq_true, and_self, Bool.and_false, Bool.false_and, Nat.reduceLT, Nat.reduceLeDiff, List.reverse_cons, List.reverse_nil, Nat.zero_add, Nat.add_zero, Bool.false_eq_true, List.getElem?_cons_zero, cloneS]
  exact clone_end h1 h2
/-! ### where -/
/-- A node of an execution is a row of four numbers, as an act is: Thread, Kind, Loc, Val. -/
abbrev NodeG := ActG
def NodeG.th (n : NodeG) : Int := n.kind
def NodeG.kd (n : NodeG) : Int := n.loc
def NodeG.lc (n : NodeG) : Int := n.old
def apartQ (a b : NodeG) : Bool := !decide (a.th = b.th) || decide (a.th < 0)
def locQ (a b : NodeG) : Bool := decide (a.lc = b.lc)
/-- What a candidate execution is, and what is made of it. -/
structure MG where
  nodes : List NodeG
  nf : Bool
  xn : List NodeG
  xf : Bool
  po : List W
  rf : List W
  co : List W
  fr : List W
  addr : List W
  data : List W
  ctrl : List W
  fenced : List W
  sync : List W
  lwsync : List W
  pairs : List W
  read : W
  write : W
def lsW (r : List W) : DV := .list (r.map rowW) false
def MG.cells (m : MG) : List DV := [.list (m.nodes.map ActG.row) m.nf, .list (m.xn.map ActG.row) m.xf, lsW m.po, lsW m.rf, lsW m.co, lsW m.fr, lsW m.addr, lsW m.data, lsW m.ctrl, lsW m.fenced, lsW m.sync, lsW m.lwsync, lsW m.pairs,
  .int .u64 (m.read.toNat : Int), .int .u64 (m.write.toNat : Int)]
def whereG (nodes : List NodeG) (q : NodeG → NodeG → Bool) (r : List W) : List W := mkR r.length fun i k => hasN r i k && q (nodes.getD i default) (nodes.getD k default)
/-! ### ext, poloc -/
/-! ### all -/
theorem lay2_len {q : Bool → Bool → Bool} {A B : List W} : (lay2 q A B).length = mxR A B := Z4o
end Go.Ago

/- Deeds: rows of five numbers, and lists of lists. Conditions: none. -/
set_option maxRecDepth 100000
set_option linter.unusedSimpArgs false
set_option linter.unusedVariables false
namespace Go.Ago
structure DeedG where
  th : Int
  act : ActG
  deriving DecidableEq, Inhabited
def DeedG.row (d : DeedG) : List DV := [.int .i64 d.th, .int .i64 d.act.kind, .int .i64 d.act.loc, .int .i64 d.act.old, .int .i64 d.act.new]
theorem DeedG.row_inj (x y : DeedG) (h : x.row = y.row) : x = y := by
  obtain ⟨t, ⟨a, b, c, d⟩⟩ := x; obtain ⟨t', ⟨a', b', c', d'⟩⟩ := y
  simp [DeedG.row] at h; simp [h]
theorem idx_Deed {l : List DeedG} {full : Bool} {kd : IntKind} {n : Int} {k : Delta → Prop} : stepK (evIdxAddr 5 (.d (.list (l.map DeedG.row) full)) (.d (.int kd n))) k ↔ (0 ≤ n ∧ n < l.length) ∧ k ⟨.dptr (DeedG.row (l.getD n.toNat default)) 0, [], []⟩ := stepK_idx_map (fun _ => rfl)
theorem Z4k {l : List DeedG} {t a b c d : Int} : l.map DeedG.row ++ [[.int .i64 t, .int .i64 a, .int .i64 b, .int .i64 c, .int .i64 d]] = (l ++ [(⟨t, ⟨a, b, c, d⟩⟩ : DeedG)]).map DeedG.row := by simp [DeedG.row]
theorem Z46 {l : List DeedG} : (∀ r ∈ l.map DeedG.row, ∀ x ∈ r, DV.scal x = true) ↔ True := ⟨fun _ => trivial, fun _ r hr x hx => by
  obtain ⟨n, _, rfl⟩ := List.mem_map.1 hr; simp [DeedG.row] at hx; rcases hx with rfl | rfl | rfl | rfl | rfl <;> rfl⟩
theorem lens_Deed {l : List DeedG} : (∀ r ∈ l.map DeedG.row, r.length = 5) ↔ True := ⟨fun _ => trivial, fun _ => rows_len (f := DeedG.row) (fun _ => rfl) l⟩
theorem Z4s {l : List DeedG} : (∀ r ∈ List.map (fun x => List.map AV.d x) (l.map DeedG.row), r.length = 5) ↔ True := ⟨fun _ => trivial, fun _ r hr => by
  obtain ⟨x, hx, rfl⟩ := List.mem_map.1 hr
  simpa using rows_len (f := DeedG.row) (sz := 5) (fun _ => rfl) l x hx⟩
def rowLA (x : List ActG × Bool) : List DV := [.list (x.1.map ActG.row) x.2]
theorem rowLA_inj (x y : List ActG × Bool) (h : rowLA x = rowLA y) : x = y := by
  obtain ⟨a, b⟩ := x; obtain ⟨c, d⟩ := y
  simp only [rowLA, List.cons.injEq, DV.list.injEq, and_true] at h
  rw [Z3t ActG.row_inj h.1, h.2]
theorem idx_LA {l : List (List ActG × Bool)} {full : Bool} {kd : IntKind} {n : Int} {k : Delta → Prop} : stepK (evIdxAddr 1 (.d (.list (l.map rowLA) full)) (.d (.int kd n))) k ↔ (0 ≤ n ∧ n < l.length) ∧ k ⟨.dptr (rowLA (l.getD n.toNat default)) 0, [], []⟩ := stepK_idx_map (fun _ => rfl)
theorem rowLA_len (x : List ActG × Bool) : (rowLA x).length = 1 := rfl
theorem rowLA_get (x : List ActG × Bool) : (rowLA x).getD 0 DV.nilp = .list (x.1.map ActG.row) x.2 := rfl
def rowLI (x : List Int × Bool) : List DV := [.list (x.1.map rowI) x.2]
theorem rowLI_inj (x y : List Int × Bool) (h : rowLI x = rowLI y) : x = y := by
  obtain ⟨a, b⟩ := x; obtain ⟨c, d⟩ := y
  simp only [rowLI, List.cons.injEq, DV.list.injEq, and_true] at h
  rw [Z3t rowI_inj h.1, h.2]
theorem idx_LI {l : List (List Int × Bool)} {full : Bool} {kd : IntKind} {n : Int} {k : Delta → Prop} : stepK (evIdxAddr 1 (.d (.list (l.map rowLI) full)) (.d (.int kd n))) k ↔ (0 ≤ n ∧ n < l.length) ∧ k ⟨.dptr (rowLI (l.getD n.toNat default)) 0, [], []⟩ := stepK_idx_map (fun _ => rfl)
theorem rowLI_len (x : List Int × Bool) : (rowLI x).length = 1 := rfl
theorem rowLI_get (x : List Int × Bool) : (rowLI x).getD 0 DV.nilp = .list (x.1.map rowI) x.2 := rfl
/-! ### The deeds of threads -/
def initD (x : LocG) (i : Nat) : DeedG := ⟨-1, ⟨if x.atom then 4 else 2, i, 0, x.init⟩⟩
def initL (l : List LocG) (k : Nat) : List DeedG := (List.range k).map fun i => initD (l.getD i default) i
theorem initL_succ (l : List LocG) (k : Nat) : initL l (k + 1) = initL l k ++ [initD (l.getD k default) k] := by unfold initL; rw [List.range_succ, List.map_append]; rfl
theorem initL_len (l : List LocG) (k : Nat) : (initL l k).length = k := by unfold initL; simp
def keepD (t : Nat) (as0 : List ActG) : List DeedG := (as0.filter fun a => decide (¬ a.kind = 6)).map fun a => ⟨t, a⟩
def keptTo (acts : List (List ActG × Bool)) (t : Nat) : List DeedG := ((List.range t).map fun i => keepD i (acts.getD i default).1).flatten
theorem keptTo_succ (acts : List (List ActG × Bool)) (t : Nat) : keptTo acts (t + 1) = keptTo acts t ++ keepD t (acts.getD t default).1 := by
  unfold keptTo; rw [List.range_succ, List.map_append, List.flatten_append]; simp
def rightA (l : List LocG) (acts : List (List ActG × Bool)) : Bool := acts.all fun x => x.1.all fun a => a.right l
def deedsAll (l : List LocG) (acts : List (List ActG × Bool)) : List DeedG := initL l l.length ++ keptTo acts acts.length
def deedsG (l : List LocG) (acts : List (List ActG × Bool)) : List DeedG × Int :=
  if 16 < l.length ∨ 3 < acts.length then ([], 1) else if rightA l acts = false then ([], 3) else if 64 < (deedsAll l acts).length then ([], 15) else (deedsAll l acts, 0)
def smallA (l : List LocG) (acts : List (List ActG × Bool)) : Prop := l.length ≤ 20 ∧ acts.length ≤ 5 ∧ ∀ x ∈ acts, x.1.length ≤ 70
def sp_Deeds : Sp := ⟨List LocG × Bool × List (List ActG × Bool) × Bool, fun x => [.d (.list (x.1.map LocG.row) x.2.1), .d (.list (x.2.2.1.map rowLA) x.2.2.2)],
  fun x => .data (smallA x.1 x.2.2.1) (.tup [.d (.list ((deedsG x.1 x.2.2.1).1.map DeedG.row) false), .d (.int .i64 (deedsG x.1 x.2.2.1).2)]) false⟩
theorem at_Deeds (l : List LocG) (f : Bool) (acts : List (List ActG × Bool)) (g : Bool) : sp_Deeds.at [.d (.list (l.map LocG.row) f), .d (.list (acts.map rowLA) g)] =
    .data (smallA l acts) (.tup [.d (.list ((deedsG l acts).1.map DeedG.row) false), .d (.int .i64 (deedsG l acts).2)]) false :=
  Sp.at_enc (s := sp_Deeds) (fun x y h => by
    obtain ⟨a, b, c, d⟩ := x; obtain ⟨a', b', c', d'⟩ := y
    simp only [sp_Deeds, List.cons.injEq, AV.d.injEq, DV.list.injEq, and_true] at h
    rw [Z3t LocG.row_inj h.1.1, h.1.2, Z3t rowLA_inj h.2.1, h.2.2]) (l, f, acts, g)
theorem keep_kept {t : Nat} {as0 : List ActG} {j : Nat} (hj : j < as0.length) : keepD t (as0.take (j + 1)) = keepD t (as0.take j) ++ (if (as0.getD j default).kind = 6 then [] else [⟨t, as0.getD j default⟩]) := by
  unfold keepD
  rw [List.take_add_one, List.getElem?_eq_getElem hj, List.getD_eq_getElem?_getD, List.getElem?_eq_getElem hj]
  simp only [Option.toList_some, List.filter_append, List.map_append, Option.getD_some]
  by_cases h : as0[j].kind = 6
  · simp [h]
  · simp [h]
theorem keepD_le (t : Nat) (as0 : List ActG) : (keepD t as0).length ≤ as0.length := by unfold keepD; rw [List.length_map]; exact List.length_filter_le _ _
theorem keptTo_le {acts : List (List ActG × Bool)} (h : ∀ x ∈ acts, x.1.length ≤ 70) : ∀ t, t ≤ acts.length → (keptTo acts t).length ≤ 70 * t
  | 0, _ => by unfold keptTo; simp
  | t + 1, ht => by
    rw [keptTo_succ, List.length_append]
    have := keptTo_le h t (by omega)
    have := keepD_le t (acts.getD t default).1
    have h2 : (acts.getD t default).1.length ≤ 70 := by rw [getD_lt (by omega)]; exact h _ (List.getElem_mem _)
    omega
end Go.Ago

/- A list that is nil, taken as a row of ours that has nothing in it. Conditions: none. -/
set_option linter.unusedSimpArgs false
set_option linter.unusedVariables false
namespace Go.Ago
theorem at_snoc {H : Heap} {x : HO} {i : Nat} (hi : i < H.length) : Heap.at (H ++ [x]) i = H.at i := by
  unfold Heap.at
  rw [List.getD_eq_getElem?_getD, List.getD_eq_getElem?_getD, List.getElem?_append_left hi]
theorem SimH.nilobj {P : Program} {A : Nat → Prop} {φ : Nat → Option (Nat × Nat)} {H : Heap} {w : World} (h : SimH P A φ H w) (sz : Nat) :
    SimH P A φ (H ++ [.dvec sz []]) w ∧ Onward A φ H w φ (H ++ [.dvec sz []]) w := by
  have hlt : ∀ i b o, φ i = some (b, o) → i < H.length := fun i b o hb => (h.dom i b o hb).1
  have hat : ∀ i b o, φ i = some (b, o) → Heap.at (H ++ [.dvec sz []]) i = H.at i := fun i b o hb => at_snoc (hlt i b o hb)
  have hmono : ∀ b, own φ (H ++ [.dvec sz []]) b → own φ H b := fun b ⟨j, o, hal, hb⟩ => ⟨j, o, by rw [← hat j b o hb]; exact hal, hb⟩
  have hon : Onward A φ H w φ (H ++ [.dvec sz []]) w := ⟨fun _ _ h => h, Pres.refl _ _, fun b hb => .inl (hmono b hb)⟩
  refine ⟨⟨fun j b o hb => ⟨by rw [List.length_append]; have := hlt j b o hb; omega, (h.dom j b o hb).2⟩, fun j sz' rows' hr hn => ?_, fun j k b o1 o2 hj hk h1 h2 => ?_, h.amb, fun b hA ho => h.apart b hA (hmono b ho), fun j b o hal hb => ?_, hon.tab h.tab⟩, hon⟩
  · rcases Nat.lt_or_ge j H.length with hl | hl
    · rw [at_snoc hl] at hr; exact h.there j sz' rows' hr hn
    · unfold Heap.at at hr
      rw [List.getD_eq_getElem?_getD, List.getElem?_append_right hl] at hr
      by_cases e : j = H.length
      · rw [e] at hr
        simp [HO.rows] at hr
        exact absurd hr.2 hn
      · rw [List.getElem?_eq_none (by simp; omega)] at hr
        simp [HO.rows] at hr
  · rw [hat j b o1 h1] at hj
    rw [hat k b o2 h2] at hk
    exact h.inj j k b o1 o2 hj hk h1 h2
  · rw [hat j b o hb] at hal ⊢
    intro sz' rows' hr
    obtain ⟨c1, T1, e1, e2, e3, e4⟩ := h.objs j b o hal hb sz' rows' hr
    exact ⟨c1, T1, e1, e2, e3, fun k r j x hk hx => by obtain ⟨v, hv, hrel⟩ := e4 k r j x hk hx; exact ⟨v, hv, hon.rel hrel⟩⟩
theorem nil_says {n0 : Nat} {env : Env} {H : Heap} {t : Nat} (sz : Nat) (h : Env.get env t = .d (.list [] true)) : Says n0 ⟨env, H⟩ ⟨(t, .ref H.length sz 0 0 true) :: env, H ++ [.dvec sz []]⟩ := by
  intro P A n φ a w hs
  obtain ⟨s1, o1⟩ := hs.heap.nilobj sz
  refine ⟨φ, ⟨s1, hs.size, hs.defs, fun t' => ?_⟩, fun _ _ => rfl, o1.pres, o1.mono⟩
  show Rel φ _ w (if t = t' then _ else Env.get env t') _
  by_cases e : t = t'
  · rw [if_pos e]
    subst e
    have hr := hs.slots t
    have hr' : Rel φ (Mb A φ H) w (.d (.list [] true)) (a.tmps.getD t undef) := by rw [← h]; exact hr
    generalize a.tmps.getD t undef = v at hr'
    cases hr' with
    | d _ _ hd =>
      generalize hx : DV.list [] true = x at hd
      cases hd with
      | nil full ad cap hfull =>
        simp only [DV.list.injEq, true_and] at hx
        rw [hfull hx.symm]
        exact .ref0 _ _ _ _ _
      | list rows full sz' b off cap f hb hM hsz hcap hfull hc hrr =>
        simp only [DV.list.injEq] at hx
        obtain ⟨rfl, rfl⟩ := hx
        have := hfull rfl
        simp at this
        subst this
        exact .ref0 _ _ _ _ _
      | _ => cases hx
  · rw [if_neg e]
    exact o1.rel (hs.slots t')
theorem Loop.nilref {T : Tab} {n0 : Nat} {live : List Nat} {b : LCode} {env : Env} {H : Heap} {K : AExit → State → Prop} (t sz : Nat) (h : Env.get env t = .d (.list [] true)) (hn : n0 ≤ H.length)
    (g : Loop T n0 live b ⟨(t, .ref H.length sz 0 0 true) :: env, H ++ [.dvec sz []]⟩ K) : Loop T n0 live b ⟨env, H⟩ K :=
  Loop.says (nil_says sz h) (by show n0 ≤ (H ++ [_]).length; rw [List.length_append]; omega) g
end Go.Ago

/- Chapter 23: the deeds. Conditions: none. -/
set_option maxRecDepth 100000
set_option linter.unusedSimpArgs false
set_option linter.unusedVariables false
namespace Go.Ago
attribute [local irreducible] vck
def dSt1 (l : List LocG) (f : Bool) (acts : List (List ActG × Bool)) (g : Bool) (i : Nat) : State :=
  ⟨[(0, .d (.list (l.map LocG.row) f)), (1, .d (.list (acts.map rowLA) g)), (6, .ref 0 5 0 (initL l i).length true), (23, .d (.list (l.map LocG.row) f)), (24, .d (.int .i64 l.length)), (25, .d (.int .i64 i))], [.dvec 5 ((initL l i).map DeedG.row)]⟩
def dSt2 (l : List LocG) (f : Bool) (acts : List (List ActG × Bool)) (g : Bool) (x : Nat × Nat × List DeedG) : State :=
  ⟨[(0, .d (.list (l.map LocG.row) f)), (6, .ref 0 5 0 x.2.2.length true), (10, .d (.int .i64 x.2.1)), (45, .d (.list (acts.map rowLA) g)), (46, .d (.int .i64 acts.length)), (47, .d (.int .i64 x.1))], [.dvec 5 (x.2.2.map DeedG.row)]⟩
def dInv2 (l : List LocG) (acts : List (List ActG × Bool)) (x : Nat × Nat × List DeedG) : Prop :=
  x.1 ≤ acts.length ∧ (∀ i, i < x.1 → (acts.getD i default).1.all (fun a => a.right l) = true) ∧ x.2.1 = l.length + (keptTo acts x.1).length ∧ x.2.2 = (initL l l.length ++ keptTo acts x.1).take 64
def dSt3 (l : List LocG) (f : Bool) (acts : List (List ActG × Bool)) (g : Bool) (t : Nat) (as0 : List ActG) (ag : Bool) (x : Nat × Nat × List DeedG) : State :=
  ⟨[(0, .d (.list (l.map LocG.row) f)), (6, .ref 0 5 0 x.2.2.length true), (10, .d (.int .i64 x.2.1)), (11, .d (.int .i64 t)), (45, .d (.list (acts.map rowLA) g)), (46, .d (.int .i64 acts.length)), (47, .d (.int .i64 t)), (52, .d (.list (as0.map ActG.row) ag)), (53, .d (.int .i64 as0.length)), (54, .d (.int .i64 x.1))],
    [.dvec 5 (x.2.2.map DeedG.row)]⟩
def dInv3 (l : List LocG) (acts : List (List ActG × Bool)) (t : Nat) (as0 : List ActG) (x : Nat × Nat × List DeedG) : Prop :=
  x.1 ≤ as0.length ∧ (∀ i, i < x.1 → (as0.getD i default).right l = true) ∧ x.2.1 = l.length + (keptTo acts t ++ keepD t (as0.take x.1)).length ∧ x.2.2 = (initL l l.length ++ (keptTo acts t ++ keepD t (as0.take x.1))).take 64
theorem rightA_no {l : List LocG} {acts : List (List ActG × Bool)} {t j : Nat} (ht : t < acts.length) (hj : j < (acts.getD t default).1.length) (h : ((acts.getD t default).1.getD j default).right l = false) : rightA l acts = false := by
  unfold rightA
  rw [Bool.eq_false_iff]
  intro hh
  rw [List.all_eq_true] at hh
  have h1 := hh (acts.getD t default) (by rw [getD_lt ht]; exact List.getElem_mem ht)
  rw [List.all_eq_true] at h1
  have h2 := h1 ((acts.getD t default).1.getD j default) (by rw [getD_lt hj]; exact List.getElem_mem hj)
  rw [h] at h2; cases h2
theorem rightA_yes {l : List LocG} {acts : List (List ActG × Bool)} (h : ∀ i, i < acts.length → (acts.getD i default).1.all (fun a => a.right l) = true) : rightA l acts = true := by
  unfold rightA
  rw [List.all_eq_true]
  intro x hx
  obtain ⟨i, hi, rfl⟩ := List.getElem_of_mem hx
  have := h i hi
  rwa [getD_lt hi] at this
theorem take64_app {α : Type} {D : List α} {a : α} (h : D.length < 64) : (D ++ [a]).take 64 = D.take 64 ++ [a] := by
  rw [List.take_of_length_le (by rw [List.length_append, List.length_singleton]; omega), List.take_of_length_le (by omega)]
theorem take64_no {α : Type} {D : List α} {a : α} (h : 64 ≤ D.length) : (D ++ [a]).take 64 = D.take 64 := List.take_append_of_le_length h
set_option maxHeartbeats 4000000 in
theorem body_axiom_Deeds {T : Tab} {n1 : Nat} (k1 : Knows T n1 sp_act_Right) : sp_Deeds.Body T V_axiom_Deeds (L_axiom_Deeds n1) R_axiom_Deeds := by
  have F1 := k1.F; have G1 := k1.G
  rintro ⟨l, f, acts, g⟩ ⟨h1, h2, h3⟩
  have h1 : l.length ≤ 20 := h1
  have h2 : acts.length ≤ 5 := h2
  have h3 : ∀ x ∈ acts, x.1.length ≤ 70 := h3
  refine ⟨rfl, ?_⟩
  unfold V_axiom_Deeds L_axiom_Deeds R_axiom_Deeds
  simp (maxSteps := 3000000) only [↓Z19, ↓Z26, ↓Z1z, ↓Z05, ↓Z2m, ↓Z2l, Z4b, Z4g, ↓Z1l, ↓Z17, ↓Z0h, ↓Z20, ↓Z0k, ↓Z1k, ↓Z31, ↓Z30, ↓Z24, ↓Z1x, ↓Z2o, ↓Z2c, ↓Z1j, ↓Z3b, ↓Z4c, ↓Z3l, ↓Z3n, ↓Z3m, ↓Z3y, ↓Z3w, ↓Z48, ↓Z0i, ↓Z09, ↓Z18, ↓Z0g, ↓Z1o, Z49, Z07, Z1b, Z32, Z1a, Z35, evN, Z2g, Z1g, Z34, Z41, Z1f, Z15, Z1e, Z2v, Z2h, Z29, Z1h, Z2a, evT, Opd.ev, Z02, Z00, Z33, Z3z, Z3q, Z27, Z1n, Z28, Z2b, Z3j, Z1m, Z0l, Z3o, LOp.isNew, State.prune, Z3u, Z37, AV.leaf, Heap.at, Z0j, Z0a, Z1i, Z0e, Z03, idx_I, idx_W, rowW, Z2f, Z2w, Z21, Z1c, rowB, Z2y, Z2x, rowN, Z4i, Z3p, Z1d, Z16, w_or, w_and, Z2z, Z4d, w_shl, Z43, w_shr, Z4e, w_neg, w_add, w_bit, w_eq0, w_eq1, w_eq, Bool.decide_eq_true, Z3f, Z3e, Z3i, Z2p, Z1p, Z04, Z0b, Z0n, Z01, Z1y, rowI, RatG.row, LocG.row, ActG.row, StepG.row, StampG.row, ActG.av, ActG.eta, RatG.eta, LocG.eta, beq_true, beq_false, Z2k, Z2u, Z2n, Z2t, Z12, Z0q, Z10, Z11, Z0p, Z0o, Z0c, List.length_set, List.length_replicate, Z06, Int.reduceToNat, Z4t, Z2d, Z4a, Src.all, Src.len, Src.leaf, Src.leafN, Z3a, Z44, Z4p, Z0m, Z0r, Z0s, Z0t, Z0u, Z0v, Z0w, Z0x, Z4r, drows, evMk, List.length_map, Z1w, Z22, List.take_length, List.take_left, List.length_append, Nat.le_add_right, ite_self, List.take_of_length_le, Z3d, Z4n, Z42, Option.isSome_none, Option.isSome_some, Nat.sub_zero, Z4m, Z4v, Z4l, evUn, Z13, Z14, binT, binQ, chk, Z3v, List.contains_cons, List.contains_nil, Bool.or_false, Bool.false_or, Bool.and_self, resQ, resV, resT, Z4u, Z2e, Z47, Z3g, fnOf, Z3c, isD, HO.drow, Z4j, Z3x, evEq, eqV, eqK, eqC1, Z45, Z40, Z39, Z38, Z4f, Z3k, Z2s, Z1s, Z2r, Z1r, Z2q, Z1q, Z1t, Z0y, Z0z, Z0d, List.mem_cons, List.not_mem_nil, or_false, forall_eq, putRow, Z3r, Z23, RetS, RetF, RetD, AV.frz, AV.frzL, AV.freshP, AV.freshL, DV.less, Z2i, Z1u, Z2j, Z1v, Z0f, Z08, Option.some.injEq, AV.tup.injEq, AV.agg.injEq, List.cons.injEq, DV.list.injEq, List.isEmpty_nil, Nat.le_refl, AV.d.injEq, DV.int.injEq, DV.bool.injEq, ↓reduceIte, Nat.reduceEqDiff, Nat.reduceAdd, Nat.reduceBEq, List.length_cons, List.length_nil, List.replicate_succ, List.replicate_zero, List.nil_append, List.cons_append, List.append_nil, List.foldl_cons, List.foldl_nil, List.map_cons, List.map_nil, List.all_cons, List.all_nil, List.set_cons_zero, List.set_cons_succ, List.getD_cons_zero, List.getD_cons_succ, List.drop_zero, List.drop_succ_cons, List.take_succ_cons, List.take_zero, List.flatten_cons, List.flatten_nil, Bool.true_and, Bool.and_true, Bool.not_true, Bool.not_false, true_and, and_true, true_or, or_true, Option.bind_some, Option.map_some, decide_true, decide_false, beq_self_eq_true, true_implies, false_implies, implies_true, not_true_eq_false, not_false_eq_true, and_self, Bool.and_false, Bool.false_and, Nat.reduceLT, Nat.reduceLeDiff, List.reverse_cons, List.reverse_nil, Nat.zero_add, Nat.add_zero, Bool.false_eq_true, List.getElem?_cons_zero, Nat.reduceMul, Nat.mul_one, DeedG.row, idx_Deed, Z4k, Z46, lens_Deed, Z4s, idx_LA, rowLA_len, rowLA_get, idx_LI, rowLI_len, rowLI_get, sp_Deeds, F1, G1, at_act_Right]
  have e16 : 16 < l.length → deedsG l acts = ([], 1) := fun h => by unfold deedsG; rw [if_pos (.inl h)]
  have e3 : 3 < acts.length → deedsG l acts = ([], 1) := fun h => by unfold deedsG; rw [if_pos (.inr h)]
  refine ⟨fun c => by rw [e16 (by omega)]; exact ⟨rfl, rfl⟩, fun c => ⟨fun c2 => by rw [e3 (by omega)]; exact ⟨rfl, rfl⟩, fun c2 => ?_⟩⟩
  have c : l.length ≤ 16 := by omega
  have c2 : acts.length ≤ 3 := by omega
  refine Loop.nilref 6 5 rfl (Nat.zero_le _) ?_
  refine Loop.fam [0, 1, 6, 23, 24, 25] (dSt1 l f acts g) (fun i => i ≤ l.length) (fun i => l.length - i) 0 [0] (by simp) (by simp) (by simp only [List.length_nil, List.nil_append, State.can, AV.can, AV.canL, HO.can, Z25, idx, Z02, Z00, Heap.at, Nat.reduceBEq, ↓reduceIte, Nat.reduceEqDiff, Option.getD_some, Option.map_some, List.map_cons, List.map_nil, List.getD_cons_zero, List.getD_cons_succ, dSt1]; rfl) (by omega) ?_
  intro i hi
  have hi : i ≤ l.length := hi
  simp (maxSteps := 3000000) only [↓Z19, ↓Z26, ↓Z1z, ↓Z05, ↓Z2m, ↓Z2l, Z4b, Z4g, ↓Z1l, ↓Z17, ↓Z0h, ↓Z20, ↓Z0k, ↓Z1k, ↓Z31, ↓Z30, ↓Z24, ↓Z1x, ↓Z2o, ↓Z2c, ↓Z1j, ↓Z3b, ↓Z4c, ↓Z3l, ↓Z3n, ↓Z3m, ↓Z3y, ↓Z3w, ↓Z48, ↓Z0i, ↓Z09, ↓Z18, ↓Z0g, ↓Z1o, Z49, Z07, Z1b, Z32, Z1a, Z35, evN, Z2g, Z1g, Z34, Z41, Z1f, Z15, Z1e, Z2v, Z2h, Z29, Z1h, Z2a, evT, Opd.ev, Z02, Z00, Z33, Z3z, Z3q, Z27, Z1n, Z28, Z2b, Z3j, Z1m, Z0l, Z3o, LOp.isNew, State.prune, Z3u, Z37, AV.leaf, Heap.at, Z0j, Z0a, Z1i, Z0e, Z03, idx_I, idx_W, rowW, Z2f, Z2w, Z21, Z1c, rowB, Z2y, Z2x, rowN, Z4i, Z3p, Z1d, Z16, w_or, w_and, Z2z, Z4d, w_shl, Z43, w_shr, Z4e, w_neg, w_add, w_bit, w_eq0, w_eq1, w_eq, Bool.decide_eq_true, Z3f, Z3e, Z3i, Z2p, Z1p, Z04, Z0b, Z0n, Z01, Z1y, rowI, RatG.row, LocG.row, ActG.row, StepG.row, StampG.row, ActG.av, ActG.eta, RatG.eta, LocG.eta, beq_true, beq_false, Z2k, Z2u, Z2n, Z2t, Z12, Z0q, Z10, Z11, Z0p, Z0o, Z0c, List.length_set, List.length_replicate, Z06, Int.reduceToNat, Z4t, Z2d, Z4a, Src.all, Src.len, Src.leaf, Src.leafN, Z3a, Z44, Z4p, Z0m, Z0r, Z0s, Z0t, Z0u, Z0v, Z0w, Z0x, Z4r, drows, evMk, List.length_map, Z1w, Z22, List.take_length, List.take_left, List.length_append, Nat.le_add_right, ite_self, List.take_of_length_le, Z3d, Z4n, Z42, Option.isSome_none, Option.isSome_some, Nat.sub_zero, Z4m, Z4v, Z4l, evUn, Z13, Z14, binT, binQ, chk, Z3v, List.contains_cons, List.contains_nil, Bool.or_false, Bool.false_or, Bool.and_self, resQ, resV, resT, Z4u, Z2e, Z47, Z3g, fnOf, Z3c, isD, HO.drow, Z4j, Z3x, evEq, eqV, eqK, eqC1, Z45, Z40, Z39, Z38, Z4f, Z3k, Z2s, Z1s, Z2r, Z1r, Z2q, Z1q, Z1t, Z0y, Z0z, Z0d, List.mem_cons, List.not_mem_nil, or_false, forall_eq, putRow, Z3r, Z23, RetS, RetF, RetD, AV.frz, AV.frzL, AV.freshP, AV.freshL, DV.less, Z2i, Z1u, Z2j, Z1v, Z0f, Z08, Option.some.injEq, AV.tup.injEq, AV.agg.injEq, List.cons.injEq, DV.list.injEq, List.isEmpty_nil, Nat.le_refl, AV.d.injEq, DV.int.injEq, DV.bool.injEq, ↓reduceIte, Nat.reduceEqDiff, Nat.reduceAdd, Nat.reduceBEq, List.length_cons, List.length_nil, List.replicate_succ, List.replicate_zero, List.nil_append, List.cons_append, List.append_nil, List.foldl_cons, List.foldl_nil, List.map_cons, List.map_nil, List.all_cons, List.all_nil, List.set_cons_zero, List.set_cons_succ, List.getD_cons_zero, List.getD_cons_succ, List.drop_zero, List.drop_succ_cons, List.take_succ_cons, List.take_zero, List.flatten_cons, List.flatten_nil, Bool.true_and, Bool.and_true, Bool.not_true, Bool.not_false, true_and, and_true, true_or, or_true, Option.bind_some, Option.map_some, decide_true, decide_false, beq_self_eq_true, true_implies, false_implies, implies_true, not_true_eq_false, not_false_eq_true, and_self, Bool.and_false, Bool.false_and, Nat.reduceLT, Nat.reduceLeDiff, List.reverse_cons, List.reverse_nil, Nat.zero_add, Nat.add_zero, Bool.false_eq_true, List.getElem?_cons_zero, Nat.reduceMul, Nat.mul_one, DeedG.row, idx_Deed, Z4k, Z46, lens_Deed, Z4s, idx_LA, rowLA_len, rowLA_get, idx_LI, rowLI_len, rowLI_get, dSt1, F1, G1, at_act_Right]
  refine ⟨fun d => ⟨⟨by omega, by omega⟩, ?_⟩, fun d => ?_⟩
  · have d' : i < l.length := by omega
    have next : ∀ {S : State}, (4 < S.heap.length) → S.can [4] [0, 1, 6, 23, 24, 25] = ⟨[(0, .d (.list (l.map LocG.row) f)), (1, .d (.list (acts.map rowLA) g)), (6, .ref 0 5 0 (initL l i ++ [initD (l.getD i default) i]).length true), (23, .d (.list (l.map LocG.row) f)), (24, .d (.int .i64 l.length)), (25, .d (.int .i64 (i + 1 : Nat)))],
        [.dvec 5 ((initL l i ++ [initD (l.getD i default) i]).map DeedG.row)]⟩ → Z36 [0, 1, 6, 23, 24, 25] (dSt1 l f acts g) (fun i => i ≤ l.length) (fun i => l.length - i) (l.length - i) S := fun {S} hl hS =>
      Z36.mk [4] (i + 1) (by simp) (by simpa using hl) (by rw [hS]; unfold dSt1; rw [initL_succ]) (by show i + 1 ≤ l.length; omega) (by show l.length - (i + 1) < l.length - i; omega)
    have hr : roomy ((initL l i).length + 1) 40 := roomy_of (by rw [initL_len]; omega) (by omega)
    have w1 : IntKind.i64.wrap ((i : Int) + 1) = ((i + 1 : Nat) : Int) := by rw [wrap_id (by omega) (by omega)]; omega
    rw [w1]
    refine ⟨fun hb => ⟨hr, next (by simp) ?_⟩, fun hb => ⟨hr, next (by simp) ?_⟩⟩
    · unfold initD; rw [hb, if_pos rfl]
      simp only [State.can, AV.can, AV.canL, HO.can, Z25, idx, Z02, Z00, Heap.at, Nat.reduceBEq, ↓reduceIte, Nat.reduceEqDiff, Option.getD_some, Option.map_some, List.map_cons, List.map_nil, List.getD_cons_zero, List.getD_cons_succ, List.length_append, List.length_singleton]
    · unfold initD; rw [hb, if_neg (by simp)]
      simp only [State.can, AV.can, AV.canL, HO.can, Z25, idx, Z02, Z00, Heap.at, Nat.reduceBEq, ↓reduceIte, Nat.reduceEqDiff, Option.getD_some, Option.map_some, List.map_cons, List.map_nil, List.getD_cons_zero, List.getD_cons_succ, List.length_append, List.length_singleton]
  · have d' : i = l.length := by omega
    subst d'
    have hL := initL_len l l.length
    refine Loop.fam [0, 6, 10, 45, 46, 47] (dSt2 l f acts g) (dInv2 l acts) (fun x => acts.length - x.1) (0, l.length, initL l l.length) [0] (by simp) (by simp) (by simp only [State.can, AV.can, AV.canL, HO.can, Z25, idx, Z02, Z00, Heap.at, Nat.reduceBEq, ↓reduceIte, Nat.reduceEqDiff, Option.getD_some, Option.map_some, List.map_cons, List.map_nil, List.getD_cons_zero, List.getD_cons_succ, dSt2]; rw [hL]; rfl)
      ⟨Nat.zero_le _, fun i hi => by omega, by simp [keptTo], by simp only [keptTo]; rw [List.range_zero, List.map_nil, List.flatten_nil, List.append_nil, List.take_of_length_le (by omega)]⟩ ?_
    rintro ⟨t, n, O⟩ ⟨i1, i2, i3, i4⟩
    have i1 : t ≤ acts.length := i1
    have i2 : ∀ i, i < t → (acts.getD i default).1.all (fun a => a.right l) = true := i2
    have i3 : n = l.length + (keptTo acts t).length := i3
    have i4 : O = (initL l l.length ++ keptTo acts t).take 64 := i4
    have hkt := keptTo_le h3 t i1
    simp (maxSteps := 3000000) only [↓Z19, ↓Z26, ↓Z1z, ↓Z05, ↓Z2m, ↓Z2l, Z4b, Z4g, ↓Z1l, ↓Z17, ↓Z0h, ↓Z20, ↓Z0k, ↓Z1k, ↓Z31, ↓Z30, ↓Z24, ↓Z1x, ↓Z2o, ↓Z2c, ↓Z1j, ↓Z3b, ↓Z4c, ↓Z3l, ↓Z3n, ↓Z3m, ↓Z3y, ↓Z3w, ↓Z48, ↓Z0i, ↓Z09, ↓Z18, ↓Z0g, ↓Z1o, Z49, Z07, Z1b, Z32, Z1a, Z35, evN, Z2g, Z1g, Z34, Z41, Z1f, Z15, Z1e, Z2v, Z2h, Z29, Z1h, Z2a, evT, Opd.ev, Z02, Z00, Z33, Z3z, Z3q, Z27, Z1n, Z28, Z2b, Z3j, Z1m, Z0l, Z3o, LOp.isNew, State.prune, Z3u, Z37, AV.leaf, Heap.at, Z0j, Z0a, Z1i, Z0e, Z03, idx_I, idx_W, rowW, Z2f, Z2w, Z21, Z1c, rowB, Z2y, Z2x, rowN, Z4i, Z3p, Z1d, Z16, w_or, w_and, Z2z, Z4d, w_shl, Z43, w_shr, Z4e, w_neg, w_add, w_bit, w_eq0, w_eq1, w_eq, Bool.decide_eq_true, Z3f, Z3e, Z3i, Z2p, Z1p, Z04, Z0b, Z0n, Z01, Z1y, rowI, RatG.row, LocG.row, ActG.row, StepG.row, StampG.row, ActG.av, ActG.eta, RatG.eta, LocG.eta, beq_true, beq_false, Z2k, Z2u, Z2n, Z2t, Z12, Z0q, Z10, Z11, Z0p, Z0o, Z0c, List.length_set, List.length_replicate, Z06, Int.reduceToNat, Z4t, Z2d, Z4a, Src.all, Src.len, Src.leaf, Src.leafN, Z3a, Z44, Z4p, Z0m, Z0r, Z0s, Z0t, Z0u, Z0v, Z0w, Z0x, Z4r, drows, evMk, List.length_map, Z1w, Z22, List.take_length, List.take_left, List.length_append, Nat.le_add_right, ite_self, List.take_of_length_le, Z3d, Z4n, Z42, Option.isSome_none, Option.isSome_some, Nat.sub_zero, Z4m, Z4v, Z4l, evUn, Z13, Z14, binT, binQ, chk, Z3v, List.contains_cons, List.contains_nil, Bool.or_false, Bool.false_or, Bool.and_self, resQ, resV, resT, Z4u, Z2e, Z47, Z3g, fnOf, Z3c, isD, HO.drow, Z4j, Z3x, evEq, eqV, eqK, eqC1, Z45, Z40, Z39, Z38, Z4f, Z3k, Z2s, Z1s, Z2r, Z1r, Z2q, Z1q, Z1t, Z0y, Z0z, Z0d, List.mem_cons, List.not_mem_nil, or_false, forall_eq, putRow, Z3r, Z23, RetS, RetF, RetD, AV.frz, AV.frzL, AV.freshP, AV.freshL, DV.less, Z2i, Z1u, Z2j, Z1v, Z0f, Z08, Option.some.injEq, AV.tup.injEq, AV.agg.injEq, List.cons.injEq, DV.list.injEq, List.isEmpty_nil, Nat.le_refl, AV.d.injEq, DV.int.injEq, DV.bool.injEq, ↓reduceIte, Nat.reduceEqDiff, Nat.reduceAdd, Nat.reduceBEq, List.length_cons, List.length_nil, List.replicate_succ, List.replicate_zero, List.nil_append, List.cons_append, List.append_nil, List.foldl_cons, List.foldl_nil, List.map_cons, List.map_nil, List.all_cons, List.all_nil, List.set_cons_zero, List.set_cons_succ, List.getD_cons_zero, List.getD_cons_succ, List.drop_zero, List.drop_succ_cons, List.take_succ_cons, List.take_zero, List.flatten_cons, List.flatten_nil, Bool.true_and, Bool.and_true, Bool.not_true, Bool.not_false, true_and, and_true, true_or, or_true, Option.bind_some, Option.map_some, decide_true, decide_false, beq_self_eq_true, true_implies, false_implies, implies_true, not_true_eq_false, not_false_eq_true, and_self, Bool.and_false, Bool.false_and, Nat.reduceLT, Nat.reduceLeDiff, List.reverse_cons, List.reverse_nil, Nat.zero_add, Nat.add_zero, Bool.false_eq_true, List.getElem?_cons_zero, Nat.reduceMul, Nat.mul_one, DeedG.row, idx_Deed, Z4k, Z46, lens_Deed, Z4s, idx_LA, rowLA_len, rowLA_get, idx_LI, rowLI_len, rowLI_get, dSt2, F1, G1, at_act_Right]
    refine ⟨fun d => ⟨⟨by omega, by omega⟩, ?_⟩, fun d => ?_⟩
    · have d' : t < acts.length := by omega
      generalize hA : acts.getD t default = A
      obtain ⟨as0, ag⟩ := A
      have has : as0.length ≤ 70 := by
        have := h3 (acts.getD t default) (by rw [getD_lt d']; exact List.getElem_mem d')
        rw [hA] at this; exact this
      simp only
      refine Loop.fam [0, 6, 10, 11, 45, 46, 47, 52, 53, 54] (dSt3 l f acts g t as0 ag) (dInv3 l acts t as0) (fun x => as0.length - x.1) (0, n, O) [0] (by simp) (by simp) (by simp only [State.can, AV.can, AV.canL, HO.can, Z25, idx, Z02, Z00, Heap.at, Nat.reduceBEq, ↓reduceIte, Nat.reduceEqDiff, Option.getD_some, Option.map_some, List.map_cons, List.map_nil, List.getD_cons_zero, List.getD_cons_succ, dSt3]; rfl)
        ⟨Nat.zero_le _, fun i hi => by omega, by rw [i3]; simp [keepD], by rw [i4]; simp [keepD]⟩ ?_
      rintro ⟨j, m, Q⟩ ⟨j1, j2, j3, j4⟩
      have j1 : j ≤ as0.length := j1
      have j2 : ∀ i, i < j → (as0.getD i default).right l = true := j2
      have j3 : m = l.length + (keptTo acts t ++ keepD t (as0.take j)).length := j3
      have j4 : Q = (initL l l.length ++ (keptTo acts t ++ keepD t (as0.take j))).take 64 := j4
      simp (maxSteps := 3000000) only [↓Z19, ↓Z26, ↓Z1z, ↓Z05, ↓Z2m, ↓Z2l, Z4b, Z4g, ↓Z1l, ↓Z17, ↓Z0h, ↓Z20, ↓Z0k, ↓Z1k, ↓Z31, ↓Z30, ↓Z24, ↓Z1x, ↓Z2o, ↓Z2c, ↓Z1j, ↓Z3b, ↓Z4c, ↓Z3l, ↓Z3n, ↓Z3m, ↓Z3y, ↓Z3w, ↓Z48, ↓Z0i, ↓Z09, ↓Z18, ↓Z0g, ↓Z1o, Z49, Z07, Z1b, Z32, Z1a, Z35, evN, Z2g, Z1g, Z34, Z41, Z1f, Z15, Z1e, Z2v, Z2h, Z29, Z1h, Z2a, evT, Opd.ev, Z02, Z00, Z33, Z3z, Z3q, Z27, Z1n, Z28, Z2b, Z3j, Z1m, Z0l, Z3o, LOp.isNew, State.prune, Z3u, Z37, AV.leaf, Heap.at, Z0j, Z0a, Z1i, Z0e, Z03, idx_I, idx_W, rowW, Z2f, Z2w, Z21, Z1c, rowB, Z2y, Z2x, rowN, Z4i, Z3p, Z1d, Z16, w_or, w_and, Z2z, Z4d, w_shl, Z43, w_shr, Z4e, w_neg, w_add, w_bit, w_eq0, w_eq1, w_eq, Bool.decide_eq_true, Z3f, Z3e, Z3i, Z2p, Z1p, Z04, Z0b, Z0n, Z01, Z1y, rowI, RatG.row, LocG.row, ActG.row, StepG.row, StampG.row, ActG.av, ActG.eta, RatG.eta, LocG.eta, beq_true, beq_false, Z2k, Z2u, Z2n, Z2t, Z12, Z0q, Z10, Z11, Z0p, Z0o, Z0c, List.length_set, List.length_replicate, Z06, Int.reduceToNat, Z4t, Z2d, Z4a, Src.all, Src.len, Src.leaf, Src.leafN, Z3a, Z44, Z4p, Z0m, Z0r, Z0s, Z0t, Z0u, Z0v, Z0w, Z0x, Z4r, drows, evMk, List.length_map, Z1w, Z22, List.take_length, List.take_left, List.length_append, Nat.le_add_right, ite_self, List.take_of_length_le, Z3d, Z4n, Z42, Option.isSome_none, Option.isSome_some, Nat.sub_zero, Z4m, Z4v, Z4l, evUn, Z13, Z14, binT, binQ, chk, Z3v, List.contains_cons, List.contains_nil, Bool.or_false, Bool.false_or, Bool.and_self, resQ, resV, resT, Z4u, Z2e, Z47, Z3g, fnOf, Z3c, isD, HO.drow, Z4j, Z3x, evEq, eqV, eqK, eqC1, Z45, Z40, Z39, Z38, Z4f, Z3k, Z2s, Z1s, Z2r, Z1r, Z2q, Z1q, Z1t, Z0y, Z0z, Z0d, List.mem_cons, List.not_mem_nil, or_false, forall_eq, putRow, Z3r, Z23, RetS, RetF, RetD, AV.frz, AV.frzL, AV.freshP, AV.freshL, DV.less, Z2i, Z1u, Z2j, Z1v, Z0f, Z08, Option.some.injEq, AV.tup.injEq, AV.agg.injEq, List.cons.injEq, DV.list.injEq, List.isEmpty_nil, Nat.le_refl, AV.d.injEq, DV.int.injEq, DV.bool.injEq, ↓reduceIte, Nat.reduceEqDiff, Nat.reduceAdd, Nat.reduceBEq, List.length_cons, List.length_nil, List.replicate_succ, List.replicate_zero, List.nil_append, List.cons_append, List.append_nil, List.foldl_cons, List.foldl_nil, List.map_cons, List.map_nil, List.all_cons, List.all_nil, List.set_cons_zero, List.set_cons_succ, List.getD_cons_zero, List.getD_cons_succ, List.drop_zero, List.drop_succ_cons, List.take_succ_cons, List.take_zero, List.flatten_cons, List.flatten_nil, Bool.true_and, Bool.and_true, Bool.not_true, Bool.not_false, true_and, and_true, true_or, or_true, Option.bind_some, Option.map_some, decide_true, decide_false, beq_self_eq_true, true_implies, false_implies, implies_true, not_true_eq_false, not_false_eq_true, and_self, Bool.and_false, Bool.false_and, Nat.reduceLT, Nat.reduceLeDiff, List.reverse_cons, List.reverse_nil, Nat.zero_add, Nat.add_zero, Bool.false_eq_true, List.getElem?_cons_zero, Nat.reduceMul, Nat.mul_one, DeedG.row, idx_Deed, Z4k, Z46, lens_Deed, Z4s, idx_LA, rowLA_len, rowLA_get, idx_LI, rowLI_len, rowLI_get, dSt3, F1, G1, at_act_Right]
      have hkj := keepD_le t (as0.take j)
      have hm : m ≤ 20 + 70 * 3 + 70 := by rw [j3, List.length_append]; rw [List.length_take] at hkj; omega
      have hQ : Q.length ≤ 64 := by rw [j4, List.length_take]; omega
      have w1 : IntKind.i64.wrap ((j : Int) + 1) = ((j + 1 : Nat) : Int) := by rw [wrap_id (by omega) (by omega)]; omega
      have w2 : IntKind.i64.wrap ((m : Int) + 1) = ((m + 1 : Nat) : Int) := by rw [wrap_id (by omega) (by omega)]; omega
      have w3 : IntKind.i64.wrap ((t : Int) + 1) = ((t + 1 : Nat) : Int) := by rw [wrap_id (by omega) (by omega)]; omega
      rw [w1, w2, w3]
      have hlen : (initL l l.length ++ (keptTo acts t ++ keepD t (as0.take j))).length = m := by rw [List.length_append, initL_len, j3]
      refine ⟨fun e => ⟨⟨by omega, by omega⟩, fun hr => ⟨fun hk => ?_, fun hk => ⟨fun h64 => ⟨roomy_of (by omega) (by omega), ?_⟩, fun h64 => ?_⟩⟩, fun hr => ?_⟩, fun e => ?_⟩
      · have e' : j < as0.length := by omega
        refine Z36.mk [0] (j + 1, m, Q) (by simp) (by simp) (by simp only [State.can, AV.can, AV.canL, HO.can, Z25, idx, Z02, Z00, Heap.at, Nat.reduceBEq, ↓reduceIte, Nat.reduceEqDiff, Option.getD_some, Option.map_some, List.map_cons, List.map_nil, List.getD_cons_zero, List.getD_cons_succ, dSt3]) ⟨by show j + 1 ≤ _; omega, fun i hi => ?_, ?_, ?_⟩ (by show as0.length - (j + 1) < as0.length - j; omega)
        · by_cases h : i = j
          · rw [h]; exact hr
          · exact j2 i (by have : i < j + 1 := hi; omega)
        · show m = l.length + (keptTo acts t ++ keepD t (as0.take (j + 1))).length
          rw [keep_kept e', if_pos hk, List.append_nil, j3]
        · show Q = (initL l l.length ++ (keptTo acts t ++ keepD t (as0.take (j + 1)))).take 64
          rw [keep_kept e', if_pos hk, List.append_nil, j4]
      · have e' : j < as0.length := by omega
        have hass : initL l l.length ++ (keptTo acts t ++ keepD t (as0.take (j + 1))) = (initL l l.length ++ (keptTo acts t ++ keepD t (as0.take j))) ++ [⟨t, as0.getD j default⟩] := by
          rw [keep_kept e', if_neg hk]; simp only [List.append_assoc]
        refine Z36.mk [3] (j + 1, m + 1, Q ++ [⟨t, as0.getD j default⟩]) (by simp) (by simp) (by simp only [State.can, AV.can, AV.canL, HO.can, Z25, idx, Z02, Z00, Heap.at, Nat.reduceBEq, ↓reduceIte, Nat.reduceEqDiff, Option.getD_some, Option.map_some, List.map_cons, List.map_nil, List.getD_cons_zero, List.getD_cons_succ, dSt3, List.length_append, List.length_singleton]) ⟨by show j + 1 ≤ _; omega, fun i hi => ?_, ?_, ?_⟩ (by show as0.length - (j + 1) < as0.length - j; omega)
        · by_cases h : i = j
          · rw [h]; exact hr
          · exact j2 i (by have : i < j + 1 := hi; omega)
        · show m + 1 = l.length + (keptTo acts t ++ keepD t (as0.take (j + 1))).length
          rw [keep_kept e', if_neg hk, j3]; simp only [List.length_append, List.length_singleton]; omega
        · show Q ++ [_] = (initL l l.length ++ (keptTo acts t ++ keepD t (as0.take (j + 1)))).take 64
          rw [hass, take64_app (by omega), j4]
      · have e' : j < as0.length := by omega
        have hass : initL l l.length ++ (keptTo acts t ++ keepD t (as0.take (j + 1))) = (initL l l.length ++ (keptTo acts t ++ keepD t (as0.take j))) ++ [⟨t, as0.getD j default⟩] := by
          rw [keep_kept e', if_neg hk]; simp only [List.append_assoc]
        refine Z36.mk [0] (j + 1, m + 1, Q) (by simp) (by simp) (by simp only [State.can, AV.can, AV.canL, HO.can, Z25, idx, Z02, Z00, Heap.at, Nat.reduceBEq, ↓reduceIte, Nat.reduceEqDiff, Option.getD_some, Option.map_some, List.map_cons, List.map_nil, List.getD_cons_zero, List.getD_cons_succ, dSt3]) ⟨by show j + 1 ≤ _; omega, fun i hi => ?_, ?_, ?_⟩ (by show as0.length - (j + 1) < as0.length - j; omega)
        · by_cases h : i = j
          · rw [h]; exact hr
          · exact j2 i (by have : i < j + 1 := hi; omega)
        · show m + 1 = l.length + (keptTo acts t ++ keepD t (as0.take (j + 1))).length
          rw [keep_kept e', if_neg hk, j3]; simp only [List.length_append, List.length_singleton]; omega
        · show Q = (initL l l.length ++ (keptTo acts t ++ keepD t (as0.take (j + 1)))).take 64
          rw [hass, take64_no (by omega), j4]
      · have hno : rightA l acts = false := rightA_no d' (by rw [hA]; show j < as0.length; omega) (by rw [hA]; exact hr)
        unfold deedsG
        rw [if_neg (by omega), if_pos hno]
        exact ⟨rfl, rfl⟩
      · have e' : j = as0.length := by omega
        subst e'
        rw [List.take_length] at j3 j4
        have hks : keptTo acts (t + 1) = keptTo acts t ++ keepD t as0 := by rw [keptTo_succ, hA]
        refine Z36.mk [0] (t + 1, m, Q) (by simp) (by simp) (by simp only [State.can, AV.can, AV.canL, HO.can, Z25, idx, Z02, Z00, Heap.at, Nat.reduceBEq, ↓reduceIte, Nat.reduceEqDiff, Option.getD_some, Option.map_some, List.map_cons, List.map_nil, List.getD_cons_zero, List.getD_cons_succ, dSt2]) ⟨by show t + 1 ≤ _; omega, fun i hi => ?_, ?_, ?_⟩ (by show acts.length - (t + 1) < acts.length - t; omega)
        · by_cases h : i = t
          · rw [h, hA, List.all_eq_true]
            intro x hx
            obtain ⟨k, hk, rfl⟩ := List.getElem_of_mem hx
            have := j2 k hk
            rwa [getD_lt hk] at this
          · exact i2 i (by have : i < t + 1 := hi; omega)
        · show m = l.length + (keptTo acts (t + 1)).length
          rw [hks, j3]
        · show Q = (initL l l.length ++ keptTo acts (t + 1)).take 64
          rw [hks, j4]
    · have d' : t = acts.length := by omega
      subst d'
      unfold deedsG
      have hr : rightA l acts = true := rightA_yes i2
      have hD : (deedsAll l acts).length = n := by unfold deedsAll; rw [List.length_append, initL_len, i3]
      rw [if_neg (by omega), hr, if_neg (by simp)]
      refine ⟨fun e => ?_, fun e => ?_⟩
      · rw [if_pos (by omega)]; exact ⟨rfl, rfl⟩
      · rw [if_neg (by omega), i4, List.take_of_length_le (by rw [List.length_append, initL_len]; omega)]
        exact ⟨rfl, rfl⟩
end Go.Ago

/- Contracts of package power: the model of an execution. Conditions: none. -/
set_option maxRecDepth 100000
set_option linter.unusedSimpArgs false
set_option linter.unusedVariables false
namespace Go.Ago

/-! ### slices.Equal, slices.ContainsFunc at words -/
/-! ### empty -/
def nzW (x : W) : Bool := !decide (x = 0#64)
def sp_nz : Sp := ⟨W, fun x => [.d (.int .u64 (x.toNat : Int))], fun x => .data True (.d (.bool (nzW x))) true⟩
theorem at_nz (x : W) : sp_nz.at [.d (.int .u64 (x.toNat : Int))] = .data True (.d (.bool (nzW x))) true :=
  Sp.at_enc (s := sp_nz) (fun (x y : W) h => by
    simp only [sp_nz, List.cons.injEq, AV.d.injEq, DV.int.injEq, and_true, true_and] at h
    exact W.inj h) x
def findZ (l : List W) : Int := match l.findIdx? nzW with | some i => (i : Int) | none => -1
theorem findZ_any (l : List W) : decide (0 ≤ findZ l) = l.any nzW := by
  rw [← List.findIdx?_isSome]
  unfold findZ
  cases l.findIdx? nzW with
  | none => simp
  | some i => simp
theorem findZ_at {l : List W} {i : Nat} (hi : i < l.length) (hb : ∀ j, j < i → l.getD j 0#64 = 0#64) (h : nzW (l.getD i 0#64) = true) : findZ l = (i : Int) := by
  have : l.findIdx? nzW = some i := by
    rw [List.findIdx?_eq_some_iff_getElem]
    refine ⟨hi, by rwa [getD_lt hi] at h, fun j hj => ?_⟩
    have := hb j hj
    rw [getD_lt (by omega)] at this
    rw [this]; simp [nzW]
  unfold findZ; rw [this]
theorem findZ_no {l : List W} (hb : ∀ j, j < l.length → l.getD j 0#64 = 0#64) : findZ l = -1 := by
  have : l.findIdx? nzW = none := by
    rw [List.findIdx?_eq_none_iff]
    intro x hx
    obtain ⟨j, hj, rfl⟩ := List.mem_iff_getElem.1 hx
    have := hb j hj
    rw [getD_lt hj] at this
    rw [this]; simp [nzW]
  unfold findZ; rw [this]
/-- The place of the first word that isn't nought; told by the number of the one function that asks for it. -/
def sp_findZ (n : Nat) : Sp := ⟨List W × Bool, fun x => [.d (.list (x.1.map rowW) x.2), .d (.fn n)], fun x => .data (x.1.length ≤ maxLen) (.d (.int .i64 (findZ x.1))) true⟩
theorem at_findZ (n : Nat) (l : List W) (f : Bool) : (sp_findZ n).at [.d (.list (l.map rowW) f), .d (.fn n)] = .data (l.length ≤ maxLen) (.d (.int .i64 (findZ l))) true :=
  Sp.at_enc (s := sp_findZ n) (fun x y h => by
    obtain ⟨a, b⟩ := x; obtain ⟨a', b'⟩ := y
    simp only [sp_findZ, List.cons.injEq, AV.d.injEq, DV.list.injEq, and_true] at h
    rw [Z3t rowW_inj h.1, h.2]) (l, f)
theorem body_slices_IndexFunc_uint64 {T : Tab} {n_power_empty_1 : Nat} (k1 : Knows T n_power_empty_1 sp_nz) : (sp_findZ n_power_empty_1).Body T V_slices_IndexFunc_uint64 L_slices_IndexFunc_uint64 R_slices_IndexFunc_uint64 := by
  have F1 := k1.F; have G1 := k1.G
  rintro ⟨l, f⟩ h1
  have h1 : l.length ≤ maxLen := h1
  refine .inl ⟨rfl, ?_⟩
  unfold V_slices_IndexFunc_uint64 L_slices_IndexFunc_uint64 R_slices_IndexFunc_uint64
  simp only [↓Z19, ↓Z26, ↓Z1z, ↓Z05, ↓Z2m, ↓Z2l, Z4b, Z4g, ↓Z1l, ↓Z17, ↓Z0h, ↓Z20, ↓Z0k, ↓Z1k, ↓Z31, ↓Z30, ↓Z24, ↓Z1x, ↓Z2o, ↓Z2c, ↓Z1j, ↓Z3b, ↓Z4c, ↓Z3l, ↓Z3n, ↓Z3m, ↓Z3y, ↓Z3w, ↓Z48, ↓Z0i, ↓Z09, ↓Z18, ↓Z0g, ↓Z1o, Z49, Z07, Z1b, Z32, Z1a, Z35, evN, Z2g, Z1g, Z34, Z41, Z1f, Z15, Z1e, Z2v, Z2h, Z29, Z1h, Z2a, evT, Opd.ev, Z02, Z00, Z33, Z3z, Z3q, Z27, Z1n, Z28, Z2b, Z3j, Z1m, Z0l, Z3o, LOp.isNew, State.prune, Z3u, Z37, AV.leaf, Heap.at, Z0j, Z0a, Z1i, Z0e, Z03, idx_I, idx_W, rowW, Z2f, Z2w, Z21, Z1c, rowB, Z2y, Z2x, rowN, Z4i, Z3p, Z1d, Z16, w_or, w_and, Z2z, Z4d, w_shl, Z43, w_shr, Z4e, w_neg, w_add, w_bit, w_eq0, w_eq1, w_eq, Bool.decide_eq_true, Z3f, Z3e, Z3i, Z2p, Z1p, Z04, Z0b, Z0n, Z01, Z1y, rowI, RatG.row, LocG.row, ActG.row, StepG.row, StampG.row, ActG.av, ActG.eta, RatG.eta, LocG.eta, beq_true, beq_false, Z2k, Z2u, Z2n, Z2t, Z12, Z0q, Z10, Z11, Z0p, Z0o, Z0c, List.length_set, List.length_replicate, Z06, Int.reduceToNat, Z4t, Z2d, Z4a, Src.all, Src.len, Src.leaf, Src.leafN, Z3a, Z44, Z4p, Z0m, Z0r, Z0s, Z0t, Z0u, Z0v, Z0w, Z0x, Z4r, drows, evMk, List.length_map, Z1w, Z22, List.take_length, List.take_left, List.length_append, Nat.le_add_right, ite_self, List.take_of_length_le, Z3d, Z4n, Z42, Option.isSome_none, Option.isSome_some, Nat.sub_zero, Z4m, Z4v, Z4l, evUn, Z13, Z14, binT, binQ, chk, Z3v, List.contains_cons, List.contains_nil, Bool.or_false, Bool.false_or, Bool.and_self, resQ, resV, resT, Z4u, Z2e, Z47, Z3g, fnOf, Z3c, isD, HO.drow, Z4j, Z3x, evEq, eqV, eqK, eqC1, Z45, Z40, Z39, Z38, Z4f, Z3k, Z2s, Z1s, Z2r, Z1r, Z2q, Z1q, Z1t, Z0y, Z0z, Z0d, List.mem_cons, List.not_mem_nil, or_false, forall_eq, putRow, Z3r, Z23, RetS, RetF, RetD, AV.frz, AV.frzL, AV.freshP, AV.freshL, DV.less, Z2i, Z1u, Z2j, Z1v, Z0f, Z08, Option.some.injEq, AV.tup.injEq, AV.agg.injEq, List.cons.injEq, DV.list.injEq, List.isEmpty_nil, Nat.le_refl, AV.d.injEq, DV.int.injEq, DV.bool.injEq, ↓reduceIte, Nat.reduceEqDiff, Nat.reduceAdd, Nat.reduceBEq, List.length_cons, List.length_nil, List.replicate_succ, List.replicate_zero, List.nil_append, List.cons_append, List.append_nil, List.foldl_cons, List.foldl_nil, List.map_cons, List.map_nil, List.all_cons, List.all_nil, List.set_cons_zero, List.set_cons_succ, List.getD_cons_zero, List.getD_cons_succ, List.drop_zero, List.drop_succ_cons, List.take_succ_cons, List.take_zero, List.flatten_cons, List.flatten_nil, Bool.true_and, Bool.and_true, Bool.not_true, Bool.not_false, true_and, and_true, true_or, or_true, Option.bind_some, Option.map_some, decide_true, decide_false, beq_self_eq_true, true_implies, false_implies, implies_true, not_true_eq_false, not_false_eq_true, and_self, Bool.and_false, Bool.false_and, Nat.reduceLT, Nat.reduceLeDiff, List.reverse_cons, List.reverse_nil, Nat.zero_add, Nat.add_zero, Bool.false_eq_true, List.getElem?_cons_zero, Nat.reduceMul, Nat.mul_one, sp_findZ, F1, G1, at_nz]
  refine Loop.fam [0, 1, 7, 8] (fun i : Nat => ⟨[(0, .d (.list (l.map rowW) f)), (1, .d (.fn n_power_empty_1)), (7, .d (.int .i64 l.length)), (8, .d (.int .i64 i))], []⟩) (fun i => i ≤ l.length ∧ ∀ j, j < i → l.getD j 0#64 = 0#64) (fun i => l.length - i) 0 [] (by simp) (by simp)
    (by simp only [State.can, AV.can, AV.canL, HO.can, Z25, idx, Z02, Z00, Heap.at, Nat.reduceBEq, ↓reduceIte, Nat.reduceEqDiff, Option.getD_some, Option.map_some, List.map_cons, List.map_nil, List.getD_cons_zero, List.getD_cons_succ]; rfl) ⟨by omega, fun j hj => by omega⟩ ?_
  rintro i ⟨hi, hb⟩
  simp only [↓Z19, ↓Z26, ↓Z1z, ↓Z05, ↓Z2m, ↓Z2l, Z4b, Z4g, ↓Z1l, ↓Z17, ↓Z0h, ↓Z20, ↓Z0k, ↓Z1k, ↓Z31, ↓Z30, ↓Z24, ↓Z1x, ↓Z2o, ↓Z2c, ↓Z1j, ↓Z3b, ↓Z4c, ↓Z3l, ↓Z3n, ↓Z3m, ↓Z3y, ↓Z3w, ↓Z48, ↓Z0i, ↓Z09, ↓Z18, ↓Z0g, ↓Z1o, Z49, Z07, Z1b, Z32, Z1a, Z35, evN, Z2g, Z1g, Z34, Z41, Z1f, Z15, Z1e, Z2v, Z2h, Z29, Z1h, Z2a, evT, Opd.ev, Z02, Z00, Z33, Z3z, Z3q, Z27, Z1n, Z28, Z2b, Z3j, Z1m, Z0l, Z3o, LOp.isNew, State.prune, Z3u, Z37, AV.leaf, Heap.at, Z0j, Z0a, Z1i, Z0e, Z03, idx_I, idx_W, rowW, Z2f, Z2w, Z21, Z1c, rowB, Z2y, Z2x, rowN, Z4i, Z3p, Z1d, Z16, w_or, w_and, Z2z, Z4d, w_shl, Z43, w_shr, Z4e, w_neg, w_add, w_bit, w_eq0, w_eq1, w_eq, Bool.decide_eq_true, Z3f, Z3e, Z3i, Z2p, Z1p, Z04, Z0b, Z0n, Z01, Z1y, rowI, RatG.row, LocG.row, ActG.row, StepG.row, StampG.row, ActG.av, ActG.eta, RatG.eta, LocG.eta, beq_true, beq_false, Z2k, Z2u, Z2n, Z2t, Z12, Z0q, Z10, Z11, Z0p, Z0o, Z0c, List.length_set, List.length_replicate, Z06, Int.reduceToNat, Z4t, Z2d, Z4a, Src.all, Src.len, Src.leaf, Src.leafN, Z3a, Z44, Z4p, Z0m, Z0r, Z0s, Z0t, Z0u, Z0v, Z0w, Z0x, Z4r, drows, evMk, List.length_map, Z1w, Z22, List.take_length, List.take_left, List.length_append, Nat.le_add_right, ite_self, List.take_of_length_le, Z3d, Z4n, Z42, Option.isSome_none, Option.isSome_some, Nat.sub_zero, Z4m, Z4v, Z4l, evUn, Z13, Z14, binT, binQ, chk, Z3v, List.contains_cons, List.contains_nil, Bool.or_false, Bool.false_or, Bool.and_self, resQ, resV, resT, Z4u, Z2e, Z47, Z3g, fnOf, Z3c, isD, HO.drow, Z4j, Z3x, evEq, eqV, eqK, eqC1, Z45, Z40, Z39, Z38, Z4f, Z3k, Z2s, Z1s, Z2r, Z1r, Z2q, Z1q, Z1t, Z0y, Z0z, Z0d, List.mem_cons, List.not_mem_nil, or_false, forall_eq, putRow, Z3r, Z23, RetS, RetF, RetD, AV.frz, AV.frzL, AV.freshP, AV.freshL, DV.less, Z2i, Z1u, Z2j, Z1v, Z0f, Z08, Option.some.injEq, AV.tup.injEq, AV.agg.injEq, List.cons.injEq, DV.list.injEq, List.isEmpty_nil, Nat.le_refl, AV.d.injEq, DV.int.injEq, DV.bool.injEq, ↓reduceIte, Nat.reduceEqDiff, Nat.reduceAdd, Nat.reduceBEq, List.length_cons, List.length_nil, List.replicate_succ, List.replicate_zero, List.nil_append, List.cons_append, List.append_nil, List.foldl_cons, List.foldl_nil, List.map_cons, List.map_nil, List.all_cons, List.all_nil, List.set_cons_zero, List.set_cons_succ, List.getD_cons_zero, List.getD_cons_succ, List.drop_zero, List.drop_succ_cons, List.take_succ_cons, List.take_zero, List.flatten_cons, List.flatten_nil, Bool.true_and, Bool.and_true, Bool.not_true, Bool.not_false, true_and, and_true, true_or, or_true, Option.bind_some, Option.map_some, decide_true, decide_false, beq_self_eq_true, true_implies, false_implies, implies_true, not_true_eq_false, not_false_eq_true, and_self, Bool.and_false, Bool.false_and, Nat.reduceLT, Nat.reduceLeDiff, List.reverse_cons, List.reverse_nil, Nat.zero_add, Nat.add_zero, Bool.false_eq_true, List.getElem?_cons_zero, Nat.reduceMul, Nat.mul_one, F1, G1, at_nz]
  refine ⟨fun c => ⟨⟨by omega, by omega⟩, fun hz => ?_, fun hz => ?_⟩, fun c => ?_⟩
  · rw [findZ_at (i := i) (by omega) hb hz]
  · rw [Z4h (n := l.length) (by omega) h1]
    refine Z36.mk [] (i + 1) (by simp) (by simp) (by simp only [State.can, AV.can, AV.canL, HO.can, Z25, idx, Z02, Z00, Heap.at, Nat.reduceBEq, ↓reduceIte, Nat.reduceEqDiff, Option.getD_some, Option.map_some, List.map_cons, List.map_nil, List.getD_cons_zero, List.getD_cons_succ]) ⟨by omega, fun j hj => ?_⟩ (by omega)
    rcases Nat.lt_or_ge j i with hl | hl
    · exact hb j hl
    · obtain rfl : j = i := by omega
      simpa [nzW] using hz
  · rw [findZ_no fun j hj => hb j (by omega)]
def sp_anyZ (n : Nat) : Sp := ⟨List W × Bool, fun x => [.d (.list (x.1.map rowW) x.2), .d (.fn n)], fun x => .data (x.1.length ≤ maxLen) (.d (.bool (x.1.any nzW))) true⟩
theorem at_anyZ (n : Nat) (l : List W) (f : Bool) : (sp_anyZ n).at [.d (.list (l.map rowW) f), .d (.fn n)] = .data (l.length ≤ maxLen) (.d (.bool (l.any nzW))) true :=
  Sp.at_enc (s := sp_anyZ n) (fun x y h => by
    obtain ⟨a, b⟩ := x; obtain ⟨a', b'⟩ := y
    simp only [sp_anyZ, List.cons.injEq, AV.d.injEq, DV.list.injEq, and_true] at h
    rw [Z3t rowW_inj h.1, h.2]) (l, f)
theorem body_slices_ContainsFunc_uint64 {T : Tab} {n1 n_power_empty_1 : Nat} (k1 : Knows T n1 (sp_findZ n_power_empty_1)) : (sp_anyZ n_power_empty_1).Body T V_slices_ContainsFunc_uint64 (L_slices_ContainsFunc_uint64 n1) R_slices_ContainsFunc_uint64 := by
  have F1 := k1.F; have G1 := k1.G
  rintro ⟨l, f⟩ h1
  have h1 : l.length ≤ maxLen := h1
  refine .inl ⟨rfl, ?_⟩
  unfold V_slices_ContainsFunc_uint64 L_slices_ContainsFunc_uint64 R_slices_ContainsFunc_uint64
  simp only [↓Z19, ↓Z26, ↓Z1z, ↓Z05, ↓Z2m, ↓Z2l, Z4b, Z4g, ↓Z1l, ↓Z17, ↓Z0h, ↓Z20, ↓Z0k, ↓Z1k, ↓Z31, ↓Z30, ↓Z24, ↓Z1x, ↓Z2o, ↓Z2c, ↓Z1j, ↓Z3b, ↓Z4c, ↓Z3l, ↓Z3n, ↓Z3m, ↓Z3y, ↓Z3w, ↓Z48, ↓Z0i, ↓Z09, ↓Z18, ↓Z0g, ↓Z1o, Z49, Z07, Z1b, Z32, Z1a, Z35, evN, Z2g, Z1g, Z34, Z41, Z1f, Z15, Z1e, Z2v, Z2h, Z29, Z1h, Z2a, evT, Opd.ev, Z02, Z00, Z33, Z3z, Z3q, Z27, Z1n, Z28, Z2b, Z3j, Z1m, Z0l, Z3o, LOp.isNew, State.prune, Z3u, Z37, AV.leaf, Heap.at, Z0j, Z0a, Z1i, Z0e, Z03, idx_I, idx_W, rowW, Z2f, Z2w, Z21, Z1c, rowB, Z2y, Z2x, rowN, Z4i, Z3p, Z1d, Z16, w_or, w_and, Z2z, Z4d, w_shl, Z43, w_shr, Z4e, w_neg, w_add, w_bit, w_eq0, w_eq1, w_eq, Bool.decide_eq_true, Z3f, Z3e, Z3i, Z2p, Z1p, Z04, Z0b, Z0n, Z01, Z1y, rowI, RatG.row, LocG.row, ActG.row, StepG.row, StampG.row, ActG.av, ActG.eta, RatG.eta, LocG.eta, beq_true, beq_false, Z2k, Z2u, Z2n, Z2t, Z12, Z0q, Z10, Z11, Z0p, Z0o, Z0c, List.length_set, List.length_replicate, Z06, Int.reduceToNat, Z4t, Z2d, Z4a, Src.all, Src.len, Src.leaf, Src.leafN, Z3a, Z44, Z4p, Z0m, Z0r, Z0s, Z0t, Z0u, Z0v, Z0w, Z0x, Z4r, drows, evMk, List.length_map, Z1w, Z22, List.take_length, List.take_left, List.length_append, Nat.le_add_right, ite_self, List.take_of_length_le, Z3d, Z4n, Z42, Option.isSome_none, Option.isSome_some, Nat.sub_zero, Z4m, Z4v, Z4l, evUn, Z13, Z14, binT, binQ, chk, Z3v, List.contains_cons, List.contains_nil, Bool.or_false, Bool.false_or, Bool.and_self, resQ, resV, resT, Z4u, Z2e, Z47, Z3g, fnOf, Z3c, isD, HO.drow, Z4j, Z3x, evEq, eqV, eqK, eqC1, Z45, Z40, Z39, Z38, Z4f, Z3k, Z2s, Z1s, Z2r, Z1r, Z2q, Z1q, Z1t, Z0y, Z0z, Z0d, List.mem_cons, List.not_mem_nil, or_false, forall_eq, putRow, Z3r, Z23, RetS, RetF, RetD, AV.frz, AV.frzL, AV.freshP, AV.freshL, DV.less, Z2i, Z1u, Z2j, Z1v, Z0f, Z08, Option.some.injEq, AV.tup.injEq, AV.agg.injEq, List.cons.injEq, DV.list.injEq, List.isEmpty_nil, Nat.le_refl, AV.d.injEq, DV.int.injEq, DV.bool.injEq, ↓reduceIte, Nat.reduceEqDiff, Nat.reduceAdd, Nat.reduceBEq, List.length_cons, List.length_nil, List.replicate_succ, List.replicate_zero, List.nil_append, List.cons_append, List.append_nil, List.foldl_cons, List.foldl_nil, List.map_cons, List.map_nil, List.all_cons, List.all_nil, List.set_cons_zero, List.set_cons_succ, List.getD_cons_zero, List.getD_cons_succ, List.drop_zero, List.drop_succ_cons, List.take_succ_cons, List.take_zero, List.flatten_cons, List.flatten_nil, Bool.true_and, Bool.and_true, Bool.not_true, Bool.not_false, true_and, and_true, true_or, or_true, Option.bind_some, Option.map_some, decide_true, decide_false, beq_self_eq_true, true_implies, false_implies, implies_true, not_true_eq_false, not_false_eq_true, and_self, Bool.and_false, Bool.false_and, Nat.reduceLT, Nat.reduceLeDiff, List.reverse_cons, List.reverse_nil, Nat.zero_add, Nat.add_zero, Bool.false_eq_true, List.getElem?_cons_zero, Nat.reduceMul, Nat.mul_one, sp_anyZ, F1, G1, at_findZ]
  exact ⟨h1, findZ_any l⟩
/-! ### of -/
/-- A candidate execution as it is handed over. -/
structure XG where
  nodes : List NodeG
  nf : Bool
  po : List W × Bool
  rf : List W × Bool
  co : List W × Bool
  fr : List W × Bool
  addr : List W × Bool
  data : List W × Bool
  ctrl : List W × Bool
  fenced : List W × Bool
  sync : List W × Bool
  lwsync : List W × Bool
  pairs : List W × Bool
def lsX (r : List W × Bool) : DV := .list (r.1.map rowW) r.2
def XG.cells (x : XG) : List DV := [.list (x.nodes.map ActG.row) x.nf, lsX x.po, lsX x.rf, lsX x.co, lsX x.fr, lsX x.addr, lsX x.data, lsX x.ctrl, lsX x.fenced, lsX x.sync, lsX x.lwsync, lsX x.pairs]
def XG.av (x : XG) : AV := .agg [.d (.list (x.nodes.map ActG.row) x.nf), .d (lsX x.po), .d (lsX x.rf), .d (lsX x.co), .d (lsX x.fr), .d (lsX x.addr), .d (lsX x.data), .d (lsX x.ctrl), .d (lsX x.fenced), .d (lsX x.sync), .d (lsX x.lwsync), .d (lsX x.pairs)]
theorem lsX_inj {r s : List W × Bool} (h : lsX r = lsX s) : r = s := by
  obtain ⟨a, b⟩ := r; obtain ⟨c, d⟩ := s
  simp only [lsX, DV.list.injEq] at h
  rw [Z3t rowW_inj h.1, h.2]
theorem XG.av_inj (x y : XG) (h : x.av = y.av) : x = y := by
  obtain ⟨a, b, c, d, e, f, g, i, j, k, l, n, o⟩ := x
  obtain ⟨a', b', c', d', e', f', g', i', j', k', l', n', o'⟩ := y
  simp only [XG.av, AV.agg.injEq, List.cons.injEq, AV.d.injEq, DV.list.injEq, and_true] at h
  obtain ⟨⟨h1, h2⟩, h3, h4, h5, h6, h7, h8, h9, h10, h11, h12, h13⟩ := h
  rw [Z3t ActG.row_inj h1, h2, lsX_inj h3, lsX_inj h4, lsX_inj h5, lsX_inj h6, lsX_inj h7, lsX_inj h8, lsX_inj h9, lsX_inj h10, lsX_inj h11, lsX_inj h12, lsX_inj h13]
def XG.n (x : XG) : Nat := min x.nodes.length 64
def fitX (r : List W × Bool) (n : Nat) : List W := fitG (trimG r.1 n) n
def kindW (l : List NodeG) (q : Int) (n : Nat) : W := ofB (fun i => decide ((l.getD i default).kd = q)) n
/-- The model so far: 'a' relations are fitted, 'b' nodes are looked at. -/
def XG.rel (x : XG) (a j : Nat) (r : List W × Bool) : DV := if j < a then lsW (fitX r x.n) else lsX r
def XG.up (x : XG) (a b : Nat) : List DV := [.list ((x.nodes.take x.n).map ActG.row) (x.nf && decide (x.n = x.nodes.length)), .list (x.nodes.map ActG.row) x.nf, x.rel a 0 x.po, x.rel a 1 x.rf, x.rel a 2 x.co, x.rel a 3 x.fr, x.rel a 4 x.addr, x.rel a 5 x.data, x.rel a 6 x.ctrl,
  x.rel a 7 x.fenced, x.rel a 8 x.sync, x.rel a 9 x.lwsync, x.rel a 10 x.pairs, .int .u64 ((kindW x.nodes 1 b).toNat : Int), .int .u64 ((kindW x.nodes 2 b).toNat : Int)]
structure XG.Ok (x : XG) : Prop where
  nodes : x.nodes.length ≤ maxLen
  po : x.po.1.length ≤ maxLen
  rf : x.rf.1.length ≤ maxLen
  co : x.co.1.length ≤ maxLen
  fr : x.fr.1.length ≤ maxLen
  addr : x.addr.1.length ≤ maxLen
  data : x.data.1.length ≤ maxLen
  ctrl : x.ctrl.1.length ≤ maxLen
  fenced : x.fenced.1.length ≤ maxLen
  sync : x.sync.1.length ≤ maxLen
  lwsync : x.lwsync.1.length ≤ maxLen
  pairs : x.pairs.1.length ≤ maxLen
end Go.Ago

/- Power: the rules that are used until nothing more follows. Conditions: none. -/
set_option maxRecDepth 100000
set_option linter.unusedSimpArgs false
set_option linter.unusedVariables false
namespace Go.Ago

/-! ### Relations of n rows -/
structure Sq (n : Nat) (r : List W) : Prop where
  of ::
  eq : r = mkR n (hasN r)
theorem Sq.len {n : Nat} {r : List W} (h : Sq n r) : r.length = n := by
  rw [h.eq, Z4o]
theorem Sq.mk {n : Nat} (hn : n ≤ 64) (p : Nat → Nat → Bool) : Sq n (mkR n p) := by
  constructor
  apply Z3s
  intro i k hi hk
  rw [hasN_mk hn]; simp [hi, hk]
theorem Sq.ext {n : Nat} {a b : List W} (ha : Sq n a) (hb : Sq n b) (h : ∀ i k, i < n → k < n → hasN a i k = hasN b i k) : a = b := by
  rw [ha.eq, hb.eq]
  exact Z3s h
theorem Sq.lt {n : Nat} {r : List W} (hs : Sq n r) {i k : Nat} (h : hasN r i k = true) : i < n ∧ k < n := by
  have := hasN_lt h; have := szR_len r; rw [hs.len] at this; omega
theorem mxR_eq {n : Nat} {a b : List W} (ha : a.length = n) (hb : b.length = n) (hn : n ≤ 64) : mxR a b = n := by unfold mxR szR; omega
theorem Sq.lay2 {n : Nat} {q : Bool → Bool → Bool} {a b : List W} (ha : a.length = n) (hb : b.length = n) (hn : n ≤ 64) : Sq n (lay2 q a b) := by
  unfold Go.Ago.lay2; rw [mxR_eq ha hb hn]; exact Sq.mk hn _
theorem Sq.thenG {n : Nat} {a b : List W} (ha : a.length = n) (hb : b.length = n) (hn : n ≤ 64) : Sq n (thenG a b) := by
  unfold Go.Ago.thenG; rw [mxR_eq ha hb hn]; exact Sq.mk hn _
theorem hasN_lay2 {q : Bool → Bool → Bool} (hq : q false false = false) (a b : List W) (i k : Nat) : hasN (lay2 q a b) i k = q (hasN a i k) (hasN b i k) := by
  unfold lay2
  rw [hasN_mk (mxR_le a b)]
  by_cases h1 : i < mxR a b
  · by_cases h2 : k < mxR a b
    · simp [h1, h2]
    · have e1 : hasN a i k = false := hasN_off (by unfold mxR at h2; omega)
      have e2 : hasN b i k = false := hasN_off (by unfold mxR at h2; omega)
      rw [e1, e2, hq]; simp [h2]
  · have e1 : hasN a i k = false := hasN_off1 (by unfold mxR at h1; omega)
    have e2 : hasN b i k = false := hasN_off1 (by unfold mxR at h1; omega)
    rw [e1, e2, hq]; simp [h1]
theorem hasN_or (a b : List W) (i k : Nat) : hasN (lay2 qOr a b) i k = (hasN a i k || hasN b i k) := hasN_lay2 rfl a b i k
def orL (l : List (List W)) : List W := l.foldl (lay2 qOr) []
theorem Sq.fold {n : Nat} (hn : n ≤ 64) : ∀ (l : List (List W)) (o : List W), Sq n o → (∀ r ∈ l, r.length = n) → Sq n (l.foldl (Go.Ago.lay2 qOr) o) := by
  intro l
  induction l with
  | nil => exact fun o ho _ => ho
  | cons r l ih => exact fun o ho hl => ih _ (Sq.lay2 ho.len (hl r (by simp)) hn) (fun x hx => hl x (by simp [hx]))
theorem mxR_nil {n : Nat} {r : List W} (h : r.length = n) (hn : n ≤ 64) : mxR [] r = n := by unfold mxR szR; simp; omega
theorem Sq.orL {n : Nat} (hn : n ≤ 64) {r : List W} {l : List (List W)} (h : r.length = n) (hl : ∀ x ∈ l, x.length = n) : Sq n (orL (r :: l)) := by
  unfold Go.Ago.orL
  rw [List.foldl_cons]
  refine Sq.fold hn l _ ?_ hl
  unfold Go.Ago.lay2; rw [mxR_nil h hn]; exact Sq.mk hn _
/-! ### all, of some -/
/-! ### Until nothing more follows -/
section
variable {α : Type} [DecidableEq α] {f : α → α} {Inv : α → Prop} {μ : α → Nat} {B : Nat}
end

/-! ### How many pairs -/
def cntR (r : List W) : Nat := (List.range 4096).countP fun t => hasN r (t / 64) (t % 64)
/-! ### ppo -/
structure P4 where
  ii : List W
  ci : List W
  ic : List W
  cc : List W
  deriving DecidableEq
structure P4.Ok (n : Nat) (s : P4) : Prop where
  ii : Sq n s.ii
  ci : Sq n s.ci
  ic : Sq n s.ic
  cc : Sq n s.cc
attribute [local irreducible] orL thenG lay2 whereG keepG mkR cntR
structure MG.Ok (m : MG) : Prop where
  n : m.nodes.length ≤ 64
  po : Sq m.nodes.length m.po
  rf : Sq m.nodes.length m.rf
  co : Sq m.nodes.length m.co
  fr : Sq m.nodes.length m.fr
  addr : Sq m.nodes.length m.addr
  data : Sq m.nodes.length m.data
  ctrl : Sq m.nodes.length m.ctrl
  fenced : Sq m.nodes.length m.fenced
  sync : Sq m.nodes.length m.sync
  lwsync : Sq m.nodes.length m.lwsync
  pairs : Sq m.nodes.length m.pairs
def MG.ext (m : MG) (r : List W) : List W := whereG m.nodes apartQ r
def MG.poloc (m : MG) : List W := whereG m.nodes locQ m.po
def MG.dd (m : MG) : List W := lay2 qOr m.addr m.data
def MG.start (m : MG) : P4 := ⟨orL [m.dd, lay2 qMinus m.rf (m.ext m.rf), lay2 qAnd m.poloc (thenG (m.ext m.fr) (m.ext m.rf))],
  orL [m.fenced, lay2 qAnd m.poloc (thenG (m.ext m.co) (m.ext m.rf))],
  List.replicate m.nodes.length 0#64,
  orL [m.dd, m.poloc, m.ctrl, thenG m.addr m.po]⟩
end Go.Ago

/- Chapter 23: what is atomic, the order, what is read ahead of. Conditions: none. -/
set_option maxRecDepth 100000
set_option linter.unusedSimpArgs false
set_option linter.unusedVariables false
namespace Go.Ago
attribute [local irreducible] vck
def DeedG.av (d : DeedG) : AV := .agg [.d (.int .i64 d.th), .d (.int .i64 d.act.kind), .d (.int .i64 d.act.loc), .d (.int .i64 d.act.old), .d (.int .i64 d.act.new)]
theorem DeedG.av_inj (x y : DeedG) (h : x.av = y.av) : x = y := by
  obtain ⟨t, ⟨a, b, c, d⟩⟩ := x; obtain ⟨t', ⟨a', b', c', d'⟩⟩ := y
  simp [DeedG.av] at h; simp [h]
def sp_deed_b (g : ActG → Bool) : Sp := ⟨DeedG, fun d => [d.av], fun d => .data True (.d (.bool (g d.act))) true⟩
theorem at_deed_b (g : ActG → Bool) (t k o m n : Int) : (sp_deed_b g).at [.agg [.d (.int .i64 t), .d (.int .i64 k), .d (.int .i64 o), .d (.int .i64 m), .d (.int .i64 n)]] = .data True (.d (.bool (g ⟨k, o, m, n⟩))) true :=
  Sp.at_enc (s := sp_deed_b g) (fun x y h => by
    simp only [sp_deed_b, List.cons.injEq, and_true] at h
    exact DeedG.av_inj _ _ h) ⟨t, ⟨k, o, m, n⟩⟩
theorem body_axiom_reads {T : Tab} : (sp_deed_b ActG.isR).Body T V_axiom_reads L_axiom_reads R_axiom_reads := by
  rintro ⟨t, a⟩ -
  refine .inl ⟨rfl, ?_⟩
  unfold V_axiom_reads L_axiom_reads R_axiom_reads
  simp (maxSteps := 3000000) only [↓Z19, ↓Z26, ↓Z1z, ↓Z05, ↓Z2m, ↓Z2l, Z4b, Z4g, ↓Z1l, ↓Z17, ↓Z0h, ↓Z20, ↓Z0k, ↓Z1k, ↓Z31, ↓Z30, ↓Z24, ↓Z1x, ↓Z2o, ↓Z2c, ↓Z1j, ↓Z3b, ↓Z4c, ↓Z3l, ↓Z3n, ↓Z3m, ↓Z3y, ↓Z3w, ↓Z48, ↓Z0i, ↓Z09, ↓Z18, ↓Z0g, ↓Z1o, Z49, Z07, Z1b, Z32, Z1a, Z35, evN, Z2g, Z1g, Z34, Z41, Z1f, Z15, Z1e, Z2v, Z2h, Z29, Z1h, Z2a, evT, Opd.ev, Z02, Z00, Z33, Z3z, Z3q, Z27, Z1n, Z28, Z2b, Z3j, Z1m, Z0l, Z3o, LOp.isNew, State.prune, Z3u, Z37, AV.leaf, Heap.at, Z0j, Z0a, Z1i, Z0e, Z03, idx_I, idx_W, rowW, Z2f, Z2w, Z21, Z1c, rowB, Z2y, Z2x, rowN, Z4i, Z3p, Z1d, Z16, w_or, w_and, Z2z, Z4d, w_shl, Z43, w_shr, Z4e, w_neg, w_add, w_bit, w_eq0, w_eq1, w_eq, Bool.decide_eq_true, Z3f, Z3e, Z3i, Z2p, Z1p, Z04, Z0b, Z0n, Z01, Z1y, rowI, RatG.row, LocG.row, ActG.row, StepG.row, StampG.row, ActG.av, ActG.eta, RatG.eta, LocG.eta, beq_true, beq_false, Z2k, Z2u, Z2n, Z2t, Z12, Z0q, Z10, Z11, Z0p, Z0o, Z0c, List.length_set, List.length_replicate, Z06, Int.reduceToNat, Z4t, Z2d, Z4a, Src.all, Src.len, Src.leaf, Src.leafN, Z3a, Z44, Z4p, Z0m, Z0r, Z0s, Z0t, Z0u, Z0v, Z0w, Z0x, Z4r, drows, evMk, List.length_map, Z1w, Z22, List.take_length, List.take_left, List.length_append, Nat.le_add_right, ite_self, List.take_of_length_le, Z3d, Z4n, Z42, Option.isSome_none, Option.isSome_some, Nat.sub_zero, Z4m, Z4v, Z4l, evUn, Z13, Z14, binT, binQ, chk, Z3v, List.contains_cons, List.contains_nil, Bool.or_false, Bool.false_or, Bool.and_self, resQ, resV, resT, Z4u, Z2e, Z47, Z3g, fnOf, Z3c, isD, HO.drow, Z4j, Z3x, evEq, eqV, eqK, eqC1, Z45, Z40, Z39, Z38, Z4f, Z3k, Z2s, Z1s, Z2r, Z1r, Z2q, Z1q, Z1t, Z0y, Z0z, Z0d, List.mem_cons, List.not_mem_nil, or_false, forall_eq, putRow, Z3r, Z23, RetS, RetF, RetD, AV.frz, AV.frzL, AV.freshP, AV.freshL, DV.less, Z2i, Z1u, Z2j, Z1v, Z0f, Z08, Option.some.injEq, AV.tup.injEq, AV.agg.injEq, List.cons.injEq, DV.list.injEq, List.isEmpty_nil, Nat.le_refl, AV.d.injEq, DV.int.injEq, DV.bool.injEq, ↓reduceIte, Nat.reduceEqDiff, Nat.reduceAdd, Nat.reduceBEq, List.length_cons, List.length_nil, List.replicate_succ, List.replicate_zero, List.nil_append, List.cons_append, List.append_nil, List.foldl_cons, List.foldl_nil, List.map_cons, List.map_nil, List.all_cons, List.all_nil, List.set_cons_zero, List.set_cons_succ, List.getD_cons_zero, List.getD_cons_succ, List.drop_zero, List.drop_succ_cons, List.take_succ_cons, List.take_zero, List.flatten_cons, List.flatten_nil, Bool.true_and, Bool.and_true, Bool.not_true, Bool.not_false, true_and, and_true, true_or, or_true, Option.bind_some, Option.map_some, decide_true, decide_false, beq_self_eq_true, true_implies, false_implies, implies_true, not_true_eq_false, not_false_eq_true, and_self, Bool.and_false, Bool.false_and, Nat.reduceLT, Nat.reduceLeDiff, List.reverse_cons, List.reverse_nil, Nat.zero_add, Nat.add_zero, Bool.false_eq_true, List.getElem?_cons_zero, Nat.reduceMul, Nat.mul_one, sp_deed_b, DeedG.av]
  (repeat' (first | intro _ | apply And.intro))
  all_goals simp_all [ActG.isR]
theorem body_axiom_writes {T : Tab} : (sp_deed_b ActG.isW).Body T V_axiom_writes L_axiom_writes R_axiom_writes := by
  rintro ⟨t, a⟩ -
  refine .inl ⟨rfl, ?_⟩
  unfold V_axiom_writes L_axiom_writes R_axiom_writes
  simp (maxSteps := 3000000) only [↓Z19, ↓Z26, ↓Z1z, ↓Z05, ↓Z2m, ↓Z2l, Z4b, Z4g, ↓Z1l, ↓Z17, ↓Z0h, ↓Z20, ↓Z0k, ↓Z1k, ↓Z31, ↓Z30, ↓Z24, ↓Z1x, ↓Z2o, ↓Z2c, ↓Z1j, ↓Z3b, ↓Z4c, ↓Z3l, ↓Z3n, ↓Z3m, ↓Z3y, ↓Z3w, ↓Z48, ↓Z0i, ↓Z09, ↓Z18, ↓Z0g, ↓Z1o, Z49, Z07, Z1b, Z32, Z1a, Z35, evN, Z2g, Z1g, Z34, Z41, Z1f, Z15, Z1e, Z2v, Z2h, Z29, Z1h, Z2a, evT, Opd.ev, Z02, Z00, Z33, Z3z, Z3q, Z27, Z1n, Z28, Z2b, Z3j, Z1m, Z0l, Z3o, LOp.isNew, State.prune, Z3u, Z37, AV.leaf, Heap.at, Z0j, Z0a, Z1i, Z0e, Z03, idx_I, idx_W, rowW, Z2f, Z2w, Z21, Z1c, rowB, Z2y, Z2x, rowN, Z4i, Z3p, Z1d, Z16, w_or, w_and, Z2z, Z4d, w_shl, Z43, w_shr, Z4e, w_neg, w_add, w_bit, w_eq0, w_eq1, w_eq, Bool.decide_eq_true, Z3f, Z3e, Z3i, Z2p, Z1p, Z04, Z0b, Z0n, Z01, Z1y, rowI, RatG.row, LocG.row, ActG.row, StepG.row, StampG.row, ActG.av, ActG.eta, RatG.eta, LocG.eta, beq_true, beq_false, Z2k, Z2u, Z2n, Z2t, Z12, Z0q, Z10, Z11, Z0p, Z0o, Z0c, List.length_set, List.length_replicate, Z06, Int.reduceToNat, Z4t, Z2d, Z4a, Src.all, Src.len, Src.leaf, Src.leafN, Z3a, Z44, Z4p, Z0m, Z0r, Z0s, Z0t, Z0u, Z0v, Z0w, Z0x, Z4r, drows, evMk, List.length_map, Z1w, Z22, List.take_length, List.take_left, List.length_append, Nat.le_add_right, ite_self, List.take_of_length_le, Z3d, Z4n, Z42, Option.isSome_none, Option.isSome_some, Nat.sub_zero, Z4m, Z4v, Z4l, evUn, Z13, Z14, binT, binQ, chk, Z3v, List.contains_cons, List.contains_nil, Bool.or_false, Bool.false_or, Bool.and_self, resQ, resV, resT, Z4u, Z2e, Z47, Z3g, fnOf, Z3c, isD, HO.drow, Z4j, Z3x, evEq, eqV, eqK, eqC1, Z45, Z40, Z39, Z38, Z4f, Z3k, Z2s, Z1s, Z2r, Z1r, Z2q, Z1q, Z1t, Z0y, Z0z, Z0d, List.mem_cons, List.not_mem_nil, or_false, forall_eq, putRow, Z3r, Z23, RetS, RetF, RetD, AV.frz, AV.frzL, AV.freshP, AV.freshL, DV.less, Z2i, Z1u, Z2j, Z1v, Z0f, Z08, Option.some.injEq, AV.tup.injEq, AV.agg.injEq, List.cons.injEq, DV.list.injEq, List.isEmpty_nil, Nat.le_refl, AV.d.injEq, DV.int.injEq, DV.bool.injEq, ↓reduceIte, Nat.reduceEqDiff, Nat.reduceAdd, Nat.reduceBEq, List.length_cons, List.length_nil, List.replicate_succ, List.replicate_zero, List.nil_append, List.cons_append, List.append_nil, List.foldl_cons, List.foldl_nil, List.map_cons, List.map_nil, List.all_cons, List.all_nil, List.set_cons_zero, List.set_cons_succ, List.getD_cons_zero, List.getD_cons_succ, List.drop_zero, List.drop_succ_cons, List.take_succ_cons, List.take_zero, List.flatten_cons, List.flatten_nil, Bool.true_and, Bool.and_true, Bool.not_true, Bool.not_false, true_and, and_true, true_or, or_true, Option.bind_some, Option.map_some, decide_true, decide_false, beq_self_eq_true, true_implies, false_implies, implies_true, not_true_eq_false, not_false_eq_true, and_self, Bool.and_false, Bool.false_and, Nat.reduceLT, Nat.reduceLeDiff, List.reverse_cons, List.reverse_nil, Nat.zero_add, Nat.add_zero, Bool.false_eq_true, List.getElem?_cons_zero, Nat.reduceMul, Nat.mul_one, sp_deed_b, DeedG.av]
  (repeat' (first | intro _ | apply And.intro))
  all_goals simp_all [ActG.isW]
theorem body_slices_Clone_int {T : Tab} : (cloneS 1 8).Body T V_slices_Clone_int L_slices_Clone_int R_slices_Clone_int := by
  rintro ⟨l, full⟩ ⟨h1, h2⟩
  refine ⟨h1, ?_⟩
  unfold V_slices_Clone_int L_slices_Clone_int R_slices_Clone_int
  simp only [↓Z19, ↓Z26, ↓Z1z, ↓Z05, ↓Z2m, ↓Z2l, Z4b, Z4g, ↓Z1l, ↓Z17, ↓Z0h, ↓Z20, ↓Z0k, ↓Z1k, ↓Z31, ↓Z30, ↓Z24, ↓Z1x, ↓Z2o, ↓Z2c, ↓Z1j, ↓Z3b, ↓Z4c, ↓Z3l, ↓Z3n, ↓Z3m, ↓Z3y, ↓Z3w, ↓Z48, ↓Z0i, ↓Z09, ↓Z18, ↓Z0g, ↓Z1o, Z49, Z07, Z1b, Z32, Z1a, Z35, evN, Z2g, Z1g, Z34, Z41, Z1f, Z15, Z1e, Z2v, Z2h, Z29, Z1h, Z2a, evT, Opd.ev, Z02, Z00, Z33, Z3z, Z3q, Z27, Z1n, Z28, Z2b, Z3j, Z1m, Z0l, Z3o, LOp.isNew, State.prune, Z3u, Z37, AV.leaf, Heap.at, Z0j, Z0a, Z1i, Z0e, Z03, idx_I, idx_U, Z3f, Z3e, Z3i, Z2p, Z1p, Z04, Z0b, Z0n, Z01, Z1y, rowI, rowU, RatG.row, LocG.row, ActG.row, StepG.row, StampG.row, ActG.av, ActG.eta, RatG.eta, LocG.eta, beq_true, beq_false, Z2k, Z2u, set_rowU, Z2n, app_rowU, Z2t, rep_rowU, Z12, Z0q, Z10, Z11, Z0p, Z0o, Z0c, List.length_set, List.length_replicate, Int.toNat_natCast, Int.reduceToNat, Z4t, Z2d, Z4a, Src.all, Src.len, Src.leaf, Src.leafN, Z3a, Z44, Z4p, Z0m, Z0r, Z0s, Z0t, Z0u, Z0v, Z0w, Z0x, Z4r, drows, evMk, List.length_map, take_map_len, take_map_ge, Z4m, Z4v, Z4l, evUn, binT, binQ, chk, Z3v, List.contains_cons, List.contains_nil, Bool.or_false, Bool.false_or, Bool.and_self, resQ, resV, resT, Z4u, Z2e, Z47, Z3g, fnOf, Z3c, isD, HO.drow, Z4j, Z3x, evEq, eqV, eqK, eqC1, Z45, Z40, Z39, Z38, Z4f, Z3k, lens_U, lensA_U, Z2s, Z1s, Z2r, Z1r, Z2q, Z1q, Z1t, Z0y, Z0z, Z0d, List.mem_cons, List.not_mem_nil, or_false, forall_eq, putRow, Z3r, Z23, RetS, RetF, RetD, AV.frz, AV.frzL, AV.freshP, AV.freshL, DV.less, Z2i, Z1u, Z2j, Z1v, scal_rowU, Z0f, Z08, Option.some.injEq, AV.tup.injEq, AV.agg.injEq, List.cons.injEq, DV.list.injEq, List.isEmpty_nil, Nat.le_refl, AV.d.injEq, DV.int.injEq, DV.bool.injEq, ↓reduceIte, Nat.reduceEqDiff, Nat.reduceAdd, Nat.reduceBEq, List.length_cons, List.length_nil, List.replicate_succ, List.replicate_zero, List.nil_append, List.cons_append, List.append_nil, List.foldl_cons, List.foldl_nil, List.map_cons, List.map_nil, List.all_cons, List.all_nil, List.set_cons_zero, List.set_cons_succ, List.getD_cons_zero, List.getD_cons_succ, List.drop_zero, List.drop_succ_cons, List.take_succ_cons, List.take_zero, List.flatten_cons, List.flatten_nil, Bool.true_and, Bool.and_true, Bool.not_true, Bool.not_false, true_and, and_true, true_or, or_true, Option.bind_some, Option.map_some, decide_true, decide_false, beq_self_eq_true, true_implies, false_implies, implies_true, not_true_eq_false, not_false_eq_true, and_self, Bool.and_false, Bool.false_and, Nat.reduceLT, Nat.reduceLeDiff, List.reverse_cons, List.reverse_nil, Nat.zero_add, Nat.add_zero, Bool.false_eq_true, List.getElem?_cons_zero, cloneS]
  exact clone_end h1 h2
theorem body_axiom_meets_1 {T : Tab} : sp_nz.Body T V_axiom_meets_1 L_axiom_meets_1 R_axiom_meets_1 := by
  rintro (x : W) -
  refine .inl ⟨rfl, ?_⟩
  unfold V_axiom_meets_1 L_axiom_meets_1 R_axiom_meets_1
  simp only [↓Z19, ↓Z26, ↓Z1z, ↓Z05, ↓Z2m, ↓Z2l, Z4b, Z4g, ↓Z1l, ↓Z17, ↓Z0h, ↓Z20, ↓Z0k, ↓Z1k, ↓Z31, ↓Z30, ↓Z24, ↓Z1x, ↓Z2o, ↓Z2c, ↓Z1j, ↓Z3b, ↓Z4c, ↓Z3l, ↓Z3n, ↓Z3m, ↓Z3y, ↓Z3w, ↓Z48, ↓Z0i, ↓Z09, ↓Z18, ↓Z0g, ↓Z1o, Z49, Z07, Z1b, Z32, Z1a, Z35, evN, Z2g, Z1g, Z34, Z41, Z1f, Z15, Z1e, Z2v, Z2h, Z29, Z1h, Z2a, evT, Opd.ev, Z02, Z00, Z33, Z3z, Z3q, Z27, Z1n, Z28, Z2b, Z3j, Z1m, Z0l, Z3o, LOp.isNew, State.prune, Z3u, Z37, AV.leaf, Heap.at, Z0j, Z0a, Z1i, Z0e, Z03, idx_I, idx_W, rowW, Z2f, Z2w, Z21, Z1c, rowB, Z2y, Z2x, rowN, Z4i, Z3p, Z1d, Z16, w_or, w_and, Z2z, Z4d, w_shl, Z43, w_shr, Z4e, w_neg, w_add, w_bit, w_eq0, w_eq1, w_eq, Bool.decide_eq_true, Z3f, Z3e, Z3i, Z2p, Z1p, Z04, Z0b, Z0n, Z01, Z1y, rowI, RatG.row, LocG.row, ActG.row, StepG.row, StampG.row, ActG.av, ActG.eta, RatG.eta, LocG.eta, beq_true, beq_false, Z2k, Z2u, Z2n, Z2t, Z12, Z0q, Z10, Z11, Z0p, Z0o, Z0c, List.length_set, List.length_replicate, Z06, Int.reduceToNat, Z4t, Z2d, Z4a, Src.all, Src.len, Src.leaf, Src.leafN, Z3a, Z44, Z4p, Z0m, Z0r, Z0s, Z0t, Z0u, Z0v, Z0w, Z0x, Z4r, drows, evMk, List.length_map, Z1w, Z22, List.take_length, List.take_left, List.length_append, Nat.le_add_right, ite_self, List.take_of_length_le, Z3d, Z4n, Z42, Option.isSome_none, Option.isSome_some, Nat.sub_zero, Z4m, Z4v, Z4l, evUn, Z13, Z14, binT, binQ, chk, Z3v, List.contains_cons, List.contains_nil, Bool.or_false, Bool.false_or, Bool.and_self, resQ, resV, resT, Z4u, Z2e, Z47, Z3g, fnOf, Z3c, isD, HO.drow, Z4j, Z3x, evEq, eqV, eqK, eqC1, Z45, Z40, Z39, Z38, Z4f, Z3k, Z2s, Z1s, Z2r, Z1r, Z2q, Z1q, Z1t, Z0y, Z0z, Z0d, List.mem_cons, List.not_mem_nil, or_false, forall_eq, putRow, Z3r, Z23, RetS, RetF, RetD, AV.frz, AV.frzL, AV.freshP, AV.freshL, DV.less, Z2i, Z1u, Z2j, Z1v, Z0f, Z08, Option.some.injEq, AV.tup.injEq, AV.agg.injEq, List.cons.injEq, DV.list.injEq, List.isEmpty_nil, Nat.le_refl, AV.d.injEq, DV.int.injEq, DV.bool.injEq, ↓reduceIte, Nat.reduceEqDiff, Nat.reduceAdd, Nat.reduceBEq, List.length_cons, List.length_nil, List.replicate_succ, List.replicate_zero, List.nil_append, List.cons_append, List.append_nil, List.foldl_cons, List.foldl_nil, List.map_cons, List.map_nil, List.all_cons, List.all_nil, List.set_cons_zero, List.set_cons_succ, List.getD_cons_zero, List.getD_cons_succ, List.drop_zero, List.drop_succ_cons, List.take_succ_cons, List.take_zero, List.flatten_cons, List.flatten_nil, Bool.true_and, Bool.and_true, Bool.not_true, Bool.not_false, true_and, and_true, true_or, or_true, Option.bind_some, Option.map_some, decide_true, decide_false, beq_self_eq_true, true_implies, false_implies, implies_true, not_true_eq_false, not_false_eq_true, and_self, Bool.and_false, Bool.false_and, Nat.reduceLT, Nat.reduceLeDiff, List.reverse_cons, List.reverse_nil, Nat.zero_add, Nat.add_zero, Bool.false_eq_true, List.getElem?_cons_zero, Nat.reduceMul, Nat.mul_one, sp_nz, nzW]
/-! ### Worlds -/
structure WG where
  locs : List LocG
  lf : Bool
  deeds : List DeedG
  df : Bool
  rf : List W
  rff : Bool
  co : List W
  cof : Bool
def WG.av (x : WG) : AV := .agg [.d (.list (x.locs.map LocG.row) x.lf), .d (.list (x.deeds.map DeedG.row) x.df), .d (.list (x.rf.map rowW) x.rff), .d (.list (x.co.map rowW) x.cof)]
theorem WG.av_inj (x y : WG) (h : x.av = y.av) : x = y := by
  obtain ⟨a, b, c, d, e, f, g, i⟩ := x
  obtain ⟨a', b', c', d', e', f', g', i'⟩ := y
  simp only [WG.av, AV.agg.injEq, List.cons.injEq, AV.d.injEq, DV.list.injEq, and_true] at h
  obtain ⟨⟨h1, h2⟩, ⟨h3, h4⟩, ⟨h5, h6⟩, h7, h8⟩ := h
  rw [Z3t LocG.row_inj h1, h2, Z3t DeedG.row_inj h3, h4, Z3t rowW_inj h5, h6, Z3t rowW_inj h7, h8]
def WG.dl (x : WG) (i : Nat) : Int := (x.deeds.getD i default).act.loc
def WG.atom (x : WG) (i : Nat) : Bool := decide (0 ≤ x.dl i) && decide (x.dl i < x.locs.length) && (x.locs.getD (x.dl i).toNat default).atom
def sp_atomic : Sp := ⟨WG × Nat, fun x => [x.1.av, .d (.int .i64 x.2)], fun x => .data (x.2 < x.1.deeds.length) (.d (.bool (x.1.atom x.2))) true⟩
theorem at_atomic (x : WG) (i : Nat) : sp_atomic.at [x.av, .d (.int .i64 i)] = .data (i < x.deeds.length) (.d (.bool (x.atom i))) true :=
  Sp.at_enc (s := sp_atomic) (fun x y h => by
    obtain ⟨a, b⟩ := x; obtain ⟨a', b'⟩ := y
    simp only [sp_atomic, List.cons.injEq, AV.d.injEq, DV.int.injEq, and_true, true_and] at h
    rw [WG.av_inj _ _ h.1, Int.ofNat.inj h.2]) (x, i)
theorem body_axiom_atomic {T : Tab} : sp_atomic.Body T V_axiom_atomic L_axiom_atomic R_axiom_atomic := by
  rintro ⟨x, i⟩ hi
  have hi : i < x.deeds.length := hi
  refine .inl ⟨rfl, ?_⟩
  unfold V_axiom_atomic L_axiom_atomic R_axiom_atomic
  simp (maxSteps := 3000000) only [↓Z19, ↓Z26, ↓Z1z, ↓Z05, ↓Z2m, ↓Z2l, Z4b, Z4g, ↓Z1l, ↓Z17, ↓Z0h, ↓Z20, ↓Z0k, ↓Z1k, ↓Z31, ↓Z30, ↓Z24, ↓Z1x, ↓Z2o, ↓Z2c, ↓Z1j, ↓Z3b, ↓Z4c, ↓Z3l, ↓Z3n, ↓Z3m, ↓Z3y, ↓Z3w, ↓Z48, ↓Z0i, ↓Z09, ↓Z18, ↓Z0g, ↓Z1o, Z49, Z07, Z1b, Z32, Z1a, Z35, evN, Z2g, Z1g, Z34, Z41, Z1f, Z15, Z1e, Z2v, Z2h, Z29, Z1h, Z2a, evT, Opd.ev, Z02, Z00, Z33, Z3z, Z3q, Z27, Z1n, Z28, Z2b, Z3j, Z1m, Z0l, Z3o, LOp.isNew, State.prune, Z3u, Z37, AV.leaf, Heap.at, Z0j, Z0a, Z1i, Z0e, Z03, idx_I, idx_W, rowW, Z2f, Z2w, Z21, Z1c, rowB, Z2y, Z2x, rowN, Z4i, Z3p, Z1d, Z16, w_or, w_and, Z2z, Z4d, w_shl, Z43, w_shr, Z4e, w_neg, w_add, w_bit, w_eq0, w_eq1, w_eq, Bool.decide_eq_true, Z3f, Z3e, Z3i, Z2p, Z1p, Z04, Z0b, Z0n, Z01, Z1y, rowI, RatG.row, LocG.row, ActG.row, StepG.row, StampG.row, ActG.av, ActG.eta, RatG.eta, LocG.eta, beq_true, beq_false, Z2k, Z2u, Z2n, Z2t, Z12, Z0q, Z10, Z11, Z0p, Z0o, Z0c, List.length_set, List.length_replicate, Z06, Int.reduceToNat, Z4t, Z2d, Z4a, Src.all, Src.len, Src.leaf, Src.leafN, Z3a, Z44, Z4p, Z0m, Z0r, Z0s, Z0t, Z0u, Z0v, Z0w, Z0x, Z4r, drows, evMk, List.length_map, Z1w, Z22, List.take_length, List.take_left, List.length_append, Nat.le_add_right, ite_self, List.take_of_length_le, Z3d, Z4n, Z42, Option.isSome_none, Option.isSome_some, Nat.sub_zero, Z4m, Z4v, Z4l, evUn, Z13, Z14, binT, binQ, chk, Z3v, List.contains_cons, List.contains_nil, Bool.or_false, Bool.false_or, Bool.and_self, resQ, resV, resT, Z4u, Z2e, Z47, Z3g, fnOf, Z3c, isD, HO.drow, Z4j, Z3x, evEq, eqV, eqK, eqC1, Z45, Z40, Z39, Z38, Z4f, Z3k, Z2s, Z1s, Z2r, Z1r, Z2q, Z1q, Z1t, Z0y, Z0z, Z0d, List.mem_cons, List.not_mem_nil, or_false, forall_eq, putRow, Z3r, Z23, RetS, RetF, RetD, AV.frz, AV.frzL, AV.freshP, AV.freshL, DV.less, Z2i, Z1u, Z2j, Z1v, Z0f, Z08, Option.some.injEq, AV.tup.injEq, AV.agg.injEq, List.cons.injEq, DV.list.injEq, List.isEmpty_nil, Nat.le_refl, AV.d.injEq, DV.int.injEq, DV.bool.injEq, ↓reduceIte, Nat.reduceEqDiff, Nat.reduceAdd, Nat.reduceBEq, List.length_cons, List.length_nil, List.replicate_succ, List.replicate_zero, List.nil_append, List.cons_append, List.append_nil, List.foldl_cons, List.foldl_nil, List.map_cons, List.map_nil, List.all_cons, List.all_nil, List.set_cons_zero, List.set_cons_succ, List.getD_cons_zero, List.getD_cons_succ, List.drop_zero, List.drop_succ_cons, List.take_succ_cons, List.take_zero, List.flatten_cons, List.flatten_nil, Bool.true_and, Bool.and_true, Bool.not_true, Bool.not_false, true_and, and_true, true_or, or_true, Option.bind_some, Option.map_some, decide_true, decide_false, beq_self_eq_true, true_implies, false_implies, implies_true, not_true_eq_false, not_false_eq_true, and_self, Bool.and_false, Bool.false_and, Nat.reduceLT, Nat.reduceLeDiff, List.reverse_cons, List.reverse_nil, Nat.zero_add, Nat.add_zero, Bool.false_eq_true, List.getElem?_cons_zero, Nat.reduceMul, Nat.mul_one, DeedG.row, idx_Deed, Z4k, Z46, lens_Deed, Z4s, idx_LA, rowLA_len, rowLA_get, idx_LI, rowLI_len, rowLI_get, sp_atomic, WG.av]
  unfold WG.atom WG.dl
  refine ⟨⟨by omega, by omega⟩, ?_⟩
  refine ⟨fun c => ⟨fun c2 => ⟨⟨c, c2⟩, by rw [decide_eq_true c, decide_eq_true c2]; rfl⟩, fun c2 => by rw [decide_eq_false c2, Bool.and_false, Bool.false_and]⟩, fun c => by rw [decide_eq_false c]; rfl⟩
def onlyG (x : WG) (r : List W) : List W := mapW r.length fun i => if x.atom i then r.getD i 0#64 else 0#64
def sp_only : Sp := ⟨WG × List W × Bool, fun x => [x.1.av, .d (.list (x.2.1.map rowW) x.2.2)], fun x => .rows (x.2.1.length ≤ x.1.deeds.length ∧ x.2.1.length ≤ 64) 1 ((onlyG x.1 x.2.1).map rowW)⟩
theorem at_only (x : WG) (r : List W) (f : Bool) : sp_only.at [x.av, .d (.list (r.map rowW) f)] = .rows (r.length ≤ x.deeds.length ∧ r.length ≤ 64) 1 ((onlyG x r).map rowW) :=
  Sp.at_enc (s := sp_only) (fun x y h => by
    obtain ⟨a, b, c⟩ := x; obtain ⟨a', b', c'⟩ := y
    simp only [sp_only, List.cons.injEq, AV.d.injEq, DV.list.injEq, and_true] at h
    rw [WG.av_inj _ _ h.1, Z3t rowW_inj h.2.1, h.2.2]) (x, r, f)
theorem at_atomicX (x : WG) (i : Nat) : sp_atomic.at [.agg [.d (.list (x.locs.map LocG.row) x.lf), .d (.list (x.deeds.map DeedG.row) x.df), .d (.list (x.rf.map rowW) x.rff), .d (.list (x.co.map rowW) x.cof)], .d (.int .i64 i)] = .data (i < x.deeds.length) (.d (.bool (x.atom i))) true := at_atomic x i
def onlyS (x : WG) (r : List W) (i : Nat) (a : Nat) : W := if a < i ∧ x.atom a = false then 0#64 else r.getD a 0#64
theorem onlyS_0 (x : WG) (r : List W) : r = mapW r.length (onlyS x r 0) := by
  apply List.ext_getElem?
  intro i
  unfold mapW onlyS
  rcases Nat.lt_or_ge i r.length with h | h
  · simp [h]
  · simp [h]
theorem body_axiom_only {T : Tab} {n1 n2 : Nat} (k1 : Knows T n1 (cloneS 1 8)) (k2 : Knows T n2 sp_atomic) : sp_only.Body T V_axiom_only (L_axiom_only n1 n2) R_axiom_only := by
  have F1 := k1.F; have G1 := k1.G; have F2 := k2.F; have G2 := k2.G
  rintro ⟨x, r, f⟩ ⟨h1, h2⟩
  have h1 : r.length ≤ x.deeds.length := h1
  have h2 : r.length ≤ 64 := h2
  refine ⟨by exact rows_len (f := rowW) (fun _ => rfl) _, ?_⟩
  unfold V_axiom_only L_axiom_only R_axiom_only
  simp (maxSteps := 3000000) only [↓Z19, ↓Z26, ↓Z1z, ↓Z05, ↓Z2m, ↓Z2l, Z4b, Z4g, ↓Z1l, ↓Z17, ↓Z0h, ↓Z20, ↓Z0k, ↓Z1k, ↓Z31, ↓Z30, ↓Z24, ↓Z1x, ↓Z2o, ↓Z2c, ↓Z1j, ↓Z3b, ↓Z4c, ↓Z3l, ↓Z3n, ↓Z3m, ↓Z3y, ↓Z3w, ↓Z48, ↓Z0i, ↓Z09, ↓Z18, ↓Z0g, ↓Z1o, Z49, Z07, Z1b, Z32, Z1a, Z35, evN, Z2g, Z1g, Z34, Z41, Z1f, Z15, Z1e, Z2v, Z2h, Z29, Z1h, Z2a, evT, Opd.ev, Z02, Z00, Z33, Z3z, Z3q, Z27, Z1n, Z28, Z2b, Z3j, Z1m, Z0l, Z3o, LOp.isNew, State.prune, Z3u, Z37, AV.leaf, Heap.at, Z0j, Z0a, Z1i, Z0e, Z03, idx_I, idx_W, rowW, Z2f, Z2w, Z21, Z1c, rowB, Z2y, Z2x, rowN, Z4i, Z3p, Z1d, Z16, w_or, w_and, Z2z, Z4d, w_shl, Z43, w_shr, Z4e, w_neg, w_add, w_bit, w_eq0, w_eq1, w_eq, Bool.decide_eq_true, Z3f, Z3e, Z3i, Z2p, Z1p, Z04, Z0b, Z0n, Z01, Z1y, rowI, RatG.row, LocG.row, ActG.row, StepG.row, StampG.row, ActG.av, ActG.eta, RatG.eta, LocG.eta, beq_true, beq_false, Z2k, Z2u, Z2n, Z2t, Z12, Z0q, Z10, Z11, Z0p, Z0o, Z0c, List.length_set, List.length_replicate, Z06, Int.reduceToNat, Z4t, Z2d, Z4a, Src.all, Src.len, Src.leaf, Src.leafN, Z3a, Z44, Z4p, Z0m, Z0r, Z0s, Z0t, Z0u, Z0v, Z0w, Z0x, Z4r, drows, evMk, List.length_map, Z1w, Z22, List.take_length, List.take_left, List.length_append, Nat.le_add_right, ite_self, List.take_of_length_le, Z3d, Z4n, Z42, Option.isSome_none, Option.isSome_some, Nat.sub_zero, Z4m, Z4v, Z4l, evUn, Z13, Z14, binT, binQ, chk, Z3v, List.contains_cons, List.contains_nil, Bool.or_false, Bool.false_or, Bool.and_self, resQ, resV, resT, Z4u, Z2e, Z47, Z3g, fnOf, Z3c, isD, HO.drow, Z4j, Z3x, evEq, eqV, eqK, eqC1, Z45, Z40, Z39, Z38, Z4f, Z3k, Z2s, Z1s, Z2r, Z1r, Z2q, Z1q, Z1t, Z0y, Z0z, Z0d, List.mem_cons, List.not_mem_nil, or_false, forall_eq, putRow, Z3r, Z23, RetS, RetF, RetD, AV.frz, AV.frzL, AV.freshP, AV.freshL, DV.less, Z2i, Z1u, Z2j, Z1v, Z0f, Z08, Option.some.injEq, AV.tup.injEq, AV.agg.injEq, List.cons.injEq, DV.list.injEq, List.isEmpty_nil, Nat.le_refl, AV.d.injEq, DV.int.injEq, DV.bool.injEq, ↓reduceIte, Nat.reduceEqDiff, Nat.reduceAdd, Nat.reduceBEq, List.length_cons, List.length_nil, List.replicate_succ, List.replicate_zero, List.nil_append, List.cons_append, List.append_nil, List.foldl_cons, List.foldl_nil, List.map_cons, List.map_nil, List.all_cons, List.all_nil, List.set_cons_zero, List.set_cons_succ, List.getD_cons_zero, List.getD_cons_succ, List.drop_zero, List.drop_succ_cons, List.take_succ_cons, List.take_zero, List.flatten_cons, List.flatten_nil, Bool.true_and, Bool.and_true, Bool.not_true, Bool.not_false, true_and, and_true, true_or, or_true, Option.bind_some, Option.map_some, decide_true, decide_false, beq_self_eq_true, true_implies, false_implies, implies_true, not_true_eq_false, not_false_eq_true, and_self, Bool.and_false, Bool.false_and, Nat.reduceLT, Nat.reduceLeDiff, List.reverse_cons, List.reverse_nil, Nat.zero_add, Nat.add_zero, Bool.false_eq_true, List.getElem?_cons_zero, Nat.reduceMul, Nat.mul_one, DeedG.row, idx_Deed, Z4k, Z46, lens_Deed, Z4s, idx_LA, rowLA_len, rowLA_get, idx_LI, rowLI_len, rowLI_get, sp_only, WG.av, F1, G1, F2, G2, at_clone, at_atomicX]
  refine ⟨roomy_of (by omega) (by omega), ?_⟩
  refine Loop.fam [2, 5, 10, 11] (fun i : Nat => ⟨[(2, .ptr 0 4 0 0), (5, .ref 1 1 0 r.length true), (10, .d (.int .i64 r.length)), (11, .d (.int .i64 i))],
      [.vec 4 [[.d (.list (x.locs.map LocG.row) x.lf), .d (.list (x.deeds.map DeedG.row) x.df), .d (.list (x.rf.map rowW) x.rff), .d (.list (x.co.map rowW) x.cof)]], .dvec 1 ((mapW r.length (onlyS x r i)).map rowW)]⟩)
    (fun i => i ≤ r.length) (fun i => r.length - i) 0 [0, 1] (by simp) (by simp) (by rw [← onlyS_0]; simp only [State.can, AV.can, AV.canL, HO.can, Z25, idx, Z02, Z00, Heap.at, Nat.reduceBEq, ↓reduceIte, Nat.reduceEqDiff, Option.getD_some, Option.map_some, List.map_cons, List.map_nil, List.getD_cons_zero, List.getD_cons_succ]; rfl) (by omega) ?_
  intro i hi
  have hi : i ≤ r.length := hi
  simp (maxSteps := 3000000) only [↓Z19, ↓Z26, ↓Z1z, ↓Z05, ↓Z2m, ↓Z2l, Z4b, Z4g, ↓Z1l, ↓Z17, ↓Z0h, ↓Z20, ↓Z0k, ↓Z1k, ↓Z31, ↓Z30, ↓Z24, ↓Z1x, ↓Z2o, ↓Z2c, ↓Z1j, ↓Z3b, ↓Z4c, ↓Z3l, ↓Z3n, ↓Z3m, ↓Z3y, ↓Z3w, ↓Z48, ↓Z0i, ↓Z09, ↓Z18, ↓Z0g, ↓Z1o, Z49, Z07, Z1b, Z32, Z1a, Z35, evN, Z2g, Z1g, Z34, Z41, Z1f, Z15, Z1e, Z2v, Z2h, Z29, Z1h, Z2a, evT, Opd.ev, Z02, Z00, Z33, Z3z, Z3q, Z27, Z1n, Z28, Z2b, Z3j, Z1m, Z0l, Z3o, LOp.isNew, State.prune, Z3u, Z37, AV.leaf, Heap.at, Z0j, Z0a, Z1i, Z0e, Z03, idx_I, idx_W, rowW, Z2f, Z2w, Z21, Z1c, rowB, Z2y, Z2x, rowN, Z4i, Z3p, Z1d, Z16, w_or, w_and, Z2z, Z4d, w_shl, Z43, w_shr, Z4e, w_neg, w_add, w_bit, w_eq0, w_eq1, w_eq, Bool.decide_eq_true, Z3f, Z3e, Z3i, Z2p, Z1p, Z04, Z0b, Z0n, Z01, Z1y, rowI, RatG.row, LocG.row, ActG.row, StepG.row, StampG.row, ActG.av, ActG.eta, RatG.eta, LocG.eta, beq_true, beq_false, Z2k, Z2u, Z2n, Z2t, Z12, Z0q, Z10, Z11, Z0p, Z0o, Z0c, List.length_set, List.length_replicate, Z06, Int.reduceToNat, Z4t, Z2d, Z4a, Src.all, Src.len, Src.leaf, Src.leafN, Z3a, Z44, Z4p, Z0m, Z0r, Z0s, Z0t, Z0u, Z0v, Z0w, Z0x, Z4r, drows, evMk, List.length_map, Z1w, Z22, List.take_length, List.take_left, List.length_append, Nat.le_add_right, ite_self, List.take_of_length_le, Z3d, Z4n, Z42, Option.isSome_none, Option.isSome_some, Nat.sub_zero, Z4m, Z4v, Z4l, evUn, Z13, Z14, binT, binQ, chk, Z3v, List.contains_cons, List.contains_nil, Bool.or_false, Bool.false_or, Bool.and_self, resQ, resV, resT, Z4u, Z2e, Z47, Z3g, fnOf, Z3c, isD, HO.drow, Z4j, Z3x, evEq, eqV, eqK, eqC1, Z45, Z40, Z39, Z38, Z4f, Z3k, Z2s, Z1s, Z2r, Z1r, Z2q, Z1q, Z1t, Z0y, Z0z, Z0d, List.mem_cons, List.not_mem_nil, or_false, forall_eq, putRow, Z3r, Z23, RetS, RetF, RetD, AV.frz, AV.frzL, AV.freshP, AV.freshL, DV.less, Z2i, Z1u, Z2j, Z1v, Z0f, Z08, Option.some.injEq, AV.tup.injEq, AV.agg.injEq, List.cons.injEq, DV.list.injEq, List.isEmpty_nil, Nat.le_refl, AV.d.injEq, DV.int.injEq, DV.bool.injEq, ↓reduceIte, Nat.reduceEqDiff, Nat.reduceAdd, Nat.reduceBEq, List.length_cons, List.length_nil, List.replicate_succ, List.replicate_zero, List.nil_append, List.cons_append, List.append_nil, List.foldl_cons, List.foldl_nil, List.map_cons, List.map_nil, List.all_cons, List.all_nil, List.set_cons_zero, List.set_cons_succ, List.getD_cons_zero, List.getD_cons_succ, List.drop_zero, List.drop_succ_cons, List.take_succ_cons, List.take_zero, List.flatten_cons, List.flatten_nil, Bool.true_and, Bool.and_true, Bool.not_true, Bool.not_false, true_and, and_true, true_or, or_true, Option.bind_some, Option.map_some, decide_true, decide_false, beq_self_eq_true, true_implies, false_implies, implies_true, not_true_eq_false, not_false_eq_true, and_self, Bool.and_false, Bool.false_and, Nat.reduceLT, Nat.reduceLeDiff, List.reverse_cons, List.reverse_nil, Nat.zero_add, Nat.add_zero, Bool.false_eq_true, List.getElem?_cons_zero, Nat.reduceMul, Nat.mul_one, DeedG.row, idx_Deed, Z4k, Z46, lens_Deed, Z4s, idx_LA, rowLA_len, rowLA_get, idx_LI, rowLI_len, rowLI_get, WG.av, F1, G1, F2, G2, at_clone, at_atomicX]
  have w1 : IntKind.i64.wrap ((i : Int) + 1) = ((i + 1 : Nat) : Int) := by rw [wrap_id (by omega) (by omega)]; omega
  rw [w1]
  refine ⟨fun e => ⟨by omega, fun ha => ?_, fun ha => ⟨⟨by omega, by omega⟩, by rw [mapW_len]; omega, ?_⟩⟩, fun e => ?_⟩
  · have e1 : mapW r.length (onlyS x r (i + 1)) = mapW r.length (onlyS x r i) := mapW_congr fun a _ => by
      unfold onlyS
      by_cases h : a = i
      · subst h; rw [ha]; simp
      · have hiff : (a < i + 1) ↔ (a < i) := by omega
        simp only [hiff]
    exact Z36.mk [0, 1] (i + 1) (by simp) (by simp) (by rw [e1]; simp only [State.can, AV.can, AV.canL, HO.can, Z25, idx, Z02, Z00, Heap.at, Nat.reduceBEq, ↓reduceIte, Nat.reduceEqDiff, Option.getD_some, Option.map_some, List.map_cons, List.map_nil, List.getD_cons_zero, List.getD_cons_succ]) (by show i + 1 ≤ _; omega) (by show r.length - (i + 1) < r.length - i; omega)
  · have e1 : (List.map rowW (mapW r.length (onlyS x r i))).set i [DV.int .u64 0] = (mapW r.length (onlyS x r (i + 1))).map rowW := by
      rw [show [DV.int .u64 0] = rowW 0#64 from rfl, ← List.map_set]
      congr 1
      refine mapW_set (by omega) ?_ fun a _ hne => ?_
      · unfold onlyS; rw [ha, if_pos ⟨by omega, rfl⟩]
      · unfold onlyS
        have hiff : (a < i + 1) ↔ (a < i) := by omega
        simp only [hiff]
    rw [e1]
    exact Z36.mk [0, 1] (i + 1) (by simp) (by simp) (by simp only [State.can, AV.can, AV.canL, HO.can, Z25, idx, Z02, Z00, Heap.at, Nat.reduceBEq, ↓reduceIte, Nat.reduceEqDiff, Option.getD_some, Option.map_some, List.map_cons, List.map_nil, List.getD_cons_zero, List.getD_cons_succ]) (by show i + 1 ≤ _; omega) (by show r.length - (i + 1) < r.length - i; omega)
  · have e2 : i = r.length := by omega
    have e1 : mapW r.length (onlyS x r i) = onlyG x r := mapW_congr fun a ha => by
      unfold onlyS
      cases h : x.atom a with
      | true => rw [if_neg (by simp), if_pos rfl]
      | false => rw [if_pos ⟨by omega, rfl⟩, if_neg (by simp)]
    rw [e1]
    exact .inl ⟨1, true, by rw [List.length_map]; unfold onlyG; rw [mapW_len], rfl⟩
/-! ### The order -/
theorem at_onlyX (x : WG) (r : List W) (f : Bool) : sp_only.at [.agg [.d (.list (x.locs.map LocG.row) x.lf), .d (.list (x.deeds.map DeedG.row) x.df), .d (.list (x.rf.map rowW) x.rff), .d (.list (x.co.map rowW) x.cof)], .d (.list (r.map rowW) f)] = .rows (r.length ≤ x.deeds.length ∧ r.length ≤ 64) 1 ((onlyG x r).map rowW) := at_only x r f
def befD (a b : DeedG) (i k : Nat) : Bool := decide (a.th < 0) && decide (0 ≤ b.th) || decide (0 ≤ a.th) && decide (a.th = b.th) && decide (i < k)
def WG.bef (x : WG) (i k : Nat) : Bool := befD (x.deeds.getD i default) (x.deeds.getD k default) i k
def WG.baseR (x : WG) : List W := onlyG x (lay2 qOr x.rf x.co)
def WG.baseO (x : WG) : List W := mkR x.deeds.length fun i k => hasN x.baseR i k || x.bef i k
structure WG.Ok (x : WG) : Prop where
  n : x.deeds.length ≤ 64
  rf : Sq x.deeds.length x.rf
  co : Sq x.deeds.length x.co
def ordW (x : WG) : List W := plusG x.baseO
def sp_orderW : Sp := ⟨WG, fun x => [x.av], fun x => .rows x.Ok 1 ((ordW x).map rowW)⟩
theorem at_orderW (x : WG) : sp_orderW.at [x.av] = .rows x.Ok 1 ((ordW x).map rowW) :=
  Sp.at_enc (s := sp_orderW) (fun (x y : WG) h => by
    simp only [sp_orderW, List.cons.injEq, and_true] at h
    exact WG.av_inj _ _ h) x
theorem sq_get {n : Nat} (hn : n ≤ 64) {r : List W} (hr : Sq n r) {i k : Nat} (hi : i < n) : (r.getD i 0#64).getLsbD k = hasN r i k := by
  conv => lhs; rw [hr.eq]
  rw [mkR_get hi]
  by_cases h : k < n
  · rw [decide_eq_true h, decide_eq_true (show k < 64 by omega)]; rfl
  · rw [decide_eq_false h, hasN_off (by unfold szR; rw [hr.len]; omega)]; rfl
theorem only_sq {x : WG} {n : Nat} (hn : n ≤ 64) {r : List W} (hr : Sq n r) : Sq n (onlyG x r) := by
  have : onlyG x r = mkR n fun i k => x.atom i && hasN r i k := by
    refine mkR_ext (by unfold onlyG; rw [mapW_len, hr.len]) fun i k hi hk => ?_
    unfold onlyG
    rw [mapW_get (by rw [hr.len]; exact hi)]
    cases x.atom i
    · simp
    · rw [if_pos rfl, sq_get hn hr hi]
      by_cases h : k < n
      · simp [h]
      · rw [decide_eq_false h, hasN_off (by unfold szR; rw [hr.len]; omega)]; rfl
  rw [this]; exact Sq.mk hn _
theorem set_or {n i k : Nat} {q : Nat → Nat → Bool} (hn : n ≤ 64) (hi : i < n) (hk : k < n) : (mkR n q).set i ((mkR n q).getD i 0#64 ||| 1#64 <<< k) = mkR n fun a c => q a c || (decide (a = i) && decide (c = k)) := by
  refine mkR_set hi (fun c hc => ?_) fun a c ha hc hne => by rw [decide_eq_false hne]; simp
  rw [BitVec.getLsbD_or, mkR_get hi]
  have hb : (1#64 <<< k).getLsbD c = decide (c = k) := by
    rw [BitVec.getLsbD_shiftLeft]
    by_cases h : c = k
    · subst h; simp [hc]
    · by_cases h2 : c < k
      · simp [h2, h]
      · have : c - k ≠ 0 := by omega
        simp [h, this]
  rw [hb]
  by_cases h : c = k
  · subst h; simp [hk, hc]
  · simp [h, hc]
theorem set_andnot {n i k : Nat} {q : Nat → Nat → Bool} (hn : n ≤ 64) (hi : i < n) (hk : k < n) : (mkR n q).set i ((mkR n q).getD i 0#64 &&& ~~~(1#64 <<< k)) = mkR n fun a c => q a c && !(decide (a = i) && decide (c = k)) := by
  refine mkR_set hi (fun c hc => ?_) fun a c ha hc hne => by rw [decide_eq_false hne]; simp
  rw [BitVec.getLsbD_and, mkR_get hi, BitVec.getLsbD_not]
  have hb : (1#64 <<< k).getLsbD c = decide (c = k) := by
    rw [BitVec.getLsbD_shiftLeft]
    by_cases h : c = k
    · subst h; simp [hc]
    · by_cases h2 : c < k
      · simp [h2, h]
      · have : c - k ≠ 0 := by omega
        simp [h, this]
  rw [hb]
  simp [hc, Bool.and_assoc]
def befS (x : WG) (i k : Nat) : List W := mkR x.deeds.length fun a c => hasN x.baseR a c || ((decide (a < i) || (decide (a = i) && decide (c < k))) && x.bef a c)
def WG.hv (x : WG) : HO := .vec 4 [[.d (.list (x.locs.map LocG.row) x.lf), .d (.list (x.deeds.map DeedG.row) x.df), .d (.list (x.rf.map rowW) x.rff), .d (.list (x.co.map rowW) x.cof)]]
def bSt1 (x : WG) (i : Nat) : State :=
  ⟨[(1, .ptr 0 4 0 0), (3, .ref 1 1 0 (befS x i 0).length true), (16, .d (.list (x.deeds.map DeedG.row) x.df)), (17, .d (.int .i64 x.deeds.length)), (18, .d (.int .i64 i))],
    [.vec 4 [[.d (.list (x.locs.map LocG.row) x.lf), .d (.list (x.deeds.map DeedG.row) x.df), .d (.list (x.rf.map rowW) x.rff), .d (.list (x.co.map rowW) x.cof)]], .dvec 1 ((befS x i 0).map rowW)]⟩
def bSt2 (x : WG) (i k : Nat) : State :=
  ⟨[(1, .ptr 0 4 0 0), (3, .ref 1 1 0 (befS x i k).length true), (4, .d (.int .i64 i)), (5, .ptr 2 5 0 0), (16, .d (.list (x.deeds.map DeedG.row) x.df)), (17, .d (.int .i64 x.deeds.length)), (18, .d (.int .i64 i)), (24, .d (.list (x.deeds.map DeedG.row) x.df)), (25, .d (.int .i64 x.deeds.length)), (26, .d (.int .i64 k))],
    [.vec 4 [[.d (.list (x.locs.map LocG.row) x.lf), .d (.list (x.deeds.map DeedG.row) x.df), .d (.list (x.rf.map rowW) x.rff), .d (.list (x.co.map rowW) x.cof)]], .dvec 1 ((befS x i k).map rowW),
     .vec 5 [[.d (.int .i64 (x.deeds.getD i default).th), .d (.int .i64 (x.deeds.getD i default).act.kind), .d (.int .i64 (x.deeds.getD i default).act.loc), .d (.int .i64 (x.deeds.getD i default).act.old), .d (.int .i64 (x.deeds.getD i default).act.new)]]]⟩
theorem befS_len (x : WG) (i k : Nat) : (befS x i k).length = x.deeds.length := by unfold befS; rw [Z4o]
set_option maxHeartbeats 4000000 in
theorem body_axiom_Order {T : Tab} {n1 n2 n3 : Nat} (k1 : Knows T n1 (sp_lay2 qOr)) (k2 : Knows T n2 sp_only) (k3 : Knows T n3 sp_Plus) : sp_orderW.Body T V_axiom_Order (L_axiom_Order n1 n2 n3) R_axiom_Order := by
  have F1 := k1.F; have G1 := k1.G; have F2 := k2.F; have G2 := k2.G; have F3 := k3.F; have G3 := k3.G
  rintro (x : WG) hx
  have hx : x.Ok := hx
  refine ⟨by exact rows_len (f := rowW) (fun _ => rfl) _, ?_⟩
  unfold V_axiom_Order L_axiom_Order R_axiom_Order
  simp (maxSteps := 3000000) only [↓Z19, ↓Z26, ↓Z1z, ↓Z05, ↓Z2m, ↓Z2l, Z4b, Z4g, ↓Z1l, ↓Z17, ↓Z0h, ↓Z20, ↓Z0k, ↓Z1k, ↓Z31, ↓Z30, ↓Z24, ↓Z1x, ↓Z2o, ↓Z2c, ↓Z1j, ↓Z3b, ↓Z4c, ↓Z3l, ↓Z3n, ↓Z3m, ↓Z3y, ↓Z3w, ↓Z48, ↓Z0i, ↓Z09, ↓Z18, ↓Z0g, ↓Z1o, Z49, Z07, Z1b, Z32, Z1a, Z35, evN, Z2g, Z1g, Z34, Z41, Z1f, Z15, Z1e, Z2v, Z2h, Z29, Z1h, Z2a, evT, Opd.ev, Z02, Z00, Z33, Z3z, Z3q, Z27, Z1n, Z28, Z2b, Z3j, Z1m, Z0l, Z3o, LOp.isNew, State.prune, Z3u, Z37, AV.leaf, Heap.at, Z0j, Z0a, Z1i, Z0e, Z03, idx_I, idx_W, rowW, Z2f, Z2w, Z21, Z1c, rowB, Z2y, Z2x, rowN, Z4i, Z3p, Z1d, Z16, w_or, w_and, Z2z, Z4d, w_shl, Z43, w_shr, Z4e, w_neg, w_add, w_bit, w_eq0, w_eq1, w_eq, Bool.decide_eq_true, Z3f, Z3e, Z3i, Z2p, Z1p, Z04, Z0b, Z0n, Z01, Z1y, rowI, RatG.row, LocG.row, ActG.row, StepG.row, StampG.row, ActG.av, ActG.eta, RatG.eta, LocG.eta, beq_true, beq_false, Z2k, Z2u, Z2n, Z2t, Z12, Z0q, Z10, Z11, Z0p, Z0o, Z0c, List.length_set, List.length_replicate, Z06, Int.reduceToNat, Z4t, Z2d, Z4a, Src.all, Src.len, Src.leaf, Src.leafN, Z3a, Z44, Z4p, Z0m, Z0r, Z0s, Z0t, Z0u, Z0v, Z0w, Z0x, Z4r, drows, evMk, List.length_map, Z1w, Z22, List.take_length, List.take_left, List.length_append, Nat.le_add_right, ite_self, List.take_of_length_le, Z3d, Z4n, Z42, Option.isSome_none, Option.isSome_some, Nat.sub_zero, Z4m, Z4v, Z4l, evUn, Z13, Z14, binT, binQ, chk, Z3v, List.contains_cons, List.contains_nil, Bool.or_false, Bool.false_or, Bool.and_self, resQ, resV, resT, Z4u, Z2e, Z47, Z3g, fnOf, Z3c, isD, HO.drow, Z4j, Z3x, evEq, eqV, eqK, eqC1, Z45, Z40, Z39, Z38, Z4f, Z3k, Z2s, Z1s, Z2r, Z1r, Z2q, Z1q, Z1t, Z0y, Z0z, Z0d, List.mem_cons, List.not_mem_nil, or_false, forall_eq, putRow, Z3r, Z23, RetS, RetF, RetD, AV.frz, AV.frzL, AV.freshP, AV.freshL, DV.less, Z2i, Z1u, Z2j, Z1v, Z0f, Z08, Option.some.injEq, AV.tup.injEq, AV.agg.injEq, List.cons.injEq, DV.list.injEq, List.isEmpty_nil, Nat.le_refl, AV.d.injEq, DV.int.injEq, DV.bool.injEq, ↓reduceIte, Nat.reduceEqDiff, Nat.reduceAdd, Nat.reduceBEq, List.length_cons, List.length_nil, List.replicate_succ, List.replicate_zero, List.nil_append, List.cons_append, List.append_nil, List.foldl_cons, List.foldl_nil, List.map_cons, List.map_nil, List.all_cons, List.all_nil, List.set_cons_zero, List.set_cons_succ, List.getD_cons_zero, List.getD_cons_succ, List.drop_zero, List.drop_succ_cons, List.take_succ_cons, List.take_zero, List.flatten_cons, List.flatten_nil, Bool.true_and, Bool.and_true, Bool.not_true, Bool.not_false, true_and, and_true, true_or, or_true, Option.bind_some, Option.map_some, decide_true, decide_false, beq_self_eq_true, true_implies, false_implies, implies_true, not_true_eq_false, not_false_eq_true, and_self, Bool.and_false, Bool.false_and, Nat.reduceLT, Nat.reduceLeDiff, List.reverse_cons, List.reverse_nil, Nat.zero_add, Nat.add_zero, Bool.false_eq_true, List.getElem?_cons_zero, Nat.reduceMul, Nat.mul_one, DeedG.row, idx_Deed, Z4k, Z46, lens_Deed, Z4s, idx_LA, rowLA_len, rowLA_get, idx_LI, rowLI_len, rowLI_get, sp_orderW, WG.av, F1, G1, F2, G2, F3, G3, at_lay2, at_onlyX, at_Plus]
  have hn := hx.n
  have hU : Sq x.deeds.length (lay2 qOr x.rf x.co) := Sq.lay2 hx.rf.len hx.co.len hn
  have hB : Sq x.deeds.length x.baseR := only_sq hn hU
  have e0 : befS x 0 0 = onlyG x (lay2 qOr x.rf x.co) := by
    show _ = x.baseR
    conv => rhs; rw [hB.eq]
    unfold befS
    exact Z3s fun a c _ _ => by simp
  refine ⟨⟨by rw [hx.rf.len]; unfold maxLen; omega, by rw [hx.co.len]; unfold maxLen; omega⟩, ⟨by rw [hU.len]; exact Nat.le_refl _, by rw [hU.len]; exact hn⟩, ?_⟩
  rw [← e0]
  refine Loop.fam [1, 3, 16, 17, 18] (bSt1 x) (fun i => i ≤ x.deeds.length) (fun i => x.deeds.length - i) 0 [0, 2] (by simp) (by simp) (by simp only [State.can, AV.can, AV.canL, HO.can, Z25, idx, Z02, Z00, Heap.at, Nat.reduceBEq, ↓reduceIte, Nat.reduceEqDiff, Option.getD_some, Option.map_some, List.map_cons, List.map_nil, List.getD_cons_zero, List.getD_cons_succ, bSt1]; rfl) (by omega) ?_
  intro i hi
  have hi : i ≤ x.deeds.length := hi
  simp (maxSteps := 3000000) only [↓Z19, ↓Z26, ↓Z1z, ↓Z05, ↓Z2m, ↓Z2l, Z4b, Z4g, ↓Z1l, ↓Z17, ↓Z0h, ↓Z20, ↓Z0k, ↓Z1k, ↓Z31, ↓Z30, ↓Z24, ↓Z1x, ↓Z2o, ↓Z2c, ↓Z1j, ↓Z3b, ↓Z4c, ↓Z3l, ↓Z3n, ↓Z3m, ↓Z3y, ↓Z3w, ↓Z48, ↓Z0i, ↓Z09, ↓Z18, ↓Z0g, ↓Z1o, Z49, Z07, Z1b, Z32, Z1a, Z35, evN, Z2g, Z1g, Z34, Z41, Z1f, Z15, Z1e, Z2v, Z2h, Z29, Z1h, Z2a, evT, Opd.ev, Z02, Z00, Z33, Z3z, Z3q, Z27, Z1n, Z28, Z2b, Z3j, Z1m, Z0l, Z3o, LOp.isNew, State.prune, Z3u, Z37, AV.leaf, Heap.at, Z0j, Z0a, Z1i, Z0e, Z03, idx_I, idx_W, rowW, Z2f, Z2w, Z21, Z1c, rowB, Z2y, Z2x, rowN, Z4i, Z3p, Z1d, Z16, w_or, w_and, Z2z, Z4d, w_shl, Z43, w_shr, Z4e, w_neg, w_add, w_bit, w_eq0, w_eq1, w_eq, Bool.decide_eq_true, Z3f, Z3e, Z3i, Z2p, Z1p, Z04, Z0b, Z0n, Z01, Z1y, rowI, RatG.row, LocG.row, ActG.row, StepG.row, StampG.row, ActG.av, ActG.eta, RatG.eta, LocG.eta, beq_true, beq_false, Z2k, Z2u, Z2n, Z2t, Z12, Z0q, Z10, Z11, Z0p, Z0o, Z0c, List.length_set, List.length_replicate, Z06, Int.reduceToNat, Z4t, Z2d, Z4a, Src.all, Src.len, Src.leaf, Src.leafN, Z3a, Z44, Z4p, Z0m, Z0r, Z0s, Z0t, Z0u, Z0v, Z0w, Z0x, Z4r, drows, evMk, List.length_map, Z1w, Z22, List.take_length, List.take_left, List.length_append, Nat.le_add_right, ite_self, List.take_of_length_le, Z3d, Z4n, Z42, Option.isSome_none, Option.isSome_some, Nat.sub_zero, Z4m, Z4v, Z4l, evUn, Z13, Z14, binT, binQ, chk, Z3v, List.contains_cons, List.contains_nil, Bool.or_false, Bool.false_or, Bool.and_self, resQ, resV, resT, Z4u, Z2e, Z47, Z3g, fnOf, Z3c, isD, HO.drow, Z4j, Z3x, evEq, eqV, eqK, eqC1, Z45, Z40, Z39, Z38, Z4f, Z3k, Z2s, Z1s, Z2r, Z1r, Z2q, Z1q, Z1t, Z0y, Z0z, Z0d, List.mem_cons, List.not_mem_nil, or_false, forall_eq, putRow, Z3r, Z23, RetS, RetF, RetD, AV.frz, AV.frzL, AV.freshP, AV.freshL, DV.less, Z2i, Z1u, Z2j, Z1v, Z0f, Z08, Option.some.injEq, AV.tup.injEq, AV.agg.injEq, List.cons.injEq, DV.list.injEq, List.isEmpty_nil, Nat.le_refl, AV.d.injEq, DV.int.injEq, DV.bool.injEq, ↓reduceIte, Nat.reduceEqDiff, Nat.reduceAdd, Nat.reduceBEq, List.length_cons, List.length_nil, List.replicate_succ, List.replicate_zero, List.nil_append, List.cons_append, List.append_nil, List.foldl_cons, List.foldl_nil, List.map_cons, List.map_nil, List.all_cons, List.all_nil, List.set_cons_zero, List.set_cons_succ, List.getD_cons_zero, List.getD_cons_succ, List.drop_zero, List.drop_succ_cons, List.take_succ_cons, List.take_zero, List.flatten_cons, List.flatten_nil, Bool.true_and, Bool.and_true, Bool.not_true, Bool.not_false, true_and, and_true, true_or, or_true, Option.bind_some, Option.map_some, decide_true, decide_false, beq_self_eq_true, true_implies, false_implies, implies_true, not_true_eq_false, not_false_eq_true, and_self, Bool.and_false, Bool.false_and, Nat.reduceLT, Nat.reduceLeDiff, List.reverse_cons, List.reverse_nil, Nat.zero_add, Nat.add_zero, Bool.false_eq_true, List.getElem?_cons_zero, Nat.reduceMul, Nat.mul_one, DeedG.row, idx_Deed, Z4k, Z46, lens_Deed, Z4s, idx_LA, rowLA_len, rowLA_get, idx_LI, rowLI_len, rowLI_get, bSt1, F1, G1, F2, G2, F3, G3, at_lay2, at_onlyX, at_Plus]
  refine ⟨fun e => ⟨⟨by omega, by omega⟩, ?_⟩, fun e => ?_⟩
  · have e' : i < x.deeds.length := by omega
    refine Loop.fam [1, 3, 4, 5, 16, 17, 18, 24, 25, 26] (bSt2 x i) (fun k => k ≤ x.deeds.length) (fun k => x.deeds.length - k) 0 [0, 1, 2] (by simp) (by simp) (by simp only [State.can, AV.can, AV.canL, HO.can, Z25, idx, Z02, Z00, Heap.at, Nat.reduceBEq, ↓reduceIte, Nat.reduceEqDiff, Option.getD_some, Option.map_some, List.map_cons, List.map_nil, List.getD_cons_zero, List.getD_cons_succ, bSt2]; rfl) (by omega) ?_
    intro k hk
    have hk : k ≤ x.deeds.length := hk
    simp (maxSteps := 3000000) only [↓Z19, ↓Z26, ↓Z1z, ↓Z05, ↓Z2m, ↓Z2l, Z4b, Z4g, ↓Z1l, ↓Z17, ↓Z0h, ↓Z20, ↓Z0k, ↓Z1k, ↓Z31, ↓Z30, ↓Z24, ↓Z1x, ↓Z2o, ↓Z2c, ↓Z1j, ↓Z3b, ↓Z4c, ↓Z3l, ↓Z3n, ↓Z3m, ↓Z3y, ↓Z3w, ↓Z48, ↓Z0i, ↓Z09, ↓Z18, ↓Z0g, ↓Z1o, Z49, Z07, Z1b, Z32, Z1a, Z35, evN, Z2g, Z1g, Z34, Z41, Z1f, Z15, Z1e, Z2v, Z2h, Z29, Z1h, Z2a, evT, Opd.ev, Z02, Z00, Z33, Z3z, Z3q, Z27, Z1n, Z28, Z2b, Z3j, Z1m, Z0l, Z3o, LOp.isNew, State.prune, Z3u, Z37, AV.leaf, Heap.at, Z0j, Z0a, Z1i, Z0e, Z03, idx_I, idx_W, rowW, Z2f, Z2w, Z21, Z1c, rowB, Z2y, Z2x, rowN, Z4i, Z3p, Z1d, Z16, w_or, w_and, Z2z, Z4d, w_shl, Z43, w_shr, Z4e, w_neg, w_add, w_bit, w_eq0, w_eq1, w_eq, Bool.decide_eq_true, Z3f, Z3e, Z3i, Z2p, Z1p, Z04, Z0b, Z0n, Z01, Z1y, rowI, RatG.row, LocG.row, ActG.row, StepG.row, StampG.row, ActG.av, ActG.eta, RatG.eta, LocG.eta, beq_true, beq_false, Z2k, Z2u, Z2n, Z2t, Z12, Z0q, Z10, Z11, Z0p, Z0o, Z0c, List.length_set, List.length_replicate, Z06, Int.reduceToNat, Z4t, Z2d, Z4a, Src.all, Src.len, Src.leaf, Src.leafN, Z3a, Z44, Z4p, Z0m, Z0r, Z0s, Z0t, Z0u, Z0v, Z0w, Z0x, Z4r, drows, evMk, List.length_map, Z1w, Z22, List.take_length, List.take_left, List.length_append, Nat.le_add_right, ite_self, List.take_of_length_le, Z3d, Z4n, Z42, Option.isSome_none, Option.isSome_some, Nat.sub_zero, Z4m, Z4v, Z4l, evUn, Z13, Z14, binT, binQ, chk, Z3v, List.contains_cons, List.contains_nil, Bool.or_false, Bool.false_or, Bool.and_self, resQ, resV, resT, Z4u, Z2e, Z47, Z3g, fnOf, Z3c, isD, HO.drow, Z4j, Z3x, evEq, eqV, eqK, eqC1, Z45, Z40, Z39, Z38, Z4f, Z3k, Z2s, Z1s, Z2r, Z1r, Z2q, Z1q, Z1t, Z0y, Z0z, Z0d, List.mem_cons, List.not_mem_nil, or_false, forall_eq, putRow, Z3r, Z23, RetS, RetF, RetD, AV.frz, AV.frzL, AV.freshP, AV.freshL, DV.less, Z2i, Z1u, Z2j, Z1v, Z0f, Z08, Option.some.injEq, AV.tup.injEq, AV.agg.injEq, List.cons.injEq, DV.list.injEq, List.isEmpty_nil, Nat.le_refl, AV.d.injEq, DV.int.injEq, DV.bool.injEq, ↓reduceIte, Nat.reduceEqDiff, Nat.reduceAdd, Nat.reduceBEq, List.length_cons, List.length_nil, List.replicate_succ, List.replicate_zero, List.nil_append, List.cons_append, List.append_nil, List.foldl_cons, List.foldl_nil, List.map_cons, List.map_nil, List.all_cons, List.all_nil, List.set_cons_zero, List.set_cons_succ, List.getD_cons_zero, List.getD_cons_succ, List.drop_zero, List.drop_succ_cons, List.take_succ_cons, List.take_zero, List.flatten_cons, List.flatten_nil, Bool.true_and, Bool.and_true, Bool.not_true, Bool.not_false, true_and, and_true, true_or, or_true, Option.bind_some, Option.map_some, decide_true, decide_false, beq_self_eq_true, true_implies, false_implies, implies_true, not_true_eq_false, not_false_eq_true, and_self, Bool.and_false, Bool.false_and, Nat.reduceLT, Nat.reduceLeDiff, List.reverse_cons, List.reverse_nil, Nat.zero_add, Nat.add_zero, Bool.false_eq_true, List.getElem?_cons_zero, Nat.reduceMul, Nat.mul_one, DeedG.row, idx_Deed, Z4k, Z46, lens_Deed, Z4s, idx_LA, rowLA_len, rowLA_get, idx_LI, rowLI_len, rowLI_get, bSt2, F1, G1, F2, G2, F3, G3, at_lay2, at_onlyX, at_Plus]
    refine ⟨fun d => ?_, fun d => ?_⟩
    · have d' : k < x.deeds.length := by omega
      have w1 : IntKind.i64.wrap ((k : Int) + 1) = ((k + 1 : Nat) : Int) := by rw [wrap_id (by omega) (by omega)]; omega
      have w0 : IntKind.u64.wrap (k : Int) = ((k : Nat) : Int) := wrapU (by omega)
      rw [w1, w0]
      simp only [Z06]
      have hyes : x.bef i k = true → (befS x i k).set i ((befS x i k).getD i 0#64 ||| 1#64 <<< k) = befS x i (k + 1) := fun hb => by
        unfold befS
        rw [set_or hn e' d']
        refine Z3s fun a c _ _ => ?_
        by_cases ha : a = i
        · subst ha
          by_cases hc : c = k
          · subst hc; simp [hb]
          · have h1 : (c < k + 1) ↔ (c < k) := by omega
            simp [hc, h1]
        · simp [ha]
      have hno : x.bef i k = false → befS x i k = befS x i (k + 1) := fun hb => by
        unfold befS
        refine Z3s fun a c _ _ => ?_
        by_cases ha : a = i
        · subst ha
          by_cases hc : c = k
          · subst hc; simp [hb]
          · have h1 : (c < k + 1) ↔ (c < k) := by omega
            simp [h1]
        · simp [ha]
      have yes : ∀ {S : State}, x.bef i k = true → 3 ≤ S.heap.length → S.can [0, 1, 2] [1, 3, 4, 5, 16, 17, 18, 24, 25, 26] = ⟨[(1, .ptr 0 4 0 0), (3, .ref 1 1 0 (befS x i k).length true), (4, .d (.int .i64 i)), (5, .ptr 2 5 0 0), (16, .d (.list (x.deeds.map DeedG.row) x.df)), (17, .d (.int .i64 x.deeds.length)), (18, .d (.int .i64 i)), (24, .d (.list (x.deeds.map DeedG.row) x.df)), (25, .d (.int .i64 x.deeds.length)), (26, .d (.int .i64 (k + 1 : Nat)))],
          [.vec 4 [[.d (.list (x.locs.map LocG.row) x.lf), .d (.list (x.deeds.map DeedG.row) x.df), .d (.list (x.rf.map rowW) x.rff), .d (.list (x.co.map rowW) x.cof)]], .dvec 1 (((befS x i k).set i ((befS x i k).getD i 0#64 ||| 1#64 <<< k)).map rowW),
           .vec 5 [[.d (.int .i64 (x.deeds.getD i default).th), .d (.int .i64 (x.deeds.getD i default).act.kind), .d (.int .i64 (x.deeds.getD i default).act.loc), .d (.int .i64 (x.deeds.getD i default).act.old), .d (.int .i64 (x.deeds.getD i default).act.new)]]]⟩ →
          Z36 [1, 3, 4, 5, 16, 17, 18, 24, 25, 26] (bSt2 x i) (fun k => k ≤ x.deeds.length) (fun k => x.deeds.length - k) (x.deeds.length - k) S := fun {S} hb hl hS =>
        Z36.mk [0, 1, 2] (k + 1) (by simp) (by simp; omega) (by rw [hS, hyes hb, befS_len]; unfold bSt2; rw [befS_len]) (by show k + 1 ≤ _; omega) (by show x.deeds.length - (k + 1) < x.deeds.length - k; omega)
      have no : ∀ {S : State}, x.bef i k = false → 3 ≤ S.heap.length → S.can [0, 1, 2] [1, 3, 4, 5, 16, 17, 18, 24, 25, 26] = ⟨[(1, .ptr 0 4 0 0), (3, .ref 1 1 0 (befS x i k).length true), (4, .d (.int .i64 i)), (5, .ptr 2 5 0 0), (16, .d (.list (x.deeds.map DeedG.row) x.df)), (17, .d (.int .i64 x.deeds.length)), (18, .d (.int .i64 i)), (24, .d (.list (x.deeds.map DeedG.row) x.df)), (25, .d (.int .i64 x.deeds.length)), (26, .d (.int .i64 (k + 1 : Nat)))],
          [.vec 4 [[.d (.list (x.locs.map LocG.row) x.lf), .d (.list (x.deeds.map DeedG.row) x.df), .d (.list (x.rf.map rowW) x.rff), .d (.list (x.co.map rowW) x.cof)]], .dvec 1 ((befS x i k).map rowW),
           .vec 5 [[.d (.int .i64 (x.deeds.getD i default).th), .d (.int .i64 (x.deeds.getD i default).act.kind), .d (.int .i64 (x.deeds.getD i default).act.loc), .d (.int .i64 (x.deeds.getD i default).act.old), .d (.int .i64 (x.deeds.getD i default).act.new)]]]⟩ →
          Z36 [1, 3, 4, 5, 16, 17, 18, 24, 25, 26] (bSt2 x i) (fun k => k ≤ x.deeds.length) (fun k => x.deeds.length - k) (x.deeds.length - k) S := fun {S} hb hl hS =>
        Z36.mk [0, 1, 2] (k + 1) (by simp) (by simp; omega) (by rw [hS, hno hb]; unfold bSt2; rfl) (by show k + 1 ≤ _; omega) (by show x.deeds.length - (k + 1) < x.deeds.length - k; omega)
      have hy : (((x.deeds.getD i default).th < 0 ∧ 0 ≤ (x.deeds.getD k default).th) ∨ (0 ≤ (x.deeds.getD i default).th ∧ (x.deeds.getD i default).th = (x.deeds.getD k default).th ∧ (i : Int) < k)) → x.bef i k = true := fun h => by
        unfold WG.bef befD
        rcases h with ⟨a, b⟩ | ⟨a, b, c⟩
        · rw [decide_eq_true a, decide_eq_true b]; rfl
        · rw [decide_eq_true a, decide_eq_true b, decide_eq_true (show i < k by omega)]; simp
      have hz : ¬ (((x.deeds.getD i default).th < 0 ∧ 0 ≤ (x.deeds.getD k default).th) ∨ (0 ≤ (x.deeds.getD i default).th ∧ (x.deeds.getD i default).th = (x.deeds.getD k default).th ∧ (i : Int) < k)) → x.bef i k = false := fun h => by
        unfold WG.bef befD
        rw [Bool.eq_false_iff]
        intro hh
        apply h
        simp only [Bool.or_eq_true, Bool.and_eq_true, decide_eq_true_eq] at hh
        omega
      have hbl := befS_len x i k
      (repeat' (first | intro _ | apply And.intro))
      all_goals first
        | omega
        | exact yes (hy (by omega)) (by simp) (by simp only [State.can, AV.can, AV.canL, HO.can, Z25, idx, Z02, Z00, Heap.at, Nat.reduceBEq, ↓reduceIte, Nat.reduceEqDiff, Option.getD_some, Option.map_some, List.map_cons, List.map_nil, List.getD_cons_zero, List.getD_cons_succ])
        | exact no (hz (by omega)) (by simp) (by simp only [State.can, AV.can, AV.canL, HO.can, Z25, idx, Z02, Z00, Heap.at, Nat.reduceBEq, ↓reduceIte, Nat.reduceEqDiff, Option.getD_some, Option.map_some, List.map_cons, List.map_nil, List.getD_cons_zero, List.getD_cons_succ])
    · have d' : k = x.deeds.length := by omega
      subst d'
      have w1 : IntKind.i64.wrap ((i : Int) + 1) = ((i + 1 : Nat) : Int) := by rw [wrap_id (by omega) (by omega)]; omega
      rw [w1]
      have e2 : befS x i x.deeds.length = befS x (i + 1) 0 := by
        unfold befS
        refine Z3s fun a c _ hc => ?_
        have h1 : (a < i ∨ a = i ∧ c < x.deeds.length) ↔ (a < i + 1) := by omega
        simp only [← Bool.decide_and, ← Bool.decide_or, h1]
        simp
      rw [e2]
      exact Z36.mk [0, 1] (i + 1) (by simp) (by simp) (by simp only [State.can, AV.can, AV.canL, HO.can, Z25, idx, Z02, Z00, Heap.at, Nat.reduceBEq, ↓reduceIte, Nat.reduceEqDiff, Option.getD_some, Option.map_some, List.map_cons, List.map_nil, List.getD_cons_zero, List.getD_cons_succ, bSt1]) (by show i + 1 ≤ _; omega) (by show x.deeds.length - (i + 1) < x.deeds.length - i; omega)
  · have e' : i = x.deeds.length := by omega
    have e2 : befS x i 0 = x.baseO := by
      unfold befS WG.baseO
      refine Z3s fun a c ha _ => ?_
      rw [decide_eq_true (show a < i by omega)]; simp
    rw [e2]
    exact ⟨by unfold WG.baseO; rw [Z4o]; unfold maxLen; omega, .inl ⟨2, true, by rw [List.length_map]; rfl, rfl⟩⟩
/-! ### What follows what is read -/
def frP (x : WG) (i k : Nat) : Bool := thenP (backG x.rf) x.co i k
def frW (x : WG) : List W := mkR x.deeds.length fun i k => frP x i k && !decide (k = i)
def sp_frW : Sp := ⟨WG, fun x => [x.av], fun x => .rows x.Ok 1 ((frW x).map rowW)⟩
theorem at_frW (x : WG) : sp_frW.at [x.av] = .rows x.Ok 1 ((frW x).map rowW) :=
  Sp.at_enc (s := sp_frW) (fun (x y : WG) h => by
    simp only [sp_frW, List.cons.injEq, and_true] at h
    exact WG.av_inj _ _ h) x
def frS (x : WG) (j : Nat) : List W := mkR x.deeds.length fun i k => frP x i k && !(decide (i < j) && decide (k = i))
theorem frS_len (x : WG) (j : Nat) : (frS x j).length = x.deeds.length := by unfold frS; rw [Z4o]
theorem body_axiom_Fr {T : Tab} {n1 n2 : Nat} (k1 : Knows T n1 sp_Then) (k2 : Knows T n2 sp_Back) : sp_frW.Body T V_axiom_Fr (L_axiom_Fr n1 n2) R_axiom_Fr := by
  have F1 := k1.F; have G1 := k1.G; have F2 := k2.F; have G2 := k2.G
  rintro (x : WG) hx
  have hx : x.Ok := hx
  refine ⟨by exact rows_len (f := rowW) (fun _ => rfl) _, ?_⟩
  unfold V_axiom_Fr L_axiom_Fr R_axiom_Fr
  simp (maxSteps := 3000000) only [↓Z19, ↓Z26, ↓Z1z, ↓Z05, ↓Z2m, ↓Z2l, Z4b, Z4g, ↓Z1l, ↓Z17, ↓Z0h, ↓Z20, ↓Z0k, ↓Z1k, ↓Z31, ↓Z30, ↓Z24, ↓Z1x, ↓Z2o, ↓Z2c, ↓Z1j, ↓Z3b, ↓Z4c, ↓Z3l, ↓Z3n, ↓Z3m, ↓Z3y, ↓Z3w, ↓Z48, ↓Z0i, ↓Z09, ↓Z18, ↓Z0g, ↓Z1o, Z49, Z07, Z1b, Z32, Z1a, Z35, evN, Z2g, Z1g, Z34, Z41, Z1f, Z15, Z1e, Z2v, Z2h, Z29, Z1h, Z2a, evT, Opd.ev, Z02, Z00, Z33, Z3z, Z3q, Z27, Z1n, Z28, Z2b, Z3j, Z1m, Z0l, Z3o, LOp.isNew, State.prune, Z3u, Z37, AV.leaf, Heap.at, Z0j, Z0a, Z1i, Z0e, Z03, idx_I, idx_W, rowW, Z2f, Z2w, Z21, Z1c, rowB, Z2y, Z2x, rowN, Z4i, Z3p, Z1d, Z16, w_or, w_and, Z2z, Z4d, w_shl, Z43, w_shr, Z4e, w_neg, w_add, w_bit, w_eq0, w_eq1, w_eq, Bool.decide_eq_true, Z3f, Z3e, Z3i, Z2p, Z1p, Z04, Z0b, Z0n, Z01, Z1y, rowI, RatG.row, LocG.row, ActG.row, StepG.row, StampG.row, ActG.av, ActG.eta, RatG.eta, LocG.eta, beq_true, beq_false, Z2k, Z2u, Z2n, Z2t, Z12, Z0q, Z10, Z11, Z0p, Z0o, Z0c, List.length_set, List.length_replicate, Z06, Int.reduceToNat, Z4t, Z2d, Z4a, Src.all, Src.len, Src.leaf, Src.leafN, Z3a, Z44, Z4p, Z0m, Z0r, Z0s, Z0t, Z0u, Z0v, Z0w, Z0x, Z4r, drows, evMk, List.length_map, Z1w, Z22, List.take_length, List.take_left, List.length_append, Nat.le_add_right, ite_self, List.take_of_length_le, Z3d, Z4n, Z42, Option.isSome_none, Option.isSome_some, Nat.sub_zero, Z4m, Z4v, Z4l, evUn, Z13, Z14, binT, binQ, chk, Z3v, List.contains_cons, List.contains_nil, Bool.or_false, Bool.false_or, Bool.and_self, resQ, resV, resT, Z4u, Z2e, Z47, Z3g, fnOf, Z3c, isD, HO.drow, Z4j, Z3x, evEq, eqV, eqK, eqC1, Z45, Z40, Z39, Z38, Z4f, Z3k, Z2s, Z1s, Z2r, Z1r, Z2q, Z1q, Z1t, Z0y, Z0z, Z0d, List.mem_cons, List.not_mem_nil, or_false, forall_eq, putRow, Z3r, Z23, RetS, RetF, RetD, AV.frz, AV.frzL, AV.freshP, AV.freshL, DV.less, Z2i, Z1u, Z2j, Z1v, Z0f, Z08, Option.some.injEq, AV.tup.injEq, AV.agg.injEq, List.cons.injEq, DV.list.injEq, List.isEmpty_nil, Nat.le_refl, AV.d.injEq, DV.int.injEq, DV.bool.injEq, ↓reduceIte, Nat.reduceEqDiff, Nat.reduceAdd, Nat.reduceBEq, List.length_cons, List.length_nil, List.replicate_succ, List.replicate_zero, List.nil_append, List.cons_append, List.append_nil, List.foldl_cons, List.foldl_nil, List.map_cons, List.map_nil, List.all_cons, List.all_nil, List.set_cons_zero, List.set_cons_succ, List.getD_cons_zero, List.getD_cons_succ, List.drop_zero, List.drop_succ_cons, List.take_succ_cons, List.take_zero, List.flatten_cons, List.flatten_nil, Bool.true_and, Bool.and_true, Bool.not_true, Bool.not_false, true_and, and_true, true_or, or_true, Option.bind_some, Option.map_some, decide_true, decide_false, beq_self_eq_true, true_implies, false_implies, implies_true, not_true_eq_false, not_false_eq_true, and_self, Bool.and_false, Bool.false_and, Nat.reduceLT, Nat.reduceLeDiff, List.reverse_cons, List.reverse_nil, Nat.zero_add, Nat.add_zero, Bool.false_eq_true, List.getElem?_cons_zero, Nat.reduceMul, Nat.mul_one, DeedG.row, idx_Deed, Z4k, Z46, lens_Deed, Z4s, idx_LA, rowLA_len, rowLA_get, idx_LI, rowLI_len, rowLI_get, sp_frW, WG.av, F1, G1, F2, G2, at_Then, at_Back]
  have hn := hx.n
  have hb : (backG x.rf).length = x.deeds.length := by unfold backG; rw [Z4o]; unfold szR; rw [hx.rf.len]; omega
  have e0 : thenG (backG x.rf) x.co = frS x 0 := by
    have hT : thenG (backG x.rf) x.co = mkR (mxR (backG x.rf) x.co) (thenP (backG x.rf) x.co) := rfl
    rw [hT, mxR_eq hb hx.co.len hn]
    exact Z3s fun i k _ _ => by simp [frP]
  rw [e0]
  refine ⟨by rw [hx.rf.len]; unfold maxLen; omega, ⟨by rw [hb]; unfold maxLen; omega, by rw [hx.co.len]; unfold maxLen; omega⟩, ?_⟩
  refine Loop.fam [3, 12, 13] (fun j : Nat => ⟨[(3, .ref 0 1 0 (frS x j).length true), (12, .d (.int .i64 x.deeds.length)), (13, .d (.int .i64 j))], [.dvec 1 ((frS x j).map rowW)]⟩) (fun j => j ≤ x.deeds.length) (fun j => x.deeds.length - j) 0 [2] (by simp) (by simp) (by rw [frS_len]; simp only [State.can, AV.can, AV.canL, HO.can, Z25, idx, Z02, Z00, Heap.at, Nat.reduceBEq, ↓reduceIte, Nat.reduceEqDiff, Option.getD_some, Option.map_some, List.map_cons, List.map_nil, List.getD_cons_zero, List.getD_cons_succ, frS_len]; rfl) (by omega) ?_
  intro j hj
  have hj : j ≤ x.deeds.length := hj
  simp (maxSteps := 3000000) only [↓Z19, ↓Z26, ↓Z1z, ↓Z05, ↓Z2m, ↓Z2l, Z4b, Z4g, ↓Z1l, ↓Z17, ↓Z0h, ↓Z20, ↓Z0k, ↓Z1k, ↓Z31, ↓Z30, ↓Z24, ↓Z1x, ↓Z2o, ↓Z2c, ↓Z1j, ↓Z3b, ↓Z4c, ↓Z3l, ↓Z3n, ↓Z3m, ↓Z3y, ↓Z3w, ↓Z48, ↓Z0i, ↓Z09, ↓Z18, ↓Z0g, ↓Z1o, Z49, Z07, Z1b, Z32, Z1a, Z35, evN, Z2g, Z1g, Z34, Z41, Z1f, Z15, Z1e, Z2v, Z2h, Z29, Z1h, Z2a, evT, Opd.ev, Z02, Z00, Z33, Z3z, Z3q, Z27, Z1n, Z28, Z2b, Z3j, Z1m, Z0l, Z3o, LOp.isNew, State.prune, Z3u, Z37, AV.leaf, Heap.at, Z0j, Z0a, Z1i, Z0e, Z03, idx_I, idx_W, rowW, Z2f, Z2w, Z21, Z1c, rowB, Z2y, Z2x, rowN, Z4i, Z3p, Z1d, Z16, w_or, w_and, Z2z, Z4d, w_shl, Z43, w_shr, Z4e, w_neg, w_add, w_bit, w_eq0, w_eq1, w_eq, Bool.decide_eq_true, Z3f, Z3e, Z3i, Z2p, Z1p, Z04, Z0b, Z0n, Z01, Z1y, rowI, RatG.row, LocG.row, ActG.row, StepG.row, StampG.row, ActG.av, ActG.eta, RatG.eta, LocG.eta, beq_true, beq_false, Z2k, Z2u, Z2n, Z2t, Z12, Z0q, Z10, Z11, Z0p, Z0o, Z0c, List.length_set, List.length_replicate, Z06, Int.reduceToNat, Z4t, Z2d, Z4a, Src.all, Src.len, Src.leaf, Src.leafN, Z3a, Z44, Z4p, Z0m, Z0r, Z0s, Z0t, Z0u, Z0v, Z0w, Z0x, Z4r, drows, evMk, List.length_map, Z1w, Z22, List.take_length, List.take_left, List.length_append, Nat.le_add_right, ite_self, List.take_of_length_le, Z3d, Z4n, Z42, Option.isSome_none, Option.isSome_some, Nat.sub_zero, Z4m, Z4v, Z4l, evUn, Z13, Z14, binT, binQ, chk, Z3v, List.contains_cons, List.contains_nil, Bool.or_false, Bool.false_or, Bool.and_self, resQ, resV, resT, Z4u, Z2e, Z47, Z3g, fnOf, Z3c, isD, HO.drow, Z4j, Z3x, evEq, eqV, eqK, eqC1, Z45, Z40, Z39, Z38, Z4f, Z3k, Z2s, Z1s, Z2r, Z1r, Z2q, Z1q, Z1t, Z0y, Z0z, Z0d, List.mem_cons, List.not_mem_nil, or_false, forall_eq, putRow, Z3r, Z23, RetS, RetF, RetD, AV.frz, AV.frzL, AV.freshP, AV.freshL, DV.less, Z2i, Z1u, Z2j, Z1v, Z0f, Z08, Option.some.injEq, AV.tup.injEq, AV.agg.injEq, List.cons.injEq, DV.list.injEq, List.isEmpty_nil, Nat.le_refl, AV.d.injEq, DV.int.injEq, DV.bool.injEq, ↓reduceIte, Nat.reduceEqDiff, Nat.reduceAdd, Nat.reduceBEq, List.length_cons, List.length_nil, List.replicate_succ, List.replicate_zero, List.nil_append, List.cons_append, List.append_nil, List.foldl_cons, List.foldl_nil, List.map_cons, List.map_nil, List.all_cons, List.all_nil, List.set_cons_zero, List.set_cons_succ, List.getD_cons_zero, List.getD_cons_succ, List.drop_zero, List.drop_succ_cons, List.take_succ_cons, List.take_zero, List.flatten_cons, List.flatten_nil, Bool.true_and, Bool.and_true, Bool.not_true, Bool.not_false, true_and, and_true, true_or, or_true, Option.bind_some, Option.map_some, decide_true, decide_false, beq_self_eq_true, true_implies, false_implies, implies_true, not_true_eq_false, not_false_eq_true, and_self, Bool.and_false, Bool.false_and, Nat.reduceLT, Nat.reduceLeDiff, List.reverse_cons, List.reverse_nil, Nat.zero_add, Nat.add_zero, Bool.false_eq_true, List.getElem?_cons_zero, Nat.reduceMul, Nat.mul_one, DeedG.row, idx_Deed, Z4k, Z46, lens_Deed, Z4s, idx_LA, rowLA_len, rowLA_get, idx_LI, rowLI_len, rowLI_get, F1, G1, F2, G2]
  refine ⟨fun e => ?_, fun e => ?_⟩
  · have e' : j < x.deeds.length := by omega
    have hl := frS_len x j
    have w1 : IntKind.i64.wrap ((j : Int) + 1) = ((j + 1 : Nat) : Int) := by rw [wrap_id (by omega) (by omega)]; omega
    have w0 : IntKind.u64.wrap (j : Int) = ((j : Nat) : Int) := wrapU (by omega)
    rw [w1, w0]
    simp only [Z06]
    have hs : (frS x j).set j ((frS x j).getD j 0#64 &&& ~~~(1#64 <<< j)) = frS x (j + 1) := by
      unfold frS
      rw [set_andnot hn e' e']
      refine Z3s fun a c _ _ => ?_
      by_cases ha : a = j
      · subst ha
        by_cases hc : c = a
        · subst hc; simp
        · simp [hc]
      · have h1 : (a < j + 1) ↔ (a < j) := by omega
        simp [ha, h1]
    refine ⟨by omega, by omega, by omega, by omega, by omega, ?_⟩
    rw [hs]
    exact Z36.mk [0] (j + 1) (by simp) (by simp) (by simp only [State.can, AV.can, AV.canL, HO.can, Z25, idx, Z02, Z00, Heap.at, Nat.reduceBEq, ↓reduceIte, Nat.reduceEqDiff, Option.getD_some, Option.map_some, List.map_cons, List.map_nil, List.getD_cons_zero, List.getD_cons_succ, frS_len]) (by show j + 1 ≤ _; omega) (by show x.deeds.length - (j + 1) < x.deeds.length - j; omega)
  · have e2 : frS x j = frW x := by
      unfold frS frW
      refine Z3s fun a c ha _ => ?_
      rw [decide_eq_true (show a < j by omega)]; simp
    rw [e2]
    exact .inl ⟨0, true, by rw [List.length_map], rfl⟩
/-! ### Check -/
def meetsG (a b : List W) : Bool := (lay2 qAnd a (backG b)).any nzW
def sp_meets : Sp := ⟨List W × Bool × List W × Bool, fun x => [.d (.list (x.1.map rowW) x.2.1), .d (.list (x.2.2.1.map rowW) x.2.2.2)], fun x => .data (x.1.length ≤ 64 ∧ x.2.2.1.length ≤ 64) (.d (.bool (meetsG x.1 x.2.2.1))) true⟩
theorem at_meets (a b : List W) (f g : Bool) : sp_meets.at [.d (.list (a.map rowW) f), .d (.list (b.map rowW) g)] = .data (a.length ≤ 64 ∧ b.length ≤ 64) (.d (.bool (meetsG a b))) true :=
  Sp.at_enc (s := sp_meets) (fun x y h => by
    obtain ⟨a, b, c, d⟩ := x; obtain ⟨a', b', c', d'⟩ := y
    simp only [sp_meets, List.cons.injEq, AV.d.injEq, DV.list.injEq, and_true] at h
    obtain ⟨⟨h1, h2⟩, h3, h4⟩ := h
    rw [Z3t rowW_inj h1, h2, Z3t rowW_inj h3, h4]) (a, f, b, g)
theorem body_axiom_meets {T : Tab} {n1 n2 n3 n_axiom_meets_1 : Nat} (k1 : Knows T n1 sp_Back) (k2 : Knows T n2 (sp_anyZ n_axiom_meets_1)) (k3 : Knows T n3 (sp_lay2 qAnd)) : sp_meets.Body T V_axiom_meets (L_axiom_meets n1 n2 n3 n_axiom_meets_1) R_axiom_meets := by
  have F1 := k1.F; have G1 := k1.G; have F2 := k2.F; have G2 := k2.G; have F3 := k3.F; have G3 := k3.G
  rintro ⟨a, f, b, g⟩ ⟨h1, h2⟩
  have h1 : a.length ≤ 64 := h1
  have h2 : b.length ≤ 64 := h2
  refine .inl ⟨rfl, ?_⟩
  unfold V_axiom_meets L_axiom_meets R_axiom_meets
  simp (maxSteps := 3000000) only [↓Z19, ↓Z26, ↓Z1z, ↓Z05, ↓Z2m, ↓Z2l, Z4b, Z4g, ↓Z1l, ↓Z17, ↓Z0h, ↓Z20, ↓Z0k, ↓Z1k, ↓Z31, ↓Z30, ↓Z24, ↓Z1x, ↓Z2o, ↓Z2c, ↓Z1j, ↓Z3b, ↓Z4c, ↓Z3l, ↓Z3n, ↓Z3m, ↓Z3y, ↓Z3w, ↓Z48, ↓Z0i, ↓Z09, ↓Z18, ↓Z0g, ↓Z1o, Z49, Z07, Z1b, Z32, Z1a, Z35, evN, Z2g, Z1g, Z34, Z41, Z1f, Z15, Z1e, Z2v, Z2h, Z29, Z1h, Z2a, evT, Opd.ev, Z02, Z00, Z33, Z3z, Z3q, Z27, Z1n, Z28, Z2b, Z3j, Z1m, Z0l, Z3o, LOp.isNew, State.prune, Z3u, Z37, AV.leaf, Heap.at, Z0j, Z0a, Z1i, Z0e, Z03, idx_I, idx_W, rowW, Z2f, Z2w, Z21, Z1c, rowB, Z2y, Z2x, rowN, Z4i, Z3p, Z1d, Z16, w_or, w_and, Z2z, Z4d, w_shl, Z43, w_shr, Z4e, w_neg, w_add, w_bit, w_eq0, w_eq1, w_eq, Bool.decide_eq_true, Z3f, Z3e, Z3i, Z2p, Z1p, Z04, Z0b, Z0n, Z01, Z1y, rowI, RatG.row, LocG.row, ActG.row, StepG.row, StampG.row, ActG.av, ActG.eta, RatG.eta, LocG.eta, beq_true, beq_false, Z2k, Z2u, Z2n, Z2t, Z12, Z0q, Z10, Z11, Z0p, Z0o, Z0c, List.length_set, List.length_replicate, Z06, Int.reduceToNat, Z4t, Z2d, Z4a, Src.all, Src.len, Src.leaf, Src.leafN, Z3a, Z44, Z4p, Z0m, Z0r, Z0s, Z0t, Z0u, Z0v, Z0w, Z0x, Z4r, drows, evMk, List.length_map, Z1w, Z22, List.take_length, List.take_left, List.length_append, Nat.le_add_right, ite_self, List.take_of_length_le, Z3d, Z4n, Z42, Option.isSome_none, Option.isSome_some, Nat.sub_zero, Z4m, Z4v, Z4l, evUn, Z13, Z14, binT, binQ, chk, Z3v, List.contains_cons, List.contains_nil, Bool.or_false, Bool.false_or, Bool.and_self, resQ, resV, resT, Z4u, Z2e, Z47, Z3g, fnOf, Z3c, isD, HO.drow, Z4j, Z3x, evEq, eqV, eqK, eqC1, Z45, Z40, Z39, Z38, Z4f, Z3k, Z2s, Z1s, Z2r, Z1r, Z2q, Z1q, Z1t, Z0y, Z0z, Z0d, List.mem_cons, List.not_mem_nil, or_false, forall_eq, putRow, Z3r, Z23, RetS, RetF, RetD, AV.frz, AV.frzL, AV.freshP, AV.freshL, DV.less, Z2i, Z1u, Z2j, Z1v, Z0f, Z08, Option.some.injEq, AV.tup.injEq, AV.agg.injEq, List.cons.injEq, DV.list.injEq, List.isEmpty_nil, Nat.le_refl, AV.d.injEq, DV.int.injEq, DV.bool.injEq, ↓reduceIte, Nat.reduceEqDiff, Nat.reduceAdd, Nat.reduceBEq, List.length_cons, List.length_nil, List.replicate_succ, List.replicate_zero, List.nil_append, List.cons_append, List.append_nil, List.foldl_cons, List.foldl_nil, List.map_cons, List.map_nil, List.all_cons, List.all_nil, List.set_cons_zero, List.set_cons_succ, List.getD_cons_zero, List.getD_cons_succ, List.drop_zero, List.drop_succ_cons, List.take_succ_cons, List.take_zero, List.flatten_cons, List.flatten_nil, Bool.true_and, Bool.and_true, Bool.not_true, Bool.not_false, true_and, and_true, true_or, or_true, Option.bind_some, Option.map_some, decide_true, decide_false, beq_self_eq_true, true_implies, false_implies, implies_true, not_true_eq_false, not_false_eq_true, and_self, Bool.and_false, Bool.false_and, Nat.reduceLT, Nat.reduceLeDiff, List.reverse_cons, List.reverse_nil, Nat.zero_add, Nat.add_zero, Bool.false_eq_true, List.getElem?_cons_zero, Nat.reduceMul, Nat.mul_one, sp_meets, F1, G1, F2, G2, F3, G3, at_Back, at_anyZ, at_lay2]
  refine ⟨by unfold maxLen; omega, ⟨by unfold maxLen; omega, ?_⟩, ?_, rfl⟩
  · unfold backG; rw [Z4o]; unfold szR maxLen; omega
  · rw [lay2_len]; have := mxR_le a (backG b); unfold maxLen; omega
def chkW (x : WG) : Int := if ringG (lay2 qOr (lay2 qOr (ordW x) x.rf) (onlyG x (frW x))) = true then 1 else if meetsG (ordW x) x.co = true then 2 else if meetsG (ordW x) (frW x) = true then 3 else 0
def sp_chkW : Sp := ⟨WG, fun x => [x.av], fun x => .data x.Ok (.d (.int .i64 (chkW x))) true⟩
theorem at_chkW (x : WG) : sp_chkW.at [x.av] = .data x.Ok (.d (.int .i64 (chkW x))) true :=
  Sp.at_enc (s := sp_chkW) (fun (x y : WG) h => by
    simp only [sp_chkW, List.cons.injEq, and_true] at h
    exact WG.av_inj _ _ h) x
theorem at_orderWX (x : WG) : sp_orderW.at [.agg [.d (.list (x.locs.map LocG.row) x.lf), .d (.list (x.deeds.map DeedG.row) x.df), .d (.list (x.rf.map rowW) x.rff), .d (.list (x.co.map rowW) x.cof)]] = .rows x.Ok 1 ((ordW x).map rowW) := at_orderW x
theorem at_frWX (x : WG) : sp_frW.at [.agg [.d (.list (x.locs.map LocG.row) x.lf), .d (.list (x.deeds.map DeedG.row) x.df), .d (.list (x.rf.map rowW) x.rff), .d (.list (x.co.map rowW) x.cof)]] = .rows x.Ok 1 ((frW x).map rowW) := at_frW x
set_option maxHeartbeats 4000000 in
theorem body_axiom_Check {T : Tab} {n1 n2 n3 n4 n5 n6 : Nat} (k1 : Knows T n1 sp_orderW) (k2 : Knows T n2 sp_frW) (k3 : Knows T n3 sp_Ring) (k4 : Knows T n4 (sp_lay2 qOr)) (k5 : Knows T n5 sp_only) (k6 : Knows T n6 sp_meets) : sp_chkW.Body T V_axiom_Check (L_axiom_Check n1 n2 n3 n4 n5 n6) R_axiom_Check := by
  have F1 := k1.F; have G1 := k1.G; have F2 := k2.F; have G2 := k2.G; have F3 := k3.F; have G3 := k3.G; have F4 := k4.F; have G4 := k4.G; have F5 := k5.F; have G5 := k5.G; have F6 := k6.F; have G6 := k6.G
  rintro (x : WG) hx
  have hx : x.Ok := hx
  refine .inl ⟨rfl, ?_⟩
  unfold V_axiom_Check L_axiom_Check R_axiom_Check
  simp (maxSteps := 3000000) only [↓Z19, ↓Z26, ↓Z1z, ↓Z05, ↓Z2m, ↓Z2l, Z4b, Z4g, ↓Z1l, ↓Z17, ↓Z0h, ↓Z20, ↓Z0k, ↓Z1k, ↓Z31, ↓Z30, ↓Z24, ↓Z1x, ↓Z2o, ↓Z2c, ↓Z1j, ↓Z3b, ↓Z4c, ↓Z3l, ↓Z3n, ↓Z3m, ↓Z3y, ↓Z3w, ↓Z48, ↓Z0i, ↓Z09, ↓Z18, ↓Z0g, ↓Z1o, Z49, Z07, Z1b, Z32, Z1a, Z35, evN, Z2g, Z1g, Z34, Z41, Z1f, Z15, Z1e, Z2v, Z2h, Z29, Z1h, Z2a, evT, Opd.ev, Z02, Z00, Z33, Z3z, Z3q, Z27, Z1n, Z28, Z2b, Z3j, Z1m, Z0l, Z3o, LOp.isNew, State.prune, Z3u, Z37, AV.leaf, Heap.at, Z0j, Z0a, Z1i, Z0e, Z03, idx_I, idx_W, rowW, Z2f, Z2w, Z21, Z1c, rowB, Z2y, Z2x, rowN, Z4i, Z3p, Z1d, Z16, w_or, w_and, Z2z, Z4d, w_shl, Z43, w_shr, Z4e, w_neg, w_add, w_bit, w_eq0, w_eq1, w_eq, Bool.decide_eq_true, Z3f, Z3e, Z3i, Z2p, Z1p, Z04, Z0b, Z0n, Z01, Z1y, rowI, RatG.row, LocG.row, ActG.row, StepG.row, StampG.row, ActG.av, ActG.eta, RatG.eta, LocG.eta, beq_true, beq_false, Z2k, Z2u, Z2n, Z2t, Z12, Z0q, Z10, Z11, Z0p, Z0o, Z0c, List.length_set, List.length_replicate, Z06, Int.reduceToNat, Z4t, Z2d, Z4a, Src.all, Src.len, Src.leaf, Src.leafN, Z3a, Z44, Z4p, Z0m, Z0r, Z0s, Z0t, Z0u, Z0v, Z0w, Z0x, Z4r, drows, evMk, List.length_map, Z1w, Z22, List.take_length, List.take_left, List.length_append, Nat.le_add_right, ite_self, List.take_of_length_le, Z3d, Z4n, Z42, Option.isSome_none, Option.isSome_some, Nat.sub_zero, Z4m, Z4v, Z4l, evUn, Z13, Z14, binT, binQ, chk, Z3v, List.contains_cons, List.contains_nil, Bool.or_false, Bool.false_or, Bool.and_self, resQ, resV, resT, Z4u, Z2e, Z47, Z3g, fnOf, Z3c, isD, HO.drow, Z4j, Z3x, evEq, eqV, eqK, eqC1, Z45, Z40, Z39, Z38, Z4f, Z3k, Z2s, Z1s, Z2r, Z1r, Z2q, Z1q, Z1t, Z0y, Z0z, Z0d, List.mem_cons, List.not_mem_nil, or_false, forall_eq, putRow, Z3r, Z23, RetS, RetF, RetD, AV.frz, AV.frzL, AV.freshP, AV.freshL, DV.less, Z2i, Z1u, Z2j, Z1v, Z0f, Z08, Option.some.injEq, AV.tup.injEq, AV.agg.injEq, List.cons.injEq, DV.list.injEq, List.isEmpty_nil, Nat.le_refl, AV.d.injEq, DV.int.injEq, DV.bool.injEq, ↓reduceIte, Nat.reduceEqDiff, Nat.reduceAdd, Nat.reduceBEq, List.length_cons, List.length_nil, List.replicate_succ, List.replicate_zero, List.nil_append, List.cons_append, List.append_nil, List.foldl_cons, List.foldl_nil, List.map_cons, List.map_nil, List.all_cons, List.all_nil, List.set_cons_zero, List.set_cons_succ, List.getD_cons_zero, List.getD_cons_succ, List.drop_zero, List.drop_succ_cons, List.take_succ_cons, List.take_zero, List.flatten_cons, List.flatten_nil, Bool.true_and, Bool.and_true, Bool.not_true, Bool.not_false, true_and, and_true, true_or, or_true, Option.bind_some, Option.map_some, decide_true, decide_false, beq_self_eq_true, true_implies, false_implies, implies_true, not_true_eq_false, not_false_eq_true, and_self, Bool.and_false, Bool.false_and, Nat.reduceLT, Nat.reduceLeDiff, List.reverse_cons, List.reverse_nil, Nat.zero_add, Nat.add_zero, Bool.false_eq_true, List.getElem?_cons_zero, Nat.reduceMul, Nat.mul_one, DeedG.row, idx_Deed, Z4k, Z46, lens_Deed, Z4s, idx_LA, rowLA_len, rowLA_get, idx_LI, rowLI_len, rowLI_get, sp_chkW, WG.av, F1, G1, F2, G2, F3, G3, F4, G4, F5, G5, F6, G6, at_orderWX, at_frWX, at_Ring, at_lay2, at_onlyX, at_meets]
  have hn := hx.n
  have hz : szR x.baseO = x.deeds.length := by unfold WG.baseO szR; rw [Z4o]; omega
  have ho : (ordW x).length = x.deeds.length := by unfold ordW plusG; rw [Z4o, hz]
  have hf : (frW x).length = x.deeds.length := by unfold frW; rw [Z4o]
  have hof : (onlyG x (frW x)).length = x.deeds.length := by unfold onlyG; rw [mapW_len, hf]
  have m1 := mxR_le (ordW x) x.rf
  have m2 := mxR_le (lay2 qOr (ordW x) x.rf) (onlyG x (frW x))
  have l1 : (lay2 qOr (ordW x) x.rf).length ≤ 64 := by rw [lay2_len]; exact m1
  have l2 : (lay2 qOr (lay2 qOr (ordW x) x.rf) (onlyG x (frW x))).length ≤ 64 := by rw [lay2_len]; exact m2
  have hM : maxLen = 9223372036854775807 := rfl
  refine ⟨hx, hx, ⟨by omega, by rw [hx.rf.len]; omega⟩, ⟨by omega, by omega⟩, ⟨by omega, by omega⟩, by omega, fun c1 => by unfold chkW; rw [if_pos c1], fun c1 => ⟨⟨by omega, by rw [hx.co.len]; omega⟩, fun c2 => by unfold chkW; rw [c1, if_neg (by simp), if_pos c2], fun c2 => ⟨⟨by omega, by omega⟩, fun c3 => ?_, fun c3 => ?_⟩⟩⟩
  · unfold chkW; rw [c1, c2, if_neg (by simp), if_neg (by simp), if_pos c3]
  · unfold chkW; rw [c1, c2, c3, if_neg (by simp), if_neg (by simp), if_neg (by simp)]
end Go.Ago

/- A row of ours that the library sorts: the kit's proved summary of slices.SortFunc as an effect of the abstract machine. Conditions: none. -/
set_option linter.unusedSimpArgs false
set_option linter.unusedVariables false
namespace Go.Ago
open Go.Shelf Go.Sort Go.Proofs Go.RowKit Go.Lib

theorem pres_grow (M : Nat → Prop) (w : World) (os : Array Obj) : Pres M w (grow w os) where
  size := by simp [grow]
  same b hb _ := by show (w.heap ++ os)[b]? = _; rw [Array.getElem?_append_left hb]
  keep b c T h := by
    have hb : b < w.heap.size := by
      rcases Nat.lt_or_ge b w.heap.size with h1 | h1
      · exact h1
      · rw [Array.getElem?_eq_none h1] at h; cases h
    exact ⟨c, by show (w.heap ++ os)[b]? = _; rw [Array.getElem?_append_left hb]; exact h, rfl⟩
  os := ⟨rfl, rfl, rfl, Nat.le_refl _⟩
  fz a ha := by
    unfold World.frozen?
    rw [show (grow w os).heap[a.block]? = w.heap[a.block]? from Array.getElem?_append_left ha]

theorem pres_ahead (M : Nat → Prop) (w : World) (n : Nat) : Pres M w (Sort.ahead w n) :=
  ⟨Nat.le_refl _, fun _ _ _ => rfl, fun _ c _ h => ⟨c, h, rfl⟩, ⟨rfl, rfl, rfl, Nat.le_add_right _ _⟩, fun _ _ => rfl⟩

theorem putRow_block {α : Type} [Inhabited α] {enc : α → Value} {w : World} {b o : Nat} {d : Array α} {c : Array Value} {T : TypeId} (h : w.heap[b]? = some (.cells c T (0, 0))) :
    Go.Sort.putRow enc w b o d = World.setBlock w b (putCells enc o d c) T := by
  unfold Go.Sort.putRow mapBlock World.setBlock
  congr 1
  apply Array.ext_getElem?
  intro i
  rw [Array.getElem?_modify, Array.getElem?_setIfInBounds]
  by_cases e : b = i
  · subst e
    have hb : b < w.heap.size := by
      rcases Nat.lt_or_ge b w.heap.size with h1 | h1
      · exact h1
      · rw [Array.getElem?_eq_none h1] at h; cases h
    rw [if_pos rfl, if_pos rfl, if_pos hb, h]; rfl
  · rw [if_neg e, if_neg e]

section
variable {P : Program} {α : Type} [Inhabited α] {enc : α → Value} {row : α → DV}

/-- The object that is a row of such values, in its block. -/
theorem row_holds (hR : ∀ M w x v, RelD M w (row x) v → v = enc x) {A : Nat → Prop} {φ : Nat → Option (Nat × Nat)} {H : Heap} {w : World} (hs : SimH P A φ H w) {id b o : Nat} {d : List α}
    (hat : H.at id = .dvec 1 (d.map fun x => [row x])) (hb : φ id = some (b, o)) :
    ∃ c T, w.heap[b]? = some (.cells c T (0, 0)) ∧ o + d.length ≤ c.size ∧ (∀ j, j < d.length → c[o + j]? = some (enc (d.toArray)[j]!)) := by
  obtain ⟨c, T, e1, e2, e3, e4⟩ := hs.objs id b o (by rw [hat]; trivial) hb 1 _ (by rw [hat]; rfl)
  refine ⟨c, T, e1, by simpa using e2, fun j hj => ?_⟩
  obtain ⟨v, hv, hr⟩ := e4 j [.d (row d[j])] 0 (.d (row d[j])) (by simp [hj]) rfl
  have : v = enc d[j] := by
    cases hr with
    | d _ _ h => exact hR _ _ _ _ h
  subst this
  rw [show o + j * 1 + 0 = o + j by omega] at hv
  rw [hv]
  simp [hj]

theorem row_sorted (hR : ∀ M w x v, RelD M w (row x) v → v = enc x) (hR' : ∀ M w x, RelD M w (row x) (enc x)) {A : Nat → Prop} {φ : Nat → Option (Nat × Nat)} {H : Heap} {w : World} (hs : SimH P A φ H w) {id b o : Nat} {d : List α}
    (hat : H.at id = .dvec 1 (d.map fun x => [row x])) (hb : φ id = some (b, o)) (n : Nat) (os : Array Obj) {d' : Array α} (hz : d'.size = d.length) :
    SimH P A φ (H.set id (.dvec 1 (d'.toList.map fun x => [row x]))) (sortWorld enc w b o n d' os) ∧ Onward A φ H w φ (H.set id (.dvec 1 (d'.toList.map fun x => [row x]))) (sortWorld enc w b o n d' os) := by
  obtain ⟨c, T, e1, e2, e3⟩ := row_holds hR hs hat hb
  obtain ⟨s1, o1⟩ := hs.keep (pres_ahead _ w n)
  have e1' : (Sort.ahead w n).heap[b]? = some (.cells c T (0, 0)) := e1
  obtain ⟨s2, o2⟩ := s1.change (i := id) (by rw [hat]; trivial) hb e1' (c' := putCells enc o d' c) (by simp [putCells]) (x := .dvec 1 (d'.toList.map fun x => [row x])) (sz := 1) (rows := d'.toList.map fun x => [.d (row x)])
    (by simp [HO.rows]) (by simp [hz]; omega) (by intro r hr; simp at hr; obtain ⟨x, _, rfl⟩ := hr; rfl) (fun k r j y hk hy => by
      rw [List.getElem?_map, Option.map_eq_some_iff] at hk
      obtain ⟨x, hx, rfl⟩ := hk
      have hk' : k < d'.size := by
        rw [← Array.length_toList]
        rcases Nat.lt_or_ge k d'.toList.length with h1 | h1
        · exact h1
        · rw [List.getElem?_eq_none h1] at hx; cases hx
      cases j with
      | succ j => simp at hy
      | zero =>
        simp at hy; subst hy
        refine ⟨enc x, ?_, .d _ _ (hR' _ _ _)⟩
        have hc : o + k < c.size := by omega
        have hx' : d'[k]! = x := by
          rw [Array.getElem?_toList] at hx
          rw [getElem!_def, hx]
        simp only [putCells, Nat.mul_one, Nat.add_zero, Array.getElem?_mapIdx, Array.getElem?_eq_getElem hc, Option.map_some]
        rw [if_pos (by omega), show o + k - o = k by omega, hx'])
  rw [← putRow_block e1'] at s2 o2
  obtain ⟨s3, o3⟩ := s2.keep (pres_grow _ (Go.Sort.putRow enc (Sort.ahead w n) b o d') os)
  exact ⟨s3, (o1.trans o2).trans o3⟩

end
end Go.Ago

/- A row of ints of ours that the library sorts (slices.Sort): the kit's proved summary as an effect of the abstract machine. Conditions: none. -/
set_option linter.unusedSimpArgs false
set_option linter.unusedVariables false
namespace Go.Ago
section
open Go.Shelf Go.Sort Go.Proofs Go.RowKit Go.Lib
def sortI (l : List Int) : List Int := l.mergeSort fun x y => decide (x ≤ y)
theorem sortI_len (l : List Int) : (sortI l).length = l.length := by unfold sortI; simp
theorem sortI_nil : sortI [] = [] := by unfold sortI; simp
theorem acall_sortI {P : Program} {ρ : Ren} (L : Lays.n189 P ρ) (hE : Go.Ago.Enters P (ρ.f 189)) {H : Heap} {id : Nat} {d : List Int} (hat : H.at id = .dvec 1 (d.map rowI)) (hz : d.length < 4611686018427387904) (room : Bool) :
    ACalls P (ρ.f 189) [.ref id 1 0 d.length room] H fun r H' => r = .tup [] ∧ H' = H.set id (.dvec 1 ((sortI d).map rowI)) := by
  have hR : ∀ M w (x : Int) v, RelD M w (.int .i64 x) v → v = Value.int .i64 x := fun M w x v h => by cases h; rfl
  have hR' : ∀ M w (x : Int), RelD M w (.int .i64 x) (Value.int .i64 x) := fun M w x => .int _ _
  refine ⟨hE, fun A φ w vals hs hv hr => ?_⟩
  obtain ⟨v0, hv2⟩ : ∃ v0, vals = #[v0] := by
    match vals, hv with
    | ⟨[v0]⟩, _ => exact ⟨v0, rfl⟩
  subst hv2
  have r0 := hr 0 _ _ rfl rfl
  have hid : id < H.length := Heap.at_lt (H := H) (i := id) (by rw [hat]; trivial)
  have none_case : d = [] → ∀ a cap, Calls P (ρ.f 189) #[.slice a 0 cap] w fun e w' => ∃ v r H' φ', e = .returned v ∧ (r = AV.tup [] ∧ H' = H.set id (.dvec 1 ((sortI d).map rowI))) ∧ SimH P A φ' H' w' ∧ Rel φ' (Mb A φ' H') w' r v ∧ Ext H.length φ H w φ' H' w' := fun hd a cap => by
    subst hd
    refine (Any.slices_Sort_int_none L a cap w).mono ?_
    rintro e w' ⟨rfl, rfl⟩
    have e1 : H.set id (.dvec 1 ((sortI []).map rowI)) = H := by
      rw [sortI_nil]
      apply List.ext_getElem?
      intro i
      rw [List.getElem?_set]
      by_cases e : id = i
      · subst e
        rw [if_pos rfl, if_pos hid]
        unfold Heap.at at hat
        rw [List.getD_eq_getElem?_getD, List.getElem?_eq_getElem hid] at hat
        rw [List.getElem?_eq_getElem hid]
        exact congrArg some hat.symm
      · rw [if_neg e]
    refine ⟨.tuple #[], .tup [], _, φ, rfl, ⟨rfl, rfl⟩, ?_⟩
    rw [e1]
    exact ⟨hs, .tup [] #[] rfl (fun i x v h => by simp at h), Ext.refl _ _ _ _⟩
  generalize hn : d.length = n at r0
  cases r0 with
  | ref0 => exact none_case (List.length_eq_zero_iff.1 hn) _ _
  | ref _ _ _ _ b o cap _ c T hb hcap hroom hheap hfit =>
  by_cases h0 : d = []
  · have : n = 0 := by rw [← hn, h0]; rfl
    subst this
    exact none_case h0 _ _
  subst hn
  have hat' : H.at id = .dvec 1 (d.map fun x => [DV.int .i64 x]) := hat
  obtain ⟨c', T', e1, e2, e3⟩ := row_holds (enc := Value.int .i64) (row := fun x => DV.int .i64 x) hR hs hat' hb
  rw [hheap] at e1
  simp only [Option.some.injEq, Obj.cells.injEq] at e1
  obtain ⟨rfl, rfl, _⟩ := e1
  have hblk : b < w.heap.size := (hs.dom id b o hb).2
  rw [show o + 0 * 1 = o by omega]
  have hH : Go.Sort.Holds (Value.int .i64) w b o d.toArray := fun j hj => by
    have hj' : j < d.length := by simpa using hj
    refine ⟨?_, by simp [World.frozen?, hheap]⟩
    simp only [World.cell?, hheap, Option.isSome_none, Bool.false_eq_true, if_false]
    exact e3 j hj'
  have main : Calls P (ρ.f 189) #[.slice (some ⟨b, o, none⟩) d.length cap] w _ := calls_of_every_depth fun D => AnyS.slices_Sort_int_in L D b o cap d w hH hblk hz
  refine main.mono ?_
  rintro e w' ⟨rfl, m, os, rfl⟩
  obtain ⟨s1, o1⟩ := row_sorted (enc := Value.int .i64) (row := fun x => DV.int .i64 x) hR hR' hs hat' hb m os (d' := (d.mergeSort fun x y => decide (x ≤ y)).toArray) (by simp)
  exact ⟨.tuple #[], .tup [], _, φ, rfl, ⟨rfl, rfl⟩, s1, .tup [] #[] rfl (fun i x v h => by simp at h), ⟨fun _ _ => rfl, o1.pres, o1.mono⟩⟩
end
def ef_sortI : Ef where
  A := List Int × Nat × Bool
  args := fun x id => [.ref id 1 0 x.2.1 x.2.2]
  sz := 1
  rows := fun x => x.1.map rowI
  ok := fun x => x.2.1 = x.1.length ∧ x.1.length ≤ 1000000
  val := fun _ => .tup []
  rows' := fun x => (sortI x.1).map rowI
open Classical in
noncomputable def sortIE (o : HO) (id n : Nat) : Option Eff := if h : ∃ R, o = .dvec 1 (R.map rowI) then some ⟨n = h.choose.length ∧ h.choose.length ≤ 1000000, .tup [], [(id, .dvec 1 ((sortI h.choose).map rowI))], [], none⟩ else none
theorem sortIE_d {R : List Int} {id n : Nat} : sortIE (.dvec 1 (R.map rowI)) id n = some ⟨n = R.length ∧ R.length ≤ 1000000, .tup [], [(id, .dvec 1 ((sortI R).map rowI))], [], none⟩ := by
  have h : ∃ R' : List Int, HO.dvec 1 (R.map rowI) = .dvec 1 (R'.map rowI) := ⟨R, rfl⟩
  unfold sortIE
  rw [dif_pos h]
  have e : R = h.choose := by
    have h1 := h.choose_spec
    simp only [HO.dvec.injEq, true_and] at h1
    exact Z3t rowI_inj (by simpa using h1)
  rw [← e]
theorem at_sortI {id n : Nat} {room : Bool} {H : Heap} : ef_sortI.at [.ref id 1 0 n room] H = sortIE (H.at id) id n := by
  by_cases h : ∃ R : List Int, H.at id = .dvec 1 (R.map rowI)
  · obtain ⟨R, hR⟩ := h
    rw [hR, sortIE_d]
    refine (Ef.at_fits (e := ef_sortI) (p := ((R, n, room), id)) ?_ ⟨rfl, hR⟩).trans rfl
    rintro ⟨⟨a, b, c⟩, p⟩ ⟨⟨a', b', c'⟩, p'⟩ args H ⟨h1, h2⟩ ⟨h3, h4⟩
    simp only [ef_sortI] at h1 h2 h3 h4
    rw [← h1] at h3
    simp only [List.cons.injEq, AV.ref.injEq, and_true, true_and] at h3
    obtain ⟨rfl, rfl, rfl⟩ := h3
    rw [h2] at h4
    simp only [HO.dvec.injEq, true_and] at h4
    rw [Z3t rowI_inj h4]
  · unfold Ef.at sortIE
    rw [dif_neg h, dif_neg]
    rintro ⟨⟨⟨a, b, c⟩, p⟩, h1, h2⟩
    simp only [ef_sortI, List.cons.injEq, AV.ref.injEq, and_true, true_and] at h1 h2
    obtain ⟨rfl, _⟩ := h1
    exact h ⟨_, h2⟩
theorem sortI_tab {P : Program} {T0 : Tab} (hT0 : TabOK P T0) {ρ : Go.Shelf.Ren} (L : Go.Proofs.Lays.n189 P ρ) {f : Nat} (hf : ρ.f 189 = f) (hE : Enters P f) : TabOK P (T0.addG f ef_sortI.at) := by
  refine hT0.addG (fun args H e he hok => ?_) (fun args H e t h1 h2 => by rw [Ef.at_take h1] at h2; cases h2)
  unfold Ef.at at he
  split at he
  case isFalse => cases he
  rename_i hp
  have hfit := hp.choose_spec
  generalize hp.choose = q at he hfit
  simp only [Option.some.injEq] at he
  subst he
  obtain ⟨⟨R, n, room⟩, id⟩ := q
  obtain ⟨h1, h2⟩ := hfit
  simp only [ef_sortI] at h1 h2
  subst h1
  obtain ⟨h3, h4⟩ := hok
  simp only at h3 h4
  subst h3
  subst hf
  have main := acall_sortI L hE h2 (by omega) room
  refine main.mono ?_
  rintro r H' ⟨rfl, rfl⟩
  refine ⟨rfl, ?_⟩
  simp only [Ef.eff, ef_sortI, applyUps, List.foldl_cons, List.foldl_nil, List.append_nil]
end Go.Ago
