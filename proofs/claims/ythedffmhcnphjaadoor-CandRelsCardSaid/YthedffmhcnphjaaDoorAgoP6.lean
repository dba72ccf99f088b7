/- Loops beside one object that was handed over, and calls that leave it. Conditions: none. -/
import Derived.Test.YthedffmhcnphjaaDoorAgoP5
import Derived.Test.YthedffmhcnphjaaDoorAgoP4
import Derived.Test.YthedffmhcnphjaaDoorAgoP3
set_option linter.unusedSimpArgs false
set_option linter.unusedVariables false
namespace Go.Ago
theorem RetW.mk {v' r : AV} {os' H : Heap} {n0 : Nat} (is ρ : List Nat) (h1 : ρ.Nodup) (h2 : ∀ i ∈ ρ, i < H.length) (h3 : ∀ i, i < n0 → ρ[i]? = some i)
    (h : State.can ρ [0] (State.ices is ⟨[(0, r)], H⟩) = ⟨[(0, v')], os'⟩) : RetW n0 v' os' r H := by
  have hw := can_weak (S := State.ices is ⟨[(0, r)], H⟩) (live := [0]) h1 h3 (by rw [ices_len]; exact h2)
  rw [h] at hw
  refine ⟨(ices_says is _).trans hw.says, ?_⟩
  have e : os'.length = ρ.length := by
    have := congrArg (fun S : State => S.heap.length) h
    simpa [State.can] using this.symm
  rw [e]
  cases n0 with
  | zero => omega
  | succ n =>
    rcases Nat.lt_or_ge n ρ.length with h | h
    · omega
    · have := h3 n (by omega)
      rw [List.getElem?_eq_none (by omega)] at this
      cases this

/-! ### Loops by families of states, beside one object -/
def FamN1 {α : Type} (L : List Nat) (st : α → State) (Inv : α → Prop) (m : α → Nat) (k : Nat) (S : State) : Prop :=
  ∃ x, Says 1 S (st x) ∧ 1 ≤ (st x).heap.length ∧ Inv x ∧ m x < k
theorem FamN1.mk {α : Type} {L : List Nat} {st : α → State} {Inv : α → Prop} {m : α → Nat} {k : Nat} {S : State} (ρ : List Nat) (x : α) (h1 : ρ.Nodup) (h2 : ∀ i ∈ ρ, i < S.heap.length)
    (h3 : S.can ρ L = st x) (h4 : Inv x) (h5 : m x < k) (h0 : ρ[0]? = some 0 := by rfl) : FamN1 L st Inv m k S :=
  ⟨x, h3 ▸ (can_weak h1 (fun i hi => by have : i = 0 := by omega
                                        subst this; exact h0) h2).says, by
    rw [← h3]
    cases ρ with
    | nil => cases h0
    | cons a b => simp [State.can], h4, h5⟩
theorem FamN1.says {α : Type} {L : List Nat} {st : α → State} {Inv : α → Prop} {m : α → Nat} {k : Nat} {S S' : State} (h : Says 1 S S') (hf : FamN1 L st Inv m k S') : FamN1 L st Inv m k S :=
  let ⟨x, h1, h2, h3⟩ := hf; ⟨x, h.trans h1, h2, h3⟩
theorem FamN1.ices {α : Type} {L : List Nat} {st : α → State} {Inv : α → Prop} {m : α → Nat} {k : Nat} {S : State} (is : List Nat) (h : FamN1 L st Inv m k (S.ices is)) : FamN1 L st Inv m k S := FamN1.says (ices_says is S) h
def famK1 {α : Type} (L : List Nat) (st : α → State) (Inv : α → Prop) (m : α → Nat) (k : Nat) (K : AExit → State → Prop) : AExit → State → Prop
  | .normal, S => FamN1 L st Inv m k S
  | x, S => K x S
section
variable {α : Type} {L : List Nat} {st : α → State} {Inv : α → Prop} {m : α → Nat} {k : Nat} {K : AExit → State → Prop} {S : State}
theorem famK1_n : famK1 L st Inv m k K .normal S ↔ FamN1 L st Inv m k (nf S) := Iff.rfl
theorem famK1_x {id : Nat} : famK1 L st Inv m k K (.exit id) S ↔ K (.exit id) S := Iff.rfl
theorem famK1_r : famK1 L st Inv m k K .ret S ↔ K .ret S := Iff.rfl
theorem Loop.fam1 {T : Tab} {live : List Nat} {b : LCode} (L : List Nat) (st : α → State) (Inv : α → Prop) (m : α → Nat) (x0 : α) (ρ : List Nat) (h1 : ρ.Nodup) (h2 : ∀ i ∈ ρ, i < S.heap.length)
    (h3 : S.can ρ L = st x0) (h4 : Inv x0) (h : ∀ x, Inv x → vck T 1 live b (st x) (famK1 L st Inv m (m x) K)) (h0 : ρ[0]? = some 0 := by rfl) : Loop T 1 live b S K := by
  have hf : FamN1 L st Inv m (m x0 + 1) S := FamN1.mk ρ x0 h1 h2 h3 h4 (Nat.lt_succ_self _) h0
  obtain ⟨x1, g1, g2, g3, g4⟩ := hf
  refine ⟨fun k S => ∃ x, S = st x ∧ Inv x ∧ m x = k, m x1, .inr ⟨_, g1, g2, x1, rfl, g3, rfl⟩, ?_⟩
  rintro k S ⟨x, rfl, hI, rfl⟩
  refine vck_mono _ _ _ _ (fun e S' hK => ?_) (h x hI)
  cases e with
  | normal =>
    obtain ⟨x', e1, e2, e3, e4⟩ := hK
    exact ⟨m x', e4, .inr ⟨_, e1, e2, x', rfl, e3, rfl⟩⟩
  | exit id => exact .inl hK
  | ret => exact .inl hK
end

/-! ### A call that leaves the object that it is handed, and gives data -/
structure EfW where
  A : Type
  args : A → Nat → List AV
  sz : Nat
  rows : A → List (List DV)
  ok : A → Prop
  val : A → AV
def EfW.fits (e : EfW) (p : e.A × Nat) (args : List AV) (H : Heap) : Prop := e.args p.1 p.2 = args ∧ H.at p.2 = .dvec e.sz (e.rows p.1)
def EfW.eff (e : EfW) (p : e.A × Nat) : Eff := ⟨e.ok p.1, e.val p.1, [(p.2, .dvec e.sz (e.rows p.1))], [], some ⟨p.2, p.2, e.sz, [], true⟩⟩
open Classical in
noncomputable def EfW.at (e : EfW) (args : List AV) (H : Heap) : Option Eff := if h : ∃ p, e.fits p args H then some (e.eff h.choose) else none
theorem EfW.at_fits {e : EfW} (hi : ∀ p q args H, e.fits p args H → e.fits q args H → p = q) {p : e.A × Nat} {args : List AV} {H : Heap} (h : e.fits p args H) : e.at args H = some (e.eff p) := by
  have h' : ∃ p, e.fits p args H := ⟨p, h⟩
  unfold EfW.at
  rw [dif_pos h', hi _ _ _ _ h'.choose_spec h]
structure EfW.Body (e : EfW) (T : Tab) (live : List Nat) (lc : LCode) (rs : List LRes) : Prop where
  ren : ∀ x (ρ : Nat → Nat), e.args x (ρ 0) = (e.args x 0).map (AV.ren ρ)
  val : ∀ x (ρ : Nat → Nat), (e.val x).ren ρ = e.val x
  body : ∀ x, e.ok x → vck T 1 live lc ⟨Z1d 0 (e.args x 0), [.dvec e.sz (e.rows x)]⟩ (retK rs (RetW 1 (e.val x) [.dvec e.sz (e.rows x)]))
theorem EfW.Body.calls {P : Program} {T : Tab} (hT : TabOK P T) {e : EfW} {f : FuncId} {fn : Func} {c : Code} {lc : LCode} {rs : List LRes} {live : List Nat} (h : e.Body T live lc rs) (hf : P.funcs[f]? = some fn)
    (hname : (fn.name == "runtime.NumGoroutine") = false) (hb : fn.body = some c) (hl : lowCode P fn.ntmps c = some lc) (hr : lowRess P fn.results.toList = some rs) (ha : ∀ x, (e.args x 0).length ≤ fn.ntmps) :
    ∀ x, e.ok x → ACalls P f (e.args x 0) [.dvec e.sz (e.rows x)] (fun r H1 => r = e.val x ∧ H1 = [.dvec e.sz (e.rows x)]) := fun x hok =>
  ACalls.exactW (ACalls.of_vck hT live hf hname hb hl hr (ha x) (h.body x hok))
theorem EfW.Body.ok {P : Program} {e : EfW} {f : FuncId} (hren : ∀ x (ρ : Nat → Nat), e.args x (ρ 0) = (e.args x 0).map (AV.ren ρ)) (hval : ∀ x (ρ : Nat → Nat), (e.val x).ren ρ = e.val x)
    (hc : ∀ x, e.ok x → ACalls P f (e.args x 0) [.dvec e.sz (e.rows x)] (fun r H1 => r = e.val x ∧ H1 = [.dvec e.sz (e.rows x)])) :
    ∀ args H x, e.at args H = some x → x.ok → ACalls P f args H fun r H' => r = x.val ∧ H' = applyUps H x.ups ++ x.news := by
  intro args H x hx hok
  unfold EfW.at at hx
  split at hx
  case isFalse => cases hx
  rename_i hp
  have hfit := hp.choose_spec
  generalize hp.choose = q at hx hfit
  simp only [Option.some.injEq] at hx
  subst hx
  obtain ⟨x, id⟩ := q
  obtain ⟨h1, h2⟩ := hfit
  simp only at h1 h2
  subst h1
  have hlt : id < H.length := Heap.at_lt (H := H) (i := id) (by rw [h2]; trivial)
  have hfr : Framed H [id] [.dvec e.sz (e.rows x)] (H.set id (.dvec e.sz (e.rows x)) ++ []) := by
    refine ⟨by simp, fun j hj hm => ?_, fun i hi => ?_⟩
    · rw [List.append_nil, Heap.at_set hlt, if_neg (fun h => hm (by simp [h]))]
    · have : i = 0 := by simpa using hi
      subst this
      rw [List.append_nil, into_lt (by simp), Heap.at_set hlt]
      simp [Heap.at, HO.ren]
  have := ACalls.frame (ids := [id]) (by simp) (by simp) (by simpa using hlt) (by simp) (fun k hk => by
    have : k = 0 := by simpa using hk
    subst this
    simp only [List.getElem_cons_zero, h2]
    simp [Heap.at, HO.ren]) hfr (hc x hok)
  have e1 : (e.args x 0).map (AV.ren (into H [id])) = e.args x id := by
    rw [← hren x (into H [id])]
    rw [into_lt (by simp)]; rfl
  have ev : AV.ren (into H [id]) (e.val x) = e.val x := hval x _
  rw [e1] at this
  exact this.mono fun r H' ⟨h1, h2⟩ => ⟨h1.trans ev, h2⟩
theorem EfW.Body.tab {P : Program} {T T0 : Tab} {e : EfW} {live : List Nat} {lc : LCode} {rs : List LRes} (h : e.Body T live lc rs) (hT : TabOK P T) (hT0 : TabOK P T0) {f : FuncId} {fn : Func} {c : Code} (hf : P.funcs[f]? = some fn)
    (hname : (fn.name == "runtime.NumGoroutine") = false) (hb : fn.body = some c) (hl : lowCode P fn.ntmps c = some lc) (hr : lowRess P fn.results.toList = some rs) (ha : ∀ x, (e.args x 0).length ≤ fn.ntmps) : TabOK P (T0.addG f e.at) := by
  have hc := EfW.Body.calls hT h hf hname hb hl hr ha
  refine hT0.addG (EfW.Body.ok h.ren h.val hc) fun args H x t h1 h2 hok => ?_
  unfold EfW.at at h1
  split at h1
  case isFalse => cases h1
  rename_i hp
  have hfit := hp.choose_spec
  generalize hp.choose = q at h1 hfit
  simp only [Option.some.injEq] at h1
  subst h1
  obtain ⟨x, id⟩ := q
  obtain ⟨g1, g2⟩ := hfit
  simp only at g1 g2
  subst g1
  simp only [EfW.eff, Option.some.injEq] at h2
  subst h2
  exact ⟨e.args x 0, e.rows x, fun n => h.ren x (one n id), g2, h.val x, hc x hok⟩
end Go.Ago

/- Chapter 18: what the events of threads say of one another. Conditions: none. -/
set_option maxRecDepth 100000
set_option linter.unusedSimpArgs false
set_option linter.unusedVariables false
namespace Go.Ago
attribute [local irreducible] vck
/-- Eight relations, as lists of pairs. -/
structure P8 where
  po : List RatG
  ad : List RatG
  da : List RatG
  ct : List RatG
  fe : List RatG
  sy : List RatG
  lw : List RatG
  pa : List RatG
def P8.nil : P8 := ⟨[], [], [], [], [], [], [], []⟩
def Z39 (k : Nat) (l : List RatG) : HO := .vec 1 [[.ref k 2 0 l.length true]]
def Z3a (l : List RatG) : HO := .dvec 2 (l.map RatG.row)
def P8.heap (P : P8) (x : HO) : Heap := [x, Z39 9 P.po, Z39 10 P.ad, Z39 11 P.da, Z39 12 P.ct, Z39 13 P.fe, Z39 14 P.sy, Z39 15 P.lw, Z39 16 P.pa,
  Z3a P.po, Z3a P.ad, Z3a P.da, Z3a P.ct, Z3a P.fe, Z3a P.sy, Z3a P.lw, Z3a P.pa]
def wEnv (n next : Nat) : Env := [(0, .ptr 0 12 0 0), (6, .d (.int .i64 n)), (7, .ptr 1 1 0 0), (8, .ptr 2 1 0 0), (9, .ptr 3 1 0 0), (10, .ptr 4 1 0 0), (11, .ptr 5 1 0 0), (12, .ptr 6 1 0 0), (13, .ptr 7 1 0 0), (14, .ptr 8 1 0 0), (15, .d (.int .i64 next))]
def XG.obj (x : XG) : HO := .vec 12 [[.d (.list (x.nodes.map ActG.row) x.nf), .d (lsX x.po), .d (lsX x.rf), .d (lsX x.co), .d (lsX x.fr), .d (lsX x.addr), .d (lsX x.data), .d (lsX x.ctrl), .d (lsX x.fenced), .d (lsX x.sync), .d (lsX x.lwsync), .d (lsX x.pairs)]]
def addP (c : Bool) (l : List RatG) (a b : Nat) : List RatG := if c = true then l ++ [⟨a, b⟩] else l
theorem addP_t {l : List RatG} {a b : Nat} : addP true l a b = l ++ [⟨a, b⟩] := rfl
theorem addP_f {l : List RatG} {a b : Nat} : addP false l a b = l := rfl
/-- The four masks, one after the other. -/
def P8.four (P : P8) (e : EvG) (p m next : Nat) : Nat → P8
  | 0 => P
  | 1 => { P with ad := addP (e.addr.getLsbD p) P.ad m next }
  | 2 => { P with ad := addP (e.addr.getLsbD p) P.ad m next, da := addP (e.data.getLsbD p) P.da m next }
  | 3 => { P with ad := addP (e.addr.getLsbD p) P.ad m next, da := addP (e.data.getLsbD p) P.da m next, ct := addP (e.ctrl.getLsbD p) P.ct m next }
  | _ => { P with ad := addP (e.addr.getLsbD p) P.ad m next, da := addP (e.data.getLsbD p) P.da m next, ct := addP (e.ctrl.getLsbD p) P.ct m next, fe := addP (e.fenced.getLsbD p) P.fe m next }
structure P8.Few (P : P8) (n : Nat) : Prop where
  po : P.po.length ≤ n
  ad : P.ad.length ≤ n
  da : P.da.length ≤ n
  ct : P.ct.length ≤ n
  fe : P.fe.length ≤ n
  sy : P.sy.length ≤ n
  lw : P.lw.length ≤ n
  pa : P.pa.length ≤ n
/-- What the walk through the earlier events knows. -/
structure WX where
  x : XG
  runs : List RunG
  g : Bool
  t : Nat
  evs : List EvG
  eg : Bool
  i : Nat
  e : EvG
  fe : Int
  li : Int
  es : List (Int × Int)
  next : Nat
def WX.env (y : WX) : Env := wEnv y.x.nodes.length y.next ++ [(18, .mapr 17), (19, .d (.int .i64 y.fe)), (20, .d (.int .i64 y.li)), (21, .d (.int .i64 y.i)), (22, .ptr 18 8 0 0), (34, .d (.list (y.runs.map RunG.row) y.g)), (35, .d (.int .i64 y.runs.length)), (36, .d (.int .i64 y.t)),
  (42, .d (.list (y.evs.map EvG.row) y.eg)), (43, .d (.int .i64 y.evs.length)), (44, .d (.int .i64 y.i)), (61, .ptr 19 1 0 0)]
def EvG.obj (e : EvG) : HO := .vec 8 [[.d (.int .i64 e.kind), .d (.int .i64 e.loc), .d (.int .i64 e.val), .d (.int .i64 e.pair), .d (.int .u64 (e.addr.toNat : Int)), .d (.int .u64 (e.data.toNat : Int)), .d (.int .u64 (e.ctrl.toNat : Int)), .d (.int .u64 (e.fenced.toNat : Int))]]
def WX.heap (y : WX) (P : P8) (seen : List Nat) : Heap := P.heap y.x.obj ++ [.mapo y.es, y.e.obj, .iter 17 y.es.length seen]
def four (e : EvG) : HO := .vec 2 [[.d (.int .u64 (e.addr.toNat : Int)), .ptr 2 1 0 0], [.d (.int .u64 (e.data.toNat : Int)), .ptr 3 1 0 0], [.d (.int .u64 (e.ctrl.toNat : Int)), .ptr 4 1 0 0], [.d (.int .u64 (e.fenced.toNat : Int)), .ptr 5 1 0 0]]
def fourS (y : WX) (seen : List Nat) (p m : Nat) (R : P8) (j : Nat) : State :=
  ⟨y.env ++ [(23, .d (.int .i64 p)), (24, .d (.int .i64 m)), (25, .d (.int .u64 ((1#64 <<< p).toNat : Int))), (110, .ref 20 2 0 4 true), (111, .d (.int .i64 4)), (112, .d (.int .i64 j))], y.heap R seen ++ [four y.e]⟩
def fourSt (y : WX) (seen : List Nat) (p m : Nat) (P : P8) (j : Nat) : State := fourS y seen p m (P.four y.e p m y.next j) j
def fourK (y : WX) (seen : List Nat) (p m : Nat) (R : P8) : State :=
  ⟨(113, .d (.bool false)) :: (((fourS y seen p m R 4).app (some 113) ⟨.d (.bool (decide (((4 : Nat) : Int) < 4))), [], []⟩).prune Z32).env, (fourS y seen p m R 4).heap⟩
theorem and_bit {a : W} {p : Nat} (hp : p < 64) : (a &&& 1#64 <<< p = 0#64) ↔ a.getLsbD p = false := by
  constructor
  · intro h
    have : (a &&& 1#64 <<< p).getLsbD p = false := by rw [h]; simp
    rw [BitVec.getLsbD_and, BitVec.getLsbD_shiftLeft] at this
    simpa [hp] using this
  · intro h
    apply BitVec.eq_of_getLsbD_eq
    intro k hk
    rw [BitVec.getLsbD_and, BitVec.getLsbD_shiftLeft, BitVec.getLsbD_zero]
    by_cases e : k = p
    · subst e; rw [h]; rfl
    · by_cases hl : k < p
      · simp [hl]
      · have : k - p ≠ 0 := by omega
        simp [this]
def liveY : List Nat := [0, 6, 7, 8, 9, 10, 11, 12, 13, 14, 15, 18, 19, 20, 21, 22, 34, 35, 36, 42, 43, 44, 61, 23, 24, 25, 110, 111, 112]
theorem bit_no {a : W} {p : Nat} (hp : p < 64) (h : a &&& 1#64 <<< p = 0#64) : a.getLsbD p = false := (and_bit hp).1 h
theorem bit_yes {a : W} {p : Nat} (hp : p < 64) (h : ¬ a &&& 1#64 <<< p = 0#64) : a.getLsbD p = true := by
  cases e : a.getLsbD p
  · exact absurd ((and_bit hp).2 e) h
  · rfl
set_option maxHeartbeats 4000000 in
theorem w_four {T : Tab} {n3 : Nat} (k3 : KnowsG T n3 addE) (y : WX) (seen : List Nat) (p m : Nat) (P : P8) (hp : p < 64) (hP : P.Few 100000) (K : AExit → State → Prop)
    (S : State) (ρ : List Nat) (h1 : ρ.Nodup) (h2 : ∀ i ∈ ρ, i < S.heap.length) (h3 : S.can ρ liveY = fourSt y seen p m P 0) (h0 : ρ[0]? = some 0)
    (hK : K (.exit 7) (fourK y seen p m (P.four y.e p m y.next 4))) : Loop T 1 Z32 (L_cand_within_y n3) S K := by
  have G3 := k3.G
  obtain ⟨_, p1, p2, p3, p4, _, _, _⟩ := hP
  refine Loop.fam1 liveY (fourSt y seen p m P) (fun j => j ≤ 4) (fun j => 4 - j) 0 ρ h1 h2 h3 (by omega) ?_ h0
  intro j hj
  have hj : j ≤ 4 := hj
  obtain rfl | rfl | rfl | rfl | rfl : j = 0 ∨ j = 1 ∨ j = 2 ∨ j = 3 ∨ j = 4 := by omega
  · unfold L_cand_within_y Z32
    simp (maxSteps := 3000000) only [fourSt, fourS, WX.env, WX.heap, wEnv, P8.heap, P8.four, Z39, Z3a, four, XG.obj, lsX, EvG.obj, List.cons_append, List.nil_append, ↓Z1a, ↓Z2b, ↓Z1k, ↓Z05, ↓Z2v, ↓Z2r, nilG_d, nilG_r, ↓Z1g, ↓Z19, ↓Z0d, ↓Z1l, ↓Z0m, ↓Z20, ↓Z30, ↓Z33, ↓Z24, ↓Z1j, ↓Z2m, ↓Z28, ↓Z1z, ↓Z3r, ↓retK_n, ↓Z3n, ↓Z3p, ↓Z3o, ↓Z41, ↓Z3x, ↓Z4b, ↓Z0j, ↓Z08, ↓Z1b, ↓Z0i, ↓Z1n, nf_mk, Z09, Z18, Z34, Z1c, Z37, evN, Z2i, Z1y, Z36, Z47, Z1x, Z17, Z1i, Z2u, Z2j, Z2f, Z1o, Z2c, evT, Opd.ev, Z02, Z00, Z35, Z45, Z3w, Z27, Z1m, Z2a, Z2e, Z3l, Z1d, Z0c, Z3e, LOp.isNew, State.prune, Z3t, Z31, AV.leaf, Heap.at, Z0k, Z0a, Z1h, Z0g, Z03, idx_I, idx_W, rowW, Z26, Z2w, Z22, Z1e, rowB, Z2y, Z2x, rowN, lens_W, Z3s, Z1f, Z15, w_or, w_and, Z2z, Z4d, w_shl, Z4c, w_shr, Z4e, w_neg, w_add, w_bit, w_eq0, w_eq1, w_eq, Bool.decide_eq_true, Z3h, Z3k, Z3j, Z2n, Z1p, Z04, Z0b, Z0n, Z01, Z21, rowI, RatG.row, LocG.row, ActG.row, StepG.row, StampG.row, ActG.av, ActG.eta, RatG.eta, LocG.eta, beq_true, beq_false, Z2k, Z2t, Z2l, Z2s, Z14, Z0q, Z12, Z13, Z0p, Z0o, Z0e, List.length_set, List.length_replicate, Z06, Int.reduceToNat, evLen, Z29, Z40, Src.all, Src.len, Src.leaf, Src.leafN, Z3c, Z48, joinV, Z0l, Z0r, Z0s, Z0t, Z0u, Z0v, Z0w, Z0x, mkVec, drows, evMk, List.length_map, Z1w, Z23, List.take_length, List.take_left, List.length_append, Nat.le_add_right, ite_self, List.take_of_length_le, Z3d, intOr, Z43, Option.isSome_none, Option.isSome_some, Nat.sub_zero, loadQ, loadT, evBin, evUn, Z0y, Z0z, binT, binQ, chk, Z3u, List.contains_cons, List.contains_nil, Bool.or_false, Bool.false_or, Bool.and_self, resQ, resV, resT, pickV, Z2d, Z4a, Z3q, fnOf, Z3f, isD, HO.drow, viewT, Z3y, evEq, eqV, eqK, eqC1, Z49, Z46, Z3b, Z38, lens_I, Z3m, Z2q, Z1s, Z2p, Z1r, Z2o, Z1q, Z1t, Z10, Z11, Z0f, List.mem_cons, List.not_mem_nil, or_false, forall_eq, putRow, Z3g, get_nil, RetS, RetF, RetD, AV.frz, AV.frzL, AV.freshP, AV.freshL, DV.less, Z2g, Z1u, Z2h, Z1v, Z0h, Z07, Option.some.injEq, AV.tup.injEq, AV.agg.injEq, List.cons.injEq, DV.list.injEq, List.isEmpty_nil, Nat.le_refl, AV.d.injEq, DV.int.injEq, DV.bool.injEq, ↓reduceIte, Nat.reduceEqDiff, Nat.reduceAdd, Nat.reduceBEq, List.length_cons, List.length_nil, List.replicate_succ, List.replicate_zero, List.nil_append, List.cons_append, List.append_nil, List.foldl_cons, List.foldl_nil, List.map_cons, List.map_nil, List.all_cons, List.all_nil, List.set_cons_zero, List.set_cons_succ, List.getD_cons_zero, List.getD_cons_succ, List.drop_zero, List.drop_succ_cons, List.take_succ_cons, List.take_zero, List.flatten_cons, List.flatten_nil, Bool.true_and, Bool.and_true, Bool.not_true, Bool.not_false, true_and, and_true, true_or, or_true, Option.bind_some, Option.map_some, decide_true, decide_false, beq_self_eq_true, true_implies, false_implies, implies_true, not_true_eq_false, not_false_eq_true, and_self, Bool.and_false, Bool.false_and, Nat.reduceLT, Nat.reduceLeDiff, List.reverse_cons, List.reverse_nil, Nat.zero_add, Nat.add_zero, Bool.false_eq_true, List.getElem?_cons_zero, Nat.reduceMul, Nat.mul_one, G3, addE, addE1, addE2, famK1_n, famK1_x, famK1_r]
    refine ⟨fun _ => ⟨⟨by omega, by omega⟩, fun hb => ?_, fun hb => ⟨⟨by decide, roomy_of (by omega) (by omega)⟩, ?_⟩⟩, fun h => absurd h (by decide)⟩
    · exact FamN1.mk [0, 1, 2, 3, 4, 5, 6, 7, 8, 9, 10, 11, 12, 13, 14, 15, 16, 17, 18, 19, 20] 1 (by decide) (by simp) (by simp only [liveY, fourSt, fourS, WX.env, WX.heap, wEnv, P8.heap, P8.four, Z39, Z3a, four, XG.obj, lsX, EvG.obj, List.cons_append, List.nil_append, bit_no hp hb, addP_f, State.can, AV.can, AV.canL, HO.can, Z25, idx, Z02, Z00, Heap.at, Nat.reduceBEq, ↓reduceIte, Nat.reduceEqDiff, Option.getD_some, Option.map_some, List.map_cons, List.map_nil, List.getD_cons_zero, List.getD_cons_succ]; rfl) (by show 1 ≤ 4; omega) (by show 4 - 1 < 4 - 0; omega)
    · exact FamN1.mk [0, 1, 2, 3, 4, 5, 6, 7, 8, 9, 22, 11, 12, 13, 14, 15, 16, 17, 18, 19, 20] 1 (by decide) (by simp) (by simp only [liveY, fourSt, fourS, WX.env, WX.heap, wEnv, P8.heap, P8.four, Z39, Z3a, four, XG.obj, lsX, EvG.obj, List.cons_append, List.nil_append, bit_yes hp hb, addP_t, State.can, AV.can, AV.canL, HO.can, Z25, idx, Z02, Z00, Heap.at, Nat.reduceBEq, ↓reduceIte, Nat.reduceEqDiff, Option.getD_some, Option.map_some, List.map_cons, List.map_nil, List.getD_cons_zero, List.getD_cons_succ, List.length_append, List.length_singleton]; rfl) (by show 1 ≤ 4; omega) (by show 4 - 1 < 4 - 0; omega)
  · unfold L_cand_within_y Z32
    simp (maxSteps := 3000000) only [fourSt, fourS, WX.env, WX.heap, wEnv, P8.heap, P8.four, Z39, Z3a, four, XG.obj, lsX, EvG.obj, List.cons_append, List.nil_append, ↓Z1a, ↓Z2b, ↓Z1k, ↓Z05, ↓Z2v, ↓Z2r, nilG_d, nilG_r, ↓Z1g, ↓Z19, ↓Z0d, ↓Z1l, ↓Z0m, ↓Z20, ↓Z30, ↓Z33, ↓Z24, ↓Z1j, ↓Z2m, ↓Z28, ↓Z1z, ↓Z3r, ↓retK_n, ↓Z3n, ↓Z3p, ↓Z3o, ↓Z41, ↓Z3x, ↓Z4b, ↓Z0j, ↓Z08, ↓Z1b, ↓Z0i, ↓Z1n, nf_mk, Z09, Z18, Z34, Z1c, Z37, evN, Z2i, Z1y, Z36, Z47, Z1x, Z17, Z1i, Z2u, Z2j, Z2f, Z1o, Z2c, evT, Opd.ev, Z02, Z00, Z35, Z45, Z3w, Z27, Z1m, Z2a, Z2e, Z3l, Z1d, Z0c, Z3e, LOp.isNew, State.prune, Z3t, Z31, AV.leaf, Heap.at, Z0k, Z0a, Z1h, Z0g, Z03, idx_I, idx_W, rowW, Z26, Z2w, Z22, Z1e, rowB, Z2y, Z2x, rowN, lens_W, Z3s, Z1f, Z15, w_or, w_and, Z2z, Z4d, w_shl, Z4c, w_shr, Z4e, w_neg, w_add, w_bit, w_eq0, w_eq1, w_eq, Bool.decide_eq_true, Z3h, Z3k, Z3j, Z2n, Z1p, Z04, Z0b, Z0n, Z01, Z21, rowI, RatG.row, LocG.row, ActG.row, StepG.row, StampG.row, ActG.av, ActG.eta, RatG.eta, LocG.eta, beq_true, beq_false, Z2k, Z2t, Z2l, Z2s, Z14, Z0q, Z12, Z13, Z0p, Z0o, Z0e, List.length_set, List.length_replicate, Z06, Int.reduceToNat, evLen, Z29, Z40, Src.all, Src.len, Src.leaf, Src.leafN, Z3c, Z48, joinV, Z0l, Z0r, Z0s, Z0t, Z0u, Z0v, Z0w, Z0x, mkVec, drows, evMk, List.length_map, Z1w, Z23, List.take_length, List.take_left, List.length_append, Nat.le_add_right, ite_self, List.take_of_length_le, Z3d, intOr, Z43, Option.isSome_none, Option.isSome_some, Nat.sub_zero, loadQ, loadT, evBin, evUn, Z0y, Z0z, binT, binQ, chk, Z3u, List.contains_cons, List.contains_nil, Bool.or_false, Bool.false_or, Bool.and_self, resQ, resV, resT, pickV, Z2d, Z4a, Z3q, fnOf, Z3f, isD, HO.drow, viewT, Z3y, evEq, eqV, eqK, eqC1, Z49, Z46, Z3b, Z38, lens_I, Z3m, Z2q, Z1s, Z2p, Z1r, Z2o, Z1q, Z1t, Z10, Z11, Z0f, List.mem_cons, List.not_mem_nil, or_false, forall_eq, putRow, Z3g, get_nil, RetS, RetF, RetD, AV.frz, AV.frzL, AV.freshP, AV.freshL, DV.less, Z2g, Z1u, Z2h, Z1v, Z0h, Z07, Option.some.injEq, AV.tup.injEq, AV.agg.injEq, List.cons.injEq, DV.list.injEq, List.isEmpty_nil, Nat.le_refl, AV.d.injEq, DV.int.injEq, DV.bool.injEq, ↓reduceIte, Nat.reduceEqDiff, Nat.reduceAdd, Nat.reduceBEq, List.length_cons, List.length_nil, List.replicate_succ, List.replicate_zero, List.nil_append, List.cons_append, List.append_nil, List.foldl_cons, List.foldl_nil, List.map_cons, List.map_nil, List.all_cons, List.all_nil, List.set_cons_zero, List.set_cons_succ, List.getD_cons_zero, List.getD_cons_succ, List.drop_zero, List.drop_succ_cons, List.take_succ_cons, List.take_zero, List.flatten_cons, List.flatten_nil, Bool.true_and, Bool.and_true, Bool.not_true, Bool.not_false, true_and, and_true, true_or, or_true, Option.bind_some, Option.map_some, decide_true, decide_false, beq_self_eq_true, true_implies, false_implies, implies_true, not_true_eq_false, not_false_eq_true, and_self, Bool.and_false, Bool.false_and, Nat.reduceLT, Nat.reduceLeDiff, List.reverse_cons, List.reverse_nil, Nat.zero_add, Nat.add_zero, Bool.false_eq_true, List.getElem?_cons_zero, Nat.reduceMul, Nat.mul_one, G3, addE, addE1, addE2, famK1_n, famK1_x, famK1_r]
    refine ⟨fun _ => ⟨⟨by omega, by omega⟩, fun hb => ?_, fun hb => ⟨⟨by decide, roomy_of (by omega) (by omega)⟩, ?_⟩⟩, fun h => absurd h (by decide)⟩
    · exact FamN1.mk [0, 1, 2, 3, 4, 5, 6, 7, 8, 9, 10, 11, 12, 13, 14, 15, 16, 17, 18, 19, 20] 2 (by decide) (by simp) (by simp only [liveY, fourSt, fourS, WX.env, WX.heap, wEnv, P8.heap, P8.four, Z39, Z3a, four, XG.obj, lsX, EvG.obj, List.cons_append, List.nil_append, bit_no hp hb, addP_f, State.can, AV.can, AV.canL, HO.can, Z25, idx, Z02, Z00, Heap.at, Nat.reduceBEq, ↓reduceIte, Nat.reduceEqDiff, Option.getD_some, Option.map_some, List.map_cons, List.map_nil, List.getD_cons_zero, List.getD_cons_succ]; rfl) (by show 2 ≤ 4; omega) (by show 4 - 2 < 4 - 1; omega)
    · exact FamN1.mk [0, 1, 2, 3, 4, 5, 6, 7, 8, 9, 10, 22, 12, 13, 14, 15, 16, 17, 18, 19, 20] 2 (by decide) (by simp) (by simp only [liveY, fourSt, fourS, WX.env, WX.heap, wEnv, P8.heap, P8.four, Z39, Z3a, four, XG.obj, lsX, EvG.obj, List.cons_append, List.nil_append, bit_yes hp hb, addP_t, State.can, AV.can, AV.canL, HO.can, Z25, idx, Z02, Z00, Heap.at, Nat.reduceBEq, ↓reduceIte, Nat.reduceEqDiff, Option.getD_some, Option.map_some, List.map_cons, List.map_nil, List.getD_cons_zero, List.getD_cons_succ, List.length_append, List.length_singleton]; rfl) (by show 2 ≤ 4; omega) (by show 4 - 2 < 4 - 1; omega)
  · unfold L_cand_within_y Z32
    simp (maxSteps := 3000000) only [fourSt, fourS, WX.env, WX.heap, wEnv, P8.heap, P8.four, Z39, Z3a, four, XG.obj, lsX, EvG.obj, List.cons_append, List.nil_append, ↓Z1a, ↓Z2b, ↓Z1k, ↓Z05, ↓Z2v, ↓Z2r, nilG_d, nilG_r, ↓Z1g, ↓Z19, ↓Z0d, ↓Z1l, ↓Z0m, ↓Z20, ↓Z30, ↓Z33, ↓Z24, ↓Z1j, ↓Z2m, ↓Z28, ↓Z1z, ↓Z3r, ↓retK_n, ↓Z3n, ↓Z3p, ↓Z3o, ↓Z41, ↓Z3x, ↓Z4b, ↓Z0j, ↓Z08, ↓Z1b, ↓Z0i, ↓Z1n, nf_mk, Z09, Z18, Z34, Z1c, Z37, evN, Z2i, Z1y, Z36, Z47, Z1x, Z17, Z1i, Z2u, Z2j, Z2f, Z1o, Z2c, evT, Opd.ev, Z02, Z00, Z35, Z45, Z3w, Z27, Z1m, Z2a, Z2e, Z3l, Z1d, Z0c, Z3e, LOp.isNew, State.prune, Z3t, Z31, AV.leaf, Heap.at, Z0k, Z0a, Z1h, Z0g, Z03, idx_I, idx_W, rowW, Z26, Z2w, Z22, Z1e, rowB, Z2y, Z2x, rowN, lens_W, Z3s, Z1f, Z15, w_or, w_and, Z2z, Z4d, w_shl, Z4c, w_shr, Z4e, w_neg, w_add, w_bit, w_eq0, w_eq1, w_eq, Bool.decide_eq_true, Z3h, Z3k, Z3j, Z2n, Z1p, Z04, Z0b, Z0n, Z01, Z21, rowI, RatG.row, LocG.row, ActG.row, StepG.row, StampG.row, ActG.av, ActG.eta, RatG.eta, LocG.eta, beq_true, beq_false, Z2k, Z2t, Z2l, Z2s, Z14, Z0q, Z12, Z13, Z0p, Z0o, Z0e, List.length_set, List.length_replicate, Z06, Int.reduceToNat, evLen, Z29, Z40, Src.all, Src.len, Src.leaf, Src.leafN, Z3c, Z48, joinV, Z0l, Z0r, Z0s, Z0t, Z0u, Z0v, Z0w, Z0x, mkVec, drows, evMk, List.length_map, Z1w, Z23, List.take_length, List.take_left, List.length_append, Nat.le_add_right, ite_self, List.take_of_length_le, Z3d, intOr, Z43, Option.isSome_none, Option.isSome_some, Nat.sub_zero, loadQ, loadT, evBin, evUn, Z0y, Z0z, binT, binQ, chk, Z3u, List.contains_cons, List.contains_nil, Bool.or_false, Bool.false_or, Bool.and_self, resQ, resV, resT, pickV, Z2d, Z4a, Z3q, fnOf, Z3f, isD, HO.drow, viewT, Z3y, evEq, eqV, eqK, eqC1, Z49, Z46, Z3b, Z38, lens_I, Z3m, Z2q, Z1s, Z2p, Z1r, Z2o, Z1q, Z1t, Z10, Z11, Z0f, List.mem_cons, List.not_mem_nil, or_false, forall_eq, putRow, Z3g, get_nil, RetS, RetF, RetD, AV.frz, AV.frzL, AV.freshP, AV.freshL, DV.less, Z2g, Z1u, Z2h, Z1v, Z0h, Z07, Option.some.injEq, AV.tup.injEq, AV.agg.injEq, List.cons.injEq, DV.list.injEq, List.isEmpty_nil, Nat.le_refl, AV.d.injEq, DV.int.injEq, DV.bool.injEq, ↓reduceIte, Nat.reduceEqDiff, Nat.reduceAdd, Nat.reduceBEq, List.length_cons, List.length_nil, List.replicate_succ, List.replicate_zero, List.nil_append, List.cons_append, List.append_nil, List.foldl_cons, List.foldl_nil, List.map_cons, List.map_nil, List.all_cons, List.all_nil, List.set_cons_zero, List.set_cons_succ, List.getD_cons_zero, List.getD_cons_succ, List.drop_zero, List.drop_succ_cons, List.take_succ_cons, List.take_zero, List.flatten_cons, List.flatten_nil, Bool.true_and, Bool.and_true, Bool.not_true, Bool.not_false, true_and, and_true, true_or, or_true, Option.bind_some, Option.map_some, decide_true, decide_false, beq_self_eq_true, true_implies, false_implies, implies_true, not_true_eq_false, not_false_eq_true, and_self, Bool.and_false, Bool.false_and, Nat.reduceLT, Nat.reduceLeDiff, List.reverse_cons, List.reverse_nil, Nat.zero_add, Nat.add_zero, Bool.false_eq_true, List.getElem?_cons_zero, Nat.reduceMul, Nat.mul_one, G3, addE, addE1, addE2, famK1_n, famK1_x, famK1_r]
    refine ⟨fun _ => ⟨⟨by omega, by omega⟩, fun hb => ?_, fun hb => ⟨⟨by decide, roomy_of (by omega) (by omega)⟩, ?_⟩⟩, fun h => absurd h (by decide)⟩
    · exact FamN1.mk [0, 1, 2, 3, 4, 5, 6, 7, 8, 9, 10, 11, 12, 13, 14, 15, 16, 17, 18, 19, 20] 3 (by decide) (by simp) (by simp only [liveY, fourSt, fourS, WX.env, WX.heap, wEnv, P8.heap, P8.four, Z39, Z3a, four, XG.obj, lsX, EvG.obj, List.cons_append, List.nil_append, bit_no hp hb, addP_f, State.can, AV.can, AV.canL, HO.can, Z25, idx, Z02, Z00, Heap.at, Nat.reduceBEq, ↓reduceIte, Nat.reduceEqDiff, Option.getD_some, Option.map_some, List.map_cons, List.map_nil, List.getD_cons_zero, List.getD_cons_succ]; rfl) (by show 3 ≤ 4; omega) (by show 4 - 3 < 4 - 2; omega)
    · exact FamN1.mk [0, 1, 2, 3, 4, 5, 6, 7, 8, 9, 10, 11, 22, 13, 14, 15, 16, 17, 18, 19, 20] 3 (by decide) (by simp) (by simp only [liveY, fourSt, fourS, WX.env, WX.heap, wEnv, P8.heap, P8.four, Z39, Z3a, four, XG.obj, lsX, EvG.obj, List.cons_append, List.nil_append, bit_yes hp hb, addP_t, State.can, AV.can, AV.canL, HO.can, Z25, idx, Z02, Z00, Heap.at, Nat.reduceBEq, ↓reduceIte, Nat.reduceEqDiff, Option.getD_some, Option.map_some, List.map_cons, List.map_nil, List.getD_cons_zero, List.getD_cons_succ, List.length_append, List.length_singleton]; rfl) (by show 3 ≤ 4; omega) (by show 4 - 3 < 4 - 2; omega)
  · unfold L_cand_within_y Z32
    simp (maxSteps := 3000000) only [fourSt, fourS, WX.env, WX.heap, wEnv, P8.heap, P8.four, Z39, Z3a, four, XG.obj, lsX, EvG.obj, List.cons_append, List.nil_append, ↓Z1a, ↓Z2b, ↓Z1k, ↓Z05, ↓Z2v, ↓Z2r, nilG_d, nilG_r, ↓Z1g, ↓Z19, ↓Z0d, ↓Z1l, ↓Z0m, ↓Z20, ↓Z30, ↓Z33, ↓Z24, ↓Z1j, ↓Z2m, ↓Z28, ↓Z1z, ↓Z3r, ↓retK_n, ↓Z3n, ↓Z3p, ↓Z3o, ↓Z41, ↓Z3x, ↓Z4b, ↓Z0j, ↓Z08, ↓Z1b, ↓Z0i, ↓Z1n, nf_mk, Z09, Z18, Z34, Z1c, Z37, evN, Z2i, Z1y, Z36, Z47, Z1x, Z17, Z1i, Z2u, Z2j, Z2f, Z1o, Z2c, evT, Opd.ev, Z02, Z00, Z35, Z45, Z3w, Z27, Z1m, Z2a, Z2e, Z3l, Z1d, Z0c, Z3e, LOp.isNew, State.prune, Z3t, Z31, AV.leaf, Heap.at, Z0k, Z0a, Z1h, Z0g, Z03, idx_I, idx_W, rowW, Z26, Z2w, Z22, Z1e, rowB, Z2y, Z2x, rowN, lens_W, Z3s, Z1f, Z15, w_or, w_and, Z2z, Z4d, w_shl, Z4c, w_shr, Z4e, w_neg, w_add, w_bit, w_eq0, w_eq1, w_eq, Bool.decide_eq_true, Z3h, Z3k, Z3j, Z2n, Z1p, Z04, Z0b, Z0n, Z01, Z21, rowI, RatG.row, LocG.row, ActG.row, StepG.row, StampG.row, ActG.av, ActG.eta, RatG.eta, LocG.eta, beq_true, beq_false, Z2k, Z2t, Z2l, Z2s, Z14, Z0q, Z12, Z13, Z0p, Z0o, Z0e, List.length_set, List.length_replicate, Z06, Int.reduceToNat, evLen, Z29, Z40, Src.all, Src.len, Src.leaf, Src.leafN, Z3c, Z48, joinV, Z0l, Z0r, Z0s, Z0t, Z0u, Z0v, Z0w, Z0x, mkVec, drows, evMk, List.length_map, Z1w, Z23, List.take_length, List.take_left, List.length_append, Nat.le_add_right, ite_self, List.take_of_length_le, Z3d, intOr, Z43, Option.isSome_none, Option.isSome_some, Nat.sub_zero, loadQ, loadT, evBin, evUn, Z0y, Z0z, binT, binQ, chk, Z3u, List.contains_cons, List.contains_nil, Bool.or_false, Bool.false_or, Bool.and_self, resQ, resV, resT, pickV, Z2d, Z4a, Z3q, fnOf, Z3f, isD, HO.drow, viewT, Z3y, evEq, eqV, eqK, eqC1, Z49, Z46, Z3b, Z38, lens_I, Z3m, Z2q, Z1s, Z2p, Z1r, Z2o, Z1q, Z1t, Z10, Z11, Z0f, List.mem_cons, List.not_mem_nil, or_false, forall_eq, putRow, Z3g, get_nil, RetS, RetF, RetD, AV.frz, AV.frzL, AV.freshP, AV.freshL, DV.less, Z2g, Z1u, Z2h, Z1v, Z0h, Z07, Option.some.injEq, AV.tup.injEq, AV.agg.injEq, List.cons.injEq, DV.list.injEq, List.isEmpty_nil, Nat.le_refl, AV.d.injEq, DV.int.injEq, DV.bool.injEq, ↓reduceIte, Nat.reduceEqDiff, Nat.reduceAdd, Nat.reduceBEq, List.length_cons, List.length_nil, List.replicate_succ, List.replicate_zero, List.nil_append, List.cons_append, List.append_nil, List.foldl_cons, List.foldl_nil, List.map_cons, List.map_nil, List.all_cons, List.all_nil, List.set_cons_zero, List.set_cons_succ, List.getD_cons_zero, List.getD_cons_succ, List.drop_zero, List.drop_succ_cons, List.take_succ_cons, List.take_zero, List.flatten_cons, List.flatten_nil, Bool.true_and, Bool.and_true, Bool.not_true, Bool.not_false, true_and, and_true, true_or, or_true, Option.bind_some, Option.map_some, decide_true, decide_false, beq_self_eq_true, true_implies, false_implies, implies_true, not_true_eq_false, not_false_eq_true, and_self, Bool.and_false, Bool.false_and, Nat.reduceLT, Nat.reduceLeDiff, List.reverse_cons, List.reverse_nil, Nat.zero_add, Nat.add_zero, Bool.false_eq_true, List.getElem?_cons_zero, Nat.reduceMul, Nat.mul_one, G3, addE, addE1, addE2, famK1_n, famK1_x, famK1_r]
    refine ⟨fun _ => ⟨⟨by omega, by omega⟩, fun hb => ?_, fun hb => ⟨⟨by decide, roomy_of (by omega) (by omega)⟩, ?_⟩⟩, fun h => absurd h (by decide)⟩
    · exact FamN1.mk [0, 1, 2, 3, 4, 5, 6, 7, 8, 9, 10, 11, 12, 13, 14, 15, 16, 17, 18, 19, 20] 4 (by decide) (by simp) (by simp only [liveY, fourSt, fourS, WX.env, WX.heap, wEnv, P8.heap, P8.four, Z39, Z3a, four, XG.obj, lsX, EvG.obj, List.cons_append, List.nil_append, bit_no hp hb, addP_f, State.can, AV.can, AV.canL, HO.can, Z25, idx, Z02, Z00, Heap.at, Nat.reduceBEq, ↓reduceIte, Nat.reduceEqDiff, Option.getD_some, Option.map_some, List.map_cons, List.map_nil, List.getD_cons_zero, List.getD_cons_succ]; rfl) (by show 4 ≤ 4; omega) (by show 4 - 4 < 4 - 3; omega)
    · exact FamN1.mk [0, 1, 2, 3, 4, 5, 6, 7, 8, 9, 10, 11, 12, 22, 14, 15, 16, 17, 18, 19, 20] 4 (by decide) (by simp) (by simp only [liveY, fourSt, fourS, WX.env, WX.heap, wEnv, P8.heap, P8.four, Z39, Z3a, four, XG.obj, lsX, EvG.obj, List.cons_append, List.nil_append, bit_yes hp hb, addP_t, State.can, AV.can, AV.canL, HO.can, Z25, idx, Z02, Z00, Heap.at, Nat.reduceBEq, ↓reduceIte, Nat.reduceEqDiff, Option.getD_some, Option.map_some, List.map_cons, List.map_nil, List.getD_cons_zero, List.getD_cons_succ, List.length_append, List.length_singleton]; rfl) (by show 4 ≤ 4; omega) (by show 4 - 4 < 4 - 3; omega)
  · unfold L_cand_within_y Z32
    unfold fourK Z32 at hK
    simp (maxSteps := 3000000) only [fourSt, fourS, WX.env, WX.heap, wEnv, P8.heap, P8.four, Z39, Z3a, four, XG.obj, lsX, EvG.obj, List.cons_append, List.nil_append, ↓Z1a, ↓Z2b, ↓Z1k, ↓Z05, ↓Z2v, ↓Z2r, nilG_d, nilG_r, ↓Z1g, ↓Z19, ↓Z0d, ↓Z1l, ↓Z0m, ↓Z20, ↓Z30, ↓Z33, ↓Z24, ↓Z1j, ↓Z2m, ↓Z28, ↓Z1z, ↓Z3r, ↓retK_n, ↓Z3n, ↓Z3p, ↓Z3o, ↓Z41, ↓Z3x, ↓Z4b, ↓Z0j, ↓Z08, ↓Z1b, ↓Z0i, ↓Z1n, nf_mk, Z09, Z18, Z34, Z1c, Z37, evN, Z2i, Z1y, Z36, Z47, Z1x, Z17, Z1i, Z2u, Z2j, Z2f, Z1o, Z2c, evT, Opd.ev, Z02, Z00, Z35, Z45, Z3w, Z27, Z1m, Z2a, Z2e, Z3l, Z1d, Z0c, Z3e, LOp.isNew, State.prune, Z3t, Z31, AV.leaf, Heap.at, Z0k, Z0a, Z1h, Z0g, Z03, idx_I, idx_W, rowW, Z26, Z2w, Z22, Z1e, rowB, Z2y, Z2x, rowN, lens_W, Z3s, Z1f, Z15, w_or, w_and, Z2z, Z4d, w_shl, Z4c, w_shr, Z4e, w_neg, w_add, w_bit, w_eq0, w_eq1, w_eq, Bool.decide_eq_true, Z3h, Z3k, Z3j, Z2n, Z1p, Z04, Z0b, Z0n, Z01, Z21, rowI, RatG.row, LocG.row, ActG.row, StepG.row, StampG.row, ActG.av, ActG.eta, RatG.eta, LocG.eta, beq_true, beq_false, Z2k, Z2t, Z2l, Z2s, Z14, Z0q, Z12, Z13, Z0p, Z0o, Z0e, List.length_set, List.length_replicate, Z06, Int.reduceToNat, evLen, Z29, Z40, Src.all, Src.len, Src.leaf, Src.leafN, Z3c, Z48, joinV, Z0l, Z0r, Z0s, Z0t, Z0u, Z0v, Z0w, Z0x, mkVec, drows, evMk, List.length_map, Z1w, Z23, List.take_length, List.take_left, List.length_append, Nat.le_add_right, ite_self, List.take_of_length_le, Z3d, intOr, Z43, Option.isSome_none, Option.isSome_some, Nat.sub_zero, loadQ, loadT, evBin, evUn, Z0y, Z0z, binT, binQ, chk, Z3u, List.contains_cons, List.contains_nil, Bool.or_false, Bool.false_or, Bool.and_self, resQ, resV, resT, pickV, Z2d, Z4a, Z3q, fnOf, Z3f, isD, HO.drow, viewT, Z3y, evEq, eqV, eqK, eqC1, Z49, Z46, Z3b, Z38, lens_I, Z3m, Z2q, Z1s, Z2p, Z1r, Z2o, Z1q, Z1t, Z10, Z11, Z0f, List.mem_cons, List.not_mem_nil, or_false, forall_eq, putRow, Z3g, get_nil, RetS, RetF, RetD, AV.frz, AV.frzL, AV.freshP, AV.freshL, DV.less, Z2g, Z1u, Z2h, Z1v, Z0h, Z07, Option.some.injEq, AV.tup.injEq, AV.agg.injEq, List.cons.injEq, DV.list.injEq, List.isEmpty_nil, Nat.le_refl, AV.d.injEq, DV.int.injEq, DV.bool.injEq, ↓reduceIte, Nat.reduceEqDiff, Nat.reduceAdd, Nat.reduceBEq, List.length_cons, List.length_nil, List.replicate_succ, List.replicate_zero, List.nil_append, List.cons_append, List.append_nil, List.foldl_cons, List.foldl_nil, List.map_cons, List.map_nil, List.all_cons, List.all_nil, List.set_cons_zero, List.set_cons_succ, List.getD_cons_zero, List.getD_cons_succ, List.drop_zero, List.drop_succ_cons, List.take_succ_cons, List.take_zero, List.flatten_cons, List.flatten_nil, Bool.true_and, Bool.and_true, Bool.not_true, Bool.not_false, true_and, and_true, true_or, or_true, Option.bind_some, Option.map_some, decide_true, decide_false, beq_self_eq_true, true_implies, false_implies, implies_true, not_true_eq_false, not_false_eq_true, and_self, Bool.and_false, Bool.false_and, Nat.reduceLT, Nat.reduceLeDiff, List.reverse_cons, List.reverse_nil, Nat.zero_add, Nat.add_zero, Bool.false_eq_true, List.getElem?_cons_zero, Nat.reduceMul, Nat.mul_one, famK1_n, famK1_x, famK1_r] at hK ⊢
    exact ⟨fun h => absurd h (by decide), fun _ => hK⟩
end Go.Ago

/- Chapter 18: the walk through the events ahead of one. Conditions: none. -/
set_option maxRecDepth 100000
set_option linter.unusedSimpArgs false
set_option linter.unusedVariables false
namespace Go.Ago
attribute [local irreducible] vck
/-! ### The walk through the events ahead -/
def P8.head (P : P8) (y : WX) (m : Nat) : P8 := { P with po := P.po ++ [⟨m, y.next⟩], sy := addP (decide ((m : Int) < y.fe)) P.sy m y.next, lw := addP (decide ((m : Int) < y.li)) P.lw m y.next }
def P8.tail (P : P8) (y : WX) (p m : Nat) : P8 := { P with pa := addP (decide (y.e.kind = 2) && decide (y.e.pair = p + 1)) P.pa m y.next }
def P8.step (P : P8) (y : WX) (p m : Nat) : P8 := if (y.x.nodes.getD m default).loc = 1 ∧ p < 64 then ((P.head y m).four y.e p m y.next 4).tail y p m else P.head y m
def P8.many (P : P8) (y : WX) (seen : List Nat) : P8 := seen.foldl (fun P i => P.step y (y.es.getD i (0, 0)).1.toNat (y.es.getD i (0, 0)).2.toNat) P
theorem addP_le {c : Bool} {l : List RatG} {a b n : Nat} (h : l.length ≤ n) : (addP c l a b).length ≤ n + 1 := by
  cases c
  · rw [addP_f]; omega
  · rw [addP_t, List.length_append, List.length_singleton]; omega
theorem P8.Few.step {P : P8} {n : Nat} (h : P.Few n) (y : WX) (p m : Nat) : (P.step y p m).Few (n + 1) := by
  obtain ⟨h1, h2, h3, h4, h5, h6, h7, h8⟩ := h
  have hpo : (P.po ++ [(⟨m, y.next⟩ : RatG)]).length ≤ n + 1 := by rw [List.length_append, List.length_singleton]; omega
  unfold P8.step
  split
  · exact ⟨hpo, addP_le h2, addP_le h3, addP_le h4, addP_le h5, addP_le h6, addP_le h7, addP_le h8⟩
  · exact ⟨hpo, by show P.ad.length ≤ _; omega, by show P.da.length ≤ _; omega, by show P.ct.length ≤ _; omega, by show P.fe.length ≤ _; omega, addP_le h6, addP_le h7, by show P.pa.length ≤ _; omega⟩
def liveM : List Nat := [0, 6, 7, 8, 9, 10, 11, 12, 13, 14, 15, 18, 19, 20, 21, 22, 34, 35, 36, 42, 43, 44, 61]
def mapSt (y : WX) (P : P8) (seen : List Nat) : State := ⟨y.env, y.heap (P.many y seen) seen⟩
def mapK (y : WX) (P : P8) (seen : List Nat) : State := ⟨(63, .d (.bool false)) :: (((mapSt y P seen).app (some 63) ⟨.d (.bool false), [], []⟩).prune Z32).env, (mapSt y P seen).heap⟩
def mapInv (y : WX) (seen : List Nat) : Prop := seen.Nodup ∧ ∀ i ∈ seen, i < y.es.length
structure WX.Ok (y : WX) : Prop where
  es : ∀ i, i < y.es.length → ∃ p m : Nat, y.es.getD i (0, 0) = ((p : Int), (m : Int)) ∧ p ≤ maxLen ∧ m < y.x.nodes.length
  len : y.es.length ≤ 1000
theorem P8.many_snoc {P : P8} {y : WX} {seen : List Nat} {i p m : Nat} (he : y.es.getD i (0, 0) = ((p : Int), (m : Int))) : P.many y (seen ++ [i]) = (P.many y seen).step y p m := by
  unfold P8.many
  rw [List.foldl_append, List.foldl_cons, List.foldl_nil, he]
  rfl
theorem w_end {T : Tab} {n3 : Nat} (k3 : KnowsG T n3 addE) (y : WX) (sn : List Nat) (p m : Nat) (P R : P8) (hp : p < 64) (hR : R.Few 100000) (hM : P.many y sn = R.tail y p m) (hI : mapInv y sn) (k : Nat) (hk : y.es.length - sn.length < k) (K0 : AExit → State → Prop) :
    vck T 1 Z32 (L_cand_within_e n3) (fourK y sn p m R) (blockK 6 (famK1 liveM (mapSt y P) (mapInv y) (fun seen => y.es.length - seen.length) k K0)) := by
  have G3 := k3.G
  obtain ⟨_, _, _, _, _, _, _, p1⟩ := hR
  have hw : IntKind.i64.wrap ((p : Int) + 1) = (p : Int) + 1 := wrap_id (by omega) (by omega)
  unfold L_cand_within_e fourK Z32
  simp (maxSteps := 3000000) only [fourSt, fourS, WX.env, WX.heap, wEnv, P8.heap, P8.four, Z39, Z3a, four, XG.obj, lsX, EvG.obj, List.cons_append, List.nil_append, ↓Z1a, ↓Z2b, ↓Z1k, ↓Z05, ↓Z2v, ↓Z2r, nilG_d, nilG_r, ↓Z1g, ↓Z19, ↓Z0d, ↓Z1l, ↓Z0m, ↓Z20, ↓Z30, ↓Z33, ↓Z24, ↓Z1j, ↓Z2m, ↓Z28, ↓Z1z, ↓Z3r, ↓retK_n, ↓Z3n, ↓Z3p, ↓Z3o, ↓Z41, ↓Z3x, ↓Z4b, ↓Z0j, ↓Z08, ↓Z1b, ↓Z0i, ↓Z1n, nf_mk, Z09, Z18, Z34, Z1c, Z37, evN, Z2i, Z1y, Z36, Z47, Z1x, Z17, Z1i, Z2u, Z2j, Z2f, Z1o, Z2c, evT, Opd.ev, Z02, Z00, Z35, Z45, Z3w, Z27, Z1m, Z2a, Z2e, Z3l, Z1d, Z0c, Z3e, LOp.isNew, State.prune, Z3t, Z31, AV.leaf, Heap.at, Z0k, Z0a, Z1h, Z0g, Z03, idx_I, idx_W, rowW, Z26, Z2w, Z22, Z1e, rowB, Z2y, Z2x, rowN, lens_W, Z3s, Z1f, Z15, w_or, w_and, Z2z, Z4d, w_shl, Z4c, w_shr, Z4e, w_neg, w_add, w_bit, w_eq0, w_eq1, w_eq, Bool.decide_eq_true, Z3h, Z3k, Z3j, Z2n, Z1p, Z04, Z0b, Z0n, Z01, Z21, rowI, RatG.row, LocG.row, ActG.row, StepG.row, StampG.row, ActG.av, ActG.eta, RatG.eta, LocG.eta, beq_true, beq_false, Z2k, Z2t, Z2l, Z2s, Z14, Z0q, Z12, Z13, Z0p, Z0o, Z0e, List.length_set, List.length_replicate, Z06, Int.reduceToNat, evLen, Z29, Z40, Src.all, Src.len, Src.leaf, Src.leafN, Z3c, Z48, joinV, Z0l, Z0r, Z0s, Z0t, Z0u, Z0v, Z0w, Z0x, mkVec, drows, evMk, List.length_map, Z1w, Z23, List.take_length, List.take_left, List.length_append, Nat.le_add_right, ite_self, List.take_of_length_le, Z3d, intOr, Z43, Option.isSome_none, Option.isSome_some, Nat.sub_zero, loadQ, loadT, evBin, evUn, Z0y, Z0z, binT, binQ, chk, Z3u, List.contains_cons, List.contains_nil, Bool.or_false, Bool.false_or, Bool.and_self, resQ, resV, resT, pickV, Z2d, Z4a, Z3q, fnOf, Z3f, isD, HO.drow, viewT, Z3y, evEq, eqV, eqK, eqC1, Z49, Z46, Z3b, Z38, lens_I, Z3m, Z2q, Z1s, Z2p, Z1r, Z2o, Z1q, Z1t, Z10, Z11, Z0f, List.mem_cons, List.not_mem_nil, or_false, forall_eq, putRow, Z3g, get_nil, RetS, RetF, RetD, AV.frz, AV.frzL, AV.freshP, AV.freshL, DV.less, Z2g, Z1u, Z2h, Z1v, Z0h, Z07, Option.some.injEq, AV.tup.injEq, AV.agg.injEq, List.cons.injEq, DV.list.injEq, List.isEmpty_nil, Nat.le_refl, AV.d.injEq, DV.int.injEq, DV.bool.injEq, ↓reduceIte, Nat.reduceEqDiff, Nat.reduceAdd, Nat.reduceBEq, List.length_cons, List.length_nil, List.replicate_succ, List.replicate_zero, List.nil_append, List.cons_append, List.append_nil, List.foldl_cons, List.foldl_nil, List.map_cons, List.map_nil, List.all_cons, List.all_nil, List.set_cons_zero, List.set_cons_succ, List.getD_cons_zero, List.getD_cons_succ, List.drop_zero, List.drop_succ_cons, List.take_succ_cons, List.take_zero, List.flatten_cons, List.flatten_nil, Bool.true_and, Bool.and_true, Bool.not_true, Bool.not_false, true_and, and_true, true_or, or_true, Option.bind_some, Option.map_some, decide_true, decide_false, beq_self_eq_true, true_implies, false_implies, implies_true, not_true_eq_false, not_false_eq_true, and_self, Bool.and_false, Bool.false_and, Nat.reduceLT, Nat.reduceLeDiff, List.reverse_cons, List.reverse_nil, Nat.zero_add, Nat.add_zero, Bool.false_eq_true, List.getElem?_cons_zero, Nat.reduceMul, Nat.mul_one, G3, addE, addE1, addE2, famK1_n, famK1_x, famK1_r, hw]
  have hno : ¬ (y.e.kind = 2 ∧ y.e.pair = p + 1) → P.many y sn = R := fun h => by
    rw [hM]; unfold P8.tail
    have : (decide (y.e.kind = 2) && decide (y.e.pair = p + 1)) = false := by simpa using h
    rw [this, addP_f]
  have hyes : y.e.kind = 2 → y.e.pair = p + 1 → P.many y sn = { R with pa := R.pa ++ [⟨m, y.next⟩] } := fun h h' => by
    rw [hM]; unfold P8.tail
    rw [decide_eq_true h, decide_eq_true h', Bool.true_and, addP_t]
  refine ⟨fun c1 => ⟨fun c2 => ⟨⟨by decide, roomy_of (by omega) (by omega)⟩, ?_⟩, fun c2 => ?_⟩, fun c1 => ?_⟩
  · exact FamN1.mk [0, 1, 2, 3, 4, 5, 6, 7, 8, 9, 10, 11, 12, 13, 14, 15, 21, 17, 18, 19] sn (by decide) (by simp) (by simp only [liveM, mapSt, fourSt, fourS, WX.env, WX.heap, wEnv, P8.heap, P8.four, Z39, Z3a, four, XG.obj, lsX, EvG.obj, List.cons_append, List.nil_append, hyes c1 c2, State.can, AV.can, AV.canL, HO.can, Z25, idx, Z02, Z00, Heap.at, Nat.reduceBEq, ↓reduceIte, Nat.reduceEqDiff, Option.getD_some, Option.map_some, List.map_cons, List.map_nil, List.getD_cons_zero, List.getD_cons_succ, List.length_append, List.length_singleton]) hI hk
  · exact FamN1.mk [0, 1, 2, 3, 4, 5, 6, 7, 8, 9, 10, 11, 12, 13, 14, 15, 16, 17, 18, 19] sn (by decide) (by simp) (by simp only [liveM, mapSt, fourSt, fourS, WX.env, WX.heap, wEnv, P8.heap, P8.four, Z39, Z3a, four, XG.obj, lsX, EvG.obj, List.cons_append, List.nil_append, hno (fun h => c2 h.2), State.can, AV.can, AV.canL, HO.can, Z25, idx, Z02, Z00, Heap.at, Nat.reduceBEq, ↓reduceIte, Nat.reduceEqDiff, Option.getD_some, Option.map_some, List.map_cons, List.map_nil, List.getD_cons_zero, List.getD_cons_succ]) hI hk
  · exact FamN1.mk [0, 1, 2, 3, 4, 5, 6, 7, 8, 9, 10, 11, 12, 13, 14, 15, 16, 17, 18, 19] sn (by decide) (by simp) (by simp only [liveM, mapSt, fourSt, fourS, WX.env, WX.heap, wEnv, P8.heap, P8.four, Z39, Z3a, four, XG.obj, lsX, EvG.obj, List.cons_append, List.nil_append, hno (fun h => c1 h.1), State.can, AV.can, AV.canL, HO.can, Z25, idx, Z02, Z00, Heap.at, Nat.reduceBEq, ↓reduceIte, Nat.reduceEqDiff, Option.getD_some, Option.map_some, List.map_cons, List.map_nil, List.getD_cons_zero, List.getD_cons_succ]) hI hk
theorem evMEntO_last {es : List (Int × Int)} {id m n i : Nat} {seen : List Nat} : evMEntO (.mapo es) id m n (seen ++ [i]) = ⟨n = es.length ∧ i < es.length, ⟨.tup [.d (.int .i64 (es.getD i (0, 0)).1), .d (.int .i64 (es.getD i (0, 0)).2)], [], [id, m]⟩⟩ := by
  unfold evMEntO; rw [List.getLast?_concat]
theorem nodup_le : ∀ {n : Nat} {l : List Nat}, l.Nodup → (∀ j ∈ l, j < n) → l.length ≤ n
  | 0, [], _, _ => Nat.le_refl _
  | 0, a :: l, _, h => absurd (h a (List.mem_cons_self ..)) (by omega)
  | n + 1, l, h1, h2 => by
    have := nodup_le (n := n) (h1.erase n) (fun j hj => by
      rw [h1.mem_erase_iff] at hj
      have := h2 j hj.2
      omega)
    rw [List.length_erase] at this
    split at this
    · omega
    · omega
theorem seen_lt {seen : List Nat} {n i : Nat} (h1 : seen.Nodup) (h2 : ∀ j ∈ seen, j < n) (hi : i < n) (hn : i ∉ seen) : seen.length < n := by
  have h := nodup_le (l := seen ++ [i]) (n := n) (by
    rw [List.nodup_append]
    exact ⟨h1, by simp, fun a ha b hb => by
      rw [List.mem_singleton] at hb
      subst hb
      exact fun h => hn (h ▸ ha)⟩) (fun j hj => by
    rcases List.mem_append.1 hj with h | h
    · exact h2 j h
    · rw [List.mem_singleton] at h; rw [h]; exact hi)
  rw [List.length_append, List.length_singleton] at h
  omega
theorem P8.Few.mono {P : P8} {n m : Nat} (h : P.Few n) (hm : n ≤ m) : P.Few m := ⟨by have := h.po; omega, by have := h.ad; omega, by have := h.da; omega, by have := h.ct; omega, by have := h.fe; omega, by have := h.sy; omega, by have := h.lw; omega, by have := h.pa; omega⟩
theorem P8.Few.head {P : P8} {n : Nat} (h : P.Few n) (y : WX) (m : Nat) : (P.head y m).Few (n + 1) := by
  obtain ⟨h1, h2, h3, h4, h5, h6, h7, h8⟩ := h
  have hpo : (P.po ++ [(⟨m, y.next⟩ : RatG)]).length ≤ n + 1 := by rw [List.length_append, List.length_singleton]; omega
  exact ⟨hpo, by show P.ad.length ≤ _; omega, by show P.da.length ≤ _; omega, by show P.ct.length ≤ _; omega, by show P.fe.length ≤ _; omega, addP_le h6, addP_le h7, by show P.pa.length ≤ _; omega⟩
theorem P8.Few.four {P : P8} {n : Nat} (h : P.Few n) (e : EvG) (p m next : Nat) : (P.four e p m next 4).Few (n + 1) := by
  obtain ⟨h1, h2, h3, h4, h5, h6, h7, h8⟩ := h
  exact ⟨by show P.po.length ≤ _; omega, addP_le h2, addP_le h3, addP_le h4, addP_le h5, by show P.sy.length ≤ _; omega, by show P.lw.length ≤ _; omega, by show P.pa.length ≤ _; omega⟩
theorem foldl_few (y : WX) : ∀ (seen : List Nat) (P : P8) (n : Nat), P.Few n → (P.many y seen).Few (n + seen.length)
  | [], P, n, h => h
  | i :: seen, P, n, h => by
    have := foldl_few y seen _ (n + 1) (h.step y (y.es.getD i (0, 0)).1.toNat (y.es.getD i (0, 0)).2.toNat)
    exact this.mono (by simp only [List.length_cons]; omega)
theorem many_few {P : P8} {y : WX} {seen : List Nat} {n : Nat} (hP : P.Few n) (h1 : seen.Nodup) (h2 : ∀ j ∈ seen, j < y.es.length) : (P.many y seen).Few (n + y.es.length) :=
  (foldl_few y seen P n hP).mono (by have := nodup_le h1 h2; omega)
set_option maxHeartbeats 4000000 in
theorem w_map {T : Tab} {n3 : Nat} (k3 : KnowsG T n3 addE) (y : WX) (P : P8) (hy : y.Ok) (hP : P.Few 90000) (K : AExit → State → Prop)
    (S : State) (ρ : List Nat) (h1 : ρ.Nodup) (h2 : ∀ i ∈ ρ, i < S.heap.length) (h3 : S.can ρ liveM = mapSt y P []) (h0 : ρ[0]? = some 0)
    (hK : ∀ seen, seen.Nodup → (∀ i, i < y.es.length ↔ i ∈ seen) → K (.exit 5) (mapK y P seen)) : Loop T 1 Z32 (L_cand_within_m n3) S K := by
  have G3 := k3.G
  refine Loop.fam1 liveM (mapSt y P) (mapInv y) (fun seen => y.es.length - seen.length) [] ρ h1 h2 h3 ⟨List.nodup_nil, by simp⟩ ?_ h0
  intro seen hs
  unfold L_cand_within_m Z32
  generalize hQ : P.many y seen = Q
  rw [Z1g, vck_mnext]
  simp (maxSteps := 3000000) only [mapSt, fourSt, fourS, WX.env, WX.heap, wEnv, P8.heap, P8.four, Z39, Z3a, four, XG.obj, lsX, EvG.obj, List.cons_append, List.nil_append, hQ, ↓Z1a, ↓Z2b, ↓Z1k, ↓Z05, ↓Z2v, ↓Z2r, nilG_d, nilG_r, ↓Z1g, ↓Z19, ↓Z0d, ↓Z1l, ↓Z0m, ↓Z20, ↓Z30, ↓Z33, ↓Z24, ↓Z1j, ↓Z2m, ↓Z28, ↓Z1z, ↓Z3r, ↓retK_n, ↓Z3n, ↓Z3p, ↓Z3o, ↓Z41, ↓Z3x, ↓Z4b, ↓Z0j, ↓Z08, ↓Z1b, ↓Z0i, ↓Z1n, nf_mk, Z09, Z18, Z34, Z1c, Z37, evN, Z2i, Z1y, Z36, Z47, Z1x, Z17, Z1i, Z2u, Z2j, Z2f, Z1o, Z2c, evT, Opd.ev, Z02, Z00, Z35, Z45, Z3w, Z27, Z1m, Z2a, Z2e, Z3l, Z1d, Z0c, Z3e, LOp.isNew, State.prune, Z3t, Z31, AV.leaf, Heap.at, Z0k, Z0a, Z1h, Z0g, Z03, idx_I, idx_W, rowW, Z26, Z2w, Z22, Z1e, rowB, Z2y, Z2x, rowN, lens_W, Z3s, Z1f, Z15, w_or, w_and, Z2z, Z4d, w_shl, Z4c, w_shr, Z4e, w_neg, w_add, w_bit, w_eq0, w_eq1, w_eq, Bool.decide_eq_true, Z3h, Z3k, Z3j, Z2n, Z1p, Z04, Z0b, Z0n, Z01, Z21, rowI, RatG.row, LocG.row, ActG.row, StepG.row, StampG.row, ActG.av, ActG.eta, RatG.eta, LocG.eta, beq_true, beq_false, Z2k, Z2t, Z2l, Z2s, Z14, Z0q, Z12, Z13, Z0p, Z0o, Z0e, List.length_set, List.length_replicate, Z06, Int.reduceToNat, evLen, Z29, Z40, Src.all, Src.len, Src.leaf, Src.leafN, Z3c, Z48, joinV, Z0l, Z0r, Z0s, Z0t, Z0u, Z0v, Z0w, Z0x, mkVec, drows, evMk, List.length_map, Z1w, Z23, List.take_length, List.take_left, List.length_append, Nat.le_add_right, ite_self, List.take_of_length_le, Z3d, intOr, Z43, Option.isSome_none, Option.isSome_some, Nat.sub_zero, loadQ, loadT, evBin, evUn, Z0y, Z0z, binT, binQ, chk, Z3u, List.contains_cons, List.contains_nil, Bool.or_false, Bool.false_or, Bool.and_self, resQ, resV, resT, pickV, Z2d, Z4a, Z3q, fnOf, Z3f, isD, HO.drow, viewT, Z3y, evEq, eqV, eqK, eqC1, Z49, Z46, Z3b, Z38, lens_I, Z3m, Z2q, Z1s, Z2p, Z1r, Z2o, Z1q, Z1t, Z10, Z11, Z0f, List.mem_cons, List.not_mem_nil, or_false, forall_eq, putRow, Z3g, get_nil, RetS, RetF, RetD, AV.frz, AV.frzL, AV.freshP, AV.freshL, DV.less, Z2g, Z1u, Z2h, Z1v, Z0h, Z07, Option.some.injEq, AV.tup.injEq, AV.agg.injEq, List.cons.injEq, DV.list.injEq, List.isEmpty_nil, Nat.le_refl, AV.d.injEq, DV.int.injEq, DV.bool.injEq, ↓reduceIte, Nat.reduceEqDiff, Nat.reduceAdd, Nat.reduceBEq, List.length_cons, List.length_nil, List.replicate_succ, List.replicate_zero, List.nil_append, List.cons_append, List.append_nil, List.foldl_cons, List.foldl_nil, List.map_cons, List.map_nil, List.all_cons, List.all_nil, List.set_cons_zero, List.set_cons_succ, List.getD_cons_zero, List.getD_cons_succ, List.drop_zero, List.drop_succ_cons, List.take_succ_cons, List.take_zero, List.flatten_cons, List.flatten_nil, Bool.true_and, Bool.and_true, Bool.not_true, Bool.not_false, true_and, and_true, true_or, or_true, Option.bind_some, Option.map_some, decide_true, decide_false, beq_self_eq_true, true_implies, false_implies, implies_true, not_true_eq_false, not_false_eq_true, and_self, Bool.and_false, Bool.false_and, Nat.reduceLT, Nat.reduceLeDiff, List.reverse_cons, List.reverse_nil, Nat.zero_add, Nat.add_zero, Bool.false_eq_true, List.getElem?_cons_zero, Nat.reduceMul, Nat.mul_one, nextX_p, nextG_i, nextM_m]
  refine ⟨fun i hi hni => ?_, fun hall => ?_⟩
  · obtain ⟨p, m, he, hp, hm⟩ := hy.es i hi
    simp (maxSteps := 3000000) only [↓Z1a, ↓Z2b, ↓Z1k, ↓Z05, ↓Z2v, ↓Z2r, nilG_d, nilG_r, ↓Z1g, ↓Z19, ↓Z0d, ↓Z1l, ↓Z0m, ↓Z20, ↓Z30, ↓Z33, ↓Z24, ↓Z1j, ↓Z2m, ↓Z28, ↓Z1z, ↓Z3r, ↓retK_n, ↓Z3n, ↓Z3p, ↓Z3o, ↓Z41, ↓Z3x, ↓Z4b, ↓Z0j, ↓Z08, ↓Z1b, ↓Z0i, ↓Z1n, nf_mk, Z09, Z18, Z34, Z1c, Z37, evN, Z2i, Z1y, Z36, Z47, Z1x, Z17, Z1i, Z2u, Z2j, Z2f, Z1o, Z2c, evT, Opd.ev, Z02, Z00, Z35, Z45, Z3w, Z27, Z1m, Z2a, Z2e, Z3l, Z1d, Z0c, Z3e, LOp.isNew, State.prune, Z3t, Z31, AV.leaf, Heap.at, Z0k, Z0a, Z1h, Z0g, Z03, idx_I, idx_W, rowW, Z26, Z2w, Z22, Z1e, rowB, Z2y, Z2x, rowN, lens_W, Z3s, Z1f, Z15, w_or, w_and, Z2z, Z4d, w_shl, Z4c, w_shr, Z4e, w_neg, w_add, w_bit, w_eq0, w_eq1, w_eq, Bool.decide_eq_true, Z3h, Z3k, Z3j, Z2n, Z1p, Z04, Z0b, Z0n, Z01, Z21, rowI, RatG.row, LocG.row, ActG.row, StepG.row, StampG.row, ActG.av, ActG.eta, RatG.eta, LocG.eta, beq_true, beq_false, Z2k, Z2t, Z2l, Z2s, Z14, Z0q, Z12, Z13, Z0p, Z0o, Z0e, List.length_set, List.length_replicate, Z06, Int.reduceToNat, evLen, Z29, Z40, Src.all, Src.len, Src.leaf, Src.leafN, Z3c, Z48, joinV, Z0l, Z0r, Z0s, Z0t, Z0u, Z0v, Z0w, Z0x, mkVec, drows, evMk, List.length_map, Z1w, Z23, List.take_length, List.take_left, List.length_append, Nat.le_add_right, ite_self, List.take_of_length_le, Z3d, intOr, Z43, Option.isSome_none, Option.isSome_some, Nat.sub_zero, loadQ, loadT, evBin, evUn, Z0y, Z0z, binT, binQ, chk, Z3u, List.contains_cons, List.contains_nil, Bool.or_false, Bool.false_or, Bool.and_self, resQ, resV, resT, pickV, Z2d, Z4a, Z3q, fnOf, Z3f, isD, HO.drow, viewT, Z3y, evEq, eqV, eqK, eqC1, Z49, Z46, Z3b, Z38, lens_I, Z3m, Z2q, Z1s, Z2p, Z1r, Z2o, Z1q, Z1t, Z10, Z11, Z0f, List.mem_cons, List.not_mem_nil, or_false, forall_eq, putRow, Z3g, get_nil, RetS, RetF, RetD, AV.frz, AV.frzL, AV.freshP, AV.freshL, DV.less, Z2g, Z1u, Z2h, Z1v, Z0h, Z07, Option.some.injEq, AV.tup.injEq, AV.agg.injEq, List.cons.injEq, DV.list.injEq, List.isEmpty_nil, Nat.le_refl, AV.d.injEq, DV.int.injEq, DV.bool.injEq, ↓reduceIte, Nat.reduceEqDiff, Nat.reduceAdd, Nat.reduceBEq, List.length_cons, List.length_nil, List.replicate_succ, List.replicate_zero, List.nil_append, List.cons_append, List.append_nil, List.foldl_cons, List.foldl_nil, List.map_cons, List.map_nil, List.all_cons, List.all_nil, List.set_cons_zero, List.set_cons_succ, List.getD_cons_zero, List.getD_cons_succ, List.drop_zero, List.drop_succ_cons, List.take_succ_cons, List.take_zero, List.flatten_cons, List.flatten_nil, Bool.true_and, Bool.and_true, Bool.not_true, Bool.not_false, true_and, and_true, true_or, or_true, Option.bind_some, Option.map_some, decide_true, decide_false, beq_self_eq_true, true_implies, false_implies, implies_true, not_true_eq_false, not_false_eq_true, and_self, Bool.and_false, Bool.false_and, Nat.reduceLT, Nat.reduceLeDiff, List.reverse_cons, List.reverse_nil, Nat.zero_add, Nat.add_zero, Bool.false_eq_true, List.getElem?_cons_zero, Nat.reduceMul, Nat.mul_one, evMEnt, evMEntI, evMEntO_last, he, G3, Option.map_none, Option.bind_none, addE, addE1, addE2, famK1_n, famK1_x, famK1_r]
    have hs1 : mapInv y (seen ++ [i]) := by
      refine ⟨?_, fun j hj => ?_⟩
      · rw [List.nodup_append]
        exact ⟨hs.1, by simp, fun a ha b hb => by
          rw [List.mem_singleton] at hb
          subst hb
          exact fun h => hni (h ▸ ha)⟩
      · rcases List.mem_append.1 hj with h | h
        · exact hs.2 j h
        · rw [List.mem_singleton] at h; rw [h]; exact hi
    have hms : y.es.length - (seen ++ [i]).length < y.es.length - seen.length := by
      have := hs1.2
      have : seen.length < y.es.length := seen_lt hs.1 hs.2 hi hni
      rw [List.length_append, List.length_singleton]; omega
    have hsn : P.many y (seen ++ [i]) = Q.step y p m := by rw [P8.many_snoc he, hQ]
    have hQf : Q.Few 95000 := by
      rw [← hQ]
      exact (many_few hP hs.1 hs.2).mono (by have := hy.len; omega)
    have ⟨q1, q2, q3, q4, q5, q6, q7, q8⟩ := hQf
    have hstop : ¬ ((y.x.nodes.getD m default).loc = 1 ∧ p < 64) → P.many y (seen ++ [i]) = Q.head y m := fun h => by rw [hsn]; unfold P8.step; rw [if_neg h]
    have hgo : ((y.x.nodes.getD m default).loc = 1) → p < 64 → P.many y (seen ++ [i]) = ((Q.head y m).four y.e p m y.next 4).tail y p m := fun h h' => by rw [hsn]; unfold P8.step; rw [if_pos ⟨h, h'⟩]
    have hw : p < 64 → IntKind.u64.wrap (p : Int) = p := fun h => wrapU (by omega)
    have hm' : (0 : Int) ≤ m ∧ (m : Int) < y.x.nodes.length := ⟨by omega, by omega⟩
    refine ⟨hi, ⟨by decide, roomy_of (by omega) (by omega)⟩, fun c1 => ⟨⟨by decide, roomy_of (by omega) (by omega)⟩, fun c2 => ⟨⟨by decide, roomy_of (by omega) (by omega)⟩, hm', fun hr => ⟨fun h64 => ?_, fun h64 => ?_⟩, fun hr => ?_⟩, fun c2 => ⟨hm', fun hr => ⟨fun h64 => ?_, fun h64 => ?_⟩, fun hr => ?_⟩⟩,
      fun c1 => ⟨fun c2 => ⟨⟨by decide, roomy_of (by omega) (by omega)⟩, hm', fun hr => ⟨fun h64 => ?_, fun h64 => ?_⟩, fun hr => ?_⟩, fun c2 => ⟨hm', fun hr => ⟨fun h64 => ?_, fun h64 => ?_⟩, fun hr => ?_⟩⟩⟩
    · exact FamN1.mk [0, 1, 2, 3, 4, 5, 6, 7, 8, 20, 10, 11, 12, 13, 21, 22, 16, 17, 18, 19] (seen ++ [i]) (by decide) (by simp) (by simp only [liveM, mapSt, fourSt, fourS, WX.env, WX.heap, wEnv, P8.heap, P8.four, Z39, Z3a, four, XG.obj, lsX, EvG.obj, List.cons_append, List.nil_append, hstop (fun h => absurd h.2 (by omega)), P8.head, decide_eq_true c1, decide_eq_true c2, addP_t, addP_t, State.can, AV.can, AV.canL, HO.can, Z25, idx, Z02, Z00, Heap.at, Nat.reduceBEq, ↓reduceIte, Nat.reduceEqDiff, Option.getD_some, Option.map_some, List.map_cons, List.map_nil, List.getD_cons_zero, List.getD_cons_succ, List.length_append, List.length_singleton]) hs1 hms
    · have h64' : p < 64 := by omega
      simp only [hw h64', Int.toNat_natCast]
      refine ⟨by omega, w_four k3 y (seen ++ [i]) p m (Q.head y m) h64' ?_ _ _ [0, 1, 2, 3, 4, 5, 6, 7, 8, 20, 10, 11, 12, 13, 21, 22, 16, 17, 18, 19, 23] (by decide) (by simp) (by simp only [liveY, fourSt, fourS, WX.env, WX.heap, wEnv, P8.heap, P8.four, Z39, Z3a, four, XG.obj, lsX, EvG.obj, List.cons_append, List.nil_append, P8.head, decide_eq_true c1, decide_eq_true c2, addP_t, addP_t, State.can, AV.can, AV.canL, HO.can, Z25, idx, Z02, Z00, Heap.at, Nat.reduceBEq, ↓reduceIte, Nat.reduceEqDiff, Option.getD_some, Option.map_some, List.map_cons, List.map_nil, List.getD_cons_zero, List.getD_cons_succ, List.length_append, List.length_singleton]; rfl) rfl ?_⟩
      · exact (hQf.head y m).mono (by omega)
      · simp only [↓Z1a, ↓Z2b, ↓Z1k, ↓Z05, ↓Z2v, ↓Z2r, nilG_d, nilG_r, ↓Z1g, ↓Z19, ↓Z0d, ↓Z1l, ↓Z0m, ↓Z20, ↓Z30, ↓Z33, ↓Z24, ↓Z1j, ↓Z2m, ↓Z28, ↓Z1z, ↓Z3r, ↓retK_n, ↓Z3n, ↓Z3p, ↓Z3o, ↓Z41, ↓Z3x, ↓Z4b, ↓Z0j, ↓Z08, ↓Z1b, ↓Z0i, ↓Z1n, nf_mk, Z09, Z18, Z34, Z1c, Z37, evN, Z2i, Z1y, Z36, Z47, Z1x, Z17, Z1i, Z2u, Z2j, Z2f, Z1o, Z2c, evT, Opd.ev, Z02, Z00, Z35, Z45, Z3w, Z27, Z1m, Z2a, Z2e, Z3l, Z1d, Z0c, Z3e, LOp.isNew, State.prune, Z3t, Z31, AV.leaf, Heap.at, Z0k, Z0a, Z1h, Z0g, Z03, idx_I, idx_W, rowW, Z26, Z2w, Z22, Z1e, rowB, Z2y, Z2x, rowN, lens_W, Z3s, Z1f, Z15, w_or, w_and, Z2z, Z4d, w_shl, Z4c, w_shr, Z4e, w_neg, w_add, w_bit, w_eq0, w_eq1, w_eq, Bool.decide_eq_true, Z3h, Z3k, Z3j, Z2n, Z1p, Z04, Z0b, Z0n, Z01, Z21, rowI, RatG.row, LocG.row, ActG.row, StepG.row, StampG.row, ActG.av, ActG.eta, RatG.eta, LocG.eta, beq_true, beq_false, Z2k, Z2t, Z2l, Z2s, Z14, Z0q, Z12, Z13, Z0p, Z0o, Z0e, List.length_set, List.length_replicate, Z06, Int.reduceToNat, evLen, Z29, Z40, Src.all, Src.len, Src.leaf, Src.leafN, Z3c, Z48, joinV, Z0l, Z0r, Z0s, Z0t, Z0u, Z0v, Z0w, Z0x, mkVec, drows, evMk, List.length_map, Z1w, Z23, List.take_length, List.take_left, List.length_append, Nat.le_add_right, ite_self, List.take_of_length_le, Z3d, intOr, Z43, Option.isSome_none, Option.isSome_some, Nat.sub_zero, loadQ, loadT, evBin, evUn, Z0y, Z0z, binT, binQ, chk, Z3u, List.contains_cons, List.contains_nil, Bool.or_false, Bool.false_or, Bool.and_self, resQ, resV, resT, pickV, Z2d, Z4a, Z3q, fnOf, Z3f, isD, HO.drow, viewT, Z3y, evEq, eqV, eqK, eqC1, Z49, Z46, Z3b, Z38, lens_I, Z3m, Z2q, Z1s, Z2p, Z1r, Z2o, Z1q, Z1t, Z10, Z11, Z0f, List.mem_cons, List.not_mem_nil, or_false, forall_eq, putRow, Z3g, get_nil, RetS, RetF, RetD, AV.frz, AV.frzL, AV.freshP, AV.freshL, DV.less, Z2g, Z1u, Z2h, Z1v, Z0h, Z07, Option.some.injEq, AV.tup.injEq, AV.agg.injEq, List.cons.injEq, DV.list.injEq, List.isEmpty_nil, Nat.le_refl, AV.d.injEq, DV.int.injEq, DV.bool.injEq, ↓reduceIte, Nat.reduceEqDiff, Nat.reduceAdd, Nat.reduceBEq, List.length_cons, List.length_nil, List.replicate_succ, List.replicate_zero, List.nil_append, List.cons_append, List.append_nil, List.foldl_cons, List.foldl_nil, List.map_cons, List.map_nil, List.all_cons, List.all_nil, List.set_cons_zero, List.set_cons_succ, List.getD_cons_zero, List.getD_cons_succ, List.drop_zero, List.drop_succ_cons, List.take_succ_cons, List.take_zero, List.flatten_cons, List.flatten_nil, Bool.true_and, Bool.and_true, Bool.not_true, Bool.not_false, true_and, and_true, true_or, or_true, Option.bind_some, Option.map_some, decide_true, decide_false, beq_self_eq_true, true_implies, false_implies, implies_true, not_true_eq_false, not_false_eq_true, and_self, Bool.and_false, Bool.false_and, Nat.reduceLT, Nat.reduceLeDiff, List.reverse_cons, List.reverse_nil, Nat.zero_add, Nat.add_zero, Bool.false_eq_true, List.getElem?_cons_zero, Nat.reduceMul, Nat.mul_one]
        exact w_end k3 y (seen ++ [i]) p m P _ h64' (((hQf.head y m).four y.e p m y.next).mono (by omega)) (hgo hr h64') hs1 _ hms K
    · exact FamN1.mk [0, 1, 2, 3, 4, 5, 6, 7, 8, 20, 10, 11, 12, 13, 21, 22, 16, 17, 18, 19] (seen ++ [i]) (by decide) (by simp) (by simp only [liveM, mapSt, fourSt, fourS, WX.env, WX.heap, wEnv, P8.heap, P8.four, Z39, Z3a, four, XG.obj, lsX, EvG.obj, List.cons_append, List.nil_append, hstop (fun h => hr h.1), P8.head, decide_eq_true c1, decide_eq_true c2, addP_t, addP_t, State.can, AV.can, AV.canL, HO.can, Z25, idx, Z02, Z00, Heap.at, Nat.reduceBEq, ↓reduceIte, Nat.reduceEqDiff, Option.getD_some, Option.map_some, List.map_cons, List.map_nil, List.getD_cons_zero, List.getD_cons_succ, List.length_append, List.length_singleton]) hs1 hms
    · exact FamN1.mk [0, 1, 2, 3, 4, 5, 6, 7, 8, 20, 10, 11, 12, 13, 21, 15, 16, 17, 18, 19] (seen ++ [i]) (by decide) (by simp) (by simp only [liveM, mapSt, fourSt, fourS, WX.env, WX.heap, wEnv, P8.heap, P8.four, Z39, Z3a, four, XG.obj, lsX, EvG.obj, List.cons_append, List.nil_append, hstop (fun h => absurd h.2 (by omega)), P8.head, decide_eq_true c1, decide_eq_false c2, addP_t, addP_f, State.can, AV.can, AV.canL, HO.can, Z25, idx, Z02, Z00, Heap.at, Nat.reduceBEq, ↓reduceIte, Nat.reduceEqDiff, Option.getD_some, Option.map_some, List.map_cons, List.map_nil, List.getD_cons_zero, List.getD_cons_succ, List.length_append, List.length_singleton]) hs1 hms
    · have h64' : p < 64 := by omega
      simp only [hw h64', Int.toNat_natCast]
      refine ⟨by omega, w_four k3 y (seen ++ [i]) p m (Q.head y m) h64' ?_ _ _ [0, 1, 2, 3, 4, 5, 6, 7, 8, 20, 10, 11, 12, 13, 21, 15, 16, 17, 18, 19, 22] (by decide) (by simp) (by simp only [liveY, fourSt, fourS, WX.env, WX.heap, wEnv, P8.heap, P8.four, Z39, Z3a, four, XG.obj, lsX, EvG.obj, List.cons_append, List.nil_append, P8.head, decide_eq_true c1, decide_eq_false c2, addP_t, addP_f, State.can, AV.can, AV.canL, HO.can, Z25, idx, Z02, Z00, Heap.at, Nat.reduceBEq, ↓reduceIte, Nat.reduceEqDiff, Option.getD_some, Option.map_some, List.map_cons, List.map_nil, List.getD_cons_zero, List.getD_cons_succ, List.length_append, List.length_singleton]; rfl) rfl ?_⟩
      · exact (hQf.head y m).mono (by omega)
      · simp only [↓Z1a, ↓Z2b, ↓Z1k, ↓Z05, ↓Z2v, ↓Z2r, nilG_d, nilG_r, ↓Z1g, ↓Z19, ↓Z0d, ↓Z1l, ↓Z0m, ↓Z20, ↓Z30, ↓Z33, ↓Z24, ↓Z1j, ↓Z2m, ↓Z28, ↓Z1z, ↓Z3r, ↓retK_n, ↓Z3n, ↓Z3p, ↓Z3o, ↓Z41, ↓Z3x, ↓Z4b, ↓Z0j, ↓Z08, ↓Z1b, ↓Z0i, ↓Z1n, nf_mk, Z09, Z18, Z34, Z1c, Z37, evN, Z2i, Z1y, Z36, Z47, Z1x, Z17, Z1i, Z2u, Z2j, Z2f, Z1o, Z2c, evT, Opd.ev, Z02, Z00, Z35, Z45, Z3w, Z27, Z1m, Z2a, Z2e, Z3l, Z1d, Z0c, Z3e, LOp.isNew, State.prune, Z3t, Z31, AV.leaf, Heap.at, Z0k, Z0a, Z1h, Z0g, Z03, idx_I, idx_W, rowW, Z26, Z2w, Z22, Z1e, rowB, Z2y, Z2x, rowN, lens_W, Z3s, Z1f, Z15, w_or, w_and, Z2z, Z4d, w_shl, Z4c, w_shr, Z4e, w_neg, w_add, w_bit, w_eq0, w_eq1, w_eq, Bool.decide_eq_true, Z3h, Z3k, Z3j, Z2n, Z1p, Z04, Z0b, Z0n, Z01, Z21, rowI, RatG.row, LocG.row, ActG.row, StepG.row, StampG.row, ActG.av, ActG.eta, RatG.eta, LocG.eta, beq_true, beq_false, Z2k, Z2t, Z2l, Z2s, Z14, Z0q, Z12, Z13, Z0p, Z0o, Z0e, List.length_set, List.length_replicate, Z06, Int.reduceToNat, evLen, Z29, Z40, Src.all, Src.len, Src.leaf, Src.leafN, Z3c, Z48, joinV, Z0l, Z0r, Z0s, Z0t, Z0u, Z0v, Z0w, Z0x, mkVec, drows, evMk, List.length_map, Z1w, Z23, List.take_length, List.take_left, List.length_append, Nat.le_add_right, ite_self, List.take_of_length_le, Z3d, intOr, Z43, Option.isSome_none, Option.isSome_some, Nat.sub_zero, loadQ, loadT, evBin, evUn, Z0y, Z0z, binT, binQ, chk, Z3u, List.contains_cons, List.contains_nil, Bool.or_false, Bool.false_or, Bool.and_self, resQ, resV, resT, pickV, Z2d, Z4a, Z3q, fnOf, Z3f, isD, HO.drow, viewT, Z3y, evEq, eqV, eqK, eqC1, Z49, Z46, Z3b, Z38, lens_I, Z3m, Z2q, Z1s, Z2p, Z1r, Z2o, Z1q, Z1t, Z10, Z11, Z0f, List.mem_cons, List.not_mem_nil, or_false, forall_eq, putRow, Z3g, get_nil, RetS, RetF, RetD, AV.frz, AV.frzL, AV.freshP, AV.freshL, DV.less, Z2g, Z1u, Z2h, Z1v, Z0h, Z07, Option.some.injEq, AV.tup.injEq, AV.agg.injEq, List.cons.injEq, DV.list.injEq, List.isEmpty_nil, Nat.le_refl, AV.d.injEq, DV.int.injEq, DV.bool.injEq, ↓reduceIte, Nat.reduceEqDiff, Nat.reduceAdd, Nat.reduceBEq, List.length_cons, List.length_nil, List.replicate_succ, List.replicate_zero, List.nil_append, List.cons_append, List.append_nil, List.foldl_cons, List.foldl_nil, List.map_cons, List.map_nil, List.all_cons, List.all_nil, List.set_cons_zero, List.set_cons_succ, List.getD_cons_zero, List.getD_cons_succ, List.drop_zero, List.drop_succ_cons, List.take_succ_cons, List.take_zero, List.flatten_cons, List.flatten_nil, Bool.true_and, Bool.and_true, Bool.not_true, Bool.not_false, true_and, and_true, true_or, or_true, Option.bind_some, Option.map_some, decide_true, decide_false, beq_self_eq_true, true_implies, false_implies, implies_true, not_true_eq_false, not_false_eq_true, and_self, Bool.and_false, Bool.false_and, Nat.reduceLT, Nat.reduceLeDiff, List.reverse_cons, List.reverse_nil, Nat.zero_add, Nat.add_zero, Bool.false_eq_true, List.getElem?_cons_zero, Nat.reduceMul, Nat.mul_one]
        exact w_end k3 y (seen ++ [i]) p m P _ h64' (((hQf.head y m).four y.e p m y.next).mono (by omega)) (hgo hr h64') hs1 _ hms K
    · exact FamN1.mk [0, 1, 2, 3, 4, 5, 6, 7, 8, 20, 10, 11, 12, 13, 21, 15, 16, 17, 18, 19] (seen ++ [i]) (by decide) (by simp) (by simp only [liveM, mapSt, fourSt, fourS, WX.env, WX.heap, wEnv, P8.heap, P8.four, Z39, Z3a, four, XG.obj, lsX, EvG.obj, List.cons_append, List.nil_append, hstop (fun h => hr h.1), P8.head, decide_eq_true c1, decide_eq_false c2, addP_t, addP_f, State.can, AV.can, AV.canL, HO.can, Z25, idx, Z02, Z00, Heap.at, Nat.reduceBEq, ↓reduceIte, Nat.reduceEqDiff, Option.getD_some, Option.map_some, List.map_cons, List.map_nil, List.getD_cons_zero, List.getD_cons_succ, List.length_append, List.length_singleton]) hs1 hms
    · exact FamN1.mk [0, 1, 2, 3, 4, 5, 6, 7, 8, 20, 10, 11, 12, 13, 14, 21, 16, 17, 18, 19] (seen ++ [i]) (by decide) (by simp) (by simp only [liveM, mapSt, fourSt, fourS, WX.env, WX.heap, wEnv, P8.heap, P8.four, Z39, Z3a, four, XG.obj, lsX, EvG.obj, List.cons_append, List.nil_append, hstop (fun h => absurd h.2 (by omega)), P8.head, decide_eq_false c1, decide_eq_true c2, addP_f, addP_t, State.can, AV.can, AV.canL, HO.can, Z25, idx, Z02, Z00, Heap.at, Nat.reduceBEq, ↓reduceIte, Nat.reduceEqDiff, Option.getD_some, Option.map_some, List.map_cons, List.map_nil, List.getD_cons_zero, List.getD_cons_succ, List.length_append, List.length_singleton]) hs1 hms
    · have h64' : p < 64 := by omega
      simp only [hw h64', Int.toNat_natCast]
      refine ⟨by omega, w_four k3 y (seen ++ [i]) p m (Q.head y m) h64' ?_ _ _ [0, 1, 2, 3, 4, 5, 6, 7, 8, 20, 10, 11, 12, 13, 14, 21, 16, 17, 18, 19, 22] (by decide) (by simp) (by simp only [liveY, fourSt, fourS, WX.env, WX.heap, wEnv, P8.heap, P8.four, Z39, Z3a, four, XG.obj, lsX, EvG.obj, List.cons_append, List.nil_append, P8.head, decide_eq_false c1, decide_eq_true c2, addP_f, addP_t, State.can, AV.can, AV.canL, HO.can, Z25, idx, Z02, Z00, Heap.at, Nat.reduceBEq, ↓reduceIte, Nat.reduceEqDiff, Option.getD_some, Option.map_some, List.map_cons, List.map_nil, List.getD_cons_zero, List.getD_cons_succ, List.length_append, List.length_singleton]; rfl) rfl ?_⟩
      · exact (hQf.head y m).mono (by omega)
      · simp only [↓Z1a, ↓Z2b, ↓Z1k, ↓Z05, ↓Z2v, ↓Z2r, nilG_d, nilG_r, ↓Z1g, ↓Z19, ↓Z0d, ↓Z1l, ↓Z0m, ↓Z20, ↓Z30, ↓Z33, ↓Z24, ↓Z1j, ↓Z2m, ↓Z28, ↓Z1z, ↓Z3r, ↓retK_n, ↓Z3n, ↓Z3p, ↓Z3o, ↓Z41, ↓Z3x, ↓Z4b, ↓Z0j, ↓Z08, ↓Z1b, ↓Z0i, ↓Z1n, nf_mk, Z09, Z18, Z34, Z1c, Z37, evN, Z2i, Z1y, Z36, Z47, Z1x, Z17, Z1i, Z2u, Z2j, Z2f, Z1o, Z2c, evT, Opd.ev, Z02, Z00, Z35, Z45, Z3w, Z27, Z1m, Z2a, Z2e, Z3l, Z1d, Z0c, Z3e, LOp.isNew, State.prune, Z3t, Z31, AV.leaf, Heap.at, Z0k, Z0a, Z1h, Z0g, Z03, idx_I, idx_W, rowW, Z26, Z2w, Z22, Z1e, rowB, Z2y, Z2x, rowN, lens_W, Z3s, Z1f, Z15, w_or, w_and, Z2z, Z4d, w_shl, Z4c, w_shr, Z4e, w_neg, w_add, w_bit, w_eq0, w_eq1, w_eq, Bool.decide_eq_true, Z3h, Z3k, Z3j, Z2n, Z1p, Z04, Z0b, Z0n, Z01, Z21, rowI, RatG.row, LocG.row, ActG.row, StepG.row, StampG.row, ActG.av, ActG.eta, RatG.eta, LocG.eta, beq_true, beq_false, Z2k, Z2t, Z2l, Z2s, Z14, Z0q, Z12, Z13, Z0p, Z0o, Z0e, List.length_set, List.length_replicate, Z06, Int.reduceToNat, evLen, Z29, Z40, Src.all, Src.len, Src.leaf, Src.leafN, Z3c, Z48, joinV, Z0l, Z0r, Z0s, Z0t, Z0u, Z0v, Z0w, Z0x, mkVec, drows, evMk, List.length_map, Z1w, Z23, List.take_length, List.take_left, List.length_append, Nat.le_add_right, ite_self, List.take_of_length_le, Z3d, intOr, Z43, Option.isSome_none, Option.isSome_some, Nat.sub_zero, loadQ, loadT, evBin, evUn, Z0y, Z0z, binT, binQ, chk, Z3u, List.contains_cons, List.contains_nil, Bool.or_false, Bool.false_or, Bool.and_self, resQ, resV, resT, pickV, Z2d, Z4a, Z3q, fnOf, Z3f, isD, HO.drow, viewT, Z3y, evEq, eqV, eqK, eqC1, Z49, Z46, Z3b, Z38, lens_I, Z3m, Z2q, Z1s, Z2p, Z1r, Z2o, Z1q, Z1t, Z10, Z11, Z0f, List.mem_cons, List.not_mem_nil, or_false, forall_eq, putRow, Z3g, get_nil, RetS, RetF, RetD, AV.frz, AV.frzL, AV.freshP, AV.freshL, DV.less, Z2g, Z1u, Z2h, Z1v, Z0h, Z07, Option.some.injEq, AV.tup.injEq, AV.agg.injEq, List.cons.injEq, DV.list.injEq, List.isEmpty_nil, Nat.le_refl, AV.d.injEq, DV.int.injEq, DV.bool.injEq, ↓reduceIte, Nat.reduceEqDiff, Nat.reduceAdd, Nat.reduceBEq, List.length_cons, List.length_nil, List.replicate_succ, List.replicate_zero, List.nil_append, List.cons_append, List.append_nil, List.foldl_cons, List.foldl_nil, List.map_cons, List.map_nil, List.all_cons, List.all_nil, List.set_cons_zero, List.set_cons_succ, List.getD_cons_zero, List.getD_cons_succ, List.drop_zero, List.drop_succ_cons, List.take_succ_cons, List.take_zero, List.flatten_cons, List.flatten_nil, Bool.true_and, Bool.and_true, Bool.not_true, Bool.not_false, true_and, and_true, true_or, or_true, Option.bind_some, Option.map_some, decide_true, decide_false, beq_self_eq_true, true_implies, false_implies, implies_true, not_true_eq_false, not_false_eq_true, and_self, Bool.and_false, Bool.false_and, Nat.reduceLT, Nat.reduceLeDiff, List.reverse_cons, List.reverse_nil, Nat.zero_add, Nat.add_zero, Bool.false_eq_true, List.getElem?_cons_zero, Nat.reduceMul, Nat.mul_one]
        exact w_end k3 y (seen ++ [i]) p m P _ h64' (((hQf.head y m).four y.e p m y.next).mono (by omega)) (hgo hr h64') hs1 _ hms K
    · exact FamN1.mk [0, 1, 2, 3, 4, 5, 6, 7, 8, 20, 10, 11, 12, 13, 14, 21, 16, 17, 18, 19] (seen ++ [i]) (by decide) (by simp) (by simp only [liveM, mapSt, fourSt, fourS, WX.env, WX.heap, wEnv, P8.heap, P8.four, Z39, Z3a, four, XG.obj, lsX, EvG.obj, List.cons_append, List.nil_append, hstop (fun h => hr h.1), P8.head, decide_eq_false c1, decide_eq_true c2, addP_f, addP_t, State.can, AV.can, AV.canL, HO.can, Z25, idx, Z02, Z00, Heap.at, Nat.reduceBEq, ↓reduceIte, Nat.reduceEqDiff, Option.getD_some, Option.map_some, List.map_cons, List.map_nil, List.getD_cons_zero, List.getD_cons_succ, List.length_append, List.length_singleton]) hs1 hms
    · exact FamN1.mk [0, 1, 2, 3, 4, 5, 6, 7, 8, 20, 10, 11, 12, 13, 14, 15, 16, 17, 18, 19] (seen ++ [i]) (by decide) (by simp) (by simp only [liveM, mapSt, fourSt, fourS, WX.env, WX.heap, wEnv, P8.heap, P8.four, Z39, Z3a, four, XG.obj, lsX, EvG.obj, List.cons_append, List.nil_append, hstop (fun h => absurd h.2 (by omega)), P8.head, decide_eq_false c1, decide_eq_false c2, addP_f, addP_f, State.can, AV.can, AV.canL, HO.can, Z25, idx, Z02, Z00, Heap.at, Nat.reduceBEq, ↓reduceIte, Nat.reduceEqDiff, Option.getD_some, Option.map_some, List.map_cons, List.map_nil, List.getD_cons_zero, List.getD_cons_succ, List.length_append, List.length_singleton]) hs1 hms
    · have h64' : p < 64 := by omega
      simp only [hw h64', Int.toNat_natCast]
      refine ⟨by omega, w_four k3 y (seen ++ [i]) p m (Q.head y m) h64' ?_ _ _ [0, 1, 2, 3, 4, 5, 6, 7, 8, 20, 10, 11, 12, 13, 14, 15, 16, 17, 18, 19, 21] (by decide) (by simp) (by simp only [liveY, fourSt, fourS, WX.env, WX.heap, wEnv, P8.heap, P8.four, Z39, Z3a, four, XG.obj, lsX, EvG.obj, List.cons_append, List.nil_append, P8.head, decide_eq_false c1, decide_eq_false c2, addP_f, addP_f, State.can, AV.can, AV.canL, HO.can, Z25, idx, Z02, Z00, Heap.at, Nat.reduceBEq, ↓reduceIte, Nat.reduceEqDiff, Option.getD_some, Option.map_some, List.map_cons, List.map_nil, List.getD_cons_zero, List.getD_cons_succ, List.length_append, List.length_singleton]; rfl) rfl ?_⟩
      · exact (hQf.head y m).mono (by omega)
      · simp only [↓Z1a, ↓Z2b, ↓Z1k, ↓Z05, ↓Z2v, ↓Z2r, nilG_d, nilG_r, ↓Z1g, ↓Z19, ↓Z0d, ↓Z1l, ↓Z0m, ↓Z20, ↓Z30, ↓Z33, ↓Z24, ↓Z1j, ↓Z2m, ↓Z28, ↓Z1z, ↓Z3r, ↓retK_n, ↓Z3n, ↓Z3p, ↓Z3o, ↓Z41, ↓Z3x, ↓Z4b, ↓Z0j, ↓Z08, ↓Z1b, ↓Z0i, ↓Z1n, nf_mk, Z09, Z18, Z34, Z1c, Z37, evN, Z2i, Z1y, Z36, Z47, Z1x, Z17, Z1i, Z2u, Z2j, Z2f, Z1o, Z2c, evT, Opd.ev, Z02, Z00, Z35, Z45, Z3w, Z27, Z1m, Z2a, Z2e, Z3l, Z1d, Z0c, Z3e, LOp.isNew, State.prune, Z3t, Z31, AV.leaf, Heap.at, Z0k, Z0a, Z1h, Z0g, Z03, idx_I, idx_W, rowW, Z26, Z2w, Z22, Z1e, rowB, Z2y, Z2x, rowN, lens_W, Z3s, Z1f, Z15, w_or, w_and, Z2z, Z4d, w_shl, Z4c, w_shr, Z4e, w_neg, w_add, w_bit, w_eq0, w_eq1, w_eq, Bool.decide_eq_true, Z3h, Z3k, Z3j, Z2n, Z1p, Z04, Z0b, Z0n, Z01, Z21, rowI, RatG.row, LocG.row, ActG.row, StepG.row, StampG.row, ActG.av, ActG.eta, RatG.eta, LocG.eta, beq_true, beq_false, Z2k, Z2t, Z2l, Z2s, Z14, Z0q, Z12, Z13, Z0p, Z0o, Z0e, List.length_set, List.length_replicate, Z06, Int.reduceToNat, evLen, Z29, Z40, Src.all, Src.len, Src.leaf, Src.leafN, Z3c, Z48, joinV, Z0l, Z0r, Z0s, Z0t, Z0u, Z0v, Z0w, Z0x, mkVec, drows, evMk, List.length_map, Z1w, Z23, List.take_length, List.take_left, List.length_append, Nat.le_add_right, ite_self, List.take_of_length_le, Z3d, intOr, Z43, Option.isSome_none, Option.isSome_some, Nat.sub_zero, loadQ, loadT, evBin, evUn, Z0y, Z0z, binT, binQ, chk, Z3u, List.contains_cons, List.contains_nil, Bool.or_false, Bool.false_or, Bool.and_self, resQ, resV, resT, pickV, Z2d, Z4a, Z3q, fnOf, Z3f, isD, HO.drow, viewT, Z3y, evEq, eqV, eqK, eqC1, Z49, Z46, Z3b, Z38, lens_I, Z3m, Z2q, Z1s, Z2p, Z1r, Z2o, Z1q, Z1t, Z10, Z11, Z0f, List.mem_cons, List.not_mem_nil, or_false, forall_eq, putRow, Z3g, get_nil, RetS, RetF, RetD, AV.frz, AV.frzL, AV.freshP, AV.freshL, DV.less, Z2g, Z1u, Z2h, Z1v, Z0h, Z07, Option.some.injEq, AV.tup.injEq, AV.agg.injEq, List.cons.injEq, DV.list.injEq, List.isEmpty_nil, Nat.le_refl, AV.d.injEq, DV.int.injEq, DV.bool.injEq, ↓reduceIte, Nat.reduceEqDiff, Nat.reduceAdd, Nat.reduceBEq, List.length_cons, List.length_nil, List.replicate_succ, List.replicate_zero, List.nil_append, List.cons_append, List.append_nil, List.foldl_cons, List.foldl_nil, List.map_cons, List.map_nil, List.all_cons, List.all_nil, List.set_cons_zero, List.set_cons_succ, List.getD_cons_zero, List.getD_cons_succ, List.drop_zero, List.drop_succ_cons, List.take_succ_cons, List.take_zero, List.flatten_cons, List.flatten_nil, Bool.true_and, Bool.and_true, Bool.not_true, Bool.not_false, true_and, and_true, true_or, or_true, Option.bind_some, Option.map_some, decide_true, decide_false, beq_self_eq_true, true_implies, false_implies, implies_true, not_true_eq_false, not_false_eq_true, and_self, Bool.and_false, Bool.false_and, Nat.reduceLT, Nat.reduceLeDiff, List.reverse_cons, List.reverse_nil, Nat.zero_add, Nat.add_zero, Bool.false_eq_true, List.getElem?_cons_zero, Nat.reduceMul, Nat.mul_one]
        exact w_end k3 y (seen ++ [i]) p m P _ h64' (((hQf.head y m).four y.e p m y.next).mono (by omega)) (hgo hr h64') hs1 _ hms K
    · exact FamN1.mk [0, 1, 2, 3, 4, 5, 6, 7, 8, 20, 10, 11, 12, 13, 14, 15, 16, 17, 18, 19] (seen ++ [i]) (by decide) (by simp) (by simp only [liveM, mapSt, fourSt, fourS, WX.env, WX.heap, wEnv, P8.heap, P8.four, Z39, Z3a, four, XG.obj, lsX, EvG.obj, List.cons_append, List.nil_append, hstop (fun h => hr h.1), P8.head, decide_eq_false c1, decide_eq_false c2, addP_f, addP_f, State.can, AV.can, AV.canL, HO.can, Z25, idx, Z02, Z00, Heap.at, Nat.reduceBEq, ↓reduceIte, Nat.reduceEqDiff, Option.getD_some, Option.map_some, List.map_cons, List.map_nil, List.getD_cons_zero, List.getD_cons_succ, List.length_append, List.length_singleton]) hs1 hms
  · have := hK seen hs.1 (fun i => ⟨hall i, hs.2 i⟩)
    unfold mapK Z32 at this
    simp (maxSteps := 3000000) only [mapSt, fourSt, fourS, WX.env, WX.heap, wEnv, P8.heap, P8.four, Z39, Z3a, four, XG.obj, lsX, EvG.obj, List.cons_append, List.nil_append, hQ, ↓Z1a, ↓Z2b, ↓Z1k, ↓Z05, ↓Z2v, ↓Z2r, nilG_d, nilG_r, ↓Z1g, ↓Z19, ↓Z0d, ↓Z1l, ↓Z0m, ↓Z20, ↓Z30, ↓Z33, ↓Z24, ↓Z1j, ↓Z2m, ↓Z28, ↓Z1z, ↓Z3r, ↓retK_n, ↓Z3n, ↓Z3p, ↓Z3o, ↓Z41, ↓Z3x, ↓Z4b, ↓Z0j, ↓Z08, ↓Z1b, ↓Z0i, ↓Z1n, nf_mk, Z09, Z18, Z34, Z1c, Z37, evN, Z2i, Z1y, Z36, Z47, Z1x, Z17, Z1i, Z2u, Z2j, Z2f, Z1o, Z2c, evT, Opd.ev, Z02, Z00, Z35, Z45, Z3w, Z27, Z1m, Z2a, Z2e, Z3l, Z1d, Z0c, Z3e, LOp.isNew, State.prune, Z3t, Z31, AV.leaf, Heap.at, Z0k, Z0a, Z1h, Z0g, Z03, idx_I, idx_W, rowW, Z26, Z2w, Z22, Z1e, rowB, Z2y, Z2x, rowN, lens_W, Z3s, Z1f, Z15, w_or, w_and, Z2z, Z4d, w_shl, Z4c, w_shr, Z4e, w_neg, w_add, w_bit, w_eq0, w_eq1, w_eq, Bool.decide_eq_true, Z3h, Z3k, Z3j, Z2n, Z1p, Z04, Z0b, Z0n, Z01, Z21, rowI, RatG.row, LocG.row, ActG.row, StepG.row, StampG.row, ActG.av, ActG.eta, RatG.eta, LocG.eta, beq_true, beq_false, Z2k, Z2t, Z2l, Z2s, Z14, Z0q, Z12, Z13, Z0p, Z0o, Z0e, List.length_set, List.length_replicate, Z06, Int.reduceToNat, evLen, Z29, Z40, Src.all, Src.len, Src.leaf, Src.leafN, Z3c, Z48, joinV, Z0l, Z0r, Z0s, Z0t, Z0u, Z0v, Z0w, Z0x, mkVec, drows, evMk, List.length_map, Z1w, Z23, List.take_length, List.take_left, List.length_append, Nat.le_add_right, ite_self, List.take_of_length_le, Z3d, intOr, Z43, Option.isSome_none, Option.isSome_some, Nat.sub_zero, loadQ, loadT, evBin, evUn, Z0y, Z0z, binT, binQ, chk, Z3u, List.contains_cons, List.contains_nil, Bool.or_false, Bool.false_or, Bool.and_self, resQ, resV, resT, pickV, Z2d, Z4a, Z3q, fnOf, Z3f, isD, HO.drow, viewT, Z3y, evEq, eqV, eqK, eqC1, Z49, Z46, Z3b, Z38, lens_I, Z3m, Z2q, Z1s, Z2p, Z1r, Z2o, Z1q, Z1t, Z10, Z11, Z0f, List.mem_cons, List.not_mem_nil, or_false, forall_eq, putRow, Z3g, get_nil, RetS, RetF, RetD, AV.frz, AV.frzL, AV.freshP, AV.freshL, DV.less, Z2g, Z1u, Z2h, Z1v, Z0h, Z07, Option.some.injEq, AV.tup.injEq, AV.agg.injEq, List.cons.injEq, DV.list.injEq, List.isEmpty_nil, Nat.le_refl, AV.d.injEq, DV.int.injEq, DV.bool.injEq, ↓reduceIte, Nat.reduceEqDiff, Nat.reduceAdd, Nat.reduceBEq, List.length_cons, List.length_nil, List.replicate_succ, List.replicate_zero, List.nil_append, List.cons_append, List.append_nil, List.foldl_cons, List.foldl_nil, List.map_cons, List.map_nil, List.all_cons, List.all_nil, List.set_cons_zero, List.set_cons_succ, List.getD_cons_zero, List.getD_cons_succ, List.drop_zero, List.drop_succ_cons, List.take_succ_cons, List.take_zero, List.flatten_cons, List.flatten_nil, Bool.true_and, Bool.and_true, Bool.not_true, Bool.not_false, true_and, and_true, true_or, or_true, Option.bind_some, Option.map_some, decide_true, decide_false, beq_self_eq_true, true_implies, false_implies, implies_true, not_true_eq_false, not_false_eq_true, and_self, Bool.and_false, Bool.false_and, Nat.reduceLT, Nat.reduceLeDiff, List.reverse_cons, List.reverse_nil, Nat.zero_add, Nat.add_zero, Bool.false_eq_true, List.getElem?_cons_zero, Nat.reduceMul, Nat.mul_one] at this
    exact this
end Go.Ago

/- Chapter 18: the walk through the events of a thread. Conditions: none. -/
set_option maxRecDepth 100000
set_option linter.unusedSimpArgs false
set_option linter.unusedVariables false
namespace Go.Ago
attribute [local irreducible] vck
/-! ### Eight relations, by what they hold -/
def P8.get (P : P8) : Nat → List RatG
  | 0 => P.po
  | 1 => P.ad
  | 2 => P.da
  | 3 => P.ct
  | 4 => P.fe
  | 5 => P.sy
  | 6 => P.lw
  | _ => P.pa
def P8.Like (P Q : P8) : Prop := ∀ k r, r ∈ P.get k ↔ r ∈ Q.get k
theorem P8.Like.refl (P : P8) : P.Like P := fun _ _ => Iff.rfl
theorem addP_mem {c : Bool} {l : List RatG} {a b : Nat} {r : RatG} : r ∈ addP c l a b ↔ r ∈ l ∨ r ∈ addP c [] a b := by
  cases c
  · rw [addP_f, addP_f]; simp
  · rw [addP_t, addP_t]; simp
theorem P8.get_nil (k : Nat) : P8.nil.get k = [] := by
  match k with
  | 0 => rfl
  | 1 => rfl
  | 2 => rfl
  | 3 => rfl
  | 4 => rfl
  | 5 => rfl
  | 6 => rfl
  | _ + 7 => rfl
theorem P8.step_get (P : P8) (y : WX) (p m k : Nat) (r : RatG) : r ∈ (P.step y p m).get k ↔ r ∈ P.get k ∨ r ∈ (P8.nil.step y p m).get k := by
  unfold P8.step
  split
  · match k with
    | 0 => show r ∈ P.po ++ _ ↔ _ ∨ r ∈ [] ++ _; rw [List.mem_append, List.nil_append]; rfl
    | 1 => exact addP_mem
    | 2 => exact addP_mem
    | 3 => exact addP_mem
    | 4 => exact addP_mem
    | 5 => exact addP_mem
    | 6 => exact addP_mem
    | _ + 7 => exact addP_mem
  · match k with
    | 0 => show r ∈ P.po ++ _ ↔ _ ∨ r ∈ [] ++ _; rw [List.mem_append, List.nil_append]; rfl
    | 1 => exact ⟨.inl, fun h => h.elim id (fun h => (List.not_mem_nil h).elim)⟩
    | 2 => exact ⟨.inl, fun h => h.elim id (fun h => (List.not_mem_nil h).elim)⟩
    | 3 => exact ⟨.inl, fun h => h.elim id (fun h => (List.not_mem_nil h).elim)⟩
    | 4 => exact ⟨.inl, fun h => h.elim id (fun h => (List.not_mem_nil h).elim)⟩
    | 5 => exact addP_mem
    | 6 => exact addP_mem
    | _ + 7 => exact ⟨.inl, fun h => h.elim id (fun h => (List.not_mem_nil h).elim)⟩
theorem P8.many_get (y : WX) (k : Nat) (r : RatG) : ∀ (l : List Nat) (P : P8), r ∈ (P.many y l).get k ↔ r ∈ P.get k ∨ ∃ i ∈ l, r ∈ (P8.nil.step y (y.es.getD i (0, 0)).1.toNat (y.es.getD i (0, 0)).2.toNat).get k
  | [], P => by show r ∈ P.get k ↔ _; simp
  | i :: l, P => by
    show r ∈ (P8.many (P.step y _ _) y l).get k ↔ _
    rw [P8.many_get y k r l, P8.step_get, or_assoc]
    simp
theorem P8.many_like {P Q : P8} (h : P.Like Q) {y : WX} {l l' : List Nat} (hl : ∀ i, i ∈ l ↔ i ∈ l') : (P.many y l).Like (Q.many y l') := fun k r => by
  rw [P8.many_get, P8.many_get, h k r]
  simp only [hl]
/-! ### One event -/
structure WS where
  P : P8
  fe : Int
  li : Int
  es : List (Int × Int)
  next : Nat
/-- What the program stands on beside: the execution, the threads, the thread at hand. -/
structure WC where
  x : XG
  runs : List RunG
  g : Bool
  t : Nat
  evs : List EvG
  eg : Bool
def WC.wx (c : WC) (s : WS) (e : EvG) (i : Nat) : WX := ⟨c.x, c.runs, c.g, c.t, c.evs, c.eg, i, e, s.fe, s.li, s.es, s.next⟩
def WS.mark (s : WS) (e : EvG) : WS := { s with fe := if e.kind = 3 then s.next else s.fe, li := if e.kind = 4 then s.next else s.li }
def WS.ev (c : WC) (s : WS) (e : EvG) (i : Nat) : WS :=
  if e.isM = true then { s with P := s.P.many (c.wx s e i) (List.range s.es.length), es := s.es ++ [((i : Int), (s.next : Int))], next := s.next + 1 } else s.mark e
def WC.run (c : WC) (s : WS) : Nat → WS
  | 0 => s
  | i + 1 => (c.run s i).ev c (c.evs.getD i default) i
structure WS.Like (s r : WS) : Prop where
  P : s.P.Like r.P
  fe : s.fe = r.fe
  li : s.li = r.li
  es : s.es = r.es
  next : s.next = r.next
def memN (l : List EvG) : Nat := (l.filter EvG.isM).length
def liveE : List Nat := [0, 6, 7, 8, 9, 10, 11, 12, 13, 14, 15, 18, 19, 20, 34, 35, 36, 42, 43, 44]
def evSt (c : WC) (x : Nat × WS) : State :=
  ⟨wEnv c.x.nodes.length x.2.next ++ [(18, .mapr 17), (19, .d (.int .i64 x.2.fe)), (20, .d (.int .i64 x.2.li)), (34, .d (.list (c.runs.map RunG.row) c.g)), (35, .d (.int .i64 c.runs.length)), (36, .d (.int .i64 c.t)), (42, .d (.list (c.evs.map EvG.row) c.eg)), (43, .d (.int .i64 c.evs.length)), (44, .d (.int .i64 x.1))],
    x.2.P.heap c.x.obj ++ [.mapo x.2.es]⟩
def evK (c : WC) (s : WS) : State :=
  ⟨(45, .d (.bool false)) :: (((evSt c (c.evs.length, s)).app (some 45) ⟨.d (.bool (decide ((c.evs.length : Int) < (c.evs.length : Int)))), [], []⟩).prune Z32).env, (evSt c (c.evs.length, s)).heap⟩
structure evInv (c : WC) (s0 : WS) (x : Nat × WS) : Prop where
  i : x.1 ≤ c.evs.length
  like : x.2.Like (c.run s0 x.1)
  few : x.2.P.Few (x.2.next * 64)
  es : ∀ i, i < x.2.es.length → ∃ p m : Nat, x.2.es.getD i (0, 0) = ((p : Int), (m : Int)) ∧ p < x.1 ∧ m < x.2.next
  len : x.2.es.length ≤ x.2.next
  next : x.2.next + memN (c.evs.drop x.1) ≤ c.x.nodes.length
theorem ev_like_no {c : WC} {s r : WS} {e : EvG} {i : Nat} (hM : e.isM = false) (h : s.Like r) : (s.mark e).Like (r.ev c e i) := by
  unfold WS.ev
  rw [if_neg (by rw [hM]; simp)]
  exact ⟨h.P, by show ite _ _ _ = ite _ _ _; rw [h.next, h.fe], by show ite _ _ _ = ite _ _ _; rw [h.next, h.li], h.es, h.next⟩
theorem ev_like_yes {c : WC} {s r : WS} {e : EvG} {i : Nat} {seen : List Nat} (hM : e.isM = true) (h : s.Like r) (hs : ∀ j, j < s.es.length ↔ j ∈ seen) :
    (⟨s.P.many (c.wx s e i) seen, s.fe, s.li, s.es ++ [((i : Int), (s.next : Int))], s.next + 1⟩ : WS).Like (r.ev c e i) := by
  unfold WS.ev
  rw [if_pos hM]
  obtain ⟨P, fe, li, es, next⟩ := s
  obtain ⟨P', fe', li', es', next'⟩ := r
  obtain ⟨h1, h2, h3, h4, h5⟩ := h
  simp only at h2 h3 h4 h5
  subst h2; subst h3; subst h4; subst h5
  exact ⟨P8.many_like h1 (fun j => by rw [← hs j, List.mem_range]), rfl, rfl, rfl, rfl⟩
theorem memN_drop {l : List EvG} {i : Nat} (h : i < l.length) (hM : (l.getD i default).isM = false) : memN (l.drop i) = memN (l.drop (i + 1)) := by
  have : l.drop i = l.getD i default :: l.drop (i + 1) := by rw [List.drop_eq_getElem_cons h, List.getD_eq_getElem?_getD, List.getElem?_eq_getElem h]; rfl
  unfold memN
  rw [this, List.filter_cons, hM]; rfl
theorem memN_drop1 {l : List EvG} {i : Nat} (h : i < l.length) (hM : (l.getD i default).isM = true) : memN (l.drop i) = memN (l.drop (i + 1)) + 1 := by
  have : l.drop i = l.getD i default :: l.drop (i + 1) := by rw [List.drop_eq_getElem_cons h, List.getD_eq_getElem?_getD, List.getElem?_eq_getElem h]; rfl
  unfold memN
  rw [this, List.filter_cons, hM]; rfl
theorem P8.many_nil {P : P8} {y : WX} : P.many y [] = P := rfl
theorem mPut_new {es : List (Int × Int)} {a b : Int} (h : ∀ j, j < es.length → (es.getD j (0, 0)).1 ≠ a) : mPut es a b = es ++ [(a, b)] := by
  unfold mPut
  have : es.findIdx? (fun p => decide (p.1 = a)) = none := by
    rw [List.findIdx?_eq_none_iff]
    intro x hx
    obtain ⟨j, hj, rfl⟩ := List.mem_iff_getElem.1 hx
    have := h j hj
    rw [List.getD_eq_getElem?_getD, List.getElem?_eq_getElem hj] at this
    exact decide_eq_false this
  rw [this]
set_option maxHeartbeats 4000000 in
theorem w_evs {T : Tab} {n1 n3 : Nat} (k1 : Knows T n1 sp_isM) (k3 : KnowsG T n3 addE) (c : WC) (s0 : WS) (hn : c.x.nodes.length ≤ 64) (he : c.evs.length ≤ maxLen) (h5 : evInv c s0 (0, s0)) (K : AExit → State → Prop)
    (S : State) (ρ : List Nat) (h1 : ρ.Nodup) (h2 : ∀ i ∈ ρ, i < S.heap.length) (h3 : S.can ρ liveE = evSt c (0, s0)) (h0 : ρ[0]? = some 0)
    (hK : ∀ s, evInv c s0 (c.evs.length, s) → K (.exit 2) (evK c s)) : Loop T 1 Z32 (L_cand_within_v n1 n3) S K := by
  have F1 := k1.F; have G1 := k1.G; have G3 := k3.G
  refine Loop.fam1 liveE (evSt c) (evInv c s0) (fun x => c.evs.length - x.1) (0, s0) ρ h1 h2 h3 h5 ?_ h0
  rintro ⟨i, P, fe, li, es, next⟩ hI
  unfold L_cand_within_v Z32
  simp (maxSteps := 3000000) only [evSt, WX.env, WX.heap, wEnv, P8.heap, Z39, Z3a, XG.obj, lsX, EvG.obj, List.cons_append, List.nil_append, ↓Z1a, ↓Z2b, ↓Z1k, ↓Z05, ↓Z2v, ↓Z2r, nilG_d, nilG_r, ↓Z1g, ↓Z19, ↓Z0d, ↓Z1l, ↓Z0m, ↓Z20, ↓Z30, ↓Z33, ↓Z24, ↓Z1j, ↓Z2m, ↓Z28, ↓Z1z, ↓Z3r, ↓retK_n, ↓Z3n, ↓Z3p, ↓Z3o, ↓Z41, ↓Z3x, ↓Z4b, ↓Z0j, ↓Z08, ↓Z1b, ↓Z0i, ↓Z1n, nf_mk, Z09, Z18, Z34, Z1c, Z37, evN, Z2i, Z1y, Z36, Z47, Z1x, Z17, Z1i, Z2u, Z2j, Z2f, Z1o, Z2c, evT, Opd.ev, Z02, Z00, Z35, Z45, Z3w, Z27, Z1m, Z2a, Z2e, Z3l, Z1d, Z0c, Z3e, LOp.isNew, State.prune, Z3t, Z31, AV.leaf, Heap.at, Z0k, Z0a, Z1h, Z0g, Z03, idx_I, idx_W, rowW, Z26, Z2w, Z22, Z1e, rowB, Z2y, Z2x, rowN, lens_W, Z3s, Z1f, Z15, w_or, w_and, Z2z, Z4d, w_shl, Z4c, w_shr, Z4e, w_neg, w_add, w_bit, w_eq0, w_eq1, w_eq, Bool.decide_eq_true, Z3h, Z3k, Z3j, Z2n, Z1p, Z04, Z0b, Z0n, Z01, Z21, rowI, RatG.row, LocG.row, ActG.row, StepG.row, StampG.row, ActG.av, ActG.eta, RatG.eta, LocG.eta, beq_true, beq_false, Z2k, Z2t, Z2l, Z2s, Z14, Z0q, Z12, Z13, Z0p, Z0o, Z0e, List.length_set, List.length_replicate, Z06, Int.reduceToNat, evLen, Z29, Z40, Src.all, Src.len, Src.leaf, Src.leafN, Z3c, Z48, joinV, Z0l, Z0r, Z0s, Z0t, Z0u, Z0v, Z0w, Z0x, mkVec, drows, evMk, List.length_map, Z1w, Z23, List.take_length, List.take_left, List.length_append, Nat.le_add_right, ite_self, List.take_of_length_le, Z3d, intOr, Z43, Option.isSome_none, Option.isSome_some, Nat.sub_zero, loadQ, loadT, evBin, evUn, Z0y, Z0z, binT, binQ, chk, Z3u, List.contains_cons, List.contains_nil, Bool.or_false, Bool.false_or, Bool.and_self, resQ, resV, resT, pickV, Z2d, Z4a, Z3q, fnOf, Z3f, isD, HO.drow, viewT, Z3y, evEq, eqV, eqK, eqC1, Z49, Z46, Z3b, Z38, lens_I, Z3m, Z2q, Z1s, Z2p, Z1r, Z2o, Z1q, Z1t, Z10, Z11, Z0f, List.mem_cons, List.not_mem_nil, or_false, forall_eq, putRow, Z3g, get_nil, RetS, RetF, RetD, AV.frz, AV.frzL, AV.freshP, AV.freshL, DV.less, Z2g, Z1u, Z2h, Z1v, Z0h, Z07, Option.some.injEq, AV.tup.injEq, AV.agg.injEq, List.cons.injEq, DV.list.injEq, List.isEmpty_nil, Nat.le_refl, AV.d.injEq, DV.int.injEq, DV.bool.injEq, ↓reduceIte, Nat.reduceEqDiff, Nat.reduceAdd, Nat.reduceBEq, List.length_cons, List.length_nil, List.replicate_succ, List.replicate_zero, List.nil_append, List.cons_append, List.append_nil, List.foldl_cons, List.foldl_nil, List.map_cons, List.map_nil, List.all_cons, List.all_nil, List.set_cons_zero, List.set_cons_succ, List.getD_cons_zero, List.getD_cons_succ, List.drop_zero, List.drop_succ_cons, List.take_succ_cons, List.take_zero, List.flatten_cons, List.flatten_nil, Bool.true_and, Bool.and_true, Bool.not_true, Bool.not_false, true_and, and_true, true_or, or_true, Option.bind_some, Option.map_some, decide_true, decide_false, beq_self_eq_true, true_implies, false_implies, implies_true, not_true_eq_false, not_false_eq_true, and_self, Bool.and_false, Bool.false_and, Nat.reduceLT, Nat.reduceLeDiff, List.reverse_cons, List.reverse_nil, Nat.zero_add, Nat.add_zero, Bool.false_eq_true, List.getElem?_cons_zero, Nat.reduceMul, Nat.mul_one, idx_Ev, EvG.row, F1, G1, at_isM, G3, ↓vck_mnext, nextX_p, nextG_i, nextM_m, evMSet, evMSetO, evMGet, evMGetO, evMRange, evMRangeO, evMEnt, evMEntI, evMEntO, mVal, addE, addE1, addE2, famK1_n, famK1_x, famK1_r]
  obtain ⟨i1, i2, i3, i4, i5, i6⟩ := hI
  have i1 : i ≤ c.evs.length := i1
  have i3 : P.Few (next * 64) := i3
  have i5 : es.length ≤ next := i5
  have i6 : next + memN (c.evs.drop i) ≤ c.x.nodes.length := i6
  have w1 : i < c.evs.length → IntKind.i64.wrap ((i : Int) + 1) = ((i + 1 : Nat) : Int) := fun h => wrap_succ h he
  generalize hee : c.evs.getD i default = e
  have hrun : (c.run s0 (i + 1)) = (c.run s0 i).ev c e i := by rw [← hee]; rfl
  have hno : i < c.evs.length → e.isM = false → evInv c s0 (i + 1, (⟨P, fe, li, es, next⟩ : WS).mark e) := fun hi hM => by
    refine ⟨hi, ?_, i3, fun j hj => ?_, i5, ?_⟩
    · rw [hrun]; exact ev_like_no hM i2
    · obtain ⟨p, m, h1, h2, h3⟩ := i4 j hj
      exact ⟨p, m, h1, Nat.lt_succ_of_lt h2, h3⟩
    · have := memN_drop hi (hee ▸ hM : (c.evs.getD i default).isM = false)
      show next + memN (c.evs.drop (i + 1)) ≤ _
      omega
  have hyes : i < c.evs.length → e.isM = true → ∀ seen : List Nat, seen.Nodup → (∀ j, j < es.length ↔ j ∈ seen) → evInv c s0 (i + 1, ⟨P.many (c.wx ⟨P, fe, li, es, next⟩ e i) seen, fe, li, es ++ [((i : Int), (next : Int))], next + 1⟩) := fun hi hM seen hs1 hs2 => by
    have h7 := memN_drop1 hi (hee ▸ hM : (c.evs.getD i default).isM = true)
    refine ⟨hi, ?_, ?_, fun j hj => ?_, ?_, ?_⟩
    · rw [hrun]; exact ev_like_yes hM i2 hs2
    · exact (many_few i3 hs1 (fun j hj => (hs2 j).2 hj)).mono (by show next * 64 + es.length ≤ (next + 1) * 64; omega)
    · have hj : j < (es ++ [((i : Int), (next : Int))]).length := hj
      rw [List.length_append, List.length_singleton] at hj
      by_cases h : j < es.length
      · obtain ⟨p, m, h1, h2, h3⟩ := i4 j h
        refine ⟨p, m, ?_, Nat.lt_succ_of_lt h2, Nat.lt_succ_of_lt h3⟩
        show (es ++ _).getD j (0, 0) = _
        rw [List.getD_eq_getElem?_getD, List.getElem?_append_left h, ← List.getD_eq_getElem?_getD]
        exact h1
      · have : j = es.length := by omega
        subst this
        refine ⟨i, next, ?_, Nat.lt_succ_self _, Nat.lt_succ_self _⟩
        show (es ++ _).getD es.length (0, 0) = _
        rw [List.getD_eq_getElem?_getD, List.getElem?_append_right (Nat.le_refl _), Nat.sub_self]; rfl
    · show (es ++ _).length ≤ next + 1
      rw [List.length_append, List.length_singleton]; omega
    · show next + 1 + memN (c.evs.drop (i + 1)) ≤ _
      omega
  have m1 : i < c.evs.length → c.evs.length - (i + 1) < c.evs.length - i := fun h => by omega
  refine ⟨fun hi => ⟨⟨by omega, by omega⟩, fun k3' => ?_, fun k3' => ⟨fun k4' => ?_, fun k4' => ?_⟩⟩, fun hi => ?_⟩
  · have hi : i < c.evs.length := by omega
    have hM : e.isM = false := by unfold EvG.isM; rw [decide_eq_false (by omega), decide_eq_false (by omega)]; rfl
    rw [hM, Z08, w1 hi]
    refine FamN1.mk [0, 1, 2, 3, 4, 5, 6, 7, 8, 9, 10, 11, 12, 13, 14, 15, 16, 17] (i + 1, ⟨P, next, li, es, next⟩) (by decide) (by simp) (by simp only [liveE, evSt, WX.env, WX.heap, wEnv, P8.heap, Z39, Z3a, XG.obj, lsX, EvG.obj, List.cons_append, List.nil_append, State.can, AV.can, AV.canL, HO.can, Z25, idx, Z02, Z00, Heap.at, Nat.reduceBEq, ↓reduceIte, Nat.reduceEqDiff, Option.getD_some, Option.map_some, List.map_cons, List.map_nil, List.getD_cons_zero, List.getD_cons_succ]) ?_ (m1 hi)
    have := hno hi hM
    unfold WS.mark at this
    rwa [if_pos k3', if_neg (by omega)] at this
  · have hi : i < c.evs.length := by omega
    have hM : e.isM = false := by unfold EvG.isM; rw [decide_eq_false (by omega), decide_eq_false (by omega)]; rfl
    rw [hM, Z08, w1 hi]
    refine FamN1.mk [0, 1, 2, 3, 4, 5, 6, 7, 8, 9, 10, 11, 12, 13, 14, 15, 16, 17] (i + 1, ⟨P, fe, next, es, next⟩) (by decide) (by simp) (by simp only [liveE, evSt, WX.env, WX.heap, wEnv, P8.heap, Z39, Z3a, XG.obj, lsX, EvG.obj, List.cons_append, List.nil_append, State.can, AV.can, AV.canL, HO.can, Z25, idx, Z02, Z00, Heap.at, Nat.reduceBEq, ↓reduceIte, Nat.reduceEqDiff, Option.getD_some, Option.map_some, List.map_cons, List.map_nil, List.getD_cons_zero, List.getD_cons_succ]) ?_ (m1 hi)
    have := hno hi hM
    unfold WS.mark at this
    rwa [if_neg k3', if_pos k4'] at this
  · have hi : i < c.evs.length := by omega
    cases hM : e.isM with
    | false =>
      rw [Z08, w1 hi]
      refine FamN1.mk [0, 1, 2, 3, 4, 5, 6, 7, 8, 9, 10, 11, 12, 13, 14, 15, 16, 17] (i + 1, ⟨P, fe, li, es, next⟩) (by decide) (by simp) (by simp only [liveE, evSt, WX.env, WX.heap, wEnv, P8.heap, Z39, Z3a, XG.obj, lsX, EvG.obj, List.cons_append, List.nil_append, State.can, AV.can, AV.canL, HO.can, Z25, idx, Z02, Z00, Heap.at, Nat.reduceBEq, ↓reduceIte, Nat.reduceEqDiff, Option.getD_some, Option.map_some, List.map_cons, List.map_nil, List.getD_cons_zero, List.getD_cons_succ]) ?_ (m1 hi)
      have := hno hi hM
      unfold WS.mark at this
      rwa [if_neg k3', if_neg k4'] at this
    | true =>
      rw [Z0j]
      have h7 := memN_drop1 hi (hee ▸ hM : (c.evs.getD i default).isM = true)
      refine w_map k3 (c.wx ⟨P, fe, li, es, next⟩ e i) P ⟨fun j hj => ?_, by show es.length ≤ 1000; omega⟩ (i3.mono (by omega)) _ _ (List.range 20) (by decide) ?_ (by simp only [liveM, mapSt, WC.wx, P8.many_nil, List.range, List.range.loop, WX.env, WX.heap, wEnv, P8.heap, Z39, Z3a, XG.obj, lsX, EvG.obj, List.cons_append, List.nil_append, State.can, AV.can, AV.canL, HO.can, Z25, idx, Z02, Z00, Heap.at, Nat.reduceBEq, ↓reduceIte, Nat.reduceEqDiff, Option.getD_some, Option.map_some, List.map_cons, List.map_nil, List.getD_cons_zero, List.getD_cons_succ]) rfl (fun seen hs1 hs2 => ?_)
      · obtain ⟨p, m, h1, h2, h3⟩ := i4 j hj
        exact ⟨p, m, h1, by omega, by show m < c.x.nodes.length; have h3 : m < next := h3; omega⟩
      · intro j hj
        have := List.mem_range.1 hj
        simp only [List.length_cons, List.length_nil]
        exact this
      · have hs2 : ∀ j, j < es.length ↔ j ∈ seen := hs2
        have hI2 := hyes hi hM seen hs1 hs2
        have hput : mPut es (i : Int) (next : Int) = es ++ [((i : Int), (next : Int))] := mPut_new (fun j hj => by
          obtain ⟨p, m, h1, h2, h3⟩ := i4 j hj
          have h1 : es.getD j (0, 0) = ((p : Int), (m : Int)) := h1
          have h2 : p < i := h2
          rw [h1]
          show (p : Int) ≠ i
          omega)
        have w2 : IntKind.i64.wrap ((next : Int) + 1) = ((next + 1 : Nat) : Int) := by rw [wrap_id (by omega) (by omega)]; omega
        revert hI2
        generalize hQ : P.many (c.wx ⟨P, fe, li, es, next⟩ e i) seen = Q
        intro hI2
        unfold mapK Z32
        simp (maxSteps := 3000000) only [mapSt, hQ, ↓Z1a, ↓Z2b, ↓Z1k, ↓Z05, ↓Z2v, ↓Z2r, nilG_d, nilG_r, ↓Z1g, ↓Z19, ↓Z0d, ↓Z1l, ↓Z0m, ↓Z20, ↓Z30, ↓Z33, ↓Z24, ↓Z1j, ↓Z2m, ↓Z28, ↓Z1z, ↓Z3r, ↓retK_n, ↓Z3n, ↓Z3p, ↓Z3o, ↓Z41, ↓Z3x, ↓Z4b, ↓Z0j, ↓Z08, ↓Z1b, ↓Z0i, ↓Z1n, nf_mk, Z09, Z18, Z34, Z1c, Z37, evN, Z2i, Z1y, Z36, Z47, Z1x, Z17, Z1i, Z2u, Z2j, Z2f, Z1o, Z2c, evT, Opd.ev, Z02, Z00, Z35, Z45, Z3w, Z27, Z1m, Z2a, Z2e, Z3l, Z1d, Z0c, Z3e, LOp.isNew, State.prune, Z3t, Z31, AV.leaf, Heap.at, Z0k, Z0a, Z1h, Z0g, Z03, idx_I, idx_W, rowW, Z26, Z2w, Z22, Z1e, rowB, Z2y, Z2x, rowN, lens_W, Z3s, Z1f, Z15, w_or, w_and, Z2z, Z4d, w_shl, Z4c, w_shr, Z4e, w_neg, w_add, w_bit, w_eq0, w_eq1, w_eq, Bool.decide_eq_true, Z3h, Z3k, Z3j, Z2n, Z1p, Z04, Z0b, Z0n, Z01, Z21, rowI, RatG.row, LocG.row, ActG.row, StepG.row, StampG.row, ActG.av, ActG.eta, RatG.eta, LocG.eta, beq_true, beq_false, Z2k, Z2t, Z2l, Z2s, Z14, Z0q, Z12, Z13, Z0p, Z0o, Z0e, List.length_set, List.length_replicate, Z06, Int.reduceToNat, evLen, Z29, Z40, Src.all, Src.len, Src.leaf, Src.leafN, Z3c, Z48, joinV, Z0l, Z0r, Z0s, Z0t, Z0u, Z0v, Z0w, Z0x, mkVec, drows, evMk, List.length_map, Z1w, Z23, List.take_length, List.take_left, List.length_append, Nat.le_add_right, ite_self, List.take_of_length_le, Z3d, intOr, Z43, Option.isSome_none, Option.isSome_some, Nat.sub_zero, loadQ, loadT, evBin, evUn, Z0y, Z0z, binT, binQ, chk, Z3u, List.contains_cons, List.contains_nil, Bool.or_false, Bool.false_or, Bool.and_self, resQ, resV, resT, pickV, Z2d, Z4a, Z3q, fnOf, Z3f, isD, HO.drow, viewT, Z3y, evEq, eqV, eqK, eqC1, Z49, Z46, Z3b, Z38, lens_I, Z3m, Z2q, Z1s, Z2p, Z1r, Z2o, Z1q, Z1t, Z10, Z11, Z0f, List.mem_cons, List.not_mem_nil, or_false, forall_eq, putRow, Z3g, get_nil, RetS, RetF, RetD, AV.frz, AV.frzL, AV.freshP, AV.freshL, DV.less, Z2g, Z1u, Z2h, Z1v, Z0h, Z07, Option.some.injEq, AV.tup.injEq, AV.agg.injEq, List.cons.injEq, DV.list.injEq, List.isEmpty_nil, Nat.le_refl, AV.d.injEq, DV.int.injEq, DV.bool.injEq, ↓reduceIte, Nat.reduceEqDiff, Nat.reduceAdd, Nat.reduceBEq, List.length_cons, List.length_nil, List.replicate_succ, List.replicate_zero, List.nil_append, List.cons_append, List.append_nil, List.foldl_cons, List.foldl_nil, List.map_cons, List.map_nil, List.all_cons, List.all_nil, List.set_cons_zero, List.set_cons_succ, List.getD_cons_zero, List.getD_cons_succ, List.drop_zero, List.drop_succ_cons, List.take_succ_cons, List.take_zero, List.flatten_cons, List.flatten_nil, Bool.true_and, Bool.and_true, Bool.not_true, Bool.not_false, true_and, and_true, true_or, or_true, Option.bind_some, Option.map_some, decide_true, decide_false, beq_self_eq_true, true_implies, false_implies, implies_true, not_true_eq_false, not_false_eq_true, and_self, Bool.and_false, Bool.false_and, Nat.reduceLT, Nat.reduceLeDiff, List.reverse_cons, List.reverse_nil, Nat.zero_add, Nat.add_zero, Bool.false_eq_true, List.getElem?_cons_zero, Nat.reduceMul, Nat.mul_one, idx_Ev, EvG.row, F1, G1, at_isM, G3, ↓vck_mnext, nextX_p, nextG_i, nextM_m, evMSet, evMSetO, evMGet, evMGetO, evMRange, evMRangeO, evMEnt, evMEntI, evMEntO, mVal, addE, addE1, addE2, famK1_n, famK1_x, famK1_r]
        simp (maxSteps := 3000000) only [WC.wx, WX.env, WX.heap, wEnv, P8.heap, Z39, Z3a, XG.obj, lsX, EvG.obj, List.cons_append, List.nil_append, ↓Z1a, ↓Z2b, ↓Z1k, ↓Z05, ↓Z2v, ↓Z2r, nilG_d, nilG_r, ↓Z1g, ↓Z19, ↓Z0d, ↓Z1l, ↓Z0m, ↓Z20, ↓Z30, ↓Z33, ↓Z24, ↓Z1j, ↓Z2m, ↓Z28, ↓Z1z, ↓Z3r, ↓retK_n, ↓Z3n, ↓Z3p, ↓Z3o, ↓Z41, ↓Z3x, ↓Z4b, ↓Z0j, ↓Z08, ↓Z1b, ↓Z0i, ↓Z1n, nf_mk, Z09, Z18, Z34, Z1c, Z37, evN, Z2i, Z1y, Z36, Z47, Z1x, Z17, Z1i, Z2u, Z2j, Z2f, Z1o, Z2c, evT, Opd.ev, Z02, Z00, Z35, Z45, Z3w, Z27, Z1m, Z2a, Z2e, Z3l, Z1d, Z0c, Z3e, LOp.isNew, State.prune, Z3t, Z31, AV.leaf, Heap.at, Z0k, Z0a, Z1h, Z0g, Z03, idx_I, idx_W, rowW, Z26, Z2w, Z22, Z1e, rowB, Z2y, Z2x, rowN, lens_W, Z3s, Z1f, Z15, w_or, w_and, Z2z, Z4d, w_shl, Z4c, w_shr, Z4e, w_neg, w_add, w_bit, w_eq0, w_eq1, w_eq, Bool.decide_eq_true, Z3h, Z3k, Z3j, Z2n, Z1p, Z04, Z0b, Z0n, Z01, Z21, rowI, RatG.row, LocG.row, ActG.row, StepG.row, StampG.row, ActG.av, ActG.eta, RatG.eta, LocG.eta, beq_true, beq_false, Z2k, Z2t, Z2l, Z2s, Z14, Z0q, Z12, Z13, Z0p, Z0o, Z0e, List.length_set, List.length_replicate, Z06, Int.reduceToNat, evLen, Z29, Z40, Src.all, Src.len, Src.leaf, Src.leafN, Z3c, Z48, joinV, Z0l, Z0r, Z0s, Z0t, Z0u, Z0v, Z0w, Z0x, mkVec, drows, evMk, List.length_map, Z1w, Z23, List.take_length, List.take_left, List.length_append, Nat.le_add_right, ite_self, List.take_of_length_le, Z3d, intOr, Z43, Option.isSome_none, Option.isSome_some, Nat.sub_zero, loadQ, loadT, evBin, evUn, Z0y, Z0z, binT, binQ, chk, Z3u, List.contains_cons, List.contains_nil, Bool.or_false, Bool.false_or, Bool.and_self, resQ, resV, resT, pickV, Z2d, Z4a, Z3q, fnOf, Z3f, isD, HO.drow, viewT, Z3y, evEq, eqV, eqK, eqC1, Z49, Z46, Z3b, Z38, lens_I, Z3m, Z2q, Z1s, Z2p, Z1r, Z2o, Z1q, Z1t, Z10, Z11, Z0f, List.mem_cons, List.not_mem_nil, or_false, forall_eq, putRow, Z3g, get_nil, RetS, RetF, RetD, AV.frz, AV.frzL, AV.freshP, AV.freshL, DV.less, Z2g, Z1u, Z2h, Z1v, Z0h, Z07, Option.some.injEq, AV.tup.injEq, AV.agg.injEq, List.cons.injEq, DV.list.injEq, List.isEmpty_nil, Nat.le_refl, AV.d.injEq, DV.int.injEq, DV.bool.injEq, ↓reduceIte, Nat.reduceEqDiff, Nat.reduceAdd, Nat.reduceBEq, List.length_cons, List.length_nil, List.replicate_succ, List.replicate_zero, List.nil_append, List.cons_append, List.append_nil, List.foldl_cons, List.foldl_nil, List.map_cons, List.map_nil, List.all_cons, List.all_nil, List.set_cons_zero, List.set_cons_succ, List.getD_cons_zero, List.getD_cons_succ, List.drop_zero, List.drop_succ_cons, List.take_succ_cons, List.take_zero, List.flatten_cons, List.flatten_nil, Bool.true_and, Bool.and_true, Bool.not_true, Bool.not_false, true_and, and_true, true_or, or_true, Option.bind_some, Option.map_some, decide_true, decide_false, beq_self_eq_true, true_implies, false_implies, implies_true, not_true_eq_false, not_false_eq_true, and_self, Bool.and_false, Bool.false_and, Nat.reduceLT, Nat.reduceLeDiff, List.reverse_cons, List.reverse_nil, Nat.zero_add, Nat.add_zero, Bool.false_eq_true, List.getElem?_cons_zero, Nat.reduceMul, Nat.mul_one, idx_Ev, EvG.row, F1, G1, at_isM, G3, ↓vck_mnext, nextX_p, nextG_i, nextM_m, evMSet, evMSetO, evMGet, evMGetO, evMRange, evMRangeO, evMEnt, evMEntI, evMEntO, mVal, addE, addE1, addE2, famK1_n, famK1_x, famK1_r, hput, w1 hi, w2]
        exact FamN1.mk [0, 1, 2, 3, 4, 5, 6, 7, 8, 9, 10, 11, 12, 13, 14, 15, 16, 17] (i + 1, ⟨Q, fe, li, es ++ [((i : Int), (next : Int))], next + 1⟩) (by decide) (by simp) (by simp only [liveE, evSt, WX.env, WX.heap, wEnv, P8.heap, Z39, Z3a, XG.obj, lsX, EvG.obj, List.cons_append, List.nil_append, State.can, AV.can, AV.canL, HO.can, Z25, idx, Z02, Z00, Heap.at, Nat.reduceBEq, ↓reduceIte, Nat.reduceEqDiff, Option.getD_some, Option.map_some, List.map_cons, List.map_nil, List.getD_cons_zero, List.getD_cons_succ]) hI2 (m1 hi)
  · have : i = c.evs.length := by omega
    subst this
    have := hK ⟨P, fe, li, es, next⟩ ⟨i1, i2, i3, i4, i5, i6⟩
    unfold evK Z32 at this
    simp (maxSteps := 3000000) only [evSt, WX.env, WX.heap, wEnv, P8.heap, Z39, Z3a, XG.obj, lsX, EvG.obj, List.cons_append, List.nil_append, ↓Z1a, ↓Z2b, ↓Z1k, ↓Z05, ↓Z2v, ↓Z2r, nilG_d, nilG_r, ↓Z1g, ↓Z19, ↓Z0d, ↓Z1l, ↓Z0m, ↓Z20, ↓Z30, ↓Z33, ↓Z24, ↓Z1j, ↓Z2m, ↓Z28, ↓Z1z, ↓Z3r, ↓retK_n, ↓Z3n, ↓Z3p, ↓Z3o, ↓Z41, ↓Z3x, ↓Z4b, ↓Z0j, ↓Z08, ↓Z1b, ↓Z0i, ↓Z1n, nf_mk, Z09, Z18, Z34, Z1c, Z37, evN, Z2i, Z1y, Z36, Z47, Z1x, Z17, Z1i, Z2u, Z2j, Z2f, Z1o, Z2c, evT, Opd.ev, Z02, Z00, Z35, Z45, Z3w, Z27, Z1m, Z2a, Z2e, Z3l, Z1d, Z0c, Z3e, LOp.isNew, State.prune, Z3t, Z31, AV.leaf, Heap.at, Z0k, Z0a, Z1h, Z0g, Z03, idx_I, idx_W, rowW, Z26, Z2w, Z22, Z1e, rowB, Z2y, Z2x, rowN, lens_W, Z3s, Z1f, Z15, w_or, w_and, Z2z, Z4d, w_shl, Z4c, w_shr, Z4e, w_neg, w_add, w_bit, w_eq0, w_eq1, w_eq, Bool.decide_eq_true, Z3h, Z3k, Z3j, Z2n, Z1p, Z04, Z0b, Z0n, Z01, Z21, rowI, RatG.row, LocG.row, ActG.row, StepG.row, StampG.row, ActG.av, ActG.eta, RatG.eta, LocG.eta, beq_true, beq_false, Z2k, Z2t, Z2l, Z2s, Z14, Z0q, Z12, Z13, Z0p, Z0o, Z0e, List.length_set, List.length_replicate, Z06, Int.reduceToNat, evLen, Z29, Z40, Src.all, Src.len, Src.leaf, Src.leafN, Z3c, Z48, joinV, Z0l, Z0r, Z0s, Z0t, Z0u, Z0v, Z0w, Z0x, mkVec, drows, evMk, List.length_map, Z1w, Z23, List.take_length, List.take_left, List.length_append, Nat.le_add_right, ite_self, List.take_of_length_le, Z3d, intOr, Z43, Option.isSome_none, Option.isSome_some, Nat.sub_zero, loadQ, loadT, evBin, evUn, Z0y, Z0z, binT, binQ, chk, Z3u, List.contains_cons, List.contains_nil, Bool.or_false, Bool.false_or, Bool.and_self, resQ, resV, resT, pickV, Z2d, Z4a, Z3q, fnOf, Z3f, isD, HO.drow, viewT, Z3y, evEq, eqV, eqK, eqC1, Z49, Z46, Z3b, Z38, lens_I, Z3m, Z2q, Z1s, Z2p, Z1r, Z2o, Z1q, Z1t, Z10, Z11, Z0f, List.mem_cons, List.not_mem_nil, or_false, forall_eq, putRow, Z3g, get_nil, RetS, RetF, RetD, AV.frz, AV.frzL, AV.freshP, AV.freshL, DV.less, Z2g, Z1u, Z2h, Z1v, Z0h, Z07, Option.some.injEq, AV.tup.injEq, AV.agg.injEq, List.cons.injEq, DV.list.injEq, List.isEmpty_nil, Nat.le_refl, AV.d.injEq, DV.int.injEq, DV.bool.injEq, ↓reduceIte, Nat.reduceEqDiff, Nat.reduceAdd, Nat.reduceBEq, List.length_cons, List.length_nil, List.replicate_succ, List.replicate_zero, List.nil_append, List.cons_append, List.append_nil, List.foldl_cons, List.foldl_nil, List.map_cons, List.map_nil, List.all_cons, List.all_nil, List.set_cons_zero, List.set_cons_succ, List.getD_cons_zero, List.getD_cons_succ, List.drop_zero, List.drop_succ_cons, List.take_succ_cons, List.take_zero, List.flatten_cons, List.flatten_nil, Bool.true_and, Bool.and_true, Bool.not_true, Bool.not_false, true_and, and_true, true_or, or_true, Option.bind_some, Option.map_some, decide_true, decide_false, beq_self_eq_true, true_implies, false_implies, implies_true, not_true_eq_false, not_false_eq_true, and_self, Bool.and_false, Bool.false_and, Nat.reduceLT, Nat.reduceLeDiff, List.reverse_cons, List.reverse_nil, Nat.zero_add, Nat.add_zero, Bool.false_eq_true, List.getElem?_cons_zero, Nat.reduceMul, Nat.mul_one] at this
    exact this
end Go.Ago

/- Chapter 18: what the events of threads say of one another, whole. Conditions: none. -/
set_option maxRecDepth 100000
set_option linter.unusedSimpArgs false
set_option linter.unusedVariables false
namespace Go.Ago
attribute [local irreducible] vck
def memAll (l : List RunG) : Nat := (l.map fun r => memN r.evs).sum
def thr (x : XG) (runs : List RunG) (g : Bool) (n : Nat) : Nat → P8 × Nat
  | 0 => (P8.nil, n)
  | t + 1 => let r := runs.getD t default
    let s := (⟨x, runs, g, t, r.evs, r.full⟩ : WC).run ⟨(thr x runs g n t).1, -1, -1, [], (thr x runs g n t).2⟩ r.evs.length
    (s.P, s.next)
def XG.withP (x : XG) (P : P8) : XG := { x with po := (ofG x.nodes.length P.po, false), addr := (ofG x.nodes.length P.ad, false), data := (ofG x.nodes.length P.da, false), ctrl := (ofG x.nodes.length P.ct, false), fenced := (ofG x.nodes.length P.fe, false), sync := (ofG x.nodes.length P.sy, false), lwsync := (ofG x.nodes.length P.lw, false), pairs := (ofG x.nodes.length P.pa, false) }
def ef_within : EfH where
  A := XG × Nat × List RunG × Bool
  args := fun a => [.ptr 0 12 0 0, .d (.int .i64 a.2.1), .d (.list (a.2.2.1.map RunG.row) a.2.2.2)]
  os := fun a => [a.1.obj]
  ok := fun a => a.1.nodes.length ≤ 64 ∧ a.2.1 + memAll a.2.2.1 ≤ a.1.nodes.length ∧ a.2.2.1.length ≤ maxLen ∧ ∀ r ∈ a.2.2.1, r.evs.length ≤ maxLen
  val := fun _ => .tup []
  os' := fun a => [(a.1.withP (thr a.1 a.2.2.1 a.2.2.2 a.2.1 a.2.2.1.length).1).obj]
def liveT : List Nat := [0, 6, 7, 8, 9, 10, 11, 12, 13, 14, 15, 34, 35, 36]
def thSt (x : XG) (runs : List RunG) (g : Bool) (y : Nat × P8 × Nat) : State :=
  ⟨wEnv x.nodes.length y.2.2 ++ [(34, .d (.list (runs.map RunG.row) g)), (35, .d (.int .i64 runs.length)), (36, .d (.int .i64 y.1))], y.2.1.heap x.obj⟩
structure thInv (x : XG) (runs : List RunG) (g : Bool) (n : Nat) (y : Nat × P8 × Nat) : Prop where
  i : y.1 ≤ runs.length
  like : y.2.1.Like (thr x runs g n y.1).1
  nx : y.2.2 = (thr x runs g n y.1).2
  few : y.2.1.Few (y.2.2 * 64)
  next : y.2.2 + memAll (runs.drop y.1) ≤ x.nodes.length
theorem RunG.eta0 (r : RunG) : r.row = [.list (r.evs.map EvG.row) r.full, .int .i64 r.st] := rfl
theorem memAll_drop {runs : List RunG} {t : Nat} (h : t < runs.length) : memAll (runs.drop t) = memN (runs.getD t default).evs + memAll (runs.drop (t + 1)) := by
  have : runs.drop t = runs.getD t default :: runs.drop (t + 1) := by rw [List.drop_eq_getElem_cons h, List.getD_eq_getElem?_getD, List.getElem?_eq_getElem h]; rfl
  unfold memAll
  rw [this, List.map_cons, List.sum_cons]
theorem run_like {c : WC} {s r : WS} (h : s.Like r) : ∀ i, (c.run s i).Like (c.run r i)
  | 0 => h
  | i + 1 => by
    have ih := run_like (c := c) h i
    unfold WC.run
    cases hM : (c.evs.getD i default).isM with
    | false =>
      have := ev_like_no (c := c) (i := i) hM ih
      have e : (c.run s i).ev c (c.evs.getD i default) i = (c.run s i).mark (c.evs.getD i default) := by unfold WS.ev; rw [if_neg (by rw [hM]; simp)]
      rwa [e]
    | true =>
      have := ev_like_yes (c := c) (i := i) (seen := List.range (c.run s i).es.length) hM ih (fun j => List.mem_range.symm)
      have e : (c.run s i).ev c (c.evs.getD i default) i = { c.run s i with P := (c.run s i).P.many (c.wx (c.run s i) (c.evs.getD i default) i) (List.range (c.run s i).es.length), es := (c.run s i).es ++ [((i : Int), ((c.run s i).next : Int))], next := (c.run s i).next + 1 } := by unfold WS.ev; rw [if_pos hM]
      rwa [e]
theorem run_next (c : WC) (s : WS) : ∀ i, i ≤ c.evs.length → (c.run s i).next = s.next + memN (c.evs.take i)
  | 0, _ => rfl
  | i + 1, h => by
    have ih := run_next c s i (by omega)
    have e : c.evs.take (i + 1) = c.evs.take i ++ [c.evs.getD i default] := by rw [List.take_add_one, List.getElem?_eq_getElem (by omega), List.getD_eq_getElem?_getD, List.getElem?_eq_getElem (by omega)]; rfl
    have e2 : memN (c.evs.take (i + 1)) = memN (c.evs.take i) + (if (c.evs.getD i default).isM = true then 1 else 0) := by
      unfold memN; rw [e, List.filter_append, List.length_append, List.filter_cons]
      split <;> rfl
    unfold WC.run WS.ev
    rw [e2]
    split
    · show (c.run s i).next + 1 = _; rw [ih]; omega
    · show (c.run s i).next = _; rw [ih]; rfl
theorem ofG_like {n : Nat} {l l' : List RatG} (h : ∀ r, r ∈ l ↔ r ∈ l') : ofG n l = ofG n l' := by
  have h1 : ∀ q : RatG → Bool, l.any q = l'.any q := fun q => by
    rw [Bool.eq_iff_iff, List.any_eq_true, List.any_eq_true]
    exact ⟨fun ⟨a, b, c⟩ => ⟨a, (h a).1 b, c⟩, fun ⟨a, b, c⟩ => ⟨a, (h a).2 b, c⟩⟩
  have h2 : ofP l = ofP l' := by funext i k; unfold ofP; rw [h1]
  unfold ofG ofErr
  rw [h1, h2]
set_option maxHeartbeats 4000000 in
theorem efh_cand_within {T : Tab} {n1 n2 n3 : Nat} (k1 : Knows T n1 sp_isM) (k2 : Knows T n2 sp_prel) (k3 : KnowsG T n3 addE) : ef_within.Body T Z32 (L_cand_within n1 n2 n3) R_cand_within := by
  have F1 := k1.F; have G1 := k1.G; have F2 := k2.F; have G2 := k2.G; have G3 := k3.G
  refine ⟨fun x => Nat.le_refl 1, ?_⟩
  rintro ⟨x, n, runs, g⟩ ⟨h1, h2, h3, h4⟩
  have h1 : x.nodes.length ≤ 64 := h1
  have h2 : n + memAll runs ≤ x.nodes.length := h2
  have h3 : runs.length ≤ maxLen := h3
  have h4 : ∀ r ∈ runs, r.evs.length ≤ maxLen := h4
  unfold Z32 L_cand_within R_cand_within
  simp (maxSteps := 3000000) only [ef_within, WX.env, WX.heap, wEnv, P8.heap, Z39, Z3a, XG.obj, lsX, EvG.obj, List.cons_append, List.nil_append, ↓Z1a, ↓Z2b, ↓Z1k, ↓Z05, ↓Z2v, ↓Z2r, nilG_d, nilG_r, ↓Z1g, ↓Z19, ↓Z0d, ↓Z1l, ↓Z0m, ↓Z20, ↓Z30, ↓Z33, ↓Z24, ↓Z1j, ↓Z2m, ↓Z28, ↓Z1z, ↓Z3r, ↓retK_n, ↓Z3n, ↓Z3p, ↓Z3o, ↓Z41, ↓Z3x, ↓Z4b, ↓Z0j, ↓Z08, ↓Z1b, ↓Z0i, ↓Z1n, nf_mk, Z09, Z18, Z34, Z1c, Z37, evN, Z2i, Z1y, Z36, Z47, Z1x, Z17, Z1i, Z2u, Z2j, Z2f, Z1o, Z2c, evT, Opd.ev, Z02, Z00, Z35, Z45, Z3w, Z27, Z1m, Z2a, Z2e, Z3l, Z1d, Z0c, Z3e, LOp.isNew, State.prune, Z3t, Z31, AV.leaf, Heap.at, Z0k, Z0a, Z1h, Z0g, Z03, idx_I, idx_W, rowW, Z26, Z2w, Z22, Z1e, rowB, Z2y, Z2x, rowN, lens_W, Z3s, Z1f, Z15, w_or, w_and, Z2z, Z4d, w_shl, Z4c, w_shr, Z4e, w_neg, w_add, w_bit, w_eq0, w_eq1, w_eq, Bool.decide_eq_true, Z3h, Z3k, Z3j, Z2n, Z1p, Z04, Z0b, Z0n, Z01, Z21, rowI, RatG.row, LocG.row, ActG.row, StepG.row, StampG.row, ActG.av, ActG.eta, RatG.eta, LocG.eta, beq_true, beq_false, Z2k, Z2t, Z2l, Z2s, Z14, Z0q, Z12, Z13, Z0p, Z0o, Z0e, List.length_set, List.length_replicate, Z06, Int.reduceToNat, evLen, Z29, Z40, Src.all, Src.len, Src.leaf, Src.leafN, Z3c, Z48, joinV, Z0l, Z0r, Z0s, Z0t, Z0u, Z0v, Z0w, Z0x, mkVec, drows, evMk, List.length_map, Z1w, Z23, List.take_length, List.take_left, List.length_append, Nat.le_add_right, ite_self, List.take_of_length_le, Z3d, intOr, Z43, Option.isSome_none, Option.isSome_some, Nat.sub_zero, loadQ, loadT, evBin, evUn, Z0y, Z0z, binT, binQ, chk, Z3u, List.contains_cons, List.contains_nil, Bool.or_false, Bool.false_or, Bool.and_self, resQ, resV, resT, pickV, Z2d, Z4a, Z3q, fnOf, Z3f, isD, HO.drow, viewT, Z3y, evEq, eqV, eqK, eqC1, Z49, Z46, Z3b, Z38, lens_I, Z3m, Z2q, Z1s, Z2p, Z1r, Z2o, Z1q, Z1t, Z10, Z11, Z0f, List.mem_cons, List.not_mem_nil, or_false, forall_eq, putRow, Z3g, get_nil, RetS, RetF, RetD, AV.frz, AV.frzL, AV.freshP, AV.freshL, DV.less, Z2g, Z1u, Z2h, Z1v, Z0h, Z07, Option.some.injEq, AV.tup.injEq, AV.agg.injEq, List.cons.injEq, DV.list.injEq, List.isEmpty_nil, Nat.le_refl, AV.d.injEq, DV.int.injEq, DV.bool.injEq, ↓reduceIte, Nat.reduceEqDiff, Nat.reduceAdd, Nat.reduceBEq, List.length_cons, List.length_nil, List.replicate_succ, List.replicate_zero, List.nil_append, List.cons_append, List.append_nil, List.foldl_cons, List.foldl_nil, List.map_cons, List.map_nil, List.all_cons, List.all_nil, List.set_cons_zero, List.set_cons_succ, List.getD_cons_zero, List.getD_cons_succ, List.drop_zero, List.drop_succ_cons, List.take_succ_cons, List.take_zero, List.flatten_cons, List.flatten_nil, Bool.true_and, Bool.and_true, Bool.not_true, Bool.not_false, true_and, and_true, true_or, or_true, Option.bind_some, Option.map_some, decide_true, decide_false, beq_self_eq_true, true_implies, false_implies, implies_true, not_true_eq_false, not_false_eq_true, and_self, Bool.and_false, Bool.false_and, Nat.reduceLT, Nat.reduceLeDiff, List.reverse_cons, List.reverse_nil, Nat.zero_add, Nat.add_zero, Bool.false_eq_true, List.getElem?_cons_zero, Nat.reduceMul, Nat.mul_one, F1, G1, at_isM, F2, G2, at_prel]
  refine Loop.nilcell 1 2 rfl (by simp) ?_
  simp only [List.length_cons, List.length_nil, List.cons_append, List.nil_append, List.set_cons_zero, List.set_cons_succ]
  refine Loop.nilcell 2 2 rfl (by simp) ?_
  simp only [List.length_cons, List.length_nil, List.cons_append, List.nil_append, List.set_cons_zero, List.set_cons_succ]
  refine Loop.nilcell 3 2 rfl (by simp) ?_
  simp only [List.length_cons, List.length_nil, List.cons_append, List.nil_append, List.set_cons_zero, List.set_cons_succ]
  refine Loop.nilcell 4 2 rfl (by simp) ?_
  simp only [List.length_cons, List.length_nil, List.cons_append, List.nil_append, List.set_cons_zero, List.set_cons_succ]
  refine Loop.nilcell 5 2 rfl (by simp) ?_
  simp only [List.length_cons, List.length_nil, List.cons_append, List.nil_append, List.set_cons_zero, List.set_cons_succ]
  refine Loop.nilcell 6 2 rfl (by simp) ?_
  simp only [List.length_cons, List.length_nil, List.cons_append, List.nil_append, List.set_cons_zero, List.set_cons_succ]
  refine Loop.nilcell 7 2 rfl (by simp) ?_
  simp only [List.length_cons, List.length_nil, List.cons_append, List.nil_append, List.set_cons_zero, List.set_cons_succ]
  refine Loop.nilcell 8 2 rfl (by simp) ?_
  simp only [List.length_cons, List.length_nil, List.cons_append, List.nil_append, List.set_cons_zero, List.set_cons_succ]
  refine Loop.fam1 liveT (thSt x runs g) (thInv x runs g n) (fun y => runs.length - y.1) (0, P8.nil, n) [0, 1, 2, 3, 4, 5, 6, 7, 8, 9, 10, 11, 12, 13, 14, 15, 16] (by decide) (by simp) (by simp only [List.length_cons, List.length_nil, List.cons_append, List.nil_append, List.set_cons_zero, List.set_cons_succ, State.can, AV.can, AV.canL, HO.can, Z25, idx, Z02, Z00, Heap.at, Nat.reduceBEq, ↓reduceIte, Nat.reduceEqDiff, Option.getD_some, Option.map_some, List.map_cons, List.map_nil, List.getD_cons_zero, List.getD_cons_succ, liveT, thSt, P8.nil, WX.env, WX.heap, wEnv, P8.heap, Z39, Z3a, XG.obj, lsX, EvG.obj, List.cons_append, List.nil_append]; rfl) ⟨Nat.zero_le _, P8.Like.refl _, rfl, ⟨Nat.zero_le _, Nat.zero_le _, Nat.zero_le _, Nat.zero_le _, Nat.zero_le _, Nat.zero_le _, Nat.zero_le _, Nat.zero_le _⟩, h2⟩ ?_
  rintro ⟨t, P, next⟩ hI
  simp (maxSteps := 3000000) only [thSt, WX.env, WX.heap, wEnv, P8.heap, Z39, Z3a, XG.obj, lsX, EvG.obj, List.cons_append, List.nil_append, ↓Z1a, ↓Z2b, ↓Z1k, ↓Z05, ↓Z2v, ↓Z2r, nilG_d, nilG_r, ↓Z1g, ↓Z19, ↓Z0d, ↓Z1l, ↓Z0m, ↓Z20, ↓Z30, ↓Z33, ↓Z24, ↓Z1j, ↓Z2m, ↓Z28, ↓Z1z, ↓Z3r, ↓retK_n, ↓Z3n, ↓Z3p, ↓Z3o, ↓Z41, ↓Z3x, ↓Z4b, ↓Z0j, ↓Z08, ↓Z1b, ↓Z0i, ↓Z1n, nf_mk, Z09, Z18, Z34, Z1c, Z37, evN, Z2i, Z1y, Z36, Z47, Z1x, Z17, Z1i, Z2u, Z2j, Z2f, Z1o, Z2c, evT, Opd.ev, Z02, Z00, Z35, Z45, Z3w, Z27, Z1m, Z2a, Z2e, Z3l, Z1d, Z0c, Z3e, LOp.isNew, State.prune, Z3t, Z31, AV.leaf, Heap.at, Z0k, Z0a, Z1h, Z0g, Z03, idx_I, idx_W, rowW, Z26, Z2w, Z22, Z1e, rowB, Z2y, Z2x, rowN, lens_W, Z3s, Z1f, Z15, w_or, w_and, Z2z, Z4d, w_shl, Z4c, w_shr, Z4e, w_neg, w_add, w_bit, w_eq0, w_eq1, w_eq, Bool.decide_eq_true, Z3h, Z3k, Z3j, Z2n, Z1p, Z04, Z0b, Z0n, Z01, Z21, rowI, RatG.row, LocG.row, ActG.row, StepG.row, StampG.row, ActG.av, ActG.eta, RatG.eta, LocG.eta, beq_true, beq_false, Z2k, Z2t, Z2l, Z2s, Z14, Z0q, Z12, Z13, Z0p, Z0o, Z0e, List.length_set, List.length_replicate, Z06, Int.reduceToNat, evLen, Z29, Z40, Src.all, Src.len, Src.leaf, Src.leafN, Z3c, Z48, joinV, Z0l, Z0r, Z0s, Z0t, Z0u, Z0v, Z0w, Z0x, mkVec, drows, evMk, List.length_map, Z1w, Z23, List.take_length, List.take_left, List.length_append, Nat.le_add_right, ite_self, List.take_of_length_le, Z3d, intOr, Z43, Option.isSome_none, Option.isSome_some, Nat.sub_zero, loadQ, loadT, evBin, evUn, Z0y, Z0z, binT, binQ, chk, Z3u, List.contains_cons, List.contains_nil, Bool.or_false, Bool.false_or, Bool.and_self, resQ, resV, resT, pickV, Z2d, Z4a, Z3q, fnOf, Z3f, isD, HO.drow, viewT, Z3y, evEq, eqV, eqK, eqC1, Z49, Z46, Z3b, Z38, lens_I, Z3m, Z2q, Z1s, Z2p, Z1r, Z2o, Z1q, Z1t, Z10, Z11, Z0f, List.mem_cons, List.not_mem_nil, or_false, forall_eq, putRow, Z3g, get_nil, RetS, RetF, RetD, AV.frz, AV.frzL, AV.freshP, AV.freshL, DV.less, Z2g, Z1u, Z2h, Z1v, Z0h, Z07, Option.some.injEq, AV.tup.injEq, AV.agg.injEq, List.cons.injEq, DV.list.injEq, List.isEmpty_nil, Nat.le_refl, AV.d.injEq, DV.int.injEq, DV.bool.injEq, ↓reduceIte, Nat.reduceEqDiff, Nat.reduceAdd, Nat.reduceBEq, List.length_cons, List.length_nil, List.replicate_succ, List.replicate_zero, List.nil_append, List.cons_append, List.append_nil, List.foldl_cons, List.foldl_nil, List.map_cons, List.map_nil, List.all_cons, List.all_nil, List.set_cons_zero, List.set_cons_succ, List.getD_cons_zero, List.getD_cons_succ, List.drop_zero, List.drop_succ_cons, List.take_succ_cons, List.take_zero, List.flatten_cons, List.flatten_nil, Bool.true_and, Bool.and_true, Bool.not_true, Bool.not_false, true_and, and_true, true_or, or_true, Option.bind_some, Option.map_some, decide_true, decide_false, beq_self_eq_true, true_implies, false_implies, implies_true, not_true_eq_false, not_false_eq_true, and_self, Bool.and_false, Bool.false_and, Nat.reduceLT, Nat.reduceLeDiff, List.reverse_cons, List.reverse_nil, Nat.zero_add, Nat.add_zero, Bool.false_eq_true, List.getElem?_cons_zero, Nat.reduceMul, Nat.mul_one, idx_Run, RunG.eta0, F1, G1, at_isM, F2, G2, at_prel, famK1_n, famK1_x, famK1_r]
  obtain ⟨i1, i2, i3, i4, i5⟩ := hI
  have i1 : t ≤ runs.length := i1
  have i2 : P.Like (thr x runs g n t).1 := i2
  have i3 : next = (thr x runs g n t).2 := i3
  have i4 : P.Few (next * 64) := i4
  have i5 : next + memAll (runs.drop t) ≤ x.nodes.length := i5
  have ⟨q1, q2, q3, q4, q5, q6, q7, q8⟩ := i4
  have hm : maxLen = 9223372036854775807 := rfl
  refine ⟨fun ht => ⟨⟨by omega, by omega⟩, ?_⟩, fun ht => ⟨by omega, by omega, by omega, by omega, by omega, by omega, by omega, by omega, ?_⟩⟩
  · have ht : t < runs.length := by omega
    have hin : runs.getD t default ∈ runs := by
      rw [List.getD_eq_getElem?_getD, List.getElem?_eq_getElem ht]; exact List.getElem_mem ht
    have hr := h4 _ hin
    have hdrop : memAll (runs.drop t) = memN (runs.getD t default).evs + memAll (runs.drop (t + 1)) := memAll_drop ht
    refine w_evs k1 k3 ⟨x, runs, g, t, (runs.getD t default).evs, (runs.getD t default).full⟩ ⟨P, -1, -1, [], next⟩ h1 hr ⟨Nat.zero_le _, ⟨P8.Like.refl _, rfl, rfl, rfl, rfl⟩, i4, fun i hi => by simp at hi, Nat.zero_le _, ?_⟩ _ _ [0, 1, 2, 3, 4, 5, 6, 7, 8, 9, 10, 11, 12, 13, 14, 15, 16, 18] (by decide) (by simp) (by simp only [liveE, evSt, WX.env, WX.heap, wEnv, P8.heap, Z39, Z3a, XG.obj, lsX, EvG.obj, List.cons_append, List.nil_append, State.can, AV.can, AV.canL, HO.can, Z25, idx, Z02, Z00, Heap.at, Nat.reduceBEq, ↓reduceIte, Nat.reduceEqDiff, Option.getD_some, Option.map_some, List.map_cons, List.map_nil, List.getD_cons_zero, List.getD_cons_succ]; rfl) rfl (fun s hs => ?_)
    · show next + memN ((runs.getD t default).evs.drop 0) ≤ x.nodes.length
      rw [List.drop_zero]; omega
    · obtain ⟨Q, fe, li, es, nx⟩ := s
      obtain ⟨j1, ⟨l1, l2, l3, l4, l5⟩, j3, j4, j5, j6⟩ := hs
      unfold evK Z32
      simp (maxSteps := 3000000) only [evSt, WX.env, WX.heap, wEnv, P8.heap, Z39, Z3a, XG.obj, lsX, EvG.obj, List.cons_append, List.nil_append, ↓Z1a, ↓Z2b, ↓Z1k, ↓Z05, ↓Z2v, ↓Z2r, nilG_d, nilG_r, ↓Z1g, ↓Z19, ↓Z0d, ↓Z1l, ↓Z0m, ↓Z20, ↓Z30, ↓Z33, ↓Z24, ↓Z1j, ↓Z2m, ↓Z28, ↓Z1z, ↓Z3r, ↓retK_n, ↓Z3n, ↓Z3p, ↓Z3o, ↓Z41, ↓Z3x, ↓Z4b, ↓Z0j, ↓Z08, ↓Z1b, ↓Z0i, ↓Z1n, nf_mk, Z09, Z18, Z34, Z1c, Z37, evN, Z2i, Z1y, Z36, Z47, Z1x, Z17, Z1i, Z2u, Z2j, Z2f, Z1o, Z2c, evT, Opd.ev, Z02, Z00, Z35, Z45, Z3w, Z27, Z1m, Z2a, Z2e, Z3l, Z1d, Z0c, Z3e, LOp.isNew, State.prune, Z3t, Z31, AV.leaf, Heap.at, Z0k, Z0a, Z1h, Z0g, Z03, idx_I, idx_W, rowW, Z26, Z2w, Z22, Z1e, rowB, Z2y, Z2x, rowN, lens_W, Z3s, Z1f, Z15, w_or, w_and, Z2z, Z4d, w_shl, Z4c, w_shr, Z4e, w_neg, w_add, w_bit, w_eq0, w_eq1, w_eq, Bool.decide_eq_true, Z3h, Z3k, Z3j, Z2n, Z1p, Z04, Z0b, Z0n, Z01, Z21, rowI, RatG.row, LocG.row, ActG.row, StepG.row, StampG.row, ActG.av, ActG.eta, RatG.eta, LocG.eta, beq_true, beq_false, Z2k, Z2t, Z2l, Z2s, Z14, Z0q, Z12, Z13, Z0p, Z0o, Z0e, List.length_set, List.length_replicate, Z06, Int.reduceToNat, evLen, Z29, Z40, Src.all, Src.len, Src.leaf, Src.leafN, Z3c, Z48, joinV, Z0l, Z0r, Z0s, Z0t, Z0u, Z0v, Z0w, Z0x, mkVec, drows, evMk, List.length_map, Z1w, Z23, List.take_length, List.take_left, List.length_append, Nat.le_add_right, ite_self, List.take_of_length_le, Z3d, intOr, Z43, Option.isSome_none, Option.isSome_some, Nat.sub_zero, loadQ, loadT, evBin, evUn, Z0y, Z0z, binT, binQ, chk, Z3u, List.contains_cons, List.contains_nil, Bool.or_false, Bool.false_or, Bool.and_self, resQ, resV, resT, pickV, Z2d, Z4a, Z3q, fnOf, Z3f, isD, HO.drow, viewT, Z3y, evEq, eqV, eqK, eqC1, Z49, Z46, Z3b, Z38, lens_I, Z3m, Z2q, Z1s, Z2p, Z1r, Z2o, Z1q, Z1t, Z10, Z11, Z0f, List.mem_cons, List.not_mem_nil, or_false, forall_eq, putRow, Z3g, get_nil, RetS, RetF, RetD, AV.frz, AV.frzL, AV.freshP, AV.freshL, DV.less, Z2g, Z1u, Z2h, Z1v, Z0h, Z07, Option.some.injEq, AV.tup.injEq, AV.agg.injEq, List.cons.injEq, DV.list.injEq, List.isEmpty_nil, Nat.le_refl, AV.d.injEq, DV.int.injEq, DV.bool.injEq, ↓reduceIte, Nat.reduceEqDiff, Nat.reduceAdd, Nat.reduceBEq, List.length_cons, List.length_nil, List.replicate_succ, List.replicate_zero, List.nil_append, List.cons_append, List.append_nil, List.foldl_cons, List.foldl_nil, List.map_cons, List.map_nil, List.all_cons, List.all_nil, List.set_cons_zero, List.set_cons_succ, List.getD_cons_zero, List.getD_cons_succ, List.drop_zero, List.drop_succ_cons, List.take_succ_cons, List.take_zero, List.flatten_cons, List.flatten_nil, Bool.true_and, Bool.and_true, Bool.not_true, Bool.not_false, true_and, and_true, true_or, or_true, Option.bind_some, Option.map_some, decide_true, decide_false, beq_self_eq_true, true_implies, false_implies, implies_true, not_true_eq_false, not_false_eq_true, and_self, Bool.and_false, Bool.false_and, Nat.reduceLT, Nat.reduceLeDiff, List.reverse_cons, List.reverse_nil, Nat.zero_add, Nat.add_zero, Bool.false_eq_true, List.getElem?_cons_zero, Nat.reduceMul, Nat.mul_one, famK1_n, famK1_x, famK1_r]
      rw [wrap_succ ht h3]
      have hl : (⟨P, -1, -1, [], next⟩ : WS).Like ⟨(thr x runs g n t).1, -1, -1, [], (thr x runs g n t).2⟩ := ⟨i2, rfl, rfl, rfl, i3⟩
      have hrl := run_like (c := ⟨x, runs, g, t, (runs.getD t default).evs, (runs.getD t default).full⟩) hl (runs.getD t default).evs.length
      refine FamN1.mk [0, 1, 2, 3, 4, 5, 6, 7, 8, 9, 10, 11, 12, 13, 14, 15, 16] (t + 1, Q, nx) (by decide) (by simp) (by simp only [liveT, thSt, WX.env, WX.heap, wEnv, P8.heap, Z39, Z3a, XG.obj, lsX, EvG.obj, List.cons_append, List.nil_append, State.can, AV.can, AV.canL, HO.can, Z25, idx, Z02, Z00, Heap.at, Nat.reduceBEq, ↓reduceIte, Nat.reduceEqDiff, Option.getD_some, Option.map_some, List.map_cons, List.map_nil, List.getD_cons_zero, List.getD_cons_succ]) ⟨ht, fun k r => (l1 k r).trans (hrl.P k r), l5.trans hrl.next, j3, ?_⟩ (by show runs.length - (t + 1) < runs.length - t; omega)
      have j6 : nx + memN ((runs.getD t default).evs.drop (runs.getD t default).evs.length) ≤ x.nodes.length := j6
      have l5 : nx = _ := l5
      show nx + memAll (runs.drop (t + 1)) ≤ x.nodes.length
      have e1 := run_next ⟨x, runs, g, t, (runs.getD t default).evs, (runs.getD t default).full⟩ ⟨P, -1, -1, [], next⟩ (runs.getD t default).evs.length (Nat.le_refl _)
      have e2 : memN ((runs.getD t default).evs.take (runs.getD t default).evs.length) = memN (runs.getD t default).evs := by rw [List.take_length]
      have e1 : _ = next + memN ((runs.getD t default).evs.take (runs.getD t default).evs.length) := e1
      rw [e2] at e1
      rw [l5, e1]
      omega
  · have : t = runs.length := by omega
    subst this
    have e0 := ofG_like (n := x.nodes.length) (fun r => i2 0 r)
    have e1 := ofG_like (n := x.nodes.length) (fun r => i2 1 r)
    have e2 := ofG_like (n := x.nodes.length) (fun r => i2 2 r)
    have e3 := ofG_like (n := x.nodes.length) (fun r => i2 3 r)
    have e4 := ofG_like (n := x.nodes.length) (fun r => i2 4 r)
    have e5 := ofG_like (n := x.nodes.length) (fun r => i2 5 r)
    have e6 := ofG_like (n := x.nodes.length) (fun r => i2 6 r)
    have e7 := ofG_like (n := x.nodes.length) (fun r => i2 7 r)
    simp only [P8.get] at e0 e1 e2 e3 e4 e5 e6 e7
    rw [e0, e1, e2, e3, e4, e5, e6, e7]
    exact RetG.mk [0] (by simp) (by simp) (fun i hi => by have : i = 0 := by omega
                                                          subst this; rfl) rfl (by simp only [State.can, AV.can, AV.canL, HO.can, Z25, idx, Z02, Z00, Heap.at, Nat.reduceBEq, ↓reduceIte, Nat.reduceEqDiff, Option.getD_some, Option.map_some, List.map_cons, List.map_nil, List.getD_cons_zero, List.getD_cons_succ, XG.withP])
end Go.Ago

/- Relations that package power is handed, as data. Conditions: none. -/
set_option linter.unusedSimpArgs false
set_option linter.unusedVariables false
namespace Go.Ago
theorem bodyD_rel_Then {T : Tab} {n1 n2 n3 : Nat} (k1 : Knows T n1 sp_size) (k2 : Knows T n2 sp_row) (k3 : Knows T n3 sp_tz) : (Sp.dat sp_Then).Body T V_rel_Then (L_rel_Then n1 n2 n3) R_rel_Then :=
  (body_rel_Then k1 k2 k3).dat (fun x ok sz l h => by simp only [sp_Then, SpecR.rows.injEq] at h; rw [← h.2.2]; exact scal_W)
theorem bodyD_rel_Back {T : Tab} {n1 n2 n3 : Nat} (k1 : Knows T n1 sp_size) (k2 : Knows T n2 sp_row) (k3 : Knows T n3 sp_tz) : (Sp.dat sp_Back).Body T V_rel_Back (L_rel_Back n1 n2 n3) R_rel_Back :=
  (body_rel_Back k1 k2 k3).dat (fun x ok sz l h => by simp only [sp_Back, SpecR.rows.injEq] at h; rw [← h.2.2]; exact scal_W)
end Go.Ago

/- Chapter 18: Build. Conditions: none. -/
set_option maxRecDepth 100000
set_option linter.unusedSimpArgs false
set_option linter.unusedVariables false
namespace Go.Ago
attribute [local irreducible] vck
theorem XG.av_obj {x y : XG} (h : x.obj = y.obj) : x = y := by
  unfold XG.obj at h
  simp only [HO.vec.injEq, true_and, List.cons.injEq, and_true] at h
  apply XG.av_inj
  simp only [XG.av, AV.agg.injEq, List.cons.injEq, and_true]
  exact h
theorem XG.obj_ren (x : XG) (φ : Nat → Nat) : x.obj.ren φ = x.obj := by simp [XG.obj, HO.ren, AV.ren]
theorem within_pick {H : Heap} {id n : Nat} {x : XG} {runs : List RunG} {g : Bool} (h : H.at id = x.obj) : ef_within.pick [.ptr id 12 0 0, .d (.int .i64 (n : Int)), .d (.list (runs.map RunG.row) g)] H =
    some ⟨x.nodes.length ≤ 64 ∧ n + memAll runs ≤ x.nodes.length ∧ runs.length ≤ maxLen ∧ ∀ r ∈ runs, r.evs.length ≤ maxLen, .tup [], [(id, (x.withP (thr x runs g n runs.length).1).obj)], [], none⟩ := by
  have hlt : id < H.length := Heap.at_lt (by rw [h]; trivial)
  have := EfH.pick_fits (e := ef_within) (p := ((x, n, runs, g), [id])) (args := [.ptr id 12 0 0, .d (.int .i64 (n : Int)), .d (.list (runs.map RunG.row) g)]) (H := H) (fun q hq => ?_) ⟨by simp, rfl, by simpa using hlt, fun k hk => ?_, ?_⟩
  · rw [this]
    simp [EfH.eff, ef_within, XG.obj_ren, AV.ren, AV.renL]
  · obtain ⟨⟨x', n', runs', g'⟩, ids⟩ := q
    obtain ⟨h1, h2, h3, h4, h5⟩ := hq
    have h2 : ids.length = 1 := h2
    obtain ⟨j, rfl⟩ := List.length_eq_one_iff.1 h2
    have e0 : into H [j] 0 = j := rfl
    simp only [ef_within, List.map_cons, List.map_nil, AV.ren, e0, List.cons.injEq, AV.ptr.injEq, AV.d.injEq, DV.int.injEq, DV.list.injEq, and_true, true_and] at h5
    obtain ⟨rfl, h6, h7, h8⟩ := h5
    have h4 := h4 0 (by simp)
    have h4 : H.at id = x'.obj.ren (into H [id]) := h4
    rw [XG.obj_ren, h] at h4
    have := XG.av_obj h4
    rw [this, Z3i RunG.row_inj h7, h8]
    have : n' = n := by omega
    rw [this]
  · have : k = 0 := by simpa using hk
    subst this
    show H.at id = x.obj.ren _
    rw [XG.obj_ren, h]
  · simp [ef_within, AV.ren, into]
def XG.zero (f : Bool) : XG := ⟨[], f, ([], f), ([], f), ([], f), ([], f), ([], f), ([], f), ([], f), ([], f), ([], f), ([], f), ([], f)⟩
def XG.none : XG := XG.zero false
def x0G (D : List NodeG) (rd fo : List RatG) : XG := { XG.zero true with nodes := D, nf := false, rf := (ofG D.length rd, false), co := (ofG D.length fo, false), fr := (thenG (backG (ofG D.length rd)) (ofG D.length fo), false) }
def cbuildG (l : List LocG) (runs : List RunG) (g : Bool) (fr : List Int) (order : List (List Int × Bool)) : XG × Int :=
  if (nodesG l runs).2 ≠ 0 then (XG.none, (nodesG l runs).2) else
  let D := (nodesG l runs).1
  if (readN D fr).2 = false ∨ (followN D l.length order).2 = false then (XG.none, 3) else
  let x := x0G D (readN D fr).1 (followN D l.length order).1
  (x.withP (thr x runs g l.length runs.length).1, 0)
def sp_CBuild : Sp := ⟨List LocG × Bool × List RunG × Bool × List Int × Bool × List (List Int × Bool) × Bool,
  fun x => [.d (.list (x.1.map LocG.row) x.2.1), .d (.list (x.2.2.1.map RunG.row) x.2.2.2.1), .d (.list (x.2.2.2.2.1.map rowI) x.2.2.2.2.2.1), .d (.list (x.2.2.2.2.2.2.1.map rowLI) x.2.2.2.2.2.2.2)],
  fun x => .data (smallR x.2.2.1 ∧ smallO x.2.2.2.2.2.2.1) (.tup [(cbuildG x.1 x.2.2.1 x.2.2.2.1 x.2.2.2.2.1 x.2.2.2.2.2.2.1).1.av, .d (.int .i64 (cbuildG x.1 x.2.2.1 x.2.2.2.1 x.2.2.2.2.1 x.2.2.2.2.2.2.1).2)]) false⟩
theorem at_CBuild (l : List LocG) (f : Bool) (runs : List RunG) (g : Bool) (fr : List Int) (h : Bool) (order : List (List Int × Bool)) (k : Bool) : sp_CBuild.at [.d (.list (l.map LocG.row) f), .d (.list (runs.map RunG.row) g), .d (.list (fr.map rowI) h), .d (.list (order.map rowLI) k)] =
    .data (smallR runs ∧ smallO order) (.tup [(cbuildG l runs g fr order).1.av, .d (.int .i64 (cbuildG l runs g fr order).2)]) false :=
  Sp.at_enc (s := sp_CBuild) (fun x y h => by
    obtain ⟨a, b, c, d, e, f, g, i⟩ := x; obtain ⟨a', b', c', d', e', f', g', i'⟩ := y
    simp only [sp_CBuild, List.cons.injEq, AV.d.injEq, DV.list.injEq, and_true] at h
    obtain ⟨⟨h1, h2⟩, ⟨h3, h4⟩, ⟨h5, h6⟩, h7, h8⟩ := h
    rw [Z3i LocG.row_inj h1, h2, Z3i RunG.row_inj h3, h4, Z3i rowI_inj h5, h6, Z3i rowLI_inj h7, h8]) (l, f, runs, g, fr, h, order, k)
theorem rdN_len {D : List NodeG} {fr : List Int} : ∀ {i : Nat} {r : List Int} {ps : List RatG}, rdN D fr i = some (r, ps) → ps.length ≤ i
  | 0, r, ps, h => by
    have : (fr, []) = (r, ps) := Option.some.inj h
    rw [← (Prod.mk.inj this).2]; exact Nat.zero_le _
  | i + 1, r, ps, h => by
    unfold rdN at h
    cases e : rdN D fr i with
    | none => rw [e] at h; cases h
    | some x =>
      obtain ⟨r', ps'⟩ := x
      have ih := rdN_len e
      rw [e] at h
      simp only at h
      split at h
      · cases r' with
        | nil => cases h
        | cons w r' =>
          simp only at h
          split at h
          · rw [← (Prod.mk.inj (Option.some.inj h)).2, List.length_append, List.length_singleton]; omega
          · cases h
      · rw [← (Prod.mk.inj (Option.some.inj h)).2]; omega
theorem readN_len (D : List NodeG) (fr : List Int) : (readN D fr).1.length ≤ D.length := by
  unfold readN
  split
  · exact Nat.zero_le _
  · rename_i h; exact rdN_len h
theorem coN_len {D : List NodeG} {n : Nat} {order : List (List Int × Bool)} (hD : D.length ≤ 64) : ∀ {t : Nat} {ps : List RatG}, coN D n order t = some ps → ps.length ≤ 4225 * t
  | 0, ps, h => by rw [← Option.some.inj h]; exact Nat.zero_le _
  | t + 1, ps, h => by
    unfold coN at h
    cases e : coN D n order t with
    | none => rw [e] at h; cases h
    | some x =>
      have ih := coN_len hD e
      rw [e] at h
      simp only at h
      split at h
      · rename_i hs
        have hw := wantN_le D n t (D.length - n)
        have hl : (order.getD t default).1.length ≤ 64 := by rw [← sortI_len, hs]; omega
        have hp := pairF_le t (order.getD t default).1 (order.getD t default).1.length
        have := Nat.mul_le_mul hl (show (order.getD t default).1.length + 1 ≤ 65 by omega)
        rw [← Option.some.inj h, List.length_append]; omega
      · cases h
theorem followN_len {D : List NodeG} {n : Nat} (hD : D.length ≤ 64) (order : List (List Int × Bool)) : (followN D n order).1.length ≤ 4225 * n := by
  unfold followN
  split
  · exact Nat.zero_le _
  · split
    · exact Nat.zero_le _
    · rename_i h; exact coN_len hD h
theorem keptN_len (runs : List RunG) : ∀ t, t ≤ runs.length → (keptN runs t).length = memAll (runs.take t)
  | 0, _ => rfl
  | t + 1, h => by
    have e : runs.take (t + 1) = runs.take t ++ [runs.getD t default] := by rw [List.take_add_one, List.getElem?_eq_getElem (by omega), List.getD_eq_getElem?_getD, List.getElem?_eq_getElem (by omega)]; rfl
    rw [keptN_succ, List.length_append, keptN_len runs t (by omega), e]
    unfold memAll keepN memN
    rw [List.map_append, List.sum_append, List.length_map]
    simp
theorem nodesAll_len (l : List LocG) (runs : List RunG) : (nodesAll l runs).length = l.length + memAll runs := by
  unfold nodesAll
  rw [List.length_append, initNL_len, keptN_len runs _ (Nat.le_refl _), List.take_length]
structure NodesOk (l : List LocG) (runs : List RunG) : Prop where
  eq : (nodesG l runs).1 = nodesAll l runs
  ls : l.length ≤ 16
  rs : runs.length ≤ 3
  right : rightN l runs = true
  len : (nodesAll l runs).length ≤ 64
theorem nodesOk {l : List LocG} {runs : List RunG} (h : (nodesG l runs).2 = 0) : NodesOk l runs := by
  unfold nodesG at h
  split at h
  · cases h
  · rename_i h1
    split at h
    · cases h
    · rename_i h2
      split at h
      · cases h
      · rename_i h3
        refine ⟨?_, by omega, by omega, by simpa using h2, by omega⟩
        unfold nodesG
        rw [if_neg h1, if_neg h2, if_neg h3]
theorem ofG_le18 (n : Nat) (l : List RatG) : (ofG n l).length ≤ n := by
  unfold ofG
  split
  · rw [mkR_len]; exact Nat.le_refl _
  · exact Nat.zero_le _
set_option maxHeartbeats 4000000 in
theorem body_cand_Build {T : Tab} {n1 n2 n3 n4 n5 n6 n7 : Nat} (k1 : Knows T n1 sp_Nodes) (k2 : Knows T n2 sp_readN) (k3 : Knows T n3 sp_followN) (k4 : Knows T n4 sp_prel) (k5 : Knows T n5 sp_Then.dat) (k6 : Knows T n6 sp_Back.dat) (k7 : KnowsG T n7 ef_within.pick) :
    sp_CBuild.Body T V_cand_Build (L_cand_Build n1 n2 n3 n4 n5 n6 n7) R_cand_Build := by
  have F1 := k1.F; have G1 := k1.G; have F2 := k2.F; have G2 := k2.G; have F3 := k3.F; have G3 := k3.G; have F4 := k4.F; have G4 := k4.G; have F5 := k5.F; have G5 := k5.G; have F6 := k6.F; have G6 := k6.G
  have G7 := k7.G
  rintro ⟨l, f, runs, g, fr, h, order, k⟩ ⟨hR, hO⟩
  have hR : smallR runs := hR
  have hO : smallO order := hO
  refine ⟨rfl, ?_⟩
  unfold V_cand_Build L_cand_Build R_cand_Build
  simp (maxSteps := 3000000) only [↓Z1a, ↓Z2b, ↓Z1k, ↓Z05, ↓Z2v, ↓Z2r, nilG_d, nilG_r, ↓Z1g, ↓Z19, ↓Z0d, ↓Z1l, ↓Z0m, ↓Z20, ↓Z30, ↓Z33, ↓Z24, ↓Z1j, ↓Z2m, ↓Z28, ↓Z1z, ↓Z3r, ↓retK_n, ↓Z3n, ↓Z3p, ↓Z3o, ↓Z41, ↓Z3x, ↓Z4b, ↓Z0j, ↓Z08, ↓Z1b, ↓Z0i, ↓Z1n, nf_mk, Z09, Z18, Z34, Z1c, Z37, evN, Z2i, Z1y, Z36, Z47, Z1x, Z17, Z1i, Z2u, Z2j, Z2f, Z1o, Z2c, evT, Opd.ev, Z02, Z00, Z35, Z45, Z3w, Z27, Z1m, Z2a, Z2e, Z3l, Z1d, Z0c, Z3e, LOp.isNew, State.prune, Z3t, Z31, AV.leaf, Heap.at, Z0k, Z0a, Z1h, Z0g, Z03, idx_I, idx_W, rowW, Z26, Z2w, Z22, Z1e, rowB, Z2y, Z2x, rowN, lens_W, Z3s, Z1f, Z15, w_or, w_and, Z2z, Z4d, w_shl, Z4c, w_shr, Z4e, w_neg, w_add, w_bit, w_eq0, w_eq1, w_eq, Bool.decide_eq_true, Z3h, Z3k, Z3j, Z2n, Z1p, Z04, Z0b, Z0n, Z01, Z21, rowI, RatG.row, LocG.row, ActG.row, StepG.row, StampG.row, ActG.av, ActG.eta, RatG.eta, LocG.eta, beq_true, beq_false, Z2k, Z2t, Z2l, Z2s, Z14, Z0q, Z12, Z13, Z0p, Z0o, Z0e, List.length_set, List.length_replicate, Z06, Int.reduceToNat, evLen, Z29, Z40, Src.all, Src.len, Src.leaf, Src.leafN, Z3c, Z48, joinV, Z0l, Z0r, Z0s, Z0t, Z0u, Z0v, Z0w, Z0x, mkVec, drows, evMk, List.length_map, Z1w, Z23, List.take_length, List.take_left, List.length_append, Nat.le_add_right, ite_self, List.take_of_length_le, Z3d, intOr, Z43, Option.isSome_none, Option.isSome_some, Nat.sub_zero, loadQ, loadT, evBin, evUn, Z0y, Z0z, binT, binQ, chk, Z3u, List.contains_cons, List.contains_nil, Bool.or_false, Bool.false_or, Bool.and_self, resQ, resV, resT, pickV, Z2d, Z4a, Z3q, fnOf, Z3f, isD, HO.drow, viewT, Z3y, evEq, eqV, eqK, eqC1, Z49, Z46, Z3b, Z38, lens_I, Z3m, Z2q, Z1s, Z2p, Z1r, Z2o, Z1q, Z1t, Z10, Z11, Z0f, List.mem_cons, List.not_mem_nil, or_false, forall_eq, putRow, Z3g, get_nil, RetS, RetF, RetD, AV.frz, AV.frzL, AV.freshP, AV.freshL, DV.less, Z2g, Z1u, Z2h, Z1v, Z0h, Z07, Option.some.injEq, AV.tup.injEq, AV.agg.injEq, List.cons.injEq, DV.list.injEq, List.isEmpty_nil, Nat.le_refl, AV.d.injEq, DV.int.injEq, DV.bool.injEq, ↓reduceIte, Nat.reduceEqDiff, Nat.reduceAdd, Nat.reduceBEq, List.length_cons, List.length_nil, List.replicate_succ, List.replicate_zero, List.nil_append, List.cons_append, List.append_nil, List.foldl_cons, List.foldl_nil, List.map_cons, List.map_nil, List.all_cons, List.all_nil, List.set_cons_zero, List.set_cons_succ, List.getD_cons_zero, List.getD_cons_succ, List.drop_zero, List.drop_succ_cons, List.take_succ_cons, List.take_zero, List.flatten_cons, List.flatten_nil, Bool.true_and, Bool.and_true, Bool.not_true, Bool.not_false, true_and, and_true, true_or, or_true, Option.bind_some, Option.map_some, decide_true, decide_false, beq_self_eq_true, true_implies, false_implies, implies_true, not_true_eq_false, not_false_eq_true, and_self, Bool.and_false, Bool.false_and, Nat.reduceLT, Nat.reduceLeDiff, List.reverse_cons, List.reverse_nil, Nat.zero_add, Nat.add_zero, Bool.false_eq_true, List.getElem?_cons_zero, Nat.reduceMul, Nat.mul_one, sp_CBuild, F1, G1, F2, G2, F3, G3, F4, G4, F5, G5, F6, G6, G7, at_Nodes, at_readN, at_followN, at_prel, Sp.at_dat, SpecR.dat_rows, at_Then, at_Back]
  have hbad : (nodesG l runs).2 ≠ 0 → cbuildG l runs g fr order = (XG.none, (nodesG l runs).2) := fun h => by unfold cbuildG; rw [if_pos h]
  refine ⟨hR, fun h0 => ?_, fun h0 => ?_⟩
  · have ok := nodesOk h0
    have hn := ok.len
    have hall := nodesAll_len l runs
    have hform : ((readN (nodesG l runs).1 fr).2 = false ∨ (followN (nodesG l runs).1 l.length order).2 = false) → cbuildG l runs g fr order = (XG.none, 3) := fun h => by
      unfold cbuildG; rw [if_neg (by rw [h0]; simp)]; exact if_pos h
    have hoe := ok.eq
    rw [ok.eq] at hform ⊢
    generalize hD : nodesAll l runs = D at *
    refine ⟨hn, ⟨hn, by omega, hO⟩, ?_⟩
    have l1 := readN_len D fr
    have l2 := followN_len (n := l.length) hn order
    have hl := ok.ls
    generalize hr : readN D fr = rd at *
    generalize hf : followN D l.length order = fo at *
    obtain ⟨rd, rok⟩ := rd
    obtain ⟨fo, fok⟩ := fo
    have l1 : rd.length ≤ D.length := l1
    have l2 : fo.length ≤ 4225 * l.length := l2
    have hM : maxLen = 9223372036854775807 := rfl
    cases rok with
    | false =>
      rw [hform (.inl rfl)]
      exact ⟨fun h => (by cases h), fun _ => ⟨rfl, rfl⟩⟩
    | true =>
      cases fok with
      | false =>
        rw [hform (.inr rfl)]
        exact ⟨fun _ => ⟨fun h => (by cases h), fun _ => ⟨rfl, rfl⟩⟩, fun h => (by cases h)⟩
      | true =>
        have hgood : cbuildG l runs g fr order = ((x0G D rd fo).withP (thr (x0G D rd fo) runs g l.length runs.length).1, 0) := by
          unfold cbuildG
          rw [if_neg (by rw [h0]; simp), ok.eq]
          simp only [hD, hr, hf]
          rfl
        have b1 := ofG_le18 D.length rd
        have b2 := ofG_le18 D.length fo
        simp only [Z0j]
        have b3 : (backG (ofG D.length rd)).length ≤ 64 := by unfold backG; rw [mkR_len]; exact szR_le _
        refine ⟨by omega, by omega, by omega, ⟨by omega, by omega⟩, ?_⟩
        rw [within_pick (x := x0G D rd fo) rfl]
        rw [hgood]
        generalize thr (x0G D rd fo) runs g l.length runs.length = P
        simp (maxSteps := 3000000) only [↓Z1a, ↓Z2b, ↓Z1k, ↓Z05, ↓Z2v, ↓Z2r, nilG_d, nilG_r, ↓Z1g, ↓Z19, ↓Z0d, ↓Z1l, ↓Z0m, ↓Z20, ↓Z30, ↓Z33, ↓Z24, ↓Z1j, ↓Z2m, ↓Z28, ↓Z1z, ↓Z3r, ↓retK_n, ↓Z3n, ↓Z3p, ↓Z3o, ↓Z41, ↓Z3x, ↓Z4b, ↓Z0j, ↓Z08, ↓Z1b, ↓Z0i, ↓Z1n, nf_mk, Z09, Z18, Z34, Z1c, Z37, evN, Z2i, Z1y, Z36, Z47, Z1x, Z17, Z1i, Z2u, Z2j, Z2f, Z1o, Z2c, evT, Opd.ev, Z02, Z00, Z35, Z45, Z3w, Z27, Z1m, Z2a, Z2e, Z3l, Z1d, Z0c, Z3e, LOp.isNew, State.prune, Z3t, Z31, AV.leaf, Heap.at, Z0k, Z0a, Z1h, Z0g, Z03, idx_I, idx_W, rowW, Z26, Z2w, Z22, Z1e, rowB, Z2y, Z2x, rowN, lens_W, Z3s, Z1f, Z15, w_or, w_and, Z2z, Z4d, w_shl, Z4c, w_shr, Z4e, w_neg, w_add, w_bit, w_eq0, w_eq1, w_eq, Bool.decide_eq_true, Z3h, Z3k, Z3j, Z2n, Z1p, Z04, Z0b, Z0n, Z01, Z21, rowI, RatG.row, LocG.row, ActG.row, StepG.row, StampG.row, ActG.av, ActG.eta, RatG.eta, LocG.eta, beq_true, beq_false, Z2k, Z2t, Z2l, Z2s, Z14, Z0q, Z12, Z13, Z0p, Z0o, Z0e, List.length_set, List.length_replicate, Z06, Int.reduceToNat, evLen, Z29, Z40, Src.all, Src.len, Src.leaf, Src.leafN, Z3c, Z48, joinV, Z0l, Z0r, Z0s, Z0t, Z0u, Z0v, Z0w, Z0x, mkVec, drows, evMk, List.length_map, Z1w, Z23, List.take_length, List.take_left, List.length_append, Nat.le_add_right, ite_self, List.take_of_length_le, Z3d, intOr, Z43, Option.isSome_none, Option.isSome_some, Nat.sub_zero, loadQ, loadT, evBin, evUn, Z0y, Z0z, binT, binQ, chk, Z3u, List.contains_cons, List.contains_nil, Bool.or_false, Bool.false_or, Bool.and_self, resQ, resV, resT, pickV, Z2d, Z4a, Z3q, fnOf, Z3f, isD, HO.drow, viewT, Z3y, evEq, eqV, eqK, eqC1, Z49, Z46, Z3b, Z38, lens_I, Z3m, Z2q, Z1s, Z2p, Z1r, Z2o, Z1q, Z1t, Z10, Z11, Z0f, List.mem_cons, List.not_mem_nil, or_false, forall_eq, putRow, Z3g, get_nil, RetS, RetF, RetD, AV.frz, AV.frzL, AV.freshP, AV.freshL, DV.less, Z2g, Z1u, Z2h, Z1v, Z0h, Z07, Option.some.injEq, AV.tup.injEq, AV.agg.injEq, List.cons.injEq, DV.list.injEq, List.isEmpty_nil, Nat.le_refl, AV.d.injEq, DV.int.injEq, DV.bool.injEq, ↓reduceIte, Nat.reduceEqDiff, Nat.reduceAdd, Nat.reduceBEq, List.length_cons, List.length_nil, List.replicate_succ, List.replicate_zero, List.nil_append, List.cons_append, List.append_nil, List.foldl_cons, List.foldl_nil, List.map_cons, List.map_nil, List.all_cons, List.all_nil, List.set_cons_zero, List.set_cons_succ, List.getD_cons_zero, List.getD_cons_succ, List.drop_zero, List.drop_succ_cons, List.take_succ_cons, List.take_zero, List.flatten_cons, List.flatten_nil, Bool.true_and, Bool.and_true, Bool.not_true, Bool.not_false, true_and, and_true, true_or, or_true, Option.bind_some, Option.map_some, decide_true, decide_false, beq_self_eq_true, true_implies, false_implies, implies_true, not_true_eq_false, not_false_eq_true, and_self, Bool.and_false, Bool.false_and, Nat.reduceLT, Nat.reduceLeDiff, List.reverse_cons, List.reverse_nil, Nat.zero_add, Nat.add_zero, Bool.false_eq_true, List.getElem?_cons_zero, Nat.reduceMul, Nat.mul_one, XG.obj, XG.withP, x0G, XG.av, lsX]
        refine ⟨hn, by omega, by have := ok.rs; omega, hR⟩
  · rw [hbad h0]
    exact ⟨rfl, rfl⟩
end Go.Ago

/- The document's answer for layer 18: the nodes, and where they come from. Conditions: none. -/
set_option maxRecDepth 100000
set_option linter.unusedSimpArgs false
set_option linter.unusedVariables false
namespace Go.Ago
attribute [local irreducible] vck
end Go.Ago

/- The laws of layer 18: what is small, a fixed answer, and CandNodes. Conditions: none. -/
set_option maxRecDepth 100000
set_option linter.unusedSimpArgs false
set_option linter.unusedVariables false
namespace Go.Ago
attribute [local irreducible] vck
def smallEF (l : List LocG) (runs : List RunG) : Bool := decide (l.length ≤ 20) && decide (runs.length ≤ 5) && runs.all (fun r => decide (r.evs.length ≤ 70))
def sp_smallE : Sp := ⟨List LocG × Bool × List RunG × Bool, fun x => [.d (.list (x.1.map LocG.row) x.2.1), .d (.list (x.2.2.1.map RunG.row) x.2.2.2)], fun x => .data (x.2.2.1.length ≤ maxLen) (.d (.bool (smallEF x.1 x.2.2.1))) true⟩
theorem at_smallE (l : List LocG) (f : Bool) (runs : List RunG) (g : Bool) : sp_smallE.at [.d (.list (l.map LocG.row) f), .d (.list (runs.map RunG.row) g)] = .data (runs.length ≤ maxLen) (.d (.bool (smallEF l runs))) true :=
  Sp.at_enc (s := sp_smallE) (fun x y h => by
    obtain ⟨a, b, c, d⟩ := x; obtain ⟨a', b', c', d'⟩ := y
    simp only [sp_smallE, List.cons.injEq, AV.d.injEq, DV.list.injEq, and_true] at h
    obtain ⟨⟨h1, h2⟩, h3, h4⟩ := h
    rw [Z3i LocG.row_inj h1, h2, Z3i RunG.row_inj h3, h4]) (l, f, runs, g)
theorem all_at18 {α : Type} [Inhabited α] {l : List α} {p : α → Bool} {i : Nat} (hi : i < l.length) (h : p (l.getD i default) = false) : l.all p = false := by
  rw [Bool.eq_false_iff]
  intro hh
  rw [List.all_eq_true] at hh
  have := hh (l.getD i default) (by rw [getD_lt hi]; exact List.getElem_mem hi)
  rw [h] at this; cases this
theorem all_yes18 {α : Type} [Inhabited α] {l : List α} {p : α → Bool} (h : ∀ i, i < l.length → p (l.getD i default) = true) : l.all p = true := by
  rw [List.all_eq_true]
  intro x hx
  obtain ⟨i, hi, rfl⟩ := List.getElem_of_mem hx
  have := h i hi
  rwa [getD_lt hi] at this
theorem body_law18_small {T : Tab} : sp_smallE.Body T V_law18_small L_law18_small R_law18_small := by
  rintro ⟨l, f, runs, g⟩ h1
  have h1 : runs.length ≤ maxLen := h1
  refine .inl ⟨rfl, ?_⟩
  unfold V_law18_small L_law18_small R_law18_small
  simp (maxSteps := 3000000) only [↓Z1a, ↓Z2b, ↓Z1k, ↓Z05, ↓Z2v, ↓Z2r, nilG_d, nilG_r, ↓Z1g, ↓Z19, ↓Z0d, ↓Z1l, ↓Z0m, ↓Z20, ↓Z30, ↓Z33, ↓Z24, ↓Z1j, ↓Z2m, ↓Z28, ↓Z1z, ↓Z3r, ↓retK_n, ↓Z3n, ↓Z3p, ↓Z3o, ↓Z41, ↓Z3x, ↓Z4b, ↓Z0j, ↓Z08, ↓Z1b, ↓Z0i, ↓Z1n, nf_mk, Z09, Z18, Z34, Z1c, Z37, evN, Z2i, Z1y, Z36, Z47, Z1x, Z17, Z1i, Z2u, Z2j, Z2f, Z1o, Z2c, evT, Opd.ev, Z02, Z00, Z35, Z45, Z3w, Z27, Z1m, Z2a, Z2e, Z3l, Z1d, Z0c, Z3e, LOp.isNew, State.prune, Z3t, Z31, AV.leaf, Heap.at, Z0k, Z0a, Z1h, Z0g, Z03, idx_I, idx_W, rowW, Z26, Z2w, Z22, Z1e, rowB, Z2y, Z2x, rowN, lens_W, Z3s, Z1f, Z15, w_or, w_and, Z2z, Z4d, w_shl, Z4c, w_shr, Z4e, w_neg, w_add, w_bit, w_eq0, w_eq1, w_eq, Bool.decide_eq_true, Z3h, Z3k, Z3j, Z2n, Z1p, Z04, Z0b, Z0n, Z01, Z21, rowI, RatG.row, LocG.row, ActG.row, StepG.row, StampG.row, ActG.av, ActG.eta, RatG.eta, LocG.eta, beq_true, beq_false, Z2k, Z2t, Z2l, Z2s, Z14, Z0q, Z12, Z13, Z0p, Z0o, Z0e, List.length_set, List.length_replicate, Z06, Int.reduceToNat, evLen, Z29, Z40, Src.all, Src.len, Src.leaf, Src.leafN, Z3c, Z48, joinV, Z0l, Z0r, Z0s, Z0t, Z0u, Z0v, Z0w, Z0x, mkVec, drows, evMk, List.length_map, Z1w, Z23, List.take_length, List.take_left, List.length_append, Nat.le_add_right, ite_self, List.take_of_length_le, Z3d, intOr, Z43, Option.isSome_none, Option.isSome_some, Nat.sub_zero, loadQ, loadT, evBin, evUn, Z0y, Z0z, binT, binQ, chk, Z3u, List.contains_cons, List.contains_nil, Bool.or_false, Bool.false_or, Bool.and_self, resQ, resV, resT, pickV, Z2d, Z4a, Z3q, fnOf, Z3f, isD, HO.drow, viewT, Z3y, evEq, eqV, eqK, eqC1, Z49, Z46, Z3b, Z38, lens_I, Z3m, Z2q, Z1s, Z2p, Z1r, Z2o, Z1q, Z1t, Z10, Z11, Z0f, List.mem_cons, List.not_mem_nil, or_false, forall_eq, putRow, Z3g, get_nil, RetS, RetF, RetD, AV.frz, AV.frzL, AV.freshP, AV.freshL, DV.less, Z2g, Z1u, Z2h, Z1v, Z0h, Z07, Option.some.injEq, AV.tup.injEq, AV.agg.injEq, List.cons.injEq, DV.list.injEq, List.isEmpty_nil, Nat.le_refl, AV.d.injEq, DV.int.injEq, DV.bool.injEq, ↓reduceIte, Nat.reduceEqDiff, Nat.reduceAdd, Nat.reduceBEq, List.length_cons, List.length_nil, List.replicate_succ, List.replicate_zero, List.nil_append, List.cons_append, List.append_nil, List.foldl_cons, List.foldl_nil, List.map_cons, List.map_nil, List.all_cons, List.all_nil, List.set_cons_zero, List.set_cons_succ, List.getD_cons_zero, List.getD_cons_succ, List.drop_zero, List.drop_succ_cons, List.take_succ_cons, List.take_zero, List.flatten_cons, List.flatten_nil, Bool.true_and, Bool.and_true, Bool.not_true, Bool.not_false, true_and, and_true, true_or, or_true, Option.bind_some, Option.map_some, decide_true, decide_false, beq_self_eq_true, true_implies, false_implies, implies_true, not_true_eq_false, not_false_eq_true, and_self, Bool.and_false, Bool.false_and, Nat.reduceLT, Nat.reduceLeDiff, List.reverse_cons, List.reverse_nil, Nat.zero_add, Nat.add_zero, Bool.false_eq_true, List.getElem?_cons_zero, Nat.reduceMul, Nat.mul_one, EvG.row, RunG.row, idx_Ev, idx_Run, RunG.eta0, sp_smallE]
  refine ⟨fun c1 => by unfold smallEF; rw [decide_eq_false (by omega)]; simp, fun c1 => ⟨fun c2 => by unfold smallEF; rw [decide_eq_false (show ¬ runs.length ≤ 5 by omega)]; simp, fun c2 => ?_⟩⟩
  refine Loop.fam [1, 5] (fun i : Nat => ⟨[(1, .d (.list (runs.map RunG.row) g)), (5, .d (.int .i64 i))], []⟩) (fun i => i ≤ runs.length ∧ ∀ j, j < i → (runs.getD j default).evs.length ≤ 70) (fun i => runs.length - i) 0 [] (by simp) (by simp) (by simp only [State.can, AV.can, AV.canL, HO.can, Z25, idx, Z02, Z00, Heap.at, Nat.reduceBEq, ↓reduceIte, Nat.reduceEqDiff, Option.getD_some, Option.map_some, List.map_cons, List.map_nil, List.getD_cons_zero, List.getD_cons_succ]; rfl) ⟨by omega, by omega⟩ ?_
  rintro i ⟨hi, hj⟩
  simp (maxSteps := 3000000) only [↓Z1a, ↓Z2b, ↓Z1k, ↓Z05, ↓Z2v, ↓Z2r, nilG_d, nilG_r, ↓Z1g, ↓Z19, ↓Z0d, ↓Z1l, ↓Z0m, ↓Z20, ↓Z30, ↓Z33, ↓Z24, ↓Z1j, ↓Z2m, ↓Z28, ↓Z1z, ↓Z3r, ↓retK_n, ↓Z3n, ↓Z3p, ↓Z3o, ↓Z41, ↓Z3x, ↓Z4b, ↓Z0j, ↓Z08, ↓Z1b, ↓Z0i, ↓Z1n, nf_mk, Z09, Z18, Z34, Z1c, Z37, evN, Z2i, Z1y, Z36, Z47, Z1x, Z17, Z1i, Z2u, Z2j, Z2f, Z1o, Z2c, evT, Opd.ev, Z02, Z00, Z35, Z45, Z3w, Z27, Z1m, Z2a, Z2e, Z3l, Z1d, Z0c, Z3e, LOp.isNew, State.prune, Z3t, Z31, AV.leaf, Heap.at, Z0k, Z0a, Z1h, Z0g, Z03, idx_I, idx_W, rowW, Z26, Z2w, Z22, Z1e, rowB, Z2y, Z2x, rowN, lens_W, Z3s, Z1f, Z15, w_or, w_and, Z2z, Z4d, w_shl, Z4c, w_shr, Z4e, w_neg, w_add, w_bit, w_eq0, w_eq1, w_eq, Bool.decide_eq_true, Z3h, Z3k, Z3j, Z2n, Z1p, Z04, Z0b, Z0n, Z01, Z21, rowI, RatG.row, LocG.row, ActG.row, StepG.row, StampG.row, ActG.av, ActG.eta, RatG.eta, LocG.eta, beq_true, beq_false, Z2k, Z2t, Z2l, Z2s, Z14, Z0q, Z12, Z13, Z0p, Z0o, Z0e, List.length_set, List.length_replicate, Z06, Int.reduceToNat, evLen, Z29, Z40, Src.all, Src.len, Src.leaf, Src.leafN, Z3c, Z48, joinV, Z0l, Z0r, Z0s, Z0t, Z0u, Z0v, Z0w, Z0x, mkVec, drows, evMk, List.length_map, Z1w, Z23, List.take_length, List.take_left, List.length_append, Nat.le_add_right, ite_self, List.take_of_length_le, Z3d, intOr, Z43, Option.isSome_none, Option.isSome_some, Nat.sub_zero, loadQ, loadT, evBin, evUn, Z0y, Z0z, binT, binQ, chk, Z3u, List.contains_cons, List.contains_nil, Bool.or_false, Bool.false_or, Bool.and_self, resQ, resV, resT, pickV, Z2d, Z4a, Z3q, fnOf, Z3f, isD, HO.drow, viewT, Z3y, evEq, eqV, eqK, eqC1, Z49, Z46, Z3b, Z38, lens_I, Z3m, Z2q, Z1s, Z2p, Z1r, Z2o, Z1q, Z1t, Z10, Z11, Z0f, List.mem_cons, List.not_mem_nil, or_false, forall_eq, putRow, Z3g, get_nil, RetS, RetF, RetD, AV.frz, AV.frzL, AV.freshP, AV.freshL, DV.less, Z2g, Z1u, Z2h, Z1v, Z0h, Z07, Option.some.injEq, AV.tup.injEq, AV.agg.injEq, List.cons.injEq, DV.list.injEq, List.isEmpty_nil, Nat.le_refl, AV.d.injEq, DV.int.injEq, DV.bool.injEq, ↓reduceIte, Nat.reduceEqDiff, Nat.reduceAdd, Nat.reduceBEq, List.length_cons, List.length_nil, List.replicate_succ, List.replicate_zero, List.nil_append, List.cons_append, List.append_nil, List.foldl_cons, List.foldl_nil, List.map_cons, List.map_nil, List.all_cons, List.all_nil, List.set_cons_zero, List.set_cons_succ, List.getD_cons_zero, List.getD_cons_succ, List.drop_zero, List.drop_succ_cons, List.take_succ_cons, List.take_zero, List.flatten_cons, List.flatten_nil, Bool.true_and, Bool.and_true, Bool.not_true, Bool.not_false, true_and, and_true, true_or, or_true, Option.bind_some, Option.map_some, decide_true, decide_false, beq_self_eq_true, true_implies, false_implies, implies_true, not_true_eq_false, not_false_eq_true, and_self, Bool.and_false, Bool.false_and, Nat.reduceLT, Nat.reduceLeDiff, List.reverse_cons, List.reverse_nil, Nat.zero_add, Nat.add_zero, Bool.false_eq_true, List.getElem?_cons_zero, Nat.reduceMul, Nat.mul_one, EvG.row, idx_Ev, idx_Run, RunG.eta0]
  refine ⟨fun e => ⟨⟨by omega, by omega⟩, fun e2 => ?_, fun e2 => ?_⟩, fun e => ?_⟩
  · unfold smallEF
    rw [all_at18 (l := runs) (i := i) (by omega) (decide_eq_false (by omega))]; simp
  · rw [wrap_succ (n := runs.length) (by omega) h1]
    exact Z44.mk [] (i + 1) (by simp) (by simp) (by simp only [State.can, AV.can, AV.canL, HO.can, Z25, idx, Z02, Z00, Heap.at, Nat.reduceBEq, ↓reduceIte, Nat.reduceEqDiff, Option.getD_some, Option.map_some, List.map_cons, List.map_nil, List.getD_cons_zero, List.getD_cons_succ]) ⟨by omega, fun j hj' => by
      by_cases h : j = i
      · rw [h]; omega
      · exact hj j (by omega)⟩ (by omega)
  · have ei : i = runs.length := by omega
    unfold smallEF
    rw [all_yes18 (l := runs) (fun j hj' => decide_eq_true (hj j (by omega)))]
    rw [decide_eq_true (show l.length ≤ 20 by omega), decide_eq_true (show runs.length ≤ 5 by omega)]; rfl
/-! ### What the arguments read as -/
abbrev shEv : Sh := .st [.int .i64, .int .i64, .int .i64, .int .i64, .int .u64, .int .u64, .int .u64, .int .u64]
abbrev shRun : Sh := .st [.sl shEv, .int .i64]
theorem has_ev {r : List DV} (h : shEv.has r) : ∃ e : EvG, r = e.row ∧ True := by
  obtain ⟨x1, y1, rfl, h1, g1⟩ := hasL_cons (has_st h)
  obtain ⟨x2, y2, rfl, h2, g2⟩ := hasL_cons g1
  obtain ⟨x3, y3, rfl, h3, g3⟩ := hasL_cons g2
  obtain ⟨x4, y4, rfl, h4, g4⟩ := hasL_cons g3
  obtain ⟨x5, y5, rfl, h5, g5⟩ := hasL_cons g4
  obtain ⟨x6, y6, rfl, h6, g6⟩ := hasL_cons g5
  obtain ⟨x7, y7, rfl, h7, g7⟩ := hasL_cons g6
  obtain ⟨x8, y8, rfl, h8, g8⟩ := hasL_cons g7
  obtain rfl := hasL_nil g8
  obtain ⟨a, rfl, -⟩ := has_i64 h1
  obtain ⟨b, rfl, -⟩ := has_i64 h2
  obtain ⟨c, rfl, -⟩ := has_i64 h3
  obtain ⟨d, rfl, -⟩ := has_i64 h4
  obtain ⟨e, rfl, -⟩ := has_rowW h5
  obtain ⟨f, rfl, -⟩ := has_rowW h6
  obtain ⟨g, rfl, -⟩ := has_rowW h7
  obtain ⟨i, rfl, -⟩ := has_rowW h8
  exact ⟨⟨a, b, c, d, e, f, g, i⟩, rfl, trivial⟩
theorem has_run {r : List DV} (h : shRun.has r) : ∃ x : RunG, r = x.row ∧ x.evs.length ≤ maxLen := by
  obtain ⟨x1, y1, rfl, h1, g1⟩ := hasL_cons (has_st h)
  obtain ⟨x2, y2, rfl, h2, g2⟩ := hasL_cons g1
  obtain rfl := hasL_nil g2
  obtain ⟨l, f, rfl, -, hl⟩ := has_list (f := EvG.row) (ok := fun _ => True) (fun _ h => has_ev h) h1
  obtain ⟨a, rfl, -⟩ := has_i64 h2
  exact ⟨⟨l, f, a⟩, rfl, hl⟩
/-! ### awake -/
def aw18l : List LocG := [⟨false, 0⟩]
def aw18r : List RunG := [⟨[⟨2, 0, 1, 0, 0, 0, 0, 0⟩, ⟨1, 0, 1, 0, 0, 0, 0, 0⟩], false, 0⟩]
def aw18o : List (List Int × Bool) := [([1], false)]
def aw18D : List NodeG := [⟨-1, 2, 0, 0⟩, ⟨0, 2, 0, 1⟩, ⟨0, 1, 0, 1⟩]
theorem aw18_nodes : nodesG aw18l aw18r = (aw18D, 0) := by decide +kernel
theorem aw18_read : readN aw18D [1] = ([⟨1, 2⟩], true) := by decide +kernel
theorem aw18_follow : followN aw18D 1 aw18o = ([⟨0, 1⟩], true) := by
  unfold followN
  have h : coN aw18D 1 aw18o 1 = some [⟨0, 1⟩] := by
    unfold coN
    have h : coN aw18D 1 aw18o 0 = some [] := rfl
    rw [h]
    have h2 : (aw18o.getD 0 default).1 = [1] := rfl
    have h3 : sortI [1] = [1] := by unfold sortI; simp
    simp only [h2, h3]
    rw [if_pos (by decide +kernel)]
    decide +kernel
  rw [if_neg (by decide), h]
def aw18X : XG := ((x0G aw18D [⟨1, 2⟩] [⟨0, 1⟩]).withP (thr (x0G aw18D [⟨1, 2⟩] [⟨0, 1⟩]) aw18r false 1 1).1)
theorem aw18_build : cbuildG aw18l aw18r false [1] aw18o = (aw18X, 0) := by
  unfold cbuildG
  rw [aw18_nodes, if_neg (by simp)]
  simp only [show aw18l.length = 1 from rfl, aw18_read, aw18_follow]
  rfl
theorem aw18_co : hasI aw18X.co.1 0 1 = true := by decide +kernel
theorem aw18_rf : hasI aw18X.rf.1 1 2 = true := by decide +kernel
theorem aw18_po : hasI aw18X.po.1 1 2 = true := by decide +kernel
theorem aw18_at : sp_CBuild.at [.d (.list [[.bool false, .int .i64 0]] false), .d (.list [[.list [[.int .i64 2, .int .i64 0, .int .i64 1, .int .i64 0, .int .u64 0, .int .u64 0, .int .u64 0, .int .u64 0], [.int .i64 1, .int .i64 0, .int .i64 1, .int .i64 0, .int .u64 0, .int .u64 0, .int .u64 0, .int .u64 0]] false, .int .i64 0]] false),
    .d (.list [[.int .i64 1]] false), .d (.list [[.list [[.int .i64 1]] false]] false)] =
    .data True (.tup [.agg [.d (.list (aw18X.nodes.map ActG.row) aw18X.nf), .d (.list (aw18X.po.1.map rowW) aw18X.po.2), .d (.list (aw18X.rf.1.map rowW) aw18X.rf.2), .d (.list (aw18X.co.1.map rowW) aw18X.co.2), .d (.list (aw18X.fr.1.map rowW) aw18X.fr.2), .d (.list (aw18X.addr.1.map rowW) aw18X.addr.2), .d (.list (aw18X.data.1.map rowW) aw18X.data.2), .d (.list (aw18X.ctrl.1.map rowW) aw18X.ctrl.2), .d (.list (aw18X.fenced.1.map rowW) aw18X.fenced.2), .d (.list (aw18X.sync.1.map rowW) aw18X.sync.2), .d (.list (aw18X.lwsync.1.map rowW) aw18X.lwsync.2), .d (.list (aw18X.pairs.1.map rowW) aw18X.pairs.2)], .d (.int .i64 0)]) false := by
  have h := at_CBuild aw18l false aw18r false [1] false aw18o false
  have h2 : (smallR aw18r ∧ smallO aw18o) = True := eq_true ⟨by unfold smallR; decide, by unfold smallO; decide⟩
  rw [aw18_build, h2] at h
  exact h
theorem aw18_len : aw18X.nodes.length = 3 := rfl
theorem aw18_clen : aw18X.co.1.length = 3 := by decide +kernel
theorem aw18_rlen : aw18X.rf.1.length = 3 := by decide +kernel
theorem aw18_plen : aw18X.po.1.length = 3 := by decide +kernel
theorem body_law18_awake {T : Tab} {n1 n2 : Nat} (k1 : Knows T n1 sp_CBuild) (k2 : Knows T n2 sp_Has) : sp_true.Body T V_law18_awake (L_law18_awake n1 n2) R_law18_awake := by
  have F1 := k1.F; have G1 := k1.G; have F2 := k2.F; have G2 := k2.G
  rintro x -
  refine .inl ⟨rfl, ?_⟩
  unfold V_law18_awake L_law18_awake R_law18_awake
  simp (maxSteps := 3000000) only [↓Z1a, ↓Z2b, ↓Z1k, ↓Z05, ↓Z2v, ↓Z2r, nilG_d, nilG_r, ↓Z1g, ↓Z19, ↓Z0d, ↓Z1l, ↓Z0m, ↓Z20, ↓Z30, ↓Z33, ↓Z24, ↓Z1j, ↓Z2m, ↓Z28, ↓Z1z, ↓Z3r, ↓retK_n, ↓Z3n, ↓Z3p, ↓Z3o, ↓Z41, ↓Z3x, ↓Z4b, ↓Z0j, ↓Z08, ↓Z1b, ↓Z0i, ↓Z1n, nf_mk, Z09, Z18, Z34, Z1c, Z37, evN, Z2i, Z1y, Z36, Z47, Z1x, Z17, Z1i, Z2u, Z2j, Z2f, Z1o, Z2c, evT, Opd.ev, Z02, Z00, Z35, Z45, Z3w, Z27, Z1m, Z2a, Z2e, Z3l, Z1d, Z0c, Z3e, LOp.isNew, State.prune, Z3t, Z31, AV.leaf, Heap.at, Z0k, Z0a, Z1h, Z0g, Z03, idx_I, idx_W, rowW, Z26, Z2w, Z22, Z1e, rowB, Z2y, Z2x, rowN, lens_W, Z3s, Z1f, Z15, w_or, w_and, Z2z, Z4d, w_shl, Z4c, w_shr, Z4e, w_neg, w_add, w_bit, w_eq0, w_eq1, w_eq, Bool.decide_eq_true, Z3h, Z3k, Z3j, Z2n, Z1p, Z04, Z0b, Z0n, Z01, Z21, rowI, RatG.row, LocG.row, ActG.row, StepG.row, StampG.row, ActG.av, ActG.eta, RatG.eta, LocG.eta, beq_true, beq_false, Z2k, Z2t, Z2l, Z2s, Z14, Z0q, Z12, Z13, Z0p, Z0o, Z0e, List.length_set, List.length_replicate, Z06, Int.reduceToNat, evLen, Z29, Z40, Src.all, Src.len, Src.leaf, Src.leafN, Z3c, Z48, joinV, Z0l, Z0r, Z0s, Z0t, Z0u, Z0v, Z0w, Z0x, mkVec, drows, evMk, List.length_map, Z1w, Z23, List.take_length, List.take_left, List.length_append, Nat.le_add_right, ite_self, List.take_of_length_le, Z3d, intOr, Z43, Option.isSome_none, Option.isSome_some, Nat.sub_zero, loadQ, loadT, evBin, evUn, Z0y, Z0z, binT, binQ, chk, Z3u, List.contains_cons, List.contains_nil, Bool.or_false, Bool.false_or, Bool.and_self, resQ, resV, resT, pickV, Z2d, Z4a, Z3q, fnOf, Z3f, isD, HO.drow, viewT, Z3y, evEq, eqV, eqK, eqC1, Z49, Z46, Z3b, Z38, lens_I, Z3m, Z2q, Z1s, Z2p, Z1r, Z2o, Z1q, Z1t, Z10, Z11, Z0f, List.mem_cons, List.not_mem_nil, or_false, forall_eq, putRow, Z3g, get_nil, RetS, RetF, RetD, AV.frz, AV.frzL, AV.freshP, AV.freshL, DV.less, Z2g, Z1u, Z2h, Z1v, Z0h, Z07, Option.some.injEq, AV.tup.injEq, AV.agg.injEq, List.cons.injEq, DV.list.injEq, List.isEmpty_nil, Nat.le_refl, AV.d.injEq, DV.int.injEq, DV.bool.injEq, ↓reduceIte, Nat.reduceEqDiff, Nat.reduceAdd, Nat.reduceBEq, List.length_cons, List.length_nil, List.replicate_succ, List.replicate_zero, List.nil_append, List.cons_append, List.append_nil, List.foldl_cons, List.foldl_nil, List.map_cons, List.map_nil, List.all_cons, List.all_nil, List.set_cons_zero, List.set_cons_succ, List.getD_cons_zero, List.getD_cons_succ, List.drop_zero, List.drop_succ_cons, List.take_succ_cons, List.take_zero, List.flatten_cons, List.flatten_nil, Bool.true_and, Bool.and_true, Bool.not_true, Bool.not_false, true_and, and_true, true_or, or_true, Option.bind_some, Option.map_some, decide_true, decide_false, beq_self_eq_true, true_implies, false_implies, implies_true, not_true_eq_false, not_false_eq_true, and_self, Bool.and_false, Bool.false_and, Nat.reduceLT, Nat.reduceLeDiff, List.reverse_cons, List.reverse_nil, Nat.zero_add, Nat.add_zero, Bool.false_eq_true, List.getElem?_cons_zero, Nat.reduceMul, Nat.mul_one, Option.bind_none, Option.bind_some, vrowsT, vcellsT, vcellT, List.take_succ_cons, List.take_zero, List.drop_zero, aw18_at, aw18_len, at_Has, aw18_co, aw18_rf, aw18_po, sp_true, F1, G1, F2, G2]
  exact ⟨⟨by omega, by omega, roomy_of (by omega) (by omega)⟩, fun _ => ⟨by rw [aw18_clen]; decide, by rw [aw18_rlen]; decide, by rw [aw18_plen]; decide⟩, fun h => h rfl⟩
/-! ### The nodes -/
end Go.Ago

/- Contracts of the reference of layer 2: its small functions, Put, Of, Lay, Then, Back. Conditions: none. -/
set_option maxRecDepth 100000
set_option linter.unusedSimpArgs false
set_option linter.unusedVariables false
namespace Go.Ago

/-! ### Put -/
end Go.Ago

/- Contracts of the reference of layer 2: most, Copy, Same, Of, Lay, Then, Back. Conditions: none. -/
set_option maxRecDepth 100000
set_option linter.unusedSimpArgs false
set_option linter.unusedVariables false
namespace Go.Ago

def sp_sameW : Sp := sp_same rowW
theorem at_sameW (a b : List W) (f g : Bool) : sp_sameW.at [.d (.list (a.map rowW) f), .d (.list (b.map rowW) g)] = .data (a.length ≤ maxLen) (.d (.bool (decide (a = b)))) true := at_same rowW_inj a b f g
theorem body_ref02_Same {T : Tab} : sp_sameW.Body T V_ref02_Same L_ref02_Same R_ref02_Same := by
  rintro ⟨a, f, b, g⟩ hlen
  refine .inl ⟨rfl, ?_⟩
  unfold V_ref02_Same L_ref02_Same R_ref02_Same
  simp only [↓Z1a, ↓Z2b, ↓Z05, ↓Z1g, ↓Z19, ↓Z0d, ↓Z1l, ↓Z0m, ↓Z20, ↓Z33, ↓Z1z, ↓Z3r, ↓Z1b, ↓Z0i, nf_mk, Z09, Z34, Z37, evN, Z1y, Z36, Z1x, Z1i, Z2c, evT, Opd.ev, Z02, Z00, Z35, Z2a, Z2e, Z1d, Z0c, Z3e, LOp.isNew, State.prune, evLen, List.length_map, evBin, binT, binQ, resQ, resV, resT, get_nil, RetS, AV.d.injEq, DV.bool.injEq, ↓reduceIte, Nat.reduceBEq, List.length_nil, List.replicate_zero, List.append_nil, List.map_cons, List.map_nil, true_and, Nat.zero_add, Nat.add_zero, Bool.false_eq_true, sp_sameW, sp_same]
  have hm : maxLen = 9223372036854775807 := rfl
  have hlen : a.length ≤ maxLen := hlen
  refine ⟨fun h => ?_, fun h => ?_⟩
  · have hab : a.length = b.length := by omega
    refine Loop.fam [0, 1, 5] (fun i : Nat => ⟨[(0, .d (.list (a.map rowW) f)), (1, .d (.list (b.map rowW) g)), (5, .d (.int .i64 (i : Nat)))], []⟩) (fun i => i ≤ a.length ∧ a.take i = b.take i) (fun i => a.length - i) 0 [] (by simp) (by simp)
      (by simp only [State.can, AV.can, HO.can, Z02, Z00, Heap.at, Nat.reduceBEq, Option.getD_some, List.map_cons, List.map_nil]; rfl) ⟨by omega, by simp⟩ ?_
    rintro i ⟨h1, h2⟩
    simp only [↓Z1a, ↓Z2b, ↓Z1k, ↓Z05, ↓Z1g, ↓Z19, ↓Z0d, ↓Z0m, ↓Z20, ↓Z30, ↓Z33, ↓Z24, ↓Z1j, ↓Z28, ↓Z1z, ↓Z3r, ↓Z41, ↓Z3x, ↓Z4b, ↓Z1b, ↓Z0i, nf_mk, Z09, Z18, Z34, Z37, evN, Z1y, Z36, Z47, Z1x, Z1i, Z2c, evT, Opd.ev, Z02, Z00, Z35, Z2a, Z2e, Z0c, Z3e, LOp.isNew, State.prune, Z0a, idx_W, rowW, Z15, w_eq, Z21, Z06, evLen, List.length_map, loadQ, evBin, binT, binQ, chk, Z3u, resQ, resV, resT, get_nil, RetS, AV.d.injEq, DV.bool.injEq, ↓reduceIte, Nat.reduceBEq, List.length_cons, List.length_nil, List.replicate_zero, List.nil_append, List.cons_append, List.append_nil, List.map_cons, List.map_nil, List.all_nil, List.getD_cons_zero, true_and, Nat.reduceLT, List.reverse_cons, List.reverse_nil, Nat.zero_add, Nat.add_zero, Bool.false_eq_true]
    refine ⟨fun h3 => ?_, fun h3 => ?_⟩
    · have h3 : i < a.length := by omega
      rw [wrap_succ h3 hlen]
      refine ⟨by omega, by omega, fun h4 => ?_, fun h4 => ?_⟩
      · exact Z44.mk [] (i + 1) (by simp) (by simp) (by simp only [State.can, AV.can, HO.can, Z02, Z00, Heap.at, Nat.reduceBEq, Option.getD_some, List.map_cons, List.map_nil]) ⟨by omega, take_next (d := 0#64) h2 h3 (by omega) h4⟩ (by omega)
      · simp only [Bool.false_eq, decide_eq_false_iff_not]
        intro e; subst e; exact h4 rfl
    · have : i = a.length := by omega
      subst this
      exact (decide_eq_true (take_all h2 hab)).symm
  · simp only [Bool.false_eq, decide_eq_false_iff_not]
    intro e; subst e; exact h rfl
end Go.Ago

/- The law CandRels: the walk. Conditions: none. -/
set_option maxRecDepth 100000
set_option linter.unusedSimpArgs false
set_option linter.unusedVariables false
namespace Go.Ago
attribute [local irreducible] vck
def cHv (x : XG) : HO := .vec 12 [[.d (.list (x.nodes.map ActG.row) x.nf), .d (lsX x.po), .d (lsX x.rf), .d (lsX x.co), .d (lsX x.fr), .d (lsX x.addr), .d (lsX x.data), .d (lsX x.ctrl), .d (lsX x.fenced), .d (lsX x.sync), .d (lsX x.lwsync), .d (lsX x.pairs)]]
def cLt1 (x : XG) (i : Nat) : State := ⟨[(9, .ptr 0 12 0 0), (11, .d (.int .i64 x.nodes.length)), (12, .d (.int .i64 i))], [cHv x]⟩
def cLt2 (x : XG) (i : Nat) (y : Nat × Nat) : State := ⟨[(9, .ptr 0 12 0 0), (11, .d (.int .i64 x.nodes.length)), (12, .d (.int .i64 i)), (13, .d (.int .i64 y.2)), (14, .d (.int .i64 y.1))], [cHv x]⟩
def XG.Lens (x : XG) : Prop := x.po.1.length ≤ 64 ∧ x.rf.1.length ≤ 64 ∧ x.co.1.length ≤ 64 ∧ x.fr.1.length ≤ 64 ∧ x.addr.1.length ≤ 64 ∧ x.data.1.length ≤ 64 ∧ x.ctrl.1.length ≤ 64 ∧ x.fenced.1.length ≤ 64 ∧ x.sync.1.length ≤ 64 ∧ x.lwsync.1.length ≤ 64 ∧ x.pairs.1.length ≤ 64
def srcN (A : List W) (i : Nat) : Nat → Nat
  | 0 => 0
  | k + 1 => srcN A i k + (if hasI A k i = true then 1 else 0)
structure RelsOk (x : XG) : Prop where
  nodes : x.nodes.length ≤ 64
  lens : x.Lens
  rf : ∀ i k, i < x.nodes.length → k < x.nodes.length → hasI x.rf.1 k i = true → (x.nodes.getD k default).loc = 2 ∧ (x.nodes.getD k default).old = (x.nodes.getD i default).old ∧ (x.nodes.getD k default).new = (x.nodes.getD i default).new
  co : ∀ i k, i < x.nodes.length → k < x.nodes.length → ((hasI x.co.1 i k = true ∨ hasI x.co.1 k i = true) ↔ i ≠ k ∧ (x.nodes.getD i default).loc = 2 ∧ (x.nodes.getD k default).loc = 2 ∧ (x.nodes.getD i default).old = (x.nodes.getD k default).old)
  fr : ∀ i k, i < x.nodes.length → k < x.nodes.length → hasI x.fr.1 i k = true → (x.nodes.getD i default).loc = 1 ∧ (x.nodes.getD k default).loc = 2 ∧ (x.nodes.getD i default).old = (x.nodes.getD k default).old
  hangs : ∀ i k, i < x.nodes.length → k < x.nodes.length → (hasI x.addr.1 i k = true ∨ hasI x.data.1 i k = true ∨ hasI x.ctrl.1 i k = true ∨ hasI x.fenced.1 i k = true ∨ hasI x.sync.1 i k = true ∨ hasI x.lwsync.1 i k = true ∨ hasI x.pairs.1 i k = true) → hasI x.po.1 i k = true
  src : ∀ i, i < x.nodes.length → (((x.nodes.getD i default).loc = 1) ↔ srcN x.rf.1 i x.nodes.length = 1)
  ringCo : ringG x.co.1 = false
  ringPo : ringG x.po.1 = false
  plus : plusG x.co.1 = x.co.1
theorem srcN_le (A : List W) (i : Nat) : ∀ k, srcN A i k ≤ k
  | 0 => Nat.le_refl _
  | k + 1 => by
    have := srcN_le A i k
    unfold srcN
    split <;> omega
def vRels : List Nat := [20, 0, 1, 24, 2, 3, 10, 34, 9, 12, 11, 44, 14, 49, 66, 13, 16, 15, 85, 17, 119, 141, 18, 197, 207, 8]
def nodeH (D : List NodeG) (i : Nat) : HO := .vec 4 [[.d (.int .i64 (D.getD i default).kind), .d (.int .i64 (D.getD i default).loc), .d (.int .i64 (D.getD i default).old), .d (.int .i64 (D.getD i default).new)]]
def crS (x : XG) (i k : Nat) (c : Nat) (v66 v85 v17 v119 v141 v18 : AV) : State :=
  ⟨[(20, .undef), (0, .undef), (1, .undef), (24, .undef), (2, .undef), (3, .undef), (10, .undef), (34, .undef), (9, .ptr 0 12 0 0), (12, .d (.int .i64 i)), (11, .d (.int .i64 x.nodes.length)), (44, .undef), (14, .d (.int .i64 k)), (49, .d (.bool true)), (66, v66), (13, .d (.int .i64 c)), (16, .ptr 2 4 0 0), (15, .ptr 1 4 0 0), (85, v85), (17, v17), (119, v119), (141, v141), (18, v18), (197, .undef), (207, .undef), (8, .undef)], [cHv x, nodeH x.nodes i, nodeH x.nodes k]⟩
theorem vck_cut2 {T : Tab} {n0 : Nat} {live : List Nat} {a b d : LCode} {S : State} {K : AExit → State → Prop} (X : State → Prop) (h : vck T n0 live (.seq a b) S (thenK X K)) (hd : ∀ S', X S' → vck T n0 live d S' K) : vck T n0 live (.seq a (.seq b d)) S K := by
  rw [Z1g] at h ⊢
  refine vck_mono a _ _ _ (fun e S' hx => ?_) h
  cases e with
  | normal => exact vck_cut X hx hd
  | exit id => exact hx
  | ret => exact hx
theorem cr_rf {T : Tab} {n4 : Nat} (k4 : Knows T n4 sp_Has) (x : XG) (h : RelsOk x) {i k : Nat} (hi : i < x.nodes.length) (hk : k < x.nodes.length) (c : Nat) (hc : c ≤ 64) (K : AExit → State → Prop) :
    vck T 0 vRels (.seq (L_cr_rf n4) (L_cr_co n4)) (crS x i k c .undef .undef .undef .undef .undef .undef)
      (thenK (fun S' => ∃ v66 v85, S' = crS x i k (c + (if hasI x.rf.1 k i = true then 1 else 0)) v66 v85 (.d (.bool (hasI x.co.1 i k || hasI x.co.1 k i))) .undef .undef .undef) K) := by
  have F4 := k4.F; have G4 := k4.G
  have ⟨l1, l2, l3, _⟩ := h.lens
  have hM : maxLen = 9223372036854775807 := rfl
  have w : IntKind.i64.wrap ((c : Int) + 1) = ((c + 1 : Nat) : Int) := by rw [wrap_id (by omega) (by omega)]; omega
  have h3 := h.rf i k hi hk
  unfold L_cr_rf L_cr_co vRels
  cases hb : hasI x.rf.1 k i <;> cases hb2 : hasI x.co.1 i k <;> simp (maxSteps := 3000000) only [crS, nodeH, cHv, lsX, ↓Z1a, ↓Z2b, ↓Z1k, ↓Z05, ↓Z2v, ↓Z2r, nilG_d, nilG_r, ↓Z1g, ↓Z19, ↓Z0d, ↓Z1l, ↓Z0m, ↓Z20, ↓Z30, ↓Z33, ↓Z24, ↓Z1j, ↓Z2m, ↓Z28, ↓Z1z, ↓Z3r, ↓retK_n, ↓Z3n, ↓Z3p, ↓Z3o, ↓Z41, ↓Z3x, ↓Z4b, ↓Z0j, ↓Z08, ↓Z1b, ↓Z0i, ↓Z1n, nf_mk, Z09, Z18, Z34, Z1c, Z37, evN, Z2i, Z1y, Z36, Z47, Z1x, Z17, Z1i, Z2u, Z2j, Z2f, Z1o, Z2c, evT, Opd.ev, Z02, Z00, Z35, Z45, Z3w, Z27, Z1m, Z2a, Z2e, Z3l, Z1d, Z0c, Z3e, LOp.isNew, State.prune, Z3t, Z31, AV.leaf, Heap.at, Z0k, Z0a, Z1h, Z0g, Z03, idx_I, idx_W, rowW, Z26, Z2w, Z22, Z1e, rowB, Z2y, Z2x, rowN, lens_W, Z3s, Z1f, Z15, w_or, w_and, Z2z, Z4d, w_shl, Z4c, w_shr, Z4e, w_neg, w_add, w_bit, w_eq0, w_eq1, w_eq, Bool.decide_eq_true, Z3h, Z3k, Z3j, Z2n, Z1p, Z04, Z0b, Z0n, Z01, Z21, rowI, RatG.row, LocG.row, ActG.row, StepG.row, StampG.row, ActG.av, ActG.eta, RatG.eta, LocG.eta, beq_true, beq_false, Z2k, Z2t, Z2l, Z2s, Z14, Z0q, Z12, Z13, Z0p, Z0o, Z0e, List.length_set, List.length_replicate, Z06, Int.reduceToNat, evLen, Z29, Z40, Src.all, Src.len, Src.leaf, Src.leafN, Z3c, Z48, joinV, Z0l, Z0r, Z0s, Z0t, Z0u, Z0v, Z0w, Z0x, mkVec, drows, evMk, List.length_map, Z1w, Z23, List.take_length, List.take_left, List.length_append, Nat.le_add_right, ite_self, List.take_of_length_le, Z3d, intOr, Z43, Option.isSome_none, Option.isSome_some, Nat.sub_zero, loadQ, loadT, evBin, evUn, Z0y, Z0z, binT, binQ, chk, Z3u, List.contains_cons, List.contains_nil, Bool.or_false, Bool.false_or, Bool.and_self, resQ, resV, resT, pickV, Z2d, Z4a, Z3q, fnOf, Z3f, isD, HO.drow, viewT, Z3y, evEq, eqV, eqK, eqC1, Z49, Z46, Z3b, Z38, lens_I, Z3m, Z2q, Z1s, Z2p, Z1r, Z2o, Z1q, Z1t, Z10, Z11, Z0f, List.mem_cons, List.not_mem_nil, or_false, forall_eq, putRow, Z3g, get_nil, RetS, RetF, RetD, AV.frz, AV.frzL, AV.freshP, AV.freshL, DV.less, Z2g, Z1u, Z2h, Z1v, Z0h, Z07, Option.some.injEq, AV.tup.injEq, AV.agg.injEq, List.cons.injEq, DV.list.injEq, List.isEmpty_nil, Nat.le_refl, AV.d.injEq, DV.int.injEq, DV.bool.injEq, ↓reduceIte, Nat.reduceEqDiff, Nat.reduceAdd, Nat.reduceBEq, List.length_cons, List.length_nil, List.replicate_succ, List.replicate_zero, List.nil_append, List.cons_append, List.append_nil, List.foldl_cons, List.foldl_nil, List.map_cons, List.map_nil, List.all_cons, List.all_nil, List.set_cons_zero, List.set_cons_succ, List.getD_cons_zero, List.getD_cons_succ, List.drop_zero, List.drop_succ_cons, List.take_succ_cons, List.take_zero, List.flatten_cons, List.flatten_nil, Bool.true_and, Bool.and_true, Bool.not_true, Bool.not_false, true_and, and_true, true_or, or_true, Option.bind_some, Option.map_some, decide_true, decide_false, beq_self_eq_true, true_implies, false_implies, implies_true, not_true_eq_false, not_false_eq_true, and_self, Bool.and_false, Bool.false_and, Nat.reduceLT, Nat.reduceLeDiff, List.reverse_cons, List.reverse_nil, Nat.zero_add, Nat.add_zero, Bool.false_eq_true, List.getElem?_cons_zero, Nat.reduceMul, Nat.mul_one, at_Has, F4, G4, hb, hb2, w]
  · exact ⟨by omega, by omega, by omega, _, _, rfl⟩
  · exact ⟨by omega, by omega, _, _, rfl⟩
  · have h3 := h3 hb
    exact ⟨by omega, fun _ => ⟨fun _ => ⟨fun _ => ⟨by omega, by omega, _, _, rfl⟩, fun a => absurd h3.2.2 a⟩, fun a => absurd h3.2.1 a⟩, fun a => absurd h3.1 a⟩
  · have h3 := h3 hb
    exact ⟨by omega, fun _ => ⟨fun _ => ⟨fun _ => ⟨by omega, _, _, rfl⟩, fun a => absurd h3.2.2 a⟩, fun a => absurd h3.2.1 a⟩, fun a => absurd h3.1 a⟩
theorem vck_cut3 {T : Tab} {n0 : Nat} {live : List Nat} {a b c d : LCode} {S : State} {K : AExit → State → Prop} (X : State → Prop) (h : vck T n0 live (.seq a (.seq b c)) S (thenK X K)) (hd : ∀ S', X S' → vck T n0 live d S' K) : vck T n0 live (.seq a (.seq b (.seq c d))) S K := by
  rw [Z1g] at h ⊢
  refine vck_mono a _ _ _ (fun e S' hx => ?_) h
  cases e with
  | normal => exact vck_cut2 X hx hd
  | exit id => exact hx
  | ret => exact hx
set_option maxHeartbeats 4000000 in
theorem cr_cc {T : Tab} {n4 : Nat} (k4 : Knows T n4 sp_Has) (x : XG) (h : RelsOk x) {i k : Nat} (hi : i < x.nodes.length) (hk : k < x.nodes.length) (c : Nat) (v66 v85 : AV) (K : AExit → State → Prop) :
    vck T 0 vRels (.seq (L_cr_cc n4) (.seq (L_cr_fr n4) (L_cr_h n4))) (crS x i k c v66 v85 (.d (.bool (hasI x.co.1 i k || hasI x.co.1 k i))) .undef .undef .undef)
      (thenK (fun S' => ∃ v66 v85 v17 v119 v141 b, (b = true → hasI x.po.1 i k = true) ∧ S' = crS x i k c v66 v85 v17 v119 v141 (.d (.bool b))) K) := by
  have F4 := k4.F; have G4 := k4.G
  have ⟨l1, l2, l3, l4, l5, l6, l7, l8, l9, l10, l11⟩ := h.lens
  have hM : maxLen = 9223372036854775807 := rfl
  have h4 : (hasI x.co.1 i k || hasI x.co.1 k i) = decide (i ≠ k ∧ (x.nodes.getD i default).loc = 2 ∧ (x.nodes.getD k default).loc = 2 ∧ (x.nodes.getD i default).old = (x.nodes.getD k default).old) := by
    rw [Bool.eq_iff_iff, Bool.or_eq_true, decide_eq_true_eq]; exact h.co i k hi hk
  have h5 := h.fr i k hi hk
  have h6 := h.hangs i k hi hk
  rw [h4]
  unfold L_cr_cc L_cr_fr L_cr_h vRels
  simp (maxSteps := 3000000) only [crS, nodeH, cHv, lsX, ↓Z1a, ↓Z2b, ↓Z1k, ↓Z05, ↓Z2v, ↓Z2r, nilG_d, nilG_r, ↓Z1g, ↓Z19, ↓Z0d, ↓Z1l, ↓Z0m, ↓Z20, ↓Z30, ↓Z33, ↓Z24, ↓Z1j, ↓Z2m, ↓Z28, ↓Z1z, ↓Z3r, ↓retK_n, ↓Z3n, ↓Z3p, ↓Z3o, ↓Z41, ↓Z3x, ↓Z4b, ↓Z0j, ↓Z08, ↓Z1b, ↓Z0i, ↓Z1n, nf_mk, Z09, Z18, Z34, Z1c, Z37, evN, Z2i, Z1y, Z36, Z47, Z1x, Z17, Z1i, Z2u, Z2j, Z2f, Z1o, Z2c, evT, Opd.ev, Z02, Z00, Z35, Z45, Z3w, Z27, Z1m, Z2a, Z2e, Z3l, Z1d, Z0c, Z3e, LOp.isNew, State.prune, Z3t, Z31, AV.leaf, Heap.at, Z0k, Z0a, Z1h, Z0g, Z03, idx_I, idx_W, rowW, Z26, Z2w, Z22, Z1e, rowB, Z2y, Z2x, rowN, lens_W, Z3s, Z1f, Z15, w_or, w_and, Z2z, Z4d, w_shl, Z4c, w_shr, Z4e, w_neg, w_add, w_bit, w_eq0, w_eq1, w_eq, Bool.decide_eq_true, Z3h, Z3k, Z3j, Z2n, Z1p, Z04, Z0b, Z0n, Z01, Z21, rowI, RatG.row, LocG.row, ActG.row, StepG.row, StampG.row, ActG.av, ActG.eta, RatG.eta, LocG.eta, beq_true, beq_false, Z2k, Z2t, Z2l, Z2s, Z14, Z0q, Z12, Z13, Z0p, Z0o, Z0e, List.length_set, List.length_replicate, Z06, Int.reduceToNat, evLen, Z29, Z40, Src.all, Src.len, Src.leaf, Src.leafN, Z3c, Z48, joinV, Z0l, Z0r, Z0s, Z0t, Z0u, Z0v, Z0w, Z0x, mkVec, drows, evMk, List.length_map, Z1w, Z23, List.take_length, List.take_left, List.length_append, Nat.le_add_right, ite_self, List.take_of_length_le, Z3d, intOr, Z43, Option.isSome_none, Option.isSome_some, Nat.sub_zero, loadQ, loadT, evBin, evUn, Z0y, Z0z, binT, binQ, chk, Z3u, List.contains_cons, List.contains_nil, Bool.or_false, Bool.false_or, Bool.and_self, resQ, resV, resT, pickV, Z2d, Z4a, Z3q, fnOf, Z3f, isD, HO.drow, viewT, Z3y, evEq, eqV, eqK, eqC1, Z49, Z46, Z3b, Z38, lens_I, Z3m, Z2q, Z1s, Z2p, Z1r, Z2o, Z1q, Z1t, Z10, Z11, Z0f, List.mem_cons, List.not_mem_nil, or_false, forall_eq, putRow, Z3g, get_nil, RetS, RetF, RetD, AV.frz, AV.frzL, AV.freshP, AV.freshL, DV.less, Z2g, Z1u, Z2h, Z1v, Z0h, Z07, Option.some.injEq, AV.tup.injEq, AV.agg.injEq, List.cons.injEq, DV.list.injEq, List.isEmpty_nil, Nat.le_refl, AV.d.injEq, DV.int.injEq, DV.bool.injEq, ↓reduceIte, Nat.reduceEqDiff, Nat.reduceAdd, Nat.reduceBEq, List.length_cons, List.length_nil, List.replicate_succ, List.replicate_zero, List.nil_append, List.cons_append, List.append_nil, List.foldl_cons, List.foldl_nil, List.map_cons, List.map_nil, List.all_cons, List.all_nil, List.set_cons_zero, List.set_cons_succ, List.getD_cons_zero, List.getD_cons_succ, List.drop_zero, List.drop_succ_cons, List.take_succ_cons, List.take_zero, List.flatten_cons, List.flatten_nil, Bool.true_and, Bool.and_true, Bool.not_true, Bool.not_false, true_and, and_true, true_or, or_true, Option.bind_some, Option.map_some, decide_true, decide_false, beq_self_eq_true, true_implies, false_implies, implies_true, not_true_eq_false, not_false_eq_true, and_self, Bool.and_false, Bool.false_and, Nat.reduceLT, Nat.reduceLeDiff, List.reverse_cons, List.reverse_nil, Nat.zero_add, Nat.add_zero, Bool.false_eq_true, List.getElem?_cons_zero, Nat.reduceMul, Nat.mul_one, at_Has, F4, G4]
  clear h F4 G4 k4 h4
  unfold boolK
  (repeat' (first | intro _ | apply And.intro))
  all_goals first
    | omega
    | (refine ⟨_, _, _, _, _, _, ?_, rfl⟩; intro hb; first | (cases hb; done) | (apply h6; simp only [*, true_or, or_true]; done) | (apply h6; simp_all; done))
    | (exfalso; simp_all; done)
set_option maxHeartbeats 4000000 in
theorem law_CandRels {T : Tab} {n1 n2 n3 n4 n5 n6 n7 : Nat} (k1 : Knows T n1 sp_true) (k2 : Knows T n2 sp_smallE) (k3 : Knows T n3 sp_CBuild) (k4 : Knows T n4 sp_Has) (k5 : Knows T n5 sp_Ring) (k6 : Knows T n6 sp_sameW) (k7 : Knows T n7 sp_Plus) (l : List LocG) (f : Bool) (runs : List RunG) (g : Bool) (fr : List Int) (ff : Bool) (order : List (List Int × Bool)) (og : Bool)
    (hr : runs.length ≤ maxLen) (hs : smallR runs) (ho : smallO order) (hok : (cbuildG l runs g fr order).2 = 0 → RelsOk (cbuildG l runs g fr order).1) (hno : (cbuildG l runs g fr order).2 ≠ 0 → (cbuildG l runs g fr order).1.nodes.length = 0) :
    Holds T V_law18_CandRels (L_law18_CandRels n1 n2 n3 n4 n5 n6 n7) R_law18_CandRels [.d (.list (l.map LocG.row) f), .d (.list (runs.map RunG.row) g), .d (.list (fr.map rowI) ff), .d (.list (order.map rowLI) og)] := by
  have F1 := k1.F; have G1 := k1.G; have F2 := k2.F; have G2 := k2.G; have F3 := k3.F; have G3 := k3.G; have F4 := k4.F; have G4 := k4.G; have F5 := k5.F; have G5 := k5.G; have F6 := k6.F; have G6 := k6.G; have F7 := k7.F; have G7 := k7.G
  unfold V_law18_CandRels L_law18_CandRels R_law18_CandRels
  simp (maxSteps := 3000000) only [↓Z1a, ↓Z2b, ↓Z1k, ↓Z05, ↓Z2v, ↓Z2r, nilG_d, nilG_r, ↓Z1g, ↓Z19, ↓Z0d, ↓Z1l, ↓Z0m, ↓Z20, ↓Z30, ↓Z33, ↓Z24, ↓Z1j, ↓Z2m, ↓Z28, ↓Z1z, ↓Z3r, ↓retK_n, ↓Z3n, ↓Z3p, ↓Z3o, ↓Z41, ↓Z3x, ↓Z4b, ↓Z0j, ↓Z08, ↓Z1b, ↓Z0i, ↓Z1n, nf_mk, Z09, Z18, Z34, Z1c, Z37, evN, Z2i, Z1y, Z36, Z47, Z1x, Z17, Z1i, Z2u, Z2j, Z2f, Z1o, Z2c, evT, Opd.ev, Z02, Z00, Z35, Z45, Z3w, Z27, Z1m, Z2a, Z2e, Z3l, Z1d, Z0c, Z3e, LOp.isNew, State.prune, Z3t, Z31, AV.leaf, Heap.at, Z0k, Z0a, Z1h, Z0g, Z03, idx_I, idx_W, rowW, Z26, Z2w, Z22, Z1e, rowB, Z2y, Z2x, rowN, lens_W, Z3s, Z1f, Z15, w_or, w_and, Z2z, Z4d, w_shl, Z4c, w_shr, Z4e, w_neg, w_add, w_bit, w_eq0, w_eq1, w_eq, Bool.decide_eq_true, Z3h, Z3k, Z3j, Z2n, Z1p, Z04, Z0b, Z0n, Z01, Z21, rowI, RatG.row, LocG.row, ActG.row, StepG.row, StampG.row, ActG.av, ActG.eta, RatG.eta, LocG.eta, beq_true, beq_false, Z2k, Z2t, Z2l, Z2s, Z14, Z0q, Z12, Z13, Z0p, Z0o, Z0e, List.length_set, List.length_replicate, Z06, Int.reduceToNat, evLen, Z29, Z40, Src.all, Src.len, Src.leaf, Src.leafN, Z3c, Z48, joinV, Z0l, Z0r, Z0s, Z0t, Z0u, Z0v, Z0w, Z0x, mkVec, drows, evMk, List.length_map, Z1w, Z23, List.take_length, List.take_left, List.length_append, Nat.le_add_right, ite_self, List.take_of_length_le, Z3d, intOr, Z43, Option.isSome_none, Option.isSome_some, Nat.sub_zero, loadQ, loadT, evBin, evUn, Z0y, Z0z, binT, binQ, chk, Z3u, List.contains_cons, List.contains_nil, Bool.or_false, Bool.false_or, Bool.and_self, resQ, resV, resT, pickV, Z2d, Z4a, Z3q, fnOf, Z3f, isD, HO.drow, viewT, Z3y, evEq, eqV, eqK, eqC1, Z49, Z46, Z3b, Z38, lens_I, Z3m, Z2q, Z1s, Z2p, Z1r, Z2o, Z1q, Z1t, Z10, Z11, Z0f, List.mem_cons, List.not_mem_nil, or_false, forall_eq, putRow, Z3g, get_nil, RetS, RetF, RetD, AV.frz, AV.frzL, AV.freshP, AV.freshL, DV.less, Z2g, Z1u, Z2h, Z1v, Z0h, Z07, Option.some.injEq, AV.tup.injEq, AV.agg.injEq, List.cons.injEq, DV.list.injEq, List.isEmpty_nil, Nat.le_refl, AV.d.injEq, DV.int.injEq, DV.bool.injEq, ↓reduceIte, Nat.reduceEqDiff, Nat.reduceAdd, Nat.reduceBEq, List.length_cons, List.length_nil, List.replicate_succ, List.replicate_zero, List.nil_append, List.cons_append, List.append_nil, List.foldl_cons, List.foldl_nil, List.map_cons, List.map_nil, List.all_cons, List.all_nil, List.set_cons_zero, List.set_cons_succ, List.getD_cons_zero, List.getD_cons_succ, List.drop_zero, List.drop_succ_cons, List.take_succ_cons, List.take_zero, List.flatten_cons, List.flatten_nil, Bool.true_and, Bool.and_true, Bool.not_true, Bool.not_false, true_and, and_true, true_or, or_true, Option.bind_some, Option.map_some, decide_true, decide_false, beq_self_eq_true, true_implies, false_implies, implies_true, not_true_eq_false, not_false_eq_true, and_self, Bool.and_false, Bool.false_and, Nat.reduceLT, Nat.reduceLeDiff, List.reverse_cons, List.reverse_nil, Nat.zero_add, Nat.add_zero, Bool.false_eq_true, List.getElem?_cons_zero, Nat.reduceMul, Nat.mul_one, at_true, at_smallE, at_CBuild, XG.av, lsX, at_Has, at_Ring, at_sameW, at_Plus, F1, G1, F2, G2, F3, G3, F4, G4, F5, G5, F6, G6, F7, G7]
  generalize hx : (cbuildG l runs g fr order).1 = x at *
  refine ⟨hr, ?_⟩
  cases hE : smallEF l runs with
  | false => exact ⟨fun h => (by cases h), fun _ => trivial⟩
  | true =>
    refine ⟨fun _ => ⟨⟨hs, ho⟩, fun he => ?_, fun he => ?_⟩, fun h => (by cases h)⟩
    · have hX := hok he
      obtain ⟨h1, ⟨l1, l2, l3, l4, l5, l6, l7, l8, l9, l10, l11⟩, h3, h4, h5, h6, h7, h8, h9, h10⟩ := hok he
      have hM : maxLen = 9223372036854775807 := rfl
      clear hok hno
      refine Loop.fam [9, 11, 12] (cLt1 x) (fun i => i ≤ x.nodes.length) (fun i => x.nodes.length - i) 0 [0] (by simp) (by simp) (by simp only [State.can, AV.can, AV.canL, HO.can, Z25, idx, Z02, Z00, Heap.at, Nat.reduceBEq, ↓reduceIte, Nat.reduceEqDiff, Option.getD_some, Option.map_some, List.map_cons, List.map_nil, List.getD_cons_zero, List.getD_cons_succ, cLt1, cHv, lsX]; rfl) (by omega) ?_
      intro i hi
      have hi : i ≤ x.nodes.length := hi
      simp (maxSteps := 3000000) only [cLt1, cHv, lsX, ↓Z1a, ↓Z2b, ↓Z1k, ↓Z05, ↓Z2v, ↓Z2r, nilG_d, nilG_r, ↓Z1g, ↓Z19, ↓Z0d, ↓Z1l, ↓Z0m, ↓Z20, ↓Z30, ↓Z33, ↓Z24, ↓Z1j, ↓Z2m, ↓Z28, ↓Z1z, ↓Z3r, ↓retK_n, ↓Z3n, ↓Z3p, ↓Z3o, ↓Z41, ↓Z3x, ↓Z4b, ↓Z0j, ↓Z08, ↓Z1b, ↓Z0i, ↓Z1n, nf_mk, Z09, Z18, Z34, Z1c, Z37, evN, Z2i, Z1y, Z36, Z47, Z1x, Z17, Z1i, Z2u, Z2j, Z2f, Z1o, Z2c, evT, Opd.ev, Z02, Z00, Z35, Z45, Z3w, Z27, Z1m, Z2a, Z2e, Z3l, Z1d, Z0c, Z3e, LOp.isNew, State.prune, Z3t, Z31, AV.leaf, Heap.at, Z0k, Z0a, Z1h, Z0g, Z03, idx_I, idx_W, rowW, Z26, Z2w, Z22, Z1e, rowB, Z2y, Z2x, rowN, lens_W, Z3s, Z1f, Z15, w_or, w_and, Z2z, Z4d, w_shl, Z4c, w_shr, Z4e, w_neg, w_add, w_bit, w_eq0, w_eq1, w_eq, Bool.decide_eq_true, Z3h, Z3k, Z3j, Z2n, Z1p, Z04, Z0b, Z0n, Z01, Z21, rowI, RatG.row, LocG.row, ActG.row, StepG.row, StampG.row, ActG.av, ActG.eta, RatG.eta, LocG.eta, beq_true, beq_false, Z2k, Z2t, Z2l, Z2s, Z14, Z0q, Z12, Z13, Z0p, Z0o, Z0e, List.length_set, List.length_replicate, Z06, Int.reduceToNat, evLen, Z29, Z40, Src.all, Src.len, Src.leaf, Src.leafN, Z3c, Z48, joinV, Z0l, Z0r, Z0s, Z0t, Z0u, Z0v, Z0w, Z0x, mkVec, drows, evMk, List.length_map, Z1w, Z23, List.take_length, List.take_left, List.length_append, Nat.le_add_right, ite_self, List.take_of_length_le, Z3d, intOr, Z43, Option.isSome_none, Option.isSome_some, Nat.sub_zero, loadQ, loadT, evBin, evUn, Z0y, Z0z, binT, binQ, chk, Z3u, List.contains_cons, List.contains_nil, Bool.or_false, Bool.false_or, Bool.and_self, resQ, resV, resT, pickV, Z2d, Z4a, Z3q, fnOf, Z3f, isD, HO.drow, viewT, Z3y, evEq, eqV, eqK, eqC1, Z49, Z46, Z3b, Z38, lens_I, Z3m, Z2q, Z1s, Z2p, Z1r, Z2o, Z1q, Z1t, Z10, Z11, Z0f, List.mem_cons, List.not_mem_nil, or_false, forall_eq, putRow, Z3g, get_nil, RetS, RetF, RetD, AV.frz, AV.frzL, AV.freshP, AV.freshL, DV.less, Z2g, Z1u, Z2h, Z1v, Z0h, Z07, Option.some.injEq, AV.tup.injEq, AV.agg.injEq, List.cons.injEq, DV.list.injEq, List.isEmpty_nil, Nat.le_refl, AV.d.injEq, DV.int.injEq, DV.bool.injEq, ↓reduceIte, Nat.reduceEqDiff, Nat.reduceAdd, Nat.reduceBEq, List.length_cons, List.length_nil, List.replicate_succ, List.replicate_zero, List.nil_append, List.cons_append, List.append_nil, List.foldl_cons, List.foldl_nil, List.map_cons, List.map_nil, List.all_cons, List.all_nil, List.set_cons_zero, List.set_cons_succ, List.getD_cons_zero, List.getD_cons_succ, List.drop_zero, List.drop_succ_cons, List.take_succ_cons, List.take_zero, List.flatten_cons, List.flatten_nil, Bool.true_and, Bool.and_true, Bool.not_true, Bool.not_false, true_and, and_true, true_or, or_true, Option.bind_some, Option.map_some, decide_true, decide_false, beq_self_eq_true, true_implies, false_implies, implies_true, not_true_eq_false, not_false_eq_true, and_self, Bool.and_false, Bool.false_and, Nat.reduceLT, Nat.reduceLeDiff, List.reverse_cons, List.reverse_nil, Nat.zero_add, Nat.add_zero, Bool.false_eq_true, List.getElem?_cons_zero, Nat.reduceMul, Nat.mul_one, at_true, at_smallE, at_Has, at_Ring, at_sameW, at_Plus, F1, G1, F2, G2, F3, G3, F4, G4, F5, G5, F6, G6, F7, G7]
      refine ⟨fun e => ?_, fun e => ?_⟩
      · have e' : i < x.nodes.length := by omega
        refine Loop.fam [9, 11, 12, 13, 14] (cLt2 x i) (fun y => y.1 ≤ x.nodes.length ∧ y.2 = srcN x.rf.1 i y.1) (fun y => x.nodes.length - y.1) (0, 0) [0] (by simp) (by simp) (by simp only [State.can, AV.can, AV.canL, HO.can, Z25, idx, Z02, Z00, Heap.at, Nat.reduceBEq, ↓reduceIte, Nat.reduceEqDiff, Option.getD_some, Option.map_some, List.map_cons, List.map_nil, List.getD_cons_zero, List.getD_cons_succ, cLt2, cHv, lsX]; rfl) ⟨Nat.zero_le _, rfl⟩ ?_
        rintro ⟨k, c⟩ ⟨j1, j2⟩
        have j1 : k ≤ x.nodes.length := j1
        have j2 : c = srcN x.rf.1 i k := j2
        simp (maxSteps := 3000000) only [cLt2, cHv, lsX, ↓Z1a, ↓Z2b, ↓Z1k, ↓Z05, ↓Z2v, ↓Z2r, nilG_d, nilG_r, ↓Z1g, ↓Z19, ↓Z0d, ↓Z1l, ↓Z0m, ↓Z20, ↓Z30, ↓Z33, ↓Z24, ↓Z1j, ↓Z2m, ↓Z28, ↓Z1z, ↓Z3r, ↓retK_n, ↓Z3n, ↓Z3p, ↓Z3o, ↓Z41, ↓Z3x, ↓Z4b, ↓Z0j, ↓Z08, ↓Z1b, ↓Z0i, ↓Z1n, nf_mk, Z09, Z18, Z34, Z1c, Z37, evN, Z2i, Z1y, Z36, Z47, Z1x, Z17, Z1i, Z2u, Z2j, Z2f, Z1o, Z2c, evT, Opd.ev, Z02, Z00, Z35, Z45, Z3w, Z27, Z1m, Z2a, Z2e, Z3l, Z1d, Z0c, Z3e, LOp.isNew, State.prune, Z3t, Z31, AV.leaf, Heap.at, Z0k, Z0a, Z1h, Z0g, Z03, idx_I, idx_W, rowW, Z26, Z2w, Z22, Z1e, rowB, Z2y, Z2x, rowN, lens_W, Z3s, Z1f, Z15, w_or, w_and, Z2z, Z4d, w_shl, Z4c, w_shr, Z4e, w_neg, w_add, w_bit, w_eq0, w_eq1, w_eq, Bool.decide_eq_true, Z3h, Z3k, Z3j, Z2n, Z1p, Z04, Z0b, Z0n, Z01, Z21, rowI, RatG.row, LocG.row, ActG.row, StepG.row, StampG.row, ActG.av, ActG.eta, RatG.eta, LocG.eta, beq_true, beq_false, Z2k, Z2t, Z2l, Z2s, Z14, Z0q, Z12, Z13, Z0p, Z0o, Z0e, List.length_set, List.length_replicate, Z06, Int.reduceToNat, evLen, Z29, Z40, Src.all, Src.len, Src.leaf, Src.leafN, Z3c, Z48, joinV, Z0l, Z0r, Z0s, Z0t, Z0u, Z0v, Z0w, Z0x, mkVec, drows, evMk, List.length_map, Z1w, Z23, List.take_length, List.take_left, List.length_append, Nat.le_add_right, ite_self, List.take_of_length_le, Z3d, intOr, Z43, Option.isSome_none, Option.isSome_some, Nat.sub_zero, loadQ, loadT, evBin, evUn, Z0y, Z0z, binT, binQ, chk, Z3u, List.contains_cons, List.contains_nil, Bool.or_false, Bool.false_or, Bool.and_self, resQ, resV, resT, pickV, Z2d, Z4a, Z3q, fnOf, Z3f, isD, HO.drow, viewT, Z3y, evEq, eqV, eqK, eqC1, Z49, Z46, Z3b, Z38, lens_I, Z3m, Z2q, Z1s, Z2p, Z1r, Z2o, Z1q, Z1t, Z10, Z11, Z0f, List.mem_cons, List.not_mem_nil, or_false, forall_eq, putRow, Z3g, get_nil, RetS, RetF, RetD, AV.frz, AV.frzL, AV.freshP, AV.freshL, DV.less, Z2g, Z1u, Z2h, Z1v, Z0h, Z07, Option.some.injEq, AV.tup.injEq, AV.agg.injEq, List.cons.injEq, DV.list.injEq, List.isEmpty_nil, Nat.le_refl, AV.d.injEq, DV.int.injEq, DV.bool.injEq, ↓reduceIte, Nat.reduceEqDiff, Nat.reduceAdd, Nat.reduceBEq, List.length_cons, List.length_nil, List.replicate_succ, List.replicate_zero, List.nil_append, List.cons_append, List.append_nil, List.foldl_cons, List.foldl_nil, List.map_cons, List.map_nil, List.all_cons, List.all_nil, List.set_cons_zero, List.set_cons_succ, List.getD_cons_zero, List.getD_cons_succ, List.drop_zero, List.drop_succ_cons, List.take_succ_cons, List.take_zero, List.flatten_cons, List.flatten_nil, Bool.true_and, Bool.and_true, Bool.not_true, Bool.not_false, true_and, and_true, true_or, or_true, Option.bind_some, Option.map_some, decide_true, decide_false, beq_self_eq_true, true_implies, false_implies, implies_true, not_true_eq_false, not_false_eq_true, and_self, Bool.and_false, Bool.false_and, Nat.reduceLT, Nat.reduceLeDiff, List.reverse_cons, List.reverse_nil, Nat.zero_add, Nat.add_zero, Bool.false_eq_true, List.getElem?_cons_zero, Nat.reduceMul, Nat.mul_one, at_true, at_smallE, at_Has, at_Ring, at_sameW, at_Plus, F1, G1, F2, G2, F3, G3, F4, G4, F5, G5, F6, G6, F7, G7]
        have w1 : k < x.nodes.length → IntKind.i64.wrap ((k : Int) + 1) = ((k + 1 : Nat) : Int) := fun h => by rw [wrap_id (by omega) (by omega)]; omega
        refine ⟨fun d => ⟨⟨by omega, by omega⟩, ⟨by omega, by omega⟩, ?_⟩, fun d => ?_⟩
        · have d' : k < x.nodes.length := by omega
          have hc : c ≤ 64 := by have := srcN_le x.rf.1 i k; omega
          rw [← Z1g]
          refine vck_cut2 _ (cr_rf k4 x hX e' d' c hc _) ?_
          rintro S' ⟨v66, v85, rfl⟩
          refine vck_cut3 _ (cr_cc k4 x hX e' d' _ v66 v85 _) ?_
          rintro S' ⟨v66', v85', v17, v119, v141, b, hb, rfl⟩
          unfold crS nodeH
          simp (maxSteps := 3000000) only [cHv, lsX, ↓Z1a, ↓Z2b, ↓Z1k, ↓Z05, ↓Z2v, ↓Z2r, nilG_d, nilG_r, ↓Z1g, ↓Z19, ↓Z0d, ↓Z1l, ↓Z0m, ↓Z20, ↓Z30, ↓Z33, ↓Z24, ↓Z1j, ↓Z2m, ↓Z28, ↓Z1z, ↓Z3r, ↓retK_n, ↓Z3n, ↓Z3p, ↓Z3o, ↓Z41, ↓Z3x, ↓Z4b, ↓Z0j, ↓Z08, ↓Z1b, ↓Z0i, ↓Z1n, nf_mk, Z09, Z18, Z34, Z1c, Z37, evN, Z2i, Z1y, Z36, Z47, Z1x, Z17, Z1i, Z2u, Z2j, Z2f, Z1o, Z2c, evT, Opd.ev, Z02, Z00, Z35, Z45, Z3w, Z27, Z1m, Z2a, Z2e, Z3l, Z1d, Z0c, Z3e, LOp.isNew, State.prune, Z3t, Z31, AV.leaf, Heap.at, Z0k, Z0a, Z1h, Z0g, Z03, idx_I, idx_W, rowW, Z26, Z2w, Z22, Z1e, rowB, Z2y, Z2x, rowN, lens_W, Z3s, Z1f, Z15, w_or, w_and, Z2z, Z4d, w_shl, Z4c, w_shr, Z4e, w_neg, w_add, w_bit, w_eq0, w_eq1, w_eq, Bool.decide_eq_true, Z3h, Z3k, Z3j, Z2n, Z1p, Z04, Z0b, Z0n, Z01, Z21, rowI, RatG.row, LocG.row, ActG.row, StepG.row, StampG.row, ActG.av, ActG.eta, RatG.eta, LocG.eta, beq_true, beq_false, Z2k, Z2t, Z2l, Z2s, Z14, Z0q, Z12, Z13, Z0p, Z0o, Z0e, List.length_set, List.length_replicate, Z06, Int.reduceToNat, evLen, Z29, Z40, Src.all, Src.len, Src.leaf, Src.leafN, Z3c, Z48, joinV, Z0l, Z0r, Z0s, Z0t, Z0u, Z0v, Z0w, Z0x, mkVec, drows, evMk, List.length_map, Z1w, Z23, List.take_length, List.take_left, List.length_append, Nat.le_add_right, ite_self, List.take_of_length_le, Z3d, intOr, Z43, Option.isSome_none, Option.isSome_some, Nat.sub_zero, loadQ, loadT, evBin, evUn, Z0y, Z0z, binT, binQ, chk, Z3u, List.contains_cons, List.contains_nil, Bool.or_false, Bool.false_or, Bool.and_self, resQ, resV, resT, pickV, Z2d, Z4a, Z3q, fnOf, Z3f, isD, HO.drow, viewT, Z3y, evEq, eqV, eqK, eqC1, Z49, Z46, Z3b, Z38, lens_I, Z3m, Z2q, Z1s, Z2p, Z1r, Z2o, Z1q, Z1t, Z10, Z11, Z0f, List.mem_cons, List.not_mem_nil, or_false, forall_eq, putRow, Z3g, get_nil, RetS, RetF, RetD, AV.frz, AV.frzL, AV.freshP, AV.freshL, DV.less, Z2g, Z1u, Z2h, Z1v, Z0h, Z07, Option.some.injEq, AV.tup.injEq, AV.agg.injEq, List.cons.injEq, DV.list.injEq, List.isEmpty_nil, Nat.le_refl, AV.d.injEq, DV.int.injEq, DV.bool.injEq, ↓reduceIte, Nat.reduceEqDiff, Nat.reduceAdd, Nat.reduceBEq, List.length_cons, List.length_nil, List.replicate_succ, List.replicate_zero, List.nil_append, List.cons_append, List.append_nil, List.foldl_cons, List.foldl_nil, List.map_cons, List.map_nil, List.all_cons, List.all_nil, List.set_cons_zero, List.set_cons_succ, List.getD_cons_zero, List.getD_cons_succ, List.drop_zero, List.drop_succ_cons, List.take_succ_cons, List.take_zero, List.flatten_cons, List.flatten_nil, Bool.true_and, Bool.and_true, Bool.not_true, Bool.not_false, true_and, and_true, true_or, or_true, Option.bind_some, Option.map_some, decide_true, decide_false, beq_self_eq_true, true_implies, false_implies, implies_true, not_true_eq_false, not_false_eq_true, and_self, Bool.and_false, Bool.false_and, Nat.reduceLT, Nat.reduceLeDiff, List.reverse_cons, List.reverse_nil, Nat.zero_add, Nat.add_zero, Bool.false_eq_true, List.getElem?_cons_zero, Nat.reduceMul, Nat.mul_one, at_true, at_smallE, at_Has, at_Ring, at_sameW, at_Plus, F1, G1, F2, G2, F3, G3, F4, G4, F5, G5, F6, G6, F7, G7]
          rw [w1 d']
          have hstep : srcN x.rf.1 i (k + 1) = c + (if hasI x.rf.1 k i = true then 1 else 0) := by rw [j2]; rfl
          have hm : x.nodes.length - (k + 1) < x.nodes.length - k := by omega
          cases b with
          | false => exact ⟨fun h => (by cases h), fun _ => Z44.mk [0] (k + 1, srcN x.rf.1 i (k + 1)) (by simp) (by simp) (by simp only [State.can, AV.can, AV.canL, HO.can, Z25, idx, Z02, Z00, Heap.at, Nat.reduceBEq, ↓reduceIte, Nat.reduceEqDiff, Option.getD_some, Option.map_some, List.map_cons, List.map_nil, List.getD_cons_zero, List.getD_cons_succ, cLt2, cHv, lsX, hstep]) ⟨d', rfl⟩ hm⟩
          | true =>
            rw [hb rfl]
            exact ⟨fun _ => ⟨by omega, fun _ => Z44.mk [0] (k + 1, srcN x.rf.1 i (k + 1)) (by simp) (by simp) (by simp only [State.can, AV.can, AV.canL, HO.can, Z25, idx, Z02, Z00, Heap.at, Nat.reduceBEq, ↓reduceIte, Nat.reduceEqDiff, Option.getD_some, Option.map_some, List.map_cons, List.map_nil, List.getD_cons_zero, List.getD_cons_succ, cLt2, cHv, lsX, hstep]) ⟨d', rfl⟩ hm, fun h => (by cases h)⟩, fun h => (by cases h)⟩
        · have d' : k = x.nodes.length := by omega
          subst d'
          have h7 := h7 i e'
          have hq : (decide ((x.nodes.getD i default).loc = 1) == decide ((c : Int) = 1)) = true := by
            rw [beq_iff_eq, decide_eq_decide]
            rw [j2]
            exact h7.trans ⟨fun h => by omega, fun h => by omega⟩
          have w2 : IntKind.i64.wrap ((i : Int) + 1) = ((i + 1 : Nat) : Int) := by rw [wrap_id (by omega) (by omega)]; omega
          rw [hq, w2]
          exact ⟨⟨by omega, by omega⟩, fun _ => Z44.mk [0] (i + 1) (by simp) (by simp) (by simp only [State.can, AV.can, AV.canL, HO.can, Z25, idx, Z02, Z00, Heap.at, Nat.reduceBEq, ↓reduceIte, Nat.reduceEqDiff, Option.getD_some, Option.map_some, List.map_cons, List.map_nil, List.getD_cons_zero, List.getD_cons_succ, cLt1, cHv, lsX]) e' (by show x.nodes.length - (i + 1) < x.nodes.length - i; omega), fun h => (by cases h)⟩
      · exact ⟨by omega, by rw [h8]; exact ⟨fun h => (by cases h), fun _ => ⟨by omega, by rw [h9]; exact ⟨fun h => (by cases h), fun _ => ⟨by omega, by rw [h10]; omega, decide_eq_true h10⟩⟩⟩⟩⟩
    · have := hno he
      exact decide_eq_true (by omega)
end Go.Ago

/- The law CandRels: what a built execution is like. Conditions: none. -/
set_option maxRecDepth 100000
set_option linter.unusedSimpArgs false
set_option linter.unusedVariables false
set_option linter.unusedSectionVars false
namespace Go.Ago
attribute [local irreducible] vck
theorem hasN_of18 {n : Nat} (hn : n ≤ 64) {ps : List RatG} (h : ∀ p ∈ ps, 0 ≤ p.num ∧ p.num < n ∧ 0 ≤ p.den ∧ p.den < n) {i k : Nat} : hasN (ofG n ps) i k = true ↔ (⟨i, k⟩ : RatG) ∈ ps := by
  have he : ofErr n ps = 0 := by
    unfold ofErr
    rw [if_neg (by omega), if_neg]
    rw [Bool.not_eq_true, List.any_eq_false]
    intro p hp
    obtain ⟨a, b, c, d⟩ := h p hp
    unfold ofBad
    rw [decide_eq_false (show ¬ p.num < 0 by omega), decide_eq_false (show ¬ (n : Int) ≤ p.num by omega), decide_eq_false (show ¬ p.den < 0 by omega), decide_eq_false (show ¬ (n : Int) ≤ p.den by omega)]
    simp
  unfold ofG
  rw [if_pos he, Int.toNat_natCast, hasN_mk hn]
  unfold ofP
  simp only [Bool.and_eq_true, decide_eq_true_eq, List.any_eq_true]
  constructor
  · rintro ⟨_, p, hp, h1, h2⟩
    have : p = ⟨i, k⟩ := by cases p; simp only at h1 h2; rw [h1, h2]
    rw [← this]; exact hp
  · intro hp
    have := h _ hp
    simp only at this
    exact ⟨⟨by omega, by omega⟩, _, hp, rfl, rfl⟩
theorem ofG_len18 {n : Nat} (hn : n ≤ 64) {ps : List RatG} (h : ∀ p ∈ ps, 0 ≤ p.num ∧ p.num < n ∧ 0 ≤ p.den ∧ p.den < n) : (ofG n ps).length = n := by
  have he : ofErr n ps = 0 := by
    unfold ofErr
    rw [if_neg (by omega), if_neg]
    rw [Bool.not_eq_true, List.any_eq_false]
    intro p hp
    obtain ⟨a, b, c, d⟩ := h p hp
    unfold ofBad
    rw [decide_eq_false (show ¬ p.num < 0 by omega), decide_eq_false (show ¬ (n : Int) ≤ p.num by omega), decide_eq_false (show ¬ p.den < 0 by omega), decide_eq_false (show ¬ (n : Int) ≤ p.den by omega)]
    simp
  unfold ofG
  rw [if_pos he, Int.toNat_natCast, mkR_len]
/-! ### Readers -/
theorem okN_iff {D : List NodeG} {w : Int} {i : Nat} : okN D w i = true ↔ 0 ≤ w ∧ w < D.length ∧ (D.getD w.toNat default).loc = 2 ∧ (D.getD w.toNat default).old = (D.getD i default).old ∧ (D.getD w.toNat default).new = (D.getD i default).new := by
  unfold okN; simp only [Bool.and_eq_true, decide_eq_true_eq]
  exact ⟨fun ⟨⟨⟨⟨a, b⟩, c⟩, d⟩, e⟩ => ⟨a, b, c, d, e⟩, fun ⟨a, b, c, d, e⟩ => ⟨⟨⟨⟨a, b⟩, c⟩, d⟩, e⟩⟩
theorem rdN_mem {D : List NodeG} {fr : List Int} : ∀ {i : Nat} {r : List Int} {ps : List RatG}, rdN D fr i = some (r, ps) →
    (∀ p ∈ ps, ∃ j, j < i ∧ p.den = j ∧ (D.getD j default).loc = 1 ∧ okN D p.num j = true) ∧ (∀ j, j < i → (D.getD j default).loc = 1 → ∃ p ∈ ps, p.den = j) ∧ (∀ p ∈ ps, ∀ q ∈ ps, p.den = q.den → p.num = q.num) := by
  intro i
  induction i with
  | zero => intro r ps h; simp [rdN] at h; rw [h.2]; simp
  | succ i ih =>
    intro r ps h
    unfold rdN at h
    split at h
    · cases h
    · rename_i r0 ps0 h0
      obtain ⟨g1, g2, g3⟩ := ih h0
      split at h
      · rename_i hR
        split at h
        · cases h
        · rename_i w r1
          split at h
          · rename_i hk
            simp at h
            rw [← h.2]
            refine ⟨fun p hp => ?_, fun j hj hl => ?_, fun p hp q hq e => ?_⟩
            · rcases List.mem_append.1 hp with hp | hp
              · obtain ⟨j, h1, h2⟩ := g1 p hp
                exact ⟨j, by omega, h2⟩
              · simp at hp; subst hp
                exact ⟨i, by omega, rfl, hR, hk⟩
            · by_cases e : j = i
              · exact ⟨⟨w, i⟩, by simp, by rw [e]⟩
              · obtain ⟨p, hp, hd⟩ := g2 j (by omega) hl
                exact ⟨p, List.mem_append.2 (.inl hp), hd⟩
            · rcases List.mem_append.1 hp with hp | hp
              · rcases List.mem_append.1 hq with hq | hq
                · exact g3 p hp q hq e
                · obtain ⟨j, h1, h2, _⟩ := g1 p hp
                  simp at hq; subst hq; simp at e; omega
              · rcases List.mem_append.1 hq with hq | hq
                · obtain ⟨j, h1, h2, _⟩ := g1 q hq
                  simp at hp; subst hp; simp at e; omega
                · simp at hp hq; subst hp; subst hq; rfl
          · cases h
      · rename_i hR
        simp at h
        rw [← h.2]
        refine ⟨fun p hp => ?_, fun j hj hl => ?_, g3⟩
        · obtain ⟨j, h1, h2⟩ := g1 p hp
          exact ⟨j, by omega, h2⟩
        · by_cases e : j = i
          · subst e; exact absurd hl hR
          · exact g2 j (by omega) hl
/-! ### The order of a location's writes -/
def wN (D : List NodeG) (t : Nat) (j : Int) : Prop := 0 ≤ j ∧ j < D.length ∧ (D.getD j.toNat default).loc = 2 ∧ (D.getD j.toNat default).old = t
theorem mem_wantN {D : List NodeG} {n loc : Nat} : ∀ {i : Nat} {j : Int}, j ∈ wantN D n loc i ↔ ∃ k : Nat, j = ((n + k : Nat) : Int) ∧ k < i ∧ (D.getD (n + k) default).loc = 2 ∧ (D.getD (n + k) default).old = loc := by
  intro i
  induction i with
  | zero => intro j; simp [wantN]
  | succ i ih =>
    intro j
    unfold wantN
    split
    · rename_i h
      rw [List.mem_append, ih]
      constructor
      · rintro (⟨k, h1, h2, h3⟩ | h1)
        · exact ⟨k, h1, by omega, h3⟩
        · exact ⟨i, by simpa using h1, by omega, h.1, h.2⟩
      · rintro ⟨k, h1, h2, h3⟩
        by_cases e : k = i
        · exact .inr (by rw [h1, e]; simp)
        · exact .inl ⟨k, h1, by omega, h3⟩
    · rename_i h
      rw [ih]
      constructor
      · rintro ⟨k, h1, h2, h3⟩; exact ⟨k, h1, by omega, h3⟩
      · rintro ⟨k, h1, h2, h4, h5⟩
        by_cases e : k = i
        · subst e; exact absurd ⟨h4, h5⟩ h
        · exact ⟨k, h1, by omega, h4, h5⟩
theorem wantN_nodup {D : List NodeG} {n loc : Nat} : ∀ {i : Nat}, (wantN D n loc i).Nodup := by
  intro i
  induction i with
  | zero => exact List.nodup_nil
  | succ i ih =>
    unfold wantN
    split
    · rw [List.nodup_append]
      refine ⟨ih, by simp, fun a ha b hb => ?_⟩
      obtain ⟨k, h1, h2, _⟩ := mem_wantN.1 ha
      simp at hb; omega
    · exact ih
theorem sort_perm18 (l : List Int) : (sortI l).Perm l := List.mergeSort_perm l _
theorem mem_pairF {t : Nat} {l : List Int} {p : RatG} : ∀ {n : Nat}, n ≤ l.length → (p ∈ pairF t l n ↔ ∃ a b, b < n ∧ a ≤ b ∧ p = ⟨((t : Int) :: l).getD a default, l.getD b default⟩) := by
  intro n
  induction n with
  | zero => intro _; simp [pairF]
  | succ n ih =>
    intro hn
    unfold pairF
    rw [List.mem_append, ih (by omega), List.mem_cons, List.mem_map]
    constructor
    · rintro (⟨a, b, h1, h2⟩ | h | ⟨y, hy, rfl⟩)
      · exact ⟨a, b, by omega, h2⟩
      · exact ⟨0, n, by omega, by omega, h⟩
      · obtain ⟨m, hm, rfl⟩ := List.mem_iff_getElem.1 hy
        rw [List.length_take] at hm
        refine ⟨m + 1, n, by omega, by omega, ?_⟩
        rw [List.getElem_take, List.getD_cons_succ, getD_lt (show m < l.length by omega)]
    · rintro ⟨a, b, h1, h2, rfl⟩
      by_cases e : b = n
      · subst e
        right
        cases a with
        | zero => exact .inl rfl
        | succ a =>
          right
          refine ⟨l.getD a default, ?_, by rw [List.getD_cons_succ]⟩
          rw [getD_lt (show a < l.length by omega)]
          exact List.mem_iff_getElem.2 ⟨a, by rw [List.length_take]; omega, by rw [List.getElem_take]⟩
      · exact .inl ⟨a, b, by omega, h2, rfl⟩
/-- The writes of a location, in their order. -/
def lineN (order : List (List Int × Bool)) (t : Nat) : List Int := (t : Int) :: (order.getD t default).1
theorem coN_mem {D : List NodeG} {n : Nat} {order : List (List Int × Bool)} : ∀ {m : Nat} {ps : List RatG}, coN D n order m = some ps →
    (∀ p : RatG, p ∈ ps ↔ ∃ t i j, t < m ∧ i < j ∧ j < (lineN order t).length ∧ p = ⟨(lineN order t).getD i default, (lineN order t).getD j default⟩) ∧
    ∀ t, t < m → sortI (order.getD t default).1 = wantN D n t (D.length - n) := by
  intro m
  induction m with
  | zero => intro ps h; simp [coN] at h; subst h; simp
  | succ m ih =>
    intro ps h
    unfold coN at h
    split at h
    · cases h
    · rename_i ps0 h0
      split at h
      · rename_i hw
        obtain ⟨g1, g2⟩ := ih h0
        have h := Option.some.inj h
        subst h
        refine ⟨fun p => ?_, fun t ht => ?_⟩
        · rw [List.mem_append, g1]
          constructor
          · rintro (⟨t, i, j, h1, h2⟩ | h1)
            · exact ⟨t, i, j, by omega, h2⟩
            · obtain ⟨a, b, h1, h2, h3⟩ := (mem_pairF (Nat.le_refl _)).1 h1
              exact ⟨m, a, b + 1, by omega, by omega, by unfold lineN; rw [List.length_cons]; omega, by rw [h3]; unfold lineN; rw [List.getD_cons_succ]⟩
          · rintro ⟨t, i, j, h1, h2, h3, h4⟩
            by_cases e : t = m
            · subst e
              cases j with
              | zero => omega
              | succ j => exact .inr ((mem_pairF (Nat.le_refl _)).2 ⟨i, j, by unfold lineN at h3; rw [List.length_cons] at h3; omega, by omega, by rw [h4]; unfold lineN; rw [List.getD_cons_succ]⟩)
            · exact .inl ⟨t, i, j, by omega, h2, h3, h4⟩
        · by_cases e : t = m
          · rw [e]; exact hw
          · exact g2 t (by omega)
      · cases h
/-! ### The nodes -/
theorem nodes_init {l : List LocG} {runs : List RunG} {t : Nat} (ht : t < l.length) : (nodesAll l runs).getD t default = initN (l.getD t default) t := by
  unfold nodesAll
  rw [List.getD_eq_getElem?_getD, List.getElem?_append_left (by rw [initNL_len]; exact ht)]
  unfold initNL
  rw [List.getElem?_map, List.getElem?_range ht]; rfl
theorem nodes_kept {l : List LocG} {runs : List RunG} {i : Nat} (h1 : l.length ≤ i) (h2 : i < (nodesAll l runs).length) : ∃ t e, t < runs.length ∧ e ∈ (runs.getD t default).evs ∧ e.isM = true ∧ (nodesAll l runs).getD i default = nodeOf t e := by
  have hm : (nodesAll l runs).getD i default ∈ keptN runs runs.length := by
    unfold nodesAll at h2 ⊢
    rw [List.length_append, initNL_len] at h2
    rw [List.getD_eq_getElem?_getD, List.getElem?_append_right (by rw [initNL_len]; exact h1), initNL_len, List.getElem?_eq_getElem (by omega)]
    exact List.getElem_mem _
  unfold keptN at hm
  rw [List.mem_flatten] at hm
  obtain ⟨L, hL, hm⟩ := hm
  obtain ⟨t, ht, rfl⟩ := List.mem_map.1 hL
  unfold keepN at hm
  obtain ⟨e, he, h⟩ := List.mem_map.1 hm
  rw [List.mem_filter] at he
  exact ⟨t, e, List.mem_range.1 ht, he.1, he.2, h.symm⟩
theorem nodes_at {l : List LocG} {runs : List RunG} (hr : rightN l runs = true) {i : Nat} (h : i < (nodesAll l runs).length) : ∃ t : Nat, t < l.length ∧ ((nodesAll l runs).getD i default).old = t := by
  by_cases hi : i < l.length
  · rw [nodes_init hi]; exact ⟨i, hi, rfl⟩
  · obtain ⟨t, e, h1, h2, h3, h4⟩ := nodes_kept (Nat.le_of_not_lt hi) h
    rw [h4]
    unfold rightN at hr
    rw [List.all_eq_true] at hr
    have hin : runs.getD t default ∈ runs := by rw [getD_lt h1]; exact List.getElem_mem _
    have := hr _ hin
    rw [List.all_eq_true] at this
    have := this e h2
    unfold EvG.inL at this
    rw [h3] at this
    simp only [Bool.not_true, Bool.false_or, Bool.and_eq_true, decide_eq_true_eq] at this
    exact ⟨e.loc.toNat, by omega, by show e.loc = _; omega⟩
/-! ### What the events say of one another -/
def P8.Good (N : Nat) (P : P8) : Prop := ∀ k r, r ∈ P.get k → r ∈ P.po ∧ 0 ≤ r.num ∧ r.num < r.den ∧ r.den < N
theorem P8.good_nil (N : Nat) : P8.nil.Good N := fun k r h => by rw [P8.get_nil] at h; cases h
theorem addP_nil {c : Bool} {a b : Nat} {r : RatG} (h : r ∈ addP c [] a b) : r = ⟨a, b⟩ := by
  cases c
  · rw [addP_f] at h; cases h
  · rw [addP_t] at h; simpa using h
theorem P8.nil_step {y : WX} {p m k : Nat} {r : RatG} (h : r ∈ (P8.nil.step y p m).get k) : r = ⟨m, y.next⟩ := by
  unfold P8.step at h
  split at h
  · match k, h with
    | 0, h => exact by simpa using (show r ∈ [] ++ [_] from h)
    | 1, h => exact addP_nil h
    | 2, h => exact addP_nil h
    | 3, h => exact addP_nil h
    | 4, h => exact addP_nil h
    | 5, h => exact addP_nil h
    | 6, h => exact addP_nil h
    | _ + 7, h => exact addP_nil h
  · match k, h with
    | 0, h => exact by simpa using (show r ∈ [] ++ [_] from h)
    | 1, h => cases h
    | 2, h => cases h
    | 3, h => cases h
    | 4, h => cases h
    | 5, h => exact addP_nil h
    | 6, h => exact addP_nil h
    | _ + 7, h => cases h
theorem P8.step_po (P : P8) (y : WX) (p m : Nat) : (P.step y p m).po = P.po ++ [⟨m, y.next⟩] := by
  unfold P8.step
  split <;> rfl
theorem P8.Good.step {N : Nat} {P : P8} (h : P.Good N) {y : WX} {p m : Nat} (hm : m < y.next) (hn : y.next < N) : (P.step y p m).Good N := fun k r hr => by
  rw [P8.step_po]
  rcases (P8.step_get P y p m k r).1 hr with hr | hr
  · obtain ⟨a, b⟩ := h k r hr
    exact ⟨List.mem_append.2 (.inl a), b⟩
  · have := P8.nil_step hr
    subst this
    exact ⟨by simp, by show (0 : Int) ≤ (m : Int); omega, by show (m : Int) < (y.next : Int); omega, by show (y.next : Int) < (N : Int); omega⟩
theorem P8.Good.many {N : Nat} {y : WX} (hn : y.next < N) (he : ∀ i, i < y.es.length → (y.es.getD i (0, 0)).2.toNat < y.next) : ∀ {l : List Nat} {P : P8}, P.Good N → (∀ i ∈ l, i < y.es.length) → (P.many y l).Good N
  | [], P, h, _ => h
  | i :: l, P, h, hl => by
    show ((P.step y (y.es.getD i (0, 0)).1.toNat (y.es.getD i (0, 0)).2.toNat).many y l).Good N
    exact P8.Good.many hn he (h.step (he i (hl i (by simp))) hn) (fun j hj => hl j (by simp [hj]))
theorem run_good (c : WC) (s : WS) (N : Nat) (h1 : s.P.Good N) (h2 : ∀ i, i < s.es.length → (s.es.getD i (0, 0)).2.toNat < s.next) : ∀ i, i ≤ c.evs.length → s.next + memN (c.evs.take i) ≤ N →
    (c.run s i).P.Good N ∧ ∀ j, j < (c.run s i).es.length → ((c.run s i).es.getD j (0, 0)).2.toNat < (c.run s i).next
  | 0, _, _ => ⟨h1, h2⟩
  | i + 1, hi, hN => by
    have hx := run_next c s i (by omega)
    have hy := run_next c s (i + 1) hi
    have hle : (c.run s i).next ≤ (c.run s (i + 1)).next := by
      show _ ≤ ((c.run s i).ev c (c.evs.getD i default) i).next
      unfold WS.ev
      split
      · exact Nat.le_succ _
      · exact Nat.le_refl _
    obtain ⟨g1, g2⟩ := run_good c s N h1 h2 i (by omega) (by omega)
    have hy : ((c.run s i).ev c (c.evs.getD i default) i).next = s.next + memN (c.evs.take (i + 1)) := hy
    show ((c.run s i).ev c (c.evs.getD i default) i).P.Good N ∧ ∀ j, j < ((c.run s i).ev c (c.evs.getD i default) i).es.length → (((c.run s i).ev c (c.evs.getD i default) i).es.getD j (0, 0)).2.toNat < ((c.run s i).ev c (c.evs.getD i default) i).next
    generalize c.run s i = r at *
    unfold WS.ev at hy ⊢
    split
    · rename_i hM
      rw [if_pos hM] at hy
      have hy : r.next + 1 = _ := hy
      refine ⟨P8.Good.many (y := c.wx r (c.evs.getD i default) i) (by show r.next < N; omega) g2 g1 (fun j hj => List.mem_range.1 hj), fun j hj => ?_⟩
      have hj : j < (r.es ++ [((i : Int), (r.next : Int))]).length := hj
      rw [List.length_append, List.length_singleton] at hj
      show ((r.es ++ [((i : Int), (r.next : Int))]).getD j (0, 0)).2.toNat < r.next + 1
      rw [List.getD_eq_getElem?_getD]
      by_cases h : j < r.es.length
      · rw [List.getElem?_append_left h, ← List.getD_eq_getElem?_getD]
        exact Nat.lt_succ_of_lt (g2 j h)
      · have : j = r.es.length := by omega
        subst this
        rw [List.getElem?_append_right (Nat.le_refl _), Nat.sub_self]
        show (r.next : Int).toNat < r.next + 1
        omega
    · exact ⟨g1, g2⟩
theorem memAll_take {runs : List RunG} {t : Nat} (h : t < runs.length) : memAll (runs.take (t + 1)) = memAll (runs.take t) + memN (runs.getD t default).evs := by
  have e : runs.take (t + 1) = runs.take t ++ [runs.getD t default] := by rw [List.take_add_one, List.getElem?_eq_getElem h, List.getD_eq_getElem?_getD, List.getElem?_eq_getElem h]; rfl
  unfold memAll
  rw [e, List.map_append, List.sum_append]; simp
theorem thr_good (x : XG) (runs : List RunG) (g : Bool) (n N : Nat) : ∀ t, t ≤ runs.length → n + memAll (runs.take t) ≤ N → (thr x runs g n t).1.Good N ∧ (thr x runs g n t).2 = n + memAll (runs.take t)
  | 0, _, _ => ⟨P8.good_nil N, rfl⟩
  | t + 1, ht, hN => by
    rw [memAll_take (by omega)] at hN ⊢
    obtain ⟨g1, g2⟩ := thr_good x runs g n N t (by omega) (by omega)
    have e := run_next (⟨x, runs, g, t, (runs.getD t default).evs, (runs.getD t default).full⟩ : WC) ⟨(thr x runs g n t).1, -1, -1, [], (thr x runs g n t).2⟩ (runs.getD t default).evs.length (Nat.le_refl _)
    have e2 : memN ((runs.getD t default).evs.take (runs.getD t default).evs.length) = memN (runs.getD t default).evs := by rw [List.take_length]
    have e : _ = (thr x runs g n t).2 + memN ((runs.getD t default).evs.take (runs.getD t default).evs.length) := e
    rw [e2] at e
    refine ⟨?_, by show ((⟨x, runs, g, t, (runs.getD t default).evs, (runs.getD t default).full⟩ : WC).run _ _).next = _; rw [e, g2]; omega⟩
    exact (run_good (⟨x, runs, g, t, (runs.getD t default).evs, (runs.getD t default).full⟩ : WC) ⟨(thr x runs g n t).1, -1, -1, [], (thr x runs g n t).2⟩ N g1 (fun i hi => by simp at hi) _ (Nat.le_refl _) (by
      show (thr x runs g n t).2 + memN ((runs.getD t default).evs.take (runs.getD t default).evs.length) ≤ N
      rw [e2, g2]; omega)).1
/-! ### A built execution -/
structure BuiltX (l : List LocG) (runs : List RunG) (fr : List Int) (order : List (List Int × Bool)) (x : XG) : Prop where
  ls : l.length ≤ 16
  right : rightN l runs = true
  nodes : x.nodes = nodesAll l runs
  le : x.nodes.length ≤ 64
  rfx : ∃ r ps, rdN x.nodes fr x.nodes.length = some (r, ps) ∧ x.rf.1 = ofG x.nodes.length ps
  cox : ∃ ps, coN x.nodes l.length order l.length = some ps ∧ x.co.1 = ofG x.nodes.length ps
  fr : x.fr.1 = thenG (backG x.rf.1) x.co.1
  P : ∃ P : P8, P.Good x.nodes.length ∧ x.po.1 = ofG x.nodes.length P.po ∧ x.addr.1 = ofG x.nodes.length P.ad ∧ x.data.1 = ofG x.nodes.length P.da ∧ x.ctrl.1 = ofG x.nodes.length P.ct ∧ x.fenced.1 = ofG x.nodes.length P.fe ∧ x.sync.1 = ofG x.nodes.length P.sy ∧ x.lwsync.1 = ofG x.nodes.length P.lw ∧ x.pairs.1 = ofG x.nodes.length P.pa
theorem builtX {l : List LocG} {runs : List RunG} {g : Bool} {fr : List Int} {order : List (List Int × Bool)} (h : (cbuildG l runs g fr order).2 = 0) : BuiltX l runs fr order (cbuildG l runs g fr order).1 := by
  unfold cbuildG at h ⊢
  split at h
  · rename_i h1; exact absurd h h1
  · rename_i h0
    rw [if_neg h0]
    have ok := nodesOk (by simpa using h0 : (nodesG l runs).2 = 0)
    simp only at h ⊢
    rw [ok.eq] at h ⊢
    split at h
    · simp at h
    · rename_i h1
      rw [if_neg h1]
      have hall := nodesAll_len l runs
      have hn := ok.len
      generalize hD : nodesAll l runs = D at *
      have hr : ∃ r, rdN D fr D.length = some (r, (readN D fr).1) := by
        unfold readN at h1 ⊢
        split
        · rename_i e; rw [e] at h1; exact absurd (.inl rfl) h1
        · rename_i r ps e; exact ⟨r, e⟩
      have hc : coN D l.length order l.length = some (followN D l.length order).1 := by
        unfold followN at h1 ⊢
        split
        · rename_i e; rw [if_pos e] at h1; exact absurd (.inr rfl) h1
        · rename_i e0
          rw [if_neg e0] at h1
          split
          · rename_i e; rw [e] at h1; exact absurd (.inr rfl) h1
          · rename_i ps e; exact e
      obtain ⟨r, hr⟩ := hr
      have hg := (thr_good (x0G D (readN D fr).1 (followN D l.length order).1) runs g l.length D.length runs.length (Nat.le_refl _) (by rw [List.take_length]; omega)).1
      exact ⟨ok.ls, ok.right, hD.symm, hn, ⟨r, _, hr, rfl⟩, ⟨_, hc, rfl⟩, rfl, ⟨_, hg, rfl, rfl, rfl, rfl, rfl, rfl, rfl, rfl⟩⟩
section
variable {l : List LocG} {runs : List RunG} {fr : List Int} {order : List (List Int × Bool)} {x : XG} (B : BuiltX l runs fr order x)
include B
theorem BuiltX.rd_ok {r : List Int} {ps : List RatG} (h : rdN x.nodes fr x.nodes.length = some (r, ps)) : ∀ p ∈ ps, 0 ≤ p.num ∧ p.num < x.nodes.length ∧ 0 ≤ p.den ∧ p.den < x.nodes.length := by
  intro p hp
  obtain ⟨j, h1, h2, h3, h4⟩ := (rdN_mem h).1 p hp
  have := okN_iff.1 h4
  omega
theorem BuiltX.ge : l.length ≤ x.nodes.length := by rw [B.nodes, nodesAll_len]; omega
theorem BuiltX.line_mem {t : Nat} (ht : t < l.length) {j : Int} : j ∈ lineN order t ↔ wN x.nodes t j := by
  obtain ⟨ps, h1, _⟩ := B.cox
  have hs := (coN_mem h1).2 t ht
  unfold lineN wN
  rw [List.mem_cons, ← (sort_perm18 _).mem_iff, hs, mem_wantN]
  have hge := B.ge
  constructor
  · rintro (rfl | ⟨k, rfl, h2, h4, h5⟩)
    · rw [Int.toNat_natCast, B.nodes, nodes_init ht]
      exact ⟨by omega, by rw [← B.nodes]; omega, rfl, rfl⟩
    · exact ⟨by omega, by omega, by rw [Int.toNat_natCast]; exact h4, by rw [Int.toNat_natCast]; exact h5⟩
  · rintro ⟨h2, h3, h4, h5⟩
    by_cases hj : j.toNat < l.length
    · left
      rw [B.nodes, nodes_init hj] at h5
      have h5 : (j.toNat : Int) = t := h5
      omega
    · refine .inr ⟨j.toNat - l.length, by omega, by omega, ?_, ?_⟩
      · rw [show l.length + (j.toNat - l.length) = j.toNat by omega]; exact h4
      · rw [show l.length + (j.toNat - l.length) = j.toNat by omega]; exact h5
theorem BuiltX.line_nodup {t : Nat} (ht : t < l.length) : (lineN order t).Nodup := by
  obtain ⟨ps, h1, _⟩ := B.cox
  have hs := (coN_mem h1).2 t ht
  unfold lineN
  rw [List.nodup_cons]
  constructor
  · intro hm
    rw [← (sort_perm18 _).mem_iff, hs, mem_wantN] at hm
    obtain ⟨k, h2, h3, h4, _⟩ := hm
    omega
  · rw [← (sort_perm18 _).nodup_iff, hs]; exact wantN_nodup
theorem BuiltX.co_ok {ps : List RatG} (h : coN x.nodes l.length order l.length = some ps) : ∀ p ∈ ps, 0 ≤ p.num ∧ p.num < x.nodes.length ∧ 0 ≤ p.den ∧ p.den < x.nodes.length := by
  intro p hp
  obtain ⟨t, i, j, ht, h1, h2, rfl⟩ := ((coN_mem h).1 p).1 hp
  have e1 : (lineN order t).getD i default ∈ lineN order t := by rw [getD_lt (by omega)]; exact List.getElem_mem _
  have e2 : (lineN order t).getD j default ∈ lineN order t := by rw [getD_lt h2]; exact List.getElem_mem _
  have q1 := (B.line_mem ht).1 e1
  have q2 := (B.line_mem ht).1 e2
  exact ⟨q1.1, q1.2.1, q2.1, q2.2.1⟩
theorem BuiltX.rf_iff {k i : Nat} : hasN x.rf.1 k i = true ↔ ∃ r ps, rdN x.nodes fr x.nodes.length = some (r, ps) ∧ (⟨k, i⟩ : RatG) ∈ ps := by
  obtain ⟨r, ps, h1, h2⟩ := B.rfx
  rw [h2, hasN_of18 B.le (B.rd_ok h1)]
  constructor
  · exact fun h => ⟨r, ps, h1, h⟩
  · rintro ⟨r', ps', h3, h4⟩; rw [h1] at h3; cases h3; exact h4
theorem BuiltX.rf_ok {k i : Nat} (h : hasN x.rf.1 k i = true) : k < x.nodes.length ∧ i < x.nodes.length ∧ (x.nodes.getD i default).loc = 1 ∧ (x.nodes.getD k default).loc = 2 ∧
    (x.nodes.getD k default).old = (x.nodes.getD i default).old ∧ (x.nodes.getD k default).new = (x.nodes.getD i default).new := by
  obtain ⟨r, ps, h1, h2⟩ := B.rf_iff.1 h
  obtain ⟨j, h3, h4, h5, h6⟩ := (rdN_mem h1).1 _ h2
  simp only at h4
  have : j = i := by omega
  subst this
  have := okN_iff.1 h6
  simp only [Int.toNat_natCast] at this
  obtain ⟨a, b, d, e, f⟩ := this
  exact ⟨by omega, h3, h5, d, e, f⟩
theorem BuiltX.rf_one {k j i : Nat} (h : hasN x.rf.1 k i = true) (h' : hasN x.rf.1 j i = true) : k = j := by
  obtain ⟨r, ps, h1, h2⟩ := B.rf_iff.1 h
  obtain ⟨r', ps', h3, h4⟩ := B.rf_iff.1 h'
  rw [h1] at h3; cases h3
  have := (rdN_mem h1).2.2 _ h2 _ h4 rfl
  simp only at this
  omega
theorem BuiltX.rf_some {i : Nat} (hi : i < x.nodes.length) (h : (x.nodes.getD i default).loc = 1) : ∃ k, k < x.nodes.length ∧ hasN x.rf.1 k i = true := by
  obtain ⟨r, ps, h1, h2⟩ := B.rfx
  obtain ⟨p, hp, hd⟩ := (rdN_mem h1).2.1 i hi h
  have hb := B.rd_ok h1 p hp
  refine ⟨p.num.toNat, by omega, B.rf_iff.2 ⟨r, ps, h1, ?_⟩⟩
  have : (⟨(p.num.toNat : Int), (i : Int)⟩ : RatG) = p := by
    obtain ⟨a, b⟩ := p
    simp only at hd hb
    rw [hd]
    simp only [RatG.mk.injEq, and_true]
    omega
  rw [this]; exact hp
theorem BuiltX.co_iff {i k : Nat} : hasN x.co.1 i k = true ↔ ∃ t a b, t < l.length ∧ a < b ∧ b < (lineN order t).length ∧ (i : Int) = (lineN order t).getD a default ∧ (k : Int) = (lineN order t).getD b default := by
  obtain ⟨ps, h1, h2⟩ := B.cox
  rw [h2, hasN_of18 B.le (B.co_ok h1), (coN_mem h1).1]
  constructor
  · rintro ⟨t, a, b, h3, h4, h5, h6⟩
    simp only [RatG.mk.injEq] at h6
    exact ⟨t, a, b, h3, h4, h5, h6.1, h6.2⟩
  · rintro ⟨t, a, b, h3, h4, h5, h6, h7⟩
    exact ⟨t, a, b, h3, h4, h5, by rw [h6, h7]⟩
theorem BuiltX.co_ok2 {i k : Nat} (h : hasN x.co.1 i k = true) : ∃ t : Nat, t < l.length ∧ i ≠ k ∧ wN x.nodes t i ∧ wN x.nodes t k := by
  obtain ⟨t, a, b, h1, h2, h3, h4, h5⟩ := B.co_iff.1 h
  refine ⟨t, h1, ?_, ?_, ?_⟩
  · intro e
    have hn := B.line_nodup h1
    rw [e, h5, getD_lt (show a < _ by omega), getD_lt h3] at h4
    have := (List.getElem_inj hn).1 h4
    omega
  · rw [h4]; exact (B.line_mem h1).1 (by rw [getD_lt (by omega)]; exact List.getElem_mem _)
  · rw [h5]; exact (B.line_mem h1).1 (by rw [getD_lt h3]; exact List.getElem_mem _)
theorem BuiltX.co_tot {t i k : Nat} (ht : t < l.length) (hne : i ≠ k) (hi : wN x.nodes t i) (hk : wN x.nodes t k) : hasN x.co.1 i k = true ∨ hasN x.co.1 k i = true := by
  obtain ⟨a, ha, ea⟩ := List.mem_iff_getElem.1 ((B.line_mem ht).2 hi)
  obtain ⟨b, hb, eb⟩ := List.mem_iff_getElem.1 ((B.line_mem ht).2 hk)
  have hab : a ≠ b := by
    intro e; subst e; rw [ea] at eb; omega
  by_cases h : a < b
  · exact .inl (B.co_iff.2 ⟨t, a, b, ht, h, hb, by rw [getD_lt ha, ea], by rw [getD_lt hb, eb]⟩)
  · exact .inr (B.co_iff.2 ⟨t, b, a, ht, by omega, ha, by rw [getD_lt hb, eb], by rw [getD_lt ha, ea]⟩)
theorem BuiltX.co_trans {i j k : Nat} (h : hasN x.co.1 i j = true) (h' : hasN x.co.1 j k = true) : hasN x.co.1 i k = true := by
  obtain ⟨t, a, b, h1, h2, h3, h4, h5⟩ := B.co_iff.1 h
  obtain ⟨t', a', b', h1', h2', h3', h4', h5'⟩ := B.co_iff.1 h'
  have q : wN x.nodes t j := by rw [h5]; exact (B.line_mem h1).1 (by rw [getD_lt h3]; exact List.getElem_mem _)
  have q' : wN x.nodes t' j := by rw [h4']; exact (B.line_mem h1').1 (by rw [getD_lt (by omega)]; exact List.getElem_mem _)
  have : t = t' := by have := q.2.2.2; have := q'.2.2.2; omega
  subst this
  have hn := B.line_nodup h1
  rw [h5, getD_lt h3, getD_lt (show a' < _ by omega)] at h4'
  have := (List.getElem_inj hn).1 h4'
  exact B.co_iff.2 ⟨t, a, b', h1, by omega, h3', h4, h5'⟩
end
end Go.Ago

/- Contracts of the reference of layer 2: Lay, Then, Back. Conditions: none. -/
set_option maxRecDepth 100000
set_option linter.unusedSimpArgs false
set_option linter.unusedVariables false
namespace Go.Ago

/-! Row by row, place by place: what lies ahead of (i, k). -/
/-! ### Lay -/
/-! ### Back -/
/-! ### Then -/
end Go.Ago

/- Ways: what is reached from where. Conditions: none. -/
set_option linter.unusedSimpArgs false
set_option linter.unusedVariables false
namespace Go.Ago

section
variable {p : Nat → Nat → Bool}
theorem way_up {m i k : Nat} (h : way p m i k = true) : way p (m + 1) i k = true := by simp only [way, h, Bool.true_or]
theorem way_mono {m m' i k : Nat} (hm : m ≤ m') (h : way p m i k = true) : way p m' i k = true := by
  induction hm with
  | refl => exact h
  | step _ ih => exact way_up ih
theorem way_of {m i k : Nat} (h : p i k = true) : way p m i k = true := way_mono (Nat.zero_le m) (by simpa only [way] using h)
theorem way_trans {m i j k : Nat} (hj : j < m) (h1 : way p m i j = true) (h2 : way p m j k = true) : way p m i k = true := by
  induction m generalizing i j k with
  | zero => omega
  | succ m ih =>
    simp only [way, Bool.or_eq_true, Bool.and_eq_true] at h1 h2 ⊢
    by_cases e : j = m
    · subst e
      have g1 : way p j i j = true := by rcases h1 with h | h; exact h; exact h.1
      have g2 : way p j j k = true := by rcases h2 with h | h; exact h; exact h.2
      exact .inr ⟨g1, g2⟩
    · have hj' : j < m := by omega
      rcases h1 with h1 | ⟨h1, h1'⟩
      · rcases h2 with h2 | ⟨h2, h2'⟩
        · exact .inl (ih hj' h1 h2)
        · exact .inr ⟨ih hj' h1 h2, h2'⟩
      · rcases h2 with h2 | ⟨h2, h2'⟩
        · exact .inr ⟨h1, ih hj' h1' h2⟩
        · exact .inr ⟨h1, h2'⟩
/-- The least that is closed. -/
theorem way_min {V : Nat → Bool} (hc : ∀ b c, V b = true → p b c = true → V c = true) {m i : Nat} (hs : ∀ b, p i b = true → V b = true) : ∀ {k : Nat}, way p m i k = true → V k = true := by
  suffices h : ∀ m a k, (V a = true ∨ a = i) → way p m a k = true → V k = true from fun {k} hk => h m i k (.inr rfl) hk
  intro m
  induction m with
  | zero =>
    intro a k ha hk
    simp only [way] at hk
    rcases ha with ha | ha
    · exact hc a k ha hk
    · subst ha; exact hs k hk
  | succ m ih =>
    intro a k ha hk
    simp only [way, Bool.or_eq_true, Bool.and_eq_true] at hk
    rcases hk with hk | ⟨h1, h2⟩
    · exact ih a k ha hk
    · exact ih m k (.inl (ih a m ha h1)) h2
end

/-- What the search for all that is reached from i Z3e: T is still to be looked at; of the one that is looked at, the first k are done. -/
structure Seek (A : List W) (n i : Nat) (V : Nat → Bool) (T : List Nat) (q : Nat → Nat → Prop) : Prop where
  sound : ∀ b, V b = true → b < n ∧ way (hasN A) n i b = true
  start : ∀ b, hasN A i b = true → V b = true
  todo : ∀ b ∈ T, V b = true
  done : ∀ b c, V b = true → hasN A b c = true → b ∈ T ∨ V c = true ∨ q b c

theorem Seek.end {A : List W} {n i : Nat} {V : Nat → Bool} (h : Seek A n i V [] fun _ _ => False) (b : Nat) : V b = way (hasN A) n i b := by
  apply beq_of_iff
  refine ⟨fun hv => (h.sound b hv).2, fun hw => way_min (V := V) (fun b c hb hc => ?_) h.start hw⟩
  rcases h.done b c hb hc with h1 | h1 | h1
  · simp at h1
  · exact h1
  · exact h1.elim

theorem Seek.skip {A : List W} {n i j k : Nat} {V : Nat → Bool} {T : List Nat} (h : Seek A n i V T fun b c => b = j ∧ k ≤ c) (hk : hasN A j k = false ∨ V k = true) : Seek A n i V T fun b c => b = j ∧ k + 1 ≤ c :=
  ⟨h.sound, h.start, h.todo, fun b c h1 h2 => by
    rcases h.done b c h1 h2 with h3 | h3 | ⟨h3, h4⟩
    · exact .inl h3
    · exact .inr (.inl h3)
    · by_cases e : c = k
      · subst e; subst h3
        rcases hk with hk | hk
        · rw [hk] at h2; cases h2
        · exact .inr (.inl hk)
      · exact .inr (.inr ⟨h3, by omega⟩)⟩
theorem Seek.push {A : List W} {n i j k : Nat} {V : Nat → Bool} {T : List Nat} (h : Seek A n i V T fun b c => b = j ∧ k ≤ c) (hj : V j = true) (hk : hasN A j k = true) (hkn : k < n) :
    Seek A n i (fun b => V b || decide (b = k)) (T ++ [k]) fun b c => b = j ∧ k + 1 ≤ c :=
  ⟨fun b hb => by
    rw [Bool.or_eq_true, decide_eq_true_eq] at hb
    rcases hb with hb | hb
    · exact h.sound b hb
    · subst hb
      obtain ⟨g1, g2⟩ := h.sound j hj
      exact ⟨hkn, way_trans g1 g2 (way_of hk)⟩,
  fun b hb => by rw [h.start b hb]; rfl,
  fun b hb => by
    rcases List.mem_append.1 hb with hb | hb
    · rw [h.todo b hb]; rfl
    · simp at hb; simp [hb],
  fun b c h1 h2 => by
    rw [Bool.or_eq_true, decide_eq_true_eq] at h1
    by_cases e0 : b = k
    · exact .inl (by simp [e0])
    · have h1 : V b = true := by rcases h1 with h1 | h1; exact h1; exact absurd h1 e0
      rcases h.done b c h1 h2 with h3 | h3 | ⟨h3, h4⟩
      · exact .inl (by simp [h3])
      · exact .inr (.inl (by rw [h3]; rfl))
      · by_cases e : c = k
        · exact .inr (.inl (by simp [e]))
        · exact .inr (.inr ⟨h3, by omega⟩)⟩
theorem Seek.rest {A : List W} {n i j : Nat} {V : Nat → Bool} {T : List Nat} (h : Seek A n i V T fun b c => b = j ∧ n ≤ c) (hn : szR A ≤ n) : Seek A n i V T fun _ _ => False :=
  ⟨h.sound, h.start, h.todo, fun b c h1 h2 => by
    rcases h.done b c h1 h2 with h3 | h3 | ⟨h3, h4⟩
    · exact .inl h3
    · exact .inr (.inl h3)
    · have := (hasN_lt h2).2; omega⟩
end Go.Ago

/- A list of lists that fits the memory has no list that is too long to be copied. Conditions: none. -/
set_option linter.unusedSimpArgs false
set_option linter.unusedVariables false
namespace Go.Ago
open Go.ChangeShapes Go.WideShapes Go.RowKit
section
variable {H : Type} {enc : TypeId × Value → H} {P : Program} {W : World} {M : Nat → Prop} {held : Bool}
theorem row_room {e : TypeId} {k : Nat} (he : P.underlying e = some (.slice k)) (hk : P.bytesOf k = 8) {fuel : Nat} {c : Value} {x : DataW H × List MemPlace} (h : DataW.trod enc P W 0 (fun _ => true) held fuel e [c] = some x)
    {rows : List (List DV)} {full : Bool} (hr : RelD M W (.list rows full) c) (hw : (x.1.weights P e).all (· ≤ reachBytes) = true) : rows.length ≤ 17592186044416 := by
  rcases DataW.trod_slice he h with ⟨e1, -⟩ | ⟨a, len, cap, elems, rest, m, -, e1, e2, -, -, -, hl, -⟩
  · cases e1
    generalize hx : DV.list rows full = d at hr
    cases hr <;> cases hx
    exact Nat.zero_le _
  · cases e1
    have hlen : rows.length = len := by
      generalize hx : DV.list rows full = d at hr
      cases hr <;> cases hx <;> rfl
    rw [e2] at hw
    simp only [DataW.weights, he, List.all_cons, Bool.and_eq_true, decide_eq_true_eq, List.length_map, hk] at hw
    have := hw.1
    unfold reachBytes at this
    omega
theorem rows_room {t e k : TypeId} (ht : P.underlying t = some (.slice e)) (he : P.underlying e = some (.slice k)) (hk : P.bytesOf k = 8) (hc : P.cellsOf e = 1) {fuel : Nat} {c : Value} {x : DataW H × List MemPlace} (h : DataW.trod enc P W 0 (fun _ => true) held fuel t [c] = some x)
    {rows : List (List DV)} {full : Bool} (hr : RelD M W (.list rows full) c) (hw : (x.1.weights P t).all (· ≤ reachBytes) = true) (h1 : ∀ r ∈ rows, ∃ l f, r = [.list l f]) : ∀ r ∈ rows, ∀ l f, r = [.list l f] → l.length ≤ 17592186044416 := by
  intro r hmem l f hrf
  obtain ⟨i, hi, rfl⟩ := List.mem_iff_getElem.1 hmem
  rcases DataW.trod_slice ht h with ⟨e1, -⟩ | ⟨a, len, cap, elems, rest, m, -, e1, e2, -, -, -, hl, hget, -, -⟩
  · cases e1
    generalize hx : DV.list rows full = d at hr
    cases hr with
    | nil => cases hx; simp at hi
    | _ => cases hx
  · cases e1
    generalize hx : DV.list rows full = d at hr
    cases hr with
    | nil => cases hx; simp at hi
    | list rows' full' sz b off cap' g hb hM hsz hcap hfull hcell hrel =>
      cases hx
      have hs1 : sz = 1 := by rw [← hsz _ hmem, hrf]; rfl
      subst hs1
      have hri : rows[i]? = some rows[i] := List.getElem?_eq_getElem hi
      have h0 : (rows[i])[0]? = some (.list l f) := by rw [hrf]; rfl
      have hcl := hcell i _ 0 _ hri h0
      have hrl := hrel i _ 0 _ hri h0
      have hg := hget i hi
      rw [hc] at hg
      rw [List.getElem?_eq_getElem (by omega)] at hg
      obtain ⟨cs, hcs, htr⟩ := Option.bind_eq_some_iff.1 hg
      obtain ⟨c1, c2⟩ := cells_get hcs
      have : cs = [g i 0] := by
        have hlen : cs.length = 1 := c1
        obtain ⟨y, rfl⟩ := List.length_eq_one_iff.1 hlen
        have := c2 0 (by omega)
        rw [List.getElem?_eq_getElem (by omega)] at this
        simp only [List.getElem_cons_zero] at this
        have e3 : W.cell? ((Addr.add ⟨b, off, none⟩ (i * 1)).add 0) = W.cell? ⟨b, off + (i * 1 + 0), none⟩ := by
          congr 1
          simp only [Addr.add]
          by_cases hz : i = 0
          · subst hz; simp
          · simp [hz]
        rw [e3, hcl] at this
        rw [Option.some.inj this]
      subst this
      refine row_room he hk htr hrl ?_
      rw [e2] at hw
      simp only [DataW.weights, ht, List.all_cons, List.all_append, Bool.and_eq_true] at hw
      have hw := hw.2.1
      clear hg hget
      have hmm : (elems[i]'(by omega)).1 ∈ elems.map (·.1) := List.mem_map.2 ⟨_, List.getElem_mem _, rfl⟩
      revert hw hmm
      generalize elems.map (·.1) = L
      generalize (elems[i]'(by omega)).1 = z
      intro hw hmm
      induction L with
      | nil => cases hmm
      | cons y L ih =>
        simp only [DataW.weightsAll, List.all_append, Bool.and_eq_true] at hw
        rcases List.mem_cons.1 hmm with rfl | h
        · exact hw.1
        · exact ih hw.2 h
theorem avs_list : ∀ {ss : List Sh} {xs : List (List DV)} {j : Nat} {s : Sh} {rows : List (List DV)} {full : Bool}, ss[j]? = some (.sl s) → xs[j]? = some [.list rows full] → (avs ss xs)[j]? = some (.d (.list rows full))
  | [], _, _, _, _, _, h, _ => by simp at h
  | _ :: _, [], _, _, _, _, _, h => by simp at h
  | s0 :: ss, x0 :: xs, 0, s, rows, full, h, h' => by
    simp only [List.getElem?_cons_zero, Option.some.injEq] at h h'
    subst h; subst h'; rfl
  | s0 :: ss, x0 :: xs, j + 1, s, rows, full, h, h' => by
    simp only [List.getElem?_cons_succ] at h h'
    exact avs_list (ss := ss) (xs := xs) h h'
theorem rows_lists : ∀ {ss : List Sh} {xs : List (List DV)} {j : Nat} {s : Sh} {rows : List (List DV)} {full : Bool}, HasAll ss xs → ss[j]? = some (.sl (.sl s)) → xs[j]? = some [.list rows full] → ∀ r ∈ rows, ∃ l f, r = [.list l f]
  | _, _, j, s, rows, full, .nil, h, _ => by simp at h
  | _, _, 0, s, rows, full, .cons h0 _, h, h' => by
    simp only [List.getElem?_cons_zero, Option.some.injEq] at h h'
    subst h; subst h'
    intro r hr
    obtain ⟨rows', full', e, -, h2⟩ := has_sl h0
    simp only [List.cons.injEq, DV.list.injEq, and_true] at e
    obtain ⟨l, f, e2, -⟩ := has_sl (h2 r (e.1 ▸ hr))
    exact ⟨l, f, e2⟩
  | _, _, j + 1, s, rows, full, .cons _ hs, h, h' => by
    simp only [List.getElem?_cons_succ] at h h'
    exact rows_lists hs h h'
theorem order_room {t e k : TypeId} (ht : P.underlying t = some (.slice e)) (he : P.underlying e = some (.slice k)) (hk : P.bytesOf k = 8) (hc : P.cellsOf e = 1) {rows : List (List DV)} {full : Bool} (h1 : ∀ r ∈ rows, ∃ l f, r = [.list l f]) :
    ∀ {ts us : List TypeId} {vs : List Value} {ds gs : List (DataW H)} {ps : List MemPlace} {j : Nat}, DataW.TrodAll enc P W 0 (fun _ => true) held ts vs ds ps → ts[j]? = some t → (∀ v, vs[j]? = some v → Rel noIds M W (.d (.list rows full)) v) →
    (DataW.weightsEach P (ts ++ us) (ds ++ gs)).all (· ≤ reachBytes) = true → ∀ r ∈ rows, ∀ l f, r = [.list l f] → l.length ≤ 17592186044416
  | [], _, _, _, _, _, _, _, h, _, _ => by simp at h
  | t0 :: ts, us, vs, ds, gs, ps, j, hA, hj, hrel, hw => by
    obtain ⟨v0, vs0, d0, ds0, p0, q0, rfl, rfl, rfl, h0, r0⟩ := trodAll_cons hA
    simp only [List.cons_append, DataW.weightsEach, List.all_append, Bool.and_eq_true] at hw
    cases j with
    | zero =>
      simp only [List.getElem?_cons_zero, Option.some.injEq] at hj
      subst hj
      have hv := hrel v0 rfl
      obtain ⟨fuel, hf⟩ := h0
      cases hv with
      | d _ _ hd =>
        have hcell : v0.cells.toList = [v0] := by
          generalize hx : DV.list rows full = d at hd
          cases hd <;> cases hx <;> rfl
        rw [hcell] at hf
        exact rows_room ht he hk hc hf hd hw.1 h1
    | succ j =>
      simp only [List.getElem?_cons_succ] at hj
      exact order_room ht he hk hc h1 (j := j) r0 hj (fun v hv => hrel v (by simpa using hv)) hw.2
end
end Go.Ago

/- The law CandRels, whole. Conditions: none. -/
set_option maxRecDepth 100000
set_option linter.unusedSimpArgs false
set_option linter.unusedVariables false
set_option linter.unusedSectionVars false
namespace Go.Ago
attribute [local irreducible] vck
theorem beq_iff18 {a b : Bool} (h : a = true ↔ b = true) : a = b := by cases a <;> cases b <;> simp_all
theorem hasN_back18 {A : List W} {i k : Nat} : hasN (backG A) i k = hasN A k i := by
  unfold backG
  rw [hasN_mk (szR_le A)]
  apply beq_iff18
  simp only [Bool.and_eq_true, decide_eq_true_eq]
  exact ⟨fun h => h.2, fun h => ⟨by have := hasN_lt h; omega, h⟩⟩
theorem hasN_then18 {A B : List W} {i k : Nat} (h : hasN (thenG A B) i k = true) : thenP A B i k = true := by
  unfold thenG at h
  rw [hasN_mk (by unfold mxR; have := szR_le A; have := szR_le B; omega)] at h
  simp only [Bool.and_eq_true] at h
  exact h.2
theorem srcN_zero {A : List W} {i : Nat} : ∀ {k : Nat}, (∀ j, j < k → hasI A j i = false) → srcN A i k = 0
  | 0, _ => rfl
  | k + 1, h => by
    unfold srcN
    rw [srcN_zero (fun j hj => h j (by omega)), h k (by omega)]; rfl
theorem srcN_one {A : List W} {i j : Nat} : ∀ {k : Nat}, j < k → hasI A j i = true → (∀ m, m < k → hasI A m i = true → m = j) → srcN A i k = 1
  | 0, h, _, _ => by omega
  | k + 1, h, h1, h2 => by
    unfold srcN
    by_cases e : j = k
    · subst e
      rw [srcN_zero (fun m hm => by
        rw [Bool.eq_false_iff]
        intro hh
        have := h2 m (by omega) hh
        omega), h1]; rfl
    · rw [srcN_one (k := k) (by omega) h1 (fun m hm => h2 m (by omega))]
      have : hasI A k i = false := by
        rw [Bool.eq_false_iff]
        intro hh
        exact e (h2 k (by omega) hh).symm
      rw [this]; rfl
section
variable {l : List LocG} {runs : List RunG} {fr : List Int} {order : List (List Int × Bool)} {x : XG} (B : BuiltX l runs fr order x)
include B
theorem BuiltX.co_n : szR x.co.1 = x.nodes.length := by
  obtain ⟨ps, h1, h2⟩ := B.cox
  rw [h2]; unfold szR; rw [ofG_len18 B.le (B.co_ok h1)]; have := B.le; omega
theorem BuiltX.way_co {i k : Nat} (h : way (hasN x.co.1) (szR x.co.1) i k = true) : hasN x.co.1 i k = true :=
  way_min (p := hasN x.co.1) (V := fun b => hasN x.co.1 i b) (fun b c hb hc => B.co_trans hb hc) (fun b hb => hb) h
theorem BuiltX.plus : plusG x.co.1 = x.co.1 := by
  obtain ⟨ps, h1, h2⟩ := B.cox
  have hn := B.co_n
  have hex : x.co.1 = mkR x.nodes.length (ofP ps) := by
    rw [h2]
    have hlen := ofG_len18 B.le (B.co_ok h1)
    unfold ofG at hlen ⊢
    split
    · rw [Int.toNat_natCast]
    · rename_i he
      rw [if_neg he] at hlen
      have : x.nodes.length = 0 := hlen.symm
      rw [this]; rfl
  have hw : plusG x.co.1 = mkR x.nodes.length (way (hasN x.co.1) x.nodes.length) := by unfold plusG; rw [hn]
  rw [hw]
  conv => rhs; rw [hex]
  refine mkR_congr fun i k hi hk => beq_iff18 ?_
  have hh : hasN x.co.1 i k = true ↔ ofP ps i k = true := by
    rw [hex, hasN_mk B.le]
    simp only [Bool.and_eq_true, decide_eq_true_eq]
    exact ⟨fun h => h.2, fun h => ⟨⟨hi, hk⟩, h⟩⟩
  rw [← hh]
  rw [← hn]
  exact ⟨fun h => B.way_co h, fun h => way_of h⟩
theorem BuiltX.in_ {P : P8} (hP : P.Good x.nodes.length) (k : Nat) : ∀ p ∈ P.get k, 0 ≤ p.num ∧ p.num < x.nodes.length ∧ 0 ≤ p.den ∧ p.den < x.nodes.length := fun p hp => by
  obtain ⟨_, a, b, c⟩ := hP k p hp
  omega
theorem relsOk : RelsOk x := by
  have hle := B.le
  have hN := B.nodes
  obtain ⟨P, hP, p0, p1, p2, p3, p4, p5, p6, p7⟩ := B.P
  have hasP : ∀ k i j, hasN (ofG x.nodes.length (P.get k)) i j = true → hasN x.po.1 i j = true ∧ i < j := fun k i j h => by
    have := (hasN_of18 hle (B.in_ hP k)).1 h
    have hg := hP k _ this
    refine ⟨?_, by have := hg.2.2.1; simp only at this; omega⟩
    rw [p0]
    exact (hasN_of18 (ps := P.po) hle (B.in_ hP 0)).2 hg.1
  constructor
  · exact hle
  · obtain ⟨r, ps, _, h2⟩ := B.rfx
    obtain ⟨qs, _, h4⟩ := B.cox
    have hl : ∀ ps : List RatG, (ofG x.nodes.length ps).length ≤ 64 := fun ps => Nat.le_trans (ofG_le18 _ _) hle
    refine ⟨by rw [p0]; exact hl _, by rw [h2]; exact hl _, by rw [h4]; exact hl _, ?_, by rw [p1]; exact hl _, by rw [p2]; exact hl _, by rw [p3]; exact hl _, by rw [p4]; exact hl _, by rw [p5]; exact hl _, by rw [p6]; exact hl _, by rw [p7]; exact hl _⟩
    rw [B.fr]; unfold thenG; rw [mkR_len]; unfold mxR
    have := szR_le (backG x.rf.1); have := szR_le x.co.1; omega
  · intro i k hi hk h
    rw [hasI_nat] at h
    exact (B.rf_ok h).2.2.2
  · intro i k hi hk
    rw [hasI_nat, hasI_nat]
    constructor
    · rintro (h | h)
      · obtain ⟨t, h1, h2, h3, h4⟩ := B.co_ok2 h
        obtain ⟨_, _, a, b⟩ := h3
        obtain ⟨_, _, c, d⟩ := h4
        simp only [Int.toNat_natCast] at a b c d
        exact ⟨h2, a, c, by rw [b, d]⟩
      · obtain ⟨t, h1, h2, h3, h4⟩ := B.co_ok2 h
        obtain ⟨_, _, a, b⟩ := h3
        obtain ⟨_, _, c, d⟩ := h4
        simp only [Int.toNat_natCast] at a b c d
        exact ⟨Ne.symm h2, c, a, by rw [b, d]⟩
    · rintro ⟨h1, h2, h3, h4⟩
      obtain ⟨t, ht, hto⟩ := nodes_at B.right (i := i) (by rw [← hN]; exact hi)
      rw [← hN] at hto
      exact B.co_tot ht h1 ⟨by omega, by omega, by rw [Int.toNat_natCast]; exact h2, by rw [Int.toNat_natCast]; exact hto⟩ ⟨by omega, by omega, by rw [Int.toNat_natCast]; exact h3, by rw [Int.toNat_natCast, ← h4]; exact hto⟩
  · intro i k hi hk h
    rw [hasI_nat, B.fr] at h
    obtain ⟨j, h1, h2⟩ := thenP_iff.1 (hasN_then18 h)
    rw [hasN_back18] at h1
    have a := B.rf_ok h1
    obtain ⟨t, _, _, h3, h4⟩ := B.co_ok2 h2
    obtain ⟨_, _, b, c⟩ := h3
    obtain ⟨_, _, d, e⟩ := h4
    simp only [Int.toNat_natCast] at b c d e
    exact ⟨a.2.2.1, d, by rw [← a.2.2.2.2.1, c, e]⟩
  · intro i k hi hk h
    simp only [hasI_nat] at h ⊢
    rw [p1, p2, p3, p4, p5, p6, p7] at h
    rcases h with h | h | h | h | h | h | h
    · exact (hasP 1 i k h).1
    · exact (hasP 2 i k h).1
    · exact (hasP 3 i k h).1
    · exact (hasP 4 i k h).1
    · exact (hasP 5 i k h).1
    · exact (hasP 6 i k h).1
    · exact (hasP 7 i k h).1
  · intro i hi
    constructor
    · intro h
      obtain ⟨k, hk, hr⟩ := B.rf_some hi h
      exact srcN_one hk (by rw [hasI_nat]; exact hr) (fun m _ hm => by rw [hasI_nat] at hm; exact B.rf_one hm hr)
    · intro h
      apply Classical.byContradiction
      intro hne
      rw [srcN_zero (fun j _ => by
        rw [Bool.eq_false_iff, hasI_nat]
        intro hh
        exact hne (B.rf_ok hh).2.2.1)] at h
      omega
  · unfold ringG
    rw [Bool.eq_false_iff]
    intro h
    obtain ⟨i, _, hw⟩ := List.any_eq_true.1 h
    obtain ⟨t, _, hne, _⟩ := B.co_ok2 (B.way_co hw)
    exact hne rfl
  · unfold ringG
    rw [Bool.eq_false_iff]
    intro h
    obtain ⟨i, _, hw⟩ := List.any_eq_true.1 h
    have hinc : ∀ a b, hasN x.po.1 a b = true → a < b := fun a b hab => (hasP 0 a b (by rw [p0] at hab; exact hab)).2
    have := way_min (p := hasN x.po.1) (V := fun b => decide (i < b)) (fun b c hb hc => by
      have := hinc b c hc
      have hb : i < b := of_decide_eq_true hb
      exact decide_eq_true (by omega)) (fun b hb => decide_eq_true (hinc i b hb)) hw
    have := of_decide_eq_true this
    omega
  · exact B.plus
end
abbrev shLI18 : Sh := .sl (.int .i64)
theorem has_LI18 {r : List DV} (h : shLI18.has r) : ∃ x : List Int × Bool, r = rowLI x ∧ True := by
  obtain ⟨l, f, rfl, h1, hl⟩ := has_list (f := rowI) (ok := inI) (fun _ h => has_i64 h) h
  exact ⟨(l, f), rfl, trivial⟩
theorem law_CandRelsU {T : Tab} {n1 n2 n3 n4 n5 n6 n7 : Nat} (k1 : Knows T n1 sp_true) (k2 : Knows T n2 sp_smallE) (k3 : Knows T n3 sp_CBuild) (k4 : Knows T n4 sp_Has) (k5 : Knows T n5 sp_Ring) (k6 : Knows T n6 sp_sameW) (k7 : Knows T n7 sp_Plus) (l : List LocG) (f : Bool) (runs : List RunG) (g : Bool) (fr : List Int) (ff : Bool) (order : List (List Int × Bool)) (og : Bool)
    (hr : runs.length ≤ maxLen) (hs : smallR runs) (ho : smallO order) :
    Holds T V_law18_CandRels (L_law18_CandRels n1 n2 n3 n4 n5 n6 n7) R_law18_CandRels [.d (.list (l.map LocG.row) f), .d (.list (runs.map RunG.row) g), .d (.list (fr.map rowI) ff), .d (.list (order.map rowLI) og)] :=
  law_CandRels k1 k2 k3 k4 k5 k6 k7 l f runs g fr ff order og hr hs ho (fun h => relsOk (builtX h)) (fun h => by
    unfold cbuildG at h ⊢
    split
    · rfl
    · rename_i h0
      rw [if_neg h0] at h
      simp only at h ⊢
      split
      · rfl
      · rename_i h1
        rw [if_neg h1] at h
        exact absurd rfl h)
end Go.Ago
