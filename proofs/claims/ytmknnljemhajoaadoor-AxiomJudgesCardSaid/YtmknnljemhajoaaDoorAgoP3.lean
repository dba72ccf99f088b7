/- Bodies once more ('vck'): what a guard tells is known from there on, and a call may change rows that it is handed. Conditions: none. -/
import Derived.Test.YtmknnljemhajoaaDoorAgoP2
import Derived.WalkSpells
import Derived.Lib.SliceRun
set_option linter.unusedSimpArgs false
set_option linter.unusedVariables false
namespace Go.Ago

/-- What a call does to the heap that it is handed. -/
structure Take where
  i1 : Nat
  i2 : Nat
  sz : Nat
  rows : List (List DV)
  keep : Bool := false

structure Eff where
  ok : Prop
  val : AV
  ups : List (Nat × HO)
  news : List HO
  take : Option Take

structure Tab where
  F : Specs
  G : FuncId → List AV → Heap → Option Eff

def applyUps (H : Heap) (ups : List (Nat × HO)) : Heap := ups.foldl (fun H p => H.set p.1 p.2) H

/-- What such a call does, told on the two objects alone. -/
def Take.Ok (t : Take) (P : Program) (g : FuncId) (args : List AV) (H : Heap) (val : AV) : Prop :=
  match t.keep with
  | false => ∃ a' rows rows2, t.i1 ≠ t.i2 ∧ (∀ n, args = a'.map (AV.ren (two n t.i1 t.i2))) ∧ H.at t.i1 = .dvec t.sz rows ∧ H.at t.i2 = .dvec t.sz rows2 ∧
  ACalls P g a' [.dvec t.sz rows, .dvec t.sz rows2] (fun r H1 => r = .ref 2 t.sz 0 t.rows.length true ∧ H1 = [.dead, .dvec t.sz rows2, .dvec t.sz t.rows])
  | true => ∃ a' rows, (∀ n, args = a'.map (AV.ren (one n t.i1))) ∧ H.at t.i1 = .dvec t.sz rows ∧ (∀ ρ : Nat → Nat, val.ren ρ = val) ∧ ACalls P g a' [.dvec t.sz rows] (fun r H1 => r = val ∧ H1 = [.dvec t.sz rows])

structure TabOK (P : Program) (T : Tab) : Prop where
  F : SpecsOK P T.F
  G : ∀ g args H e, T.G g args H = some e → e.ok → ACalls P g args H fun r H' => r = e.val ∧ H' = applyUps H e.ups ++ e.news
  K : ∀ g args H e t, T.G g args H = some e → e.take = some t → e.ok → t.Ok P g args H e.val

def Z47 (new : Nat) (imp : Bool) (x : Eff) : Out :=
  match x.take with
  | some t => (match t.keep with
    | false => ⟨imp = true ∧ x.ok, ⟨.ref new t.sz 0 t.rows.length true, [(t.i1, .dead), (new, .dvec t.sz t.rows)], [t.i2]⟩⟩
    | true => ⟨x.ok, ⟨x.val, [], [t.i1]⟩⟩)
  | none => .no
def Z2e (T : Tab) (draw : Bool) (H : Heap) (new : Nat) (imp : Bool) (f : AV) (args : List AV) : Out :=
  match fnOf f with
  | some (g, caps) =>
    match T.G g (args ++ caps) H with
    | some x => if draw = true then Z47 new imp x else ⟨x.ok, ⟨x.val, x.ups, []⟩⟩
    | none => Z3g T.F H new imp f args
  | none => Z3g T.F H new imp f args

/-- The objects that a call adds. -/
def Z2g (T : Tab) (draw : Bool) (H : Heap) (f : AV) (args : List AV) : List HO :=
  match draw, fnOf f with
  | false, some (g, caps) =>
    match T.G g (args ++ caps) H with
    | some x => x.news
    | none => []
  | _, _ => []

def evN (T : Tab) (draw : Bool) (e : Env) (H : Heap) (o : LOp) : List HO :=
  match o with
  | .call _ _ f args => Z2g T draw H (f.ev e) (args.map (·.ev e))
  | _ => []

def State.grow (S : State) (news : List HO) : State := ⟨S.env, S.heap ++ news⟩

def evT (T : Tab) (draw : Bool) (base : Nat) (e : Env) (H : Heap) (o : LOp) : Out :=
  match o with
  | .mv x => .v True (x.ev e)
  | .pick c a b => (match c.ev e with | .d (.bool t) => .v True (Z4u t (a.ev e) (b.ev e)) | _ => .no)
  | .alloc c sz zero => ⟨True, ⟨.ptr (base + c) sz 0 0, [(base + c, .vec sz [zero])], []⟩⟩
  | .box c x => ⟨Z3u (x.ev e), ⟨.ptr (base + c) (Z37 (x.ev e)).length 0 0, [(base + c, .vec (Z37 (x.ev e)).length [Z37 (x.ev e)])], []⟩⟩
  | .build zero parts => .v (Z45 zero.length (parts.map fun p => (p.1, p.2.1, p.2.2.ev e))) (.agg (Z40 zero (parts.map fun p => (p.1, p.2.1, p.2.2.ev e))))
  | .bslice c sz len zero parts => ⟨Z39 sz len (parts.map fun p => (p.1, p.2.ev e)), ⟨.ref (base + c) sz 0 len true, [(base + c, Z4r sz (Z38 (List.replicate len zero) (parts.map fun p => (p.1, p.2.ev e))))], []⟩⟩
  | .load agg sz a => evLoad H agg sz (a.ev e)
  | .store sz a x => evStore H sz (a.ev e) (x.ev e)
  | .nilchk x => .v (match x.ev e with | .ptr .. | .dptr .. | .clo .. | .d (.fn _) => True | _ => False) (x.ev e)
  | .bin op x y => Z4l op (x.ev e) (y.ev e)
  | .eq neg pl x y => evEq neg pl (x.ev e) (y.ev e)
  | .un op x => evUn op (x.ev e)
  | .conv kd x => (match x.ev e with | .d (.int _ n) => .v True (.d (.int kd (kd.wrap n))) | _ => .no)
  | .fl f x y => evFl f (x.ev e) (y.ev e)
  | .fieldAddr off x => (match x.ev e with | .ptr id sz row j => .v True (.ptr id sz row (j + off)) | .dptr cs j => .v True (.dptr cs (j + off)) | _ => .no)
  | .field agg off sz x => (match x.ev e with | .agg cs => .v (Z4m agg sz off cs.length) (Z4v agg sz off cs) | _ => .no)
  | .idxAddr sz x i => evIdxAddr sz (x.ev e) (i.ev e)
  | .idxArrAddr len sz x i => evIdxArrAddr len sz (x.ev e) (i.ev e)
  | .idxArr agg len sz x i => evIdxArr agg len sz (x.ev e) (i.ev e)
  | .mkslice c sz bytes zero l m => evMk base c sz bytes zero (l.ev e) (m.ev e)
  | .slice sz x lo hi mx => Z3d sz e (x.ev e) lo hi mx
  | .extract i x => (match x.ev e with | .tup vs => .v (i < vs.length) (vs.getD i .undef) | _ => .no)
  | .mkfn f caps => .v True (match caps with | [] => .d (.fn f) | _ => .clo f (caps.map (·.ev e)))
  | .call c imp f args => Z2e T draw H (base + c) imp (f.ev e) (args.map (·.ev e))
  | .append c sz bytes x y => Z2d H (base + c) sz bytes (x.ev e) (y.ev e)
  | .copy sz x y => evCopy H sz (x.ev e) (y.ev e)
  | .len x => Z4t (x.ev e)
  | .apart x y => Z3a H (x.ev e) (y.ev e)
  | .appz c sz bytes zero x l => evAppz H (base + c) sz bytes zero (x.ev e) (l.ev e)
  | .maxi x y => Z3x (fun kd a b => .int kd (if b > a then b else a)) (x.ev e) (y.ev e)
  | .mini x y => Z3x (fun kd a b => .int kd (if b < a then b else a)) (x.ev e) (y.ev e)
  | .max3 x y z => evMax3 (x.ev e) (y.ev e) (z.ev e)

def stepK (o : Out) (k : Delta → Prop) : Prop := o.ok ∧ k o.δ
theorem Z15 {ok : Prop} {δ : Delta} {k : Delta → Prop} : stepK ⟨ok, δ⟩ k ↔ ok ∧ k δ := Iff.rfl
theorem Z1e {ok : Prop} {x : AV} {k : Delta → Prop} : stepK (.v ok x) k ↔ ok ∧ k ⟨x, [], []⟩ := Iff.rfl
theorem Z2v {k : Delta → Prop} : stepK .no k ↔ False := ⟨fun h => h.1.elim, fun h => h.elim⟩

/-- Two ways, by a bool. -/
def boolK (b : Bool) (go skip : Prop) : Prop := (b = true → go) ∧ (b = false → skip)
theorem Z0i {go skip : Prop} : boolK true go skip ↔ go := by simp [boolK]
theorem Z09 {go skip : Prop} : boolK false go skip ↔ skip := by simp [boolK]
theorem Z18 {b : Bool} {go skip : Prop} : boolK (!b) go skip ↔ boolK b skip go := by cases b <;> simp [boolK]
theorem Z0g {p : Prop} [Decidable p] {go skip : Prop} : boolK (decide p) go skip ↔ (p → go) ∧ (¬ p → skip) := by simp [boolK]
theorem Z1o {x y : Bool} {go skip : Prop} : boolK (x && y) go skip ↔ (x = true ∧ y = true → go) ∧ (x = false ∨ y = false → skip) := by cases x <;> cases y <;> simp [boolK]
def guardS (x : AV) (want : Bool) (go skip skip0 : Prop) : Prop :=
  match x with
  | .d (.bool b) => (b = want → go) ∧ (b = !want → skip)
  | .tup [] => skip0
  | _ => False
def State.know (S : State) (g : Nat) (b : Bool) : State := ⟨(g, .d (.bool b)) :: S.env, S.heap⟩

theorem know_like {S : State} {g : Nat} {b : Bool} (h : S.env.get g = .d (.bool b)) : Like S (S.know g b) := by
  refine ⟨fun t => ?_, rfl⟩
  simp only [State.know, Env.get]
  by_cases e : g = t
  · subst e; simp [h]
  · simp [e]

/-- What was touched: told only where the order is drawn. -/
def feet (draw : Bool) (f : List Nat × List Nat) (acc : Feet) : Feet :=
  match draw with
  | true => f :: acc
  | false => []

def RGk (T : Tab) (draw : Bool) (base : Nat) (pairs : List (Nat × Nat)) (K : State → Prop) : List LOper → State → Feet → Prop
  | [], S, acc => match draw with
    | true => chk pairs acc.reverse = true ∧ K S
    | false => K S
  | ⟨dst, op, none⟩ :: os, S, acc => stepK (evT T draw base S.env S.heap op) fun δ => RGk T draw base pairs K os ((S.app dst δ).grow (evN T draw S.env S.heap op)) (feet draw δ.foot acc)
  | ⟨dst, op, some (g, want)⟩ :: os, S, acc => guardS (S.env.get g) want
      (stepK (evT T draw base (S.know g want).env S.heap op) fun δ => RGk T draw base pairs K os (((S.know g want).app dst δ).grow (evN T draw (S.know g want).env S.heap op)) (feet draw δ.foot acc))
      (RGk T draw base pairs K os ((S.know g (!want)).app dst skipD) (feet draw ([], []) acc))
      (RGk T draw base pairs K os (S.app dst skipD) (feet draw ([], []) acc))


/-- A state that is like one of 'K'. -/
def LikeK (K : State → Prop) (S : State) : Prop := ∃ S', Like S S' ∧ K S'

theorem evT_data {T : Tab} {base : Nat} {e : Env} {H : Heap} {o : LOp} {draw : Bool} (h : ∀ c imp f args, o ≠ .call c imp f args) : evT T draw base e H o = evOp T.F base e H o ∧ evN T draw e H o = [] := by
  cases o with
  | call c imp f args => exact absurd rfl (h _ _ _ _)
  | _ => exact ⟨rfl, rfl⟩

theorem evT_draw {P : Program} {T : Tab} (hT : TabOK P T) {base : Nat} {e : Env} {H : Heap} {o : LOp} (h : (evT T true base e H o).ok) : actK P base e H o (· = (evT T true base e H o).δ) ∧ evN T true e H o = [] := by
  cases o with
  | call c imp f args =>
    refine ⟨?_, rfl⟩
    simp only [evT, Z2e] at h ⊢
    cases hf : fnOf (f.ev e) with
    | none =>
      simp only [hf] at h ⊢
      exact evOp_sound (o := .call c imp f args) hT.F h
    | some gc =>
      obtain ⟨g, caps⟩ := gc
      simp only [hf] at h ⊢
      cases hG : T.G g (args.map (·.ev e) ++ caps) H with
      | none =>
        simp only [hG] at h ⊢
        exact evOp_sound (o := .call c imp f args) hT.F h
      | some x =>
        simp only [hG, if_true] at h ⊢
        cases hx : x.take with
        | none => simp only [Z47, hx] at h; exact h.elim
        | some t =>
          simp only [Z47, hx] at h ⊢
          cases hk : t.keep with
          | false =>
            simp only [hk] at h ⊢
            have hK := hT.K _ _ _ _ _ hG hx h.2
            simp only [Take.Ok, hk] at hK
            obtain ⟨a', rows, rows2, k1, k2, k3, k4, k5⟩ := hK
            exact ⟨g, caps, hf, .inr (.inr (.inl ⟨h.1, t.i1, t.i2, a', t.sz, rows, rows2, t.rows, k1, k2, k3, k4, k5, rfl⟩))⟩
          | true =>
            simp only [hk] at h ⊢
            have hK := hT.K _ _ _ _ _ hG hx h
            simp only [Take.Ok, hk] at hK
            obtain ⟨a', rows, k1, k2, k3, k4⟩ := hK
            exact ⟨g, caps, hf, .inr (.inr (.inr ⟨t.i1, a', t.sz, rows, x.val, k1, k2, k3, k4, rfl⟩))⟩
  | _ => exact ⟨evOp_sound hT.F h, rfl⟩

theorem evT_call {T : Tab} {base : Nat} {e : Env} {H : Heap} {c : Nat} {imp : Bool} {f : Opd} {args : List Opd} : 
    (evT T false base e H (.call c imp f args) = evOp T.F base e H (.call c imp f args) ∧ evN T false e H (.call c imp f args) = []) ∨
    ∃ g caps x, fnOf (f.ev e) = some (g, caps) ∧ T.G g (args.map (·.ev e) ++ caps) H = some x ∧ evT T false base e H (.call c imp f args) = ⟨x.ok, ⟨x.val, x.ups, []⟩⟩ ∧ evN T false e H (.call c imp f args) = x.news := by
  simp only [evT, evOp, Z2e, evN, Z2g]
  cases h : fnOf (f.ev e) with
  | none => exact .inl ⟨rfl, rfl⟩
  | some gc =>
    obtain ⟨g, caps⟩ := gc
    cases h2 : T.G g (args.map (·.ev e) ++ caps) H with
    | none => exact .inl (by simp only [h2, and_self])
    | some x => exact .inr ⟨g, caps, x, rfl, h2, by simp only [h2, Bool.false_eq_true, if_false, and_self]⟩

theorem applyUps_len (ups : List (Nat × HO)) : ∀ (H : Heap), (applyUps H ups).length = H.length := by
  induction ups with
  | nil => intro H; rfl
  | cons u us ih => intro H; show (applyUps (H.set u.1 u.2) us).length = _; rw [ih]; simp

theorem RGk.rg {P : Program} {T : Tab} (hT : TabOK P T) {draw : Bool} {base : Nat} {pairs : List (Nat × Nat)} (hp : draw = false → pairs = []) {K : State → Prop} :
    ∀ (los : List LOper) (S S' : State) (acc acc' : Feet), Like S S' → (draw = true → acc = acc') → RGk T draw base pairs K los S' acc' → RG P draw base pairs (LikeK K) los S acc := by
  have hF := hT.F
  intro los
  induction los with
  | nil =>
    intro S S' acc acc' hl ha h
    cases draw with
    | true => rw [ha rfl]; exact ⟨h.1, S', hl, h.2⟩
    | false => rw [hp rfl]; exact ⟨rfl, S', hl, h⟩
  | cons o os ih =>
    intro S S' acc acc' hl ha h
    obtain ⟨dst, op, guard⟩ := o
    -- one operation that is done
    have one : ∀ {S' : State}, Like S S' → stepK (evT T draw base S'.env S'.heap op) (fun δ => RGk T draw base pairs K os ((S'.app dst δ).grow (evN T draw S'.env S'.heap op)) (feet draw δ.foot acc')) →
        (actK P base S.env S.heap op fun δ => RG P draw base pairs (LikeK K) os (S.app dst δ) ((δ.rd, δ.ups.map (·.1)) :: acc)) ∨
        (draw = false ∧ ∃ c imp f args g caps, op = .call c imp f args ∧ fnOf (f.ev S.env) = some (g, caps) ∧
          ACalls P g (args.map (·.ev S.env) ++ caps) S.heap fun r H' => S.heap.length ≤ H'.length ∧ RG P draw base pairs (LikeK K) os ({ S with heap := H' }.app dst ⟨r, [], []⟩) (([], []) :: acc)) := by
      intro S' hl ⟨h1, h2⟩
      have grow0 : ∀ S1 : State, S1.grow [] = S1 := fun S1 => by simp [State.grow]
      have data0 : actK P base S'.env S'.heap op (· = (evT T draw base S'.env S'.heap op).δ) ∧ evN T draw S'.env S'.heap op = [] → actK P base S.env S.heap op fun δ => RG P draw base pairs (LikeK K) os (S.app dst δ) ((δ.rd, δ.ups.map (·.1)) :: acc) := fun e => by
        simp only [e.2, grow0] at h2
        have hs' : actK P base S.env S.heap op (· = (evT T draw base S'.env S'.heap op).δ) := by
          have : Step P base ⟨dst, op, none⟩ (evT T draw base S'.env S'.heap op).δ S' := e.1
          exact hl.symm.step this
        refine actK_mono hs' fun δ hδ => ?_
        subst hδ
        exact ih _ _ _ _ (hl.app _ _) (fun hd => by rw [ha hd]; subst hd; rfl) h2
      have data : evT T draw base S'.env S'.heap op = evOp T.F base S'.env S'.heap op ∧ evN T draw S'.env S'.heap op = [] → actK P base S.env S.heap op fun δ => RG P draw base pairs (LikeK K) os (S.app dst δ) ((δ.rd, δ.ups.map (·.1)) :: acc) := fun e => by
        refine data0 ⟨?_, e.2⟩
        rw [e.1] at h1 ⊢
        exact evOp_sound (P := P) hF h1
      cases hd : draw with
      | true => subst hd; exact .inl (data0 (evT_draw hT h1))
      | false =>
        subst hd
        cases op with
        | call c imp f args =>
          rcases evT_call (T := T) (base := base) (e := S'.env) (H := S'.heap) (c := c) (imp := imp) (f := f) (args := args) with e | ⟨g, caps, x, e1, e2, e3, e4⟩
          · exact .inl (data e)
          · refine .inr ⟨rfl, c, imp, f, args, g, caps, rfl, ?_, ?_⟩
            · have : f.ev S.env = f.ev S'.env := by cases f <;> simp [Opd.ev, hl.1]
              rw [this]; exact e1
            · have ea : args.map (·.ev S.env) = args.map (·.ev S'.env) := List.map_congr_left fun y _ => by cases y <;> simp [Opd.ev, hl.1]
              rw [e3] at h1
              simp only [e3, e4] at h2
              rw [ea, hl.2]
              refine (hT.G _ _ _ _ e2 h1).mono fun r H' ⟨hr, hH⟩ => ?_
              subst hr; subst hH
              refine ⟨by rw [List.length_append, applyUps_len]; omega, ih _ _ _ _ ?_ (fun hd => by cases hd) h2⟩
              refine ⟨fun t => ?_, ?_⟩
              · show Env.get (State.app _ _ _).env t = Env.get (State.app _ _ _).env t
                rw [get_app, get_app]; simp only [hl.1 t]
              · rfl
        | _ => exact .inl (data (evT_data (fun _ _ _ _ h => by cases h)))
    cases guard with
    | none => exact one hl h
    | some gw =>
      obtain ⟨g, want⟩ := gw
      simp only [RGk] at h
      simp only [RG]
      rw [hl.1 g]
      unfold guardS at h
      split at h
      · rename_i b hb
        simp only [hb]
        refine ⟨fun e => ?_, fun e => ?_⟩
        · subst e
          exact one (hl.trans (know_like hb)) (h.1 rfl)
        · have e' : b = !want := by cases b <;> cases want <;> simp_all
          have := h.2 e'
          rw [← e'] at this
          exact ih _ _ _ _ ((hl.trans (know_like hb)).app _ _) (fun hd => by rw [ha hd]; subst hd; rfl) this
      · rename_i hb
        simp only [hb]
        exact ih _ _ _ _ (hl.app _ _) (fun hd => by rw [ha hd]; subst hd; rfl) h
      · exact h.elim

def knowO (S : State) (c : Opd) (b : Bool) : State :=
  match c with
  | .tmp t => S.know t b
  | .cst _ => S

def condS (x : AV) (go skip : Prop) : Prop :=
  match x with
  | .d (.bool t) => (t = true → go) ∧ (t = false → skip)
  | _ => False
/-- Is a slice nil? One that has something in it is not; of any other both must do. -/
def nilS (x : AV) (neg : Bool) (k : Bool → Prop) : Prop :=
  match x with
  | .d (.list rows _) => k neg ∧ (rows.length = 0 → k (!neg))
  | .ref _ _ _ len _ => k neg ∧ (len = 0 → k (!neg))
  | _ => False

/-! ### What is asked of a body -/
def loopV (n0 : Nat) (K : AExit → State → Prop) (I : Nat → State → Prop) (k : Nat) : AExit → State → Prop
  | .normal, S' => ∃ k', k' < k ∧ Wk n0 (I k') S'
  | x, S' => Wk n0 (K x) S'

def vck (T : Tab) (n0 : Nat) (live : List Nat) : LCode → State → (AExit → State → Prop) → Prop
  | .skip, S, K => K .normal S
  | .ret, S, K => K .ret S
  | .exit id, S, K => K (.exit id) S
  | .region draw los pairs, S, K => RGk T draw S.heap.length pairs (fun S' => K .normal (S'.prune live)) los (Z0l S (Z3o los)) []
  | .nilq los neg dst x, S, K => RGk T false S.heap.length [] (fun S' => nilS (x.ev S'.env) neg fun b => K .normal ((S'.app (some dst) ⟨.d (.bool b), [], []⟩).prune live)) los (Z0l S (Z3o los)) []
  | .seq a b, S, K => vck T n0 live a S (thenK (fun S' => vck T n0 live b S' K) K)
  | .cond c a b, S, K => condS (c.ev S.env) (vck T n0 live a (knowO S c true) K) (vck T n0 live b (knowO S c false) K)
  | .block id b, S, K => vck T n0 live b S (blockK id K)
  | .loop b, S, K => ∃ (I : Nat → State → Prop) (k : Nat), Wk n0 (I k) S ∧ ∀ k S, I k S → vck T n0 live b S (loopV n0 K I k)


theorem AWP.like {P : Program} {n n0 : Nat} {c : Code} {S S' : State} {K : AExit → State → Prop} (hl : Like S S') (h : AWP P n n0 c S' K) : AWP P n n0 c S K := by
  intro A φ a w hs Q hq
  refine h A φ a w (hl.sim hs) Q fun x S1 φ' a' w' hK hs' he => hq x S1 φ' a' w' hK hs' ?_
  rw [hl.2]; exact he

theorem AWP.unlike {P : Program} {n n0 : Nat} {c : Code} {S : State} {K : AExit → State → Prop} (h : AWP P n n0 c S fun x => LikeK (K x)) : AWP P n n0 c S K := by
  intro A φ a w hs Q hq
  refine h A φ a w hs Q fun x S1 φ' a' w' ⟨S2, hl, hK⟩ hs' he => hq x S2 φ' a' w' hK (hl.sim hs') ?_
  rw [← hl.2]; exact he

theorem AWP.nilq {P : Program} {n n0 id : Nat} {ops : Array Oper} {draw neg : Bool} {t : Nat} {x : Opd} {los : List LOper} {S : State} {K : State → Prop} (hq : nilqOf P n ops draw = some (los, neg, t, x)) (h0 : n0 ≤ S.heap.length)
    (hg : RG P false S.heap.length [] (LikeK fun S' => nilS (x.ev S'.env) neg fun b => K (S'.app (some t) ⟨.d (.bool b), [], []⟩)) los (Z0l S (Z3o los)) []) :
    AWP P n n0 (.region id ops draw) S (fun e S' => (match e with | .normal => K S' | _ => False) ∧ n0 ≤ S'.heap.length) := by
  intro A φ a w hs Q hQ
  unfold nilqOf at hq
  split at hq
  case h_2 => cases hq
  rename_i o pre hops
  split at hq
  case h_2 => cases hq
  rename_i t' op ty y yt hdst hguard hop
  have hops' : ops.toList = pre.reverse ++ [o] := by
    have := congrArg List.reverse hops
    simpa using this
  have hget : ops[pre.length]? = some o := by
    rw [← Array.getElem?_toList, hops', List.getElem?_append_right (by simp)]; simp
  have fin : ∀ (ng : Bool) (e : TypeId) (bo : BinOp), P.underlying ty = some (.slice e) → t' < n → lowOpd P y = some x → lowOps P n ops 0 pre.reverse = some los → ng = neg → t' = t → op = bo →
      (∀ w ad l c, (binOp bo ty (.slice ad l c) (.slice none 0 0)).run P w = .ok (.bool (xor ng ad.isNone)) w) → (Code.region id ops false).wp P Q a w := by
    intro ng e bo hty hlt hy hlos e1 e2 e3 hrun
    subst e1; subst e2; subst e3
    refine wp_region ?_
    obtain ⟨hs', hfree⟩ := sim_reserve hs (Z3o los)
    have hon : Onward A φ S.heap w φ (Z0l S (Z3o los)).heap w := ⟨fun _ _ h => h, Pres.refl _ _, fun b hb => .inl ((own_reserve _ _ b).1 hb)⟩
    have hrange : List.range ops.size = List.range' 0 pre.reverse.length ++ [pre.length] := by
      have : ops.size = pre.length + 1 := by rw [← Array.length_toList, hops']; simp
      rw [this, List.range_succ, List.range_eq_range']; simp
    rw [hrange]
    refine ops_text (base := S.heap.length) (Q := Q) [o] [pre.length] pre.reverse 0 0 los (Z0l S (Z3o los)) [] φ a w (by simpa using hops') hlos hg hs' (by simp [Z0l]) (fun k _ _ => hfree _ (by omega)) ?_
    intro S1 φ1 a1 w1 ⟨S2, hlk, hK⟩ hs1 hon1 hid hl
    have hs2 := hlk.sim hs1
    have hr := Z3h hs2 hy
    obtain ⟨ad, l, c, hv, hk⟩ : ∃ ad l c, a1.eval y = .slice ad l c ∧ K (S2.app (some t') ⟨.d (.bool (xor ng ad.isNone)), [], []⟩) := by
      have hK : nilS (x.ev S2.env) ng fun b => K (S2.app (some t') ⟨.d (.bool b), [], []⟩) := hK
      generalize a1.eval y = v at hr
      generalize x.ev S2.env = X at hr hK
      unfold nilS at hK
      split at hK
      · rename_i rows full
        cases hr with
        | d _ _ hr =>
          cases hr with
          | nil full ad cap hf =>
            refine ⟨ad, 0, cap, rfl, ?_⟩
            cases ad with
            | none => simpa using hK.2 rfl
            | some ad => simpa using hK.1
          | list rows full sz b off cap f hb hM hsz hcap hfull hc hr => exact ⟨_, _, _, rfl, by simpa using hK.1⟩
      · rename_i i sz row len room
        cases hr with
        | ref0 id sz row room ad =>
          refine ⟨ad, 0, 0, rfl, ?_⟩
          cases ad with
          | none => simpa using hK.2 rfl
          | some ad => simpa using hK.1
        | ref => exact ⟨_, _, _, rfl, by simpa using hK.1⟩
      · exact hK.elim
    have hwp : o.wp P a1 w1 (wpOps P ops Q []) Q := by
      refine wp_value (v := .bool (xor ng ad.isNone)) (w' := w1) ?_ ?_
      · simp only [execOp, hop]
        refine run_v ?_
        have : Act.eval a1 (.const (.slice none 0 0)) = .slice none 0 0 := rfl
        rw [this, hv]
        have hg : (eqGuard op ty y (.const (.slice none 0 0)) (.slice ad l c) (.slice none 0 0)).run P w1 = .ok () w1 := by
          unfold eqGuard
          cases op <;> simp
        rw [Sem.run_bind, hg]
        exact hrun w1 ad l c
      · show Q .normal _ _
        have hs3 := sim_put (x := .d (.bool (xor ng ad.isNone))) (v := .bool (xor ng ad.isNone)) (dst := some t') hs2 hs2.heap (Onward.same hs2.heap) (fun t ht => by cases ht; exact hlt) (.d _ _ (.bool _))
        rw [hdst]
        refine hQ .normal _ φ1 _ w1 ⟨hk, ?_⟩ hs3 ⟨fun i hi => hid i (by omega), ?_, ?_⟩
        · show n0 ≤ S2.heap.length
          rw [← hlk.2]; simp only [Z0l, List.length_append] at hl; omega
        · exact (hon.trans hon1).pres
        · intro b hb
          refine (hon.trans hon1).mono b ?_
          rw [hlk.2]; exact hb
    unfold wpOps
    simp only [hget]
    rw [wanted_none (all := ops) hguard, if_pos rfl]
    exact .inl hwp
  split at hq
  · rename_i e hty
    split at hq
    · rename_i hlt
      simp only [Option.bind_eq_some_iff, Option.map_eq_some_iff, Prod.mk.injEq] at hq
      obtain ⟨y', hy, los', hlos, rfl, e1, e2, rfl⟩ := hq
      exact fin false e .eql hty hlt hy hlos e1 e2 rfl fun w ad l c => by simpa using Go.Lib.run_eql_slice_nil w ty e ad l c 0 0 hty
    · cases hq
  · rename_i e hty
    split at hq
    · rename_i hlt
      simp only [Option.bind_eq_some_iff, Option.map_eq_some_iff, Prod.mk.injEq] at hq
      obtain ⟨y', hy, los', hlos, rfl, e1, e2, rfl⟩ := hq
      exact fin true e .neq hty hlt hy hlos e1 e2 rfl fun w ad l c => by simpa using Go.run_neq_slice_nil_any w ty e ad l c 0 0 hty
    · cases hq
  · cases hq

/-- What is asked is enough. -/
theorem vck_sound {P : Program} {n : Nat} {T : Tab} (hT : TabOK P T) {n0 : Nat} {live : List Nat} : ∀ (c : Code) (lc : LCode) (S : State) (K : AExit → State → Prop), lowCode P n c = some lc → n0 ≤ S.heap.length →
    vck T n0 live lc S K → AWPn P n n0 c S K := by
  intro c
  induction c with
  | skip =>
    intro lc S K hl h0 h
    simp only [lowCode, Option.some.injEq] at hl; subst hl
    exact AWP.skip ⟨h, h0⟩
  | ret =>
    intro lc S K hl h0 h
    simp only [lowCode, Option.some.injEq] at hl; subst hl
    exact AWP.ret ⟨h, h0⟩
  | exit id =>
    intro lc S K hl h0 h
    simp only [lowCode, Option.some.injEq] at hl; subst hl
    exact AWP.exit ⟨h, h0⟩
  | region id ops draw =>
    intro lc S K hl h0 h
    simp only [lowCode] at hl
    split at hl
    · rename_i los neg t x hq
      simp only [Option.some.injEq] at hl; subst hl
      simp only [vck] at h
      refine AWP.pruned live (AWP.mono (AWP.nilq (K := fun S' => K .normal (S'.prune live)) hq h0 (h.rg hT (fun _ => rfl) _ _ _ _ _ (Like.refl _) (fun _ => rfl))) fun e S' hK => ?_)
      cases e with
      | normal => exact hK
      | exit id => exact hK.1.elim
      | ret => exact hK.1.elim
    simp only [Option.bind_eq_some_iff] at hl
    obtain ⟨los, hlos, hl⟩ := hl
    have fin : AWP P n n0 (.region id ops draw) S (fun x S' => (match x with | .normal => LikeK (fun S' => K .normal (S'.prune live)) S' | x => False) ∧ n0 ≤ S'.heap.length) := by
      split at hl
      · rename_i hd
        split at hl
        · rename_i hc
          simp only [Option.some.injEq] at hl; subst hl
          simp only [Bool.and_eq_true] at hc
          subst hd
          exact AWP.draw (K := fun x S' => match x with | .normal => LikeK (fun S' => K .normal (S'.prune live)) S' | x => False) hlos hc.1 (fun md h => List.all_eq_true.1 hc.2 md h) h0 (h.rg hT (by simp) _ _ _ _ _ (Like.refl _) (fun _ => rfl))
        · cases hl
      · rename_i hd
        simp only [Option.some.injEq] at hl; subst hl
        have hd : draw = false := by simpa using hd
        subst hd
        exact AWP.region (K := fun x S' => match x with | .normal => LikeK (fun S' => K .normal (S'.prune live)) S' | x => False) hlos h0 (h.rg hT (fun _ => rfl) _ _ _ _ _ (Like.refl _) (fun _ => rfl))
    refine AWP.unlike (AWP.mono (AWP.pruned live (K := fun x S' => (match x with | .normal => LikeK (fun S' => K .normal S') S' | x => False) ∧ n0 ≤ S'.heap.length) (fin.mono fun x S' hK => ?_)) fun x S' hK => ?_)
    · cases x with
      | normal =>
        obtain ⟨⟨S1, hl, hK⟩, h1⟩ := hK
        refine ⟨⟨S1.prune live, ⟨fun t => ?_, hl.2⟩, hK⟩, h1⟩
        show Env.get (live.map fun t => (t, S'.env.get t)) t = Env.get (live.map fun t => (t, S1.env.get t)) t
        rw [get_map (f := fun t => S'.env.get t), get_map (f := fun t => S1.env.get t), hl.1]
      | exit id => exact hK.1.elim
      | ret => exact hK.1.elim
    · cases x with
      | normal =>
        obtain ⟨⟨S1, hl, hK⟩, h1⟩ := hK
        exact ⟨S1, hl, hK, by rw [← hl.2]; exact h1⟩
      | exit id => exact hK.1.elim
      | ret => exact hK.1.elim
  | seq a b iha ihb =>
    intro lc S K hl h0 h
    simp only [lowCode, Option.bind_eq_some_iff, Option.map_eq_some_iff] at hl
    obtain ⟨a', ha, b', hb, rfl⟩ := hl
    refine AWP.seq (AWP.mono (iha a' S _ ha h0 h) fun x S' hK => ?_)
    cases x with
    | normal => exact ihb b' S' K hb hK.2 hK.1
    | exit id => exact hK
    | ret => exact hK
  | cond c a b iha ihb =>
    intro lc S K hl h0 h
    simp only [lowCode, Option.bind_eq_some_iff, Option.map_eq_some_iff] at hl
    obtain ⟨c', hc, a', ha, b', hb, rfl⟩ := hl
    simp only [vck] at h
    unfold condS at h
    split at h
    · rename_i t ht
      have hk : ∀ b, t = b → Like S (knowO S c' b) := fun b e => by
        subst e
        cases c' with
        | tmp s => exact know_like ht
        | cst v => exact Like.refl _
      have hn : ∀ b, n0 ≤ (knowO S c' b).heap.length := fun b => by cases c' <;> exact h0
      exact AWP.cond (c'.ev S.env) (fun A φ act w hs => Z3h hs hc) ht (fun e => AWP.like (hk _ e) (iha a' _ K ha (hn _) (h.1 e))) (fun e => AWP.like (hk _ e) (ihb b' _ K hb (hn _) (h.2 e)))
    · exact h.elim
  | block id b ih =>
    intro lc S K hl h0 h
    simp only [lowCode, Option.map_eq_some_iff] at hl
    obtain ⟨b', hb, rfl⟩ := hl
    refine AWP.block (AWP.mono (ih b' S _ hb h0 h) fun x S' hK => ?_)
    cases x with
    | normal => exact hK
    | exit j =>
      obtain ⟨hK, h1⟩ := hK
      simp only [blockK] at hK ⊢
      split
      · rename_i e; rw [if_pos e] at hK; exact ⟨hK, h1⟩
      · rename_i e; rw [if_neg e] at hK; exact ⟨hK, h1⟩
    | ret => exact hK
  | loop b ih =>
    intro lc S K hl h0 h
    simp only [lowCode, Option.map_eq_some_iff] at hl
    obtain ⟨b', hb, rfl⟩ := hl
    obtain ⟨I, k, hI, hround⟩ := h
    refine AWPn.enter hI h0 fun S1 h1 hI1 => ?_
    refine AWP.loop (fun k S => I k S ∧ n0 ≤ S.heap.length) k ⟨hI1, h1⟩ fun k S2 ⟨h2, h3⟩ => ?_
    have := AWP.wk (K := fun x S' => match x with | .normal => ∃ k', k' < k ∧ I k' S' | x => K x S') (S := S2) (c := b) (P := P) (n := n) (n0 := n0) (AWP.mono (ih b' S2 _ hb h3 (hround k S2 h2)) fun x S' ⟨hK, hl⟩ => by
      cases x with
      | normal =>
        obtain ⟨k', hk, hK⟩ := hK
        rcases hK with hK | ⟨S'', g1, g2, g3⟩
        · exact .inl ⟨⟨k', hk, hK⟩, hl⟩
        · exact .inr ⟨S'', g1, g2, k', hk, g3⟩
      | exit id =>
        rcases hK with hK | ⟨S'', g1, g2, g3⟩
        · exact .inl ⟨hK, hl⟩
        · exact .inr ⟨S'', g1, g2, g3⟩
      | ret =>
        rcases hK with hK | ⟨S'', g1, g2, g3⟩
        · exact .inl ⟨hK, hl⟩
        · exact .inr ⟨S'', g1, g2, g3⟩)
    refine AWP.mono this fun x S' hK => ?_
    cases x with
    | normal => obtain ⟨⟨k', hk, hK⟩, hl⟩ := hK; exact ⟨k', hk, hK, hl⟩
    | exit id => exact hK
    | ret => exact hK
  | _ => intro lc S K hl; simp [lowCode] at hl

/-- A call, from what is asked of the body. -/
theorem ACalls.of_vck {P : Program} {T : Tab} (hT : TabOK P T) {f : FuncId} {fn : Func} {c : Code} {lc : LCode} {rs : List LRes} (live : List Nat) (hf : P.funcs[f]? = some fn)
    (hname : (fn.name == "runtime.NumGoroutine") = false) (hb : fn.body = some c) (hl : lowCode P fn.ntmps c = some lc) (hr : lowRess P fn.results.toList = some rs) {args : List AV} {H : Heap}
    {Post : AV → Heap → Prop} (ha : args.length ≤ fn.ntmps) (h : vck T H.length live lc ⟨Z1m 0 args, H⟩ (retK rs Post)) : ACalls P f args H Post := by
  refine ⟨⟨fn, hf, hname, by rw [hb]; rfl⟩, fun A φ w vals hs hz hrel => ?_⟩
  refine calls_of_wp hf hb ?_
  have hsim : Sim P A fn.ntmps φ ⟨Z1m 0 args, H⟩ { tmps := vals ++ Array.replicate (fn.ntmps - vals.size) undef, defers := [] } w := by
    refine ⟨hs, by simp; omega, rfl, fun t => ?_⟩
    simp only [envFrom_get, Nat.zero_le, if_true, Nat.sub_zero]
    by_cases ht : t < args.length
    · rw [List.getD_eq_getElem?_getD, List.getElem?_eq_getElem ht, Array.getD_eq_getD_getElem?, Array.getElem?_append_left (by omega), Array.getElem?_eq_getElem (by omega)]
      exact hrel t _ _ (List.getElem?_eq_getElem ht) (Array.getElem?_eq_getElem (by omega))
    · rw [List.getD_eq_getElem?_getD, List.getElem?_eq_none (by omega)]
      exact .undef _
  refine vck_sound hT c lc _ _ hl (Nat.le_refl _) h A φ _ w hsim _ fun x S' φ' a' w' hK hs' he => ?_
  have fin : resQ S' rs ∧ Post (resV S' rs) S'.heap → a'.defers = [] ∧ ∃ v, (results fn a'.tmps).run P w' = .ok v w' ∧
      ∃ v' r H' φ', Ending.returned v = .returned v' ∧ Post r H' ∧ SimH P A φ' H' w' ∧ Rel φ' (Mb A φ' H') w' r v' ∧ Ext H.length φ H w φ' H' w' := fun ⟨h1, h2⟩ => by
    obtain ⟨v, hv, hrv⟩ := run_results hs' hr h1
    exact ⟨hs'.defs, v, hv, v, _, _, φ', rfl, h2, hs'.heap, hrv, he⟩
  cases x with
  | normal => exact fin hK.1
  | exit id => exact hK.1.elim
  | ret => exact fin hK.1

end Go.Ago

/- The laws by which a body is reckoned through. Conditions: none. -/
set_option linter.unusedSimpArgs false
set_option linter.unusedVariables false
namespace Go.Ago

def nf (S : State) : State := S
theorem Z49 {e : Env} {H : Heap} : nf ⟨e, H⟩ = ⟨e, H⟩ := rfl

def regK (live : List Nat) (K : AExit → State → Prop) : State → Prop := fun S' => K .normal (S'.prune live)
def vckTo (T : Tab) (n0 : Nat) (live : List Nat) (lc : LCode) (K : AExit → State → Prop) : State → Prop := fun S => vck T n0 live lc S K
def opK (T : Tab) (draw : Bool) (base : Nat) (pairs : List (Nat × Nat)) (K : State → Prop) (dst : Option Nat) (os : List LOper) (S : State) (acc : Feet) (news : List HO) : Delta → Prop :=
  fun δ => RGk T draw base pairs K os ((S.app dst δ).grow news) (feet draw δ.foot acc)

/-- A guarded operation, its guard looked up. -/
def guardG (x : AV) (g : Nat) (want : Bool) (T : Tab) (draw : Bool) (base : Nat) (pairs : List (Nat × Nat)) (K : State → Prop) (dst : Option Nat) (op : LOp) (os : List LOper) (S : State) (acc : Feet) : Prop :=
  guardS x want
    (stepK (evT T draw base (S.know g want).env S.heap op) (opK T draw base pairs K dst os (S.know g want) acc (evN T draw (S.know g want).env S.heap op)))
    (RGk T draw base pairs K os ((S.know g (!want)).app dst skipD) (feet draw ([], []) acc))
    (RGk T draw base pairs K os (S.app dst skipD) (feet draw ([], []) acc))

/-- An 'if', its test looked up. -/
def condG (x : AV) (T : Tab) (n0 : Nat) (live : List Nat) (a b : LCode) (c : Opd) (S : State) (K : AExit → State → Prop) : Prop :=
  condS x (vck T n0 live a (knowO S c true) K) (vck T n0 live b (knowO S c false) K)

/-- A test on nil, its slice looked up. -/
def nilG (x : AV) (neg : Bool) (dst : Nat) (S : State) (live : List Nat) (K : AExit → State → Prop) : Prop := nilS x neg fun b => K .normal ((S.app (some dst) ⟨.d (.bool b), [], []⟩).prune live)

def nilTo (neg : Bool) (dst : Nat) (x : Opd) (live : List Nat) (K : AExit → State → Prop) : State → Prop := fun S => nilS (x.ev S.env) neg fun b => K .normal ((S.app (some dst) ⟨.d (.bool b), [], []⟩).prune live)

/-- A loop that is come to. -/
def Loop (T : Tab) (n0 : Nat) (live : List Nat) (b : LCode) (S : State) (K : AExit → State → Prop) : Prop := vck T n0 live (.loop b) S K

section
variable {T : Tab} {n0 : Nat} {live : List Nat} {S : State} {K : AExit → State → Prop} {a b : LCode}

theorem Z19 : vck T n0 live .skip S K ↔ K .normal S := Iff.rfl
theorem Z26 : vck T n0 live .ret S K ↔ K .ret S := Iff.rfl
theorem Z1z {id : Nat} : vck T n0 live (.exit id) S K ↔ K (.exit id) S := Iff.rfl
theorem Z05 {draw : Bool} {los : List LOper} {pairs : List (Nat × Nat)} :
    vck T n0 live (.region draw los pairs) S K ↔ RGk T draw (nf S).heap.length pairs (regK live K) los (Z0l S (Z3o los)) [] := Iff.rfl
theorem Z2m {los : List LOper} {neg : Bool} {dst : Nat} {x : Opd} : vck T n0 live (.nilq los neg dst x) S K ↔ RGk T false (nf S).heap.length [] (nilTo neg dst x live K) los (Z0l S (Z3o los)) [] := Iff.rfl
theorem Z2l {neg : Bool} {dst : Nat} {x : Opd} : nilTo neg dst x live K S ↔ nilG (x.ev (nf S).env) neg dst (nf S) live K := Iff.rfl
theorem Z4b {neg : Bool} {dst : Nat} {rows : List (List DV)} {full : Bool} : nilG (.d (.list rows full)) neg dst S live K ↔ K .normal ((S.app (some dst) ⟨.d (.bool neg), [], []⟩).prune live) ∧ (rows.length = 0 → K .normal ((S.app (some dst) ⟨.d (.bool (!neg)), [], []⟩).prune live)) := Iff.rfl
theorem Z4g {neg : Bool} {dst : Nat} {id sz row len : Nat} {room : Bool} : nilG (.ref id sz row len room) neg dst S live K ↔ K .normal ((S.app (some dst) ⟨.d (.bool neg), [], []⟩).prune live) ∧ (len = 0 → K .normal ((S.app (some dst) ⟨.d (.bool (!neg)), [], []⟩).prune live)) := Iff.rfl
theorem Z1l : vck T n0 live (.seq a b) S K ↔ vck T n0 live a S (thenK (vckTo T n0 live b K) K) := Iff.rfl
theorem Z17 {c : Opd} : vck T n0 live (.cond c a b) S K ↔ condG (c.ev (nf S).env) T n0 live a b c (nf S) K := Iff.rfl
theorem Z0h {id : Nat} : vck T n0 live (.block id b) S K ↔ vck T n0 live b S (blockK id K) := Iff.rfl
theorem Z20 : vck T n0 live (.loop b) S K ↔ Loop T n0 live b (nf S) K := Iff.rfl

theorem Z2a {t : Bool} {c : Opd} : condG (.d (.bool t)) T n0 live a b c S K ↔ boolK t (vck T n0 live a (knowO S c true) K) (vck T n0 live b (knowO S c false) K) := Iff.rfl

theorem Z0k : vckTo T n0 live b K S ↔ vck T n0 live b S K := Iff.rfl
theorem Z1k {f : State → Prop} : thenK f K .normal S ↔ f S := Iff.rfl
theorem Z31 {f : State → Prop} {id : Nat} : thenK f K (.exit id) S ↔ K (.exit id) S := Iff.rfl
theorem Z30 {f : State → Prop} : thenK f K .ret S ↔ K .ret S := Iff.rfl
theorem Z24 {id : Nat} : blockK id K .normal S ↔ K .normal S := Iff.rfl
theorem Z1x {id : Nat} : blockK id K (.exit id) S ↔ K .normal S := by simp [blockK]
theorem Z2o {id j : Nat} (h : (id == j) = false) : blockK id K (.exit j) S ↔ K (.exit j) S := by
  have : ¬ j = id := fun e => by simp [e] at h
  simp [blockK, this]
theorem Z2c {id : Nat} : blockK id K .ret S ↔ K .ret S := Iff.rfl
theorem Z1j : regK live K S ↔ K .normal (S.prune live) := Iff.rfl
theorem Z3b {rs : List LRes} {Post : AV → Heap → Prop} : retK rs Post .ret S ↔ resQ (nf S) rs ∧ Post (resV (nf S) rs) (nf S).heap := Iff.rfl
theorem Z4c {rs : List LRes} {Post : AV → Heap → Prop} : retK rs Post .normal S ↔ resQ (nf S) rs ∧ Post (resV (nf S) rs) (nf S).heap := Iff.rfl
theorem Z3l {I : Nat → State → Prop} {k : Nat} : loopV n0 K I k .normal S ↔ ∃ k', k' < k ∧ Wk n0 (I k') (nf S) := Iff.rfl
theorem Z3n {I : Nat → State → Prop} {k id : Nat} : loopV n0 K I k (.exit id) S ↔ Wk n0 (K (.exit id)) (nf S) := Iff.rfl
theorem Z3m {I : Nat → State → Prop} {k : Nat} : loopV n0 K I k .ret S ↔ Wk n0 (K .ret) (nf S) := Iff.rfl

end

section
variable {T : Tab} {base : Nat} {pairs : List (Nat × Nat)} {K : State → Prop} {S : State} {acc : Feet} {dst : Option Nat} {op : LOp} {os : List LOper} {draw : Bool} {news : List HO}
theorem Z07 : RGk T false base pairs K [] S acc ↔ K S := Iff.rfl
theorem Z1b : RGk T true base pairs K [] S acc ↔ chk pairs acc.reverse = true ∧ K S := Iff.rfl
theorem Z32 : RGk T draw base pairs K (⟨dst, op, none⟩ :: os) S acc ↔ stepK (evT T draw base S.env S.heap op) (opK T draw base pairs K dst os S acc (evN T draw S.env S.heap op)) := Iff.rfl
theorem Z1a {g : Nat} {want : Bool} : RGk T draw base pairs K (⟨dst, op, some (g, want)⟩ :: os) S acc ↔ guardG (S.env.get g) g want T draw base pairs K dst op os S acc := Iff.rfl
theorem Z35 {δ : Delta} : opK T draw base pairs K dst os S acc news δ ↔ RGk T draw base pairs K os ((S.app dst δ).grow news) (feet draw δ.foot acc) := Iff.rfl
theorem Z1g {e : Env} {H : Heap} : State.grow ⟨e, H⟩ news = ⟨e, H ++ news⟩ := rfl
theorem Z2h {b : Bool} {g : Nat} : guardG (.d (.bool b)) g true T draw base pairs K dst op os S acc ↔
    boolK b (stepK (evT T draw base (S.know g true).env S.heap op) (opK T draw base pairs K dst os (S.know g true) acc (evN T draw (S.know g true).env S.heap op))) (RGk T draw base pairs K os ((S.know g false).app dst skipD) (feet draw ([], []) acc)) := Iff.rfl
theorem Z29 {b : Bool} {g : Nat} : guardG (.d (.bool b)) g false T draw base pairs K dst op os S acc ↔
    boolK b (RGk T draw base pairs K os ((S.know g true).app dst skipD) (feet draw ([], []) acc)) (stepK (evT T draw base (S.know g false).env S.heap op) (opK T draw base pairs K dst os (S.know g false) acc (evN T draw (S.know g false).env S.heap op))) := And.comm
theorem Z1h {g : Nat} {want : Bool} : guardG (.tup []) g want T draw base pairs K dst op os S acc ↔ RGk T draw base pairs K os (S.app dst skipD) (feet draw ([], []) acc) := Iff.rfl
theorem Z34 {f : List Nat × List Nat} : feet false f acc = [] := rfl
theorem Z41 {f : List Nat × List Nat} : feet true f acc = f :: acc := rfl
theorem Z1f {x : AV} {ups : List (Nat × HO)} {rd : List Nat} : Delta.foot ⟨x, ups, rd⟩ = (rd, ups.map (·.1)) := rfl
theorem Z02 {t : Nat} {x : AV} {e : Env} : Env.get ((t, x) :: e) t = x := if_pos rfl
theorem Z00 {t t' : Nat} {x : AV} {e : Env} (h : (t == t') = false) : Env.get ((t, x) :: e) t' = Env.get e t' := if_neg (by simpa using h)
theorem Z23 {t : Nat} : Env.get [] t = .undef := rfl
theorem Z33 {t : Nat} {e : Env} {H : Heap} {x : AV} {rd : List Nat} : State.app ⟨e, H⟩ (some t) ⟨x, [], rd⟩ = ⟨(t, x) :: e, H⟩ := rfl
theorem Z3z {e : Env} {H : Heap} {x : AV} {rd : List Nat} : State.app ⟨e, H⟩ none ⟨x, [], rd⟩ = ⟨e, H⟩ := rfl
theorem Z3q {e : Env} {H : Heap} {x : AV} {rd : List Nat} {i : Nat} {o : HO} {ups : List (Nat × HO)} : State.app ⟨e, H⟩ dst ⟨x, (i, o) :: ups, rd⟩ = State.app ⟨e, H.set i o⟩ dst ⟨x, ups, rd⟩ := rfl
theorem Z27 {t : Nat} {e : Env} {H : Heap} : State.app ⟨e, H⟩ (some t) skipD = ⟨(t, .tup []) :: e, H⟩ := rfl
theorem Z1n {e : Env} {H : Heap} : State.app ⟨e, H⟩ none skipD = ⟨e, H⟩ := rfl
theorem Z28 {e : Env} {H : Heap} {g : Nat} {b : Bool} : State.know ⟨e, H⟩ g b = ⟨(g, .d (.bool b)) :: e, H⟩ := rfl
theorem Z2b {g : Nat} {b : Bool} : knowO S (.tmp g) b = S.know g b := rfl
theorem Z3j {v : AV} {b : Bool} : knowO S (.cst v) b = S := rfl
end

end Go.Ago

/- Contracts as data, and tables of them. Conditions: none. -/
set_option linter.unusedSimpArgs false
set_option linter.unusedVariables false
namespace Go.Ago

/-- What is known of a function: for each 'x' its arguments and its answer. -/
structure Sp where
  A : Type
  enc : A → List AV
  out : A → SpecR

open Classical in
noncomputable def Sp.at (s : Sp) (args : List AV) : SpecR := if h : ∃ x, s.enc x = args then s.out h.choose else .none

theorem Sp.at_enc {s : Sp} (hi : ∀ x y, s.enc x = s.enc y → x = y) (x : s.A) : s.at (s.enc x) = s.out x := by
  have h : ∃ y, s.enc y = s.enc x := ⟨x, rfl⟩
  unfold Sp.at
  rw [dif_pos h, hi _ _ h.choose_spec]

def SpecR.met (P : Program) (g : FuncId) (args : List AV) : SpecR → Prop
  | .data ok val fresh => ok → Plain val ∧ ACalls P g args [] fun r H' => Frz H' r val ∧ (fresh = true → Fresh H' r)
  | .rows ok sz l => ok → (∀ r ∈ l, r.length = sz) ∧ ACalls P g args [] fun r H' => IsRows H' r sz l
  | .none => True

def Sp.Ok (P : Program) (g : FuncId) (s : Sp) : Prop := ∀ x, (s.out x).met P g (s.enc x)

noncomputable def Tab.add (T : Tab) (g : FuncId) (s : Sp) : Tab := ⟨fun g' => if g' = g then s.at else T.F g', T.G⟩
noncomputable def Tab.addG (T : Tab) (g : FuncId) (e : List AV → Heap → Option Eff) : Tab := ⟨T.F, fun g' => if g' = g then e else T.G g'⟩
def Tab.none : Tab := ⟨fun _ _ => .none, fun _ _ _ => .none⟩

theorem TabOK.none {P : Program} : TabOK P Tab.none where
  F := ⟨fun g args ok val fresh h => by simp [Tab.none] at h, fun g args ok sz rows h => by simp [Tab.none] at h⟩
  G := fun g args H e h => by simp [Tab.none] at h
  K := fun g args H e t h => by simp [Tab.none] at h

theorem TabOK.add {P : Program} {T : Tab} (hT : TabOK P T) {g : FuncId} {s : Sp} (hs : s.Ok P g) : TabOK P (T.add g s) where
  F := ⟨fun g' args ok val fresh h hok => by
      simp only [Tab.add] at h
      split at h
      · rename_i e; subst e
        unfold Sp.at at h
        split at h
        · rename_i hx
          have := hs hx.choose
          rw [h, hx.choose_spec] at this
          exact this hok
        · cases h
      · exact hT.F.data _ _ _ _ _ h hok,
    fun g' args ok sz rows h hok => by
      simp only [Tab.add] at h
      split at h
      · rename_i e; subst e
        unfold Sp.at at h
        split at h
        · rename_i hx
          have := hs hx.choose
          rw [h, hx.choose_spec] at this
          exact this hok
        · cases h
      · exact hT.F.rows _ _ _ _ _ h hok⟩
  G := hT.G
  K := hT.K

theorem TabOK.addG {P : Program} {T : Tab} (hT : TabOK P T) {g : FuncId} {E : List AV → Heap → Option Eff}
    (hs : ∀ args H e, E args H = some e → e.ok → ACalls P g args H fun r H' => r = e.val ∧ H' = applyUps H e.ups ++ e.news)
    (hk : ∀ args H e t, E args H = some e → e.take = some t → e.ok → t.Ok P g args H e.val) : TabOK P (T.addG g E) where
  F := hT.F
  G := fun g' args H e h hok => by
    simp only [Tab.addG] at h
    split at h
    · rename_i e; subst e; exact hs _ _ _ h hok
    · exact hT.G _ _ _ _ h hok
  K := fun g' args H e t h ht hok => by
    simp only [Tab.addG] at h
    split at h
    · rename_i e; subst e; exact hk _ _ _ _ h ht hok
    · exact hT.K _ _ _ _ _ h ht hok

/-- The table knows this contract at this number. -/
structure Knows (T : Tab) (g : FuncId) (s : Sp) : Prop where
  F : T.F g = s.at
  G : ∀ args H, T.G g args H = .none

structure KnowsG (T : Tab) (g : FuncId) (e : List AV → Heap → Option Eff) : Prop where
  G : T.G g = e

theorem Knows.hit {T : Tab} {g : FuncId} {s : Sp} (h : ∀ args H, T.G g args H = .none) : Knows (T.add g s) g s := ⟨by simp [Tab.add], h⟩
theorem Knows.next {T : Tab} {g g' : FuncId} {s s' : Sp} (hn : (g == g') = false) (h : Knows T g s) : Knows (T.add g' s') g s :=
  ⟨by have : ¬ g = g' := by simpa using hn
      simp [Tab.add, this, h.F], h.G⟩
/-! ### Results as data -/
/-- A list of which nothing is known behind its end. -/
def DV.less : DV → DV
  | .list rows _ => .list rows false
  | x => x

mutual
/-- A value as data, where it can be looked at. -/
def AV.frz (H : Heap) : AV → Option AV
  | .undef => some .undef
  | .d x => some (.d x.less)
  | .ref id sz row len _ =>
    match H.at id with
    | .dvec sz' rows => if sz' = sz ∧ row + len ≤ rows.length then some (.d (.list ((rows.drop row).take len) false)) else none
    | _ => none
  | .dptr cs j => some (.dptr cs j)
  | .ptr id sz row j => ((H.at id).drow sz row).map fun ds => .dptr ds j
  | .agg cs => (AV.frzL H cs).map .agg
  | .tup cs => (AV.frzL H cs).map .tup
  | _ => none
def AV.frzL (H : Heap) : List AV → Option (List AV)
  | [] => some []
  | x :: xs => match AV.frz H x, AV.frzL H xs with
    | some y, some ys => some (y :: ys)
    | _, _ => none
end

mutual
theorem AV.frz_spec {H : Heap} : ∀ (x y : AV), AV.frz H x = some y → Frz H x y ∧ Plain y
  | .undef, y, h => by simp [AV.frz] at h; subst h; exact ⟨.undef _, .undef⟩
  | .d x, y, h => by
    simp [AV.frz] at h; subst h
    cases x <;> first | exact ⟨.d _, .d _⟩ | exact ⟨.less _ _, .d _⟩
  | .ref id sz row len room, y, h => by
    simp only [AV.frz] at h
    split at h
    · rename_i sz' rows heq
      split at h
      · rename_i hc; obtain ⟨rfl, hc⟩ := hc
        simp at h; subst h
        exact ⟨.ref id sz' row len room rows heq hc, .d _⟩
      · cases h
    · cases h
  | .agg cs, y, h => by
    simp only [AV.frz, Option.map_eq_some_iff] at h
    obtain ⟨ys, h1, rfl⟩ := h
    obtain ⟨g1, g2, g3⟩ := AV.frzL_spec cs ys h1
    exact ⟨.agg _ _ g1 g2, .agg _ g3⟩
  | .tup cs, y, h => by
    simp only [AV.frz, Option.map_eq_some_iff] at h
    obtain ⟨ys, h1, rfl⟩ := h
    obtain ⟨g1, g2, g3⟩ := AV.frzL_spec cs ys h1
    exact ⟨.tup _ _ g1 g2, .tup _ g3⟩
  | .ptr id sz row j, y, h => by
    simp only [AV.frz, Option.map_eq_some_iff] at h
    obtain ⟨ds, h1, rfl⟩ := h
    exact ⟨.ptr id sz row j ds h1, .dptr _ _⟩
  | .dptr cs j, y, h => by simp [AV.frz] at h; subst h; exact ⟨.dptr _ _, .dptr _ _⟩
  | .clo .., y, h => by simp [AV.frz] at h
  | .rcap .., y, h => by simp [AV.frz] at h
theorem AV.frzL_spec {H : Heap} : ∀ (xs ys : List AV), AV.frzL H xs = some ys → ys.length = xs.length ∧ (∀ (i : Nat) (x x' : AV), xs[i]? = some x → ys[i]? = some x' → Frz H x x') ∧ ∀ y ∈ ys, Plain y
  | [], ys, h => by simp [AV.frzL] at h; subst h; exact ⟨rfl, fun i x x' h => by simp at h, fun y h => by simp at h⟩
  | x :: xs, ys, h => by
    simp only [AV.frzL] at h
    split at h
    · rename_i y ys' h1 h2
      simp at h; subst h
      obtain ⟨g1, g2, g3⟩ := AV.frzL_spec xs ys' h2
      obtain ⟨k1, k2⟩ := AV.frz_spec x y h1
      refine ⟨by simp [g1], fun i => ?_, fun z hz => ?_⟩
      · cases i with
        | zero => intro a b e1 e2; simp at e1 e2; subst e1; subst e2; exact k1
        | succ i => intro a b e1 e2; exact g2 i a b (by simpa using e1) (by simpa using e2)
      · rcases List.mem_cons.1 hz with rfl | hz
        · exact k2
        · exact g3 z hz
    · cases h
end

mutual
/-- A value without ids. -/
def AV.plainB : AV → Bool
  | .d _ => true
  | .dptr _ _ => true
  | .undef => true
  | .agg cs => AV.plainL cs
  | .tup cs => AV.plainL cs
  | _ => false
def AV.plainL : List AV → Bool
  | [] => true
  | x :: xs => AV.plainB x && AV.plainL xs
end

mutual
/-- A value without ids, and without lists that have something in them. -/
def AV.scalB : AV → Bool
  | .d x => x.scal
  | .undef => true
  | .agg cs => AV.scalL cs
  | .tup cs => AV.scalL cs
  | _ => false
def AV.scalL : List AV → Bool
  | [] => true
  | x :: xs => AV.scalB x && AV.scalL xs
end

mutual
theorem AV.plain_spec : ∀ (x : AV), AV.plainB x = true → Plain x
  | .d x, _ => .d x
  | .undef, _ => .undef
  | .agg cs, h => .agg cs (AV.plainL_spec cs (by simpa [AV.plainB] using h))
  | .tup cs, h => .tup cs (AV.plainL_spec cs (by simpa [AV.plainB] using h))
  | .ptr .., h => by simp [AV.plainB] at h
  | .dptr cs j, _ => .dptr cs j
  | .ref .., h => by simp [AV.plainB] at h
  | .clo .., h => by simp [AV.plainB] at h
  | .rcap .., h => by simp [AV.plainB] at h
theorem AV.plainL_spec : ∀ (xs : List AV), AV.plainL xs = true → ∀ x ∈ xs, Plain x
  | [], _, x, hx => by simp at hx
  | y :: ys, h, x, hx => by
    simp only [AV.plainL, Bool.and_eq_true] at h
    rcases List.mem_cons.1 hx with hx | hx
    · rw [hx]; exact AV.plain_spec y h.1
    · exact AV.plainL_spec ys h.2 x hx
end

mutual
theorem AV.scal_spec {H : Heap} : ∀ (x : AV), AV.scalB x = true → Fresh H x ∧ Frz H x x ∧ Plain x
  | .d x, h => ⟨.d x (by simpa [AV.scalB] using h), .d x, .d x⟩
  | .undef, _ => ⟨.undef, .undef _, .undef⟩
  | .agg cs, h => by
    have := AV.scalL_spec (H := H) cs (by simpa [AV.scalB] using h)
    exact ⟨.agg cs fun x hx => (this x hx).1, .agg cs cs rfl fun i x x' h1 h2 => by
      rw [h1] at h2; simp at h2; subst h2; exact (this x (List.mem_of_getElem? h1)).2.1, .agg cs fun x hx => (this x hx).2.2⟩
  | .tup cs, h => by
    have := AV.scalL_spec (H := H) cs (by simpa [AV.scalB] using h)
    exact ⟨.tup cs fun x hx => (this x hx).1, .tup cs cs rfl fun i x x' h1 h2 => by
      rw [h1] at h2; simp at h2; subst h2; exact (this x (List.mem_of_getElem? h1)).2.1, .tup cs fun x hx => (this x hx).2.2⟩
  | .ptr .., h => by simp [AV.scalB] at h
  | .dptr .., h => by simp [AV.scalB] at h
  | .ref .., h => by simp [AV.scalB] at h
  | .clo .., h => by simp [AV.scalB] at h
  | .rcap .., h => by simp [AV.scalB] at h
theorem AV.scalL_spec {H : Heap} : ∀ (xs : List AV), AV.scalL xs = true → ∀ x ∈ xs, Fresh H x ∧ Frz H x x ∧ Plain x
  | [], _, x, hx => by simp at hx
  | y :: ys, h, x, hx => by
    simp only [AV.scalL, Bool.and_eq_true] at h
    rcases List.mem_cons.1 hx with hx | hx
    · rw [hx]; exact AV.scal_spec y h.1
    · exact AV.scalL_spec ys h.2 x hx
end

mutual
/-- Lists in it are rows of the call's own, without lists in them. -/
def AV.freshP (H : Heap) : AV → Prop
  | .d x => x.scal = true
  | .undef => True
  | .ref id _ _ _ _ => (match H.at id with
    | .dvec _ rows => ∀ r ∈ rows, ∀ x ∈ r, DV.scal x = true
    | _ => False)
  | .agg cs => AV.freshL H cs
  | .tup cs => AV.freshL H cs
  | _ => False
def AV.freshL (H : Heap) : List AV → Prop
  | [] => True
  | x :: xs => AV.freshP H x ∧ AV.freshL H xs
end

mutual
theorem AV.fresh_spec {H : Heap} : ∀ (x y : AV), AV.freshP H x → AV.frz H x = some y → Fresh H x
  | .d x, _, h, _ => .d x (by simpa [AV.freshP] using h)
  | .undef, _, _, _ => .undef
  | .ref id sz row len room, _, h, hf => by
    simp only [AV.freshP] at h
    simp only [AV.frz] at hf
    split at h
    · rename_i sz' rows heq
      simp only [heq] at hf
      split at hf
      · rename_i hc
        obtain ⟨rfl, _⟩ := hc
        exact .ref id _ row len room rows heq h
      · cases hf
    · exact h.elim
  | .agg cs, y, h, hf => by
    simp only [AV.frz, Option.map_eq_some_iff] at hf
    obtain ⟨ys, h1, rfl⟩ := hf
    exact .agg cs (AV.freshL_spec cs ys (by simpa [AV.freshP] using h) h1)
  | .tup cs, y, h, hf => by
    simp only [AV.frz, Option.map_eq_some_iff] at hf
    obtain ⟨ys, h1, rfl⟩ := hf
    exact .tup cs (AV.freshL_spec cs ys (by simpa [AV.freshP] using h) h1)
  | .ptr .., _, h, _ => by simp [AV.freshP] at h
  | .dptr .., _, h, _ => by simp [AV.freshP] at h
  | .clo .., _, h, _ => by simp [AV.freshP] at h
  | .rcap .., _, h, _ => by simp [AV.freshP] at h
theorem AV.freshL_spec {H : Heap} : ∀ (xs ys : List AV), AV.freshL H xs → AV.frzL H xs = some ys → ∀ x ∈ xs, Fresh H x
  | [], _, _, _, x, hx => by simp at hx
  | y :: l, ys, h, hf, x, hx => by
    simp only [AV.freshL] at h
    simp only [AV.frzL] at hf
    split at hf
    · rename_i y' ys' h1 h2
      rcases List.mem_cons.1 hx with hx | hx
      · rw [hx]; exact AV.fresh_spec y y' h.1 h1
      · exact AV.freshL_spec l ys' h.2 h2 x hx
    · cases hf
end

/-- What a body answers, as data. -/
def RetD (v : AV) : AV → Heap → Prop := fun r H => AV.frz H r = some v
/-- What a body answers, as data without lists. -/
def RetS (v : AV) : AV → Heap → Prop := fun r H => r = v
def RetRows (sz : Nat) (rows : List (List DV)) : AV → Heap → Prop := fun r H => IsRows H r sz rows

theorem SpecR.met_of_scal {P : Program} {g : FuncId} {args : List AV} {ok : Prop} {v : AV} (hs : ok → AV.scalB v = true) (h : ok → ACalls P g args [] (RetS v)) : (SpecR.data ok v true).met P g args := fun hok =>
  ⟨(AV.scal_spec (H := []) v (hs hok)).2.2, (h hok).mono fun r H' e => by cases e; exact ⟨(AV.scal_spec v (hs hok)).2.1, fun _ => (AV.scal_spec v (hs hok)).1⟩⟩

theorem SpecR.met_of_data {P : Program} {g : FuncId} {args : List AV} {ok : Prop} {v : AV} (hp : ok → AV.plainB v = true) (h : ok → ACalls P g args [] (RetD v)) : (SpecR.data ok v false).met P g args := fun hok =>
  ⟨AV.plain_spec v (hp hok), (h hok).mono fun r H' e => ⟨(AV.frz_spec _ _ e).1, fun h => by cases h⟩⟩

theorem SpecR.met_of_rows {P : Program} {g : FuncId} {args : List AV} {ok : Prop} {sz : Nat} {rows : List (List DV)} (hr : ok → ∀ r ∈ rows, r.length = sz) (h : ok → ACalls P g args [] (RetRows sz rows)) : (SpecR.rows ok sz rows).met P g args := fun hok =>
  ⟨hr hok, h hok⟩

/-- What a body answers, as data whose lists are its own. -/
def RetF (v : AV) : AV → Heap → Prop := fun r H => AV.frz H r = some v ∧ AV.freshP H r

/-- What is asked of a body by one answer. -/
def SpecR.asks (f : (AV → Heap → Prop) → Prop) : SpecR → Prop
  | .data ok val true => ok → (AV.scalB val = true ∧ f (RetS val)) ∨ (AV.plainB val = true ∧ f (RetF val))
  | .data ok val false => ok → AV.plainB val = true ∧ f (RetD val)
  | .rows ok sz l => ok → (∀ r ∈ l, r.length = sz) ∧ f (RetRows sz l)
  | .none => True

/-- What is asked of a body by a contract. -/
def Sp.Body (s : Sp) (T : Tab) (live : List Nat) (lc : LCode) (rs : List LRes) : Prop :=
  ∀ x, (s.out x).asks fun Post => vck T 0 live lc ⟨Z1m 0 (s.enc x), []⟩ (retK rs Post)

theorem Sp.Body.ok {P : Program} {T : Tab} (hT : TabOK P T) {s : Sp} {f : FuncId} {fn : Func} {c : Code} {lc : LCode} {rs : List LRes} {live : List Nat} (h : s.Body T live lc rs) (hf : P.funcs[f]? = some fn)
    (hname : (fn.name == "runtime.NumGoroutine") = false) (hb : fn.body = some c) (hl : lowCode P fn.ntmps c = some lc) (hr : lowRess P fn.results.toList = some rs) (ha : ∀ x, (s.enc x).length ≤ fn.ntmps) : s.Ok P f := by
  intro x
  have hx := h x
  have go : ∀ {Post : AV → Heap → Prop}, vck T 0 live lc ⟨Z1m 0 (s.enc x), []⟩ (retK rs Post) → ACalls P f (s.enc x) [] Post := fun hv =>
    ACalls.of_vck hT live hf hname hb hl hr (ha x) hv
  revert hx
  cases s.out x with
  | data ok val fresh =>
    cases fresh with
    | true =>
      intro hx hok
      rcases hx hok with ⟨h1, h2⟩ | ⟨h1, h2⟩
      · exact SpecR.met_of_scal (ok := True) (fun _ => h1) (fun _ => go h2) trivial
      · exact ⟨AV.plain_spec val h1, (go h2).mono fun r H' e => ⟨(AV.frz_spec _ _ e.1).1, fun _ => AV.fresh_spec _ _ e.2 e.1⟩⟩
    | false => exact fun hx => SpecR.met_of_data (fun hok => (hx hok).1) fun hok => go (hx hok).2
  | rows ok sz l => exact fun hx => SpecR.met_of_rows (fun hok => (hx hok).1) fun hok => go (hx hok).2
  | none => exact fun _ => trivial

/-! ### Loops by families of states -/
/-- A state that, said with the slots of 'L' and some of its ids, is one of the family, closer to the end. -/
def Z36 {α : Type} (L : List Nat) (st : α → State) (Inv : α → Prop) (m : α → Nat) (k : Nat) (S : State) : Prop :=
  ∃ x, Says 0 S (st x) ∧ Inv x ∧ m x < k

theorem Z36.mk {α : Type} {L : List Nat} {st : α → State} {Inv : α → Prop} {m : α → Nat} {k : Nat} {S : State} (ρ : List Nat) (x : α) (h1 : ρ.Nodup) (h2 : ∀ i ∈ ρ, i < S.heap.length)
    (h3 : S.can ρ L = st x) (h4 : Inv x) (h5 : m x < k) : Z36 L st Inv m k S := ⟨x, h3 ▸ (can_weak h1 (fun i hi => by omega) h2).says, h4, h5⟩

theorem Z36.says {α : Type} {L : List Nat} {st : α → State} {Inv : α → Prop} {m : α → Nat} {k : Nat} {S S' : State} (h : Says 0 S S') (hf : Z36 L st Inv m k S') : Z36 L st Inv m k S :=
  let ⟨x, h1, h2, h3⟩ := hf; ⟨x, h.trans h1, h2, h3⟩

def famK {α : Type} (L : List Nat) (st : α → State) (Inv : α → Prop) (m : α → Nat) (k : Nat) (K : AExit → State → Prop) : AExit → State → Prop
  | .normal, S => Z36 L st Inv m k S
  | x, S => K x S

section
variable {α : Type} {L : List Nat} {st : α → State} {Inv : α → Prop} {m : α → Nat} {k : Nat} {K : AExit → State → Prop} {S : State}
theorem Z3y : famK L st Inv m k K .normal S ↔ Z36 L st Inv m k (nf S) := Iff.rfl
theorem Z3w {id : Nat} : famK L st Inv m k K (.exit id) S ↔ K (.exit id) S := Iff.rfl
theorem Z48 : famK L st Inv m k K .ret S ↔ K .ret S := Iff.rfl

theorem vck_mono {T : Tab} {n0 : Nat} {live : List Nat} : ∀ (lc : LCode) (S : State) (K K' : AExit → State → Prop), (∀ x S', K x S' → K' x S') → vck T n0 live lc S K → vck T n0 live lc S K' := by
  have wk : ∀ {X X' : State → Prop} {S : State}, (∀ S', X S' → X' S') → Wk n0 X S → Wk n0 X' S := fun h hw => by
    rcases hw with hw | ⟨S', h1, h2, h3⟩
    · exact .inl (h _ hw)
    · exact .inr ⟨S', h1, h2, h _ h3⟩
  have rg : ∀ {draw : Bool} {base : Nat} {pairs : List (Nat × Nat)} {X X' : State → Prop}, (∀ S', X S' → X' S') → ∀ (los : List LOper) (S : State) (acc : Feet), RGk T draw base pairs X los S acc → RGk T draw base pairs X' los S acc := by
    intro draw base pairs X X' h los
    induction los with
    | nil => intro S acc hr; cases draw <;> first | exact ⟨hr.1, h _ hr.2⟩ | exact h _ hr
    | cons o os ih =>
      intro S acc hr
      obtain ⟨dst, op, guard⟩ := o
      cases guard with
      | none => exact ⟨hr.1, ih _ _ hr.2⟩
      | some gw =>
        obtain ⟨g, want⟩ := gw
        simp only [RGk, guardS] at hr ⊢
        split at hr
        · exact ⟨fun e => ⟨(hr.1 e).1, ih _ _ (hr.1 e).2⟩, fun e => ih _ _ (hr.2 e)⟩
        · exact ih _ _ hr
        · exact hr
  intro lc
  induction lc with
  | skip => intro S K K' h hv; exact h _ _ hv
  | ret => intro S K K' h hv; exact h _ _ hv
  | exit id => intro S K K' h hv; exact h _ _ hv
  | region draw los pairs => intro S K K' h hv; exact rg (fun S' hS => h _ _ hS) _ _ _ hv
  | nilq los neg dst x =>
    intro S K K' h hv
    refine rg (fun S' hS => ?_) _ _ _ hv
    simp only [nilS] at hS ⊢
    split at hS
    · exact ⟨h _ _ hS.1, fun e => h _ _ (hS.2 e)⟩
    · exact ⟨h _ _ hS.1, fun e => h _ _ (hS.2 e)⟩
    · exact hS
  | seq a b iha ihb =>
    intro S K K' h hv
    refine iha _ _ _ (fun x S' hx => ?_) hv
    cases x with
    | normal => exact ihb _ _ _ h hx
    | exit id => exact h _ _ hx
    | ret => exact h _ _ hx
  | cond c a b iha ihb =>
    intro S K K' h hv
    simp only [vck, condS] at hv ⊢
    split at hv
    · exact ⟨fun e => iha _ _ _ h (hv.1 e), fun e => ihb _ _ _ h (hv.2 e)⟩
    · exact hv
  | block id b ih =>
    intro S K K' h hv
    refine ih _ _ _ (fun x S' hx => ?_) hv
    cases x with
    | normal => exact h _ _ hx
    | exit j =>
      simp only [blockK] at hx ⊢
      split
      · rename_i e; rw [if_pos e] at hx; exact h _ _ hx
      · rename_i e; rw [if_neg e] at hx; exact h _ _ hx
    | ret => exact h _ _ hx
  | loop b ih =>
    intro S K K' h ⟨I, k, h1, h2⟩
    refine ⟨I, k, h1, fun k S hI => ih _ _ _ (fun x S' hx => ?_) (h2 k S hI)⟩
    cases x with
    | normal => exact hx
    | exit j => exact wk (fun S' => h _ S') hx
    | ret => exact wk (fun S' => h _ S') hx

/-- A loop, by a family of states. -/
theorem Loop.fam {T : Tab} {live : List Nat} {b : LCode} (L : List Nat) (st : α → State) (Inv : α → Prop) (m : α → Nat) (x0 : α) (ρ : List Nat) (h1 : ρ.Nodup) (h2 : ∀ i ∈ ρ, i < S.heap.length)
    (h3 : S.can ρ L = st x0) (h4 : Inv x0) (h : ∀ x, Inv x → vck T 0 live b (st x) (famK L st Inv m (m x) K)) : Loop T 0 live b S K := by
  refine ⟨fun k S => ∃ x, S = st x ∧ Inv x ∧ m x = k, m x0, Wk.can ρ L h1 h2 ⟨x0, h3, h4, rfl⟩, ?_⟩
  rintro k S ⟨x, rfl, hI, rfl⟩
  refine vck_mono _ _ _ _ (fun e S' hK => ?_) (h x hI)
  cases e with
  | normal =>
    obtain ⟨x', g3, g4, g5⟩ := hK
    exact ⟨m x', g5, .inr ⟨_, g3, Nat.zero_le _, x', rfl, g4, rfl⟩⟩
  | exit id => exact .inl hK
  | ret => exact .inl hK

/-- As 'Loop.fam', from a state that says less. -/
theorem Loop.says {T : Tab} {n0 : Nat} {live : List Nat} {b : LCode} {S S' : State} {K : AExit → State → Prop} (h : Says n0 S S') (hl : n0 ≤ S'.heap.length) (hf : Loop T n0 live b S' K) : Loop T n0 live b S K := by
  obtain ⟨I, k, h1, h2⟩ := hf
  exact ⟨I, k, h1.says h hl, h2⟩

end

end Go.Ago

/- Small words for rows. Conditions: none. -/
set_option linter.unusedSimpArgs false
set_option linter.unusedVariables false
namespace Go.Ago

theorem trodAll_len {H : Type} {enc : TypeId × Value → H} {P : Program} {w : World} {base : Nat} {spare : Nat → Bool} {held : Bool} : ∀ {ts : List TypeId} {vs : List Value} {ds : List (DataW H)} {p : List MemPlace},
    DataW.TrodAll enc P w base spare held ts vs ds p → ds.length = ts.length := by
  intro ts
  induction ts with
  | nil => intro vs ds p h; cases vs <;> cases ds <;> first | rfl | exact h.elim
  | cons t ts ih =>
    intro vs ds p h
    cases vs with
    | nil => cases ds <;> exact h.elim
    | cons v vs =>
      cases ds with
      | nil => exact h.elim
      | cons d ds =>
        obtain ⟨p, q, _, h2, _⟩ := h
        simp [ih h2]

theorem HasAll.nil_inv {xs : List (List DV)} (h : HasAll [] xs) : xs = [] := by cases h; rfl
theorem HasAll.cons_inv {s : Sh} {ss : List Sh} {xs : List (List DV)} (h : HasAll (s :: ss) xs) : ∃ d ds, xs = d :: ds ∧ s.has d ∧ HasAll ss ds := by
  cases h with | cons h1 h2 => exact ⟨_, _, rfl, h1, h2⟩

theorem wf_i64 {n : Int} (h : (Lit.int .i64 n).wf = true) : -9223372036854775808 ≤ n ∧ n ≤ 9223372036854775807 := by
  simp [Lit.wf, IntKind.min, IntKind.max, IntKind.signed, IntKind.bits] at h; omega
theorem has_i64 {cs : List DV} (h : (Sh.int .i64).has cs) : ∃ n : Int, cs = [.int .i64 n] ∧ -9223372036854775808 ≤ n ∧ n ≤ 9223372036854775807 := by
  simp only [Sh.has] at h
  obtain ⟨n, rfl, hw⟩ := h
  exact ⟨n, rfl, wf_i64 hw⟩
theorem has_bool {cs : List DV} (h : Sh.bool.has cs) : ∃ b : Bool, cs = [.bool b] := by simpa only [Sh.has] using h
theorem hasL_cons {s : Sh} {l : List Sh} {cs : List DV} (h : Sh.hasL (s :: l) cs) : ∃ a b, cs = a ++ b ∧ s.has a ∧ Sh.hasL l b := by simpa only [Sh.hasL] using h
theorem hasL_nil {cs : List DV} (h : Sh.hasL [] cs) : cs = [] := by simpa only [Sh.hasL] using h
theorem has_st {l : List Sh} {cs : List DV} (h : (Sh.st l).has cs) : Sh.hasL l cs := by simpa only [Sh.has] using h
theorem has_sl {s : Sh} {cs : List DV} (h : (Sh.sl s).has cs) : ∃ rows full, cs = [.list rows full] ∧ rows.length ≤ maxLen ∧ ∀ r ∈ rows, s.has r := by simpa only [Sh.has] using h

end Go.Ago

/- The program's plain data as lists of cells. Conditions: none. -/
set_option linter.unusedSimpArgs false
set_option linter.unusedVariables false
namespace Go.Ago

def rowI (n : Int) : List DV := [.int .i64 n]
def rowU (n : Int) : List DV := [.int .u64 n]
structure RatG where
  num : Int
  den : Int
  deriving DecidableEq, Inhabited
def RatG.row (x : RatG) : List DV := [.int .i64 x.num, .int .i64 x.den]
structure LocG where
  atom : Bool
  init : Int
  deriving DecidableEq, Inhabited
def LocG.row (x : LocG) : List DV := [.bool x.atom, .int .i64 x.init]
structure ActG where
  kind : Int
  loc : Int
  old : Int
  new : Int
  deriving DecidableEq, Inhabited
def ActG.row (a : ActG) : List DV := [.int .i64 a.kind, .int .i64 a.loc, .int .i64 a.old, .int .i64 a.new]
def ActG.av (a : ActG) : AV := .agg [.d (.int .i64 a.kind), .d (.int .i64 a.loc), .d (.int .i64 a.old), .d (.int .i64 a.new)]
structure StepG where
  thread : Int
  act : ActG
  when : RatG
  deriving DecidableEq, Inhabited
def StepG.row (s : StepG) : List DV := [.int .i64 s.thread, .int .i64 s.act.kind, .int .i64 s.act.loc, .int .i64 s.act.old, .int .i64 s.act.new, .int .i64 s.when.num, .int .i64 s.when.den]
structure StampG where
  when : RatG
  val : Int
  deriving DecidableEq, Inhabited
def StampG.row (s : StampG) : List DV := [.int .i64 s.when.num, .int .i64 s.when.den, .int .i64 s.val]

theorem getD_lt {α : Type} {l : List α} {i : Nat} {d : α} (h : i < l.length) : l.getD i d = l[i] := by
  rw [List.getD_eq_getElem?_getD, List.getElem?_eq_getElem h]; rfl

theorem map_getD {α : Type} {f : α → List DV} {l : List α} {k : Nat} {d : α} (h : k < l.length) : (l.map f).getD k [] = f (l.getD k d) := by
  rw [List.getD_eq_getElem?_getD, List.getD_eq_getElem?_getD, List.getElem?_map, List.getElem?_eq_getElem h]; rfl

theorem rows_len {α : Type} {f : α → List DV} {sz : Nat} (h : ∀ x, (f x).length = sz) (l : List α) : ∀ r ∈ l.map f, r.length = sz := fun r hr => by
  obtain ⟨x, _, rfl⟩ := List.mem_map.1 hr; exact h x

theorem Z3t {α : Type} {f : α → List DV} (h : ∀ x y, f x = f y → x = y) {l l' : List α} (e : l.map f = l'.map f) : l = l' :=
  (List.map_inj_right (fun x y => h x y)).1 e

theorem rowI_inj (x y : Int) (h : rowI x = rowI y) : x = y := by simpa [rowI] using h
theorem RatG.row_inj (x y : RatG) (h : x.row = y.row) : x = y := by
  obtain ⟨a, b⟩ := x; obtain ⟨c, d⟩ := y; simpa [RatG.row] using h
theorem LocG.row_inj (x y : LocG) (h : x.row = y.row) : x = y := by
  obtain ⟨a, b⟩ := x; obtain ⟨c, d⟩ := y; simpa [LocG.row] using h
theorem ActG.row_inj (x y : ActG) (h : x.row = y.row) : x = y := by
  obtain ⟨a, b, c, d⟩ := x; obtain ⟨a', b', c', d'⟩ := y; simpa [ActG.row] using h
theorem ActG.av_inj (x y : ActG) (h : x.av = y.av) : x = y := by
  obtain ⟨a, b, c, d⟩ := x; obtain ⟨a', b', c', d'⟩ := y; simpa [ActG.av] using h
theorem StampG.row_inj (x y : StampG) (h : x.row = y.row) : x = y := by
  obtain ⟨⟨a, b⟩, c⟩ := x; obtain ⟨⟨a', b'⟩, c'⟩ := y
  simp [StampG.row] at h; simp [h]
theorem StepG.row_inj (x y : StepG) (h : x.row = y.row) : x = y := by
  obtain ⟨t, ⟨a, b, c, d⟩, ⟨e, f⟩⟩ := x; obtain ⟨t', ⟨a', b', c', d'⟩, ⟨e', f'⟩⟩ := y
  simp [StepG.row] at h; simp [h]

/-- A list that reads as rows of a kind. -/
theorem has_list {α : Type} {s : Sh} {f : α → List DV} {ok : α → Prop} (h : ∀ r, s.has r → ∃ x, r = f x ∧ ok x) {cs : List DV} (hc : (Sh.sl s).has cs) :
    ∃ (l : List α) (full : Bool), cs = [.list (l.map f) full] ∧ (∀ x ∈ l, ok x) ∧ l.length ≤ maxLen := by
  obtain ⟨rows, full, rfl, hl, hr⟩ := has_sl hc
  have : ∃ l : List α, rows = l.map f ∧ ∀ x ∈ l, ok x := by
    clear hl hc
    induction rows with
    | nil => exact ⟨[], rfl, fun x h => by simp at h⟩
    | cons r rs ih =>
      obtain ⟨l, h1, h2⟩ := ih (fun r' hr' => hr r' (by simp [hr']))
      obtain ⟨x, h3, h4⟩ := h r (hr r (by simp))
      exact ⟨x :: l, by simp [h1, h3], fun y hy => by
        rcases List.mem_cons.1 hy with rfl | hy
        · exact h4
        · exact h2 y hy⟩
  obtain ⟨l, rfl, h2⟩ := this
  exact ⟨l, full, rfl, h2, by simpa using hl⟩

def inI (n : Int) : Prop := -9223372036854775808 ≤ n ∧ n ≤ 9223372036854775807
abbrev shLoc : Sh := .st [.bool, .int .i64]
abbrev shAct : Sh := .st [.int .i64, .int .i64, .int .i64, .int .i64]
def RatG.inn (x : RatG) : Prop := inI x.num ∧ inI x.den
def LocG.inn (x : LocG) : Prop := inI x.init
def ActG.inn (x : ActG) : Prop := inI x.kind ∧ inI x.loc ∧ inI x.old ∧ inI x.new
def StepG.inn (x : StepG) : Prop := inI x.thread ∧ x.act.inn ∧ x.when.inn

theorem has_loc {r : List DV} (h : shLoc.has r) : ∃ x : LocG, r = x.row ∧ x.inn := by
  obtain ⟨x, y, rfl, h1, h2⟩ := hasL_cons (has_st h)
  obtain ⟨z, u, rfl, h3, h4⟩ := hasL_cons h2
  obtain rfl := hasL_nil h4
  obtain ⟨a, rfl⟩ := has_bool h1
  obtain ⟨b, rfl, hb⟩ := has_i64 h3
  exact ⟨⟨a, b⟩, rfl, hb⟩
theorem has_act {r : List DV} (h : shAct.has r) : ∃ x : ActG, r = x.row ∧ x.inn := by
  obtain ⟨x1, y1, rfl, h1, g1⟩ := hasL_cons (has_st h)
  obtain ⟨x2, y2, rfl, h2, g2⟩ := hasL_cons g1
  obtain ⟨x3, y3, rfl, h3, g3⟩ := hasL_cons g2
  obtain ⟨x4, y4, rfl, h4, g4⟩ := hasL_cons g3
  obtain rfl := hasL_nil g4
  obtain ⟨a, rfl, ha⟩ := has_i64 h1
  obtain ⟨b, rfl, hb⟩ := has_i64 h2
  obtain ⟨c, rfl, hc⟩ := has_i64 h3
  obtain ⟨d, rfl, hd⟩ := has_i64 h4
  exact ⟨⟨a, b, c, d⟩, rfl, ha, hb, hc, hd⟩
/-! ### slices.Clone, at any type -/
def cloneS (sz bytes : Nat) : Sp := ⟨List (List DV) × Bool, fun x => [.d (.list x.1 x.2)], fun x => .rows ((∀ r ∈ x.1, r.length = sz) ∧ roomy x.1.length bytes) sz x.1⟩
theorem at_clone (sz bytes : Nat) (l : List (List DV)) (full : Bool) : (cloneS sz bytes).at [.d (.list l full)] = .rows ((∀ r ∈ l, r.length = sz) ∧ roomy l.length bytes) sz l :=
  Sp.at_enc (s := cloneS sz bytes) (fun x y h => by obtain ⟨a, b⟩ := x; obtain ⟨c, d⟩ := y; simpa [cloneS] using h) (l, full)


/-! ### Laws -/
def sp_true : Sp := ⟨Unit, fun _ => [], fun _ => .data True (.d (.bool true)) true⟩
theorem at_true : sp_true.at [] = .data True (.d (.bool true)) true := Sp.at_enc (s := sp_true) (fun x y h => rfl) ()
abbrev Holds (T : Tab) (V : List Nat) (lc : LCode) (R : List LRes) (args : List AV) : Prop := vck T 0 V lc ⟨Z1m 0 args, []⟩ (retK R (RetS (.d (.bool true))))

end Go.Ago

/- Lists under a row's function, reckoned with as wholes. Conditions: none. -/
set_option linter.unusedSimpArgs false
set_option linter.unusedVariables false
namespace Go.Ago

section
variable {α : Type} [Inhabited α] {f : α → List DV} {l : List α} {k : Delta → Prop}

theorem stepK_idx_map {sz : Nat} {full : Bool} {kd : IntKind} {n : Int} (hf : ∀ x, (f x).length = sz) :
    stepK (evIdxAddr sz (.d (.list (l.map f) full)) (.d (.int kd n))) k ↔ (0 ≤ n ∧ n < l.length) ∧ k ⟨.dptr (f (l.getD n.toNat default)) 0, [], []⟩ := by
  simp only [evIdxAddr, Z1e, List.length_map]
  constructor
  · rintro ⟨⟨h1, h2, h3⟩, h4⟩
    rw [map_getD (d := default) (by omega)] at h4
    exact ⟨⟨h1, h2⟩, h4⟩
  · rintro ⟨⟨h1, h2⟩, h4⟩
    rw [map_getD (d := default) (by omega)]
    exact ⟨⟨h1, h2, hf _⟩, h4⟩

theorem Z04 {sz sz0 id row len : Nat} {room : Bool} {kd : IntKind} {n : Int} :
    stepK (evIdxAddr sz (.ref id sz0 row len room) (.d (.int kd n))) k ↔ (sz0 = sz ∧ 0 ≤ n ∧ n < len) ∧ k ⟨.ptr id sz0 (row + n.toNat) 0, [], []⟩ := Iff.rfl

/-- A load out of an object. -/
def evLoadO (o : HO) (id : Nat) (agg : Bool) (sz sz0 row j : Nat) : Out :=
  match o with
  | .vec sz' rows => ⟨sz' = sz0 ∧ row < rows.length ∧ Z4m agg sz j (rows.getD row []).length, ⟨Z4v agg sz j (rows.getD row []), [], [id]⟩⟩
  | .dvec sz' rows => ⟨sz' = sz0 ∧ row < rows.length ∧ Z4m agg sz j (rows.getD row []).length, ⟨loadDT agg sz j (rows.getD row []), [], [id]⟩⟩
  | .dead => .no
theorem Z0j {H : Heap} {agg : Bool} {sz id sz0 row j : Nat} : evLoad H agg sz (.ptr id sz0 row j) = evLoadO (H.at id) id agg sz sz0 row j := rfl
theorem Z0a {H : Heap} {agg : Bool} {sz j : Nat} {cs : List DV} : evLoad H agg sz (.dptr cs j) = .v (Z4m agg sz j cs.length) (loadDT agg sz j cs) := rfl

theorem Z1i {id : Nat} {agg : Bool} {sz sz0 row j sz' : Nat} {rows : List (List AV)} : evLoadO (.vec sz' rows) id agg sz sz0 row j = ⟨sz' = sz0 ∧ row < rows.length ∧ Z4m agg sz j (rows.getD row []).length, ⟨Z4v agg sz j (rows.getD row []), [], [id]⟩⟩ := rfl
theorem Z0e {id : Nat} {agg : Bool} {sz sz0 row j sz' : Nat} {r : List DV} : evLoadO (.dvec sz' [r]) id agg sz sz0 row j = ⟨sz' = sz0 ∧ row < 1 ∧ Z4m agg sz j ([r].getD row []).length, ⟨loadDT agg sz j ([r].getD row []), [], [id]⟩⟩ := rfl

theorem Z03 {id : Nat} {agg : Bool} {sz sz0 row j sz' : Nat} :
    stepK (evLoadO (.dvec sz' (l.map f)) id agg sz sz0 row j) k ↔ (sz' = sz0 ∧ row < l.length ∧ Z4m agg sz j (f (l.getD row default)).length) ∧ k ⟨loadDT agg sz j (f (l.getD row default)), [], [id]⟩ := by
  simp only [evLoadO, Z15, List.length_map]
  constructor
  · rintro ⟨⟨h1, h2, h3⟩, h4⟩
    rw [map_getD (d := default) h2] at h3 h4
    exact ⟨⟨h1, h2, h3⟩, h4⟩
  · rintro ⟨⟨h1, h2, h3⟩, h4⟩
    rw [map_getD (d := default) h2]
    exact ⟨⟨h1, h2, h3⟩, h4⟩

/-- A store into an object. -/
def evStoreO (o : HO) (id sz sz0 row j : Nat) (x : AV) : Out :=
  match o with
  | .vec sz' rows => ⟨sz' = sz0 ∧ row < rows.length ∧ Z3u x ∧ (Z37 x).length = sz ∧ j + (Z37 x).length ≤ sz', ⟨.tup [], [(id, .vec sz' (rows.set row (putRow j (Z37 x) (rows.getD row []))))], []⟩⟩
  | .dvec sz' rows =>
    match Z3r (Z37 x) with
    | some ds => ⟨sz' = sz0 ∧ row < rows.length ∧ Z3u x ∧ (Z37 x).length = sz ∧ j + (Z37 x).length ≤ sz', ⟨.tup [], [(id, .dvec sz' (rows.set row (putRow j ds (rows.getD row []))))], []⟩⟩
    | none => .no
  | .dead => .no
theorem Z0b {H : Heap} {sz id sz0 row j : Nat} {x : AV} : evStore H sz (.ptr id sz0 row j) x = evStoreO (H.at id) id sz sz0 row j x := rfl
theorem Z0n {id sz sz0 row j sz' : Nat} {rows : List (List AV)} {x : AV} : evStoreO (.vec sz' rows) id sz sz0 row j x = ⟨sz' = sz0 ∧ row < rows.length ∧ Z3u x ∧ (Z37 x).length = sz ∧ j + (Z37 x).length ≤ sz', ⟨.tup [], [(id, .vec sz' (rows.set row (putRow j (Z37 x) (rows.getD row []))))], []⟩⟩ := rfl

/-- One cell of a row anew. -/
theorem Z01 {id sz sz0 row j sz' : Nat} {x : DV} :
    stepK (evStoreO (.dvec sz' (l.map f)) id sz sz0 row j (.d x)) k ↔ (sz' = sz0 ∧ row < l.length ∧ 1 = sz ∧ j + 1 ≤ sz') ∧ k ⟨.tup [], [(id, .dvec sz' ((l.map f).set row (putRow j [x] (f (l.getD row default)))))], []⟩ := by
  simp only [evStoreO, Z15, List.length_map, Z37, Z3r, Option.map_some, Z3u, List.length_cons, List.length_nil, Nat.zero_add, true_and]
  constructor
  · rintro ⟨⟨h1, h2, h3⟩, h4⟩
    rw [map_getD (d := default) h2] at h4
    exact ⟨⟨h1, h2, h3⟩, h4⟩
  · rintro ⟨⟨h1, h2, h3⟩, h4⟩
    rw [map_getD (d := default) h2]
    exact ⟨⟨h1, h2, h3⟩, h4⟩

end

theorem idx_I {l : List Int} {full : Bool} {kd : IntKind} {n : Int} {k : Delta → Prop} : stepK (evIdxAddr 1 (.d (.list (l.map rowI) full)) (.d (.int kd n))) k ↔ (0 ≤ n ∧ n < l.length) ∧ k ⟨.dptr (rowI (l.getD n.toNat default)) 0, [], []⟩ := stepK_idx_map (fun _ => rfl)
theorem idx_U {l : List Int} {full : Bool} {kd : IntKind} {n : Int} {k : Delta → Prop} : stepK (evIdxAddr 1 (.d (.list (l.map rowU) full)) (.d (.int kd n))) k ↔ (0 ≤ n ∧ n < l.length) ∧ k ⟨.dptr (rowU (l.getD n.toNat default)) 0, [], []⟩ := stepK_idx_map (fun _ => rfl)
theorem Z3f {l : List RatG} {full : Bool} {kd : IntKind} {n : Int} {k : Delta → Prop} : stepK (evIdxAddr 2 (.d (.list (l.map RatG.row) full)) (.d (.int kd n))) k ↔ (0 ≤ n ∧ n < l.length) ∧ k ⟨.dptr (RatG.row (l.getD n.toNat default)) 0, [], []⟩ := stepK_idx_map (fun _ => rfl)
theorem Z3e {l : List LocG} {full : Bool} {kd : IntKind} {n : Int} {k : Delta → Prop} : stepK (evIdxAddr 2 (.d (.list (l.map LocG.row) full)) (.d (.int kd n))) k ↔ (0 ≤ n ∧ n < l.length) ∧ k ⟨.dptr (LocG.row (l.getD n.toNat default)) 0, [], []⟩ := stepK_idx_map (fun _ => rfl)
theorem Z3i {l : List ActG} {full : Bool} {kd : IntKind} {n : Int} {k : Delta → Prop} : stepK (evIdxAddr 4 (.d (.list (l.map ActG.row) full)) (.d (.int kd n))) k ↔ (0 ≤ n ∧ n < l.length) ∧ k ⟨.dptr (ActG.row (l.getD n.toNat default)) 0, [], []⟩ := stepK_idx_map (fun _ => rfl)
theorem Z2p {l : List StepG} {full : Bool} {kd : IntKind} {n : Int} {k : Delta → Prop} : stepK (evIdxAddr 7 (.d (.list (l.map StepG.row) full)) (.d (.int kd n))) k ↔ (0 ≤ n ∧ n < l.length) ∧ k ⟨.dptr (StepG.row (l.getD n.toNat default)) 0, [], []⟩ := stepK_idx_map (fun _ => rfl)
theorem Z1p {l : List StampG} {full : Bool} {kd : IntKind} {n : Int} {k : Delta → Prop} : stepK (evIdxAddr 3 (.d (.list (l.map StampG.row) full)) (.d (.int kd n))) k ↔ (0 ≤ n ∧ n < l.length) ∧ k ⟨.dptr (StampG.row (l.getD n.toNat default)) 0, [], []⟩ := stepK_idx_map (fun _ => rfl)

theorem Z1y {sz j : Nat} {r : List DV} : loadDT false sz j r = .d (r.getD j .nilp) := rfl
theorem Z2k {sz j : Nat} {r : List DV} : loadDT true sz j r = .agg (((r.drop j).take sz).map .d) := rfl

theorem take_map_len {α : Type} {f : α → List DV} {l : List α} : (l.map f).take l.length = l.map f := List.take_of_length_le (by simp)

theorem Z0m {n : Nat} {a : DV} : drows (List.replicate n [.d a]) = some (List.replicate n [a]) := by
  induction n with
  | zero => rfl
  | succ n ih => simp [List.replicate_succ, drows, Z3r, ih]
theorem Z0r {n : Nat} {a b : DV} : drows (List.replicate n [.d a, .d b]) = some (List.replicate n [a, b]) := by
  induction n with
  | zero => rfl
  | succ n ih => simp [List.replicate_succ, drows, Z3r, ih]
theorem Z0s {n : Nat} {a b c : DV} : drows (List.replicate n [.d a, .d b, .d c]) = some (List.replicate n [a, b, c]) := by
  induction n with
  | zero => rfl
  | succ n ih => simp [List.replicate_succ, drows, Z3r, ih]
theorem Z0t {n : Nat} {a b c d : DV} : drows (List.replicate n [.d a, .d b, .d c, .d d]) = some (List.replicate n [a, b, c, d]) := by
  induction n with
  | zero => rfl
  | succ n ih => simp [List.replicate_succ, drows, Z3r, ih]
theorem Z0u {n : Nat} {a b c d e : DV} : drows (List.replicate n [.d a, .d b, .d c, .d d, .d e]) = some (List.replicate n [a, b, c, d, e]) := by
  induction n with
  | zero => rfl
  | succ n ih => simp [List.replicate_succ, drows, Z3r, ih]
theorem Z0v {n : Nat} {a b c d e f : DV} : drows (List.replicate n [.d a, .d b, .d c, .d d, .d e, .d f]) = some (List.replicate n [a, b, c, d, e, f]) := by
  induction n with
  | zero => rfl
  | succ n ih => simp [List.replicate_succ, drows, Z3r, ih]
theorem Z0w {n : Nat} {a b c d e f g : DV} : drows (List.replicate n [.d a, .d b, .d c, .d d, .d e, .d f, .d g]) = some (List.replicate n [a, b, c, d, e, f, g]) := by
  induction n with
  | zero => rfl
  | succ n ih => simp [List.replicate_succ, drows, Z3r, ih]
theorem Z0x {n : Nat} {a b c d e f g h : DV} : drows (List.replicate n [.d a, .d b, .d c, .d d, .d e, .d f, .d g, .d h]) = some (List.replicate n [a, b, c, d, e, f, g, h]) := by
  induction n with
  | zero => rfl
  | succ n ih => simp [List.replicate_succ, drows, Z3r, ih]

theorem roomy_of {n b : Nat} (h1 : n ≤ 1048576) (h2 : b ≤ 1048576) : roomy n b := by
  refine ⟨by omega, ?_⟩
  have := Nat.mul_le_mul h1 h2
  omega

/-! Rows put together again. -/
theorem Z2u {l : List Int} {i : Nat} {x : Int} : (l.map rowI).set i [.int .i64 x] = (l.set i x).map rowI := by rw [List.map_set]; rfl
theorem set_rowU {l : List Int} {i : Nat} {x : Int} : (l.map rowU).set i [.int .u64 x] = (l.set i x).map rowU := by rw [List.map_set]; rfl
theorem Z2n {l : List Int} {x : Int} : l.map rowI ++ [[.int .i64 x]] = (l ++ [x]).map rowI := by simp [rowI]
theorem app_rowU {l : List Int} {x : Int} : l.map rowU ++ [[.int .u64 x]] = (l ++ [x]).map rowU := by simp [rowU]
theorem Z2t {n : Nat} {x : Int} : List.replicate n [DV.int .i64 x] = (List.replicate n x).map rowI := by simp [rowI]
theorem rep_rowU {n : Nat} {x : Int} : List.replicate n [DV.int .u64 x] = (List.replicate n x).map rowU := by simp [rowU]
theorem Z12 {l : List RatG} {i : Nat} {a b : Int} : (l.map RatG.row).set i [.int .i64 a, .int .i64 b] = (l.set i ⟨a, b⟩).map RatG.row := by rw [List.map_set]; rfl
theorem Z0q {l : List RatG} {a b : Int} : l.map RatG.row ++ [[.int .i64 a, .int .i64 b]] = (l ++ [(⟨a, b⟩ : RatG)]).map RatG.row := by simp [RatG.row]
theorem Z10 {n : Nat} {a b : Int} : List.replicate n [DV.int .i64 a, .int .i64 b] = (List.replicate n (⟨a, b⟩ : RatG)).map RatG.row := by simp [RatG.row]
theorem Z11 {l : List LocG} {i : Nat} {a : Bool} {b : Int} : (l.map LocG.row).set i [.bool a, .int .i64 b] = (l.set i ⟨a, b⟩).map LocG.row := by rw [List.map_set]; rfl
theorem Z0p {l : List LocG} {a : Bool} {b : Int} : l.map LocG.row ++ [[.bool a, .int .i64 b]] = (l ++ [(⟨a, b⟩ : LocG)]).map LocG.row := by simp [LocG.row]
theorem Z0o {l : List ActG} {a b c d : Int} : l.map ActG.row ++ [[.int .i64 a, .int .i64 b, .int .i64 c, .int .i64 d]] = (l ++ [(⟨a, b, c, d⟩ : ActG)]).map ActG.row := by simp [ActG.row]
theorem Z0c {l : List StepG} {t a b c d e f : Int} : l.map StepG.row ++ [[.int .i64 t, .int .i64 a, .int .i64 b, .int .i64 c, .int .i64 d, .int .i64 e, .int .i64 f]] = (l ++ [(⟨t, ⟨a, b, c, d⟩, ⟨e, f⟩⟩ : StepG)]).map StepG.row := by simp [StepG.row]
theorem Z1v {l : List Int} : (∀ r ∈ l.map rowI, ∀ x ∈ r, DV.scal x = true) ↔ True := ⟨fun _ => trivial, fun _ r hr x hx => by
  obtain ⟨n, _, rfl⟩ := List.mem_map.1 hr; simp [rowI] at hx; subst hx; rfl⟩
theorem scal_rowU {l : List Int} : (∀ r ∈ l.map rowU, ∀ x ∈ r, DV.scal x = true) ↔ True := ⟨fun _ => trivial, fun _ r hr x hx => by
  obtain ⟨n, _, rfl⟩ := List.mem_map.1 hr; simp [rowU] at hx; subst hx; rfl⟩
theorem Z0f {l : List RatG} : (∀ r ∈ l.map RatG.row, ∀ x ∈ r, DV.scal x = true) ↔ True := ⟨fun _ => trivial, fun _ r hr x hx => by
  obtain ⟨n, _, rfl⟩ := List.mem_map.1 hr; simp [RatG.row] at hx; rcases hx with rfl | rfl <;> rfl⟩
theorem Z08 {l : List StepG} : (∀ r ∈ l.map StepG.row, ∀ x ∈ r, DV.scal x = true) ↔ True := ⟨fun _ => trivial, fun _ r hr x hx => by
  obtain ⟨n, _, rfl⟩ := List.mem_map.1 hr; simp [StepG.row] at hx; rcases hx with rfl | rfl | rfl | rfl | rfl | rfl | rfl <;> rfl⟩

theorem Z2i {k : IntKind} {n : Int} : DV.scal (.int k n) = true := rfl
theorem Z1u {b : Bool} : DV.scal (.bool b) = true := rfl
theorem Z2j {full : Bool} : DV.scal (.list [] full) = true := rfl
theorem take_map_ge {α : Type} {f : α → List DV} {l : List α} {n : Nat} (h : l.length ≤ n) : (l.map f).take n = l.map f := List.take_of_length_le (by simpa using h)

theorem Z4f {l : List Int} : (∀ r ∈ l.map rowI, r.length = 1) ↔ True := ⟨fun _ => trivial, fun _ => rows_len (f := rowI) (fun _ => rfl) l⟩
theorem Z3k {l : List Int} : (∀ r ∈ List.map (fun x => List.map AV.d x) (l.map rowI), r.length = 1) ↔ True := ⟨fun _ => trivial, fun _ r hr => by
  obtain ⟨x, hx, rfl⟩ := List.mem_map.1 hr
  simpa using rows_len (f := rowI) (sz := 1) (fun _ => rfl) l x hx⟩
theorem lens_U {l : List Int} : (∀ r ∈ l.map rowU, r.length = 1) ↔ True := ⟨fun _ => trivial, fun _ => rows_len (f := rowU) (fun _ => rfl) l⟩
theorem lensA_U {l : List Int} : (∀ r ∈ List.map (fun x => List.map AV.d x) (l.map rowU), r.length = 1) ↔ True := ⟨fun _ => trivial, fun _ r hr => by
  obtain ⟨x, hx, rfl⟩ := List.mem_map.1 hr
  simpa using rows_len (f := rowU) (sz := 1) (fun _ => rfl) l x hx⟩
theorem Z2s {l : List RatG} : (∀ r ∈ l.map RatG.row, r.length = 2) ↔ True := ⟨fun _ => trivial, fun _ => rows_len (f := RatG.row) (fun _ => rfl) l⟩
theorem Z1s {l : List RatG} : (∀ r ∈ List.map (fun x => List.map AV.d x) (l.map RatG.row), r.length = 2) ↔ True := ⟨fun _ => trivial, fun _ r hr => by
  obtain ⟨x, hx, rfl⟩ := List.mem_map.1 hr
  simpa using rows_len (f := RatG.row) (sz := 2) (fun _ => rfl) l x hx⟩
theorem Z2r {l : List LocG} : (∀ r ∈ l.map LocG.row, r.length = 2) ↔ True := ⟨fun _ => trivial, fun _ => rows_len (f := LocG.row) (fun _ => rfl) l⟩
theorem Z1r {l : List LocG} : (∀ r ∈ List.map (fun x => List.map AV.d x) (l.map LocG.row), r.length = 2) ↔ True := ⟨fun _ => trivial, fun _ r hr => by
  obtain ⟨x, hx, rfl⟩ := List.mem_map.1 hr
  simpa using rows_len (f := LocG.row) (sz := 2) (fun _ => rfl) l x hx⟩
theorem Z2q {l : List ActG} : (∀ r ∈ l.map ActG.row, r.length = 4) ↔ True := ⟨fun _ => trivial, fun _ => rows_len (f := ActG.row) (fun _ => rfl) l⟩
theorem Z1q {l : List ActG} : (∀ r ∈ List.map (fun x => List.map AV.d x) (l.map ActG.row), r.length = 4) ↔ True := ⟨fun _ => trivial, fun _ r hr => by
  obtain ⟨x, hx, rfl⟩ := List.mem_map.1 hr
  simpa using rows_len (f := ActG.row) (sz := 4) (fun _ => rfl) l x hx⟩
theorem Z1t {l : List StepG} : (∀ r ∈ l.map StepG.row, r.length = 7) ↔ True := ⟨fun _ => trivial, fun _ => rows_len (f := StepG.row) (fun _ => rfl) l⟩
theorem Z0y {l : List StepG} : (∀ r ∈ List.map (fun x => List.map AV.d x) (l.map StepG.row), r.length = 7) ↔ True := ⟨fun _ => trivial, fun _ r hr => by
  obtain ⟨x, hx, rfl⟩ := List.mem_map.1 hr
  simpa using rows_len (f := StepG.row) (sz := 7) (fun _ => rfl) l x hx⟩
theorem Z0z {l : List StampG} : (∀ r ∈ l.map StampG.row, r.length = 3) ↔ True := ⟨fun _ => trivial, fun _ => rows_len (f := StampG.row) (fun _ => rfl) l⟩
theorem Z0d {l : List StampG} : (∀ r ∈ List.map (fun x => List.map AV.d x) (l.map StampG.row), r.length = 3) ↔ True := ⟨fun _ => trivial, fun _ r hr => by
  obtain ⟨x, hx, rfl⟩ := List.mem_map.1 hr
  simpa using rows_len (f := StampG.row) (sz := 3) (fun _ => rfl) l x hx⟩

theorem ActG.eta {a : ActG} : (⟨a.kind, a.loc, a.old, a.new⟩ : ActG) = a := rfl
theorem RatG.eta {a : RatG} : (⟨a.num, a.den⟩ : RatG) = a := rfl
theorem LocG.eta {a : LocG} : (⟨a.atom, a.init⟩ : LocG) = a := rfl

theorem Z1w {α : Type} {f : α → List DV} {l : List α} {n : Nat} : (l.map f).take n = (l.take n).map f := List.map_take.symm
theorem Z22 {α : Type} {f : α → List DV} {l : List α} {n : Nat} : (l.map f).drop n = (l.drop n).map f := List.map_drop.symm

end Go.Ago
