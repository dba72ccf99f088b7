/- Bodies once more ('vck'): what a guard tells is known from there on, and a call may change rows that it is handed. Conditions: none. -/
import Derived.Test.YtlphhmgfjdecjaaAgo25
import Derived.WalkSpells
import Derived.Lib.SliceRun
set_option linter.unusedSimpArgs false
set_option linter.unusedVariables false
namespace Go.Ago

/-- What a call does to the heap that it is handed. -/
structure Eff where
  ok : Prop
  val : AV
  ups : List (Nat × HO)

structure Tab where
  F : Specs
  G : FuncId → List AV → Heap → Option Eff

def applyUps (H : Heap) (ups : List (Nat × HO)) : Heap := ups.foldl (fun H p => H.set p.1 p.2) H

structure TabOK (P : Program) (T : Tab) : Prop where
  F : SpecsOK P T.F
  G : ∀ g args H e, T.G g args H = some e → e.ok → ACalls P g args H fun r H' => r = e.val ∧ H' = applyUps H e.ups

def evCallT (T : Tab) (draw : Bool) (H : Heap) (new : Nat) (imp : Bool) (f : AV) (args : List AV) : Out :=
  match draw, fnOf f with
  | false, some (g, caps) =>
    match T.G g (args ++ caps) H with
    | some x => ⟨x.ok, ⟨x.val, x.ups, []⟩⟩
    | none => evCall T.F H new imp f args
  | _, _ => evCall T.F H new imp f args

def evT (T : Tab) (draw : Bool) (base : Nat) (e : Env) (H : Heap) (o : LOp) : Out :=
  match o with
  | .mv x => .v True (x.ev e)
  | .pick c a b => (match c.ev e with | .d (.bool t) => .v True (pickV t (a.ev e) (b.ev e)) | _ => .no)
  | .alloc c sz zero => ⟨True, ⟨.ptr (base + c) sz 0 0, [(base + c, .vec sz [zero])], []⟩⟩
  | .box c x => ⟨cellsQ (x.ev e), ⟨.ptr (base + c) (cellsT (x.ev e)).length 0 0, [(base + c, .vec (cellsT (x.ev e)).length [cellsT (x.ev e)])], []⟩⟩
  | .build zero parts => .v (buildQ zero.length (parts.map fun p => (p.1, p.2.1, p.2.2.ev e))) (.agg (buildT zero (parts.map fun p => (p.1, p.2.1, p.2.2.ev e))))
  | .bslice c sz len zero parts => ⟨buildRQ sz len (parts.map fun p => (p.1, p.2.ev e)), ⟨.ref (base + c) sz 0 len true, [(base + c, mkVec sz (buildRT (List.replicate len zero) (parts.map fun p => (p.1, p.2.ev e))))], []⟩⟩
  | .load agg sz a => evLoad H agg sz (a.ev e)
  | .store sz a x => evStore H sz (a.ev e) (x.ev e)
  | .nilchk x => .v (match x.ev e with | .ptr .. | .dptr .. | .clo .. | .d (.fn _) => True | _ => False) (x.ev e)
  | .bin op x y => evBin op (x.ev e) (y.ev e)
  | .eq neg pl x y => evEq neg pl (x.ev e) (y.ev e)
  | .un op x => evUn op (x.ev e)
  | .conv kd x => (match x.ev e with | .d (.int _ n) => .v True (.d (.int kd (kd.wrap n))) | _ => .no)
  | .fl f x y => evFl f (x.ev e) (y.ev e)
  | .fieldAddr off x => (match x.ev e with | .ptr id sz row j => .v True (.ptr id sz row (j + off)) | .dptr cs j => .v True (.dptr cs (j + off)) | _ => .no)
  | .field agg off sz x => (match x.ev e with | .agg cs => .v (loadQ agg sz off cs.length) (loadT agg sz off cs) | _ => .no)
  | .idxAddr sz x i => evIdxAddr sz (x.ev e) (i.ev e)
  | .idxArrAddr len sz x i => evIdxArrAddr len sz (x.ev e) (i.ev e)
  | .idxArr agg len sz x i => evIdxArr agg len sz (x.ev e) (i.ev e)
  | .mkslice c sz bytes zero l m => evMk base c sz bytes zero (l.ev e) (m.ev e)
  | .slice sz x lo hi mx => evSlice sz e (x.ev e) lo hi mx
  | .extract i x => (match x.ev e with | .tup vs => .v (i < vs.length) (vs.getD i .undef) | _ => .no)
  | .mkfn f caps => .v True (match caps with | [] => .d (.fn f) | _ => .clo f (caps.map (·.ev e)))
  | .call c imp f args => evCallT T draw H (base + c) imp (f.ev e) (args.map (·.ev e))
  | .append c sz bytes x y => evAppend H (base + c) sz bytes (x.ev e) (y.ev e)
  | .copy sz x y => evCopy H sz (x.ev e) (y.ev e)
  | .len x => evLen (x.ev e)
  | .maxi x y => evInt2 (fun kd a b => .int kd (if b > a then b else a)) (x.ev e) (y.ev e)
  | .mini x y => evInt2 (fun kd a b => .int kd (if b < a then b else a)) (x.ev e) (y.ev e)

def stepK (o : Out) (k : Delta → Prop) : Prop := o.ok ∧ k o.δ
theorem stepK_mk {ok : Prop} {δ : Delta} {k : Delta → Prop} : stepK ⟨ok, δ⟩ k ↔ ok ∧ k δ := Iff.rfl
theorem stepK_v {ok : Prop} {x : AV} {k : Delta → Prop} : stepK (.v ok x) k ↔ ok ∧ k ⟨x, [], []⟩ := Iff.rfl
theorem stepK_no {k : Delta → Prop} : stepK .no k ↔ False := ⟨fun h => h.1.elim, fun h => h.elim⟩

/-- Two ways, by a bool. -/
def boolK (b : Bool) (go skip : Prop) : Prop := (b = true → go) ∧ (b = false → skip)
theorem boolK_true {go skip : Prop} : boolK true go skip ↔ go := by simp [boolK]
theorem boolK_false {go skip : Prop} : boolK false go skip ↔ skip := by simp [boolK]
theorem boolK_not {b : Bool} {go skip : Prop} : boolK (!b) go skip ↔ boolK b skip go := by cases b <;> simp [boolK]
theorem boolK_dec {p : Prop} [Decidable p] {go skip : Prop} : boolK (decide p) go skip ↔ (p → go) ∧ (¬ p → skip) := by simp [boolK]
theorem boolK_and {x y : Bool} {go skip : Prop} : boolK (x && y) go skip ↔ (x = true ∧ y = true → go) ∧ (x = false ∨ y = false → skip) := by cases x <;> cases y <;> simp [boolK]
theorem boolK_iff {b : Bool} {go skip : Prop} : boolK b go skip ↔ (b = true → go) ∧ (b = false → skip) := Iff.rfl

def guardS (x : AV) (want : Bool) (go skip skip0 : Prop) : Prop :=
  match x with
  | .d (.bool b) => (b = want → go) ∧ (b = !want → skip)
  | .tup [] => skip0
  | _ => False
theorem guardS_t {b : Bool} {go skip skip0 : Prop} : guardS (.d (.bool b)) true go skip skip0 ↔ boolK b go skip := Iff.rfl
theorem guardS_f {b : Bool} {go skip skip0 : Prop} : guardS (.d (.bool b)) false go skip skip0 ↔ boolK b skip go := And.comm
theorem guardS_no {want : Bool} {go skip skip0 : Prop} : guardS (.tup []) want go skip skip0 ↔ skip0 := Iff.rfl

def State.know (S : State) (g : Nat) (b : Bool) : State := ⟨(g, .d (.bool b)) :: S.env, S.heap⟩

theorem know_like {S : State} {g : Nat} {b : Bool} (h : S.env.get g = .d (.bool b)) : Like S (S.know g b) := by
  refine ⟨fun t => ?_, rfl⟩
  simp only [State.know, Env.get]
  by_cases e : g = t
  · subst e; simp [h]
  · simp [e]

/-- What was touched: told only where the order is drawn. -/
def feet (draw : Bool) (f : List Nat × List Nat) (acc : Feet) : Feet :=
  match draw with
  | true => f :: acc
  | false => []

def RGk (T : Tab) (draw : Bool) (base : Nat) (pairs : List (Nat × Nat)) (K : State → Prop) : List LOper → State → Feet → Prop
  | [], S, acc => match draw with
    | true => chk pairs acc.reverse = true ∧ K S
    | false => K S
  | ⟨dst, op, none⟩ :: os, S, acc => stepK (evT T draw base S.env S.heap op) fun δ => RGk T draw base pairs K os (S.app dst δ) (feet draw δ.foot acc)
  | ⟨dst, op, some (g, want)⟩ :: os, S, acc => guardS (S.env.get g) want
      (stepK (evT T draw base (S.know g want).env S.heap op) fun δ => RGk T draw base pairs K os ((S.know g want).app dst δ) (feet draw δ.foot acc))
      (RGk T draw base pairs K os ((S.know g (!want)).app dst skipD) (feet draw ([], []) acc))
      (RGk T draw base pairs K os (S.app dst skipD) (feet draw ([], []) acc))


/-- A state that is like one of 'K'. -/
def LikeK (K : State → Prop) (S : State) : Prop := ∃ S', Like S S' ∧ K S'

theorem evT_data {T : Tab} {base : Nat} {e : Env} {H : Heap} {o : LOp} {draw : Bool} (h : draw = true ∨ ∀ c imp f args, o ≠ .call c imp f args) : evT T draw base e H o = evOp T.F base e H o := by
  cases o with
  | call c imp f args =>
    rcases h with rfl | h
    · simp only [evT, evOp, evCallT]
    · exact absurd rfl (h _ _ _ _)
  | _ => rfl

theorem evT_call {T : Tab} {base : Nat} {e : Env} {H : Heap} {c : Nat} {imp : Bool} {f : Opd} {args : List Opd} : 
    evT T false base e H (.call c imp f args) = evOp T.F base e H (.call c imp f args) ∨
    ∃ g caps x, fnOf (f.ev e) = some (g, caps) ∧ T.G g (args.map (·.ev e) ++ caps) H = some x ∧ evT T false base e H (.call c imp f args) = ⟨x.ok, ⟨x.val, x.ups, []⟩⟩ := by
  simp only [evT, evOp, evCallT]
  cases h : fnOf (f.ev e) with
  | none => exact .inl rfl
  | some gc =>
    obtain ⟨g, caps⟩ := gc
    cases h2 : T.G g (args.map (·.ev e) ++ caps) H with
    | none => exact .inl (by simp only [h2])
    | some x => exact .inr ⟨g, caps, x, rfl, h2, by simp only [h2]⟩

theorem applyUps_len (ups : List (Nat × HO)) : ∀ (H : Heap), (applyUps H ups).length = H.length := by
  induction ups with
  | nil => intro H; rfl
  | cons u us ih => intro H; show (applyUps (H.set u.1 u.2) us).length = _; rw [ih]; simp

theorem RGk.rg {P : Program} {T : Tab} (hT : TabOK P T) {draw : Bool} {base : Nat} {pairs : List (Nat × Nat)} (hp : draw = false → pairs = []) {K : State → Prop} :
    ∀ (los : List LOper) (S S' : State) (acc acc' : Feet), Like S S' → (draw = true → acc = acc') → RGk T draw base pairs K los S' acc' → RG P draw base pairs (LikeK K) los S acc := by
  have hF := hT.F
  intro los
  induction los with
  | nil =>
    intro S S' acc acc' hl ha h
    cases draw with
    | true => rw [ha rfl]; exact ⟨h.1, S', hl, h.2⟩
    | false => rw [hp rfl]; exact ⟨rfl, S', hl, h⟩
  | cons o os ih =>
    intro S S' acc acc' hl ha h
    obtain ⟨dst, op, guard⟩ := o
    -- one operation that is done
    have one : ∀ {S' : State}, Like S S' → stepK (evT T draw base S'.env S'.heap op) (fun δ => RGk T draw base pairs K os (S'.app dst δ) (feet draw δ.foot acc')) →
        (actK P base S.env S.heap op fun δ => RG P draw base pairs (LikeK K) os (S.app dst δ) ((δ.rd, δ.ups.map (·.1)) :: acc)) ∨
        (draw = false ∧ ∃ c imp f args g caps, op = .call c imp f args ∧ fnOf (f.ev S.env) = some (g, caps) ∧
          ACalls P g (args.map (·.ev S.env) ++ caps) S.heap fun r H' => S.heap.length ≤ H'.length ∧ RG P draw base pairs (LikeK K) os ({ S with heap := H' }.app dst ⟨r, [], []⟩) (([], []) :: acc)) := by
      intro S' hl ⟨h1, h2⟩
      have data : evT T draw base S'.env S'.heap op = evOp T.F base S'.env S'.heap op → actK P base S.env S.heap op fun δ => RG P draw base pairs (LikeK K) os (S.app dst δ) ((δ.rd, δ.ups.map (·.1)) :: acc) := fun e => by
        rw [e] at h1 h2
        have hs := evOp_sound (P := P) hF h1
        have hs' : actK P base S.env S.heap op (· = (evOp T.F base S'.env S'.heap op).δ) := by
          have : Step P base ⟨dst, op, none⟩ (evOp T.F base S'.env S'.heap op).δ S' := hs
          exact hl.symm.step this
        refine actK_mono hs' fun δ hδ => ?_
        subst hδ
        exact ih _ _ _ _ (hl.app _ _) (fun hd => by rw [ha hd]; subst hd; rfl) h2
      cases hd : draw with
      | true => subst hd; exact .inl (data (evT_data (.inl rfl)))
      | false =>
        subst hd
        cases op with
        | call c imp f args =>
          rcases evT_call (T := T) (base := base) (e := S'.env) (H := S'.heap) (c := c) (imp := imp) (f := f) (args := args) with e | ⟨g, caps, x, e1, e2, e3⟩
          · exact .inl (data e)
          · refine .inr ⟨rfl, c, imp, f, args, g, caps, rfl, ?_, ?_⟩
            · have : f.ev S.env = f.ev S'.env := by cases f <;> simp [Opd.ev, hl.1]
              rw [this]; exact e1
            · have ea : args.map (·.ev S.env) = args.map (·.ev S'.env) := List.map_congr_left fun y _ => by cases y <;> simp [Opd.ev, hl.1]
              rw [e3] at h1 h2
              rw [ea, hl.2]
              refine (hT.G _ _ _ _ e2 h1).mono fun r H' ⟨hr, hH⟩ => ?_
              subst hr; subst hH
              refine ⟨by rw [applyUps_len]; exact Nat.le_refl _, ih _ _ _ _ ?_ (fun hd => by cases hd) h2⟩
              refine ⟨fun t => ?_, ?_⟩
              · rw [get_app, get_app]; simp only [hl.1 t]
              · rfl
        | _ => exact .inl (data (evT_data (.inr fun _ _ _ _ h => by cases h)))
    cases guard with
    | none => exact one hl h
    | some gw =>
      obtain ⟨g, want⟩ := gw
      simp only [RGk] at h
      simp only [RG]
      rw [hl.1 g]
      unfold guardS at h
      split at h
      · rename_i b hb
        simp only [hb]
        refine ⟨fun e => ?_, fun e => ?_⟩
        · subst e
          exact one (hl.trans (know_like hb)) (h.1 rfl)
        · have e' : b = !want := by cases b <;> cases want <;> simp_all
          have := h.2 e'
          rw [← e'] at this
          exact ih _ _ _ _ ((hl.trans (know_like hb)).app _ _) (fun hd => by rw [ha hd]; subst hd; rfl) this
      · rename_i hb
        simp only [hb]
        exact ih _ _ _ _ (hl.app _ _) (fun hd => by rw [ha hd]; subst hd; rfl) h
      · exact h.elim

def knowO (S : State) (c : Opd) (b : Bool) : State :=
  match c with
  | .tmp t => S.know t b
  | .cst _ => S

def condS (x : AV) (go skip : Prop) : Prop :=
  match x with
  | .d (.bool t) => (t = true → go) ∧ (t = false → skip)
  | _ => False
theorem condS_b {t : Bool} {go skip : Prop} : condS (.d (.bool t)) go skip ↔ boolK t go skip := Iff.rfl

/-- Is a slice nil? One that has something in it is not; of any other both must do. -/
def nilS (x : AV) (neg : Bool) (k : Bool → Prop) : Prop :=
  match x with
  | .d (.list rows _) => k neg ∧ (rows.length = 0 → k (!neg))
  | .ref _ _ _ len _ => k neg ∧ (len = 0 → k (!neg))
  | _ => False

/-! ### What is asked of a body -/
def loopV (n0 : Nat) (K : AExit → State → Prop) (I : Nat → State → Prop) (k : Nat) : AExit → State → Prop
  | .normal, S' => ∃ k', k' < k ∧ Wk n0 (I k') S'
  | x, S' => Wk n0 (K x) S'

def vck (T : Tab) (n0 : Nat) (live : List Nat) : LCode → State → (AExit → State → Prop) → Prop
  | .skip, S, K => K .normal S
  | .ret, S, K => K .ret S
  | .exit id, S, K => K (.exit id) S
  | .region draw los pairs, S, K => RGk T draw S.heap.length pairs (fun S' => K .normal (S'.prune live)) los (reserve S (keeps los)) []
  | .nilq los neg dst x, S, K => RGk T false S.heap.length [] (fun S' => nilS (x.ev S'.env) neg fun b => K .normal ((S'.app (some dst) ⟨.d (.bool b), [], []⟩).prune live)) los (reserve S (keeps los)) []
  | .seq a b, S, K => vck T n0 live a S (thenK (fun S' => vck T n0 live b S' K) K)
  | .cond c a b, S, K => condS (c.ev S.env) (vck T n0 live a (knowO S c true) K) (vck T n0 live b (knowO S c false) K)
  | .block id b, S, K => vck T n0 live b S (blockK id K)
  | .loop b, S, K => ∃ (I : Nat → State → Prop) (k : Nat), Wk n0 (I k) S ∧ ∀ k S, I k S → vck T n0 live b S (loopV n0 K I k)


theorem AWP.like {P : Program} {n n0 : Nat} {c : Code} {S S' : State} {K : AExit → State → Prop} (hl : Like S S') (h : AWP P n n0 c S' K) : AWP P n n0 c S K := by
  intro A φ a w hs Q hq
  refine h A φ a w (hl.sim hs) Q fun x S1 φ' a' w' hK hs' he => hq x S1 φ' a' w' hK hs' ?_
  rw [hl.2]; exact he

theorem AWP.unlike {P : Program} {n n0 : Nat} {c : Code} {S : State} {K : AExit → State → Prop} (h : AWP P n n0 c S fun x => LikeK (K x)) : AWP P n n0 c S K := by
  intro A φ a w hs Q hq
  refine h A φ a w hs Q fun x S1 φ' a' w' ⟨S2, hl, hK⟩ hs' he => hq x S2 φ' a' w' hK (hl.sim hs') ?_
  rw [← hl.2]; exact he

theorem AWP.nilq {P : Program} {n n0 id : Nat} {ops : Array Oper} {draw neg : Bool} {t : Nat} {x : Opd} {los : List LOper} {S : State} {K : State → Prop} (hq : nilqOf P n ops draw = some (los, neg, t, x)) (h0 : n0 ≤ S.heap.length)
    (hg : RG P false S.heap.length [] (LikeK fun S' => nilS (x.ev S'.env) neg fun b => K (S'.app (some t) ⟨.d (.bool b), [], []⟩)) los (reserve S (keeps los)) []) :
    AWP P n n0 (.region id ops draw) S (fun e S' => (match e with | .normal => K S' | _ => False) ∧ n0 ≤ S'.heap.length) := by
  intro A φ a w hs Q hQ
  unfold nilqOf at hq
  split at hq
  case h_2 => cases hq
  rename_i o pre hops
  split at hq
  case h_2 => cases hq
  rename_i t' op ty y yt hdst hguard hop
  have hops' : ops.toList = pre.reverse ++ [o] := by
    have := congrArg List.reverse hops
    simpa using this
  have hget : ops[pre.length]? = some o := by
    rw [← Array.getElem?_toList, hops', List.getElem?_append_right (by simp)]; simp
  have fin : ∀ (ng : Bool) (e : TypeId) (bo : BinOp), P.underlying ty = some (.slice e) → t' < n → lowOpd y = some x → lowOps P n ops 0 pre.reverse = some los → ng = neg → t' = t → op = bo →
      (∀ w ad l c, (binOp bo ty (.slice ad l c) (.slice none 0 0)).run P w = .ok (.bool (xor ng ad.isNone)) w) → (Code.region id ops false).wp P Q a w := by
    intro ng e bo hty hlt hy hlos e1 e2 e3 hrun
    subst e1; subst e2; subst e3
    refine wp_region ?_
    obtain ⟨hs', hfree⟩ := sim_reserve hs (keeps los)
    have hon : Onward A φ S.heap w φ (reserve S (keeps los)).heap w := ⟨fun _ _ h => h, Pres.refl _ _, fun b hb => .inl ((own_reserve _ _ b).1 hb)⟩
    have hrange : List.range ops.size = List.range' 0 pre.reverse.length ++ [pre.length] := by
      have : ops.size = pre.length + 1 := by rw [← Array.length_toList, hops']; simp
      rw [this, List.range_succ, List.range_eq_range']; simp
    rw [hrange]
    refine ops_text (base := S.heap.length) (Q := Q) [o] [pre.length] pre.reverse 0 0 los (reserve S (keeps los)) [] φ a w (by simpa using hops') hlos hg hs' (by simp [reserve]) (fun k _ _ => hfree _ (by omega)) ?_
    intro S1 φ1 a1 w1 ⟨S2, hlk, hK⟩ hs1 hon1 hid hl
    have hs2 := hlk.sim hs1
    have hr := lowOpd_rel hs2 hy
    obtain ⟨ad, l, c, hv, hk⟩ : ∃ ad l c, a1.eval y = .slice ad l c ∧ K (S2.app (some t') ⟨.d (.bool (xor ng ad.isNone)), [], []⟩) := by
      have hK : nilS (x.ev S2.env) ng fun b => K (S2.app (some t') ⟨.d (.bool b), [], []⟩) := hK
      generalize a1.eval y = v at hr
      generalize x.ev S2.env = X at hr hK
      unfold nilS at hK
      split at hK
      · rename_i rows full
        cases hr with
        | d _ _ hr =>
          cases hr with
          | nil full ad cap hf =>
            refine ⟨ad, 0, cap, rfl, ?_⟩
            cases ad with
            | none => simpa using hK.2 rfl
            | some ad => simpa using hK.1
          | list rows full sz b off cap f hb hM hsz hcap hfull hc hr => exact ⟨_, _, _, rfl, by simpa using hK.1⟩
      · rename_i i sz row len room
        cases hr with
        | ref0 id sz row room ad =>
          refine ⟨ad, 0, 0, rfl, ?_⟩
          cases ad with
          | none => simpa using hK.2 rfl
          | some ad => simpa using hK.1
        | ref => exact ⟨_, _, _, rfl, by simpa using hK.1⟩
      · exact hK.elim
    have hwp : o.wp P a1 w1 (wpOps P ops Q []) Q := by
      refine wp_value (v := .bool (xor ng ad.isNone)) (w' := w1) ?_ ?_
      · simp only [execOp, hop]
        refine run_v ?_
        have : Act.eval a1 (.const (.slice none 0 0)) = .slice none 0 0 := rfl
        rw [this, hv]
        have hg : (eqGuard op ty y (.const (.slice none 0 0)) (.slice ad l c) (.slice none 0 0)).run P w1 = .ok () w1 := by
          unfold eqGuard
          cases op <;> simp
        rw [Sem.run_bind, hg]
        exact hrun w1 ad l c
      · show Q .normal _ _
        have hs3 := sim_put (x := .d (.bool (xor ng ad.isNone))) (v := .bool (xor ng ad.isNone)) (dst := some t') hs2 hs2.heap (Onward.same hs2.heap) (fun t ht => by cases ht; exact hlt) (.d _ _ (.bool _))
        rw [hdst]
        refine hQ .normal _ φ1 _ w1 ⟨hk, ?_⟩ hs3 ⟨fun i hi => hid i (by omega), ?_, ?_⟩
        · show n0 ≤ S2.heap.length
          rw [← hlk.2]; simp only [reserve, List.length_append] at hl; omega
        · exact (hon.trans hon1).pres
        · intro b hb
          refine (hon.trans hon1).mono b ?_
          rw [hlk.2]; exact hb
    unfold wpOps
    simp only [hget]
    rw [wanted_none (all := ops) hguard, if_pos rfl]
    exact .inl hwp
  split at hq
  · rename_i e hty
    split at hq
    · rename_i hlt
      simp only [Option.bind_eq_some_iff, Option.map_eq_some_iff, Prod.mk.injEq] at hq
      obtain ⟨y', hy, los', hlos, rfl, e1, e2, rfl⟩ := hq
      exact fin false e .eql hty hlt hy hlos e1 e2 rfl fun w ad l c => by simpa using Go.Lib.run_eql_slice_nil w ty e ad l c 0 0 hty
    · cases hq
  · rename_i e hty
    split at hq
    · rename_i hlt
      simp only [Option.bind_eq_some_iff, Option.map_eq_some_iff, Prod.mk.injEq] at hq
      obtain ⟨y', hy, los', hlos, rfl, e1, e2, rfl⟩ := hq
      exact fin true e .neq hty hlt hy hlos e1 e2 rfl fun w ad l c => by simpa using Go.run_neq_slice_nil_any w ty e ad l c 0 0 hty
    · cases hq
  · cases hq

/-- What is asked is enough. -/
theorem vck_sound {P : Program} {n : Nat} {T : Tab} (hT : TabOK P T) {n0 : Nat} {live : List Nat} : ∀ (c : Code) (lc : LCode) (S : State) (K : AExit → State → Prop), lowCode P n c = some lc → n0 ≤ S.heap.length →
    vck T n0 live lc S K → AWPn P n n0 c S K := by
  intro c
  induction c with
  | skip =>
    intro lc S K hl h0 h
    simp only [lowCode, Option.some.injEq] at hl; subst hl
    exact AWP.skip ⟨h, h0⟩
  | ret =>
    intro lc S K hl h0 h
    simp only [lowCode, Option.some.injEq] at hl; subst hl
    exact AWP.ret ⟨h, h0⟩
  | exit id =>
    intro lc S K hl h0 h
    simp only [lowCode, Option.some.injEq] at hl; subst hl
    exact AWP.exit ⟨h, h0⟩
  | region id ops draw =>
    intro lc S K hl h0 h
    simp only [lowCode] at hl
    split at hl
    · rename_i los neg t x hq
      simp only [Option.some.injEq] at hl; subst hl
      simp only [vck] at h
      refine AWP.pruned live (AWP.mono (AWP.nilq (K := fun S' => K .normal (S'.prune live)) hq h0 (h.rg hT (fun _ => rfl) _ _ _ _ _ (Like.refl _) (fun _ => rfl))) fun e S' hK => ?_)
      cases e with
      | normal => exact hK
      | exit id => exact hK.1.elim
      | ret => exact hK.1.elim
    simp only [Option.bind_eq_some_iff] at hl
    obtain ⟨los, hlos, hl⟩ := hl
    have fin : AWP P n n0 (.region id ops draw) S (fun x S' => (match x with | .normal => LikeK (fun S' => K .normal (S'.prune live)) S' | x => False) ∧ n0 ≤ S'.heap.length) := by
      split at hl
      · rename_i hd
        split at hl
        · rename_i hc
          simp only [Option.some.injEq] at hl; subst hl
          simp only [Bool.and_eq_true] at hc
          subst hd
          exact AWP.draw (K := fun x S' => match x with | .normal => LikeK (fun S' => K .normal (S'.prune live)) S' | x => False) hlos hc.1 (fun md h => List.all_eq_true.1 hc.2 md h) h0 (h.rg hT (by simp) _ _ _ _ _ (Like.refl _) (fun _ => rfl))
        · cases hl
      · rename_i hd
        simp only [Option.some.injEq] at hl; subst hl
        have hd : draw = false := by simpa using hd
        subst hd
        exact AWP.region (K := fun x S' => match x with | .normal => LikeK (fun S' => K .normal (S'.prune live)) S' | x => False) hlos h0 (h.rg hT (fun _ => rfl) _ _ _ _ _ (Like.refl _) (fun _ => rfl))
    refine AWP.unlike (AWP.mono (AWP.pruned live (K := fun x S' => (match x with | .normal => LikeK (fun S' => K .normal S') S' | x => False) ∧ n0 ≤ S'.heap.length) (fin.mono fun x S' hK => ?_)) fun x S' hK => ?_)
    · cases x with
      | normal =>
        obtain ⟨⟨S1, hl, hK⟩, h1⟩ := hK
        refine ⟨⟨S1.prune live, ⟨fun t => ?_, hl.2⟩, hK⟩, h1⟩
        show Env.get (live.map fun t => (t, S'.env.get t)) t = Env.get (live.map fun t => (t, S1.env.get t)) t
        rw [get_map (f := fun t => S'.env.get t), get_map (f := fun t => S1.env.get t), hl.1]
      | exit id => exact hK.1.elim
      | ret => exact hK.1.elim
    · cases x with
      | normal =>
        obtain ⟨⟨S1, hl, hK⟩, h1⟩ := hK
        exact ⟨S1, hl, hK, by rw [← hl.2]; exact h1⟩
      | exit id => exact hK.1.elim
      | ret => exact hK.1.elim
  | seq a b iha ihb =>
    intro lc S K hl h0 h
    simp only [lowCode, Option.bind_eq_some_iff, Option.map_eq_some_iff] at hl
    obtain ⟨a', ha, b', hb, rfl⟩ := hl
    refine AWP.seq (AWP.mono (iha a' S _ ha h0 h) fun x S' hK => ?_)
    cases x with
    | normal => exact ihb b' S' K hb hK.2 hK.1
    | exit id => exact hK
    | ret => exact hK
  | cond c a b iha ihb =>
    intro lc S K hl h0 h
    simp only [lowCode, Option.bind_eq_some_iff, Option.map_eq_some_iff] at hl
    obtain ⟨c', hc, a', ha, b', hb, rfl⟩ := hl
    simp only [vck] at h
    unfold condS at h
    split at h
    · rename_i t ht
      have hk : ∀ b, t = b → Like S (knowO S c' b) := fun b e => by
        subst e
        cases c' with
        | tmp s => exact know_like ht
        | cst v => exact Like.refl _
      have hn : ∀ b, n0 ≤ (knowO S c' b).heap.length := fun b => by cases c' <;> exact h0
      exact AWP.cond (c'.ev S.env) (fun A φ act w hs => lowOpd_rel hs hc) ht (fun e => AWP.like (hk _ e) (iha a' _ K ha (hn _) (h.1 e))) (fun e => AWP.like (hk _ e) (ihb b' _ K hb (hn _) (h.2 e)))
    · exact h.elim
  | block id b ih =>
    intro lc S K hl h0 h
    simp only [lowCode, Option.map_eq_some_iff] at hl
    obtain ⟨b', hb, rfl⟩ := hl
    refine AWP.block (AWP.mono (ih b' S _ hb h0 h) fun x S' hK => ?_)
    cases x with
    | normal => exact hK
    | exit j =>
      obtain ⟨hK, h1⟩ := hK
      simp only [blockK] at hK ⊢
      split
      · rename_i e; rw [if_pos e] at hK; exact ⟨hK, h1⟩
      · rename_i e; rw [if_neg e] at hK; exact ⟨hK, h1⟩
    | ret => exact hK
  | loop b ih =>
    intro lc S K hl h0 h
    simp only [lowCode, Option.map_eq_some_iff] at hl
    obtain ⟨b', hb, rfl⟩ := hl
    obtain ⟨I, k, hI, hround⟩ := h
    refine AWPn.enter hI h0 fun S1 h1 hI1 => ?_
    refine AWP.loop (fun k S => I k S ∧ n0 ≤ S.heap.length) k ⟨hI1, h1⟩ fun k S2 ⟨h2, h3⟩ => ?_
    have := AWP.wk (K := fun x S' => match x with | .normal => ∃ k', k' < k ∧ I k' S' | x => K x S') (S := S2) (c := b) (P := P) (n := n) (n0 := n0) (AWP.mono (ih b' S2 _ hb h3 (hround k S2 h2)) fun x S' ⟨hK, hl⟩ => by
      cases x with
      | normal =>
        obtain ⟨k', hk, hK⟩ := hK
        rcases hK with hK | ⟨ρ, S'', g1, g2, g3⟩
        · exact .inl ⟨⟨k', hk, hK⟩, hl⟩
        · exact .inr ⟨ρ, S'', g1, g2, k', hk, g3⟩
      | exit id =>
        rcases hK with hK | ⟨ρ, S'', g1, g2, g3⟩
        · exact .inl ⟨hK, hl⟩
        · exact .inr ⟨ρ, S'', g1, g2, g3⟩
      | ret =>
        rcases hK with hK | ⟨ρ, S'', g1, g2, g3⟩
        · exact .inl ⟨hK, hl⟩
        · exact .inr ⟨ρ, S'', g1, g2, g3⟩)
    refine AWP.mono this fun x S' hK => ?_
    cases x with
    | normal => obtain ⟨⟨k', hk, hK⟩, hl⟩ := hK; exact ⟨k', hk, hK, hl⟩
    | exit id => exact hK
    | ret => exact hK
  | _ => intro lc S K hl; simp [lowCode] at hl

/-- A call, from what is asked of the body. -/
theorem ACalls.of_vck {P : Program} {T : Tab} (hT : TabOK P T) {f : FuncId} {fn : Func} {c : Code} {lc : LCode} {rs : List LRes} (live : List Nat) (hf : P.funcs[f]? = some fn)
    (hname : (fn.name == "runtime.NumGoroutine") = false) (hb : fn.body = some c) (hl : lowCode P fn.ntmps c = some lc) (hr : lowRess P fn.results.toList = some rs) {args : List AV} {H : Heap}
    {Post : AV → Heap → Prop} (ha : args.length ≤ fn.ntmps) (h : vck T H.length live lc ⟨envFrom 0 args, H⟩ (retK rs Post)) : ACalls P f args H Post := by
  refine ⟨⟨fn, hf, hname, by rw [hb]; rfl⟩, fun A φ w vals hs hz hrel => ?_⟩
  refine calls_of_wp hf hb ?_
  have hsim : Sim A fn.ntmps φ ⟨envFrom 0 args, H⟩ { tmps := vals ++ Array.replicate (fn.ntmps - vals.size) undef, defers := [] } w := by
    refine ⟨hs, by simp; omega, rfl, fun t => ?_⟩
    simp only [envFrom_get, Nat.zero_le, if_true, Nat.sub_zero]
    by_cases ht : t < args.length
    · rw [List.getD_eq_getElem?_getD, List.getElem?_eq_getElem ht, Array.getD_eq_getD_getElem?, Array.getElem?_append_left (by omega), Array.getElem?_eq_getElem (by omega)]
      exact hrel t _ _ (List.getElem?_eq_getElem ht) (Array.getElem?_eq_getElem (by omega))
    · rw [List.getD_eq_getElem?_getD, List.getElem?_eq_none (by omega)]
      exact .undef _
  refine vck_sound hT c lc _ _ hl (Nat.le_refl _) h A φ _ w hsim _ fun x S' φ' a' w' hK hs' he => ?_
  have fin : resQ S' rs ∧ Post (resV S' rs) S'.heap → a'.defers = [] ∧ ∃ v, (results fn a'.tmps).run P w' = .ok v w' ∧
      ∃ v' r H' φ', Ending.returned v = .returned v' ∧ Post r H' ∧ SimH A φ' H' w' ∧ Rel φ' (Mb A φ' H') w' r v' ∧ Ext H.length φ H w φ' H' w' := fun ⟨h1, h2⟩ => by
    obtain ⟨v, hv, hrv⟩ := run_results hs' hr h1
    exact ⟨hs'.defs, v, hv, v, _, _, φ', rfl, h2, hs'.heap, hrv, he⟩
  cases x with
  | normal => exact fin hK.1
  | exit id => exact hK.1.elim
  | ret => exact fin hK.1

end Go.Ago
