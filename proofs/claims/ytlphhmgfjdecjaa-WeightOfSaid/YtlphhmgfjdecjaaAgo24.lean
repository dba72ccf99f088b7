/- Functions: from what is asked of a body to a call. Conditions: none. -/
import Derived.Test.YtlphhmgfjdecjaaAgo23
set_option linter.unusedSimpArgs false
set_option linter.unusedVariables false
namespace Go.Ago

inductive LRes where
  | tmp (t : Nat)
  | cell (t : Nat) (agg : Bool) (sz : Nat)

def lowRes (P : Program) : ResultVar → Option LRes
  | .tmp t => some (.tmp t)
  | .cell a t => (lowAgg P t).bind fun g => (lowSz P t).map fun sz => .cell a g sz

def lowRess (P : Program) : List ResultVar → Option (List LRes)
  | [] => some []
  | r :: rs => (lowRes P r).bind fun x => (lowRess P rs).map (x :: ·)

def resT (S : State) : LRes → AV
  | .tmp t => S.env.get t
  | .cell t agg sz => (evLoad S.heap agg sz (S.env.get t)).δ.val

def resQ (S : State) : List LRes → Prop
  | [] => True
  | .tmp _ :: rs => resQ S rs
  | .cell t agg sz :: rs => (evLoad S.heap agg sz (S.env.get t)).ok ∧ resQ S rs

def resV (S : State) : List LRes → AV
  | [r] => resT S r
  | rs => .tup (rs.map (resT S))

def retK (rs : List LRes) (Post : AV → Heap → Prop) : AExit → State → Prop
  | .exit _, _ => False
  | _, S => resQ S rs ∧ Post (resV S rs) S.heap

def envFrom : Nat → List AV → Env
  | _, [] => []
  | i, x :: xs => (i, x) :: envFrom (i + 1) xs

theorem envFrom_get : ∀ (args : List AV) (i t : Nat), (envFrom i args).get t = if i ≤ t then args.getD (t - i) .undef else .undef := by
  intro args
  induction args with
  | nil => intro i t; simp [envFrom, Env.get]
  | cons x xs ih =>
    intro i t
    simp only [envFrom, Env.get, ih]
    by_cases e : i = t
    · simp [e]
    · by_cases e' : i ≤ t
      · rw [if_neg e, if_pos (by omega), if_pos e', show t - i = (t - (i + 1)) + 1 by omega, List.getD_cons_succ]
      · rw [if_neg e, if_neg (by omega), if_neg e']

def noSpecs : Specs := fun _ _ => .none

theorem noSpecs_ok {P : Program} : SpecsOK P noSpecs where
  data := fun g args ok val fresh h => by simp [noSpecs] at h
  rows := fun g args ok sz rows h => by simp [noSpecs] at h

theorem RelL.cons {φ : Nat → Option (Nat × Nat)} {M : Nat → Prop} {w : World} {x : AV} {v : Value} {xs : List AV} {vs : List Value} (h : Rel φ M w x v) (hs : RelL φ M w xs vs) : RelL φ M w (x :: xs) (v :: vs) := by
  refine ⟨by simp [hs.len], fun i => ?_⟩
  cases i with
  | zero => intro y u h1 h2; simp at h1 h2; subst h1; subst h2; exact h
  | succ i => intro y u h1 h2; exact hs.get i y u (by simpa using h1) (by simpa using h2)

section
variable {A : Nat → Prop} {φ : Nat → Option (Nat × Nat)} {w : World} {P : Program} {n : Nat} {S : State} {a : Act}

theorem run_cell (hs : Sim A n φ S a w) {t : Nat} {ty : TypeId} {g : Bool} {sz : Nat} (hg : lowAgg P ty = some g) (hsz : lowSz P ty = some sz) (h : (evLoad S.heap g sz (S.env.get t)).ok) :
    ∃ v, (do loadVar ty (← asAddr (a.tmps.getD t undef)) : Sem Value).run P w = .ok v w ∧ Rel φ (Mb A φ S.heap) w (evLoad S.heap g sz (S.env.get t)).δ.val v := by
  have hr := hs.slots t
  have hact : actLoad S.heap g sz (S.env.get t) (· = (evLoad S.heap g sz (S.env.get t)).δ) := by
    have := evOp_sound (P := P) (F := noSpecs) noSpecs_ok (base := 0) (e := S.env) (H := S.heap) (o := .load g sz (.tmp t)) h
    exact this
  obtain ⟨v, z, ids, hrun, hrel, he⟩ := run_load_op (P := P) hs.heap hg hsz hr hact
  refine ⟨v, ?_, by rw [← he]; exact hrel⟩
  generalize hv : a.tmps.getD t undef = p at *
  generalize S.env.get t = x at *
  cases hr with
  | ptr id sz0 row j b o hb => simpa [Instr.loadAt, Instr.sureAddr, asAddr] using hrun
  | dptr cells j b off f hb hc hsz => simpa [Instr.loadAt, Instr.sureAddr, asAddr] using hrun
  | _ => exact (by simp [evLoad, Out.no] at h : False).elim

theorem run_ress (hs : Sim A n φ S a w) : ∀ (l : List ResultVar) (rs : List LRes), lowRess P l = some rs → resQ S rs →
    ∃ vs, (l.mapM (m := Sem) fun | .tmp t => pure (a.tmps.getD t undef) | .cell c t => do loadVar t (← asAddr (a.tmps.getD c undef))).run P w = .ok vs w ∧ RelL φ (Mb A φ S.heap) w (rs.map (resT S)) vs := by
  intro l
  induction l with
  | nil => intro rs h _; simp [lowRess] at h; subst h; exact ⟨[], by simp, .nil⟩
  | cons r l ih =>
    intro rs h hq
    simp only [lowRess, Option.bind_eq_some_iff, Option.map_eq_some_iff] at h
    obtain ⟨x, hx, rs', hrs, rfl⟩ := h
    cases r with
    | tmp t =>
      simp only [lowRes, Option.some.injEq] at hx; subst hx
      obtain ⟨vs, h1, h2⟩ := ih rs' hrs hq
      exact ⟨a.tmps.getD t undef :: vs, by simp only [List.mapM_cons, Sem.run_bind, Sem.run_pure, Result.andThen_ok, h1], .cons (hs.slots t) h2⟩
    | cell c t =>
      simp only [lowRes, Option.bind_eq_some_iff, Option.map_eq_some_iff] at hx
      obtain ⟨g, hg, sz, hsz, rfl⟩ := hx
      obtain ⟨vs, h1, h2⟩ := ih rs' hrs hq.2
      obtain ⟨v, h3, h4⟩ := run_cell hs hg hsz hq.1
      exact ⟨v :: vs, by
        simp only [Sem.run_bind] at h3
        simp only [List.mapM_cons, Sem.run_bind, h3, Result.andThen_ok, h1, Sem.run_pure], .cons h4 h2⟩

theorem run_results (hs : Sim A n φ S a w) {fn : Func} {rs : List LRes} (hr : lowRess P fn.results.toList = some rs) (hq : resQ S rs) :
    ∃ v, (results fn a.tmps).run P w = .ok v w ∧ Rel φ (Mb A φ S.heap) w (resV S rs) v := by
  obtain ⟨vs, h1, h2⟩ := run_ress hs _ _ hr hq
  have hlen := h2.len
  simp at hlen
  refine ⟨if h : vs.toArray.size = 1 then vs.toArray[0] else .tuple vs.toArray, ?_, ?_⟩
  · unfold results
    rw [Array.mapM_eq_mapM_toList]
    rw [map_eq_pure_bind, Sem.run_bind, Sem.run_bind]
    refine (congrArg (fun r => Result.andThen (Result.andThen r _) _) h1).trans ?_
    simp only [Result.andThen_ok, Sem.run_pure]
  · cases rs with
    | nil =>
      cases vs with
      | nil => exact .tup [] #[] rfl (fun i x v h => by simp at h)
      | cons v vs => simp at hlen
    | cons r rs =>
      cases rs with
      | nil =>
        cases vs with
        | nil => simp at hlen
        | cons v vs =>
          cases vs with
          | nil => simpa [resV] using h2.get 0 _ _ rfl rfl
          | cons v' vs => simp at hlen
      | cons r' rs =>
        have : ¬ vs.toArray.size = 1 := by simp; simp at hlen; omega
        rw [dif_neg this]
        simp only [resV]
        exact .tup _ _ (by simp; simp at hlen; omega) (fun i x v e1 e2 => h2.get i x v e1 (by simpa using e2))

end

/-! Which slots a body hands on from one region to another. -/
def Opd.slots : Opd → List Nat
  | .tmp t => [t]
  | .cst _ => []

def addTo (l : List Nat) (t : Nat) : List Nat := if l.contains t then l else l ++ [t]

def needsOps : List Nat → List Nat → List LOper → List Nat
  | _, out, [] => out
  | has, out, o :: os =>
    let looks := o.op.opds.flatMap Opd.slots ++ (match o.guard with | some (g, _) => [g] | none => [])
    needsOps (match o.dst with | some d => d :: has | none => has) ((looks.filter fun t => !has.contains t).foldl addTo out) os

def needs (out : List Nat) : LCode → List Nat
  | .region _ los _ => needsOps [] out los
  | .nilq los _ _ x => needsOps (los.filterMap (·.dst)) (needsOps [] out los) [⟨none, .mv x, none⟩]
  | .seq a b => needs (needs out a) b
  | .cond c a b => needs (needs (c.slots.foldl addTo out) a) b
  | .block _ b => needs out b
  | .loop b => needs out b
  | _ => out

def needsAll (lc : LCode) (rs : List LRes) : List Nat := (rs.map fun | .tmp t => t | .cell t _ _ => t).foldl addTo (needs [] lc)

end Go.Ago
