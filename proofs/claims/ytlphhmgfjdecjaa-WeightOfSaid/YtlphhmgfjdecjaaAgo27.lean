/- The laws by which a body is reckoned through. Conditions: none. -/
import Derived.Test.YtlphhmgfjdecjaaAgo26
set_option linter.unusedSimpArgs false
set_option linter.unusedVariables false
namespace Go.Ago

def nf (S : State) : State := S
theorem nf_mk {e : Env} {H : Heap} : nf ⟨e, H⟩ = ⟨e, H⟩ := rfl

def regK (live : List Nat) (K : AExit → State → Prop) : State → Prop := fun S' => K .normal (S'.prune live)
def vckTo (T : Tab) (n0 : Nat) (live : List Nat) (lc : LCode) (K : AExit → State → Prop) : State → Prop := fun S => vck T n0 live lc S K
def opK (T : Tab) (draw : Bool) (base : Nat) (pairs : List (Nat × Nat)) (K : State → Prop) (dst : Option Nat) (os : List LOper) (S : State) (acc : Feet) : Delta → Prop :=
  fun δ => RGk T draw base pairs K os (S.app dst δ) (feet draw δ.foot acc)

/-- A guarded operation, its guard looked up. -/
def guardG (x : AV) (g : Nat) (want : Bool) (T : Tab) (draw : Bool) (base : Nat) (pairs : List (Nat × Nat)) (K : State → Prop) (dst : Option Nat) (op : LOp) (os : List LOper) (S : State) (acc : Feet) : Prop :=
  guardS x want
    (stepK (evT T draw base (S.know g want).env S.heap op) (opK T draw base pairs K dst os (S.know g want) acc))
    (RGk T draw base pairs K os ((S.know g (!want)).app dst skipD) (feet draw ([], []) acc))
    (RGk T draw base pairs K os (S.app dst skipD) (feet draw ([], []) acc))

/-- An 'if', its test looked up. -/
def condG (x : AV) (T : Tab) (n0 : Nat) (live : List Nat) (a b : LCode) (c : Opd) (S : State) (K : AExit → State → Prop) : Prop :=
  condS x (vck T n0 live a (knowO S c true) K) (vck T n0 live b (knowO S c false) K)

/-- A test on nil, its slice looked up. -/
def nilG (x : AV) (neg : Bool) (dst : Nat) (S : State) (live : List Nat) (K : AExit → State → Prop) : Prop := nilS x neg fun b => K .normal ((S.app (some dst) ⟨.d (.bool b), [], []⟩).prune live)

def nilTo (neg : Bool) (dst : Nat) (x : Opd) (live : List Nat) (K : AExit → State → Prop) : State → Prop := fun S => nilS (x.ev S.env) neg fun b => K .normal ((S.app (some dst) ⟨.d (.bool b), [], []⟩).prune live)

/-- A loop that is come to. -/
def Loop (T : Tab) (n0 : Nat) (live : List Nat) (b : LCode) (S : State) (K : AExit → State → Prop) : Prop := vck T n0 live (.loop b) S K

section
variable {T : Tab} {n0 : Nat} {live : List Nat} {S : State} {K : AExit → State → Prop} {a b : LCode}

theorem vck_skip : vck T n0 live .skip S K ↔ K .normal S := Iff.rfl
theorem vck_ret : vck T n0 live .ret S K ↔ K .ret S := Iff.rfl
theorem vck_exit {id : Nat} : vck T n0 live (.exit id) S K ↔ K (.exit id) S := Iff.rfl
theorem vck_region {draw : Bool} {los : List LOper} {pairs : List (Nat × Nat)} :
    vck T n0 live (.region draw los pairs) S K ↔ RGk T draw (nf S).heap.length pairs (regK live K) los (reserve S (keeps los)) [] := Iff.rfl
theorem vck_nilq {los : List LOper} {neg : Bool} {dst : Nat} {x : Opd} : vck T n0 live (.nilq los neg dst x) S K ↔ RGk T false (nf S).heap.length [] (nilTo neg dst x live K) los (reserve S (keeps los)) [] := Iff.rfl
theorem nilTo_to {neg : Bool} {dst : Nat} {x : Opd} : nilTo neg dst x live K S ↔ nilG (x.ev (nf S).env) neg dst (nf S) live K := Iff.rfl
theorem nilG_d {neg : Bool} {dst : Nat} {rows : List (List DV)} {full : Bool} : nilG (.d (.list rows full)) neg dst S live K ↔ K .normal ((S.app (some dst) ⟨.d (.bool neg), [], []⟩).prune live) ∧ (rows.length = 0 → K .normal ((S.app (some dst) ⟨.d (.bool (!neg)), [], []⟩).prune live)) := Iff.rfl
theorem nilG_r {neg : Bool} {dst : Nat} {id sz row len : Nat} {room : Bool} : nilG (.ref id sz row len room) neg dst S live K ↔ K .normal ((S.app (some dst) ⟨.d (.bool neg), [], []⟩).prune live) ∧ (len = 0 → K .normal ((S.app (some dst) ⟨.d (.bool (!neg)), [], []⟩).prune live)) := Iff.rfl
theorem vck_seq : vck T n0 live (.seq a b) S K ↔ vck T n0 live a S (thenK (vckTo T n0 live b K) K) := Iff.rfl
theorem vck_cond {c : Opd} : vck T n0 live (.cond c a b) S K ↔ condG (c.ev (nf S).env) T n0 live a b c (nf S) K := Iff.rfl
theorem vck_block {id : Nat} : vck T n0 live (.block id b) S K ↔ vck T n0 live b S (blockK id K) := Iff.rfl
theorem vck_loop : vck T n0 live (.loop b) S K ↔ Loop T n0 live b (nf S) K := Iff.rfl

theorem condG_b {t : Bool} {c : Opd} : condG (.d (.bool t)) T n0 live a b c S K ↔ boolK t (vck T n0 live a (knowO S c true) K) (vck T n0 live b (knowO S c false) K) := Iff.rfl

theorem vckTo_to : vckTo T n0 live b K S ↔ vck T n0 live b S K := Iff.rfl
theorem thenK_n {f : State → Prop} : thenK f K .normal S ↔ f S := Iff.rfl
theorem thenK_x {f : State → Prop} {id : Nat} : thenK f K (.exit id) S ↔ K (.exit id) S := Iff.rfl
theorem thenK_r {f : State → Prop} : thenK f K .ret S ↔ K .ret S := Iff.rfl
theorem blockK_n {id : Nat} : blockK id K .normal S ↔ K .normal S := Iff.rfl
theorem blockK_x {id : Nat} : blockK id K (.exit id) S ↔ K .normal S := by simp [blockK]
theorem blockK_o {id j : Nat} (h : (id == j) = false) : blockK id K (.exit j) S ↔ K (.exit j) S := by
  have : ¬ j = id := fun e => by simp [e] at h
  simp [blockK, this]
theorem blockK_r {id : Nat} : blockK id K .ret S ↔ K .ret S := Iff.rfl
theorem regK_to : regK live K S ↔ K .normal (S.prune live) := Iff.rfl
theorem retK_r {rs : List LRes} {Post : AV → Heap → Prop} : retK rs Post .ret S ↔ resQ (nf S) rs ∧ Post (resV (nf S) rs) (nf S).heap := Iff.rfl
theorem retK_n {rs : List LRes} {Post : AV → Heap → Prop} : retK rs Post .normal S ↔ resQ (nf S) rs ∧ Post (resV (nf S) rs) (nf S).heap := Iff.rfl
theorem loopV_n {I : Nat → State → Prop} {k : Nat} : loopV n0 K I k .normal S ↔ ∃ k', k' < k ∧ Wk n0 (I k') (nf S) := Iff.rfl
theorem loopV_x {I : Nat → State → Prop} {k id : Nat} : loopV n0 K I k (.exit id) S ↔ Wk n0 (K (.exit id)) (nf S) := Iff.rfl
theorem loopV_r {I : Nat → State → Prop} {k : Nat} : loopV n0 K I k .ret S ↔ Wk n0 (K .ret) (nf S) := Iff.rfl

end

section
variable {T : Tab} {base : Nat} {pairs : List (Nat × Nat)} {K : State → Prop} {S : State} {acc : Feet} {dst : Option Nat} {op : LOp} {os : List LOper} {draw : Bool}
theorem RGk_end_f : RGk T false base pairs K [] S acc ↔ K S := Iff.rfl
theorem RGk_end_t : RGk T true base pairs K [] S acc ↔ chk pairs acc.reverse = true ∧ K S := Iff.rfl
theorem RGk_op : RGk T draw base pairs K (⟨dst, op, none⟩ :: os) S acc ↔ stepK (evT T draw base S.env S.heap op) (opK T draw base pairs K dst os S acc) := Iff.rfl
theorem RGk_guard {g : Nat} {want : Bool} : RGk T draw base pairs K (⟨dst, op, some (g, want)⟩ :: os) S acc ↔ guardG (S.env.get g) g want T draw base pairs K dst op os S acc := Iff.rfl
theorem opK_to {δ : Delta} : opK T draw base pairs K dst os S acc δ ↔ RGk T draw base pairs K os (S.app dst δ) (feet draw δ.foot acc) := Iff.rfl
theorem guardG_t {b : Bool} {g : Nat} : guardG (.d (.bool b)) g true T draw base pairs K dst op os S acc ↔
    boolK b (stepK (evT T draw base (S.know g true).env S.heap op) (opK T draw base pairs K dst os (S.know g true) acc)) (RGk T draw base pairs K os ((S.know g false).app dst skipD) (feet draw ([], []) acc)) := Iff.rfl
theorem guardG_f {b : Bool} {g : Nat} : guardG (.d (.bool b)) g false T draw base pairs K dst op os S acc ↔
    boolK b (RGk T draw base pairs K os ((S.know g true).app dst skipD) (feet draw ([], []) acc)) (stepK (evT T draw base (S.know g false).env S.heap op) (opK T draw base pairs K dst os (S.know g false) acc)) := And.comm
theorem guardG_no {g : Nat} {want : Bool} : guardG (.tup []) g want T draw base pairs K dst op os S acc ↔ RGk T draw base pairs K os (S.app dst skipD) (feet draw ([], []) acc) := Iff.rfl
theorem feet_f {f : List Nat × List Nat} : feet false f acc = [] := rfl
theorem feet_t {f : List Nat × List Nat} : feet true f acc = f :: acc := rfl
theorem foot_mk {x : AV} {ups : List (Nat × HO)} {rd : List Nat} : Delta.foot ⟨x, ups, rd⟩ = (rd, ups.map (·.1)) := rfl
theorem get_hit {t : Nat} {x : AV} {e : Env} : Env.get ((t, x) :: e) t = x := if_pos rfl
theorem get_next {t t' : Nat} {x : AV} {e : Env} (h : (t == t') = false) : Env.get ((t, x) :: e) t' = Env.get e t' := if_neg (by simpa using h)
theorem get_nil {t : Nat} : Env.get [] t = .undef := rfl
theorem app_to {t : Nat} {e : Env} {H : Heap} {x : AV} {rd : List Nat} : State.app ⟨e, H⟩ (some t) ⟨x, [], rd⟩ = ⟨(t, x) :: e, H⟩ := rfl
theorem app_no {e : Env} {H : Heap} {x : AV} {rd : List Nat} : State.app ⟨e, H⟩ none ⟨x, [], rd⟩ = ⟨e, H⟩ := rfl
theorem app_up {e : Env} {H : Heap} {x : AV} {rd : List Nat} {i : Nat} {o : HO} {ups : List (Nat × HO)} : State.app ⟨e, H⟩ dst ⟨x, (i, o) :: ups, rd⟩ = State.app ⟨e, H.set i o⟩ dst ⟨x, ups, rd⟩ := rfl
theorem app_skip {t : Nat} {e : Env} {H : Heap} : State.app ⟨e, H⟩ (some t) skipD = ⟨(t, .tup []) :: e, H⟩ := rfl
theorem app_skipn {e : Env} {H : Heap} : State.app ⟨e, H⟩ none skipD = ⟨e, H⟩ := rfl
theorem know_mk {e : Env} {H : Heap} {g : Nat} {b : Bool} : State.know ⟨e, H⟩ g b = ⟨(g, .d (.bool b)) :: e, H⟩ := rfl
theorem knowO_t {g : Nat} {b : Bool} : knowO S (.tmp g) b = S.know g b := rfl
theorem knowO_c {v : AV} {b : Bool} : knowO S (.cst v) b = S := rfl
theorem at_zero {o : HO} {H : Heap} : Heap.at (o :: H) 0 = o := rfl
theorem at_succ {o : HO} {H : Heap} {n : Nat} : Heap.at (o :: H) (n + 1) = Heap.at H n := rfl
end

end Go.Ago
