/- Power: the rules that are used until nothing more follows. Conditions: none. -/
import Derived.Test.YtkcdbaagjhgmcaaDoorAgoP5
import Derived.Test.YtkcdbaagjhgmcaaDoorAgoP4
set_option maxRecDepth 100000
set_option linter.unusedSimpArgs false
set_option linter.unusedVariables false
namespace Go.Ago

/-! ### Relations of n rows -/
structure Sq (n : Nat) (r : List W) : Prop where
  of ::
  eq : r = mkR n (hasN r)
theorem Sq.len {n : Nat} {r : List W} (h : Sq n r) : r.length = n := by
  rw [h.eq, Z53]
theorem Sq.mk {n : Nat} (hn : n ≤ 64) (p : Nat → Nat → Bool) : Sq n (mkR n p) := by
  constructor
  apply Z4h
  intro i k hi hk
  rw [hasN_mk hn]; simp [hi, hk]
theorem Sq.ext {n : Nat} {a b : List W} (ha : Sq n a) (hb : Sq n b) (h : ∀ i k, i < n → k < n → hasN a i k = hasN b i k) : a = b := by
  rw [ha.eq, hb.eq]
  exact Z4h h
theorem hasN_off64 {r : List W} {i k : Nat} (h : hasN r i k = true) : i < 64 ∧ k < 64 := by
  have := hasN_lt h; have := szR_le r; omega
theorem Sq.lt {n : Nat} {r : List W} (hs : Sq n r) {i k : Nat} (h : hasN r i k = true) : i < n ∧ k < n := by
  have := hasN_lt h; have := szR_len r; rw [hs.len] at this; omega
theorem mxR_eq {n : Nat} {a b : List W} (ha : a.length = n) (hb : b.length = n) (hn : n ≤ 64) : mxR a b = n := by unfold mxR szR; omega
theorem Sq.lay2 {n : Nat} {q : Bool → Bool → Bool} {a b : List W} (ha : a.length = n) (hb : b.length = n) (hn : n ≤ 64) : Sq n (lay2 q a b) := by
  unfold Go.Ago.lay2; rw [mxR_eq ha hb hn]; exact Sq.mk hn _
theorem Sq.thenG {n : Nat} {a b : List W} (ha : a.length = n) (hb : b.length = n) (hn : n ≤ 64) : Sq n (thenG a b) := by
  unfold Go.Ago.thenG; rw [mxR_eq ha hb hn]; exact Sq.mk hn _
theorem hasN_lay2 {q : Bool → Bool → Bool} (hq : q false false = false) (a b : List W) (i k : Nat) : hasN (lay2 q a b) i k = q (hasN a i k) (hasN b i k) := by
  unfold lay2
  rw [hasN_mk (mxR_le a b)]
  by_cases h1 : i < mxR a b
  · by_cases h2 : k < mxR a b
    · simp [h1, h2]
    · have e1 : hasN a i k = false := hasN_off (by unfold mxR at h2; omega)
      have e2 : hasN b i k = false := hasN_off (by unfold mxR at h2; omega)
      rw [e1, e2, hq]; simp [h2]
  · have e1 : hasN a i k = false := hasN_off1 (by unfold mxR at h1; omega)
    have e2 : hasN b i k = false := hasN_off1 (by unfold mxR at h1; omega)
    rw [e1, e2, hq]; simp [h1]
theorem hasN_or (a b : List W) (i k : Nat) : hasN (lay2 qOr a b) i k = (hasN a i k || hasN b i k) := hasN_lay2 rfl a b i k
theorem hasN_then (a b : List W) (i k : Nat) : hasN (thenG a b) i k = thenP a b i k := by
  unfold thenG
  rw [hasN_mk (mxR_le a b)]
  cases h : thenP a b i k with
  | false => simp
  | true =>
    obtain ⟨j, h1, h2⟩ := thenP_iff.1 h
    have := hasN_lt h1; have := hasN_lt h2
    have e1 : i < mxR a b := by unfold mxR; omega
    have e2 : k < mxR a b := by unfold mxR; omega
    simp [e1, e2]
def orL (l : List (List W)) : List W := l.foldl (lay2 qOr) []
theorem hasN_nil (i k : Nat) : hasN [] i k = false := by unfold hasN szR; simp
theorem hasN_fold (i k : Nat) : ∀ (l : List (List W)) (o : List W), hasN (l.foldl (lay2 qOr) o) i k = (hasN o i k || l.any fun r => hasN r i k) := by
  intro l
  induction l with
  | nil => intro o; simp
  | cons r l ih => intro o; rw [List.foldl_cons, ih, hasN_or, List.any_cons, Bool.or_assoc]
theorem hasN_orL (l : List (List W)) (i k : Nat) : hasN (orL l) i k = l.any fun r => hasN r i k := by
  unfold orL; rw [hasN_fold, hasN_nil, Bool.false_or]
theorem Sq.fold {n : Nat} (hn : n ≤ 64) : ∀ (l : List (List W)) (o : List W), Sq n o → (∀ r ∈ l, r.length = n) → Sq n (l.foldl (Go.Ago.lay2 qOr) o) := by
  intro l
  induction l with
  | nil => exact fun o ho _ => ho
  | cons r l ih => exact fun o ho hl => ih _ (Sq.lay2 ho.len (hl r (by simp)) hn) (fun x hx => hl x (by simp [hx]))
theorem mxR_nil {n : Nat} {r : List W} (h : r.length = n) (hn : n ≤ 64) : mxR [] r = n := by unfold mxR szR; simp; omega
theorem Sq.orL {n : Nat} (hn : n ≤ 64) {r : List W} {l : List (List W)} (h : r.length = n) (hl : ∀ x ∈ l, x.length = n) : Sq n (orL (r :: l)) := by
  unfold Go.Ago.orL
  rw [List.foldl_cons]
  refine Sq.fold hn l _ ?_ hl
  unfold Go.Ago.lay2; rw [mxR_nil h hn]; exact Sq.mk hn _
theorem orG_orL (l : List (List W × Bool)) : orG l = orL (l.map (·.1)) := by unfold orG orL; rw [List.foldl_map]

/-! ### all, of some -/
theorem at_pall2 (a b : List W) (f1 f2 f : Bool) : sp_pall.at [.d (.list [[.list (a.map rowW) f1], [.list (b.map rowW) f2]] f)] = .data (a.length ≤ 64 ∧ b.length ≤ 64) (.d (.list ((orL [a, b]).map rowW) false)) false := by
  refine (at_pall [(a, f1), (b, f2)] f).trans ?_
  rw [orG_orL]
  congr 1
  apply propext; simp
theorem at_pall3 (a b c : List W) (f1 f2 f3 f : Bool) : sp_pall.at [.d (.list [[.list (a.map rowW) f1], [.list (b.map rowW) f2], [.list (c.map rowW) f3]] f)] = .data (a.length ≤ 64 ∧ b.length ≤ 64 ∧ c.length ≤ 64) (.d (.list ((orL [a, b, c]).map rowW) false)) false := by
  refine (at_pall [(a, f1), (b, f2), (c, f3)] f).trans ?_
  rw [orG_orL]
  congr 1
  apply propext; simp
theorem at_pall4 (a b c d : List W) (f1 f2 f3 f4 f : Bool) : sp_pall.at [.d (.list [[.list (a.map rowW) f1], [.list (b.map rowW) f2], [.list (c.map rowW) f3], [.list (d.map rowW) f4]] f)] = .data (a.length ≤ 64 ∧ b.length ≤ 64 ∧ c.length ≤ 64 ∧ d.length ≤ 64) (.d (.list ((orL [a, b, c, d]).map rowW) false)) false := by
  refine (at_pall [(a, f1), (b, f2), (c, f3), (d, f4)] f).trans ?_
  rw [orG_orL]
  congr 1
  apply propext; simp
theorem at_pall5 (a b c d e : List W) (f1 f2 f3 f4 f5 f : Bool) : sp_pall.at [.d (.list [[.list (a.map rowW) f1], [.list (b.map rowW) f2], [.list (c.map rowW) f3], [.list (d.map rowW) f4], [.list (e.map rowW) f5]] f)] = .data (a.length ≤ 64 ∧ b.length ≤ 64 ∧ c.length ≤ 64 ∧ d.length ≤ 64 ∧ e.length ≤ 64) (.d (.list ((orL [a, b, c, d, e]).map rowW) false)) false := by
  refine (at_pall [(a, f1), (b, f2), (c, f3), (d, f4), (e, f5)] f).trans ?_
  rw [orG_orL]
  congr 1
  apply propext; simp

/-! ### Until nothing more follows -/
def fixF {α : Type} [DecidableEq α] (f : α → α) : Nat → α → α
  | 0, s => s
  | k + 1, s => if f s = s then s else fixF f k (f s)
section
variable {α : Type} [DecidableEq α] {f : α → α} {Inv : α → Prop} {μ : α → Nat} {B : Nat}
theorem fixF_fuel (hi : ∀ s, Inv s → Inv (f s)) (hb : ∀ s, Inv s → μ s ≤ B) (hm : ∀ s, Inv s → f s ≠ s → μ s < μ (f s)) :
    ∀ (k k' : Nat) (s : α), Inv s → B - μ s < k → B - μ s < k' → fixF f k s = fixF f k' s := by
  intro k
  induction k with
  | zero => intro k' s _ h; omega
  | succ k ih =>
    intro k' s hs h1 h2
    cases k' with
    | zero => omega
    | succ k' =>
      simp only [fixF]
      split
      · rfl
      · rename_i hne
        have := hm s hs hne
        have := hb (f s) (hi s hs)
        exact ih k' (f s) (hi s hs) (by omega) (by omega)
theorem fixF_step (hi : ∀ s, Inv s → Inv (f s)) (hb : ∀ s, Inv s → μ s ≤ B) (hm : ∀ s, Inv s → f s ≠ s → μ s < μ (f s)) {s : α} (hs : Inv s) : fixF f (B + 1) s = fixF f (B + 1) (f s) := by
  by_cases h : f s = s
  · rw [h]
  · rw [show fixF f (B + 1) s = fixF f B (f s) by rw [fixF, if_neg h]]
    have := hm s hs h
    have := hb (f s) (hi s hs)
    exact fixF_fuel hi hb hm B (B + 1) (f s) (hi s hs) (by omega) (by omega)
theorem fixF_end {k : Nat} {s : α} (h : f s = s) : fixF f (k + 1) s = s := by rw [fixF, if_pos h]
/-- What holds at first and is kept holds at the end. -/
theorem fixF_keep {Q : α → Prop} (hq : ∀ s, Q s → Q (f s)) : ∀ (k : Nat) (s : α), Q s → Q (fixF f k s) := by
  intro k
  induction k with
  | zero => exact fun s h => h
  | succ k ih => intro s h; rw [fixF]; split; exact h; exact ih _ (hq s h)
theorem fixF_fix (hi : ∀ s, Inv s → Inv (f s)) (hb : ∀ s, Inv s → μ s ≤ B) (hm : ∀ s, Inv s → f s ≠ s → μ s < μ (f s)) : ∀ (k : Nat) (s : α), Inv s → B - μ s < k → f (fixF f k s) = fixF f k s := by
  intro k
  induction k with
  | zero => intro s _ h; omega
  | succ k ih =>
    intro s hs h
    rw [fixF]
    split
    · assumption
    · rename_i hne
      have := hm s hs hne
      have := hb (f s) (hi s hs)
      exact ih _ (hi s hs) (by omega)
end

/-! ### How many pairs -/
def cntR (r : List W) : Nat := (List.range 4096).countP fun t => hasN r (t / 64) (t % 64)
theorem cntR_le (r : List W) : cntR r ≤ 4096 := by
  unfold cntR; exact Nat.le_trans List.countP_le_length (by simp)
theorem cntR_mono {a b : List W} (h : ∀ i k, hasN a i k = true → hasN b i k = true) : cntR a ≤ cntR b := by
  unfold cntR; exact List.countP_mono_left fun t _ ht => h _ _ ht
theorem countP_lt {p q : Nat → Bool} : ∀ (l : List Nat), (∀ t ∈ l, p t = true → q t = true) → (∃ t ∈ l, p t = false ∧ q t = true) → l.countP p < l.countP q := by
  intro l
  induction l with
  | nil => rintro _ ⟨t, h, _⟩; simp at h
  | cons a l ih =>
    rintro h ⟨t, ht, h1, h2⟩
    rw [List.countP_cons, List.countP_cons]
    have hm : l.countP p ≤ l.countP q := List.countP_mono_left fun t ht => h t (by simp [ht])
    rcases List.mem_cons.1 ht with rfl | ht
    · rw [h1, h2]; simp; omega
    · have := ih (fun t ht => h t (by simp [ht])) ⟨t, ht, h1, h2⟩
      have h3 := h a (by simp)
      cases hp : p a with
      | false => simp; omega
      | true => rw [h3 hp]; simp; omega
theorem cntR_lt {n : Nat} {a b : List W} (ha : Sq n a) (hb : Sq n b) (h : ∀ i k, hasN a i k = true → hasN b i k = true) (hne : b ≠ a) : cntR a < cntR b := by
  unfold cntR
  refine countP_lt _ (fun t _ ht => h _ _ ht) ?_
  apply Classical.byContradiction
  intro hno
  apply hne
  refine hb.ext ha fun i k _ _ => ?_
  cases e : hasN b i k with
  | false =>
    cases e2 : hasN a i k with
    | false => rfl
    | true => rw [h i k e2] at e; cases e
  | true =>
    cases e2 : hasN a i k with
    | true => rfl
    | false =>
      exfalso; apply hno
      obtain ⟨h1, h2⟩ := hasN_off64 e
      refine ⟨i * 64 + k, by simp; omega, ?_, ?_⟩
      · rw [show (i * 64 + k) / 64 = i by omega, show (i * 64 + k) % 64 = k by omega]; exact e2
      · rw [show (i * 64 + k) / 64 = i by omega, show (i * 64 + k) % 64 = k by omega]; exact e

/-! ### ppo -/
structure P4 where
  ii : List W
  ci : List W
  ic : List W
  cc : List W
  deriving DecidableEq
def stepP (s : P4) : P4 := ⟨orL [s.ii, s.ci, thenG s.ic s.ci, thenG s.ii s.ii], orL [s.ci, thenG s.ci s.ii, thenG s.cc s.ci], orL [s.ic, s.ii, s.cc, thenG s.ic s.cc, thenG s.ii s.ic], orL [s.cc, s.ci, thenG s.ci s.ic, thenG s.cc s.cc]⟩
structure P4.Ok (n : Nat) (s : P4) : Prop where
  ii : Sq n s.ii
  ci : Sq n s.ci
  ic : Sq n s.ic
  cc : Sq n s.cc
theorem Sq.or3 {n : Nat} (hn : n ≤ 64) {a b c : List W} (ha : a.length = n) (hb : b.length = n) (hc : c.length = n) : Sq n (Go.Ago.orL [a, b, c]) :=
  Sq.orL hn ha (fun x hx => by simp only [List.mem_cons, List.not_mem_nil, or_false] at hx; rcases hx with rfl | rfl <;> assumption)
theorem Sq.or4 {n : Nat} (hn : n ≤ 64) {a b c d : List W} (ha : a.length = n) (hb : b.length = n) (hc : c.length = n) (hd : d.length = n) : Sq n (Go.Ago.orL [a, b, c, d]) :=
  Sq.orL hn ha (fun x hx => by simp only [List.mem_cons, List.not_mem_nil, or_false] at hx; rcases hx with rfl | rfl | rfl <;> assumption)
theorem Sq.or5 {n : Nat} (hn : n ≤ 64) {a b c d e : List W} (ha : a.length = n) (hb : b.length = n) (hc : c.length = n) (hd : d.length = n) (he : e.length = n) : Sq n (Go.Ago.orL [a, b, c, d, e]) :=
  Sq.orL hn ha (fun x hx => by simp only [List.mem_cons, List.not_mem_nil, or_false] at hx; rcases hx with rfl | rfl | rfl | rfl <;> assumption)
theorem Sq.or2 {n : Nat} (hn : n ≤ 64) {a b : List W} (ha : a.length = n) (hb : b.length = n) : Sq n (Go.Ago.orL [a, b]) :=
  Sq.orL hn ha (fun x hx => by simp only [List.mem_cons, List.not_mem_nil, or_false] at hx; subst hx; exact hb)
theorem then_len {n : Nat} (hn : n ≤ 64) {a b : List W} (ha : Sq n a) (hb : Sq n b) : (thenG a b).length = n := (Sq.thenG ha.len hb.len hn).len
attribute [local irreducible] orL thenG lay2 whereG keepG mkR cntR
theorem stepP_ok {n : Nat} (hn : n ≤ 64) {s : P4} (h : s.Ok n) : (stepP s).Ok n where
  ii := Sq.or4 hn h.ii.len h.ci.len (then_len hn h.ic h.ci) (then_len hn h.ii h.ii)
  ci := Sq.or3 hn h.ci.len (then_len hn h.ci h.ii) (then_len hn h.cc h.ci)
  ic := Sq.or5 hn h.ic.len h.ii.len h.cc.len (then_len hn h.ic h.cc) (then_len hn h.ii h.ic)
  cc := Sq.or4 hn h.cc.len h.ci.len (then_len hn h.ci h.ic) (then_len hn h.cc h.cc)
def cnt4 (s : P4) : Nat := cntR s.ii + cntR s.ci + cntR s.ic + cntR s.cc
theorem cnt4_le (s : P4) : cnt4 s ≤ 16384 := by
  have := cntR_le s.ii; have := cntR_le s.ci; have := cntR_le s.ic; have := cntR_le s.cc; unfold cnt4; omega
theorem orL_head {r : List W} {l : List (List W)} {i k : Nat} (h : hasN r i k = true) : hasN (orL (r :: l)) i k = true := by
  rw [hasN_orL, List.any_cons, h]; rfl
theorem stepP_more {n : Nat} (hn : n ≤ 64) {s : P4} (h : s.Ok n) (hne : stepP s ≠ s) : cnt4 s < cnt4 (stepP s) := by
  have h' := stepP_ok hn h
  have m1 : cntR s.ii ≤ cntR (stepP s).ii := cntR_mono fun i k => orL_head
  have m2 : cntR s.ci ≤ cntR (stepP s).ci := cntR_mono fun i k => orL_head
  have m3 : cntR s.ic ≤ cntR (stepP s).ic := cntR_mono fun i k => orL_head
  have m4 : cntR s.cc ≤ cntR (stepP s).cc := cntR_mono fun i k => orL_head
  by_cases e1 : (stepP s).ii = s.ii
  · by_cases e2 : (stepP s).ci = s.ci
    · by_cases e3 : (stepP s).ic = s.ic
      · by_cases e4 : (stepP s).cc = s.cc
        · exact absurd (by cases s; cases hs : stepP _; simp_all) hne
        · have := cntR_lt h.cc h'.cc (fun i k => orL_head) e4
          unfold cnt4; omega
      · have := cntR_lt h.ic h'.ic (fun i k => orL_head) e3
        unfold cnt4; omega
    · have := cntR_lt h.ci h'.ci (fun i k => orL_head) e2
      unfold cnt4; omega
  · have := cntR_lt h.ii h'.ii (fun i k => orL_head) e1
    unfold cnt4; omega
def limP (s : P4) : P4 := fixF stepP 16385 s
theorem limP_step {n : Nat} (hn : n ≤ 64) {s : P4} (h : s.Ok n) : limP s = limP (stepP s) :=
  fixF_step (Inv := P4.Ok n) (μ := cnt4) (B := 16384) (fun s hs => stepP_ok hn hs) (fun s _ => cnt4_le s) (fun s hs hne => stepP_more hn hs hne) h
theorem limP_fix {n : Nat} (hn : n ≤ 64) {s : P4} (h : s.Ok n) : stepP (limP s) = limP s :=
  fixF_fix (Inv := P4.Ok n) (μ := cnt4) (B := 16384) (fun s hs => stepP_ok hn hs) (fun s _ => cnt4_le s) (fun s hs hne => stepP_more hn hs hne) _ _ h (by have := cnt4_le s; omega)

theorem eqT {p : Prop} (h : p) : p = True := propext ⟨fun _ => trivial, fun _ => h⟩
theorem le_M {n : Nat} (h : n ≤ 64) : n ≤ maxLen := by unfold maxLen; omega
theorem lay2_64 (q : Bool → Bool → Bool) (a b : List W) : ((lay2 q a b).length ≤ 64) = True := eqT (by rw [lay2_len]; exact mxR_le _ _)
theorem lay2_M (q : Bool → Bool → Bool) (a b : List W) : ((lay2 q a b).length ≤ maxLen) = True := eqT (le_M (by rw [lay2_len]; exact mxR_le _ _))
theorem thenG_64 (a b : List W) : ((thenG a b).length ≤ 64) = True := eqT (by unfold thenG; rw [Z53]; exact mxR_le _ _)
theorem thenG_M (a b : List W) : ((thenG a b).length ≤ maxLen) = True := eqT (le_M (by unfold thenG; rw [Z53]; exact mxR_le _ _))
theorem whereG_len (l : List NodeG) (q : NodeG → NodeG → Bool) (r : List W) : (whereG l q r).length = r.length := by unfold whereG; rw [Z53]
theorem keepG_len (r : List W) (a b : W) : (keepG r a b).length = r.length := by unfold keepG; rw [mapW_len]
theorem orL_le (l : List (List W)) : (orL l).length ≤ 64 := by
  have := orG_len (l.map fun x => (x, false)); rw [orG_orL, List.map_map] at this
  rwa [show ((fun x : List W × Bool => x.1) ∘ fun x : List W => (x, false)) = id from rfl, List.map_id] at this
theorem orL_64 (l : List (List W)) : ((orL l).length ≤ 64) = True := eqT (orL_le l)
theorem orL_M (l : List (List W)) : ((orL l).length ≤ maxLen) = True := eqT (le_M (orL_le l))
structure MG.Ok (m : MG) : Prop where
  n : m.nodes.length ≤ 64
  po : Sq m.nodes.length m.po
  rf : Sq m.nodes.length m.rf
  co : Sq m.nodes.length m.co
  fr : Sq m.nodes.length m.fr
  addr : Sq m.nodes.length m.addr
  data : Sq m.nodes.length m.data
  ctrl : Sq m.nodes.length m.ctrl
  fenced : Sq m.nodes.length m.fenced
  sync : Sq m.nodes.length m.sync
  lwsync : Sq m.nodes.length m.lwsync
  pairs : Sq m.nodes.length m.pairs
def MG.ext (m : MG) (r : List W) : List W := whereG m.nodes apartQ r
def MG.poloc (m : MG) : List W := whereG m.nodes locQ m.po
def MG.dd (m : MG) : List W := lay2 qOr m.addr m.data
def MG.start (m : MG) : P4 := ⟨orL [m.dd, lay2 qMinus m.rf (m.ext m.rf), lay2 qAnd m.poloc (thenG (m.ext m.fr) (m.ext m.rf))],
  orL [m.fenced, lay2 qAnd m.poloc (thenG (m.ext m.co) (m.ext m.rf))],
  List.replicate m.nodes.length 0#64,
  orL [m.dd, m.poloc, m.ctrl, thenG m.addr m.po]⟩
def MG.ppo (m : MG) : List W := lay2 qOr (keepG (limP m.start).ii m.read m.read) (keepG (limP m.start).ic m.read m.write)
def sp_ppo : Sp := ⟨MG, fun m => [.dptr m.cells 0], fun m => .data m.Ok (.d (.list (m.ppo.map rowW) false)) false⟩
theorem at_ppo (m : MG) : sp_ppo.at [.dptr m.cells 0] = .data m.Ok (.d (.list (m.ppo.map rowW) false)) false :=
  Sp.at_enc (s := sp_ppo) (fun (x y : MG) h => by
    simp only [sp_ppo, List.cons.injEq, AV.dptr.injEq, and_true] at h
    exact MG.cells_inj _ _ h) m
theorem body_power_model_ppo {T : Tab} {n1 n2 n3 n4 n5 n6 n7 n8 n9 : Nat} (k1 : Knows T n1 (sp_lay2 qOr).dat) (k2 : Knows T n2 (sp_lay2 qAnd).dat) (k3 : Knows T n3 sp_Then.dat) (k4 : Knows T n4 sp_ext) (k5 : Knows T n5 sp_poloc)
    (k6 : Knows T n6 (sp_lay2 qMinus).dat) (k7 : Knows T n7 sp_keep) (k8 : Knows T n8 sp_pall) (k9 : Knows T n9 sp_eqW) :
    sp_ppo.Body T V_power_model_ppo (L_power_model_ppo n1 n2 n3 n4 n5 n6 n7 n8 n9) R_power_model_ppo := by
  have F1 := k1.F; have G1 := k1.G; have F2 := k2.F; have G2 := k2.G; have F3 := k3.F; have G3 := k3.G; have F4 := k4.F; have G4 := k4.G; have F5 := k5.F; have G5 := k5.G
  have F6 := k6.F; have G6 := k6.G; have F7 := k7.F; have G7 := k7.G; have F8 := k8.F; have G8 := k8.G; have F9 := k9.F; have G9 := k9.G
  rintro (m : MG) hm
  have hm : m.Ok := hm
  refine ⟨rfl, ?_⟩
  unfold V_power_model_ppo L_power_model_ppo R_power_model_ppo
  simp only [↓Z1d, ↓Z2b, ↓Z1t, ↓Z05, ↓Z2q, ↓Z2k, Z49, Z4a, ↓Z20, ↓Z1c, ↓Z0i, ↓Z1u, ↓Z12, ↓Z1z, ↓Z2z, ↓Z30, ↓Z23, ↓Z1s, ↓Z2d, ↓Z28, ↓Z1y, ↓Z3m, ↓Z46, ↓Z3e, ↓Z3g, ↓Z3f, ↓Z3v, ↓Z3q, ↓Z44, ↓Z0j, ↓Z0b, ↓Z16, ↓Z0h, ↓Z1g, Z4d, Z0a, Z18, Z32, Z1a, Z35, evN, Z2s, Z1x, Z34, Z41, Z1w, Z19, Z1v, Z2p, Z2a, Z29, Z1e, Z2x, evT, Opd.ev, Z04, Z01, Z33, Z3x, Z3o, Z26, Z1f, Z2w, Z2y, Z3c, Z22, Z14, Z3r, LOp.isNew, State.prune, Z3s, Z3j, AV.leaf, Heap.at, Z0g, Z08, Z1m, Z0e, Z02, Z4x, Z4t, rowW, Z24, Z2t, Z1p, Z1b, rowB, Z2v, Z2u, rowN, Z4b, Z3h, Z17, Z15, w_or, Z4r, Z2r, Z45, Z50, Z42, Z4s, Z47, Z4z, Z4y, Z4u, Z4v, Z4w, w_eq, Bool.decide_eq_true, Z3b, Z3a, Z39, Z2f, Z1h, Z03, Z09, Z11, Z00, Z21, rowI, RatG.row, LocG.row, ActG.row, StepG.row, StampG.row, ActG.av, ActG.eta, RatG.eta, LocG.eta, beq_true, beq_false, Z2j, Z2o, Z2c, Z2l, Z10, Z0n, Z0y, Z0z, Z0m, Z0l, Z0c, List.length_set, List.length_replicate, Z06, Int.reduceToNat, Z4o, Z27, Z4e, Src.all, Src.len, Src.leaf, Src.leafN, Z37, Z3z, Z4k, Z0k, Z0o, Z0p, Z0q, Z0r, Z0s, Z0t, Z0u, Z4m, drows, evMk, List.length_map, Z1r, Z1q, List.take_length, List.take_left, List.length_append, Nat.le_add_right, ite_self, List.take_of_length_le, Z38, Z4j, Z3w, Option.isSome_none, Option.isSome_some, Nat.sub_zero, Z4i, Z4p, Z4g, evUn, Z0v, Z13, binT, binQ, chk, Z3t, List.contains_cons, List.contains_nil, Bool.or_false, Bool.false_or, Bool.and_self, resQ, resV, resT, Z4q, Z2e, Z43, Z3l, fnOf, Z3k, isD, HO.drow, Z4f, Z3u, evEq, eqV, eqK, eqC1, Z40, Z3y, Z36, Z31, Z48, Z3d, Z2i, Z1k, Z2h, Z1j, Z2g, Z1i, Z1l, Z0w, Z0x, Z0d, List.mem_cons, List.not_mem_nil, or_false, forall_eq, putRow, Z3n, Z25, RetS, RetF, RetD, AV.frz, AV.frzL, AV.freshP, AV.freshL, DV.less, Z2m, Z1n, Z2n, Z1o, Z0f, Z07, Option.some.injEq, AV.tup.injEq, AV.agg.injEq, List.cons.injEq, DV.list.injEq, List.isEmpty_nil, Nat.le_refl, AV.d.injEq, DV.int.injEq, DV.bool.injEq, ↓reduceIte, Nat.reduceEqDiff, Nat.reduceAdd, Nat.reduceBEq, List.length_cons, List.length_nil, List.replicate_succ, List.replicate_zero, List.nil_append, List.cons_append, List.append_nil, List.foldl_cons, List.foldl_nil, List.map_cons, List.map_nil, List.all_cons, List.all_nil, List.set_cons_zero, List.set_cons_succ, List.getD_cons_zero, List.getD_cons_succ, List.drop_zero, List.drop_succ_cons, List.take_succ_cons, List.take_zero, List.flatten_cons, List.flatten_nil, Bool.true_and, Bool.and_true, Bool.not_true, Bool.not_false, true_and, and_true, true_or, or_true, Option.bind_some, Option.map_some, decide_true, decide_false, beq_self_eq_true, true_implies, false_implies, implies_true, not_true_eq_false, not_false_eq_true, and_self, Bool.and_false, Bool.false_and, Nat.reduceLT, Nat.reduceLeDiff, List.reverse_cons, List.reverse_nil, Nat.zero_add, Nat.add_zero, Bool.false_eq_true, List.getElem?_cons_zero, Nat.reduceMul, Nat.mul_one, sp_ppo, F1, G1, F2, G2, F3, G3, F4, G4, F5, G5, F6, G6, F7, G7, F8, G8, F9, G9, Sp.at_dat, SpecR.dat_rows, at_lay2, at_Then, at_ext, at_poloc, at_keep, at_pall2, at_pall3, at_pall4, at_pall5, at_eqW,
    cells_len, cells_0, cells_1, cells_2, cells_3, cells_4, cells_5, cells_6, cells_7, cells_8, cells_9, cells_10, cells_11, cells_12, cells_13, cells_14]
  have hn := hm.n
  simp only [lay2_64, lay2_M, thenG_64, thenG_M, whereG_len, orL_64, orL_M, hm.po.len, hm.rf.len, hm.co.len, hm.fr.len, hm.addr.len, hm.data.len, hm.ctrl.len, hm.fenced.len, eqT hm.n, eqT (le_M hm.n), Nat.le_refl, and_true, true_and]
  refine ⟨⟨by omega, by omega, roomy_of (by omega) (by omega)⟩, ?_⟩
  refine Loop.ices [17] (Nat.zero_le _) ?_
  simp only [↓Z1d, ↓Z2b, ↓Z1t, ↓Z05, ↓Z2q, ↓Z2k, Z49, Z4a, ↓Z20, ↓Z1c, ↓Z0i, ↓Z1u, ↓Z12, ↓Z1z, ↓Z2z, ↓Z30, ↓Z23, ↓Z1s, ↓Z2d, ↓Z28, ↓Z1y, ↓Z3m, ↓Z46, ↓Z3e, ↓Z3g, ↓Z3f, ↓Z3v, ↓Z3q, ↓Z44, ↓Z0j, ↓Z0b, ↓Z16, ↓Z0h, ↓Z1g, Z4d, Z0a, Z18, Z32, Z1a, Z35, evN, Z2s, Z1x, Z34, Z41, Z1w, Z19, Z1v, Z2p, Z2a, Z29, Z1e, Z2x, evT, Opd.ev, Z04, Z01, Z33, Z3x, Z3o, Z26, Z1f, Z2w, Z2y, Z3c, Z22, Z14, Z3r, LOp.isNew, State.prune, Z3s, Z3j, AV.leaf, Heap.at, Z0g, Z08, Z1m, Z0e, Z02, Z4x, Z4t, rowW, Z24, Z2t, Z1p, Z1b, rowB, Z2v, Z2u, rowN, Z4b, Z3h, Z17, Z15, w_or, Z4r, Z2r, Z45, Z50, Z42, Z4s, Z47, Z4z, Z4y, Z4u, Z4v, Z4w, w_eq, Bool.decide_eq_true, Z3b, Z3a, Z39, Z2f, Z1h, Z03, Z09, Z11, Z00, Z21, rowI, RatG.row, LocG.row, ActG.row, StepG.row, StampG.row, ActG.av, ActG.eta, RatG.eta, LocG.eta, beq_true, beq_false, Z2j, Z2o, Z2c, Z2l, Z10, Z0n, Z0y, Z0z, Z0m, Z0l, Z0c, List.length_set, List.length_replicate, Z06, Int.reduceToNat, Z4o, Z27, Z4e, Src.all, Src.len, Src.leaf, Src.leafN, Z37, Z3z, Z4k, Z0k, Z0o, Z0p, Z0q, Z0r, Z0s, Z0t, Z0u, Z4m, drows, evMk, List.length_map, Z1r, Z1q, List.take_length, List.take_left, List.length_append, Nat.le_add_right, ite_self, List.take_of_length_le, Z38, Z4j, Z3w, Option.isSome_none, Option.isSome_some, Nat.sub_zero, Z4i, Z4p, Z4g, evUn, Z0v, Z13, binT, binQ, chk, Z3t, List.contains_cons, List.contains_nil, Bool.or_false, Bool.false_or, Bool.and_self, resQ, resV, resT, Z4q, Z2e, Z43, Z3l, fnOf, Z3k, isD, HO.drow, Z4f, Z3u, evEq, eqV, eqK, eqC1, Z40, Z3y, Z36, Z31, Z48, Z3d, Z2i, Z1k, Z2h, Z1j, Z2g, Z1i, Z1l, Z0w, Z0x, Z0d, List.mem_cons, List.not_mem_nil, or_false, forall_eq, putRow, Z3n, Z25, RetS, RetF, RetD, AV.frz, AV.frzL, AV.freshP, AV.freshL, DV.less, Z2m, Z1n, Z2n, Z1o, Z0f, Z07, Option.some.injEq, AV.tup.injEq, AV.agg.injEq, List.cons.injEq, DV.list.injEq, List.isEmpty_nil, Nat.le_refl, AV.d.injEq, DV.int.injEq, DV.bool.injEq, ↓reduceIte, Nat.reduceEqDiff, Nat.reduceAdd, Nat.reduceBEq, List.length_cons, List.length_nil, List.replicate_succ, List.replicate_zero, List.nil_append, List.cons_append, List.append_nil, List.foldl_cons, List.foldl_nil, List.map_cons, List.map_nil, List.all_cons, List.all_nil, List.set_cons_zero, List.set_cons_succ, List.getD_cons_zero, List.getD_cons_succ, List.drop_zero, List.drop_succ_cons, List.take_succ_cons, List.take_zero, List.flatten_cons, List.flatten_nil, Bool.true_and, Bool.and_true, Bool.not_true, Bool.not_false, true_and, and_true, true_or, or_true, Option.bind_some, Option.map_some, decide_true, decide_false, beq_self_eq_true, true_implies, false_implies, implies_true, not_true_eq_false, not_false_eq_true, and_self, Bool.and_false, Bool.false_and, Nat.reduceLT, Nat.reduceLeDiff, List.reverse_cons, List.reverse_nil, Nat.zero_add, Nat.add_zero, Bool.false_eq_true, List.getElem?_cons_zero, Nat.reduceMul, Nat.mul_one, State.ices, State.ice, HO.data, iceEnv, iceHeap, HO.ice, AV.ice, AV.iceL]
  have hS : m.start.Ok m.nodes.length := by
    have e1 : (whereG m.nodes apartQ m.rf).length = m.nodes.length := by rw [whereG_len, hm.rf.len]
    have e2 : (whereG m.nodes apartQ m.fr).length = m.nodes.length := by rw [whereG_len, hm.fr.len]
    have e3 : (whereG m.nodes apartQ m.co).length = m.nodes.length := by rw [whereG_len, hm.co.len]
    have e4 : (whereG m.nodes locQ m.po).length = m.nodes.length := by rw [whereG_len, hm.po.len]
    exact {
      ii := Sq.or3 hn (Sq.lay2 hm.addr.len hm.data.len hn).len (Sq.lay2 hm.rf.len e1 hn).len (Sq.lay2 e4 (Sq.thenG e2 e1 hn).len hn).len
      ci := Sq.or2 hn hm.fenced.len (Sq.lay2 e4 (Sq.thenG e3 e1 hn).len hn).len
      ic := by
        show Sq _ (List.replicate m.nodes.length 0#64)
        rw [mkR_zero (p := fun _ _ => false) (fun _ _ _ _ => rfl)]
        exact Sq.mk hn _
      cc := Sq.or4 hn (Sq.lay2 hm.addr.len hm.data.len hn).len e4 hm.ctrl.len (Sq.thenG hm.addr.len hm.po.len hn).len }
  refine Loop.fam [0, 9, 10, 11, 12] (fun s : P4 => ⟨[(0, .dptr m.cells 0), (9, .d (.list (s.ii.map rowW) false)), (10, .d (.list (s.ci.map rowW) false)), (11, .d (.list (s.cc.map rowW) false)), (12, .d (.list (s.ic.map rowW) false))], []⟩)
    (fun s => s.Ok m.nodes.length ∧ limP s = limP m.start) (fun s => 16384 - cnt4 s) m.start [] (by simp) (by simp) (by simp only [State.can, AV.can, AV.canL, HO.can, Z3i, idx, Z04, Z01, Heap.at, Nat.reduceBEq, ↓reduceIte, Nat.reduceEqDiff, Option.getD_some, Option.map_some, List.map_cons, List.map_nil, List.getD_cons_zero, List.getD_cons_succ]; rfl) ⟨hS, rfl⟩ ?_
  rintro s ⟨hs, hl⟩
  simp only [↓Z1d, ↓Z2b, ↓Z1t, ↓Z05, ↓Z2q, ↓Z2k, Z49, Z4a, ↓Z20, ↓Z1c, ↓Z0i, ↓Z1u, ↓Z12, ↓Z1z, ↓Z2z, ↓Z30, ↓Z23, ↓Z1s, ↓Z2d, ↓Z28, ↓Z1y, ↓Z3m, ↓Z46, ↓Z3e, ↓Z3g, ↓Z3f, ↓Z3v, ↓Z3q, ↓Z44, ↓Z0j, ↓Z0b, ↓Z16, ↓Z0h, ↓Z1g, Z4d, Z0a, Z18, Z32, Z1a, Z35, evN, Z2s, Z1x, Z34, Z41, Z1w, Z19, Z1v, Z2p, Z2a, Z29, Z1e, Z2x, evT, Opd.ev, Z04, Z01, Z33, Z3x, Z3o, Z26, Z1f, Z2w, Z2y, Z3c, Z22, Z14, Z3r, LOp.isNew, State.prune, Z3s, Z3j, AV.leaf, Heap.at, Z0g, Z08, Z1m, Z0e, Z02, Z4x, Z4t, rowW, Z24, Z2t, Z1p, Z1b, rowB, Z2v, Z2u, rowN, Z4b, Z3h, Z17, Z15, w_or, Z4r, Z2r, Z45, Z50, Z42, Z4s, Z47, Z4z, Z4y, Z4u, Z4v, Z4w, w_eq, Bool.decide_eq_true, Z3b, Z3a, Z39, Z2f, Z1h, Z03, Z09, Z11, Z00, Z21, rowI, RatG.row, LocG.row, ActG.row, StepG.row, StampG.row, ActG.av, ActG.eta, RatG.eta, LocG.eta, beq_true, beq_false, Z2j, Z2o, Z2c, Z2l, Z10, Z0n, Z0y, Z0z, Z0m, Z0l, Z0c, List.length_set, List.length_replicate, Z06, Int.reduceToNat, Z4o, Z27, Z4e, Src.all, Src.len, Src.leaf, Src.leafN, Z37, Z3z, Z4k, Z0k, Z0o, Z0p, Z0q, Z0r, Z0s, Z0t, Z0u, Z4m, drows, evMk, List.length_map, Z1r, Z1q, List.take_length, List.take_left, List.length_append, Nat.le_add_right, ite_self, List.take_of_length_le, Z38, Z4j, Z3w, Option.isSome_none, Option.isSome_some, Nat.sub_zero, Z4i, Z4p, Z4g, evUn, Z0v, Z13, binT, binQ, chk, Z3t, List.contains_cons, List.contains_nil, Bool.or_false, Bool.false_or, Bool.and_self, resQ, resV, resT, Z4q, Z2e, Z43, Z3l, fnOf, Z3k, isD, HO.drow, Z4f, Z3u, evEq, eqV, eqK, eqC1, Z40, Z3y, Z36, Z31, Z48, Z3d, Z2i, Z1k, Z2h, Z1j, Z2g, Z1i, Z1l, Z0w, Z0x, Z0d, List.mem_cons, List.not_mem_nil, or_false, forall_eq, putRow, Z3n, Z25, RetS, RetF, RetD, AV.frz, AV.frzL, AV.freshP, AV.freshL, DV.less, Z2m, Z1n, Z2n, Z1o, Z0f, Z07, Option.some.injEq, AV.tup.injEq, AV.agg.injEq, List.cons.injEq, DV.list.injEq, List.isEmpty_nil, Nat.le_refl, AV.d.injEq, DV.int.injEq, DV.bool.injEq, ↓reduceIte, Nat.reduceEqDiff, Nat.reduceAdd, Nat.reduceBEq, List.length_cons, List.length_nil, List.replicate_succ, List.replicate_zero, List.nil_append, List.cons_append, List.append_nil, List.foldl_cons, List.foldl_nil, List.map_cons, List.map_nil, List.all_cons, List.all_nil, List.set_cons_zero, List.set_cons_succ, List.getD_cons_zero, List.getD_cons_succ, List.drop_zero, List.drop_succ_cons, List.take_succ_cons, List.take_zero, List.flatten_cons, List.flatten_nil, Bool.true_and, Bool.and_true, Bool.not_true, Bool.not_false, true_and, and_true, true_or, or_true, Option.bind_some, Option.map_some, decide_true, decide_false, beq_self_eq_true, true_implies, false_implies, implies_true, not_true_eq_false, not_false_eq_true, and_self, Bool.and_false, Bool.false_and, Nat.reduceLT, Nat.reduceLeDiff, List.reverse_cons, List.reverse_nil, Nat.zero_add, Nat.add_zero, Bool.false_eq_true, List.getElem?_cons_zero, Nat.reduceMul, Nat.mul_one, sp_ppo, F1, G1, F2, G2, F3, G3, F4, G4, F5, G5, F6, G6, F7, G7, F8, G8, F9, G9, Sp.at_dat, SpecR.dat_rows, at_lay2, at_Then, at_ext, at_poloc, at_keep, at_pall2, at_pall3, at_pall4, at_pall5, at_eqW,
    cells_len, cells_13, cells_14]
  simp only [thenG_64, keepG_len, hs.ii.len, hs.ci.len, hs.ic.len, hs.cc.len, eqT hm.n, eqT (le_M hm.n), and_true, true_and]
  have next : ∀ {S : State}, stepP s ≠ s → S.can [] [0, 9, 10, 11, 12] = ⟨[(0, .dptr m.cells 0), (9, .d (.list ((stepP s).ii.map rowW) false)), (10, .d (.list ((stepP s).ci.map rowW) false)), (11, .d (.list ((stepP s).cc.map rowW) false)), (12, .d (.list ((stepP s).ic.map rowW) false))], []⟩ →
      Z3p [0, 9, 10, 11, 12] (fun s : P4 => ⟨[(0, .dptr m.cells 0), (9, .d (.list (s.ii.map rowW) false)), (10, .d (.list (s.ci.map rowW) false)), (11, .d (.list (s.cc.map rowW) false)), (12, .d (.list (s.ic.map rowW) false))], []⟩)
        (fun s => s.Ok m.nodes.length ∧ limP s = limP m.start) (fun s => 16384 - cnt4 s) (16384 - cnt4 s) S := fun {S} hne h => by
    have h1 := stepP_more hn hs hne
    have h2 := cnt4_le (stepP s)
    exact Z3p.mk [] (stepP s) (by simp) (by simp) h ⟨stepP_ok hn hs, by rw [← limP_step hn hs]; exact hl⟩ (by omega)
  refine ⟨fun e1 => ⟨fun e2 => ⟨fun e3 => ⟨fun e4 => ?_, fun e4 => ?_⟩, fun e3 => ?_⟩, fun e2 => ?_⟩, fun e1 => ?_⟩
  · have : stepP s = s := by
      have : stepP s = ⟨s.ii, s.ci, s.ic, s.cc⟩ := by
        unfold stepP; rw [← e1, ← e2, ← e3, ← e4]
      exact this
    unfold MG.ppo
    rw [← hl, show limP s = s from fixF_end this]
  · exact next (fun e => e4 (congrArg P4.cc e).symm) (by simp only [State.can, AV.can, AV.canL, HO.can, Z3i, idx, Z04, Z01, Heap.at, Nat.reduceBEq, ↓reduceIte, Nat.reduceEqDiff, Option.getD_some, Option.map_some, List.map_cons, List.map_nil, List.getD_cons_zero, List.getD_cons_succ]; rfl)
  · exact next (fun e => e3 (congrArg P4.ic e).symm) (by simp only [State.can, AV.can, AV.canL, HO.can, Z3i, idx, Z04, Z01, Heap.at, Nat.reduceBEq, ↓reduceIte, Nat.reduceEqDiff, Option.getD_some, Option.map_some, List.map_cons, List.map_nil, List.getD_cons_zero, List.getD_cons_succ]; rfl)
  · exact next (fun e => e2 (congrArg P4.ci e).symm) (by simp only [State.can, AV.can, AV.canL, HO.can, Z3i, idx, Z04, Z01, Heap.at, Nat.reduceBEq, ↓reduceIte, Nat.reduceEqDiff, Option.getD_some, Option.map_some, List.map_cons, List.map_nil, List.getD_cons_zero, List.getD_cons_succ]; rfl)
  · exact next (fun e => e1 (congrArg P4.ii e).symm) (by simp only [State.can, AV.can, AV.canL, HO.can, Z3i, idx, Z04, Z01, Heap.at, Nat.reduceBEq, ↓reduceIte, Nat.reduceEqDiff, Option.getD_some, Option.map_some, List.map_cons, List.map_nil, List.getD_cons_zero, List.getD_cons_succ]; rfl)
end Go.Ago

/- Power: what the axioms speak of, and Check. Conditions: none. -/
set_option maxRecDepth 100000
set_option linter.unusedSimpArgs false
set_option linter.unusedVariables false
namespace Go.Ago
theorem starG_le (a : List W) : (starG a).length ≤ 64 := by
  unfold starG; rw [Z53]; exact szR_le a
theorem starG_len (a : List W) : (starG a).length = szR a := by unfold starG; rw [Z53]
theorem cells_mid (m : MG) : (m.cells.drop 1).take 12 = [.list (m.xn.map ActG.row) m.xf, .list (m.po.map rowW) false, .list (m.rf.map rowW) false, .list (m.co.map rowW) false, .list (m.fr.map rowW) false, .list (m.addr.map rowW) false, .list (m.data.map rowW) false, .list (m.ctrl.map rowW) false, .list (m.fenced.map rowW) false, .list (m.sync.map rowW) false, .list (m.lwsync.map rowW) false, .list (m.pairs.map rowW) false] := rfl
attribute [local irreducible] orL thenG lay2 whereG keepG mkR cntR starG

def MG.fence (m : MG) : List W := lay2 qOr m.sync (lay2 qMinus m.lwsync (keepG m.lwsync m.write m.read))
def MG.hb (m : MG) : List W := orL [m.ppo, m.fence, m.ext m.rf]
def MG.com (m : MG) : List W := orL [m.rf, m.co, m.fr]
def MG.base (m : MG) : List W := thenG (lay2 qOr m.fence (thenG (m.ext m.rf) m.fence)) (starG m.hb)
def MG.strong (m : MG) : List W := thenG (thenG (thenG (starG m.com) (starG m.base)) m.sync) (starG m.hb)
def MG.prop (m : MG) : List W := lay2 qOr (keepG m.base m.write m.write) m.strong
def sp_made : Sp := ⟨MG, fun m => [.dptr m.cells 0], fun m => .data m.Ok (.tup [.d (.list (m.hb.map rowW) false), .d (.list (m.prop.map rowW) false), .d (.list (m.com.map rowW) false)]) false⟩
theorem at_made (m : MG) : sp_made.at [.dptr m.cells 0] = .data m.Ok (.tup [.d (.list (m.hb.map rowW) false), .d (.list (m.prop.map rowW) false), .d (.list (m.com.map rowW) false)]) false :=
  Sp.at_enc (s := sp_made) (fun (x y : MG) h => by
    simp only [sp_made, List.cons.injEq, AV.dptr.injEq, and_true] at h
    exact MG.cells_inj _ _ h) m
theorem starG_64 (a : List W) : ((starG a).length ≤ 64) = True := eqT (starG_le a)
theorem starG_M (a : List W) : ((starG a).length ≤ maxLen) = True := eqT (le_M (starG_le a))
theorem ppo_64 (m : MG) : (m.ppo.length ≤ 64) = True := lay2_64 _ _ _
theorem ppo_M (m : MG) : (m.ppo.length ≤ maxLen) = True := lay2_M _ _ _
theorem body_power_model_made {T : Tab} {n1 n2 n3 n4 n5 n6 n7 n8 : Nat} (k1 : Knows T n1 (sp_lay2 qOr).dat) (k2 : Knows T n2 sp_Then.dat) (k3 : Knows T n3 sp_ext) (k4 : Knows T n4 sp_Star.dat) (k5 : Knows T n5 sp_ppo)
    (k6 : Knows T n6 (sp_lay2 qMinus).dat) (k7 : Knows T n7 sp_keep) (k8 : Knows T n8 sp_pall) :
    sp_made.Body T V_power_model_made (L_power_model_made n1 n2 n3 n4 n5 n6 n7 n8) R_power_model_made := by
  have F1 := k1.F; have G1 := k1.G; have F2 := k2.F; have G2 := k2.G; have F3 := k3.F; have G3 := k3.G; have F4 := k4.F; have G4 := k4.G; have F5 := k5.F; have G5 := k5.G
  have F6 := k6.F; have G6 := k6.G; have F7 := k7.F; have G7 := k7.G; have F8 := k8.F; have G8 := k8.G
  rintro (m : MG) hm
  have hm : m.Ok := hm
  refine ⟨rfl, ?_⟩
  unfold V_power_model_made L_power_model_made R_power_model_made
  simp only [↓Z1d, ↓Z2b, ↓Z1t, ↓Z05, ↓Z2q, ↓Z2k, Z49, Z4a, ↓Z20, ↓Z1c, ↓Z0i, ↓Z1u, ↓Z12, ↓Z1z, ↓Z2z, ↓Z30, ↓Z23, ↓Z1s, ↓Z2d, ↓Z28, ↓Z1y, ↓Z3m, ↓Z46, ↓Z3e, ↓Z3g, ↓Z3f, ↓Z3v, ↓Z3q, ↓Z44, ↓Z0j, ↓Z0b, ↓Z16, ↓Z0h, ↓Z1g, Z4d, Z0a, Z18, Z32, Z1a, Z35, evN, Z2s, Z1x, Z34, Z41, Z1w, Z19, Z1v, Z2p, Z2a, Z29, Z1e, Z2x, evT, Opd.ev, Z04, Z01, Z33, Z3x, Z3o, Z26, Z1f, Z2w, Z2y, Z3c, Z22, Z14, Z3r, LOp.isNew, State.prune, Z3s, Z3j, AV.leaf, Heap.at, Z0g, Z08, Z1m, Z0e, Z02, Z4x, Z4t, rowW, Z24, Z2t, Z1p, Z1b, rowB, Z2v, Z2u, rowN, Z4b, Z3h, Z17, Z15, w_or, Z4r, Z2r, Z45, Z50, Z42, Z4s, Z47, Z4z, Z4y, Z4u, Z4v, Z4w, w_eq, Bool.decide_eq_true, Z3b, Z3a, Z39, Z2f, Z1h, Z03, Z09, Z11, Z00, Z21, rowI, RatG.row, LocG.row, ActG.row, StepG.row, StampG.row, ActG.av, ActG.eta, RatG.eta, LocG.eta, beq_true, beq_false, Z2j, Z2o, Z2c, Z2l, Z10, Z0n, Z0y, Z0z, Z0m, Z0l, Z0c, List.length_set, List.length_replicate, Z06, Int.reduceToNat, Z4o, Z27, Z4e, Src.all, Src.len, Src.leaf, Src.leafN, Z37, Z3z, Z4k, Z0k, Z0o, Z0p, Z0q, Z0r, Z0s, Z0t, Z0u, Z4m, drows, evMk, List.length_map, Z1r, Z1q, List.take_length, List.take_left, List.length_append, Nat.le_add_right, ite_self, List.take_of_length_le, Z38, Z4j, Z3w, Option.isSome_none, Option.isSome_some, Nat.sub_zero, Z4i, Z4p, Z4g, evUn, Z0v, Z13, binT, binQ, chk, Z3t, List.contains_cons, List.contains_nil, Bool.or_false, Bool.false_or, Bool.and_self, resQ, resV, resT, Z4q, Z2e, Z43, Z3l, fnOf, Z3k, isD, HO.drow, Z4f, Z3u, evEq, eqV, eqK, eqC1, Z40, Z3y, Z36, Z31, Z48, Z3d, Z2i, Z1k, Z2h, Z1j, Z2g, Z1i, Z1l, Z0w, Z0x, Z0d, List.mem_cons, List.not_mem_nil, or_false, forall_eq, putRow, Z3n, Z25, RetS, RetF, RetD, AV.frz, AV.frzL, AV.freshP, AV.freshL, DV.less, Z2m, Z1n, Z2n, Z1o, Z0f, Z07, Option.some.injEq, AV.tup.injEq, AV.agg.injEq, List.cons.injEq, DV.list.injEq, List.isEmpty_nil, Nat.le_refl, AV.d.injEq, DV.int.injEq, DV.bool.injEq, ↓reduceIte, Nat.reduceEqDiff, Nat.reduceAdd, Nat.reduceBEq, List.length_cons, List.length_nil, List.replicate_succ, List.replicate_zero, List.nil_append, List.cons_append, List.append_nil, List.foldl_cons, List.foldl_nil, List.map_cons, List.map_nil, List.all_cons, List.all_nil, List.set_cons_zero, List.set_cons_succ, List.getD_cons_zero, List.getD_cons_succ, List.drop_zero, List.drop_succ_cons, List.take_succ_cons, List.take_zero, List.flatten_cons, List.flatten_nil, Bool.true_and, Bool.and_true, Bool.not_true, Bool.not_false, true_and, and_true, true_or, or_true, Option.bind_some, Option.map_some, decide_true, decide_false, beq_self_eq_true, true_implies, false_implies, implies_true, not_true_eq_false, not_false_eq_true, and_self, Bool.and_false, Bool.false_and, Nat.reduceLT, Nat.reduceLeDiff, List.reverse_cons, List.reverse_nil, Nat.zero_add, Nat.add_zero, Bool.false_eq_true, List.getElem?_cons_zero, Nat.reduceMul, Nat.mul_one, sp_made, F1, G1, F2, G2, F3, G3, F4, G4, F5, G5, F6, G6, F7, G7, F8, G8, Sp.at_dat, SpecR.dat_rows, at_lay2, at_Then, at_ext, at_Star, at_ppo, at_keep, at_pall2, at_pall3, at_pall4, at_pall5,
    cells_len, cells_0, cells_1, cells_2, cells_3, cells_4, cells_5, cells_6, cells_7, cells_8, cells_9, cells_10, cells_11, cells_12, cells_13, cells_14, cells_mid]
  have hn := hm.n
  simp only [lay2_64, lay2_M, thenG_64, thenG_M, starG_64, starG_M, ppo_64, ppo_M, whereG_len, keepG_len, orL_64, orL_M, hm.po.len, hm.rf.len, hm.co.len, hm.fr.len, hm.sync.len, hm.lwsync.len, eqT hm, eqT hm.n, eqT (le_M hm.n), Nat.le_refl, and_true, true_and]
  exact ⟨rfl, rfl, rfl⟩

/-! ### Ppo, Prop, Check -/
def sp_Ppo : Sp := ⟨XG, fun x => [x.av], fun x => .data (x.Ok ∧ (ofXG x).Ok) (.d (.list ((ofXG x).ppo.map rowW) false)) false⟩
theorem at_PpoX (x : XG) : sp_Ppo.at [x.av] = .data (x.Ok ∧ (ofXG x).Ok) (.d (.list ((ofXG x).ppo.map rowW) false)) false :=
  Sp.at_enc (s := sp_Ppo) (fun (x y : XG) h => by
    simp only [sp_Ppo, List.cons.injEq, and_true] at h
    exact XG.av_inj _ _ h) x
theorem fitX_sq {n : Nat} (hn : n ≤ 64) (r : List W × Bool) : Sq n (fitX r n) := Sq.mk hn _
theorem ofXG_len (x : XG) : (ofXG x).nodes.length = x.n := by
  show (x.nodes.take x.n).length = x.n
  rw [List.length_take]; exact Nat.min_eq_left (Nat.min_le_left _ _)
theorem ofXG_ok (x : XG) : (ofXG x).Ok := by
  have hn := n_le x
  constructor
  · rw [ofXG_len]; exact hn
  all_goals rw [ofXG_len]; exact fitX_sq hn _
theorem at_ofX (x : XG) : sp_of.at [.agg [.d (.list (x.nodes.map ActG.row) x.nf), .d (lsX x.po), .d (lsX x.rf), .d (lsX x.co), .d (lsX x.fr), .d (lsX x.addr), .d (lsX x.data), .d (lsX x.ctrl), .d (lsX x.fenced), .d (lsX x.sync), .d (lsX x.lwsync), .d (lsX x.pairs)]] = .data x.Ok (.dptr (ofXG x).cells 0) false := at_of x
theorem body_power_Ppo {T : Tab} {n1 n2 : Nat} (k1 : Knows T n1 sp_of) (k2 : Knows T n2 sp_ppo) : sp_Ppo.Body T V_power_Ppo (L_power_Ppo n1 n2) R_power_Ppo := by
  have F1 := k1.F; have G1 := k1.G; have F2 := k2.F; have G2 := k2.G
  rintro (x : XG) ⟨hx, hm⟩
  refine ⟨rfl, ?_⟩
  unfold V_power_Ppo L_power_Ppo R_power_Ppo
  simp only [↓Z1d, ↓Z2b, ↓Z1t, ↓Z05, ↓Z2q, ↓Z2k, Z49, Z4a, ↓Z20, ↓Z1c, ↓Z0i, ↓Z1u, ↓Z12, ↓Z1z, ↓Z2z, ↓Z30, ↓Z23, ↓Z1s, ↓Z2d, ↓Z28, ↓Z1y, ↓Z3m, ↓Z46, ↓Z3e, ↓Z3g, ↓Z3f, ↓Z3v, ↓Z3q, ↓Z44, ↓Z0j, ↓Z0b, ↓Z16, ↓Z0h, ↓Z1g, Z4d, Z0a, Z18, Z32, Z1a, Z35, evN, Z2s, Z1x, Z34, Z41, Z1w, Z19, Z1v, Z2p, Z2a, Z29, Z1e, Z2x, evT, Opd.ev, Z04, Z01, Z33, Z3x, Z3o, Z26, Z1f, Z2w, Z2y, Z3c, Z22, Z14, Z3r, LOp.isNew, State.prune, Z3s, Z3j, AV.leaf, Heap.at, Z0g, Z08, Z1m, Z0e, Z02, Z4x, Z4t, rowW, Z24, Z2t, Z1p, Z1b, rowB, Z2v, Z2u, rowN, Z4b, Z3h, Z17, Z15, w_or, Z4r, Z2r, Z45, Z50, Z42, Z4s, Z47, Z4z, Z4y, Z4u, Z4v, Z4w, w_eq, Bool.decide_eq_true, Z3b, Z3a, Z39, Z2f, Z1h, Z03, Z09, Z11, Z00, Z21, rowI, RatG.row, LocG.row, ActG.row, StepG.row, StampG.row, ActG.av, ActG.eta, RatG.eta, LocG.eta, beq_true, beq_false, Z2j, Z2o, Z2c, Z2l, Z10, Z0n, Z0y, Z0z, Z0m, Z0l, Z0c, List.length_set, List.length_replicate, Z06, Int.reduceToNat, Z4o, Z27, Z4e, Src.all, Src.len, Src.leaf, Src.leafN, Z37, Z3z, Z4k, Z0k, Z0o, Z0p, Z0q, Z0r, Z0s, Z0t, Z0u, Z4m, drows, evMk, List.length_map, Z1r, Z1q, List.take_length, List.take_left, List.length_append, Nat.le_add_right, ite_self, List.take_of_length_le, Z38, Z4j, Z3w, Option.isSome_none, Option.isSome_some, Nat.sub_zero, Z4i, Z4p, Z4g, evUn, Z0v, Z13, binT, binQ, chk, Z3t, List.contains_cons, List.contains_nil, Bool.or_false, Bool.false_or, Bool.and_self, resQ, resV, resT, Z4q, Z2e, Z43, Z3l, fnOf, Z3k, isD, HO.drow, Z4f, Z3u, evEq, eqV, eqK, eqC1, Z40, Z3y, Z36, Z31, Z48, Z3d, Z2i, Z1k, Z2h, Z1j, Z2g, Z1i, Z1l, Z0w, Z0x, Z0d, List.mem_cons, List.not_mem_nil, or_false, forall_eq, putRow, Z3n, Z25, RetS, RetF, RetD, AV.frz, AV.frzL, AV.freshP, AV.freshL, DV.less, Z2m, Z1n, Z2n, Z1o, Z0f, Z07, Option.some.injEq, AV.tup.injEq, AV.agg.injEq, List.cons.injEq, DV.list.injEq, List.isEmpty_nil, Nat.le_refl, AV.d.injEq, DV.int.injEq, DV.bool.injEq, ↓reduceIte, Nat.reduceEqDiff, Nat.reduceAdd, Nat.reduceBEq, List.length_cons, List.length_nil, List.replicate_succ, List.replicate_zero, List.nil_append, List.cons_append, List.append_nil, List.foldl_cons, List.foldl_nil, List.map_cons, List.map_nil, List.all_cons, List.all_nil, List.set_cons_zero, List.set_cons_succ, List.getD_cons_zero, List.getD_cons_succ, List.drop_zero, List.drop_succ_cons, List.take_succ_cons, List.take_zero, List.flatten_cons, List.flatten_nil, Bool.true_and, Bool.and_true, Bool.not_true, Bool.not_false, true_and, and_true, true_or, or_true, Option.bind_some, Option.map_some, decide_true, decide_false, beq_self_eq_true, true_implies, false_implies, implies_true, not_true_eq_false, not_false_eq_true, and_self, Bool.and_false, Bool.false_and, Nat.reduceLT, Nat.reduceLeDiff, List.reverse_cons, List.reverse_nil, Nat.zero_add, Nat.add_zero, Bool.false_eq_true, List.getElem?_cons_zero, Nat.reduceMul, Nat.mul_one, sp_Ppo, F1, G1, F2, G2, at_ofX, at_ppo, XG.av]
  exact ⟨hx, hm⟩
def sp_Prop : Sp := ⟨XG, fun x => [x.av], fun x => .data (x.Ok ∧ (ofXG x).Ok) (.d (.list ((ofXG x).prop.map rowW) false)) false⟩
theorem at_PropX (x : XG) : sp_Prop.at [x.av] = .data (x.Ok ∧ (ofXG x).Ok) (.d (.list ((ofXG x).prop.map rowW) false)) false :=
  Sp.at_enc (s := sp_Prop) (fun (x y : XG) h => by
    simp only [sp_Prop, List.cons.injEq, and_true] at h
    exact XG.av_inj _ _ h) x
theorem body_power_Prop {T : Tab} {n1 n2 : Nat} (k1 : Knows T n1 sp_of) (k2 : Knows T n2 sp_made) : sp_Prop.Body T V_power_Prop (L_power_Prop n1 n2) R_power_Prop := by
  have F1 := k1.F; have G1 := k1.G; have F2 := k2.F; have G2 := k2.G
  rintro (x : XG) ⟨hx, hm⟩
  refine ⟨rfl, ?_⟩
  unfold V_power_Prop L_power_Prop R_power_Prop
  simp only [↓Z1d, ↓Z2b, ↓Z1t, ↓Z05, ↓Z2q, ↓Z2k, Z49, Z4a, ↓Z20, ↓Z1c, ↓Z0i, ↓Z1u, ↓Z12, ↓Z1z, ↓Z2z, ↓Z30, ↓Z23, ↓Z1s, ↓Z2d, ↓Z28, ↓Z1y, ↓Z3m, ↓Z46, ↓Z3e, ↓Z3g, ↓Z3f, ↓Z3v, ↓Z3q, ↓Z44, ↓Z0j, ↓Z0b, ↓Z16, ↓Z0h, ↓Z1g, Z4d, Z0a, Z18, Z32, Z1a, Z35, evN, Z2s, Z1x, Z34, Z41, Z1w, Z19, Z1v, Z2p, Z2a, Z29, Z1e, Z2x, evT, Opd.ev, Z04, Z01, Z33, Z3x, Z3o, Z26, Z1f, Z2w, Z2y, Z3c, Z22, Z14, Z3r, LOp.isNew, State.prune, Z3s, Z3j, AV.leaf, Heap.at, Z0g, Z08, Z1m, Z0e, Z02, Z4x, Z4t, rowW, Z24, Z2t, Z1p, Z1b, rowB, Z2v, Z2u, rowN, Z4b, Z3h, Z17, Z15, w_or, Z4r, Z2r, Z45, Z50, Z42, Z4s, Z47, Z4z, Z4y, Z4u, Z4v, Z4w, w_eq, Bool.decide_eq_true, Z3b, Z3a, Z39, Z2f, Z1h, Z03, Z09, Z11, Z00, Z21, rowI, RatG.row, LocG.row, ActG.row, StepG.row, StampG.row, ActG.av, ActG.eta, RatG.eta, LocG.eta, beq_true, beq_false, Z2j, Z2o, Z2c, Z2l, Z10, Z0n, Z0y, Z0z, Z0m, Z0l, Z0c, List.length_set, List.length_replicate, Z06, Int.reduceToNat, Z4o, Z27, Z4e, Src.all, Src.len, Src.leaf, Src.leafN, Z37, Z3z, Z4k, Z0k, Z0o, Z0p, Z0q, Z0r, Z0s, Z0t, Z0u, Z4m, drows, evMk, List.length_map, Z1r, Z1q, List.take_length, List.take_left, List.length_append, Nat.le_add_right, ite_self, List.take_of_length_le, Z38, Z4j, Z3w, Option.isSome_none, Option.isSome_some, Nat.sub_zero, Z4i, Z4p, Z4g, evUn, Z0v, Z13, binT, binQ, chk, Z3t, List.contains_cons, List.contains_nil, Bool.or_false, Bool.false_or, Bool.and_self, resQ, resV, resT, Z4q, Z2e, Z43, Z3l, fnOf, Z3k, isD, HO.drow, Z4f, Z3u, evEq, eqV, eqK, eqC1, Z40, Z3y, Z36, Z31, Z48, Z3d, Z2i, Z1k, Z2h, Z1j, Z2g, Z1i, Z1l, Z0w, Z0x, Z0d, List.mem_cons, List.not_mem_nil, or_false, forall_eq, putRow, Z3n, Z25, RetS, RetF, RetD, AV.frz, AV.frzL, AV.freshP, AV.freshL, DV.less, Z2m, Z1n, Z2n, Z1o, Z0f, Z07, Option.some.injEq, AV.tup.injEq, AV.agg.injEq, List.cons.injEq, DV.list.injEq, List.isEmpty_nil, Nat.le_refl, AV.d.injEq, DV.int.injEq, DV.bool.injEq, ↓reduceIte, Nat.reduceEqDiff, Nat.reduceAdd, Nat.reduceBEq, List.length_cons, List.length_nil, List.replicate_succ, List.replicate_zero, List.nil_append, List.cons_append, List.append_nil, List.foldl_cons, List.foldl_nil, List.map_cons, List.map_nil, List.all_cons, List.all_nil, List.set_cons_zero, List.set_cons_succ, List.getD_cons_zero, List.getD_cons_succ, List.drop_zero, List.drop_succ_cons, List.take_succ_cons, List.take_zero, List.flatten_cons, List.flatten_nil, Bool.true_and, Bool.and_true, Bool.not_true, Bool.not_false, true_and, and_true, true_or, or_true, Option.bind_some, Option.map_some, decide_true, decide_false, beq_self_eq_true, true_implies, false_implies, implies_true, not_true_eq_false, not_false_eq_true, and_self, Bool.and_false, Bool.false_and, Nat.reduceLT, Nat.reduceLeDiff, List.reverse_cons, List.reverse_nil, Nat.zero_add, Nat.add_zero, Bool.false_eq_true, List.getElem?_cons_zero, Nat.reduceMul, Nat.mul_one, sp_Prop, F1, G1, F2, G2, at_ofX, at_made, XG.av]
  exact ⟨hx, hm⟩
def selfG (r : List W) : Bool := (List.range r.length).any fun i => (r.getD i 0#64).getLsbD i
def MG.seen (m : MG) : List W := thenG (thenG (m.ext m.fr) m.prop) (starG m.hb)
def MG.check (m : MG) : Int :=
  if ringG (lay2 qOr m.poloc m.com) = true then 1
  else if ringG m.hb = true then 2
  else if selfG m.seen = true then 3
  else if ringG (lay2 qOr m.co m.prop) = true then 4
  else if ((lay2 qAnd m.pairs (thenG (m.ext m.fr) (m.ext m.co))).any nzW) = true then 5
  else 0
def sp_Check : Sp := ⟨XG, fun x => [x.av], fun x => .data (x.Ok ∧ (ofXG x).Ok) (.d (.int .i64 (ofXG x).check)) true⟩
theorem at_CheckX (x : XG) : sp_Check.at [x.av] = .data (x.Ok ∧ (ofXG x).Ok) (.d (.int .i64 (ofXG x).check)) true :=
  Sp.at_enc (s := sp_Check) (fun (x y : XG) h => by
    simp only [sp_Check, List.cons.injEq, and_true] at h
    exact XG.av_inj _ _ h) x
theorem body_power_Check {T : Tab} {n1 n2 n3 n4 n5 n6 n7 n8 n9 n10 : Nat} (k1 : Knows T n1 (sp_lay2 qOr).dat) (k2 : Knows T n2 sp_Ring) (k3 : Knows T n3 (sp_lay2 qAnd).dat) (k4 : Knows T n4 sp_Then.dat) (k5 : Knows T n5 sp_of)
    (k6 : Knows T n6 sp_made) (k7 : Knows T n7 sp_ext) (k8 : Knows T n8 sp_Star.dat) (k9 : Knows T n9 sp_poloc) (k10 : Knows T n10 sp_empty) :
    sp_Check.Body T V_power_Check (L_power_Check n1 n2 n3 n4 n5 n6 n7 n8 n9 n10) R_power_Check := by
  have F1 := k1.F; have G1 := k1.G; have F2 := k2.F; have G2 := k2.G; have F3 := k3.F; have G3 := k3.G; have F4 := k4.F; have G4 := k4.G; have F5 := k5.F; have G5 := k5.G
  have F6 := k6.F; have G6 := k6.G; have F7 := k7.F; have G7 := k7.G; have F8 := k8.F; have G8 := k8.G; have F9 := k9.F; have G9 := k9.G; have F10 := k10.F; have G10 := k10.G
  rintro (x : XG) ⟨hx, hm⟩
  refine .inl ⟨rfl, ?_⟩
  unfold V_power_Check L_power_Check R_power_Check
  simp only [↓Z1d, ↓Z2b, ↓Z1t, ↓Z05, ↓Z2q, ↓Z2k, Z49, Z4a, ↓Z20, ↓Z1c, ↓Z0i, ↓Z1u, ↓Z12, ↓Z1z, ↓Z2z, ↓Z30, ↓Z23, ↓Z1s, ↓Z2d, ↓Z28, ↓Z1y, ↓Z3m, ↓Z46, ↓Z3e, ↓Z3g, ↓Z3f, ↓Z3v, ↓Z3q, ↓Z44, ↓Z0j, ↓Z0b, ↓Z16, ↓Z0h, ↓Z1g, Z4d, Z0a, Z18, Z32, Z1a, Z35, evN, Z2s, Z1x, Z34, Z41, Z1w, Z19, Z1v, Z2p, Z2a, Z29, Z1e, Z2x, evT, Opd.ev, Z04, Z01, Z33, Z3x, Z3o, Z26, Z1f, Z2w, Z2y, Z3c, Z22, Z14, Z3r, LOp.isNew, State.prune, Z3s, Z3j, AV.leaf, Heap.at, Z0g, Z08, Z1m, Z0e, Z02, Z4x, Z4t, rowW, Z24, Z2t, Z1p, Z1b, rowB, Z2v, Z2u, rowN, Z4b, Z3h, Z17, Z15, w_or, Z4r, Z2r, Z45, Z50, Z42, Z4s, Z47, Z4z, Z4y, Z4u, Z4v, Z4w, w_eq, Bool.decide_eq_true, Z3b, Z3a, Z39, Z2f, Z1h, Z03, Z09, Z11, Z00, Z21, rowI, RatG.row, LocG.row, ActG.row, StepG.row, StampG.row, ActG.av, ActG.eta, RatG.eta, LocG.eta, beq_true, beq_false, Z2j, Z2o, Z2c, Z2l, Z10, Z0n, Z0y, Z0z, Z0m, Z0l, Z0c, List.length_set, List.length_replicate, Z06, Int.reduceToNat, Z4o, Z27, Z4e, Src.all, Src.len, Src.leaf, Src.leafN, Z37, Z3z, Z4k, Z0k, Z0o, Z0p, Z0q, Z0r, Z0s, Z0t, Z0u, Z4m, drows, evMk, List.length_map, Z1r, Z1q, List.take_length, List.take_left, List.length_append, Nat.le_add_right, ite_self, List.take_of_length_le, Z38, Z4j, Z3w, Option.isSome_none, Option.isSome_some, Nat.sub_zero, Z4i, Z4p, Z4g, evUn, Z0v, Z13, binT, binQ, chk, Z3t, List.contains_cons, List.contains_nil, Bool.or_false, Bool.false_or, Bool.and_self, resQ, resV, resT, Z4q, Z2e, Z43, Z3l, fnOf, Z3k, isD, HO.drow, Z4f, Z3u, evEq, eqV, eqK, eqC1, Z40, Z3y, Z36, Z31, Z48, Z3d, Z2i, Z1k, Z2h, Z1j, Z2g, Z1i, Z1l, Z0w, Z0x, Z0d, List.mem_cons, List.not_mem_nil, or_false, forall_eq, putRow, Z3n, Z25, RetS, RetF, RetD, AV.frz, AV.frzL, AV.freshP, AV.freshL, DV.less, Z2m, Z1n, Z2n, Z1o, Z0f, Z07, Option.some.injEq, AV.tup.injEq, AV.agg.injEq, List.cons.injEq, DV.list.injEq, List.isEmpty_nil, Nat.le_refl, AV.d.injEq, DV.int.injEq, DV.bool.injEq, ↓reduceIte, Nat.reduceEqDiff, Nat.reduceAdd, Nat.reduceBEq, List.length_cons, List.length_nil, List.replicate_succ, List.replicate_zero, List.nil_append, List.cons_append, List.append_nil, List.foldl_cons, List.foldl_nil, List.map_cons, List.map_nil, List.all_cons, List.all_nil, List.set_cons_zero, List.set_cons_succ, List.getD_cons_zero, List.getD_cons_succ, List.drop_zero, List.drop_succ_cons, List.take_succ_cons, List.take_zero, List.flatten_cons, List.flatten_nil, Bool.true_and, Bool.and_true, Bool.not_true, Bool.not_false, true_and, and_true, true_or, or_true, Option.bind_some, Option.map_some, decide_true, decide_false, beq_self_eq_true, true_implies, false_implies, implies_true, not_true_eq_false, not_false_eq_true, and_self, Bool.and_false, Bool.false_and, Nat.reduceLT, Nat.reduceLeDiff, List.reverse_cons, List.reverse_nil, Nat.zero_add, Nat.add_zero, Bool.false_eq_true, List.getElem?_cons_zero, Nat.reduceMul, Nat.mul_one, sp_Check, F1, G1, F2, G2, F3, G3, F4, G4, F5, G5, F6, G6, F7, G7, F8, G8, F9, G9, F10, G10, Sp.at_dat, SpecR.dat_rows, at_lay2, at_Then, at_ext, at_Star, at_Ring, at_made, at_poloc, at_empty, at_ofX, XG.av,
    cells_len, cells_0, cells_1, cells_2, cells_3, cells_4, cells_5, cells_6, cells_7, cells_8, cells_9, cells_10, cells_11, cells_12, cells_13, cells_14]
  revert hm
  generalize ofXG x = m
  intro hm
  have hn := hm.n
  have hb : (m.hb.length ≤ maxLen) = True := orL_M _
  have hp : (m.prop.length ≤ maxLen) = True := lay2_M _ _ _
  have hc : (m.com.length ≤ maxLen) = True := orL_M _
  have hS : (thenG (thenG (whereG m.nodes apartQ m.fr) m.prop) (starG m.hb)).length ≤ 64 := by rw [thenG_64]; trivial
  simp only [lay2_64, lay2_M, thenG_64, thenG_M, starG_64, starG_M, whereG_len, orL_64, orL_M, hm.po.len, hm.rf.len, hm.co.len, hm.fr.len, hm.pairs.len, hb, hp, hc, eqT hx, eqT hm, eqT hm.n, eqT (le_M hm.n), Nat.le_refl, and_true, true_and]
  have he : m.seen = thenG (thenG (whereG m.nodes apartQ m.fr) m.prop) (starG m.hb) := rfl
  rw [← he] at hS ⊢
  have hchk : m.check = if ringG (lay2 qOr (whereG m.nodes locQ m.po) m.com) = true then 1
  else if ringG m.hb = true then 2
  else if selfG m.seen = true then 3
  else if ringG (lay2 qOr m.co m.prop) = true then 4
  else if ((lay2 qAnd m.pairs (thenG (whereG m.nodes apartQ m.fr) (whereG m.nodes apartQ m.co))).any nzW) = true then 5
  else 0 := rfl
  rw [hchk]
  generalize m.seen = S at *
  refine Loop.fam [3, 4, 5, 6, 7, 9, 33, 34, 35] (fun i : Nat => ⟨[(3, .dptr m.cells 0), (4, .d (.list (m.hb.map rowW) false)), (5, .d (.list (m.prop.map rowW) false)), (6, .d (.list (m.com.map rowW) false)), (7, .d (.list ((whereG m.nodes apartQ m.fr).map rowW) false)),
      (9, .d (.bool ((List.range i).any fun i => (S.getD i 0#64).getLsbD i))), (33, .d (.list (S.map rowW) false)), (34, .d (.int .i64 S.length)), (35, .d (.int .i64 i))], []⟩) (fun i => i ≤ S.length) (fun i => S.length - i) 0 [] (by simp) (by simp) (by simp only [State.can, AV.can, AV.canL, HO.can, Z3i, idx, Z04, Z01, Heap.at, Nat.reduceBEq, ↓reduceIte, Nat.reduceEqDiff, Option.getD_some, Option.map_some, List.map_cons, List.map_nil, List.getD_cons_zero, List.getD_cons_succ]; rfl) (by omega) ?_
  intro i hi
  simp only [↓Z1d, ↓Z2b, ↓Z1t, ↓Z05, ↓Z2q, ↓Z2k, Z49, Z4a, ↓Z20, ↓Z1c, ↓Z0i, ↓Z1u, ↓Z12, ↓Z1z, ↓Z2z, ↓Z30, ↓Z23, ↓Z1s, ↓Z2d, ↓Z28, ↓Z1y, ↓Z3m, ↓Z46, ↓Z3e, ↓Z3g, ↓Z3f, ↓Z3v, ↓Z3q, ↓Z44, ↓Z0j, ↓Z0b, ↓Z16, ↓Z0h, ↓Z1g, Z4d, Z0a, Z18, Z32, Z1a, Z35, evN, Z2s, Z1x, Z34, Z41, Z1w, Z19, Z1v, Z2p, Z2a, Z29, Z1e, Z2x, evT, Opd.ev, Z04, Z01, Z33, Z3x, Z3o, Z26, Z1f, Z2w, Z2y, Z3c, Z22, Z14, Z3r, LOp.isNew, State.prune, Z3s, Z3j, AV.leaf, Heap.at, Z0g, Z08, Z1m, Z0e, Z02, Z4x, Z4t, rowW, Z24, Z2t, Z1p, Z1b, rowB, Z2v, Z2u, rowN, Z4b, Z3h, Z17, Z15, w_or, Z4r, Z2r, Z45, Z50, Z42, Z4s, Z47, Z4z, Z4y, Z4u, Z4v, Z4w, w_eq, Bool.decide_eq_true, Z3b, Z3a, Z39, Z2f, Z1h, Z03, Z09, Z11, Z00, Z21, rowI, RatG.row, LocG.row, ActG.row, StepG.row, StampG.row, ActG.av, ActG.eta, RatG.eta, LocG.eta, beq_true, beq_false, Z2j, Z2o, Z2c, Z2l, Z10, Z0n, Z0y, Z0z, Z0m, Z0l, Z0c, List.length_set, List.length_replicate, Z06, Int.reduceToNat, Z4o, Z27, Z4e, Src.all, Src.len, Src.leaf, Src.leafN, Z37, Z3z, Z4k, Z0k, Z0o, Z0p, Z0q, Z0r, Z0s, Z0t, Z0u, Z4m, drows, evMk, List.length_map, Z1r, Z1q, List.take_length, List.take_left, List.length_append, Nat.le_add_right, ite_self, List.take_of_length_le, Z38, Z4j, Z3w, Option.isSome_none, Option.isSome_some, Nat.sub_zero, Z4i, Z4p, Z4g, evUn, Z0v, Z13, binT, binQ, chk, Z3t, List.contains_cons, List.contains_nil, Bool.or_false, Bool.false_or, Bool.and_self, resQ, resV, resT, Z4q, Z2e, Z43, Z3l, fnOf, Z3k, isD, HO.drow, Z4f, Z3u, evEq, eqV, eqK, eqC1, Z40, Z3y, Z36, Z31, Z48, Z3d, Z2i, Z1k, Z2h, Z1j, Z2g, Z1i, Z1l, Z0w, Z0x, Z0d, List.mem_cons, List.not_mem_nil, or_false, forall_eq, putRow, Z3n, Z25, RetS, RetF, RetD, AV.frz, AV.frzL, AV.freshP, AV.freshL, DV.less, Z2m, Z1n, Z2n, Z1o, Z0f, Z07, Option.some.injEq, AV.tup.injEq, AV.agg.injEq, List.cons.injEq, DV.list.injEq, List.isEmpty_nil, Nat.le_refl, AV.d.injEq, DV.int.injEq, DV.bool.injEq, ↓reduceIte, Nat.reduceEqDiff, Nat.reduceAdd, Nat.reduceBEq, List.length_cons, List.length_nil, List.replicate_succ, List.replicate_zero, List.nil_append, List.cons_append, List.append_nil, List.foldl_cons, List.foldl_nil, List.map_cons, List.map_nil, List.all_cons, List.all_nil, List.set_cons_zero, List.set_cons_succ, List.getD_cons_zero, List.getD_cons_succ, List.drop_zero, List.drop_succ_cons, List.take_succ_cons, List.take_zero, List.flatten_cons, List.flatten_nil, Bool.true_and, Bool.and_true, Bool.not_true, Bool.not_false, true_and, and_true, true_or, or_true, Option.bind_some, Option.map_some, decide_true, decide_false, beq_self_eq_true, true_implies, false_implies, implies_true, not_true_eq_false, not_false_eq_true, and_self, Bool.and_false, Bool.false_and, Nat.reduceLT, Nat.reduceLeDiff, List.reverse_cons, List.reverse_nil, Nat.zero_add, Nat.add_zero, Bool.false_eq_true, List.getElem?_cons_zero, Nat.reduceMul, Nat.mul_one, sp_Check, F1, G1, F2, G2, F3, G3, F4, G4, F5, G5, F6, G6, F7, G7, F8, G8, F9, G9, F10, G10, Sp.at_dat, SpecR.dat_rows, at_lay2, at_Then, at_ext, at_Star, at_Ring, at_made, at_poloc, at_empty,
    cells_len, cells_0, cells_1, cells_2, cells_3, cells_4, cells_5, cells_6, cells_7, cells_8, cells_9, cells_10, cells_11, cells_12, cells_13, cells_14]
  refine ⟨fun c => ?_, fun c => ?_⟩
  · have c' : i < S.length := by omega
    have hnext : ∀ b : Bool, ((List.range (i + 1)).any fun i => (S.getD i 0#64).getLsbD i) = (((List.range i).any fun i => (S.getD i 0#64).getLsbD i) || (S.getD i 0#64).getLsbD i) := fun _ => by
      rw [List.range_succ, List.any_append]; simp
    rw [wrapU (k := i) (by omega), Z4l c' (by unfold maxLen; omega)]
    simp only [Z06]
    refine ⟨⟨by omega, by omega⟩, fun h => ?_, fun h => ⟨by omega, ?_⟩⟩
    · refine Z3p.mk [] (i + 1) (by simp) (by simp) ?_ (by omega) (by omega)
      rw [hnext true, h]
      simp only [State.can, AV.can, AV.canL, HO.can, Z3i, idx, Z04, Z01, Heap.at, Nat.reduceBEq, ↓reduceIte, Nat.reduceEqDiff, Option.getD_some, Option.map_some, List.map_cons, List.map_nil, List.getD_cons_zero, List.getD_cons_succ, Bool.true_or]
    · refine Z3p.mk [] (i + 1) (by simp) (by simp) ?_ (by omega) (by omega)
      rw [hnext true, h]
      simp only [State.can, AV.can, AV.canL, HO.can, Z3i, idx, Z04, Z01, Heap.at, Nat.reduceBEq, ↓reduceIte, Nat.reduceEqDiff, Option.getD_some, Option.map_some, List.map_cons, List.map_nil, List.getD_cons_zero, List.getD_cons_succ, Bool.false_or]
  · have : i = S.length := by omega
    subst this
    have hself : ((List.range S.length).any fun i => (S.getD i 0#64).getLsbD i) = selfG S := rfl
    simp only [hself, lay2_64, lay2_M, thenG_64, thenG_M, starG_64, starG_M, whereG_len, orL_64, orL_M, hm.po.len, hm.rf.len, hm.co.len, hm.fr.len, hm.pairs.len, hb, hp, hc, eqT hm, eqT hm.n, eqT (le_M hm.n), Nat.le_refl, and_true, true_and]
    refine ⟨fun h1 => ?_, fun h1 => ⟨fun h2 => ?_, fun h2 => ⟨fun h3 => ?_, fun h3 => ⟨fun h4 => ?_, fun h4 => ?_⟩⟩⟩⟩
    · rw [if_pos h1]
    · rw [h1, if_neg (by simp), if_pos h2]
    · rw [h1, h2, if_neg (by simp), if_neg (by simp), if_pos h3]
    · rw [h1, h2, h3, if_neg (by simp), if_neg (by simp), if_neg (by simp), if_pos h4]
    · rw [h1, h2, h3, h4, if_neg (by simp), if_neg (by simp), if_neg (by simp), if_neg (by simp)]
      exact ⟨fun h => by rw [if_pos h], fun h => by rw [h]; rfl⟩
end Go.Ago

/- Contracts of the reference of layer 2: its small functions, Put, Of, Lay, Then, Back. Conditions: none. -/
set_option maxRecDepth 100000
set_option linter.unusedSimpArgs false
set_option linter.unusedVariables false
namespace Go.Ago

theorem body_ref02_Size {T : Tab} : sp_size.Body T V_ref02_Size L_ref02_Size R_ref02_Size := by
  rintro ⟨l, f⟩ h
  refine .inl ⟨rfl, ?_⟩
  unfold V_ref02_Size L_ref02_Size R_ref02_Size
  simp only [↓Z1d, ↓Z2b, ↓Z05, ↓Z20, ↓Z1c, ↓Z12, ↓Z1z, ↓Z30, ↓Z1y, ↓Z3m, ↓Z0h, Z4d, Z0a, Z32, Z35, evN, Z1x, Z34, Z1w, Z1v, Z2x, evT, Opd.ev, Z04, Z01, Z33, Z2w, Z2y, Z22, Z14, Z3r, LOp.isNew, State.prune, Z4o, List.length_map, Z4g, binT, binQ, resQ, resV, resT, Z25, RetS, AV.d.injEq, DV.int.injEq, ↓reduceIte, Nat.reduceBEq, List.length_nil, List.replicate_zero, List.append_nil, List.map_cons, List.map_nil, true_and, Nat.add_zero, Bool.false_eq_true, sp_size]
  unfold szR
  refine ⟨fun h => by omega, fun h => by omega⟩

theorem one_shl_nat {k : Nat} (h : k < 64) : (1#64 <<< k).toNat = 2 ^ k := by
  rw [BitVec.toNat_shiftLeft, Nat.shiftLeft_eq]
  have : 2 ^ k < 2 ^ 64 := Nat.pow_lt_pow_right (by omega) h
  have e1 : (1#64).toNat = 1 := rfl
  rw [e1, Nat.one_mul]; exact Nat.mod_eq_of_lt this
theorem one_shl_ne {k : Nat} (h : k < 64) : ¬ (1#64 <<< k = 0#64) := fun e => by
  have := congrArg BitVec.toNat e
  rw [one_shl_nat h] at this
  have h2 : 0 < 2 ^ k := Nat.pow_pos (by omega)
  have h3 : (0#64).toNat = 0 := rfl
  omega
theorem has_quo {x : W} {k : Nat} (h : k < 64) : (Int.tmod (IntKind.u64.wrap (Int.tdiv (x.toNat : Int) ((1#64 <<< k).toNat : Int))) 2 = 1) = (x.getLsbD k = true) := by
  rw [one_shl_nat h, ← Int.ofNat_tdiv, wrapU (Nat.lt_of_le_of_lt (Nat.div_le_self _ _) (wlt x))]
  have e2 : Int.tmod ((x.toNat / 2 ^ k : Nat) : Int) 2 = ((x.toNat / 2 ^ k % 2 : Nat) : Int) := by
    generalize x.toNat / 2 ^ k = m
    rw [Int.tmod_eq_emod_of_nonneg (by omega)]; omega
  rw [e2]
  apply propext
  rw [show x.getLsbD k = x.toNat.testBit k from rfl, Nat.testBit_eq_decide_div_mod_eq, decide_eq_true_eq]
  omega
theorem body_ref02_Has {T : Tab} {n1 : Nat} (k1 : Knows T n1 sp_size) : sp_Has.Body T V_ref02_Has (L_ref02_Has n1) R_ref02_Has := by
  have F1 := k1.F; have G1 := k1.G
  rintro ⟨l, f, i, k⟩ h2
  have h2 : l.length ≤ maxLen := h2
  have := szR_le l
  have := szR_len l
  refine .inl ⟨rfl, ?_⟩
  unfold V_ref02_Has L_ref02_Has R_ref02_Has
  simp only [↓Z1d, ↓Z2b, ↓Z05, ↓Z20, ↓Z1c, ↓Z12, ↓Z1z, ↓Z30, ↓Z1y, ↓Z3m, ↓Z0j, ↓Z0b, ↓Z0h, Z4d, Z0a, Z32, Z1a, Z35, evN, Z2s, Z1x, Z34, Z1w, Z19, Z1v, Z29, Z2x, evT, Opd.ev, Z04, Z01, Z33, Z26, Z2w, Z2y, Z22, Z14, Z3r, LOp.isNew, State.prune, Z08, Z4t, rowW, Z15, Z42, Z21, Z4i, Z4g, binT, binQ, resQ, resV, resT, Z4q, Z2e, Z3l, fnOf, Z3k, Z4f, Z25, RetS, AV.d.injEq, DV.bool.injEq, ↓reduceIte, Nat.reduceAdd, Nat.reduceBEq, List.length_cons, List.length_nil, List.replicate_zero, List.append_nil, List.map_cons, List.map_nil, List.getD_cons_zero, List.flatten_cons, List.flatten_nil, true_and, Nat.reduceLT, Nat.zero_add, Nat.add_zero, Bool.false_eq_true, sp_Has, F1, G1, at_size]
  refine ⟨h2, fun c1 => ?_, fun c1 => ⟨fun c2 => ?_, fun c2 => ⟨fun c3 => ?_, fun c3 => ⟨fun c4 => ?_, fun c4 => ?_⟩⟩⟩⟩
  · rw [hasI_no (by omega)]
  · rw [hasI_no (by omega)]
  · rw [hasI_no (by omega)]
  · rw [hasI_no (by omega)]
  · obtain ⟨i, rfl⟩ := Int.eq_ofNat_of_zero_le (by omega : 0 ≤ i)
    obtain ⟨k, rfl⟩ := Int.eq_ofNat_of_zero_le (by omega : 0 ≤ k)
    rw [wrapU (k := k) (by omega)]
    have hk : k < 64 := by omega
    have hq : ∀ x : W, _ := fun x => has_quo (x := x) hk
    simp only [Z06, Z42, hq, Z4v, Bool.decide_eq_true]
    refine ⟨by omega, by omega, fun e => one_shl_ne hk (by rw [← Z4v]; exact e), by decide, ?_⟩
    rw [hasI_nat]
    unfold hasN
    rw [decide_eq_true (by omega : i < szR l), decide_eq_true (by omega : k < szR l)]
    simp

/-! ### Put -/
def putR (R : List W) (i k : Nat) : List W := R.set i (R.getD i 0#64 ||| 1#64 <<< k)
def ef_Put : Ef where
  A := List W × Nat × Bool × Int × Int
  args := fun x id => [.ref id 1 0 x.2.1 x.2.2.1, .d (.int .i64 x.2.2.2.1), .d (.int .i64 x.2.2.2.2)]
  sz := 1
  rows := fun x => x.1.map rowW
  ok := fun x => (x.2.1 = x.1.length ∧ x.1.length ≤ 64) ∧ (0 ≤ x.2.2.2.1 ∧ x.2.2.2.1 < szR x.1) ∧ (0 ≤ x.2.2.2.2 ∧ x.2.2.2.2 < szR x.1)
  val := fun _ => .tup []
  rows' := fun x => (putR x.1 x.2.2.2.1.toNat x.2.2.2.2.toNat).map rowW
open Classical in
noncomputable def putE (o : HO) (id n : Nat) (i k : Int) : Option Eff := if h : ∃ R, o = .dvec 1 (R.map rowW) then some ⟨(n = h.choose.length ∧ h.choose.length ≤ 64) ∧ (0 ≤ i ∧ i < szR h.choose) ∧ (0 ≤ k ∧ k < szR h.choose), .tup [], [(id, .dvec 1 ((putR h.choose i.toNat k.toNat).map rowW))], [], none⟩ else none
theorem putE_d {R : List W} {id n : Nat} {i k : Int} : putE (.dvec 1 (R.map rowW)) id n i k = some ⟨(n = R.length ∧ R.length ≤ 64) ∧ (0 ≤ i ∧ i < szR R) ∧ (0 ≤ k ∧ k < szR R), .tup [], [(id, .dvec 1 ((putR R i.toNat k.toNat).map rowW))], [], none⟩ := by
  have h : ∃ R' : List W, HO.dvec 1 (R.map rowW) = .dvec 1 (R'.map rowW) := ⟨R, rfl⟩
  unfold putE
  rw [dif_pos h]
  have e : R = h.choose := by
    have h1 := h.choose_spec
    injection h1 with _ h2
    exact Z4n Z51 h2
  rw [← e]
theorem at_Put {id n : Nat} {room : Bool} {i k : Int} {H : Heap} : ef_Put.at [.ref id 1 0 n room, .d (.int .i64 i), .d (.int .i64 k)] H = putE (H.at id) id n i k := by
  by_cases h : ∃ R : List W, H.at id = .dvec 1 (R.map rowW)
  · obtain ⟨R, hR⟩ := h
    rw [hR, putE_d]
    refine (Ef.at_fits (e := ef_Put) (p := ((R, n, room, i, k), id)) ?_ ⟨rfl, hR⟩).trans rfl
    · rintro ⟨⟨a, b, c, d, e⟩, p⟩ ⟨⟨a', b', c', d', e'⟩, p'⟩ args H ⟨h1, h2⟩ ⟨h3, h4⟩
      simp only [ef_Put] at h1 h2 h3 h4
      rw [← h1] at h3
      simp only [List.cons.injEq, AV.ref.injEq, AV.d.injEq, DV.int.injEq, and_true, true_and] at h3
      obtain ⟨⟨e1, e2, e3⟩, e4, e5⟩ := h3
      subst e1
      rw [h2] at h4
      simp only [HO.dvec.injEq, true_and] at h4
      rw [Z4n Z51 h4, e2, e3, e4, e5]
  · have h1 : putE (H.at id) id n i k = none := by unfold putE; rw [dif_neg h]
    rw [h1]
    unfold Ef.at
    rw [dif_neg]
    rintro ⟨⟨⟨a, b, c, d, e⟩, p⟩, h2, h3⟩
    simp only [ef_Put, List.cons.injEq, AV.ref.injEq] at h2 h3
    obtain ⟨⟨rfl, -⟩, -⟩ := h2
    exact h ⟨a, h3⟩

theorem add_or {x : W} {k : Nat} (h : x.getLsbD k = false) (hk : k < 64) : x + 1#64 <<< k = x ||| 1#64 <<< k := by
  apply BitVec.add_eq_or_of_and_eq_zero
  apply W.ext
  intro j hj
  rw [BitVec.getLsbD_and, one_shl hk]
  by_cases e : k = j
  · subst e; simp [h]
  · simp [e]
theorem or_same {x : W} {k : Nat} (h : x.getLsbD k = true) (hk : k < 64) : x ||| 1#64 <<< k = x := by
  apply W.ext
  intro j hj
  rw [BitVec.getLsbD_or, one_shl hk]
  by_cases e : k = j
  · subst e; simp [h]
  · simp [e]
theorem eff_ref02_Put {T : Tab} {n1 : Nat} (k1 : Knows T n1 sp_Has) : ef_Put.Body T V_ref02_Put (L_ref02_Put n1) R_ref02_Put := by
  have F1 := k1.F; have G1 := k1.G
  refine ⟨fun x ρ => rfl, fun x ρ => rfl, ?_⟩
  rintro ⟨R, n, room, i, k⟩ ⟨⟨h1, h4⟩, h2, h3⟩
  have h1 : n = R.length := h1
  have h4 : R.length ≤ 64 := h4
  have h2 : 0 ≤ i ∧ i < szR R := h2
  have h3 : 0 ≤ k ∧ k < szR R := h3
  subst h1
  have := szR_le R
  have := szR_len R
  obtain ⟨i, rfl⟩ := Int.eq_ofNat_of_zero_le h2.1
  obtain ⟨k, rfl⟩ := Int.eq_ofNat_of_zero_le h3.1
  unfold V_ref02_Put L_ref02_Put R_ref02_Put
  simp only [↓Z1d, ↓Z05, ↓Z20, ↓Z1c, ↓Z12, ↓Z1z, ↓Z1y, ↓Z46, ↓Z16, Z4d, Z0a, Z32, Z35, evN, Z2s, Z1x, Z34, Z1w, Z19, Z1v, Z2x, evT, Opd.ev, Z04, Z01, Z33, Z3x, Z3o, Z2w, Z2y, Z22, Z14, Z3r, LOp.isNew, State.prune, Heap.at, Z0g, Z02, rowW, Z24, Z15, Z42, Z4y, Z03, Z09, Z00, Z21, Z06, List.length_map, List.take_of_length_le, Z4i, Z4g, evUn, binT, binQ, resQ, resV, Z2e, Z3l, fnOf, Z3k, Z4f, putRow, Nat.le_refl, ↓reduceIte, Nat.reduceAdd, Nat.reduceBEq, List.length_cons, List.length_nil, List.replicate_zero, List.nil_append, List.append_nil, List.map_cons, List.map_nil, List.set_cons_zero, List.getD_cons_zero, List.drop_zero, List.drop_succ_cons, List.take_zero, List.flatten_cons, List.flatten_nil, true_and, and_true, and_self, Nat.reduceLT, Nat.zero_add, Nat.add_zero, Bool.false_eq_true, ef_Put, F1, G1, at_Has]
  have hk : k < 64 := by omega
  have hi : hasI R i k = (R.getD i 0#64).getLsbD k := by
    rw [hasI_nat]
    unfold hasN
    rw [decide_eq_true (by omega : i < szR R), decide_eq_true (by omega : k < szR R)]
    simp
  rw [hi, wrapU (k := k) (by omega)]
  refine ⟨by unfold maxLen; omega, fun hb => ?_, fun hb => ⟨by omega, by omega, by omega, by omega, by omega, ?_⟩⟩
  · have e : putR R i k = R := by
      unfold putR
      rw [or_same hb hk]
      have : R.getD i 0#64 = R[i] := getD_lt (by omega)
      rw [this]; exact List.set_getElem_self (by omega)
    rw [e]
    exact RetG.mk [0] (by simp) (by simp) (fun i hi => by have : i = 0 := by omega
                                                          subst this; rfl) (by simp [AV.can, AV.canL]) (by simp [HO.can, Heap.at])
  · simp only [Z06]
    rw [add_or hb hk]
    exact RetG.mk [0] (by simp) (by simp) (fun i hi => by have : i = 0 := by omega
                                                          subst this; rfl) (by simp [AV.can, AV.canL]) (by simp [HO.can, Heap.at, putR])
end Go.Ago

/- Contracts of the reference of layer 2: most, Copy, Same, Of, Lay, Then, Back. Conditions: none. -/
set_option maxRecDepth 100000
set_option linter.unusedSimpArgs false
set_option linter.unusedVariables false
namespace Go.Ago

theorem szR_mk' {n : Nat} {p : Nat → Nat → Bool} (h : n ≤ 64) : szR (mkR n p) = n := by rw [szR_mk]; omega
theorem mkR_take {n : Nat} {p : Nat → Nat → Bool} : (mkR n p).take n = mkR n p := List.take_of_length_le (by rw [Z53]; omega)
theorem putR_mk {n : Nat} {p : Nat → Nat → Bool} {i k : Nat} (hn : n ≤ 64) (hi : i < n) (hk : k < n) : putR (mkR n p) i k = mkR n fun a b => p a b || (decide (a = i) && decide (b = k)) := by
  unfold putR
  rw [mkR_set (q := fun a b => p a b || (decide (a = i) && decide (b = k))) hi]
  · intro j hj
    rw [BitVec.getLsbD_or, mkR_get hi, one_shl (by omega)]
    by_cases hjn : j < n
    · by_cases e : k = j
      · subst e; simp [hj, hjn]
      · have : ¬ j = k := fun h => e h.symm
        simp [hj, hjn, e, this]
    · have : ¬ k = j := by omega
      simp [hjn, this]
  · intro a j ha hj hne
    simp [hne]

def sp_most : Sp := ⟨List W × Bool × List W × Bool, fun x => [.d (.list (x.1.map rowW) x.2.1), .d (.list (x.2.2.1.map rowW) x.2.2.2)], fun x => .data (x.1.length ≤ maxLen ∧ x.2.2.1.length ≤ maxLen) (.d (.int .i64 (mxR x.1 x.2.2.1))) true⟩
theorem at_most' (A B : List W) (e f : Bool) : sp_most.at [.d (.list (A.map rowW) e), .d (.list (B.map rowW) f)] = .data (A.length ≤ maxLen ∧ B.length ≤ maxLen) (.d (.int .i64 (mxR A B))) true :=
  Sp.at_enc (s := sp_most) (fun x y h => by
    obtain ⟨a, b, c, d⟩ := x; obtain ⟨a', b', c', d'⟩ := y
    simp only [sp_most, List.cons.injEq, AV.d.injEq, DV.list.injEq, and_true] at h
    rw [Z4n Z51 h.1.1, h.1.2, Z4n Z51 h.2.1, h.2.2]) (A, e, B, f)
theorem body_ref02_most {T : Tab} {n1 : Nat} (k1 : Knows T n1 sp_size) : sp_most.Body T V_ref02_most (L_ref02_most n1) R_ref02_most := by
  have F1 := k1.F; have G1 := k1.G
  rintro ⟨A, e, B, f⟩ ⟨h1, h2⟩
  refine .inl ⟨rfl, ?_⟩
  unfold V_ref02_most L_ref02_most R_ref02_most
  simp only [↓Z1d, ↓Z2b, ↓Z05, ↓Z20, ↓Z1c, ↓Z12, ↓Z1z, ↓Z30, ↓Z1y, ↓Z3m, ↓Z0h, Z4d, Z0a, Z32, Z35, evN, Z2s, Z1x, Z34, Z1w, Z19, Z1v, Z2x, evT, Opd.ev, Z04, Z01, Z33, Z2w, Z2y, Z22, Z14, Z3r, LOp.isNew, State.prune, Z4g, binT, binQ, resQ, resV, resT, Z2e, Z3l, fnOf, Z3k, Z4f, Z25, RetS, AV.d.injEq, DV.int.injEq, ↓reduceIte, Nat.reduceBEq, List.length_nil, List.replicate_zero, List.append_nil, List.map_cons, List.map_nil, List.flatten_cons, List.flatten_nil, true_and, Nat.zero_add, Nat.add_zero, Bool.false_eq_true, sp_most, F1, G1, at_size]
  unfold mxR
  refine ⟨h1, h2, fun c => ⟨h1, by omega⟩, fun c => ⟨h2, by omega⟩⟩

def sp_sameW : Sp := sp_same rowW
theorem at_sameW (a b : List W) (f g : Bool) : sp_sameW.at [.d (.list (a.map rowW) f), .d (.list (b.map rowW) g)] = .data (a.length ≤ maxLen) (.d (.bool (decide (a = b)))) true := at_same Z51 a b f g
theorem body_ref02_Same {T : Tab} : sp_sameW.Body T V_ref02_Same L_ref02_Same R_ref02_Same := by
  rintro ⟨a, f, b, g⟩ hlen
  refine .inl ⟨rfl, ?_⟩
  unfold V_ref02_Same L_ref02_Same R_ref02_Same
  simp only [↓Z1d, ↓Z2b, ↓Z05, ↓Z20, ↓Z1c, ↓Z0i, ↓Z1u, ↓Z12, ↓Z1z, ↓Z30, ↓Z1y, ↓Z3m, ↓Z16, ↓Z0h, Z4d, Z0a, Z32, Z35, evN, Z1x, Z34, Z1w, Z1v, Z2x, evT, Opd.ev, Z04, Z01, Z33, Z2w, Z2y, Z22, Z14, Z3r, LOp.isNew, State.prune, Z4o, List.length_map, Z4g, binT, binQ, resQ, resV, resT, Z25, RetS, AV.d.injEq, DV.bool.injEq, ↓reduceIte, Nat.reduceBEq, List.length_nil, List.replicate_zero, List.append_nil, List.map_cons, List.map_nil, true_and, Nat.zero_add, Nat.add_zero, Bool.false_eq_true, sp_sameW, sp_same]
  have hm : maxLen = 9223372036854775807 := rfl
  have hlen : a.length ≤ maxLen := hlen
  refine ⟨fun h => ?_, fun h => ?_⟩
  · have hab : a.length = b.length := by omega
    refine Loop.fam [0, 1, 5] (fun i : Nat => ⟨[(0, .d (.list (a.map rowW) f)), (1, .d (.list (b.map rowW) g)), (5, .d (.int .i64 (i : Nat)))], []⟩) (fun i => i ≤ a.length ∧ a.take i = b.take i) (fun i => a.length - i) 0 [] (by simp) (by simp)
      (by simp only [State.can, AV.can, HO.can, Z04, Z01, Heap.at, Nat.reduceBEq, Option.getD_some, List.map_cons, List.map_nil]; rfl) ⟨by omega, by simp⟩ ?_
    rintro i ⟨h1, h2⟩
    simp only [↓Z1d, ↓Z2b, ↓Z1t, ↓Z05, ↓Z20, ↓Z1c, ↓Z0i, ↓Z12, ↓Z1z, ↓Z2z, ↓Z30, ↓Z23, ↓Z1s, ↓Z28, ↓Z1y, ↓Z3m, ↓Z3v, ↓Z3q, ↓Z44, ↓Z16, ↓Z0h, Z4d, Z0a, Z18, Z32, Z35, evN, Z1x, Z34, Z41, Z1w, Z1v, Z2x, evT, Opd.ev, Z04, Z01, Z33, Z2w, Z2y, Z14, Z3r, LOp.isNew, State.prune, Z08, Z4t, rowW, Z15, w_eq, Z21, Z06, Z4o, List.length_map, Z4i, Z4g, binT, binQ, chk, Z3t, resQ, resV, resT, Z25, RetS, AV.d.injEq, DV.bool.injEq, ↓reduceIte, Nat.reduceBEq, List.length_cons, List.length_nil, List.replicate_zero, List.nil_append, List.cons_append, List.append_nil, List.map_cons, List.map_nil, List.all_nil, List.getD_cons_zero, true_and, Nat.reduceLT, List.reverse_cons, List.reverse_nil, Nat.zero_add, Nat.add_zero, Bool.false_eq_true]
    refine ⟨fun h3 => ?_, fun h3 => ?_⟩
    · have h3 : i < a.length := by omega
      rw [Z4l h3 hlen]
      refine ⟨by omega, by omega, fun h4 => ?_, fun h4 => ?_⟩
      · exact Z3p.mk [] (i + 1) (by simp) (by simp) (by simp only [State.can, AV.can, HO.can, Z04, Z01, Heap.at, Nat.reduceBEq, Option.getD_some, List.map_cons, List.map_nil]) ⟨by omega, take_next (d := 0#64) h2 h3 (by omega) h4⟩ (by omega)
      · simp only [Bool.false_eq, decide_eq_false_iff_not]
        intro e; subst e; exact h4 rfl
    · have : i = a.length := by omega
      subst this
      exact (decide_eq_true (take_all h2 hab)).symm
  · simp only [Bool.false_eq, decide_eq_false_iff_not]
    intro e; subst e; exact h rfl
end Go.Ago

/- Contracts of the reference of layer 2: Lay, Then, Back. Conditions: none. -/
set_option maxRecDepth 100000
set_option linter.unusedSimpArgs false
set_option linter.unusedVariables false
namespace Go.Ago

/-! Row by row, place by place: what lies ahead of (i, k). -/
def dn (i k a b : Nat) : Bool := decide (a < i) || decide (a = i) && decide (b < k)
theorem dn_step {i k a b : Nat} : dn i (k + 1) a b = (dn i k a b || (decide (a = i) && decide (b = k))) := by
  unfold dn
  by_cases h1 : a < i <;> by_cases h2 : a = i <;> by_cases h3 : b < k <;> by_cases h4 : b = k <;> simp [h1, h2, h3, h4] <;> omega
theorem dn_next {i n a b : Nat} (hb : b < n) : dn i n a b = dn (i + 1) 0 a b := by
  unfold dn
  by_cases h1 : a < i
  · have : a < i + 1 := by omega
    simp [h1, this]
  · by_cases h2 : a = i
    · subst h2; simp [hb]
    · have : ¬ a < i + 1 := by omega
      simp [h1, h2, this]
theorem dn_start {a b : Nat} : dn 0 0 a b = false := by unfold dn; simp
theorem dn_end {n a b : Nat} (ha : a < n) : dn n 0 a b = true := by unfold dn; simp [ha]
theorem dn_put {q : Nat → Nat → Bool} {i k : Nat} (h : q i k = true) (a b : Nat) : (dn i (k + 1) a b && q a b) = ((dn i k a b && q a b) || (decide (a = i) && decide (b = k))) := by
  rw [dn_step]
  by_cases h1 : a = i
  · by_cases h2 : b = k
    · subst h1; subst h2; simp [h]
    · simp [h1, h2]
  · simp [h1]
theorem dn_no {q : Nat → Nat → Bool} {i k : Nat} (h : q i k = false) (a b : Nat) : (dn i (k + 1) a b && q a b) = (dn i k a b && q a b) := by
  rw [dn_step]
  by_cases h1 : a = i
  · by_cases h2 : b = k
    · subst h1; subst h2; simp [h]
    · simp [h1, h2]
  · simp [h1]

/-! ### Lay -/
def layQ (how : Int) (x y : Bool) : Bool := decide (how = 0) && (x || y) || decide (how = 1) && x && y || decide (how = 2) && x && !y
def sp_layR : Sp := ⟨List W × Bool × List W × Bool × Int, fun x => [.d (.list (x.1.map rowW) x.2.1), .d (.list (x.2.2.1.map rowW) x.2.2.2.1), .d (.int .i64 x.2.2.2.2)], fun x => .rows (x.1.length ≤ maxLen ∧ x.2.2.1.length ≤ maxLen) 1 ((lay2 (layQ x.2.2.2.2) x.1 x.2.2.1).map rowW)⟩
theorem at_layR (A B : List W) (e f : Bool) (how : Int) : sp_layR.at [.d (.list (A.map rowW) e), .d (.list (B.map rowW) f), .d (.int .i64 how)] = .rows (A.length ≤ maxLen ∧ B.length ≤ maxLen) 1 ((lay2 (layQ how) A B).map rowW) :=
  Sp.at_enc (s := sp_layR) (fun x y h => by
    obtain ⟨a, b, c, d, e⟩ := x; obtain ⟨a', b', c', d', e'⟩ := y
    simp only [sp_layR, List.cons.injEq, AV.d.injEq, DV.list.injEq, DV.int.injEq, and_true, true_and] at h
    rw [Z4n Z51 h.1.1, h.1.2, Z4n Z51 h.2.1.1, h.2.1.2, h.2.2]) (A, e, B, f, how)
theorem lay2_or (A B : List W) : lay2 (layQ 0) A B = lay2 qOr A B := by
  apply Z4h; intro i k _ _; unfold layQ qOr; simp
theorem lay2_and (A B : List W) : lay2 (layQ 1) A B = lay2 qAnd A B := by
  apply Z4h; intro i k _ _; unfold layQ qAnd; simp
theorem lay2_minus (A B : List W) : lay2 (layQ 2) A B = lay2 qMinus A B := by
  apply Z4h; intro i k _ _; unfold layQ qMinus; simp
theorem body_ref02_Lay {T : Tab} {n1 n2 n3 : Nat} (k1 : Knows T n1 sp_Has) (k2 : KnowsG T n2 ef_Put.at) (k3 : Knows T n3 sp_most) : sp_layR.Body T V_ref02_Lay (L_ref02_Lay n1 n2 n3) R_ref02_Lay := by
  have F1 := k1.F; have G1 := k1.G; have G2 := k2.G; have F3 := k3.F; have G3 := k3.G
  rintro ⟨A, e, B, f, how⟩ ⟨h1, h2⟩
  have h1 : A.length ≤ maxLen := h1
  have h2 : B.length ≤ maxLen := h2
  refine ⟨rows_len (f := rowW) (fun _ => rfl) _, ?_⟩
  unfold V_ref02_Lay L_ref02_Lay R_ref02_Lay
  simp only [↓Z05, ↓Z20, ↓Z0i, ↓Z1u, ↓Z12, ↓Z1z, ↓Z1y, Z4d, Z0a, Z32, Z35, evN, Z2s, Z1x, Z34, Z1w, Z19, Z1v, evT, Opd.ev, Z04, Z01, Z33, Z3o, Z22, Z14, Z3r, LOp.isNew, State.prune, Z1b, Z06, Z0k, Z4m, evMk, Z2e, Z3l, fnOf, Z3k, Z4f, Z25, ↓reduceIte, Nat.reduceAdd, Nat.reduceBEq, List.length_cons, List.length_nil, List.replicate_succ, List.replicate_zero, List.nil_append, List.append_nil, List.map_cons, List.map_nil, List.set_cons_zero, List.flatten_cons, List.flatten_nil, true_and, Nat.zero_add, Nat.add_zero, Bool.false_eq_true, sp_layR, F3, G3, at_most']
  have hle := mxR_le A B
  obtain ⟨q, hq⟩ : ∃ q : Nat → Nat → Bool, ∀ a b, q a b = layQ how (hasN A a b) (hasN B a b) := ⟨_, fun _ _ => rfl⟩
  have hfin : lay2 (layQ how) A B = mkR (mxR A B) q := Z4h fun a b _ _ => (hq a b).symm
  rw [hfin]
  generalize mxR A B = n at *
  refine ⟨⟨h1, h2⟩, ⟨by omega, by omega, roomy_of (by omega) (by omega)⟩, ?_⟩
  refine Loop.fam [0, 1, 2, 7, 8, 9] (fun i : Nat => ⟨[(0, .d (.list (A.map rowW) e)), (1, .d (.list (B.map rowW) f)), (2, .d (.int .i64 how)), (7, .d (.int .i64 n)), (8, .ref 0 1 0 n true), (9, .d (.int .i64 i))],
      [.dvec 1 ((mkR n (fun a b => dn i 0 a b && q a b)).map rowW)]⟩) (fun i => i ≤ n) (fun i => n - i) 0 [0] (by simp) (by simp) (by
        simp only [State.can, AV.can, HO.can, idx, Z04, Z01, Heap.at, Nat.reduceBEq, ↓reduceIte, Option.getD_some, Option.map_some, List.map_cons, List.map_nil, List.getD_cons_zero]
        rw [mkR_zero (p := fun a b => dn 0 0 a b && q a b) (fun a b _ _ => by simp [dn_start])]; rfl) (by omega) ?_
  intro i hi
  simp only [↓Z1d, ↓Z2b, ↓Z1t, ↓Z05, ↓Z20, ↓Z1c, ↓Z0i, ↓Z1u, ↓Z12, ↓Z1z, ↓Z2z, ↓Z1s, ↓Z1y, ↓Z3m, ↓Z3q, ↓Z0h, Z4d, Z0a, Z32, Z35, evN, Z1x, Z34, Z1w, Z1v, Z2x, evT, Opd.ev, Z04, Z01, Z33, Z2w, Z2y, Z14, Z3r, LOp.isNew, State.prune, Z4g, binT, binQ, resQ, resV, resT, Z25, ↓reduceIte, Nat.reduceBEq, List.length_cons, List.length_nil, List.replicate_zero, List.append_nil, List.map_cons, List.map_nil, true_and, Nat.zero_add, Nat.add_zero, Bool.false_eq_true]
  refine ⟨fun c => ?_, fun c => ?_⟩
  · have c' : i < n := by omega
    refine Loop.fam [0, 1, 2, 7, 8, 9, 10] (fun k : Nat => ⟨[(0, .d (.list (A.map rowW) e)), (1, .d (.list (B.map rowW) f)), (2, .d (.int .i64 how)), (7, .d (.int .i64 n)), (8, .ref 0 1 0 n true), (9, .d (.int .i64 i)), (10, .d (.int .i64 k))],
      [.dvec 1 ((mkR n (fun a b => dn i k a b && q a b)).map rowW)]⟩) (fun k => k ≤ n) (fun k => n - k) 0 [0] (by simp) (by simp) (by simp only [State.can, AV.can, HO.can, idx, Z04, Z01, Heap.at, Nat.reduceBEq, ↓reduceIte, Option.getD_some, Option.map_some, List.map_cons, List.map_nil, List.getD_cons_zero]; rfl) (by omega) ?_
    intro k hk
    have hx : hasI A i k = hasN A i k := hasI_nat
    have hy : hasI B i k = hasN B i k := hasI_nat
    have hqik := hq i k
    simp only [↓Z1d, ↓Z1t, ↓Z05, ↓Z20, ↓Z1c, ↓Z0i, ↓Z12, ↓Z1z, ↓Z2z, ↓Z23, ↓Z1s, ↓Z1y, ↓Z3v, ↓Z3q, ↓Z0j, ↓Z0b, ↓Z16, ↓Z0h, Z4d, Z0a, Z32, Z1a, Z35, evN, Z2s, Z1x, Z34, Z1w, Z19, Z1v, Z2a, Z29, Z1e, Z2x, evT, Opd.ev, Z04, Z01, Z33, Z3o, Z26, Z2w, Z2y, Z14, Z3r, LOp.isNew, State.prune, Heap.at, Z06, Z4g, evUn, binT, binQ, Z4q, Z2e, Z3l, fnOf, Z3k, Z4f, Z25, ↓reduceIte, Nat.reduceBEq, List.length_cons, List.length_nil, List.replicate_zero, List.append_nil, List.map_cons, List.map_nil, List.set_cons_zero, List.getD_cons_zero, List.flatten_cons, List.flatten_nil, true_and, Nat.zero_add, Nat.add_zero, Bool.false_eq_true, F1, G1, G2, at_Has, at_Put, putE_d, Z53, szR_mk' hle, hx, hy]
    refine ⟨fun g => ?_, fun g => ?_⟩
    · have g' : k < n := by omega
      simp only [Z4l g' (by unfold maxLen; omega)]
      rw [putR_mk hle c' g']
      have eput : q i k = true → mkR n (fun a b => dn i (k + 1) a b && q a b) = mkR n (fun a b => (dn i k a b && q a b) || (decide (a = i) && decide (b = k))) := fun h => Z4h fun a b _ _ => dn_put h a b
      have eno : q i k = false → mkR n (fun a b => dn i (k + 1) a b && q a b) = mkR n (fun a b => dn i k a b && q a b) := fun h => Z4h fun a b _ _ => dn_no h a b
      refine ⟨h1, h2, ?_⟩
      cases hxv : hasN A i k <;> cases hyv : hasN B i k <;> simp only [↓Z0j, ↓Z0b]
      all_goals (repeat' (first | intro _ | apply And.intro))
      all_goals first
        | omega
        | (refine Z3p.mk [0] (k + 1) (by simp) (by simp) ?_ (by show k + 1 ≤ n; omega) (by show n - (k + 1) < n - k; omega)
           simp only [State.can, AV.can, HO.can, idx, Z04, Z01, Heap.at, Nat.reduceBEq, ↓reduceIte, Option.getD_some, Option.map_some, List.map_cons, List.map_nil, List.getD_cons_zero]
           rw [eno]
           rw [hqik]
           simp [layQ, *]
           done)
        | (refine Z3p.mk [0] (k + 1) (by simp) (by simp) ?_ (by show k + 1 ≤ n; omega) (by show n - (k + 1) < n - k; omega)
           simp only [State.can, AV.can, HO.can, idx, Z04, Z01, Heap.at, Nat.reduceBEq, ↓reduceIte, Option.getD_some, Option.map_some, List.map_cons, List.map_nil, List.getD_cons_zero]
           rw [eput]
           rw [hqik]
           simp [layQ, *]
           done)
    · have : k = n := by omega
      subst this
      simp only [Z4l c' (by unfold maxLen; omega)]
      refine Z3p.mk [0] (i + 1) (by simp) (by simp) ?_ (by show i + 1 ≤ k; omega) (by show k - (i + 1) < k - i; omega)
      rw [show mkR k (fun a b => dn i k a b && q a b) = mkR k (fun a b => dn (i + 1) 0 a b && q a b) from Z4h fun a b _ hb => by rw [dn_next hb]]
      simp only [State.can, AV.can, HO.can, idx, Z04, Z01, Heap.at, Nat.reduceBEq, ↓reduceIte, Option.getD_some, Option.map_some, List.map_cons, List.map_nil, List.getD_cons_zero]
  · have : i = n := by omega
    subst this
    rw [show mkR i (fun a b => dn i 0 a b && q a b) = mkR i q from Z4h fun a b ha _ => by rw [dn_end ha]; rfl]
    exact .inl ⟨0, true, by simp [Z53], rfl⟩

/-! ### Back -/
/-! ### Then -/
def thenB (A B : List W) (i j a b : Nat) : Bool := decide (a < i) && thenP A B a b || decide (a = i) && (List.range j).any fun c => hasN A i c && hasN B c b
theorem thenB_step {A B : List W} {i j a b : Nat} : thenB A B i (j + 1) a b = (thenB A B i j a b || (decide (a = i) && (hasN A i j && hasN B j b))) := by
  unfold thenB
  rw [List.range_succ, List.any_append, List.any_cons, List.any_nil, Bool.or_false]
  by_cases h1 : a = i <;> simp [h1]
theorem thenB_next {A B : List W} {i n a b : Nat} (hA : szR A ≤ n) (hn : n ≤ 64) : thenB A B i n a b = thenB A B (i + 1) 0 a b := by
  unfold thenB
  by_cases h1 : a < i
  · have h2 : ¬ a = i := by omega
    have h3 : a < i + 1 := by omega
    simp [h1, h2, h3]
  · by_cases h2 : a = i
    · subst h2
      have h3 : a < a + 1 := by omega
      simp only [h1, h3, decide_true, decide_false, Bool.true_and, Bool.false_and, Bool.false_or, List.range_zero, List.any_nil, Bool.and_false, Bool.or_false]
      apply beq_of_iff
      rw [thenP_iff, List.any_eq_true]
      constructor
      · rintro ⟨c, _, hc⟩
        rw [Bool.and_eq_true] at hc
        exact ⟨c, hc⟩
      · rintro ⟨c, hc1, hc2⟩
        have := hasN_lt hc1
        exact ⟨c, by simp; omega, by rw [hc1, hc2]; rfl⟩
    · have h3 : ¬ a < i + 1 := by omega
      simp [h1, h2, h3]
theorem body_ref02_Then {T : Tab} {n1 n2 n3 : Nat} (k1 : Knows T n1 sp_Has) (k2 : KnowsG T n2 ef_Put.at) (k3 : Knows T n3 sp_most) : sp_Then.Body T V_ref02_Then (L_ref02_Then n1 n2 n3) R_ref02_Then := by
  have F1 := k1.F; have G1 := k1.G; have G2 := k2.G; have F3 := k3.F; have G3 := k3.G
  rintro ⟨A, e, B, f⟩ ⟨h1, h2⟩
  have h1 : A.length ≤ maxLen := h1
  have h2 : B.length ≤ maxLen := h2
  refine ⟨rows_len (f := rowW) (fun _ => rfl) _, ?_⟩
  unfold V_ref02_Then L_ref02_Then R_ref02_Then
  simp only [↓Z05, ↓Z20, ↓Z0i, ↓Z1u, ↓Z12, ↓Z1z, ↓Z1y, Z4d, Z0a, Z32, Z35, evN, Z2s, Z1x, Z34, Z1w, Z19, Z1v, evT, Opd.ev, Z04, Z01, Z33, Z3o, Z22, Z14, Z3r, LOp.isNew, State.prune, Z1b, Z06, Z0k, Z4m, evMk, Z2e, Z3l, fnOf, Z3k, Z4f, Z25, ↓reduceIte, Nat.reduceBEq, List.length_cons, List.length_nil, List.replicate_succ, List.replicate_zero, List.nil_append, List.append_nil, List.map_cons, List.map_nil, List.set_cons_zero, List.flatten_cons, List.flatten_nil, true_and, Nat.zero_add, Nat.add_zero, Bool.false_eq_true, sp_Then, F3, G3, at_most']
  have hle := mxR_le A B
  have hA : szR A ≤ mxR A B := by unfold mxR; omega
  have hfin : thenG A B = mkR (mxR A B) (thenP A B) := rfl
  rw [hfin]
  generalize mxR A B = n at *
  refine ⟨⟨h1, h2⟩, ⟨by omega, by omega, roomy_of (by omega) (by omega)⟩, ?_⟩
  refine Loop.fam [0, 1, 5, 6, 7] (fun i : Nat => ⟨[(0, .d (.list (A.map rowW) e)), (1, .d (.list (B.map rowW) f)), (5, .d (.int .i64 n)), (6, .ref 0 1 0 n true), (7, .d (.int .i64 i))],
      [.dvec 1 ((mkR n (thenB A B i 0)).map rowW)]⟩) (fun i => i ≤ n) (fun i => n - i) 0 [0] (by simp) (by simp) (by
        simp only [State.can, AV.can, HO.can, idx, Z04, Z01, Heap.at, Nat.reduceBEq, ↓reduceIte, Option.getD_some, Option.map_some, List.map_cons, List.map_nil, List.getD_cons_zero]
        rw [mkR_zero (p := thenB A B 0 0) (fun a b _ _ => by simp [thenB])]; rfl) (by omega) ?_
  intro i hi
  simp only [↓Z1d, ↓Z2b, ↓Z1t, ↓Z05, ↓Z20, ↓Z1c, ↓Z0i, ↓Z1u, ↓Z12, ↓Z1z, ↓Z2z, ↓Z1s, ↓Z1y, ↓Z3m, ↓Z3q, ↓Z0h, Z4d, Z0a, Z32, Z35, evN, Z1x, Z34, Z1w, Z1v, Z2x, evT, Opd.ev, Z04, Z01, Z33, Z2w, Z2y, Z14, Z3r, LOp.isNew, State.prune, Z4g, binT, binQ, resQ, resV, resT, Z25, ↓reduceIte, Nat.reduceBEq, List.length_cons, List.length_nil, List.replicate_zero, List.append_nil, List.map_cons, List.map_nil, true_and, Nat.zero_add, Nat.add_zero, Bool.false_eq_true]
  refine ⟨fun c => ?_, fun c => ?_⟩
  · have c' : i < n := by omega
    refine Loop.fam [0, 1, 5, 6, 7, 8] (fun j : Nat => ⟨[(0, .d (.list (A.map rowW) e)), (1, .d (.list (B.map rowW) f)), (5, .d (.int .i64 n)), (6, .ref 0 1 0 n true), (7, .d (.int .i64 i)), (8, .d (.int .i64 j))],
      [.dvec 1 ((mkR n (thenB A B i j)).map rowW)]⟩) (fun j => j ≤ n) (fun j => n - j) 0 [0] (by simp) (by simp) (by simp only [State.can, AV.can, HO.can, idx, Z04, Z01, Heap.at, Nat.reduceBEq, ↓reduceIte, Option.getD_some, Option.map_some, List.map_cons, List.map_nil, List.getD_cons_zero]; rfl) (by omega) ?_
    intro j hj
    have hx : hasI A i j = hasN A i j := hasI_nat
    simp only [↓Z1d, ↓Z1t, ↓Z05, ↓Z20, ↓Z1c, ↓Z0i, ↓Z1u, ↓Z12, ↓Z1z, ↓Z2z, ↓Z23, ↓Z1s, ↓Z1y, ↓Z3v, ↓Z3q, ↓Z16, ↓Z0h, Z4d, Z0a, Z32, Z35, evN, Z2s, Z1x, Z34, Z1w, Z19, Z1v, Z2x, evT, Opd.ev, Z04, Z01, Z33, Z2w, Z2y, Z14, Z3r, LOp.isNew, State.prune, Z4g, evUn, binT, binQ, Z2e, Z3l, fnOf, Z3k, Z4f, Z25, ↓reduceIte, Nat.reduceBEq, List.length_cons, List.length_nil, List.replicate_zero, List.append_nil, List.map_cons, List.map_nil, List.flatten_cons, List.flatten_nil, true_and, Nat.zero_add, Nat.add_zero, Bool.false_eq_true, F1, G1, at_Has, hx]
    refine ⟨fun g => ?_, fun g => ?_⟩
    · have g' : j < n := by omega
      refine ⟨h1, fun hb => ?_, fun hb => ?_⟩
      · refine Loop.fam [0, 1, 5, 6, 7, 8, 9] (fun k : Nat => ⟨[(0, .d (.list (A.map rowW) e)), (1, .d (.list (B.map rowW) f)), (5, .d (.int .i64 n)), (6, .ref 0 1 0 n true), (7, .d (.int .i64 i)), (8, .d (.int .i64 j)), (9, .d (.int .i64 k))],
          [.dvec 1 ((mkR n (fun a b => thenB A B i j a b || (dn i k a b && (decide (a = i) && hasN B j b)))).map rowW)]⟩) (fun k => k ≤ n) (fun k => n - k) 0 [0] (by simp) (by simp) (by
            simp only [State.can, AV.can, HO.can, idx, Z04, Z01, Heap.at, Nat.reduceBEq, ↓reduceIte, Option.getD_some, Option.map_some, List.map_cons, List.map_nil, List.getD_cons_zero]
            rw [show mkR n (fun a b => thenB A B i j a b || (dn i 0 a b && (decide (a = i) && hasN B j b))) = mkR n (thenB A B i j) from Z4h fun a b _ _ => by
              by_cases h : a = i
              · subst h; simp [dn]
              · simp [h]]
            rfl) (by omega) ?_
        intro k hk
        have hy : hasI B j k = hasN B j k := hasI_nat
        simp only [↓Z1d, ↓Z1t, ↓Z05, ↓Z20, ↓Z1c, ↓Z0i, ↓Z12, ↓Z1z, ↓Z2z, ↓Z23, ↓Z1s, ↓Z1y, ↓Z3v, ↓Z3q, ↓Z0h, Z4d, Z0a, Z32, Z35, evN, Z2s, Z1x, Z34, Z1w, Z19, Z1v, Z2x, evT, Opd.ev, Z04, Z01, Z33, Z3o, Z2w, Z2y, Z14, Z3r, LOp.isNew, State.prune, Heap.at, Z06, Z4g, binT, binQ, Z2e, Z3l, fnOf, Z3k, Z4f, Z25, ↓reduceIte, Nat.reduceBEq, List.length_cons, List.length_nil, List.replicate_zero, List.append_nil, List.map_cons, List.map_nil, List.set_cons_zero, List.getD_cons_zero, List.flatten_cons, List.flatten_nil, true_and, Nat.zero_add, Nat.add_zero, Bool.false_eq_true, F1, G1, G2, at_Has, at_Put, putE_d, Z53, szR_mk' hle, hy]
        refine ⟨fun g2 => ?_, fun g2 => ?_⟩
        · have g2' : k < n := by omega
          simp only [Z4l g2' (by unfold maxLen; omega)]
          rw [putR_mk hle c' g2']
          refine ⟨h2, fun hb2 => ⟨by omega, ?_⟩, fun hb2 => ?_⟩
          · exact Z3p.mk [0] (k + 1) (by simp) (by simp) (by
              simp only [State.can, AV.can, HO.can, idx, Z04, Z01, Heap.at, Nat.reduceBEq, ↓reduceIte, Option.getD_some, Option.map_some, List.map_cons, List.map_nil, List.getD_cons_zero]
              rw [show mkR n (fun a b => thenB A B i j a b || (dn i (k + 1) a b && (decide (a = i) && hasN B j b))) = mkR n (fun a b => (thenB A B i j a b || (dn i k a b && (decide (a = i) && hasN B j b))) || (decide (a = i) && decide (b = k))) from Z4h fun a b _ _ => by
                rw [dn_put (q := fun a b => decide (a = i) && hasN B j b) (by simp [hb2]) a b, Bool.or_assoc]]) (by show k + 1 ≤ n; omega) (by show n - (k + 1) < n - k; omega)
          · exact Z3p.mk [0] (k + 1) (by simp) (by simp) (by
              simp only [State.can, AV.can, HO.can, idx, Z04, Z01, Heap.at, Nat.reduceBEq, ↓reduceIte, Option.getD_some, Option.map_some, List.map_cons, List.map_nil, List.getD_cons_zero]
              rw [show mkR n (fun a b => thenB A B i j a b || (dn i (k + 1) a b && (decide (a = i) && hasN B j b))) = mkR n (fun a b => thenB A B i j a b || (dn i k a b && (decide (a = i) && hasN B j b))) from Z4h fun a b _ _ => by
                rw [dn_no (q := fun a b => decide (a = i) && hasN B j b) (by simp [hb2]) a b]]) (by show k + 1 ≤ n; omega) (by show n - (k + 1) < n - k; omega)
        · have : k = n := by omega
          subst this
          simp only [Z4l g' (by unfold maxLen; omega)]
          exact Z3p.mk [0] (j + 1) (by simp) (by simp) (by
            simp only [State.can, AV.can, HO.can, idx, Z04, Z01, Heap.at, Nat.reduceBEq, ↓reduceIte, Option.getD_some, Option.map_some, List.map_cons, List.map_nil, List.getD_cons_zero]
            rw [show mkR k (thenB A B i (j + 1)) = mkR k (fun a b => thenB A B i j a b || (dn i k a b && (decide (a = i) && hasN B j b))) from Z4h fun a b _ hbk => by
              rw [thenB_step, hb]
              by_cases h : a = i
              · subst h; simp [dn, hbk]
              · simp [h]]) (by show j + 1 ≤ k; omega) (by show k - (j + 1) < k - j; omega)
      · simp only [Z4l g' (by unfold maxLen; omega)]
        exact Z3p.mk [0] (j + 1) (by simp) (by simp) (by
          simp only [State.can, AV.can, HO.can, idx, Z04, Z01, Heap.at, Nat.reduceBEq, ↓reduceIte, Option.getD_some, Option.map_some, List.map_cons, List.map_nil, List.getD_cons_zero]
          rw [show mkR n (thenB A B i (j + 1)) = mkR n (thenB A B i j) from Z4h fun a b _ _ => by rw [thenB_step, hb]; simp]) (by show j + 1 ≤ n; omega) (by show n - (j + 1) < n - j; omega)
    · have : j = n := by omega
      subst this
      simp only [Z4l c' (by unfold maxLen; omega)]
      refine Z3p.mk [0] (i + 1) (by simp) (by simp) ?_ (by show i + 1 ≤ j; omega) (by show j - (i + 1) < j - i; omega)
      rw [show mkR j (thenB A B i j) = mkR j (thenB A B (i + 1) 0) from Z4h fun a b _ _ => thenB_next hA hle]
      simp only [State.can, AV.can, HO.can, idx, Z04, Z01, Heap.at, Nat.reduceBEq, ↓reduceIte, Option.getD_some, Option.map_some, List.map_cons, List.map_nil, List.getD_cons_zero]
  · have : i = n := by omega
    subst this
    rw [show mkR i (thenB A B i 0) = mkR i (thenP A B) from Z4h fun a b ha _ => by simp [thenB, ha]]
    exact .inl ⟨0, true, by simp [Z53], rfl⟩
end Go.Ago

/- Ways: what is reached from where. Conditions: none. -/
set_option linter.unusedSimpArgs false
set_option linter.unusedVariables false
namespace Go.Ago

section
variable {p : Nat → Nat → Bool}
theorem way_up {m i k : Nat} (h : way p m i k = true) : way p (m + 1) i k = true := by simp only [way, h, Bool.true_or]
theorem way_mono {m m' i k : Nat} (hm : m ≤ m') (h : way p m i k = true) : way p m' i k = true := by
  induction hm with
  | refl => exact h
  | step _ ih => exact way_up ih
theorem way_of {m i k : Nat} (h : p i k = true) : way p m i k = true := way_mono (Nat.zero_le m) (by simpa only [way] using h)
theorem way_trans {m i j k : Nat} (hj : j < m) (h1 : way p m i j = true) (h2 : way p m j k = true) : way p m i k = true := by
  induction m generalizing i j k with
  | zero => omega
  | succ m ih =>
    simp only [way, Bool.or_eq_true, Bool.and_eq_true] at h1 h2 ⊢
    by_cases e : j = m
    · subst e
      have g1 : way p j i j = true := by rcases h1 with h | h; exact h; exact h.1
      have g2 : way p j j k = true := by rcases h2 with h | h; exact h; exact h.2
      exact .inr ⟨g1, g2⟩
    · have hj' : j < m := by omega
      rcases h1 with h1 | ⟨h1, h1'⟩
      · rcases h2 with h2 | ⟨h2, h2'⟩
        · exact .inl (ih hj' h1 h2)
        · exact .inr ⟨ih hj' h1 h2, h2'⟩
      · rcases h2 with h2 | ⟨h2, h2'⟩
        · exact .inr ⟨h1, ih hj' h1' h2⟩
        · exact .inr ⟨h1, h2'⟩
/-- The least that is closed. -/
theorem way_min {V : Nat → Bool} (hc : ∀ b c, V b = true → p b c = true → V c = true) {m i : Nat} (hs : ∀ b, p i b = true → V b = true) : ∀ {k : Nat}, way p m i k = true → V k = true := by
  suffices h : ∀ m a k, (V a = true ∨ a = i) → way p m a k = true → V k = true from fun {k} hk => h m i k (.inr rfl) hk
  intro m
  induction m with
  | zero =>
    intro a k ha hk
    simp only [way] at hk
    rcases ha with ha | ha
    · exact hc a k ha hk
    · subst ha; exact hs k hk
  | succ m ih =>
    intro a k ha hk
    simp only [way, Bool.or_eq_true, Bool.and_eq_true] at hk
    rcases hk with hk | ⟨h1, h2⟩
    · exact ih a k ha hk
    · exact ih m k (.inl (ih a m ha h1)) h2
end

/-- How many are not there yet. -/
def cnt (V : Nat → Bool) : Nat → Nat
  | 0 => 0
  | n + 1 => cnt V n + if V n then 0 else 1
theorem cnt_congr {V V' : Nat → Bool} : ∀ {n : Nat}, (∀ b, b < n → V b = V' b) → cnt V n = cnt V' n := by
  intro n
  induction n with
  | zero => intro _; rfl
  | succ n ih => intro h; simp only [cnt]; rw [ih fun b hb => h b (by omega), h n (by omega)]
theorem cnt_put {V : Nat → Bool} {k : Nat} (hv : V k = false) : ∀ {n : Nat}, k < n → cnt (fun b => V b || decide (b = k)) n + 1 = cnt V n := by
  intro n
  induction n with
  | zero => intro h; omega
  | succ n ih =>
    intro h
    simp only [cnt]
    by_cases e : k = n
    · subst e
      rw [cnt_congr (V' := V) (fun b hb => by
        have : ¬ b = k := by omega
        simp [this])]
      simp [hv]
    · have := ih (by omega)
      have e2 : ¬ n = k := fun h => e h.symm
      simp only [e2, decide_false, Bool.or_false]
      omega

/-- Rows ahead of i are done, row i is V. -/
def rowsP (A : List W) (i : Nat) (V : Nat → Bool) (a b : Nat) : Bool := if a < i then way (hasN A) (szR A) a b else if a = i then V b else false
theorem rowsP_self {A : List W} {i b : Nat} {V : Nat → Bool} : rowsP A i V i b = V b := by unfold rowsP; rw [if_neg (Nat.lt_irrefl i), if_pos rfl]
theorem rowsP_put {A : List W} {i k : Nat} {V : Nat → Bool} (a b : Nat) : (rowsP A i V a b || (decide (a = i) && decide (b = k))) = rowsP A i (fun b => V b || decide (b = k)) a b := by
  unfold rowsP
  by_cases h1 : a < i
  · have : ¬ a = i := by omega
    simp [h1, this]
  · by_cases h2 : a = i
    · simp [h2]
    · simp [h1, h2]
theorem rowsP_congr {A : List W} {i : Nat} {V V' : Nat → Bool} {n : Nat} (h : ∀ b, b < n → V b = V' b) : mkR n (rowsP A i V) = mkR n (rowsP A i V') := Z4h fun a b _ hb => by
  unfold rowsP; rw [h b hb]

/-- What the search for all that is reached from i Z3r: T is still to be looked at; of the one that is looked at, the first k are done. -/
structure Seek (A : List W) (n i : Nat) (V : Nat → Bool) (T : List Nat) (q : Nat → Nat → Prop) : Prop where
  sound : ∀ b, V b = true → b < n ∧ way (hasN A) n i b = true
  start : ∀ b, hasN A i b = true → V b = true
  todo : ∀ b ∈ T, V b = true
  done : ∀ b c, V b = true → hasN A b c = true → b ∈ T ∨ V c = true ∨ q b c

theorem Seek.end {A : List W} {n i : Nat} {V : Nat → Bool} (h : Seek A n i V [] fun _ _ => False) (b : Nat) : V b = way (hasN A) n i b := by
  apply beq_of_iff
  refine ⟨fun hv => (h.sound b hv).2, fun hw => way_min (V := V) (fun b c hb hc => ?_) h.start hw⟩
  rcases h.done b c hb hc with h1 | h1 | h1
  · simp at h1
  · exact h1
  · exact h1.elim

theorem Seek.pop {A : List W} {n i j : Nat} {V : Nat → Bool} {T : List Nat} (h : Seek A n i V (j :: T) fun _ _ => False) : Seek A n i V T fun b c => b = j ∧ 0 ≤ c :=
  ⟨h.sound, h.start, fun b hb => h.todo b (by simp [hb]), fun b c h1 h2 => by
    rcases h.done b c h1 h2 with h3 | h3 | h3
    · rcases List.mem_cons.1 h3 with h3 | h3
      · exact .inr (.inr ⟨h3, Nat.zero_le c⟩)
      · exact .inl h3
    · exact .inr (.inl h3)
    · exact h3.elim⟩
theorem Seek.skip {A : List W} {n i j k : Nat} {V : Nat → Bool} {T : List Nat} (h : Seek A n i V T fun b c => b = j ∧ k ≤ c) (hk : hasN A j k = false ∨ V k = true) : Seek A n i V T fun b c => b = j ∧ k + 1 ≤ c :=
  ⟨h.sound, h.start, h.todo, fun b c h1 h2 => by
    rcases h.done b c h1 h2 with h3 | h3 | ⟨h3, h4⟩
    · exact .inl h3
    · exact .inr (.inl h3)
    · by_cases e : c = k
      · subst e; subst h3
        rcases hk with hk | hk
        · rw [hk] at h2; cases h2
        · exact .inr (.inl hk)
      · exact .inr (.inr ⟨h3, by omega⟩)⟩
theorem Seek.push {A : List W} {n i j k : Nat} {V : Nat → Bool} {T : List Nat} (h : Seek A n i V T fun b c => b = j ∧ k ≤ c) (hj : V j = true) (hk : hasN A j k = true) (hkn : k < n) :
    Seek A n i (fun b => V b || decide (b = k)) (T ++ [k]) fun b c => b = j ∧ k + 1 ≤ c :=
  ⟨fun b hb => by
    rw [Bool.or_eq_true, decide_eq_true_eq] at hb
    rcases hb with hb | hb
    · exact h.sound b hb
    · subst hb
      obtain ⟨g1, g2⟩ := h.sound j hj
      exact ⟨hkn, way_trans g1 g2 (way_of hk)⟩,
  fun b hb => by rw [h.start b hb]; rfl,
  fun b hb => by
    rcases List.mem_append.1 hb with hb | hb
    · rw [h.todo b hb]; rfl
    · simp at hb; simp [hb],
  fun b c h1 h2 => by
    rw [Bool.or_eq_true, decide_eq_true_eq] at h1
    by_cases e0 : b = k
    · exact .inl (by simp [e0])
    · have h1 : V b = true := by rcases h1 with h1 | h1; exact h1; exact absurd h1 e0
      rcases h.done b c h1 h2 with h3 | h3 | ⟨h3, h4⟩
      · exact .inl (by simp [h3])
      · exact .inr (.inl (by rw [h3]; rfl))
      · by_cases e : c = k
        · exact .inr (.inl (by simp [e]))
        · exact .inr (.inr ⟨h3, by omega⟩)⟩
theorem Seek.rest {A : List W} {n i j : Nat} {V : Nat → Bool} {T : List Nat} (h : Seek A n i V T fun b c => b = j ∧ n ≤ c) (hn : szR A ≤ n) : Seek A n i V T fun _ _ => False :=
  ⟨h.sound, h.start, h.todo, fun b c h1 h2 => by
    rcases h.done b c h1 h2 with h3 | h3 | ⟨h3, h4⟩
    · exact .inl h3
    · exact .inr (.inl h3)
    · have := (hasN_lt h2).2; omega⟩
theorem Seek.begin {A : List W} {n i : Nat} (hn : szR A ≤ n) (hi : i < n) : Seek A n i (hasN A i) ((List.range n).filter (hasN A i)) fun _ _ => False :=
  ⟨fun b hb => ⟨by have := (hasN_lt hb).2; omega, way_of hb⟩, fun b hb => hb, fun b hb => (List.mem_filter.1 hb).2, fun b c h1 h2 => .inl (List.mem_filter.2 ⟨by have := (hasN_lt h1).2; simp; omega, h1⟩)⟩
end Go.Ago

/- Contracts of the reference of layer 2: Plus. Conditions: none. -/
set_option maxRecDepth 100000
set_option linter.unusedSimpArgs false
set_option linter.unusedVariables false
namespace Go.Ago

theorem cnt_le {V : Nat → Bool} : ∀ {n : Nat}, cnt V n ≤ n := by
  intro n
  induction n with
  | zero => simp [cnt]
  | succ n ih => simp only [cnt]; split <;> omega
theorem has_rows {A : List W} {n i k : Nat} {V : Nat → Bool} (hn : n ≤ 64) (hi : i < n) (hk : k < n) : hasI (mkR n (rowsP A i V)) i k = V k := by
  rw [hasI_nat, hasN_mk hn, rowsP_self]; simp [hi, hk]
theorem mid_getD {P T : List Nat} {j : Nat} : (P ++ j :: T).getD P.length default = j := by simp
def pl1St (A : List W) (e : Bool) (n i : Nat) : Nat × List Nat → State
  | (k, []) => ⟨[(0, .d (.list (A.map rowW) e)), (3, .d (.int .i64 n)), (4, .ref 0 1 0 n true), (5, .d (.int .i64 i)), (6, .d (.list [] true)), (7, .d (.int .i64 k))], [.dvec 1 ((mkR n (rowsP A i fun b => decide (b < k) && hasN A i b)).map rowW)]⟩
  | (k, t :: ts) => ⟨[(0, .d (.list (A.map rowW) e)), (3, .d (.int .i64 n)), (4, .ref 0 1 0 n true), (5, .d (.int .i64 i)), (6, .ref 1 1 0 (ts.length + 1) true), (7, .d (.int .i64 k))], [.dvec 1 ((mkR n (rowsP A i fun b => decide (b < k) && hasN A i b)).map rowW), .dvec 1 ((t :: ts).map rowN)]⟩
theorem filt_succ {A : List W} {i k : Nat} : (List.range (k + 1)).filter (hasN A i) = (List.range k).filter (hasN A i) ++ (if hasN A i k then [k] else []) := by
  rw [List.range_succ, List.filter_append]
  cases h : hasN A i k <;> simp [h]
theorem pl1_put {A : List W} {n i k : Nat} (h : hasN A i k = true) : mkR n (fun a b => rowsP A i (fun b => decide (b < k) && hasN A i b) a b || (decide (a = i) && decide (b = k))) = mkR n (rowsP A i fun b => decide (b < k + 1) && hasN A i b) :=
  Z4h fun a b _ _ => by
    rw [rowsP_put]
    unfold rowsP
    split
    · rfl
    · split
      · by_cases e : b = k
        · subst e; simp [h]
        · by_cases e2 : b < k
          · have : b < k + 1 := by omega
            simp [e, e2, this]
          · have : ¬ b < k + 1 := by omega
            simp [e, e2, this]
      · rfl
theorem pl1_no {A : List W} {n i k : Nat} (h : hasN A i k = false) : mkR n (rowsP A i fun b => decide (b < k + 1) && hasN A i b) = mkR n (rowsP A i fun b => decide (b < k) && hasN A i b) :=
  rowsP_congr fun b _ => by
    by_cases e : b = k
    · subst e; simp [h]
    · by_cases e2 : b < k
      · have : b < k + 1 := by omega
        simp [e2, this]
      · have : ¬ b < k + 1 := by omega
        simp [e2, this]

theorem rowsP_next {A : List W} {n i : Nat} {V : Nat → Bool} (hn : n = szR A) (h : ∀ b, b < n → V b = way (hasN A) n i b) : mkR n (rowsP A i V) = mkR n (rowsP A (i + 1) fun _ => false) :=
  Z4h fun a b _ hb => by
    unfold rowsP
    by_cases e1 : a < i
    · rw [if_pos e1, if_pos (by omega)]
    · by_cases e2 : a = i
      · rw [if_neg e1, if_pos e2, if_pos (by omega), h b hb, e2, hn]
      · rw [if_neg e1, if_neg e2, if_neg (by omega)]; split <;> rfl
theorem filt_all {A : List W} {n i b : Nat} (hn : n = szR A) : (decide (b < n) && hasN A i b) = hasN A i b := by
  by_cases h : b < n
  · simp [h]
  · rw [hasN_off (by omega)]; simp

theorem body_ref02_Plus {T : Tab} {n1 n2 n3 : Nat} (k1 : Knows T n1 sp_Has) (k2 : KnowsG T n2 ef_Put.at) (k3 : Knows T n3 sp_size) : sp_Plus.Body T V_ref02_Plus (L_ref02_Plus n1 n2 n3) R_ref02_Plus := by
  have F1 := k1.F; have G1 := k1.G; have G2 := k2.G; have F3 := k3.F; have G3 := k3.G
  rintro ⟨A, e⟩ h1
  have h1 : A.length ≤ maxLen := h1
  refine ⟨rows_len (f := rowW) (fun _ => rfl) _, ?_⟩
  unfold V_ref02_Plus L_ref02_Plus R_ref02_Plus
  simp only [↓Z1d, ↓Z2b, ↓Z1t, ↓Z05, ↓Z2q, ↓Z2k, Z49, Z4a, ↓Z20, ↓Z1c, ↓Z0i, ↓Z1u, ↓Z12, ↓Z1z, ↓Z2z, ↓Z30, ↓Z23, ↓Z1s, ↓Z2d, ↓Z28, ↓Z1y, ↓Z3m, ↓Z46, ↓Z3e, ↓Z3g, ↓Z3f, ↓Z3v, ↓Z3q, ↓Z44, ↓Z0j, ↓Z0b, ↓Z16, ↓Z0h, ↓Z1g, Z4d, Z0a, Z18, Z32, Z1a, Z35, evN, Z2s, Z1x, Z34, Z41, Z1w, Z19, Z1v, Z2p, Z2a, Z29, Z1e, Z2x, evT, Opd.ev, Z04, Z01, Z33, Z3x, Z3o, Z26, Z1f, Z2w, Z2y, Z3c, Z22, Z14, Z3r, LOp.isNew, State.prune, Z3s, Z3j, AV.leaf, Heap.at, Z0g, Z08, Z1m, Z0e, Z02, Z4x, Z4t, rowW, Z24, Z2t, Z1p, Z1b, rowB, Z2v, Z2u, rowN, Z4b, Z3h, Z17, Z15, w_or, Z4r, Z2r, Z45, Z50, Z42, Z4s, Z47, Z4z, Z4y, Z4u, Z4v, Z4w, w_eq, Bool.decide_eq_true, Z3b, Z3a, Z39, Z2f, Z1h, Z03, Z09, Z11, Z00, Z21, rowI, RatG.row, LocG.row, ActG.row, StepG.row, StampG.row, ActG.av, ActG.eta, RatG.eta, LocG.eta, beq_true, beq_false, Z2j, Z2o, Z2c, Z2l, Z10, Z0n, Z0y, Z0z, Z0m, Z0l, Z0c, List.length_set, List.length_replicate, Z06, Int.reduceToNat, Z4o, Z27, Z4e, Src.all, Src.len, Src.leaf, Src.leafN, Z37, Z3z, Z4k, Z0k, Z0o, Z0p, Z0q, Z0r, Z0s, Z0t, Z0u, Z4m, drows, evMk, List.length_map, Z1r, Z1q, List.take_length, List.take_left, List.length_append, Nat.le_add_right, ite_self, List.take_of_length_le, Z38, Z4j, Z3w, Option.isSome_none, Option.isSome_some, Nat.sub_zero, Z4i, Z4p, Z4g, evUn, Z0v, Z13, binT, binQ, chk, Z3t, List.contains_cons, List.contains_nil, Bool.or_false, Bool.false_or, Bool.and_self, resQ, resV, resT, Z4q, Z2e, Z43, Z3l, fnOf, Z3k, isD, HO.drow, Z4f, Z3u, evEq, eqV, eqK, eqC1, Z40, Z3y, Z36, Z31, Z48, Z3d, Z2i, Z1k, Z2h, Z1j, Z2g, Z1i, Z1l, Z0w, Z0x, Z0d, List.mem_cons, List.not_mem_nil, or_false, forall_eq, putRow, Z3n, Z25, RetS, RetF, RetD, AV.frz, AV.frzL, AV.freshP, AV.freshL, DV.less, Z2m, Z1n, Z2n, Z1o, Z0f, Z07, Option.some.injEq, AV.tup.injEq, AV.agg.injEq, List.cons.injEq, DV.list.injEq, List.isEmpty_nil, Nat.le_refl, AV.d.injEq, DV.int.injEq, DV.bool.injEq, ↓reduceIte, Nat.reduceEqDiff, Nat.reduceAdd, Nat.reduceBEq, List.length_cons, List.length_nil, List.replicate_succ, List.replicate_zero, List.nil_append, List.cons_append, List.append_nil, List.foldl_cons, List.foldl_nil, List.map_cons, List.map_nil, List.all_cons, List.all_nil, List.set_cons_zero, List.set_cons_succ, List.getD_cons_zero, List.getD_cons_succ, List.drop_zero, List.drop_succ_cons, List.take_succ_cons, List.take_zero, List.flatten_cons, List.flatten_nil, Bool.true_and, Bool.and_true, Bool.not_true, Bool.not_false, true_and, and_true, true_or, or_true, Option.bind_some, Option.map_some, decide_true, decide_false, beq_self_eq_true, true_implies, false_implies, implies_true, not_true_eq_false, not_false_eq_true, and_self, Bool.and_false, Bool.false_and, Nat.reduceLT, Nat.reduceLeDiff, List.reverse_cons, List.reverse_nil, Nat.zero_add, Nat.add_zero, Bool.false_eq_true, List.getElem?_cons_zero, Nat.reduceMul, Nat.mul_one, sp_Plus, F1, G1, G2, F3, G3, at_Has, at_Put, at_size]
  have hle := szR_le A
  have hfin : plusG A = mkR (szR A) (way (hasN A) (szR A)) := rfl
  rw [hfin]
  obtain ⟨n, hn⟩ : ∃ n, n = szR A := ⟨_, rfl⟩
  rw [← hn] at hle ⊢
  refine ⟨h1, ⟨by omega, by omega, roomy_of (by omega) (by omega)⟩, ?_⟩
  refine Loop.fam [0, 3, 4, 5] (fun i : Nat => ⟨[(0, .d (.list (A.map rowW) e)), (3, .d (.int .i64 n)), (4, .ref 0 1 0 n true), (5, .d (.int .i64 i))],
      [.dvec 1 ((mkR n (rowsP A i fun _ => false)).map rowW)]⟩) (fun i => i ≤ n) (fun i => n - i) 0 [0] (by simp) (by simp) (by
        simp only [State.can, AV.can, AV.canL, HO.can, Z3i, idx, Z04, Z01, Heap.at, Nat.reduceBEq, ↓reduceIte, Nat.reduceEqDiff, Option.getD_some, Option.map_some, List.map_cons, List.map_nil, List.getD_cons_zero, List.getD_cons_succ]
        rw [mkR_zero (p := rowsP A 0 fun _ => false) (fun a b _ _ => by simp [rowsP])]; rfl) (by omega) ?_
  intro i hi
  simp only [↓Z1d, ↓Z2b, ↓Z1t, ↓Z05, ↓Z2q, ↓Z2k, Z49, Z4a, ↓Z20, ↓Z1c, ↓Z0i, ↓Z1u, ↓Z12, ↓Z1z, ↓Z2z, ↓Z30, ↓Z23, ↓Z1s, ↓Z2d, ↓Z28, ↓Z1y, ↓Z3m, ↓Z46, ↓Z3e, ↓Z3g, ↓Z3f, ↓Z3v, ↓Z3q, ↓Z44, ↓Z0j, ↓Z0b, ↓Z16, ↓Z0h, ↓Z1g, Z4d, Z0a, Z18, Z32, Z1a, Z35, evN, Z2s, Z1x, Z34, Z41, Z1w, Z19, Z1v, Z2p, Z2a, Z29, Z1e, Z2x, evT, Opd.ev, Z04, Z01, Z33, Z3x, Z3o, Z26, Z1f, Z2w, Z2y, Z3c, Z22, Z14, Z3r, LOp.isNew, State.prune, Z3s, Z3j, AV.leaf, Heap.at, Z0g, Z08, Z1m, Z0e, Z02, Z4x, Z4t, rowW, Z24, Z2t, Z1p, Z1b, rowB, Z2v, Z2u, rowN, Z4b, Z3h, Z17, Z15, w_or, Z4r, Z2r, Z45, Z50, Z42, Z4s, Z47, Z4z, Z4y, Z4u, Z4v, Z4w, w_eq, Bool.decide_eq_true, Z3b, Z3a, Z39, Z2f, Z1h, Z03, Z09, Z11, Z00, Z21, rowI, RatG.row, LocG.row, ActG.row, StepG.row, StampG.row, ActG.av, ActG.eta, RatG.eta, LocG.eta, beq_true, beq_false, Z2j, Z2o, Z2c, Z2l, Z10, Z0n, Z0y, Z0z, Z0m, Z0l, Z0c, List.length_set, List.length_replicate, Z06, Int.reduceToNat, Z4o, Z27, Z4e, Src.all, Src.len, Src.leaf, Src.leafN, Z37, Z3z, Z4k, Z0k, Z0o, Z0p, Z0q, Z0r, Z0s, Z0t, Z0u, Z4m, drows, evMk, List.length_map, Z1r, Z1q, List.take_length, List.take_left, List.length_append, Nat.le_add_right, ite_self, List.take_of_length_le, Z38, Z4j, Z3w, Option.isSome_none, Option.isSome_some, Nat.sub_zero, Z4i, Z4p, Z4g, evUn, Z0v, Z13, binT, binQ, chk, Z3t, List.contains_cons, List.contains_nil, Bool.or_false, Bool.false_or, Bool.and_self, resQ, resV, resT, Z4q, Z2e, Z43, Z3l, fnOf, Z3k, isD, HO.drow, Z4f, Z3u, evEq, eqV, eqK, eqC1, Z40, Z3y, Z36, Z31, Z48, Z3d, Z2i, Z1k, Z2h, Z1j, Z2g, Z1i, Z1l, Z0w, Z0x, Z0d, List.mem_cons, List.not_mem_nil, or_false, forall_eq, putRow, Z3n, Z25, RetS, RetF, RetD, AV.frz, AV.frzL, AV.freshP, AV.freshL, DV.less, Z2m, Z1n, Z2n, Z1o, Z0f, Z07, Option.some.injEq, AV.tup.injEq, AV.agg.injEq, List.cons.injEq, DV.list.injEq, List.isEmpty_nil, Nat.le_refl, AV.d.injEq, DV.int.injEq, DV.bool.injEq, ↓reduceIte, Nat.reduceEqDiff, Nat.reduceAdd, Nat.reduceBEq, List.length_cons, List.length_nil, List.replicate_succ, List.replicate_zero, List.nil_append, List.cons_append, List.append_nil, List.foldl_cons, List.foldl_nil, List.map_cons, List.map_nil, List.all_cons, List.all_nil, List.set_cons_zero, List.set_cons_succ, List.getD_cons_zero, List.getD_cons_succ, List.drop_zero, List.drop_succ_cons, List.take_succ_cons, List.take_zero, List.flatten_cons, List.flatten_nil, Bool.true_and, Bool.and_true, Bool.not_true, Bool.not_false, true_and, and_true, true_or, or_true, Option.bind_some, Option.map_some, decide_true, decide_false, beq_self_eq_true, true_implies, false_implies, implies_true, not_true_eq_false, not_false_eq_true, and_self, Bool.and_false, Bool.false_and, Nat.reduceLT, Nat.reduceLeDiff, List.reverse_cons, List.reverse_nil, Nat.zero_add, Nat.add_zero, Bool.false_eq_true, List.getElem?_cons_zero, Nat.reduceMul, Nat.mul_one, F1, G1, G2, F3, G3, at_Has, at_Put, at_size]
  refine ⟨fun c => ?_, fun c => ?_⟩
  · have c' : i < n := by omega
    refine Loop.fam [0, 3, 4, 5, 6, 7] (pl1St A e n i) (fun x => x.1 ≤ n ∧ x.2 = (List.range x.1).filter (hasN A i)) (fun x => n - x.1) (0, []) [0] (by simp) (by simp) (by
      simp only [State.can, AV.can, AV.canL, HO.can, Z3i, idx, Z04, Z01, Heap.at, Nat.reduceBEq, ↓reduceIte, Nat.reduceEqDiff, Option.getD_some, Option.map_some, List.map_cons, List.map_nil, List.getD_cons_zero, List.getD_cons_succ, pl1St]
      rw [rowsP_congr (V := fun b => decide (b < 0) && hasN A i b) (V' := fun _ => false) (fun b _ => by simp)]; rfl) ⟨by omega, rfl⟩ ?_
    rintro ⟨k, L⟩ ⟨hk, hL⟩
    have hk : k ≤ n := hk
    have hL : L = (List.range k).filter (hasN A i) := hL
    have hx : hasI A i k = hasN A i k := hasI_nat
    have hLl : L.length ≤ k := by rw [hL]; have := List.length_filter_le (hasN A i) (List.range k); simpa using this
    cases L with
    | nil =>
      simp only [↓Z1d, ↓Z2b, ↓Z1t, ↓Z05, ↓Z2q, ↓Z2k, Z49, Z4a, ↓Z20, ↓Z1c, ↓Z0i, ↓Z1u, ↓Z12, ↓Z1z, ↓Z2z, ↓Z30, ↓Z23, ↓Z1s, ↓Z2d, ↓Z28, ↓Z1y, ↓Z3m, ↓Z46, ↓Z3e, ↓Z3g, ↓Z3f, ↓Z3v, ↓Z3q, ↓Z44, ↓Z0j, ↓Z0b, ↓Z16, ↓Z0h, ↓Z1g, Z4d, Z0a, Z18, Z32, Z1a, Z35, evN, Z2s, Z1x, Z34, Z41, Z1w, Z19, Z1v, Z2p, Z2a, Z29, Z1e, Z2x, evT, Opd.ev, Z04, Z01, Z33, Z3x, Z3o, Z26, Z1f, Z2w, Z2y, Z3c, Z22, Z14, Z3r, LOp.isNew, State.prune, Z3s, Z3j, AV.leaf, Heap.at, Z0g, Z08, Z1m, Z0e, Z02, Z4x, Z4t, rowW, Z24, Z2t, Z1p, Z1b, rowB, Z2v, Z2u, rowN, Z4b, Z3h, Z17, Z15, w_or, Z4r, Z2r, Z45, Z50, Z42, Z4s, Z47, Z4z, Z4y, Z4u, Z4v, Z4w, w_eq, Bool.decide_eq_true, Z3b, Z3a, Z39, Z2f, Z1h, Z03, Z09, Z11, Z00, Z21, rowI, RatG.row, LocG.row, ActG.row, StepG.row, StampG.row, ActG.av, ActG.eta, RatG.eta, LocG.eta, beq_true, beq_false, Z2j, Z2o, Z2c, Z2l, Z10, Z0n, Z0y, Z0z, Z0m, Z0l, Z0c, List.length_set, List.length_replicate, Z06, Int.reduceToNat, Z4o, Z27, Z4e, Src.all, Src.len, Src.leaf, Src.leafN, Z37, Z3z, Z4k, Z0k, Z0o, Z0p, Z0q, Z0r, Z0s, Z0t, Z0u, Z4m, drows, evMk, List.length_map, Z1r, Z1q, List.take_length, List.take_left, List.length_append, Nat.le_add_right, ite_self, List.take_of_length_le, Z38, Z4j, Z3w, Option.isSome_none, Option.isSome_some, Nat.sub_zero, Z4i, Z4p, Z4g, evUn, Z0v, Z13, binT, binQ, chk, Z3t, List.contains_cons, List.contains_nil, Bool.or_false, Bool.false_or, Bool.and_self, resQ, resV, resT, Z4q, Z2e, Z43, Z3l, fnOf, Z3k, isD, HO.drow, Z4f, Z3u, evEq, eqV, eqK, eqC1, Z40, Z3y, Z36, Z31, Z48, Z3d, Z2i, Z1k, Z2h, Z1j, Z2g, Z1i, Z1l, Z0w, Z0x, Z0d, List.mem_cons, List.not_mem_nil, or_false, forall_eq, putRow, Z3n, Z25, RetS, RetF, RetD, AV.frz, AV.frzL, AV.freshP, AV.freshL, DV.less, Z2m, Z1n, Z2n, Z1o, Z0f, Z07, Option.some.injEq, AV.tup.injEq, AV.agg.injEq, List.cons.injEq, DV.list.injEq, List.isEmpty_nil, Nat.le_refl, AV.d.injEq, DV.int.injEq, DV.bool.injEq, ↓reduceIte, Nat.reduceEqDiff, Nat.reduceAdd, Nat.reduceBEq, List.length_cons, List.length_nil, List.replicate_succ, List.replicate_zero, List.nil_append, List.cons_append, List.append_nil, List.foldl_cons, List.foldl_nil, List.map_cons, List.map_nil, List.all_cons, List.all_nil, List.set_cons_zero, List.set_cons_succ, List.getD_cons_zero, List.getD_cons_succ, List.drop_zero, List.drop_succ_cons, List.take_succ_cons, List.take_zero, List.flatten_cons, List.flatten_nil, Bool.true_and, Bool.and_true, Bool.not_true, Bool.not_false, true_and, and_true, true_or, or_true, Option.bind_some, Option.map_some, decide_true, decide_false, beq_self_eq_true, true_implies, false_implies, implies_true, not_true_eq_false, not_false_eq_true, and_self, Bool.and_false, Bool.false_and, Nat.reduceLT, Nat.reduceLeDiff, List.reverse_cons, List.reverse_nil, Nat.zero_add, Nat.add_zero, Bool.false_eq_true, List.getElem?_cons_zero, Nat.reduceMul, Nat.mul_one, pl1St, F1, G1, G2, F3, G3, at_Has, at_Put, at_size, putE_d, Z53, szR_mk' hle, hx]
      refine ⟨fun g => ?_, fun g => ?_⟩
      · have g' : k < n := by omega
        simp only [Z4l g' (by unfold maxLen; omega)]
        rw [putR_mk hle c' g']
        refine ⟨h1, fun hb => ⟨by omega, roomy_of (by omega) (by omega), ?_⟩, fun hb => ?_⟩
        · exact Z3p.mk [0, 2] (k + 1, [k]) (by simp) (by simp) (by simp only [State.can, AV.can, AV.canL, HO.can, Z3i, idx, Z04, Z01, Heap.at, Nat.reduceBEq, ↓reduceIte, Nat.reduceEqDiff, Option.getD_some, Option.map_some, List.map_cons, List.map_nil, List.getD_cons_zero, List.getD_cons_succ, pl1St]; rw [pl1_put hb]; rfl) ⟨by show k + 1 ≤ n; omega, by show [k] = _; rw [filt_succ, ← hL, hb]; rfl⟩ (by show n - (k + 1) < n - k; omega)
        · exact Z3p.mk [0] (k + 1, []) (by simp) (by simp) (by simp only [State.can, AV.can, AV.canL, HO.can, Z3i, idx, Z04, Z01, Heap.at, Nat.reduceBEq, ↓reduceIte, Nat.reduceEqDiff, Option.getD_some, Option.map_some, List.map_cons, List.map_nil, List.getD_cons_zero, List.getD_cons_succ, pl1St]; rw [pl1_no hb]) ⟨by show k + 1 ≤ n; omega, by show [] = _; rw [filt_succ, ← hL, hb]; rfl⟩ (by show n - (k + 1) < n - k; omega)
      · have : k = n := by omega
        subst this
        refine Loop.fam [0, 3, 4, 5, 6] (fun _ : Unit => ⟨[(0, .d (.list (A.map rowW) e)), (3, .d (.int .i64 k)), (4, .ref 0 1 0 k true), (5, .d (.int .i64 i)), (6, .d (.list [] true))], [.dvec 1 ((mkR k (rowsP A i fun b => decide (b < k) && hasN A i b)).map rowW)]⟩) (fun _ => True) (fun _ => 0) () [0] (by simp) (by simp) (by simp only [State.can, AV.can, AV.canL, HO.can, Z3i, idx, Z04, Z01, Heap.at, Nat.reduceBEq, ↓reduceIte, Nat.reduceEqDiff, Option.getD_some, Option.map_some, List.map_cons, List.map_nil, List.getD_cons_zero, List.getD_cons_succ]) trivial ?_
        rintro - -
        simp only [↓Z1d, ↓Z2b, ↓Z1t, ↓Z05, ↓Z2q, ↓Z2k, Z49, Z4a, ↓Z20, ↓Z1c, ↓Z0i, ↓Z1u, ↓Z12, ↓Z1z, ↓Z2z, ↓Z30, ↓Z23, ↓Z1s, ↓Z2d, ↓Z28, ↓Z1y, ↓Z3m, ↓Z46, ↓Z3e, ↓Z3g, ↓Z3f, ↓Z3v, ↓Z3q, ↓Z44, ↓Z0j, ↓Z0b, ↓Z16, ↓Z0h, ↓Z1g, Z4d, Z0a, Z18, Z32, Z1a, Z35, evN, Z2s, Z1x, Z34, Z41, Z1w, Z19, Z1v, Z2p, Z2a, Z29, Z1e, Z2x, evT, Opd.ev, Z04, Z01, Z33, Z3x, Z3o, Z26, Z1f, Z2w, Z2y, Z3c, Z22, Z14, Z3r, LOp.isNew, State.prune, Z3s, Z3j, AV.leaf, Heap.at, Z0g, Z08, Z1m, Z0e, Z02, Z4x, Z4t, rowW, Z24, Z2t, Z1p, Z1b, rowB, Z2v, Z2u, rowN, Z4b, Z3h, Z17, Z15, w_or, Z4r, Z2r, Z45, Z50, Z42, Z4s, Z47, Z4z, Z4y, Z4u, Z4v, Z4w, w_eq, Bool.decide_eq_true, Z3b, Z3a, Z39, Z2f, Z1h, Z03, Z09, Z11, Z00, Z21, rowI, RatG.row, LocG.row, ActG.row, StepG.row, StampG.row, ActG.av, ActG.eta, RatG.eta, LocG.eta, beq_true, beq_false, Z2j, Z2o, Z2c, Z2l, Z10, Z0n, Z0y, Z0z, Z0m, Z0l, Z0c, List.length_set, List.length_replicate, Z06, Int.reduceToNat, Z4o, Z27, Z4e, Src.all, Src.len, Src.leaf, Src.leafN, Z37, Z3z, Z4k, Z0k, Z0o, Z0p, Z0q, Z0r, Z0s, Z0t, Z0u, Z4m, drows, evMk, List.length_map, Z1r, Z1q, List.take_length, List.take_left, List.length_append, Nat.le_add_right, ite_self, List.take_of_length_le, Z38, Z4j, Z3w, Option.isSome_none, Option.isSome_some, Nat.sub_zero, Z4i, Z4p, Z4g, evUn, Z0v, Z13, binT, binQ, chk, Z3t, List.contains_cons, List.contains_nil, Bool.or_false, Bool.false_or, Bool.and_self, resQ, resV, resT, Z4q, Z2e, Z43, Z3l, fnOf, Z3k, isD, HO.drow, Z4f, Z3u, evEq, eqV, eqK, eqC1, Z40, Z3y, Z36, Z31, Z48, Z3d, Z2i, Z1k, Z2h, Z1j, Z2g, Z1i, Z1l, Z0w, Z0x, Z0d, List.mem_cons, List.not_mem_nil, or_false, forall_eq, putRow, Z3n, Z25, RetS, RetF, RetD, AV.frz, AV.frzL, AV.freshP, AV.freshL, DV.less, Z2m, Z1n, Z2n, Z1o, Z0f, Z07, Option.some.injEq, AV.tup.injEq, AV.agg.injEq, List.cons.injEq, DV.list.injEq, List.isEmpty_nil, Nat.le_refl, AV.d.injEq, DV.int.injEq, DV.bool.injEq, ↓reduceIte, Nat.reduceEqDiff, Nat.reduceAdd, Nat.reduceBEq, List.length_cons, List.length_nil, List.replicate_succ, List.replicate_zero, List.nil_append, List.cons_append, List.append_nil, List.foldl_cons, List.foldl_nil, List.map_cons, List.map_nil, List.all_cons, List.all_nil, List.set_cons_zero, List.set_cons_succ, List.getD_cons_zero, List.getD_cons_succ, List.drop_zero, List.drop_succ_cons, List.take_succ_cons, List.take_zero, List.flatten_cons, List.flatten_nil, Bool.true_and, Bool.and_true, Bool.not_true, Bool.not_false, true_and, and_true, true_or, or_true, Option.bind_some, Option.map_some, decide_true, decide_false, beq_self_eq_true, true_implies, false_implies, implies_true, not_true_eq_false, not_false_eq_true, and_self, Bool.and_false, Bool.false_and, Nat.reduceLT, Nat.reduceLeDiff, List.reverse_cons, List.reverse_nil, Nat.zero_add, Nat.add_zero, Bool.false_eq_true, List.getElem?_cons_zero, Nat.reduceMul, Nat.mul_one, F1, G1, G2, F3, G3, at_Has, at_Put, at_size]
        have hs := Seek.begin (A := A) (n := k) (i := i) (by omega) (by omega)
        rw [← hL] at hs
        refine ⟨fun h => absurd h (by omega), fun _ => ?_⟩
        simp only [Z4l c' (by unfold maxLen; omega)]
        rw [rowsP_next hn (fun b hb => by rw [filt_all hn]; exact hs.end b)]
        exact Z3p.mk [0] (i + 1) (by simp) (by simp) (by simp only [State.can, AV.can, AV.canL, HO.can, Z3i, idx, Z04, Z01, Heap.at, Nat.reduceBEq, ↓reduceIte, Nat.reduceEqDiff, Option.getD_some, Option.map_some, List.map_cons, List.map_nil, List.getD_cons_zero, List.getD_cons_succ]) (by show i + 1 ≤ k; omega) (by show k - (i + 1) < k - i; omega)
    | cons t ts =>
      simp only [↓Z1d, ↓Z2b, ↓Z1t, ↓Z05, ↓Z2q, ↓Z2k, Z49, Z4a, ↓Z20, ↓Z1c, ↓Z0i, ↓Z1u, ↓Z12, ↓Z1z, ↓Z2z, ↓Z30, ↓Z23, ↓Z1s, ↓Z2d, ↓Z28, ↓Z1y, ↓Z3m, ↓Z46, ↓Z3e, ↓Z3g, ↓Z3f, ↓Z3v, ↓Z3q, ↓Z44, ↓Z0j, ↓Z0b, ↓Z16, ↓Z0h, ↓Z1g, Z4d, Z0a, Z18, Z32, Z1a, Z35, evN, Z2s, Z1x, Z34, Z41, Z1w, Z19, Z1v, Z2p, Z2a, Z29, Z1e, Z2x, evT, Opd.ev, Z04, Z01, Z33, Z3x, Z3o, Z26, Z1f, Z2w, Z2y, Z3c, Z22, Z14, Z3r, LOp.isNew, State.prune, Z3s, Z3j, AV.leaf, Heap.at, Z0g, Z08, Z1m, Z0e, Z02, Z4x, Z4t, rowW, Z24, Z2t, Z1p, Z1b, rowB, Z2v, Z2u, rowN, Z4b, Z3h, Z17, Z15, w_or, Z4r, Z2r, Z45, Z50, Z42, Z4s, Z47, Z4z, Z4y, Z4u, Z4v, Z4w, w_eq, Bool.decide_eq_true, Z3b, Z3a, Z39, Z2f, Z1h, Z03, Z09, Z11, Z00, Z21, rowI, RatG.row, LocG.row, ActG.row, StepG.row, StampG.row, ActG.av, ActG.eta, RatG.eta, LocG.eta, beq_true, beq_false, Z2j, Z2o, Z2c, Z2l, Z10, Z0n, Z0y, Z0z, Z0m, Z0l, Z0c, List.length_set, List.length_replicate, Z06, Int.reduceToNat, Z4o, Z27, Z4e, Src.all, Src.len, Src.leaf, Src.leafN, Z37, Z3z, Z4k, Z0k, Z0o, Z0p, Z0q, Z0r, Z0s, Z0t, Z0u, Z4m, drows, evMk, List.length_map, Z1r, Z1q, List.take_length, List.take_left, List.length_append, Nat.le_add_right, ite_self, List.take_of_length_le, Z38, Z4j, Z3w, Option.isSome_none, Option.isSome_some, Nat.sub_zero, Z4i, Z4p, Z4g, evUn, Z0v, Z13, binT, binQ, chk, Z3t, List.contains_cons, List.contains_nil, Bool.or_false, Bool.false_or, Bool.and_self, resQ, resV, resT, Z4q, Z2e, Z43, Z3l, fnOf, Z3k, isD, HO.drow, Z4f, Z3u, evEq, eqV, eqK, eqC1, Z40, Z3y, Z36, Z31, Z48, Z3d, Z2i, Z1k, Z2h, Z1j, Z2g, Z1i, Z1l, Z0w, Z0x, Z0d, List.mem_cons, List.not_mem_nil, or_false, forall_eq, putRow, Z3n, Z25, RetS, RetF, RetD, AV.frz, AV.frzL, AV.freshP, AV.freshL, DV.less, Z2m, Z1n, Z2n, Z1o, Z0f, Z07, Option.some.injEq, AV.tup.injEq, AV.agg.injEq, List.cons.injEq, DV.list.injEq, List.isEmpty_nil, Nat.le_refl, AV.d.injEq, DV.int.injEq, DV.bool.injEq, ↓reduceIte, Nat.reduceEqDiff, Nat.reduceAdd, Nat.reduceBEq, List.length_cons, List.length_nil, List.replicate_succ, List.replicate_zero, List.nil_append, List.cons_append, List.append_nil, List.foldl_cons, List.foldl_nil, List.map_cons, List.map_nil, List.all_cons, List.all_nil, List.set_cons_zero, List.set_cons_succ, List.getD_cons_zero, List.getD_cons_succ, List.drop_zero, List.drop_succ_cons, List.take_succ_cons, List.take_zero, List.flatten_cons, List.flatten_nil, Bool.true_and, Bool.and_true, Bool.not_true, Bool.not_false, true_and, and_true, true_or, or_true, Option.bind_some, Option.map_some, decide_true, decide_false, beq_self_eq_true, true_implies, false_implies, implies_true, not_true_eq_false, not_false_eq_true, and_self, Bool.and_false, Bool.false_and, Nat.reduceLT, Nat.reduceLeDiff, List.reverse_cons, List.reverse_nil, Nat.zero_add, Nat.add_zero, Bool.false_eq_true, List.getElem?_cons_zero, Nat.reduceMul, Nat.mul_one, pl1St, F1, G1, G2, F3, G3, at_Has, at_Put, at_size, putE_d, Z53, szR_mk' hle, hx]
      simp only [List.length_cons] at hLl
      refine ⟨fun g => ?_, fun g => ?_⟩
      · have g' : k < n := by omega
        simp only [Z4l g' (by unfold maxLen; omega)]
        rw [putR_mk hle c' g']
        refine ⟨h1, fun hb => ⟨by omega, roomy_of (by omega) (by omega), ?_⟩, fun hb => ?_⟩
        · exact Z3p.mk [0, 3] (k + 1, t :: (ts ++ [k])) (by simp) (by simp) (by simp only [State.can, AV.can, AV.canL, HO.can, Z3i, idx, Z04, Z01, Heap.at, Nat.reduceBEq, ↓reduceIte, Nat.reduceEqDiff, Option.getD_some, Option.map_some, List.map_cons, List.map_nil, List.getD_cons_zero, List.getD_cons_succ, pl1St]; rw [pl1_put hb]; simp [rowN]) ⟨by show k + 1 ≤ n; omega, by show t :: (ts ++ [k]) = _; rw [filt_succ, ← hL, hb]; rfl⟩ (by show n - (k + 1) < n - k; omega)
        · exact Z3p.mk [0, 1] (k + 1, t :: ts) (by simp) (by simp) (by simp only [State.can, AV.can, AV.canL, HO.can, Z3i, idx, Z04, Z01, Heap.at, Nat.reduceBEq, ↓reduceIte, Nat.reduceEqDiff, Option.getD_some, Option.map_some, List.map_cons, List.map_nil, List.getD_cons_zero, List.getD_cons_succ, pl1St]; rw [pl1_no hb]; rfl) ⟨by show k + 1 ≤ n; omega, by show t :: ts = _; rw [filt_succ, ← hL, hb]; simp⟩ (by show n - (k + 1) < n - k; omega)
      · have : k = n := by omega
        subst this
        have hs := Seek.begin (A := A) (n := k) (i := i) (by omega) (by omega)
        rw [← hL] at hs
        refine Loop.fam [0, 3, 4, 5, 6] (fun x : (Nat → Bool) × List Nat × List Nat => ⟨[(0, .d (.list (A.map rowW) e)), (3, .d (.int .i64 k)), (4, .ref 0 1 0 k true), (5, .d (.int .i64 i)), (6, .ref 1 1 x.2.1.length x.2.2.length true)], [.dvec 1 ((mkR k (rowsP A i x.1)).map rowW), .dvec 1 ((x.2.1 ++ x.2.2).map rowN)]⟩)
          (fun x => Seek A k i x.1 x.2.2 (fun _ _ => False) ∧ 2 * cnt x.1 k + x.2.2.length ≤ 192) (fun x => 2 * cnt x.1 k + x.2.2.length) (hasN A i, [], t :: ts) [0, 1] (by simp) (by simp) (by
            simp only [State.can, AV.can, AV.canL, HO.can, Z3i, idx, Z04, Z01, Heap.at, Nat.reduceBEq, ↓reduceIte, Nat.reduceEqDiff, Option.getD_some, Option.map_some, List.map_cons, List.map_nil, List.getD_cons_zero, List.getD_cons_succ]
            rw [rowsP_congr (V := fun b => decide (b < k) && hasN A i b) (V' := hasN A i) (fun b _ => filt_all hn)]; rfl) ⟨hs, by have := cnt_le (V := hasN A i) (n := k); simp; omega⟩ ?_
        rintro ⟨V, P, L⟩ ⟨hV, hsz⟩
        have hV : Seek A k i V L (fun _ _ => False) := hV
        have hsz : 2 * cnt V k + L.length ≤ 192 := hsz
        cases L with
        | nil =>
          simp only [↓Z1d, ↓Z2b, ↓Z1t, ↓Z05, ↓Z2q, ↓Z2k, Z49, Z4a, ↓Z20, ↓Z1c, ↓Z0i, ↓Z1u, ↓Z12, ↓Z1z, ↓Z2z, ↓Z30, ↓Z23, ↓Z1s, ↓Z2d, ↓Z28, ↓Z1y, ↓Z3m, ↓Z46, ↓Z3e, ↓Z3g, ↓Z3f, ↓Z3v, ↓Z3q, ↓Z44, ↓Z0j, ↓Z0b, ↓Z16, ↓Z0h, ↓Z1g, Z4d, Z0a, Z18, Z32, Z1a, Z35, evN, Z2s, Z1x, Z34, Z41, Z1w, Z19, Z1v, Z2p, Z2a, Z29, Z1e, Z2x, evT, Opd.ev, Z04, Z01, Z33, Z3x, Z3o, Z26, Z1f, Z2w, Z2y, Z3c, Z22, Z14, Z3r, LOp.isNew, State.prune, Z3s, Z3j, AV.leaf, Heap.at, Z0g, Z08, Z1m, Z0e, Z02, Z4x, Z4t, rowW, Z24, Z2t, Z1p, Z1b, rowB, Z2v, Z2u, rowN, Z4b, Z3h, Z17, Z15, w_or, Z4r, Z2r, Z45, Z50, Z42, Z4s, Z47, Z4z, Z4y, Z4u, Z4v, Z4w, w_eq, Bool.decide_eq_true, Z3b, Z3a, Z39, Z2f, Z1h, Z03, Z09, Z11, Z00, Z21, rowI, RatG.row, LocG.row, ActG.row, StepG.row, StampG.row, ActG.av, ActG.eta, RatG.eta, LocG.eta, beq_true, beq_false, Z2j, Z2o, Z2c, Z2l, Z10, Z0n, Z0y, Z0z, Z0m, Z0l, Z0c, List.length_set, List.length_replicate, Z06, Int.reduceToNat, Z4o, Z27, Z4e, Src.all, Src.len, Src.leaf, Src.leafN, Z37, Z3z, Z4k, Z0k, Z0o, Z0p, Z0q, Z0r, Z0s, Z0t, Z0u, Z4m, drows, evMk, List.length_map, Z1r, Z1q, List.take_length, List.take_left, List.length_append, Nat.le_add_right, ite_self, List.take_of_length_le, Z38, Z4j, Z3w, Option.isSome_none, Option.isSome_some, Nat.sub_zero, Z4i, Z4p, Z4g, evUn, Z0v, Z13, binT, binQ, chk, Z3t, List.contains_cons, List.contains_nil, Bool.or_false, Bool.false_or, Bool.and_self, resQ, resV, resT, Z4q, Z2e, Z43, Z3l, fnOf, Z3k, isD, HO.drow, Z4f, Z3u, evEq, eqV, eqK, eqC1, Z40, Z3y, Z36, Z31, Z48, Z3d, Z2i, Z1k, Z2h, Z1j, Z2g, Z1i, Z1l, Z0w, Z0x, Z0d, List.mem_cons, List.not_mem_nil, or_false, forall_eq, putRow, Z3n, Z25, RetS, RetF, RetD, AV.frz, AV.frzL, AV.freshP, AV.freshL, DV.less, Z2m, Z1n, Z2n, Z1o, Z0f, Z07, Option.some.injEq, AV.tup.injEq, AV.agg.injEq, List.cons.injEq, DV.list.injEq, List.isEmpty_nil, Nat.le_refl, AV.d.injEq, DV.int.injEq, DV.bool.injEq, ↓reduceIte, Nat.reduceEqDiff, Nat.reduceAdd, Nat.reduceBEq, List.length_cons, List.length_nil, List.replicate_succ, List.replicate_zero, List.nil_append, List.cons_append, List.append_nil, List.foldl_cons, List.foldl_nil, List.map_cons, List.map_nil, List.all_cons, List.all_nil, List.set_cons_zero, List.set_cons_succ, List.getD_cons_zero, List.getD_cons_succ, List.drop_zero, List.drop_succ_cons, List.take_succ_cons, List.take_zero, List.flatten_cons, List.flatten_nil, Bool.true_and, Bool.and_true, Bool.not_true, Bool.not_false, true_and, and_true, true_or, or_true, Option.bind_some, Option.map_some, decide_true, decide_false, beq_self_eq_true, true_implies, false_implies, implies_true, not_true_eq_false, not_false_eq_true, and_self, Bool.and_false, Bool.false_and, Nat.reduceLT, Nat.reduceLeDiff, List.reverse_cons, List.reverse_nil, Nat.zero_add, Nat.add_zero, Bool.false_eq_true, List.getElem?_cons_zero, Nat.reduceMul, Nat.mul_one, F1, G1, G2, F3, G3, at_Has, at_Put, at_size]
          refine ⟨fun h => absurd h (by omega), fun _ => ?_⟩
          simp only [Z4l c' (by unfold maxLen; omega)]
          rw [rowsP_next hn (fun b hb => hV.end b)]
          exact Z3p.mk [0] (i + 1) (by simp) (by simp) (by simp only [State.can, AV.can, AV.canL, HO.can, Z3i, idx, Z04, Z01, Heap.at, Nat.reduceBEq, ↓reduceIte, Nat.reduceEqDiff, Option.getD_some, Option.map_some, List.map_cons, List.map_nil, List.getD_cons_zero, List.getD_cons_succ]) (by show i + 1 ≤ k; omega) (by show k - (i + 1) < k - i; omega)
        | cons j L =>
          simp only [↓Z1d, ↓Z2b, ↓Z1t, ↓Z05, ↓Z2q, ↓Z2k, Z49, Z4a, ↓Z20, ↓Z1c, ↓Z0i, ↓Z1u, ↓Z12, ↓Z1z, ↓Z2z, ↓Z30, ↓Z23, ↓Z1s, ↓Z2d, ↓Z28, ↓Z1y, ↓Z3m, ↓Z46, ↓Z3e, ↓Z3g, ↓Z3f, ↓Z3v, ↓Z3q, ↓Z44, ↓Z0j, ↓Z0b, ↓Z16, ↓Z0h, ↓Z1g, Z4d, Z0a, Z18, Z32, Z1a, Z35, evN, Z2s, Z1x, Z34, Z41, Z1w, Z19, Z1v, Z2p, Z2a, Z29, Z1e, Z2x, evT, Opd.ev, Z04, Z01, Z33, Z3x, Z3o, Z26, Z1f, Z2w, Z2y, Z3c, Z22, Z14, Z3r, LOp.isNew, State.prune, Z3s, Z3j, AV.leaf, Heap.at, Z0g, Z08, Z1m, Z0e, Z02, Z4x, Z4t, rowW, Z24, Z2t, Z1p, Z1b, rowB, Z2v, Z2u, rowN, Z4b, Z3h, Z17, Z15, w_or, Z4r, Z2r, Z45, Z50, Z42, Z4s, Z47, Z4z, Z4y, Z4u, Z4v, Z4w, w_eq, Bool.decide_eq_true, Z3b, Z3a, Z39, Z2f, Z1h, Z03, Z09, Z11, Z00, Z21, rowI, RatG.row, LocG.row, ActG.row, StepG.row, StampG.row, ActG.av, ActG.eta, RatG.eta, LocG.eta, beq_true, beq_false, Z2j, Z2o, Z2c, Z2l, Z10, Z0n, Z0y, Z0z, Z0m, Z0l, Z0c, List.length_set, List.length_replicate, Z06, Int.reduceToNat, Z4o, Z27, Z4e, Src.all, Src.len, Src.leaf, Src.leafN, Z37, Z3z, Z4k, Z0k, Z0o, Z0p, Z0q, Z0r, Z0s, Z0t, Z0u, Z4m, drows, evMk, List.length_map, Z1r, Z1q, List.take_length, List.take_left, List.length_append, Nat.le_add_right, ite_self, List.take_of_length_le, Z38, Z4j, Z3w, Option.isSome_none, Option.isSome_some, Nat.sub_zero, Z4i, Z4p, Z4g, evUn, Z0v, Z13, binT, binQ, chk, Z3t, List.contains_cons, List.contains_nil, Bool.or_false, Bool.false_or, Bool.and_self, resQ, resV, resT, Z4q, Z2e, Z43, Z3l, fnOf, Z3k, isD, HO.drow, Z4f, Z3u, evEq, eqV, eqK, eqC1, Z40, Z3y, Z36, Z31, Z48, Z3d, Z2i, Z1k, Z2h, Z1j, Z2g, Z1i, Z1l, Z0w, Z0x, Z0d, List.mem_cons, List.not_mem_nil, or_false, forall_eq, putRow, Z3n, Z25, RetS, RetF, RetD, AV.frz, AV.frzL, AV.freshP, AV.freshL, DV.less, Z2m, Z1n, Z2n, Z1o, Z0f, Z07, Option.some.injEq, AV.tup.injEq, AV.agg.injEq, List.cons.injEq, DV.list.injEq, List.isEmpty_nil, Nat.le_refl, AV.d.injEq, DV.int.injEq, DV.bool.injEq, ↓reduceIte, Nat.reduceEqDiff, Nat.reduceAdd, Nat.reduceBEq, List.length_cons, List.length_nil, List.replicate_succ, List.replicate_zero, List.nil_append, List.cons_append, List.append_nil, List.foldl_cons, List.foldl_nil, List.map_cons, List.map_nil, List.all_cons, List.all_nil, List.set_cons_zero, List.set_cons_succ, List.getD_cons_zero, List.getD_cons_succ, List.drop_zero, List.drop_succ_cons, List.take_succ_cons, List.take_zero, List.flatten_cons, List.flatten_nil, Bool.true_and, Bool.and_true, Bool.not_true, Bool.not_false, true_and, and_true, true_or, or_true, Option.bind_some, Option.map_some, decide_true, decide_false, beq_self_eq_true, true_implies, false_implies, implies_true, not_true_eq_false, not_false_eq_true, and_self, Bool.and_false, Bool.false_and, Nat.reduceLT, Nat.reduceLeDiff, List.reverse_cons, List.reverse_nil, Nat.zero_add, Nat.add_zero, Bool.false_eq_true, List.getElem?_cons_zero, Nat.reduceMul, Nat.mul_one, F1, G1, G2, F3, G3, at_Has, at_Put, at_size]
          rw [mid_getD]
          simp only [List.length_cons] at hsz
          refine ⟨fun _ => ⟨by omega, by omega, by omega, ?_⟩, fun h => absurd h (by omega)⟩
          refine Loop.fam [0, 3, 4, 5, 6, 8, 9] (fun x : Nat × (Nat → Bool) × List Nat × List Nat => ⟨[(0, .d (.list (A.map rowW) e)), (3, .d (.int .i64 k)), (4, .ref 0 1 0 k true), (5, .d (.int .i64 i)), (6, .ref 1 1 x.2.2.1.length x.2.2.2.length true), (8, .d (.int .i64 j)), (9, .d (.int .i64 x.1))], [.dvec 1 ((mkR k (rowsP A i x.2.1)).map rowW), .dvec 1 ((x.2.2.1 ++ x.2.2.2).map rowN)]⟩)
            (fun x => x.1 ≤ k ∧ Seek A k i x.2.1 x.2.2.2 (fun b c => b = j ∧ x.1 ≤ c) ∧ x.2.1 j = true ∧ 2 * cnt x.2.1 k + x.2.2.2.length ≤ 2 * cnt V k + L.length) (fun x => k - x.1) (0, V, P ++ [j], L) [0, 1] (by simp) (by simp) (by
              simp only [State.can, AV.can, AV.canL, HO.can, Z3i, idx, Z04, Z01, Heap.at, Nat.reduceBEq, ↓reduceIte, Nat.reduceEqDiff, Option.getD_some, Option.map_some, List.map_cons, List.map_nil, List.getD_cons_zero, List.getD_cons_succ]
              simp [rowN]) ⟨by omega, hV.pop, hV.todo j (by simp), by simp⟩ ?_
          rintro ⟨m, U, Q, R⟩ ⟨m1, m2, m3, m4⟩
          have m1 : m ≤ k := m1
          have m2 : Seek A k i U R (fun b c => b = j ∧ m ≤ c) := m2
          have m3 : U j = true := m3
          have m4 : 2 * cnt U k + R.length ≤ 2 * cnt V k + L.length := m4
          have hx2 : hasI A j m = hasN A j m := hasI_nat
          simp only [↓Z1d, ↓Z2b, ↓Z1t, ↓Z05, ↓Z2q, ↓Z2k, Z49, Z4a, ↓Z20, ↓Z1c, ↓Z0i, ↓Z1u, ↓Z12, ↓Z1z, ↓Z2z, ↓Z30, ↓Z23, ↓Z1s, ↓Z2d, ↓Z28, ↓Z1y, ↓Z3m, ↓Z46, ↓Z3e, ↓Z3g, ↓Z3f, ↓Z3v, ↓Z3q, ↓Z44, ↓Z0j, ↓Z0b, ↓Z16, ↓Z0h, ↓Z1g, Z4d, Z0a, Z18, Z32, Z1a, Z35, evN, Z2s, Z1x, Z34, Z41, Z1w, Z19, Z1v, Z2p, Z2a, Z29, Z1e, Z2x, evT, Opd.ev, Z04, Z01, Z33, Z3x, Z3o, Z26, Z1f, Z2w, Z2y, Z3c, Z22, Z14, Z3r, LOp.isNew, State.prune, Z3s, Z3j, AV.leaf, Heap.at, Z0g, Z08, Z1m, Z0e, Z02, Z4x, Z4t, rowW, Z24, Z2t, Z1p, Z1b, rowB, Z2v, Z2u, rowN, Z4b, Z3h, Z17, Z15, w_or, Z4r, Z2r, Z45, Z50, Z42, Z4s, Z47, Z4z, Z4y, Z4u, Z4v, Z4w, w_eq, Bool.decide_eq_true, Z3b, Z3a, Z39, Z2f, Z1h, Z03, Z09, Z11, Z00, Z21, rowI, RatG.row, LocG.row, ActG.row, StepG.row, StampG.row, ActG.av, ActG.eta, RatG.eta, LocG.eta, beq_true, beq_false, Z2j, Z2o, Z2c, Z2l, Z10, Z0n, Z0y, Z0z, Z0m, Z0l, Z0c, List.length_set, List.length_replicate, Z06, Int.reduceToNat, Z4o, Z27, Z4e, Src.all, Src.len, Src.leaf, Src.leafN, Z37, Z3z, Z4k, Z0k, Z0o, Z0p, Z0q, Z0r, Z0s, Z0t, Z0u, Z4m, drows, evMk, List.length_map, Z1r, Z1q, List.take_length, List.take_left, List.length_append, Nat.le_add_right, ite_self, List.take_of_length_le, Z38, Z4j, Z3w, Option.isSome_none, Option.isSome_some, Nat.sub_zero, Z4i, Z4p, Z4g, evUn, Z0v, Z13, binT, binQ, chk, Z3t, List.contains_cons, List.contains_nil, Bool.or_false, Bool.false_or, Bool.and_self, resQ, resV, resT, Z4q, Z2e, Z43, Z3l, fnOf, Z3k, isD, HO.drow, Z4f, Z3u, evEq, eqV, eqK, eqC1, Z40, Z3y, Z36, Z31, Z48, Z3d, Z2i, Z1k, Z2h, Z1j, Z2g, Z1i, Z1l, Z0w, Z0x, Z0d, List.mem_cons, List.not_mem_nil, or_false, forall_eq, putRow, Z3n, Z25, RetS, RetF, RetD, AV.frz, AV.frzL, AV.freshP, AV.freshL, DV.less, Z2m, Z1n, Z2n, Z1o, Z0f, Z07, Option.some.injEq, AV.tup.injEq, AV.agg.injEq, List.cons.injEq, DV.list.injEq, List.isEmpty_nil, Nat.le_refl, AV.d.injEq, DV.int.injEq, DV.bool.injEq, ↓reduceIte, Nat.reduceEqDiff, Nat.reduceAdd, Nat.reduceBEq, List.length_cons, List.length_nil, List.replicate_succ, List.replicate_zero, List.nil_append, List.cons_append, List.append_nil, List.foldl_cons, List.foldl_nil, List.map_cons, List.map_nil, List.all_cons, List.all_nil, List.set_cons_zero, List.set_cons_succ, List.getD_cons_zero, List.getD_cons_succ, List.drop_zero, List.drop_succ_cons, List.take_succ_cons, List.take_zero, List.flatten_cons, List.flatten_nil, Bool.true_and, Bool.and_true, Bool.not_true, Bool.not_false, true_and, and_true, true_or, or_true, Option.bind_some, Option.map_some, decide_true, decide_false, beq_self_eq_true, true_implies, false_implies, implies_true, not_true_eq_false, not_false_eq_true, and_self, Bool.and_false, Bool.false_and, Nat.reduceLT, Nat.reduceLeDiff, List.reverse_cons, List.reverse_nil, Nat.zero_add, Nat.add_zero, Bool.false_eq_true, List.getElem?_cons_zero, Nat.reduceMul, Nat.mul_one, F1, G1, G2, F3, G3, at_Has, at_Put, at_size, putE_d, Z53, szR_mk' hle, hx2, mkR_take, List.drop_left]
          refine ⟨fun g2 => ?_, fun g2 => ?_⟩
          · have g2' : m < k := by omega
            simp only [Z4l g2' (by unfold maxLen; omega), has_rows hle c' g2']
            rw [putR_mk hle c' g2']
            refine ⟨h1, fun hb => ⟨by unfold maxLen; omega, fun hu => ?_, fun hu => ⟨by omega, roomy_of (by omega) (by omega), ?_⟩⟩, fun hb => ?_⟩
            · exact Z3p.mk [0, 1] (m + 1, U, Q, R) (by simp) (by simp) (by simp only [State.can, AV.can, AV.canL, HO.can, Z3i, idx, Z04, Z01, Heap.at, Nat.reduceBEq, ↓reduceIte, Nat.reduceEqDiff, Option.getD_some, Option.map_some, List.map_cons, List.map_nil, List.getD_cons_zero, List.getD_cons_succ]) ⟨by omega, m2.skip (.inr hu), m3, m4⟩ (by show k - (m + 1) < k - m; omega)
            · have hu : U m = false := by simpa using hu
              have hc := cnt_put hu g2'
              refine Z3p.mk [0, 3] (m + 1, (fun b => U b || decide (b = m)), [], R ++ [m]) (by simp) (by simp) ?_ ⟨by omega, m2.push m3 hb g2', by simp [m3], by simp only [List.length_append, List.length_cons, List.length_nil]; omega⟩ (by show k - (m + 1) < k - m; omega)
              simp only [State.can, AV.can, AV.canL, HO.can, Z3i, idx, Z04, Z01, Heap.at, Nat.reduceBEq, ↓reduceIte, Nat.reduceEqDiff, Option.getD_some, Option.map_some, List.map_cons, List.map_nil, List.getD_cons_zero, List.getD_cons_succ]
              rw [show mkR k (fun a b => rowsP A i U a b || decide (a = i) && decide (b = m)) = mkR k (rowsP A i fun b => U b || decide (b = m)) from Z4h fun a b _ _ => rowsP_put a b]
              simp [rowN]
            · exact Z3p.mk [0, 1] (m + 1, U, Q, R) (by simp) (by simp) (by simp only [State.can, AV.can, AV.canL, HO.can, Z3i, idx, Z04, Z01, Heap.at, Nat.reduceBEq, ↓reduceIte, Nat.reduceEqDiff, Option.getD_some, Option.map_some, List.map_cons, List.map_nil, List.getD_cons_zero, List.getD_cons_succ]) ⟨by omega, m2.skip (.inl hb), m3, m4⟩ (by show k - (m + 1) < k - m; omega)
          · have : m = k := by omega
            subst this
            exact Z3p.mk [0, 1] (U, Q, R) (by simp) (by simp) (by simp only [State.can, AV.can, AV.canL, HO.can, Z3i, idx, Z04, Z01, Heap.at, Nat.reduceBEq, ↓reduceIte, Nat.reduceEqDiff, Option.getD_some, Option.map_some, List.map_cons, List.map_nil, List.getD_cons_zero, List.getD_cons_succ]) ⟨m2.rest (by omega), by show 2 * cnt U m + R.length ≤ 192; omega⟩ (by show 2 * cnt U m + R.length < 2 * cnt V m + (L.length + 1); omega)
  · have : i = n := by omega
    subst this
    rw [show mkR i (rowsP A i fun _ => false) = mkR i (way (hasN A) i) from Z4h fun a b ha _ => by unfold rowsP; rw [if_pos ha, hn]]
    exact .inl ⟨0, true, by simp [Z53], rfl⟩
end Go.Ago

/- Contracts of the reference of layer 2: Star, Ring, Order. Conditions: none. -/
set_option maxRecDepth 100000
set_option linter.unusedSimpArgs false
set_option linter.unusedVariables false
namespace Go.Ago

theorem plusG_len {A : List W} : (plusG A).length = szR A := Z53
theorem hasI_plus {A : List W} {i k : Nat} (hi : i < szR A) (hk : k < szR A) : hasI (plusG A) i k = way (hasN A) (szR A) i k := by
  rw [hasI_nat]; unfold plusG; rw [hasN_mk (szR_le A)]; simp [hi, hk]
theorem body_ref02_Star {T : Tab} {n1 n2 : Nat} (k1 : Knows T n1 sp_Plus) (k2 : KnowsG T n2 ef_Put.at) : sp_Star.Body T V_ref02_Star (L_ref02_Star n1 n2) R_ref02_Star := by
  have F1 := k1.F; have G1 := k1.G; have G2 := k2.G
  rintro ⟨A, e⟩ h1
  have h1 : A.length ≤ maxLen := h1
  refine ⟨rows_len (f := rowW) (fun _ => rfl) _, ?_⟩
  unfold V_ref02_Star L_ref02_Star R_ref02_Star
  simp only [↓Z1d, ↓Z2b, ↓Z1t, ↓Z05, ↓Z2q, ↓Z2k, Z49, Z4a, ↓Z20, ↓Z1c, ↓Z0i, ↓Z1u, ↓Z12, ↓Z1z, ↓Z2z, ↓Z30, ↓Z23, ↓Z1s, ↓Z2d, ↓Z28, ↓Z1y, ↓Z3m, ↓Z46, ↓Z3e, ↓Z3g, ↓Z3f, ↓Z3v, ↓Z3q, ↓Z44, ↓Z0j, ↓Z0b, ↓Z16, ↓Z0h, ↓Z1g, Z4d, Z0a, Z18, Z32, Z1a, Z35, evN, Z2s, Z1x, Z34, Z41, Z1w, Z19, Z1v, Z2p, Z2a, Z29, Z1e, Z2x, evT, Opd.ev, Z04, Z01, Z33, Z3x, Z3o, Z26, Z1f, Z2w, Z2y, Z3c, Z22, Z14, Z3r, LOp.isNew, State.prune, Z3s, Z3j, AV.leaf, Heap.at, Z0g, Z08, Z1m, Z0e, Z02, Z4x, Z4t, rowW, Z24, Z2t, Z1p, Z1b, rowB, Z2v, Z2u, rowN, Z4b, Z3h, Z17, Z15, w_or, Z4r, Z2r, Z45, Z50, Z42, Z4s, Z47, Z4z, Z4y, Z4u, Z4v, Z4w, w_eq, Bool.decide_eq_true, Z3b, Z3a, Z39, Z2f, Z1h, Z03, Z09, Z11, Z00, Z21, rowI, RatG.row, LocG.row, ActG.row, StepG.row, StampG.row, ActG.av, ActG.eta, RatG.eta, LocG.eta, beq_true, beq_false, Z2j, Z2o, Z2c, Z2l, Z10, Z0n, Z0y, Z0z, Z0m, Z0l, Z0c, List.length_set, List.length_replicate, Z06, Int.reduceToNat, Z4o, Z27, Z4e, Src.all, Src.len, Src.leaf, Src.leafN, Z37, Z3z, Z4k, Z0k, Z0o, Z0p, Z0q, Z0r, Z0s, Z0t, Z0u, Z4m, drows, evMk, List.length_map, Z1r, Z1q, List.take_length, List.take_left, List.length_append, Nat.le_add_right, ite_self, List.take_of_length_le, Z38, Z4j, Z3w, Option.isSome_none, Option.isSome_some, Nat.sub_zero, Z4i, Z4p, Z4g, evUn, Z0v, Z13, binT, binQ, chk, Z3t, List.contains_cons, List.contains_nil, Bool.or_false, Bool.false_or, Bool.and_self, resQ, resV, resT, Z4q, Z2e, Z43, Z3l, fnOf, Z3k, isD, HO.drow, Z4f, Z3u, evEq, eqV, eqK, eqC1, Z40, Z3y, Z36, Z31, Z48, Z3d, Z2i, Z1k, Z2h, Z1j, Z2g, Z1i, Z1l, Z0w, Z0x, Z0d, List.mem_cons, List.not_mem_nil, or_false, forall_eq, putRow, Z3n, Z25, RetS, RetF, RetD, AV.frz, AV.frzL, AV.freshP, AV.freshL, DV.less, Z2m, Z1n, Z2n, Z1o, Z0f, Z07, Option.some.injEq, AV.tup.injEq, AV.agg.injEq, List.cons.injEq, DV.list.injEq, List.isEmpty_nil, Nat.le_refl, AV.d.injEq, DV.int.injEq, DV.bool.injEq, ↓reduceIte, Nat.reduceEqDiff, Nat.reduceAdd, Nat.reduceBEq, List.length_cons, List.length_nil, List.replicate_succ, List.replicate_zero, List.nil_append, List.cons_append, List.append_nil, List.foldl_cons, List.foldl_nil, List.map_cons, List.map_nil, List.all_cons, List.all_nil, List.set_cons_zero, List.set_cons_succ, List.getD_cons_zero, List.getD_cons_succ, List.drop_zero, List.drop_succ_cons, List.take_succ_cons, List.take_zero, List.flatten_cons, List.flatten_nil, Bool.true_and, Bool.and_true, Bool.not_true, Bool.not_false, true_and, and_true, true_or, or_true, Option.bind_some, Option.map_some, decide_true, decide_false, beq_self_eq_true, true_implies, false_implies, implies_true, not_true_eq_false, not_false_eq_true, and_self, Bool.and_false, Bool.false_and, Nat.reduceLT, Nat.reduceLeDiff, List.reverse_cons, List.reverse_nil, Nat.zero_add, Nat.add_zero, Bool.false_eq_true, List.getElem?_cons_zero, Nat.reduceMul, Nat.mul_one, sp_Star, F1, G1, G2, at_Plus, at_Put]
  have hle := szR_le A
  have hp : plusG A = mkR (szR A) (way (hasN A) (szR A)) := rfl
  rw [plusG_len]
  generalize hn : szR A = n at *
  refine ⟨h1, ?_⟩
  refine Loop.fam [3, 4] (fun m : Nat => ⟨[(3, .ref 0 1 0 n true), (4, .d (.int .i64 m))],
      [.dvec 1 ((mkR n (starS A n m)).map rowW)]⟩) (fun m => m ≤ n) (fun m => n - m) 0 [0] (by simp) (by simp) (by
        simp only [State.can, AV.can, AV.canL, HO.can, Z3i, idx, Z04, Z01, Heap.at, Nat.reduceBEq, ↓reduceIte, Nat.reduceEqDiff, Option.getD_some, Option.map_some, List.map_cons, List.map_nil, List.getD_cons_zero, List.getD_cons_succ]
        rw [hp, show mkR n (starS A n 0) = mkR n (way (hasN A) n) from Z4h fun a b _ _ => by unfold starS; simp]
        rfl) (by omega) ?_
  intro m hm
  simp only [↓Z1d, ↓Z2b, ↓Z1t, ↓Z05, ↓Z2q, ↓Z2k, Z49, Z4a, ↓Z20, ↓Z1c, ↓Z0i, ↓Z1u, ↓Z12, ↓Z1z, ↓Z2z, ↓Z30, ↓Z23, ↓Z1s, ↓Z2d, ↓Z28, ↓Z1y, ↓Z3m, ↓Z46, ↓Z3e, ↓Z3g, ↓Z3f, ↓Z3v, ↓Z3q, ↓Z44, ↓Z0j, ↓Z0b, ↓Z16, ↓Z0h, ↓Z1g, Z4d, Z0a, Z18, Z32, Z1a, Z35, evN, Z2s, Z1x, Z34, Z41, Z1w, Z19, Z1v, Z2p, Z2a, Z29, Z1e, Z2x, evT, Opd.ev, Z04, Z01, Z33, Z3x, Z3o, Z26, Z1f, Z2w, Z2y, Z3c, Z22, Z14, Z3r, LOp.isNew, State.prune, Z3s, Z3j, AV.leaf, Heap.at, Z0g, Z08, Z1m, Z0e, Z02, Z4x, Z4t, rowW, Z24, Z2t, Z1p, Z1b, rowB, Z2v, Z2u, rowN, Z4b, Z3h, Z17, Z15, w_or, Z4r, Z2r, Z45, Z50, Z42, Z4s, Z47, Z4z, Z4y, Z4u, Z4v, Z4w, w_eq, Bool.decide_eq_true, Z3b, Z3a, Z39, Z2f, Z1h, Z03, Z09, Z11, Z00, Z21, rowI, RatG.row, LocG.row, ActG.row, StepG.row, StampG.row, ActG.av, ActG.eta, RatG.eta, LocG.eta, beq_true, beq_false, Z2j, Z2o, Z2c, Z2l, Z10, Z0n, Z0y, Z0z, Z0m, Z0l, Z0c, List.length_set, List.length_replicate, Z06, Int.reduceToNat, Z4o, Z27, Z4e, Src.all, Src.len, Src.leaf, Src.leafN, Z37, Z3z, Z4k, Z0k, Z0o, Z0p, Z0q, Z0r, Z0s, Z0t, Z0u, Z4m, drows, evMk, List.length_map, Z1r, Z1q, List.take_length, List.take_left, List.length_append, Nat.le_add_right, ite_self, List.take_of_length_le, Z38, Z4j, Z3w, Option.isSome_none, Option.isSome_some, Nat.sub_zero, Z4i, Z4p, Z4g, evUn, Z0v, Z13, binT, binQ, chk, Z3t, List.contains_cons, List.contains_nil, Bool.or_false, Bool.false_or, Bool.and_self, resQ, resV, resT, Z4q, Z2e, Z43, Z3l, fnOf, Z3k, isD, HO.drow, Z4f, Z3u, evEq, eqV, eqK, eqC1, Z40, Z3y, Z36, Z31, Z48, Z3d, Z2i, Z1k, Z2h, Z1j, Z2g, Z1i, Z1l, Z0w, Z0x, Z0d, List.mem_cons, List.not_mem_nil, or_false, forall_eq, putRow, Z3n, Z25, RetS, RetF, RetD, AV.frz, AV.frzL, AV.freshP, AV.freshL, DV.less, Z2m, Z1n, Z2n, Z1o, Z0f, Z07, Option.some.injEq, AV.tup.injEq, AV.agg.injEq, List.cons.injEq, DV.list.injEq, List.isEmpty_nil, Nat.le_refl, AV.d.injEq, DV.int.injEq, DV.bool.injEq, ↓reduceIte, Nat.reduceEqDiff, Nat.reduceAdd, Nat.reduceBEq, List.length_cons, List.length_nil, List.replicate_succ, List.replicate_zero, List.nil_append, List.cons_append, List.append_nil, List.foldl_cons, List.foldl_nil, List.map_cons, List.map_nil, List.all_cons, List.all_nil, List.set_cons_zero, List.set_cons_succ, List.getD_cons_zero, List.getD_cons_succ, List.drop_zero, List.drop_succ_cons, List.take_succ_cons, List.take_zero, List.flatten_cons, List.flatten_nil, Bool.true_and, Bool.and_true, Bool.not_true, Bool.not_false, true_and, and_true, true_or, or_true, Option.bind_some, Option.map_some, decide_true, decide_false, beq_self_eq_true, true_implies, false_implies, implies_true, not_true_eq_false, not_false_eq_true, and_self, Bool.and_false, Bool.false_and, Nat.reduceLT, Nat.reduceLeDiff, List.reverse_cons, List.reverse_nil, Nat.zero_add, Nat.add_zero, Bool.false_eq_true, List.getElem?_cons_zero, Nat.reduceMul, Nat.mul_one, F1, G1, G2, at_Plus, at_Put, putE_d, Z53, szR_mk' hle]
  refine ⟨fun c => ?_, fun c => ?_⟩
  · have c' : m < n := by omega
    simp only [Z4l c' (by unfold maxLen; omega)]
    rw [putR_mk hle c' c']
    refine ⟨by omega, ?_⟩
    refine Z3p.mk [0] (m + 1) (by simp) (by simp) ?_ (by show m + 1 ≤ n; omega) (by show n - (m + 1) < n - m; omega)
    simp only [State.can, AV.can, AV.canL, HO.can, Z3i, idx, Z04, Z01, Heap.at, Nat.reduceBEq, ↓reduceIte, Nat.reduceEqDiff, Option.getD_some, Option.map_some, List.map_cons, List.map_nil, List.getD_cons_zero, List.getD_cons_succ]
    rw [show mkR n (starS A n (m + 1)) = mkR n (fun a b => starS A n m a b || (decide (a = m) && decide (b = m))) from Z4h fun a b _ _ => by
      unfold starS
      by_cases e1 : a = b
      · subst e1
        by_cases e2 : a = m
        · subst e2; simp
        · by_cases e3 : a < m
          · have : a < m + 1 := by omega
            simp [e2, e3, this]
          · have : ¬ a < m + 1 := by omega
            simp [e2, e3, this]
      · by_cases e2 : a = m
        · have : ¬ b = m := by omega
          simp [e1, this]
        · simp [e1, e2]]
  · have : m = n := by omega
    subst this
    have : mkR m (starS A m m) = starG A := by
      unfold starG
      rw [hn]
      apply Z4h
      intro a b ha hb
      unfold starS
      simp [ha]
    rw [this]
    exact .inl ⟨0, true, by simp [starG, Z53, hn], rfl⟩

theorem body_ref02_Ring {T : Tab} {n1 n2 : Nat} (k1 : Knows T n1 sp_Has) (k2 : Knows T n2 sp_Plus) : sp_Ring.Body T V_ref02_Ring (L_ref02_Ring n1 n2) R_ref02_Ring := by
  have F1 := k1.F; have G1 := k1.G; have F2 := k2.F; have G2 := k2.G
  rintro ⟨A, e⟩ h1
  have h1 : A.length ≤ maxLen := h1
  refine .inl ⟨rfl, ?_⟩
  unfold V_ref02_Ring L_ref02_Ring R_ref02_Ring
  simp only [↓Z1d, ↓Z2b, ↓Z1t, ↓Z05, ↓Z2q, ↓Z2k, Z49, Z4a, ↓Z20, ↓Z1c, ↓Z0i, ↓Z1u, ↓Z12, ↓Z1z, ↓Z2z, ↓Z30, ↓Z23, ↓Z1s, ↓Z2d, ↓Z28, ↓Z1y, ↓Z3m, ↓Z46, ↓Z3e, ↓Z3g, ↓Z3f, ↓Z3v, ↓Z3q, ↓Z44, ↓Z0j, ↓Z0b, ↓Z16, ↓Z0h, ↓Z1g, Z4d, Z0a, Z18, Z32, Z1a, Z35, evN, Z2s, Z1x, Z34, Z41, Z1w, Z19, Z1v, Z2p, Z2a, Z29, Z1e, Z2x, evT, Opd.ev, Z04, Z01, Z33, Z3x, Z3o, Z26, Z1f, Z2w, Z2y, Z3c, Z22, Z14, Z3r, LOp.isNew, State.prune, Z3s, Z3j, AV.leaf, Heap.at, Z0g, Z08, Z1m, Z0e, Z02, Z4x, Z4t, rowW, Z24, Z2t, Z1p, Z1b, rowB, Z2v, Z2u, rowN, Z4b, Z3h, Z17, Z15, w_or, Z4r, Z2r, Z45, Z50, Z42, Z4s, Z47, Z4z, Z4y, Z4u, Z4v, Z4w, w_eq, Bool.decide_eq_true, Z3b, Z3a, Z39, Z2f, Z1h, Z03, Z09, Z11, Z00, Z21, rowI, RatG.row, LocG.row, ActG.row, StepG.row, StampG.row, ActG.av, ActG.eta, RatG.eta, LocG.eta, beq_true, beq_false, Z2j, Z2o, Z2c, Z2l, Z10, Z0n, Z0y, Z0z, Z0m, Z0l, Z0c, List.length_set, List.length_replicate, Z06, Int.reduceToNat, Z4o, Z27, Z4e, Src.all, Src.len, Src.leaf, Src.leafN, Z37, Z3z, Z4k, Z0k, Z0o, Z0p, Z0q, Z0r, Z0s, Z0t, Z0u, Z4m, drows, evMk, List.length_map, Z1r, Z1q, List.take_length, List.take_left, List.length_append, Nat.le_add_right, ite_self, List.take_of_length_le, Z38, Z4j, Z3w, Option.isSome_none, Option.isSome_some, Nat.sub_zero, Z4i, Z4p, Z4g, evUn, Z0v, Z13, binT, binQ, chk, Z3t, List.contains_cons, List.contains_nil, Bool.or_false, Bool.false_or, Bool.and_self, resQ, resV, resT, Z4q, Z2e, Z43, Z3l, fnOf, Z3k, isD, HO.drow, Z4f, Z3u, evEq, eqV, eqK, eqC1, Z40, Z3y, Z36, Z31, Z48, Z3d, Z2i, Z1k, Z2h, Z1j, Z2g, Z1i, Z1l, Z0w, Z0x, Z0d, List.mem_cons, List.not_mem_nil, or_false, forall_eq, putRow, Z3n, Z25, RetS, RetF, RetD, AV.frz, AV.frzL, AV.freshP, AV.freshL, DV.less, Z2m, Z1n, Z2n, Z1o, Z0f, Z07, Option.some.injEq, AV.tup.injEq, AV.agg.injEq, List.cons.injEq, DV.list.injEq, List.isEmpty_nil, Nat.le_refl, AV.d.injEq, DV.int.injEq, DV.bool.injEq, ↓reduceIte, Nat.reduceEqDiff, Nat.reduceAdd, Nat.reduceBEq, List.length_cons, List.length_nil, List.replicate_succ, List.replicate_zero, List.nil_append, List.cons_append, List.append_nil, List.foldl_cons, List.foldl_nil, List.map_cons, List.map_nil, List.all_cons, List.all_nil, List.set_cons_zero, List.set_cons_succ, List.getD_cons_zero, List.getD_cons_succ, List.drop_zero, List.drop_succ_cons, List.take_succ_cons, List.take_zero, List.flatten_cons, List.flatten_nil, Bool.true_and, Bool.and_true, Bool.not_true, Bool.not_false, true_and, and_true, true_or, or_true, Option.bind_some, Option.map_some, decide_true, decide_false, beq_self_eq_true, true_implies, false_implies, implies_true, not_true_eq_false, not_false_eq_true, and_self, Bool.and_false, Bool.false_and, Nat.reduceLT, Nat.reduceLeDiff, List.reverse_cons, List.reverse_nil, Nat.zero_add, Nat.add_zero, Bool.false_eq_true, List.getElem?_cons_zero, Nat.reduceMul, Nat.mul_one, sp_Ring, F1, G1, F2, G2, at_Has, at_Plus]
  have hle := szR_le A
  rw [plusG_len]
  have hr : ringG A = (List.range (szR A)).any fun i => way (hasN A) (szR A) i i := rfl
  obtain ⟨n, hn⟩ : ∃ n, n = szR A := ⟨_, rfl⟩
  rw [← hn] at hle hr ⊢
  refine ⟨h1, ?_⟩
  refine Loop.fam [3, 4] (fun m : Nat => ⟨[(3, .ref 0 1 0 n true), (4, .d (.int .i64 m))],
      [.dvec 1 ((plusG A).map rowW)]⟩) (fun m => m ≤ n ∧ ∀ i, i < m → way (hasN A) n i i = false) (fun m => n - m) 0 [0] (by simp) (by simp) (by simp only [State.can, AV.can, AV.canL, HO.can, Z3i, idx, Z04, Z01, Heap.at, Nat.reduceBEq, ↓reduceIte, Nat.reduceEqDiff, Option.getD_some, Option.map_some, List.map_cons, List.map_nil, List.getD_cons_zero, List.getD_cons_succ]; rfl) ⟨by omega, fun i hi => by omega⟩ ?_
  rintro m ⟨hm, hno⟩
  have htk : (plusG A).take n = plusG A := List.take_of_length_le (by rw [plusG_len]; omega)
  simp only [↓Z1d, ↓Z2b, ↓Z1t, ↓Z05, ↓Z2q, ↓Z2k, Z49, Z4a, ↓Z20, ↓Z1c, ↓Z0i, ↓Z1u, ↓Z12, ↓Z1z, ↓Z2z, ↓Z30, ↓Z23, ↓Z1s, ↓Z2d, ↓Z28, ↓Z1y, ↓Z3m, ↓Z46, ↓Z3e, ↓Z3g, ↓Z3f, ↓Z3v, ↓Z3q, ↓Z44, ↓Z0j, ↓Z0b, ↓Z16, ↓Z0h, ↓Z1g, Z4d, Z0a, Z18, Z32, Z1a, Z35, evN, Z2s, Z1x, Z34, Z41, Z1w, Z19, Z1v, Z2p, Z2a, Z29, Z1e, Z2x, evT, Opd.ev, Z04, Z01, Z33, Z3x, Z3o, Z26, Z1f, Z2w, Z2y, Z3c, Z22, Z14, Z3r, LOp.isNew, State.prune, Z3s, Z3j, AV.leaf, Heap.at, Z0g, Z08, Z1m, Z0e, Z02, Z4x, Z4t, rowW, Z24, Z2t, Z1p, Z1b, rowB, Z2v, Z2u, rowN, Z4b, Z3h, Z17, Z15, w_or, Z4r, Z2r, Z45, Z50, Z42, Z4s, Z47, Z4z, Z4y, Z4u, Z4v, Z4w, w_eq, Bool.decide_eq_true, Z3b, Z3a, Z39, Z2f, Z1h, Z03, Z09, Z11, Z00, Z21, rowI, RatG.row, LocG.row, ActG.row, StepG.row, StampG.row, ActG.av, ActG.eta, RatG.eta, LocG.eta, beq_true, beq_false, Z2j, Z2o, Z2c, Z2l, Z10, Z0n, Z0y, Z0z, Z0m, Z0l, Z0c, List.length_set, List.length_replicate, Z06, Int.reduceToNat, Z4o, Z27, Z4e, Src.all, Src.len, Src.leaf, Src.leafN, Z37, Z3z, Z4k, Z0k, Z0o, Z0p, Z0q, Z0r, Z0s, Z0t, Z0u, Z4m, drows, evMk, List.length_map, Z1r, Z1q, List.take_length, List.take_left, List.length_append, Nat.le_add_right, ite_self, List.take_of_length_le, Z38, Z4j, Z3w, Option.isSome_none, Option.isSome_some, Nat.sub_zero, Z4i, Z4p, Z4g, evUn, Z0v, Z13, binT, binQ, chk, Z3t, List.contains_cons, List.contains_nil, Bool.or_false, Bool.false_or, Bool.and_self, resQ, resV, resT, Z4q, Z2e, Z43, Z3l, fnOf, Z3k, isD, HO.drow, Z4f, Z3u, evEq, eqV, eqK, eqC1, Z40, Z3y, Z36, Z31, Z48, Z3d, Z2i, Z1k, Z2h, Z1j, Z2g, Z1i, Z1l, Z0w, Z0x, Z0d, List.mem_cons, List.not_mem_nil, or_false, forall_eq, putRow, Z3n, Z25, RetS, RetF, RetD, AV.frz, AV.frzL, AV.freshP, AV.freshL, DV.less, Z2m, Z1n, Z2n, Z1o, Z0f, Z07, Option.some.injEq, AV.tup.injEq, AV.agg.injEq, List.cons.injEq, DV.list.injEq, List.isEmpty_nil, Nat.le_refl, AV.d.injEq, DV.int.injEq, DV.bool.injEq, ↓reduceIte, Nat.reduceEqDiff, Nat.reduceAdd, Nat.reduceBEq, List.length_cons, List.length_nil, List.replicate_succ, List.replicate_zero, List.nil_append, List.cons_append, List.append_nil, List.foldl_cons, List.foldl_nil, List.map_cons, List.map_nil, List.all_cons, List.all_nil, List.set_cons_zero, List.set_cons_succ, List.getD_cons_zero, List.getD_cons_succ, List.drop_zero, List.drop_succ_cons, List.take_succ_cons, List.take_zero, List.flatten_cons, List.flatten_nil, Bool.true_and, Bool.and_true, Bool.not_true, Bool.not_false, true_and, and_true, true_or, or_true, Option.bind_some, Option.map_some, decide_true, decide_false, beq_self_eq_true, true_implies, false_implies, implies_true, not_true_eq_false, not_false_eq_true, and_self, Bool.and_false, Bool.false_and, Nat.reduceLT, Nat.reduceLeDiff, List.reverse_cons, List.reverse_nil, Nat.zero_add, Nat.add_zero, Bool.false_eq_true, List.getElem?_cons_zero, Nat.reduceMul, Nat.mul_one, F1, G1, F2, G2, at_Has, at_Plus, plusG_len, ← hn, htk]
  refine ⟨fun c => ?_, fun c => ?_⟩
  · have c' : m < n := by omega
    rw [hasI_plus (by omega) (by omega), ← hn]
    simp only [Z4l c' (by unfold maxLen; omega)]
    refine ⟨by unfold maxLen; omega, fun hb => ?_, fun hb => ?_⟩
    · rw [hr]; symm
      rw [List.any_eq_true]
      exact ⟨m, by simpa using c', hb⟩
    · refine Z3p.mk [0] (m + 1) (by simp) (by simp) (by simp only [State.can, AV.can, AV.canL, HO.can, Z3i, idx, Z04, Z01, Heap.at, Nat.reduceBEq, ↓reduceIte, Nat.reduceEqDiff, Option.getD_some, Option.map_some, List.map_cons, List.map_nil, List.getD_cons_zero, List.getD_cons_succ]) ⟨by omega, fun i hi => ?_⟩ (by omega)
      by_cases e1 : i = m
      · subst e1; simpa using hb
      · exact hno i (by omega)
  · have : m = n := by omega
    rw [hr]; symm
    rw [List.any_eq_false]
    intro i hi
    rw [hno i (by rw [this]; simpa using hi)]; simp

/-! ### Order -/
/-- The least one of those from m on, if any. -/
def Least (f : Nat → Bool) (n m : Nat) (at_ : Int) : Prop := (at_ = -1 ∧ ∀ j, m ≤ j → j < n → f j = false) ∨ ∃ a : Nat, at_ = a ∧ m ≤ a ∧ a < n ∧ f a = true ∧ ∀ j, m ≤ j → j < a → f j = false
theorem Least.hit {f : Nat → Bool} {n m : Nat} (hm : m < n) (h : f m = true) : Least f n m m := .inr ⟨m, rfl, Nat.le_refl m, hm, h, fun j h1 h2 => by omega⟩
theorem Least.at {A : List W} {told : W} {n : Nat} {a : Int} (h : Least (fun k => freeK (backG A) told k) n 0 a) : (a < 0 ∧ freeAt (backG A) n told = n) ∨ ∃ b : Nat, a = b ∧ b < n ∧ freeAt (backG A) n told = b := by
  rcases h with ⟨h1, h2⟩ | ⟨b, h1, h2, h3, h4, h5⟩
  · exact .inl ⟨by omega, freeAt_eq (Nat.le_refl n) (fun k hk => h2 k (Nat.zero_le k) hk) (.inl rfl)⟩
  · exact .inr ⟨b, h1, h3, freeAt_eq (by omega) (fun k hk => h5 k (Nat.zero_le k) hk) (.inr h4)⟩
end Go.Ago

/- The reference of layer 19: relations cut to size, laid together, and their parts. Conditions: none. -/
set_option maxRecDepth 100000
set_option linter.unusedSimpArgs false
set_option linter.unusedVariables false
namespace Go.Ago

/-! ### Fit -/
def bitR (r : List W) (i k : Nat) : Bool := decide (i < r.length) && (r.getD i 0#64).getLsbD k
def fitR (r : List W) (n : Nat) : List W := mkR n (bitR r)
def sp_Fit : Sp := ⟨List W × Bool × Nat, fun x => [.d (.list (x.1.map rowW) x.2.1), .d (.int .i64 (x.2.2 : Int))],
  fun x => .data (x.1.length ≤ maxLen ∧ x.2.2 ≤ 64) (.d (.list ((fitR x.1 x.2.2).map rowW) false)) true⟩
theorem at_Fit (l : List W) (f : Bool) (n : Nat) : sp_Fit.at [.d (.list (l.map rowW) f), .d (.int .i64 (n : Int))] = .data (l.length ≤ maxLen ∧ n ≤ 64) (.d (.list ((fitR l n).map rowW) false)) true :=
  Sp.at_enc (s := sp_Fit) (fun x y h => by
    obtain ⟨a, b, c⟩ := x; obtain ⟨a', b', c'⟩ := y
    simp only [sp_Fit, List.cons.injEq, AV.d.injEq, DV.list.injEq, DV.int.injEq, and_true, true_and] at h
    rw [Z4n Z51 h.1.1, h.1.2, Int.ofNat.inj h.2]) (l, f, n)
theorem mod_bit {x : W} {k : Nat} : ((((x >>> k).toNat : Nat) : Int).tmod 2 = 1) ↔ x.getLsbD k = true := by
  rw [BitVec.getLsbD, Nat.testBit_eq_decide_div_mod_eq, decide_eq_true_eq, BitVec.toNat_ushiftRight, Nat.shiftRight_eq_div_pow]
  rw [show (2 : Int) = ((2 : Nat) : Int) from rfl, ← Int.ofNat_tmod]
  omega
theorem put_up (p : Nat → Nat → Bool) {n i k : Nat} (hi : i < n) (hk : k < n) (hn : n ≤ 64) (h : p i k = true) : putR (mkR n (upS p i k)) i k = mkR n (upS p i (k + 1)) := upS_yes p hi hk hn h
theorem body_ref19_Fit {T : Tab} {n1 : Nat} (k1 : KnowsG T n1 ef_Put.at) : sp_Fit.Body T V_ref19_Fit (L_ref19_Fit n1) R_ref19_Fit := by
  have G1 := k1.G
  rintro ⟨l, f, n⟩ ⟨h1, h2⟩
  have h1 : l.length ≤ maxLen := h1
  have h2 : n ≤ 64 := h2
  refine .inr ⟨rfl, ?_⟩
  unfold V_ref19_Fit L_ref19_Fit R_ref19_Fit
  simp only [↓Z1d, ↓Z2b, ↓Z1t, ↓Z05, ↓Z2q, ↓Z2k, Z49, Z4a, ↓Z20, ↓Z1c, ↓Z0i, ↓Z1u, ↓Z12, ↓Z1z, ↓Z2z, ↓Z30, ↓Z23, ↓Z1s, ↓Z2d, ↓Z28, ↓Z1y, ↓Z3m, ↓Z46, ↓Z3e, ↓Z3g, ↓Z3f, ↓Z3v, ↓Z3q, ↓Z44, ↓Z0j, ↓Z0b, ↓Z16, ↓Z0h, ↓Z1g, Z4d, Z0a, Z18, Z32, Z1a, Z35, evN, Z2s, Z1x, Z34, Z41, Z1w, Z19, Z1v, Z2p, Z2a, Z29, Z1e, Z2x, evT, Opd.ev, Z04, Z01, Z33, Z3x, Z3o, Z26, Z1f, Z2w, Z2y, Z3c, Z22, Z14, Z3r, LOp.isNew, State.prune, Z3s, Z3j, AV.leaf, Heap.at, Z0g, Z08, Z1m, Z0e, Z02, Z4x, Z4t, rowW, Z24, Z2t, Z1p, Z1b, rowB, Z2v, Z2u, rowN, Z4b, Z3h, Z17, Z15, w_or, Z4r, Z2r, Z45, Z50, Z42, Z4s, Z47, Z4z, Z4y, Z4u, Z4v, Z4w, w_eq, Bool.decide_eq_true, Z3b, Z3a, Z39, Z2f, Z1h, Z03, Z09, Z11, Z00, Z21, rowI, RatG.row, LocG.row, ActG.row, StepG.row, StampG.row, ActG.av, ActG.eta, RatG.eta, LocG.eta, beq_true, beq_false, Z2j, Z2o, Z2c, Z2l, Z10, Z0n, Z0y, Z0z, Z0m, Z0l, Z0c, List.length_set, List.length_replicate, Z06, Int.reduceToNat, Z4o, Z27, Z4e, Src.all, Src.len, Src.leaf, Src.leafN, Z37, Z3z, Z4k, Z0k, Z0o, Z0p, Z0q, Z0r, Z0s, Z0t, Z0u, Z4m, drows, evMk, List.length_map, Z1r, Z1q, List.take_length, List.take_left, List.length_append, Nat.le_add_right, ite_self, List.take_of_length_le, Z38, Z4j, Z3w, Option.isSome_none, Option.isSome_some, Nat.sub_zero, Z4i, Z4p, Z4g, evUn, Z0v, Z13, binT, binQ, chk, Z3t, List.contains_cons, List.contains_nil, Bool.or_false, Bool.false_or, Bool.and_self, resQ, resV, resT, Z4q, Z2e, Z43, Z3l, fnOf, Z3k, isD, HO.drow, Z4f, Z3u, evEq, eqV, eqK, eqC1, Z40, Z3y, Z36, Z31, Z48, Z3d, Z2i, Z1k, Z2h, Z1j, Z2g, Z1i, Z1l, Z0w, Z0x, Z0d, List.mem_cons, List.not_mem_nil, or_false, forall_eq, putRow, Z3n, Z25, RetS, RetF, RetD, AV.frz, AV.frzL, AV.freshP, AV.freshL, DV.less, Z2m, Z1n, Z2n, Z1o, Z0f, Z07, Option.some.injEq, AV.tup.injEq, AV.agg.injEq, List.cons.injEq, DV.list.injEq, List.isEmpty_nil, Nat.le_refl, AV.d.injEq, DV.int.injEq, DV.bool.injEq, ↓reduceIte, Nat.reduceEqDiff, Nat.reduceAdd, Nat.reduceBEq, List.length_cons, List.length_nil, List.replicate_succ, List.replicate_zero, List.nil_append, List.cons_append, List.append_nil, List.foldl_cons, List.foldl_nil, List.map_cons, List.map_nil, List.all_cons, List.all_nil, List.set_cons_zero, List.set_cons_succ, List.getD_cons_zero, List.getD_cons_succ, List.drop_zero, List.drop_succ_cons, List.take_succ_cons, List.take_zero, List.flatten_cons, List.flatten_nil, Bool.true_and, Bool.and_true, Bool.not_true, Bool.not_false, true_and, and_true, true_or, or_true, Option.bind_some, Option.map_some, decide_true, decide_false, beq_self_eq_true, true_implies, false_implies, implies_true, not_true_eq_false, not_false_eq_true, and_self, Bool.and_false, Bool.false_and, Nat.reduceLT, Nat.reduceLeDiff, List.reverse_cons, List.reverse_nil, Nat.zero_add, Nat.add_zero, Bool.false_eq_true, List.getElem?_cons_zero, Nat.reduceMul, Nat.mul_one, sp_Fit, G1, at_Put, putE_d]
  have hz : List.replicate n 0#64 = mkR n (upS (bitR l) 0 0) := mkR_zero (fun a b _ _ => upS_zero _ a b)
  rw [hz]
  refine ⟨⟨by omega, by omega, roomy_of (by omega) (by omega)⟩, ?_⟩
  refine Loop.fam [0, 1, 5, 6] (fun i : Nat => ⟨[(0, .d (.list (l.map rowW) f)), (1, .d (.int .i64 n)), (5, .ref 0 1 0 n true), (6, .d (.int .i64 i))],
      [.dvec 1 ((mkR n (upS (bitR l) i 0)).map rowW)]⟩) (fun i => i ≤ n) (fun i => n - i) 0 [0] (by simp) (by simp) (by simp only [State.can, AV.can, AV.canL, HO.can, Z3i, idx, Z04, Z01, Heap.at, Nat.reduceBEq, ↓reduceIte, Nat.reduceEqDiff, Option.getD_some, Option.map_some, List.map_cons, List.map_nil, List.getD_cons_zero, List.getD_cons_succ]; rfl) (by omega) ?_
  intro i hi
  simp only [↓Z1d, ↓Z2b, ↓Z1t, ↓Z05, ↓Z2q, ↓Z2k, Z49, Z4a, ↓Z20, ↓Z1c, ↓Z0i, ↓Z1u, ↓Z12, ↓Z1z, ↓Z2z, ↓Z30, ↓Z23, ↓Z1s, ↓Z2d, ↓Z28, ↓Z1y, ↓Z3m, ↓Z46, ↓Z3e, ↓Z3g, ↓Z3f, ↓Z3v, ↓Z3q, ↓Z44, ↓Z0j, ↓Z0b, ↓Z16, ↓Z0h, ↓Z1g, Z4d, Z0a, Z18, Z32, Z1a, Z35, evN, Z2s, Z1x, Z34, Z41, Z1w, Z19, Z1v, Z2p, Z2a, Z29, Z1e, Z2x, evT, Opd.ev, Z04, Z01, Z33, Z3x, Z3o, Z26, Z1f, Z2w, Z2y, Z3c, Z22, Z14, Z3r, LOp.isNew, State.prune, Z3s, Z3j, AV.leaf, Heap.at, Z0g, Z08, Z1m, Z0e, Z02, Z4x, Z4t, rowW, Z24, Z2t, Z1p, Z1b, rowB, Z2v, Z2u, rowN, Z4b, Z3h, Z17, Z15, w_or, Z4r, Z2r, Z45, Z50, Z42, Z4s, Z47, Z4z, Z4y, Z4u, Z4v, Z4w, w_eq, Bool.decide_eq_true, Z3b, Z3a, Z39, Z2f, Z1h, Z03, Z09, Z11, Z00, Z21, rowI, RatG.row, LocG.row, ActG.row, StepG.row, StampG.row, ActG.av, ActG.eta, RatG.eta, LocG.eta, beq_true, beq_false, Z2j, Z2o, Z2c, Z2l, Z10, Z0n, Z0y, Z0z, Z0m, Z0l, Z0c, List.length_set, List.length_replicate, Z06, Int.reduceToNat, Z4o, Z27, Z4e, Src.all, Src.len, Src.leaf, Src.leafN, Z37, Z3z, Z4k, Z0k, Z0o, Z0p, Z0q, Z0r, Z0s, Z0t, Z0u, Z4m, drows, evMk, List.length_map, Z1r, Z1q, List.take_length, List.take_left, List.length_append, Nat.le_add_right, ite_self, List.take_of_length_le, Z38, Z4j, Z3w, Option.isSome_none, Option.isSome_some, Nat.sub_zero, Z4i, Z4p, Z4g, evUn, Z0v, Z13, binT, binQ, chk, Z3t, List.contains_cons, List.contains_nil, Bool.or_false, Bool.false_or, Bool.and_self, resQ, resV, resT, Z4q, Z2e, Z43, Z3l, fnOf, Z3k, isD, HO.drow, Z4f, Z3u, evEq, eqV, eqK, eqC1, Z40, Z3y, Z36, Z31, Z48, Z3d, Z2i, Z1k, Z2h, Z1j, Z2g, Z1i, Z1l, Z0w, Z0x, Z0d, List.mem_cons, List.not_mem_nil, or_false, forall_eq, putRow, Z3n, Z25, RetS, RetF, RetD, AV.frz, AV.frzL, AV.freshP, AV.freshL, DV.less, Z2m, Z1n, Z2n, Z1o, Z0f, Z07, Option.some.injEq, AV.tup.injEq, AV.agg.injEq, List.cons.injEq, DV.list.injEq, List.isEmpty_nil, Nat.le_refl, AV.d.injEq, DV.int.injEq, DV.bool.injEq, ↓reduceIte, Nat.reduceEqDiff, Nat.reduceAdd, Nat.reduceBEq, List.length_cons, List.length_nil, List.replicate_succ, List.replicate_zero, List.nil_append, List.cons_append, List.append_nil, List.foldl_cons, List.foldl_nil, List.map_cons, List.map_nil, List.all_cons, List.all_nil, List.set_cons_zero, List.set_cons_succ, List.getD_cons_zero, List.getD_cons_succ, List.drop_zero, List.drop_succ_cons, List.take_succ_cons, List.take_zero, List.flatten_cons, List.flatten_nil, Bool.true_and, Bool.and_true, Bool.not_true, Bool.not_false, true_and, and_true, true_or, or_true, Option.bind_some, Option.map_some, decide_true, decide_false, beq_self_eq_true, true_implies, false_implies, implies_true, not_true_eq_false, not_false_eq_true, and_self, Bool.and_false, Bool.false_and, Nat.reduceLT, Nat.reduceLeDiff, List.reverse_cons, List.reverse_nil, Nat.zero_add, Nat.add_zero, Bool.false_eq_true, List.getElem?_cons_zero, Nat.reduceMul, Nat.mul_one, G1, at_Put, putE_d]
  have fin : ¬ (i < n ∧ i < l.length) → mkR n (upS (bitR l) i 0) = fitR l n := fun h => by
    unfold fitR
    apply Z4h
    intro a b ha hb
    unfold upS
    by_cases e : a < i
    · simp [e]
    · have : bitR l a b = false := by
        have : ¬ a < l.length := by omega
        simp [bitR, this]
      rw [this]; simp
  refine ⟨fun c => ⟨fun c2 => ?_, fun c2 => ?_⟩, fun c => ?_⟩
  · have c' : i < n := by omega
    have hil : i < l.length := by omega
    refine Loop.fam [0, 1, 5, 6, 7] (fun k : Nat => ⟨[(0, .d (.list (l.map rowW) f)), (1, .d (.int .i64 n)), (5, .ref 0 1 0 n true), (6, .d (.int .i64 i)), (7, .d (.int .i64 k))],
      [.dvec 1 ((mkR n (upS (bitR l) i k)).map rowW)]⟩) (fun k => k ≤ n) (fun k => n - k) 0 [0] (by simp) (by simp) (by simp only [State.can, AV.can, AV.canL, HO.can, Z3i, idx, Z04, Z01, Heap.at, Nat.reduceBEq, ↓reduceIte, Nat.reduceEqDiff, Option.getD_some, Option.map_some, List.map_cons, List.map_nil, List.getD_cons_zero, List.getD_cons_succ]; rfl) (by omega) ?_
    intro k hk
    simp only [↓Z1d, ↓Z2b, ↓Z1t, ↓Z05, ↓Z2q, ↓Z2k, Z49, Z4a, ↓Z20, ↓Z1c, ↓Z0i, ↓Z1u, ↓Z12, ↓Z1z, ↓Z2z, ↓Z30, ↓Z23, ↓Z1s, ↓Z2d, ↓Z28, ↓Z1y, ↓Z3m, ↓Z46, ↓Z3e, ↓Z3g, ↓Z3f, ↓Z3v, ↓Z3q, ↓Z44, ↓Z0j, ↓Z0b, ↓Z16, ↓Z0h, ↓Z1g, Z4d, Z0a, Z18, Z32, Z1a, Z35, evN, Z2s, Z1x, Z34, Z41, Z1w, Z19, Z1v, Z2p, Z2a, Z29, Z1e, Z2x, evT, Opd.ev, Z04, Z01, Z33, Z3x, Z3o, Z26, Z1f, Z2w, Z2y, Z3c, Z22, Z14, Z3r, LOp.isNew, State.prune, Z3s, Z3j, AV.leaf, Heap.at, Z0g, Z08, Z1m, Z0e, Z02, Z4x, Z4t, rowW, Z24, Z2t, Z1p, Z1b, rowB, Z2v, Z2u, rowN, Z4b, Z3h, Z17, Z15, w_or, Z4r, Z2r, Z45, Z50, Z42, Z4s, Z47, Z4z, Z4y, Z4u, Z4v, Z4w, w_eq, Bool.decide_eq_true, Z3b, Z3a, Z39, Z2f, Z1h, Z03, Z09, Z11, Z00, Z21, rowI, RatG.row, LocG.row, ActG.row, StepG.row, StampG.row, ActG.av, ActG.eta, RatG.eta, LocG.eta, beq_true, beq_false, Z2j, Z2o, Z2c, Z2l, Z10, Z0n, Z0y, Z0z, Z0m, Z0l, Z0c, List.length_set, List.length_replicate, Z06, Int.reduceToNat, Z4o, Z27, Z4e, Src.all, Src.len, Src.leaf, Src.leafN, Z37, Z3z, Z4k, Z0k, Z0o, Z0p, Z0q, Z0r, Z0s, Z0t, Z0u, Z4m, drows, evMk, List.length_map, Z1r, Z1q, List.take_length, List.take_left, List.length_append, Nat.le_add_right, ite_self, List.take_of_length_le, Z38, Z4j, Z3w, Option.isSome_none, Option.isSome_some, Nat.sub_zero, Z4i, Z4p, Z4g, evUn, Z0v, Z13, binT, binQ, chk, Z3t, List.contains_cons, List.contains_nil, Bool.or_false, Bool.false_or, Bool.and_self, resQ, resV, resT, Z4q, Z2e, Z43, Z3l, fnOf, Z3k, isD, HO.drow, Z4f, Z3u, evEq, eqV, eqK, eqC1, Z40, Z3y, Z36, Z31, Z48, Z3d, Z2i, Z1k, Z2h, Z1j, Z2g, Z1i, Z1l, Z0w, Z0x, Z0d, List.mem_cons, List.not_mem_nil, or_false, forall_eq, putRow, Z3n, Z25, RetS, RetF, RetD, AV.frz, AV.frzL, AV.freshP, AV.freshL, DV.less, Z2m, Z1n, Z2n, Z1o, Z0f, Z07, Option.some.injEq, AV.tup.injEq, AV.agg.injEq, List.cons.injEq, DV.list.injEq, List.isEmpty_nil, Nat.le_refl, AV.d.injEq, DV.int.injEq, DV.bool.injEq, ↓reduceIte, Nat.reduceEqDiff, Nat.reduceAdd, Nat.reduceBEq, List.length_cons, List.length_nil, List.replicate_succ, List.replicate_zero, List.nil_append, List.cons_append, List.append_nil, List.foldl_cons, List.foldl_nil, List.map_cons, List.map_nil, List.all_cons, List.all_nil, List.set_cons_zero, List.set_cons_succ, List.getD_cons_zero, List.getD_cons_succ, List.drop_zero, List.drop_succ_cons, List.take_succ_cons, List.take_zero, List.flatten_cons, List.flatten_nil, Bool.true_and, Bool.and_true, Bool.not_true, Bool.not_false, true_and, and_true, true_or, or_true, Option.bind_some, Option.map_some, decide_true, decide_false, beq_self_eq_true, true_implies, false_implies, implies_true, not_true_eq_false, not_false_eq_true, and_self, Bool.and_false, Bool.false_and, Nat.reduceLT, Nat.reduceLeDiff, List.reverse_cons, List.reverse_nil, Nat.zero_add, Nat.add_zero, Bool.false_eq_true, List.getElem?_cons_zero, Nat.reduceMul, Nat.mul_one, G1, at_Put, putE_d]
    refine ⟨fun g => ?_, fun g => ?_⟩
    · have g' : k < n := by omega
      rw [wrapU (k := k) (by omega), Z4l g' (by unfold maxLen; omega)]
      simp only [Z06, Z53, szR_mk, Nat.min_eq_left h2, mod_bit]
      have hb : bitR l i k = (l.getD i 0#64).getLsbD k := by simp [bitR, hil]
      refine ⟨⟨by omega, by omega⟩, by omega, by decide, fun h => ⟨⟨⟨trivial, h2⟩, ⟨by omega, by omega⟩, by omega, by omega⟩, ?_⟩, fun h => ?_⟩
      · rw [put_up _ c' g' h2 (by rw [hb]; exact h)]
        exact Z3p.mk [0] (k + 1) (by simp) (by simp) (by simp only [State.can, AV.can, AV.canL, HO.can, Z3i, idx, Z04, Z01, Heap.at, Nat.reduceBEq, ↓reduceIte, Nat.reduceEqDiff, Option.getD_some, Option.map_some, List.map_cons, List.map_nil, List.getD_cons_zero, List.getD_cons_succ]) (by omega) (by omega)
      · rw [upS_no _ (by rw [hb]; simpa using h)]
        exact Z3p.mk [0] (k + 1) (by simp) (by simp) (by simp only [State.can, AV.can, AV.canL, HO.can, Z3i, idx, Z04, Z01, Heap.at, Nat.reduceBEq, ↓reduceIte, Nat.reduceEqDiff, Option.getD_some, Option.map_some, List.map_cons, List.map_nil, List.getD_cons_zero, List.getD_cons_succ]) (by omega) (by omega)
    · have : k = n := by omega
      subst this
      rw [Z4l c' (by unfold maxLen; omega), upS_next]
      exact Z3p.mk [0] (i + 1) (by simp) (by simp) (by simp only [State.can, AV.can, AV.canL, HO.can, Z3i, idx, Z04, Z01, Heap.at, Nat.reduceBEq, ↓reduceIte, Nat.reduceEqDiff, Option.getD_some, Option.map_some, List.map_cons, List.map_nil, List.getD_cons_zero, List.getD_cons_succ]) (by omega) (by omega)
  · rw [fin (by omega)]
    exact frz_end (l := fitR l n) (by simp [fitR, Z53])
  · rw [fin (by omega)]
    exact frz_end (l := fitR l n) (by simp [fitR, Z53])

/-! ### or, then: of some -/
/-- Of a list that has a first relation. -/
def foldG (g : List W → List W → List W) (l : List (List W × Bool)) : List W := (l.drop 1).foldl (fun o x => g o x.1) (l.getD 0 ([], false)).1
theorem foldG_next {g : List W → List W → List W} {l : List (List W × Bool)} {i : Nat} (h0 : 0 < i) (h : i < l.length) : g (foldG g (l.take i)) (l.getD i ([], false)).1 = foldG g (l.take (i + 1)) := by
  unfold foldG
  have e0 : ∀ j, 0 < j → (l.take j).getD 0 ([], false) = l.getD 0 ([], false) := fun j hj => by
    rw [List.getD_eq_getElem?_getD, List.getElem?_take, if_pos hj, ← List.getD_eq_getElem?_getD]
  rw [e0 i h0, e0 (i + 1) (by omega), List.take_succ_eq_append_getElem h, List.drop_append, List.foldl_append, getD_lt h]
  have : 1 - (l.take i).length = 0 := by rw [List.length_take]; omega
  rw [this]; rfl
theorem foldG_le {g : List W → List W → List W} (hg : ∀ a b, (g a b).length ≤ 64) {l : List (List W × Bool)} (hl : ∀ r ∈ l, r.1.length ≤ 64) : (foldG g l).length ≤ 64 := by
  unfold foldG
  have h0 : (l.getD 0 ([], false)).1.length ≤ 64 := by
    cases l with
    | nil => simp
    | cons a l => exact hl a (by simp)
  generalize (l.getD 0 ([], false)).1 = o at h0
  generalize l.drop 1 = m
  revert o
  induction m with
  | nil => exact fun o h => h
  | cons a m ih => exact fun o _ => ih _ (hg _ _)
def sp_fold (g : List W → List W → List W) : Sp := ⟨List (List W × Bool) × Bool, fun x => [.d (.list (x.1.map rowL) x.2)],
  fun x => .data (0 < x.1.length ∧ x.1.length ≤ 64 ∧ ∀ r ∈ x.1, r.1.length ≤ 64) (.d (.list ((foldG g x.1).map rowW) false)) false⟩
theorem at_fold (g : List W → List W → List W) (l : List (List W × Bool)) (f : Bool) : (sp_fold g).at [.d (.list (l.map rowL) f)] =
    .data (0 < l.length ∧ l.length ≤ 64 ∧ ∀ r ∈ l, r.1.length ≤ 64) (.d (.list ((foldG g l).map rowW) false)) false :=
  Sp.at_enc (s := sp_fold g) (fun x y h => by
    obtain ⟨a, b⟩ := x; obtain ⟨a', b'⟩ := y
    simp only [sp_fold, List.cons.injEq, AV.d.injEq, DV.list.injEq, and_true] at h
    rw [Z4n rowL_inj h.1, h.2]) (l, f)
theorem body_ref19_or {T : Tab} {n1 : Nat} (k1 : Knows T n1 sp_layR.dat) : (sp_fold (lay2 (layQ 0))).Body T V_ref19_or (L_ref19_or n1) R_ref19_or := by
  have F1 := k1.F; have G1 := k1.G
  rintro ⟨l, f⟩ ⟨h0, h2, h3⟩
  have h0 : 0 < l.length := h0
  have h2 : l.length ≤ 64 := h2
  have h3 : ∀ r ∈ l, r.1.length ≤ 64 := h3
  refine ⟨rfl, ?_⟩
  unfold V_ref19_or L_ref19_or R_ref19_or
  simp only [↓Z1d, ↓Z2b, ↓Z1t, ↓Z05, ↓Z2q, ↓Z2k, Z49, Z4a, ↓Z20, ↓Z1c, ↓Z0i, ↓Z1u, ↓Z12, ↓Z1z, ↓Z2z, ↓Z30, ↓Z23, ↓Z1s, ↓Z2d, ↓Z28, ↓Z1y, ↓Z3m, ↓Z46, ↓Z3e, ↓Z3g, ↓Z3f, ↓Z3v, ↓Z3q, ↓Z44, ↓Z0j, ↓Z0b, ↓Z16, ↓Z0h, ↓Z1g, Z4d, Z0a, Z18, Z32, Z1a, Z35, evN, Z2s, Z1x, Z34, Z41, Z1w, Z19, Z1v, Z2p, Z2a, Z29, Z1e, Z2x, evT, Opd.ev, Z04, Z01, Z33, Z3x, Z3o, Z26, Z1f, Z2w, Z2y, Z3c, Z22, Z14, Z3r, LOp.isNew, State.prune, Z3s, Z3j, AV.leaf, Heap.at, Z0g, Z08, Z1m, Z0e, Z02, Z4x, Z4t, rowW, Z24, Z2t, Z1p, Z1b, rowB, Z2v, Z2u, rowN, Z4b, Z3h, Z17, Z15, w_or, Z4r, Z2r, Z45, Z50, Z42, Z4s, Z47, Z4z, Z4y, Z4u, Z4v, Z4w, w_eq, Bool.decide_eq_true, Z3b, Z3a, Z39, Z2f, Z1h, Z03, Z09, Z11, Z00, Z21, rowI, RatG.row, LocG.row, ActG.row, StepG.row, StampG.row, ActG.av, ActG.eta, RatG.eta, LocG.eta, beq_true, beq_false, Z2j, Z2o, Z2c, Z2l, Z10, Z0n, Z0y, Z0z, Z0m, Z0l, Z0c, List.length_set, List.length_replicate, Z06, Int.reduceToNat, Z4o, Z27, Z4e, Src.all, Src.len, Src.leaf, Src.leafN, Z37, Z3z, Z4k, Z0k, Z0o, Z0p, Z0q, Z0r, Z0s, Z0t, Z0u, Z4m, drows, evMk, List.length_map, Z1r, Z1q, List.take_length, List.take_left, List.length_append, Nat.le_add_right, ite_self, List.take_of_length_le, Z38, Z4j, Z3w, Option.isSome_none, Option.isSome_some, Nat.sub_zero, Z4i, Z4p, Z4g, evUn, Z0v, Z13, binT, binQ, chk, Z3t, List.contains_cons, List.contains_nil, Bool.or_false, Bool.false_or, Bool.and_self, resQ, resV, resT, Z4q, Z2e, Z43, Z3l, fnOf, Z3k, isD, HO.drow, Z4f, Z3u, evEq, eqV, eqK, eqC1, Z40, Z3y, Z36, Z31, Z48, Z3d, Z2i, Z1k, Z2h, Z1j, Z2g, Z1i, Z1l, Z0w, Z0x, Z0d, List.mem_cons, List.not_mem_nil, or_false, forall_eq, putRow, Z3n, Z25, RetS, RetF, RetD, AV.frz, AV.frzL, AV.freshP, AV.freshL, DV.less, Z2m, Z1n, Z2n, Z1o, Z0f, Z07, Option.some.injEq, AV.tup.injEq, AV.agg.injEq, List.cons.injEq, DV.list.injEq, List.isEmpty_nil, Nat.le_refl, AV.d.injEq, DV.int.injEq, DV.bool.injEq, ↓reduceIte, Nat.reduceEqDiff, Nat.reduceAdd, Nat.reduceBEq, List.length_cons, List.length_nil, List.replicate_succ, List.replicate_zero, List.nil_append, List.cons_append, List.append_nil, List.foldl_cons, List.foldl_nil, List.map_cons, List.map_nil, List.all_cons, List.all_nil, List.set_cons_zero, List.set_cons_succ, List.getD_cons_zero, List.getD_cons_succ, List.drop_zero, List.drop_succ_cons, List.take_succ_cons, List.take_zero, List.flatten_cons, List.flatten_nil, Bool.true_and, Bool.and_true, Bool.not_true, Bool.not_false, true_and, and_true, true_or, or_true, Option.bind_some, Option.map_some, decide_true, decide_false, beq_self_eq_true, true_implies, false_implies, implies_true, not_true_eq_false, not_false_eq_true, and_self, Bool.and_false, Bool.false_and, Nat.reduceLT, Nat.reduceLeDiff, List.reverse_cons, List.reverse_nil, Nat.zero_add, Nat.add_zero, Bool.false_eq_true, List.getElem?_cons_zero, Nat.reduceMul, Nat.mul_one, sp_fold, F1, G1, Sp.at_dat, at_layR, SpecR.dat_rows, idx_rowL, rowL_len, rowL_get]
  refine ⟨⟨by omega, by omega⟩, ?_⟩
  have hle := fun i => foldG_le (g := lay2 (layQ 0)) (l := l.take i) (fun a b => by rw [lay2_len]; exact mxR_le _ _) (fun r hr => h3 r (List.mem_of_mem_take hr))
  refine Loop.fam [0, 3, 4] (fun i : Nat => ⟨[(0, .d (.list (l.map rowL) f)), (3, .d (.list ((foldG (lay2 (layQ 0)) (l.take i)).map rowW) (decide (i = 1) && (l.getD 0 ([], false)).2))), (4, .d (.int .i64 i))], []⟩) (fun i => 0 < i ∧ i ≤ l.length) (fun i => l.length - i) 1 [] (by simp) (by simp)
    (by
      simp only [State.can, AV.can, AV.canL, HO.can, Z3i, idx, Z04, Z01, Heap.at, Nat.reduceBEq, ↓reduceIte, Nat.reduceEqDiff, Option.getD_some, Option.map_some, List.map_cons, List.map_nil, List.getD_cons_zero, List.getD_cons_succ]
      have : foldG (lay2 (layQ 0)) (l.take 1) = (l.getD 0 ([], false)).1 := by
        cases l with
        | nil => simp at h0
        | cons a l => simp [foldG]
      rw [this]; rfl) ⟨by omega, by omega⟩ ?_
  rintro i ⟨hi0, hi⟩
  simp only [↓Z1d, ↓Z2b, ↓Z1t, ↓Z05, ↓Z2q, ↓Z2k, Z49, Z4a, ↓Z20, ↓Z1c, ↓Z0i, ↓Z1u, ↓Z12, ↓Z1z, ↓Z2z, ↓Z30, ↓Z23, ↓Z1s, ↓Z2d, ↓Z28, ↓Z1y, ↓Z3m, ↓Z46, ↓Z3e, ↓Z3g, ↓Z3f, ↓Z3v, ↓Z3q, ↓Z44, ↓Z0j, ↓Z0b, ↓Z16, ↓Z0h, ↓Z1g, Z4d, Z0a, Z18, Z32, Z1a, Z35, evN, Z2s, Z1x, Z34, Z41, Z1w, Z19, Z1v, Z2p, Z2a, Z29, Z1e, Z2x, evT, Opd.ev, Z04, Z01, Z33, Z3x, Z3o, Z26, Z1f, Z2w, Z2y, Z3c, Z22, Z14, Z3r, LOp.isNew, State.prune, Z3s, Z3j, AV.leaf, Heap.at, Z0g, Z08, Z1m, Z0e, Z02, Z4x, Z4t, rowW, Z24, Z2t, Z1p, Z1b, rowB, Z2v, Z2u, rowN, Z4b, Z3h, Z17, Z15, w_or, Z4r, Z2r, Z45, Z50, Z42, Z4s, Z47, Z4z, Z4y, Z4u, Z4v, Z4w, w_eq, Bool.decide_eq_true, Z3b, Z3a, Z39, Z2f, Z1h, Z03, Z09, Z11, Z00, Z21, rowI, RatG.row, LocG.row, ActG.row, StepG.row, StampG.row, ActG.av, ActG.eta, RatG.eta, LocG.eta, beq_true, beq_false, Z2j, Z2o, Z2c, Z2l, Z10, Z0n, Z0y, Z0z, Z0m, Z0l, Z0c, List.length_set, List.length_replicate, Z06, Int.reduceToNat, Z4o, Z27, Z4e, Src.all, Src.len, Src.leaf, Src.leafN, Z37, Z3z, Z4k, Z0k, Z0o, Z0p, Z0q, Z0r, Z0s, Z0t, Z0u, Z4m, drows, evMk, List.length_map, Z1r, Z1q, List.take_length, List.take_left, List.length_append, Nat.le_add_right, ite_self, List.take_of_length_le, Z38, Z4j, Z3w, Option.isSome_none, Option.isSome_some, Nat.sub_zero, Z4i, Z4p, Z4g, evUn, Z0v, Z13, binT, binQ, chk, Z3t, List.contains_cons, List.contains_nil, Bool.or_false, Bool.false_or, Bool.and_self, resQ, resV, resT, Z4q, Z2e, Z43, Z3l, fnOf, Z3k, isD, HO.drow, Z4f, Z3u, evEq, eqV, eqK, eqC1, Z40, Z3y, Z36, Z31, Z48, Z3d, Z2i, Z1k, Z2h, Z1j, Z2g, Z1i, Z1l, Z0w, Z0x, Z0d, List.mem_cons, List.not_mem_nil, or_false, forall_eq, putRow, Z3n, Z25, RetS, RetF, RetD, AV.frz, AV.frzL, AV.freshP, AV.freshL, DV.less, Z2m, Z1n, Z2n, Z1o, Z0f, Z07, Option.some.injEq, AV.tup.injEq, AV.agg.injEq, List.cons.injEq, DV.list.injEq, List.isEmpty_nil, Nat.le_refl, AV.d.injEq, DV.int.injEq, DV.bool.injEq, ↓reduceIte, Nat.reduceEqDiff, Nat.reduceAdd, Nat.reduceBEq, List.length_cons, List.length_nil, List.replicate_succ, List.replicate_zero, List.nil_append, List.cons_append, List.append_nil, List.foldl_cons, List.foldl_nil, List.map_cons, List.map_nil, List.all_cons, List.all_nil, List.set_cons_zero, List.set_cons_succ, List.getD_cons_zero, List.getD_cons_succ, List.drop_zero, List.drop_succ_cons, List.take_succ_cons, List.take_zero, List.flatten_cons, List.flatten_nil, Bool.true_and, Bool.and_true, Bool.not_true, Bool.not_false, true_and, and_true, true_or, or_true, Option.bind_some, Option.map_some, decide_true, decide_false, beq_self_eq_true, true_implies, false_implies, implies_true, not_true_eq_false, not_false_eq_true, and_self, Bool.and_false, Bool.false_and, Nat.reduceLT, Nat.reduceLeDiff, List.reverse_cons, List.reverse_nil, Nat.zero_add, Nat.add_zero, Bool.false_eq_true, List.getElem?_cons_zero, Nat.reduceMul, Nat.mul_one, F1, G1, Sp.at_dat, at_layR, SpecR.dat_rows, idx_rowL, rowL_len, rowL_get]
  refine ⟨fun c => ?_, fun c => ?_⟩
  · have c' : i < l.length := by omega
    have e2 : (l.getD i ([], false)).1.length ≤ 64 := by rw [getD_lt c']; exact h3 _ (List.getElem_mem c')
    rw [foldG_next (g := lay2 (layQ 0)) hi0 c', Z4l c' (by unfold maxLen; omega)]
    refine ⟨⟨by omega, by omega⟩, ⟨le_M (hle i), le_M e2⟩, Z3p.mk [] (i + 1) (by simp) (by simp) ?_ ⟨by omega, by omega⟩ (by omega)⟩
    rw [decide_eq_false (show ¬ i + 1 = 1 by omega), Bool.false_and]
    simp only [State.can, AV.can, AV.canL, HO.can, Z3i, idx, Z04, Z01, Heap.at, Nat.reduceBEq, ↓reduceIte, Nat.reduceEqDiff, Option.getD_some, Option.map_some, List.map_cons, List.map_nil, List.getD_cons_zero, List.getD_cons_succ]
  · have : i = l.length := by omega
    subst this
    rw [List.take_length]
theorem body_ref19_then {T : Tab} {n1 : Nat} (k1 : Knows T n1 sp_Then.dat) : (sp_fold thenG).Body T V_ref19_then (L_ref19_then n1) R_ref19_then := by
  have F1 := k1.F; have G1 := k1.G
  rintro ⟨l, f⟩ ⟨h0, h2, h3⟩
  have h0 : 0 < l.length := h0
  have h2 : l.length ≤ 64 := h2
  have h3 : ∀ r ∈ l, r.1.length ≤ 64 := h3
  refine ⟨rfl, ?_⟩
  unfold V_ref19_then L_ref19_then R_ref19_then
  simp only [↓Z1d, ↓Z2b, ↓Z1t, ↓Z05, ↓Z2q, ↓Z2k, Z49, Z4a, ↓Z20, ↓Z1c, ↓Z0i, ↓Z1u, ↓Z12, ↓Z1z, ↓Z2z, ↓Z30, ↓Z23, ↓Z1s, ↓Z2d, ↓Z28, ↓Z1y, ↓Z3m, ↓Z46, ↓Z3e, ↓Z3g, ↓Z3f, ↓Z3v, ↓Z3q, ↓Z44, ↓Z0j, ↓Z0b, ↓Z16, ↓Z0h, ↓Z1g, Z4d, Z0a, Z18, Z32, Z1a, Z35, evN, Z2s, Z1x, Z34, Z41, Z1w, Z19, Z1v, Z2p, Z2a, Z29, Z1e, Z2x, evT, Opd.ev, Z04, Z01, Z33, Z3x, Z3o, Z26, Z1f, Z2w, Z2y, Z3c, Z22, Z14, Z3r, LOp.isNew, State.prune, Z3s, Z3j, AV.leaf, Heap.at, Z0g, Z08, Z1m, Z0e, Z02, Z4x, Z4t, rowW, Z24, Z2t, Z1p, Z1b, rowB, Z2v, Z2u, rowN, Z4b, Z3h, Z17, Z15, w_or, Z4r, Z2r, Z45, Z50, Z42, Z4s, Z47, Z4z, Z4y, Z4u, Z4v, Z4w, w_eq, Bool.decide_eq_true, Z3b, Z3a, Z39, Z2f, Z1h, Z03, Z09, Z11, Z00, Z21, rowI, RatG.row, LocG.row, ActG.row, StepG.row, StampG.row, ActG.av, ActG.eta, RatG.eta, LocG.eta, beq_true, beq_false, Z2j, Z2o, Z2c, Z2l, Z10, Z0n, Z0y, Z0z, Z0m, Z0l, Z0c, List.length_set, List.length_replicate, Z06, Int.reduceToNat, Z4o, Z27, Z4e, Src.all, Src.len, Src.leaf, Src.leafN, Z37, Z3z, Z4k, Z0k, Z0o, Z0p, Z0q, Z0r, Z0s, Z0t, Z0u, Z4m, drows, evMk, List.length_map, Z1r, Z1q, List.take_length, List.take_left, List.length_append, Nat.le_add_right, ite_self, List.take_of_length_le, Z38, Z4j, Z3w, Option.isSome_none, Option.isSome_some, Nat.sub_zero, Z4i, Z4p, Z4g, evUn, Z0v, Z13, binT, binQ, chk, Z3t, List.contains_cons, List.contains_nil, Bool.or_false, Bool.false_or, Bool.and_self, resQ, resV, resT, Z4q, Z2e, Z43, Z3l, fnOf, Z3k, isD, HO.drow, Z4f, Z3u, evEq, eqV, eqK, eqC1, Z40, Z3y, Z36, Z31, Z48, Z3d, Z2i, Z1k, Z2h, Z1j, Z2g, Z1i, Z1l, Z0w, Z0x, Z0d, List.mem_cons, List.not_mem_nil, or_false, forall_eq, putRow, Z3n, Z25, RetS, RetF, RetD, AV.frz, AV.frzL, AV.freshP, AV.freshL, DV.less, Z2m, Z1n, Z2n, Z1o, Z0f, Z07, Option.some.injEq, AV.tup.injEq, AV.agg.injEq, List.cons.injEq, DV.list.injEq, List.isEmpty_nil, Nat.le_refl, AV.d.injEq, DV.int.injEq, DV.bool.injEq, ↓reduceIte, Nat.reduceEqDiff, Nat.reduceAdd, Nat.reduceBEq, List.length_cons, List.length_nil, List.replicate_succ, List.replicate_zero, List.nil_append, List.cons_append, List.append_nil, List.foldl_cons, List.foldl_nil, List.map_cons, List.map_nil, List.all_cons, List.all_nil, List.set_cons_zero, List.set_cons_succ, List.getD_cons_zero, List.getD_cons_succ, List.drop_zero, List.drop_succ_cons, List.take_succ_cons, List.take_zero, List.flatten_cons, List.flatten_nil, Bool.true_and, Bool.and_true, Bool.not_true, Bool.not_false, true_and, and_true, true_or, or_true, Option.bind_some, Option.map_some, decide_true, decide_false, beq_self_eq_true, true_implies, false_implies, implies_true, not_true_eq_false, not_false_eq_true, and_self, Bool.and_false, Bool.false_and, Nat.reduceLT, Nat.reduceLeDiff, List.reverse_cons, List.reverse_nil, Nat.zero_add, Nat.add_zero, Bool.false_eq_true, List.getElem?_cons_zero, Nat.reduceMul, Nat.mul_one, sp_fold, F1, G1, Sp.at_dat, at_Then, SpecR.dat_rows, idx_rowL, rowL_len, rowL_get]
  refine ⟨⟨by omega, by omega⟩, ?_⟩
  have hle := fun i => foldG_le (g := thenG) (l := l.take i) (fun a b => by rw [thenG_64]; trivial) (fun r hr => h3 r (List.mem_of_mem_take hr))
  refine Loop.fam [0, 3, 4] (fun i : Nat => ⟨[(0, .d (.list (l.map rowL) f)), (3, .d (.list ((foldG (thenG) (l.take i)).map rowW) (decide (i = 1) && (l.getD 0 ([], false)).2))), (4, .d (.int .i64 i))], []⟩) (fun i => 0 < i ∧ i ≤ l.length) (fun i => l.length - i) 1 [] (by simp) (by simp)
    (by
      simp only [State.can, AV.can, AV.canL, HO.can, Z3i, idx, Z04, Z01, Heap.at, Nat.reduceBEq, ↓reduceIte, Nat.reduceEqDiff, Option.getD_some, Option.map_some, List.map_cons, List.map_nil, List.getD_cons_zero, List.getD_cons_succ]
      have : foldG (thenG) (l.take 1) = (l.getD 0 ([], false)).1 := by
        cases l with
        | nil => simp at h0
        | cons a l => simp [foldG]
      rw [this]; rfl) ⟨by omega, by omega⟩ ?_
  rintro i ⟨hi0, hi⟩
  simp only [↓Z1d, ↓Z2b, ↓Z1t, ↓Z05, ↓Z2q, ↓Z2k, Z49, Z4a, ↓Z20, ↓Z1c, ↓Z0i, ↓Z1u, ↓Z12, ↓Z1z, ↓Z2z, ↓Z30, ↓Z23, ↓Z1s, ↓Z2d, ↓Z28, ↓Z1y, ↓Z3m, ↓Z46, ↓Z3e, ↓Z3g, ↓Z3f, ↓Z3v, ↓Z3q, ↓Z44, ↓Z0j, ↓Z0b, ↓Z16, ↓Z0h, ↓Z1g, Z4d, Z0a, Z18, Z32, Z1a, Z35, evN, Z2s, Z1x, Z34, Z41, Z1w, Z19, Z1v, Z2p, Z2a, Z29, Z1e, Z2x, evT, Opd.ev, Z04, Z01, Z33, Z3x, Z3o, Z26, Z1f, Z2w, Z2y, Z3c, Z22, Z14, Z3r, LOp.isNew, State.prune, Z3s, Z3j, AV.leaf, Heap.at, Z0g, Z08, Z1m, Z0e, Z02, Z4x, Z4t, rowW, Z24, Z2t, Z1p, Z1b, rowB, Z2v, Z2u, rowN, Z4b, Z3h, Z17, Z15, w_or, Z4r, Z2r, Z45, Z50, Z42, Z4s, Z47, Z4z, Z4y, Z4u, Z4v, Z4w, w_eq, Bool.decide_eq_true, Z3b, Z3a, Z39, Z2f, Z1h, Z03, Z09, Z11, Z00, Z21, rowI, RatG.row, LocG.row, ActG.row, StepG.row, StampG.row, ActG.av, ActG.eta, RatG.eta, LocG.eta, beq_true, beq_false, Z2j, Z2o, Z2c, Z2l, Z10, Z0n, Z0y, Z0z, Z0m, Z0l, Z0c, List.length_set, List.length_replicate, Z06, Int.reduceToNat, Z4o, Z27, Z4e, Src.all, Src.len, Src.leaf, Src.leafN, Z37, Z3z, Z4k, Z0k, Z0o, Z0p, Z0q, Z0r, Z0s, Z0t, Z0u, Z4m, drows, evMk, List.length_map, Z1r, Z1q, List.take_length, List.take_left, List.length_append, Nat.le_add_right, ite_self, List.take_of_length_le, Z38, Z4j, Z3w, Option.isSome_none, Option.isSome_some, Nat.sub_zero, Z4i, Z4p, Z4g, evUn, Z0v, Z13, binT, binQ, chk, Z3t, List.contains_cons, List.contains_nil, Bool.or_false, Bool.false_or, Bool.and_self, resQ, resV, resT, Z4q, Z2e, Z43, Z3l, fnOf, Z3k, isD, HO.drow, Z4f, Z3u, evEq, eqV, eqK, eqC1, Z40, Z3y, Z36, Z31, Z48, Z3d, Z2i, Z1k, Z2h, Z1j, Z2g, Z1i, Z1l, Z0w, Z0x, Z0d, List.mem_cons, List.not_mem_nil, or_false, forall_eq, putRow, Z3n, Z25, RetS, RetF, RetD, AV.frz, AV.frzL, AV.freshP, AV.freshL, DV.less, Z2m, Z1n, Z2n, Z1o, Z0f, Z07, Option.some.injEq, AV.tup.injEq, AV.agg.injEq, List.cons.injEq, DV.list.injEq, List.isEmpty_nil, Nat.le_refl, AV.d.injEq, DV.int.injEq, DV.bool.injEq, ↓reduceIte, Nat.reduceEqDiff, Nat.reduceAdd, Nat.reduceBEq, List.length_cons, List.length_nil, List.replicate_succ, List.replicate_zero, List.nil_append, List.cons_append, List.append_nil, List.foldl_cons, List.foldl_nil, List.map_cons, List.map_nil, List.all_cons, List.all_nil, List.set_cons_zero, List.set_cons_succ, List.getD_cons_zero, List.getD_cons_succ, List.drop_zero, List.drop_succ_cons, List.take_succ_cons, List.take_zero, List.flatten_cons, List.flatten_nil, Bool.true_and, Bool.and_true, Bool.not_true, Bool.not_false, true_and, and_true, true_or, or_true, Option.bind_some, Option.map_some, decide_true, decide_false, beq_self_eq_true, true_implies, false_implies, implies_true, not_true_eq_false, not_false_eq_true, and_self, Bool.and_false, Bool.false_and, Nat.reduceLT, Nat.reduceLeDiff, List.reverse_cons, List.reverse_nil, Nat.zero_add, Nat.add_zero, Bool.false_eq_true, List.getElem?_cons_zero, Nat.reduceMul, Nat.mul_one, F1, G1, Sp.at_dat, at_Then, SpecR.dat_rows, idx_rowL, rowL_len, rowL_get]
  refine ⟨fun c => ?_, fun c => ?_⟩
  · have c' : i < l.length := by omega
    have e2 : (l.getD i ([], false)).1.length ≤ 64 := by rw [getD_lt c']; exact h3 _ (List.getElem_mem c')
    rw [foldG_next (g := thenG) hi0 c', Z4l c' (by unfold maxLen; omega)]
    refine ⟨⟨by omega, by omega⟩, ⟨le_M (hle i), le_M e2⟩, Z3p.mk [] (i + 1) (by simp) (by simp) ?_ ⟨by omega, by omega⟩ (by omega)⟩
    rw [decide_eq_false (show ¬ i + 1 = 1 by omega), Bool.false_and]
    simp only [State.can, AV.can, AV.canL, HO.can, Z3i, idx, Z04, Z01, Heap.at, Nat.reduceBEq, ↓reduceIte, Nat.reduceEqDiff, Option.getD_some, Option.map_some, List.map_cons, List.map_nil, List.getD_cons_zero, List.getD_cons_succ]
  · have : i = l.length := by omega
    subst this
    rw [List.take_length]
end Go.Ago

/- The code of ref19.part in two pieces. Written by gen_part.py. Conditions: none. -/
set_option maxRecDepth 100000
set_option linter.unusedVariables false
namespace Go.Ago
def part2 (n_ref02_Put : Nat) (n_ref02_Has : Nat) : LCode :=
 .seq (
           .seq (
            .region false [⟨(some 115), (.mv (.tmp 14)), none⟩,
              ⟨(some 116), (.mv (.tmp 115)), none⟩,
              ⟨(some 117), (.mv (.tmp 1)), (some (116, true))⟩,
              ⟨(some 118), (.mv (.tmp 8)), (some (116, true))⟩,
              ⟨(some 119), (.mv (.tmp 9)), (some (116, true))⟩,
              ⟨(some 120), (.call 0 false (.cst (.d (.fn n_ref02_Has))) [(.tmp 117), (.tmp 118), (.tmp 119)]), (some (116, true))⟩,
              ⟨(some 121), (.pick (.tmp 116) (.tmp 120) (.cst (.d (.bool false)))), none⟩,
              ⟨(some 122), (.mv (.tmp 121)), none⟩,
              ⟨(some 123), (.fieldAddr 1 (.tmp 10)), (some (122, true))⟩,
              ⟨(some 124), (.load false 1 (.tmp 123)), (some (122, true))⟩,
              ⟨(some 125), (.bin .geq (.tmp 124) (.cst (.d (.int .i64 0)))), (some (122, true))⟩,
              ⟨(some 126), (.pick (.tmp 122) (.tmp 125) (.cst (.d (.bool false)))), none⟩,
              ⟨(some 127), (.mv (.tmp 126)), none⟩,
              ⟨(some 128), (.fieldAddr 1 (.tmp 10)), (some (127, true))⟩,
              ⟨(some 129), (.load false 1 (.tmp 128)), (some (127, true))⟩,
              ⟨(some 130), (.bin .lss (.tmp 129) (.cst (.d (.int .i64 3)))), (some (127, true))⟩,
              ⟨(some 131), (.pick (.tmp 127) (.tmp 130) (.cst (.d (.bool false)))), none⟩,
              ⟨(some 132), (.mv (.tmp 131)), none⟩,
              ⟨(some 133), (.fieldAddr 1 (.tmp 11)), (some (132, true))⟩,
              ⟨(some 134), (.load false 1 (.tmp 133)), (some (132, true))⟩,
              ⟨(some 135), (.bin .geq (.tmp 134) (.cst (.d (.int .i64 0)))), (some (132, true))⟩,
              ⟨(some 136), (.pick (.tmp 132) (.tmp 135) (.cst (.d (.bool false)))), none⟩,
              ⟨(some 137), (.mv (.tmp 136)), none⟩,
              ⟨(some 138), (.fieldAddr 1 (.tmp 11)), (some (137, true))⟩,
              ⟨(some 139), (.load false 1 (.tmp 138)), (some (137, true))⟩,
              ⟨(some 140), (.bin .lss (.tmp 139) (.cst (.d (.int .i64 3)))), (some (137, true))⟩,
              ⟨(some 141), (.pick (.tmp 137) (.tmp 140) (.cst (.d (.bool false)))), none⟩] []) (
           .cond (.tmp 141) (
            .region false [⟨(some 142), (.mv (.tmp 7)), none⟩,
              ⟨(some 143), (.mv (.tmp 8)), none⟩,
              ⟨(some 144), (.mv (.tmp 9)), none⟩,
              ⟨(some 145), (.call 0 false (.cst (.d (.fn n_ref02_Put))) [(.tmp 142), (.tmp 143), (.tmp 144)]), none⟩] []) (
            .skip))) (
          .seq (
           .region false [⟨(some 146), (.mv (.tmp 14)), none⟩,
             ⟨(some 147), (.mv (.tmp 146)), none⟩,
             ⟨(some 148), (.mv (.tmp 2)), (some (147, true))⟩,
             ⟨(some 149), (.bin .lss (.tmp 148) (.cst (.d (.int .i64 4)))), (some (147, true))⟩,
             ⟨(some 150), (.pick (.tmp 147) (.tmp 149) (.cst (.d (.bool false)))), none⟩,
             ⟨(some 151), (.mv (.tmp 150)), none⟩,
             ⟨(some 152), (.mv (.tmp 1)), (some (151, true))⟩,
             ⟨(some 153), (.mv (.tmp 8)), (some (151, true))⟩,
             ⟨(some 154), (.mv (.tmp 9)), (some (151, true))⟩,
             ⟨(some 155), (.call 0 false (.cst (.d (.fn n_ref02_Has))) [(.tmp 152), (.tmp 153), (.tmp 154)]), (some (151, true))⟩,
             ⟨(some 156), (.pick (.tmp 151) (.tmp 155) (.cst (.d (.bool false)))), none⟩,
             ⟨(some 157), (.mv (.tmp 156)), none⟩,
             ⟨(some 158), (.mv (.tmp 7)), (some (157, true))⟩,
             ⟨(some 159), (.mv (.tmp 8)), (some (157, true))⟩,
             ⟨(some 160), (.mv (.tmp 9)), (some (157, true))⟩,
             ⟨(some 161), (.call 0 false (.cst (.d (.fn n_ref02_Has))) [(.tmp 158), (.tmp 159), (.tmp 160)]), (some (157, true))⟩,
             ⟨(some 162), (.un .not (.tmp 161)), (some (157, true))⟩,
             ⟨(some 163), (.pick (.tmp 157) (.tmp 162) (.cst (.d (.bool false)))), none⟩] []) (
          .cond (.tmp 163) (
           .region false [⟨(some 164), (.mv (.tmp 7)), none⟩,
             ⟨(some 165), (.mv (.tmp 8)), none⟩,
             ⟨(some 166), (.mv (.tmp 9)), none⟩,
             ⟨(some 167), (.call 0 false (.cst (.d (.fn n_ref02_Put))) [(.tmp 164), (.tmp 165), (.tmp 166)]), none⟩] []) (
           .skip)))
def partM (n_ref02_Put : Nat) (n_ref02_Has : Nat) : LCode :=
 .seq (
           .region false [⟨(some 38), (.fieldAddr 0 (.tmp 10)), none⟩,
             ⟨(some 39), (.load false 1 (.tmp 38)), none⟩,
             ⟨(some 40), (.fieldAddr 0 (.tmp 11)), none⟩,
             ⟨(some 41), (.load false 1 (.tmp 40)), none⟩,
             ⟨(some 42), (.bin .neq (.tmp 39) (.tmp 41)), none⟩,
             ⟨(some 43), (.mv (.tmp 42)), none⟩,
             ⟨(some 44), (.fieldAddr 0 (.tmp 10)), (some (43, false))⟩,
             ⟨(some 45), (.load false 1 (.tmp 44)), (some (43, false))⟩,
             ⟨(some 46), (.bin .lss (.tmp 45) (.cst (.d (.int .i64 0)))), (some (43, false))⟩,
             ⟨(some 47), (.pick (.tmp 43) (.cst (.d (.bool true))) (.tmp 46)), none⟩,
             ⟨(some 48), (.mv (.tmp 47)), none⟩,
             ⟨(some 49), (.fieldAddr 0 (.tmp 11)), (some (48, false))⟩,
             ⟨(some 50), (.load false 1 (.tmp 49)), (some (48, false))⟩,
             ⟨(some 51), (.bin .lss (.tmp 50) (.cst (.d (.int .i64 0)))), (some (48, false))⟩,
             ⟨(some 52), (.pick (.tmp 48) (.cst (.d (.bool true))) (.tmp 51)), none⟩,
             ⟨(some 12), (.mv (.tmp 52)), none⟩] []) (
          .seq (
           .region false [⟨(some 53), (.fieldAddr 1 (.tmp 10)), none⟩,
             ⟨(some 54), (.load false 1 (.tmp 53)), none⟩,
             ⟨(some 55), (.bin .mul (.tmp 54) (.cst (.d (.int .i64 10)))), none⟩,
             ⟨(some 56), (.fieldAddr 1 (.tmp 11)), none⟩,
             ⟨(some 57), (.load false 1 (.tmp 56)), none⟩,
             ⟨(some 58), (.bin .add (.tmp 55) (.tmp 57)), none⟩,
             ⟨(some 13), (.mv (.tmp 58)), none⟩] []) (
          .seq (
           .region false [⟨(some 59), (.mv (.tmp 2)), none⟩,
             ⟨(some 60), (.bin .eql (.tmp 59) (.cst (.d (.int .i64 1)))), none⟩,
             ⟨(some 61), (.mv (.tmp 60)), none⟩,
             ⟨(some 62), (.mv (.tmp 12)), (some (61, true))⟩,
             ⟨(some 63), (.pick (.tmp 61) (.tmp 62) (.cst (.d (.bool false)))), none⟩,
             ⟨(some 64), (.mv (.tmp 63)), none⟩,
             ⟨(some 65), (.mv (.tmp 2)), (some (64, false))⟩,
             ⟨(some 66), (.bin .eql (.tmp 65) (.cst (.d (.int .i64 2)))), (some (64, false))⟩,
             ⟨(some 67), (.mv (.tmp 66)), (some (64, false))⟩,
             ⟨(some 68), (.mv (.tmp 12)), (some (67, true))⟩,
             ⟨(some 69), (.un .not (.tmp 68)), (some (67, true))⟩,
             ⟨(some 70), (.pick (.tmp 67) (.tmp 69) (.cst (.d (.bool false)))), (some (64, false))⟩,
             ⟨(some 71), (.pick (.tmp 64) (.cst (.d (.bool true))) (.tmp 70)), none⟩,
             ⟨(some 72), (.mv (.tmp 71)), none⟩,
             ⟨(some 73), (.mv (.tmp 2)), (some (72, false))⟩,
             ⟨(some 74), (.bin .eql (.tmp 73) (.cst (.d (.int .i64 3)))), (some (72, false))⟩,
             ⟨(some 75), (.mv (.tmp 74)), (some (72, false))⟩,
             ⟨(some 76), (.fieldAddr 2 (.tmp 10)), (some (75, true))⟩,
             ⟨(some 77), (.load false 1 (.tmp 76)), (some (75, true))⟩,
             ⟨(some 78), (.fieldAddr 2 (.tmp 11)), (some (75, true))⟩,
             ⟨(some 79), (.load false 1 (.tmp 78)), (some (75, true))⟩,
             ⟨(some 80), (.bin .eql (.tmp 77) (.tmp 79)), (some (75, true))⟩,
             ⟨(some 81), (.pick (.tmp 75) (.tmp 80) (.cst (.d (.bool false)))), (some (72, false))⟩,
             ⟨(some 82), (.pick (.tmp 72) (.cst (.d (.bool true))) (.tmp 81)), none⟩,
             ⟨(some 83), (.mv (.tmp 82)), none⟩,
             ⟨(some 84), (.mv (.tmp 2)), (some (83, false))⟩,
             ⟨(some 85), (.bin .eql (.tmp 84) (.cst (.d (.int .i64 4)))), (some (83, false))⟩,
             ⟨(some 86), (.mv (.tmp 85)), (some (83, false))⟩,
             ⟨(some 87), (.mv (.tmp 13)), (some (86, true))⟩,
             ⟨(some 88), (.bin .eql (.tmp 87) (.cst (.d (.int .i64 11)))), (some (86, true))⟩,
             ⟨(some 89), (.pick (.tmp 86) (.tmp 88) (.cst (.d (.bool false)))), (some (83, false))⟩,
             ⟨(some 90), (.pick (.tmp 83) (.cst (.d (.bool true))) (.tmp 89)), none⟩,
             ⟨(some 91), (.mv (.tmp 90)), none⟩,
             ⟨(some 92), (.mv (.tmp 2)), (some (91, false))⟩,
             ⟨(some 93), (.bin .eql (.tmp 92) (.cst (.d (.int .i64 5)))), (some (91, false))⟩,
             ⟨(some 94), (.mv (.tmp 93)), (some (91, false))⟩,
             ⟨(some 95), (.mv (.tmp 13)), (some (94, true))⟩,
             ⟨(some 96), (.bin .eql (.tmp 95) (.cst (.d (.int .i64 12)))), (some (94, true))⟩,
             ⟨(some 97), (.pick (.tmp 94) (.tmp 96) (.cst (.d (.bool false)))), (some (91, false))⟩,
             ⟨(some 98), (.pick (.tmp 91) (.cst (.d (.bool true))) (.tmp 97)), none⟩,
             ⟨(some 99), (.mv (.tmp 98)), none⟩,
             ⟨(some 100), (.mv (.tmp 2)), (some (99, false))⟩,
             ⟨(some 101), (.bin .eql (.tmp 100) (.cst (.d (.int .i64 6)))), (some (99, false))⟩,
             ⟨(some 102), (.mv (.tmp 101)), (some (99, false))⟩,
             ⟨(some 103), (.mv (.tmp 13)), (some (102, true))⟩,
             ⟨(some 104), (.bin .eql (.tmp 103) (.cst (.d (.int .i64 21)))), (some (102, true))⟩,
             ⟨(some 105), (.pick (.tmp 102) (.tmp 104) (.cst (.d (.bool false)))), (some (99, false))⟩,
             ⟨(some 106), (.pick (.tmp 99) (.cst (.d (.bool true))) (.tmp 105)), none⟩,
             ⟨(some 107), (.mv (.tmp 106)), none⟩,
             ⟨(some 108), (.mv (.tmp 2)), (some (107, false))⟩,
             ⟨(some 109), (.bin .eql (.tmp 108) (.cst (.d (.int .i64 7)))), (some (107, false))⟩,
             ⟨(some 110), (.mv (.tmp 109)), (some (107, false))⟩,
             ⟨(some 111), (.mv (.tmp 13)), (some (110, true))⟩,
             ⟨(some 112), (.bin .eql (.tmp 111) (.cst (.d (.int .i64 22)))), (some (110, true))⟩,
             ⟨(some 113), (.pick (.tmp 110) (.tmp 112) (.cst (.d (.bool false)))), (some (107, false))⟩,
             ⟨(some 114), (.pick (.tmp 107) (.cst (.d (.bool true))) (.tmp 113)), none⟩,
             ⟨(some 14), (.mv (.tmp 114)), none⟩] []) (
          part2 n_ref02_Put n_ref02_Has)))
def part1L (n_ref02_Put : Nat) (n_ref02_Has : Nat) : LCode :=
 .seq (
  .region false [⟨(some 6), (.mv (.cst (.d (.list [] true)))), none⟩] []) (
 .seq (
  .region false [⟨(some 15), (.mv (.tmp 0)), none⟩,
    ⟨(some 16), (.len (.tmp 15)), none⟩,
    ⟨(some 17), (.mkslice 0 1 8 [(.d (.int .u64 0))] (.tmp 16) (.tmp 16)), none⟩,
    ⟨(some 7), (.mv (.tmp 17)), none⟩] []) (
 .seq (
  .seq (
   .region false [⟨(some 8), (.mv (.cst (.d (.int .i64 0)))), none⟩] []) (
  .block 0 (
   .loop (
    .seq (
     .seq (
      .region false [⟨(some 18), (.mv (.tmp 8)), none⟩,
        ⟨(some 19), (.mv (.tmp 0)), none⟩,
        ⟨(some 20), (.len (.tmp 19)), none⟩,
        ⟨(some 21), (.bin .lss (.tmp 18) (.tmp 20)), none⟩] []) (
     .cond (.tmp 21) (
      .skip) (
      (.exit 0)))) (
    .seq (
     .block 1 (
      .seq (
       .region false [⟨(some 9), (.mv (.cst (.d (.int .i64 0)))), none⟩] []) (
      .block 2 (
       .loop (
        .seq (
         .seq (
          .region false [⟨(some 24), (.mv (.tmp 9)), none⟩,
            ⟨(some 25), (.mv (.tmp 0)), none⟩,
            ⟨(some 26), (.len (.tmp 25)), none⟩,
            ⟨(some 27), (.bin .lss (.tmp 24) (.tmp 26)), none⟩] []) (
         .cond (.tmp 27) (
          .skip) (
          (.exit 2)))) (
        .seq (
         .block 3 (
          .seq (
           .region true [⟨(some 30), (.mv (.tmp 0)), none⟩,
             ⟨(some 31), (.mv (.tmp 8)), none⟩,
             ⟨(some 32), (.idxAddr 4 (.tmp 30) (.tmp 31)), none⟩,
             ⟨(some 33), (.load true 4 (.tmp 32)), none⟩,
             ⟨(some 34), (.mv (.tmp 0)), none⟩,
             ⟨(some 35), (.mv (.tmp 9)), none⟩,
             ⟨(some 36), (.idxAddr 4 (.tmp 34) (.tmp 35)), none⟩,
             ⟨(some 37), (.load true 4 (.tmp 36)), none⟩,
             ⟨(some 10), (.alloc 0 4 [(.d (.int .i64 0)), (.d (.int .i64 0)), (.d (.int .i64 0)), (.d (.int .i64 0))]), none⟩,
             ⟨(some 11), (.alloc 1 4 [(.d (.int .i64 0)), (.d (.int .i64 0)), (.d (.int .i64 0)), (.d (.int .i64 0))]), none⟩,
             ⟨none, (.store 4 (.tmp 10) (.tmp 33)), none⟩,
             ⟨none, (.store 4 (.tmp 11) (.tmp 37)), none⟩] [(7, 8), (3, 8), (8, 9), (7, 9), (3, 9), (7, 10)]) (
          partM n_ref02_Put n_ref02_Has))) (
        .region false [⟨(some 28), (.mv (.tmp 9)), none⟩,
          ⟨(some 29), (.bin .add (.tmp 28) (.cst (.d (.int .i64 1)))), none⟩,
          ⟨(some 9), (.mv (.tmp 29)), none⟩] []))))))) (
    .region false [⟨(some 22), (.mv (.tmp 8)), none⟩,
      ⟨(some 23), (.bin .add (.tmp 22) (.cst (.d (.int .i64 1)))), none⟩,
      ⟨(some 8), (.mv (.tmp 23)), none⟩] [])))))) (
 .seq (
  .region false [⟨(some 168), (.mv (.tmp 7)), none⟩, ⟨(some 6), (.mv (.tmp 168)), none⟩] []) (
 .ret))))
theorem part1L_eq (n1 n2 : Nat) : L_ref19_part n1 n2 = part1L n1 n2 := rfl
end Go.Ago

/- The reference of layer 19: and, part, Fitted. Conditions: none. -/
set_option maxRecDepth 100000
set_option linter.unusedSimpArgs false
set_option linter.unusedVariables false
namespace Go.Ago
def sp_and19 : Sp := ⟨List W × Bool × List W × Bool, fun x => [.d (.list (x.1.map rowW) x.2.1), .d (.list (x.2.2.1.map rowW) x.2.2.2)], fun x => .data (x.1.length ≤ maxLen ∧ x.2.2.1.length ≤ maxLen) (.d (.list ((lay2 (layQ 1) x.1 x.2.2.1).map rowW) false)) false⟩
theorem at_and19 (A B : List W) (e f : Bool) : sp_and19.at [.d (.list (A.map rowW) e), .d (.list (B.map rowW) f)] = .data (A.length ≤ maxLen ∧ B.length ≤ maxLen) (.d (.list ((lay2 (layQ 1) A B).map rowW) false)) false :=
  Sp.at_enc (s := sp_and19) (fun x y h => by
    obtain ⟨a, b, c, d⟩ := x; obtain ⟨a', b', c', d'⟩ := y
    simp only [sp_and19, List.cons.injEq, AV.d.injEq, DV.list.injEq, and_true] at h
    rw [Z4n Z51 h.1.1, h.1.2, Z4n Z51 h.2.1, h.2.2]) (A, e, B, f)
theorem body_ref19_and {T : Tab} {n1 : Nat} (k1 : Knows T n1 sp_layR.dat) : sp_and19.Body T V_ref19_and (L_ref19_and n1) R_ref19_and := by
  have F1 := k1.F; have G1 := k1.G
  rintro ⟨A, e, B, f⟩ ⟨h1, h2⟩
  have h1 : A.length ≤ maxLen := h1
  have h2 : B.length ≤ maxLen := h2
  refine ⟨rfl, ?_⟩
  unfold V_ref19_and L_ref19_and R_ref19_and
  simp only [↓Z1d, ↓Z2b, ↓Z1t, ↓Z05, ↓Z2q, ↓Z2k, Z49, Z4a, ↓Z20, ↓Z1c, ↓Z0i, ↓Z1u, ↓Z12, ↓Z1z, ↓Z2z, ↓Z30, ↓Z23, ↓Z1s, ↓Z2d, ↓Z28, ↓Z1y, ↓Z3m, ↓Z46, ↓Z3e, ↓Z3g, ↓Z3f, ↓Z3v, ↓Z3q, ↓Z44, ↓Z0j, ↓Z0b, ↓Z16, ↓Z0h, ↓Z1g, Z4d, Z0a, Z18, Z32, Z1a, Z35, evN, Z2s, Z1x, Z34, Z41, Z1w, Z19, Z1v, Z2p, Z2a, Z29, Z1e, Z2x, evT, Opd.ev, Z04, Z01, Z33, Z3x, Z3o, Z26, Z1f, Z2w, Z2y, Z3c, Z22, Z14, Z3r, LOp.isNew, State.prune, Z3s, Z3j, AV.leaf, Heap.at, Z0g, Z08, Z1m, Z0e, Z02, Z4x, Z4t, rowW, Z24, Z2t, Z1p, Z1b, rowB, Z2v, Z2u, rowN, Z4b, Z3h, Z17, Z15, w_or, Z4r, Z2r, Z45, Z50, Z42, Z4s, Z47, Z4z, Z4y, Z4u, Z4v, Z4w, w_eq, Bool.decide_eq_true, Z3b, Z3a, Z39, Z2f, Z1h, Z03, Z09, Z11, Z00, Z21, rowI, RatG.row, LocG.row, ActG.row, StepG.row, StampG.row, ActG.av, ActG.eta, RatG.eta, LocG.eta, beq_true, beq_false, Z2j, Z2o, Z2c, Z2l, Z10, Z0n, Z0y, Z0z, Z0m, Z0l, Z0c, List.length_set, List.length_replicate, Z06, Int.reduceToNat, Z4o, Z27, Z4e, Src.all, Src.len, Src.leaf, Src.leafN, Z37, Z3z, Z4k, Z0k, Z0o, Z0p, Z0q, Z0r, Z0s, Z0t, Z0u, Z4m, drows, evMk, List.length_map, Z1r, Z1q, List.take_length, List.take_left, List.length_append, Nat.le_add_right, ite_self, List.take_of_length_le, Z38, Z4j, Z3w, Option.isSome_none, Option.isSome_some, Nat.sub_zero, Z4i, Z4p, Z4g, evUn, Z0v, Z13, binT, binQ, chk, Z3t, List.contains_cons, List.contains_nil, Bool.or_false, Bool.false_or, Bool.and_self, resQ, resV, resT, Z4q, Z2e, Z43, Z3l, fnOf, Z3k, isD, HO.drow, Z4f, Z3u, evEq, eqV, eqK, eqC1, Z40, Z3y, Z36, Z31, Z48, Z3d, Z2i, Z1k, Z2h, Z1j, Z2g, Z1i, Z1l, Z0w, Z0x, Z0d, List.mem_cons, List.not_mem_nil, or_false, forall_eq, putRow, Z3n, Z25, RetS, RetF, RetD, AV.frz, AV.frzL, AV.freshP, AV.freshL, DV.less, Z2m, Z1n, Z2n, Z1o, Z0f, Z07, Option.some.injEq, AV.tup.injEq, AV.agg.injEq, List.cons.injEq, DV.list.injEq, List.isEmpty_nil, Nat.le_refl, AV.d.injEq, DV.int.injEq, DV.bool.injEq, ↓reduceIte, Nat.reduceEqDiff, Nat.reduceAdd, Nat.reduceBEq, List.length_cons, List.length_nil, List.replicate_succ, List.replicate_zero, List.nil_append, List.cons_append, List.append_nil, List.foldl_cons, List.foldl_nil, List.map_cons, List.map_nil, List.all_cons, List.all_nil, List.set_cons_zero, List.set_cons_succ, List.getD_cons_zero, List.getD_cons_succ, List.drop_zero, List.drop_succ_cons, List.take_succ_cons, List.take_zero, List.flatten_cons, List.flatten_nil, Bool.true_and, Bool.and_true, Bool.not_true, Bool.not_false, true_and, and_true, true_or, or_true, Option.bind_some, Option.map_some, decide_true, decide_false, beq_self_eq_true, true_implies, false_implies, implies_true, not_true_eq_false, not_false_eq_true, and_self, Bool.and_false, Bool.false_and, Nat.reduceLT, Nat.reduceLeDiff, List.reverse_cons, List.reverse_nil, Nat.zero_add, Nat.add_zero, Bool.false_eq_true, List.getElem?_cons_zero, Nat.reduceMul, Nat.mul_one, sp_and19, F1, G1, Sp.at_dat, SpecR.dat_rows, at_layR]
  exact ⟨h1, h2⟩
/-! ### part -/
def partQ (how : Int) (a b : NodeG) : Bool :=
  if how = 1 then apartQ a b else if how = 2 then !apartQ a b else if how = 3 then locQ a b
  else if how = 4 then decide (a.kd = 1) && decide (b.kd = 1) else if how = 5 then decide (a.kd = 1) && decide (b.kd = 2)
  else if how = 6 then decide (a.kd = 2) && decide (b.kd = 1) else decide (a.kd = 2) && decide (b.kd = 2)
def partG (l : List NodeG) (r : List W) (how : Int) : List W := mkR l.length fun i k => hasN r i k && partQ how (l.getD i default) (l.getD k default)
theorem partG_len (l : List NodeG) (r : List W) (how : Int) : (partG l r how).length = l.length := by unfold partG; rw [Z53]
def sp_part : Sp := ⟨List NodeG × Bool × List W × Bool × Int, fun x => [.d (.list (x.1.map ActG.row) x.2.1), .d (.list (x.2.2.1.map rowW) x.2.2.2.1), .d (.int .i64 x.2.2.2.2)],
  fun x => .data (x.1.length ≤ 64 ∧ x.2.2.1.length ≤ maxLen ∧ 1 ≤ x.2.2.2.2 ∧ x.2.2.2.2 ≤ 7) (.d (.list ((partG x.1 x.2.2.1 x.2.2.2.2).map rowW) false)) true⟩
theorem at_part (l : List NodeG) (e : Bool) (r : List W) (f : Bool) (how : Int) : sp_part.at [.d (.list (l.map ActG.row) e), .d (.list (r.map rowW) f), .d (.int .i64 how)] =
    .data (l.length ≤ 64 ∧ r.length ≤ maxLen ∧ 1 ≤ how ∧ how ≤ 7) (.d (.list ((partG l r how).map rowW) false)) true :=
  Sp.at_enc (s := sp_part) (fun x y h => by
    obtain ⟨a, b, c, d, e⟩ := x; obtain ⟨a', b', c', d', e'⟩ := y
    simp only [sp_part, List.cons.injEq, AV.d.injEq, DV.list.injEq, DV.int.injEq, and_true, true_and] at h
    rw [Z4n ActG.row_inj h.1.1, h.1.2, Z4n Z51 h.2.1.1, h.2.1.2, h.2.2]) (l, e, r, f, how)
theorem putR_len (R : List W) (i k : Nat) : (putR R i k).length = R.length := by unfold putR; rw [List.length_set]
theorem partI1 {a b : NodeG} : partQ 1 a b = true ↔ (¬ a.kind = b.kind ∨ a.kind < 0) := by
  unfold partQ apartQ NodeG.th
  simp
theorem partI2 {a b : NodeG} : partQ 2 a b = true ↔ (a.kind = b.kind ∧ ¬ a.kind < 0) := by
  unfold partQ apartQ NodeG.th
  simp
theorem partI3 {a b : NodeG} : partQ 3 a b = true ↔ a.old = b.old := by
  unfold partQ locQ NodeG.lc
  simp
theorem partI4 {a b : NodeG} : partQ 4 a b = true ↔ (a.loc = 1 ∧ b.loc = 1) := by
  unfold partQ NodeG.kd
  simp
theorem partI5 {a b : NodeG} : partQ 5 a b = true ↔ (a.loc = 1 ∧ b.loc = 2) := by
  unfold partQ NodeG.kd
  simp
theorem partI6 {a b : NodeG} : partQ 6 a b = true ↔ (a.loc = 2 ∧ b.loc = 1) := by
  unfold partQ NodeG.kd
  simp
theorem partI7 {a b : NodeG} : partQ 7 a b = true ↔ (a.loc = 2 ∧ b.loc = 2) := by
  unfold partQ NodeG.kd
  simp
def partSt (l : List NodeG) (e : Bool) (r : List W) (f : Bool) (how : Int) (i : Nat) (R : List W) (k : Nat) : State :=
  ⟨[(0, .d (.list (l.map ActG.row) e)), (1, .d (.list (r.map rowW) f)), (2, .d (.int .i64 how)), (7, .ref 0 1 0 l.length true), (8, .d (.int .i64 i)), (9, .d (.int .i64 k))], [.dvec 1 (R.map rowW)]⟩
def kinds (A B : NodeG) : Bool := decide (0 ≤ A.loc) && decide (A.loc < 3) && decide (0 ≤ B.loc) && decide (B.loc < 3)
def pUp (R : List W) (i k : Nat) (c : Bool) : List W := if c then putR R i k else R
def P2 (E E' : Env) : Prop := E = E' ∨ ∃ y, E = (163, y) :: E'
def p2E (l : List NodeG) (e : Bool) (r : List W) (f : Bool) (how : Int) (i k : Nat) (x0 x1 x2 : AV) (W : Int) (o : Bool) (x5 y4 y5 : AV) : Env := [(0, .d (.list (l.map ActG.row) e)), (8, .d (.int .i64 i)), (21, x0), (9, .d (.int .i64 k)), (27, x1), (10, .ptr 1 4 0 0), (11, .ptr 2 4 0 0), (2, .d (.int .i64 how)), (12, x2), (13, .d (.int .i64 W)), (14, .d (.bool o)), (1, .d (.list (r.map rowW) f)), (141, y4), (7, .ref 0 1 0 l.length true), (163, y5), (6, x5)]
set_option maxHeartbeats 4000000 in
theorem part2_ok {T : Tab} {n1 n2 : Nat} (k1 : KnowsG T n1 ef_Put.at) (k2 : Knows T n2 sp_Has) {K : AExit → State → Prop} {l : List NodeG} {e : Bool} {r : List W} {f : Bool} {how : Int} {i k : Nat} {R : List W} {A B : NodeG} {W : Int} {o : Bool} {x0 x1 x2 x3 x4 x5 : AV}
    (h1 : l.length ≤ 64) (h2 : r.length ≤ maxLen) (hi : i < l.length) (hk : k < l.length) (lR : R.length = l.length) (r0 : hasI R i k = false)
    (hK : ∀ E y4 y5, P2 E (p2E l e r f how i k x0 x1 x2 W o x5 y4 y5) → K .normal ⟨E,
      [.dvec 1 ((pUp R i k (hasN r i k && (o && (decide (how < 4) || kinds A B)))).map rowW), .vec 4 [[.d (.int .i64 A.kind), .d (.int .i64 A.loc), .d (.int .i64 A.old), .d (.int .i64 A.new)]], .vec 4 [[.d (.int .i64 B.kind), .d (.int .i64 B.loc), .d (.int .i64 B.old), .d (.int .i64 B.new)]]]⟩) :
    vck T 0 V_ref19_part (part2 n1 n2) ⟨[(0, .d (.list (l.map ActG.row) e)), (8, .d (.int .i64 i)), (21, x0), (9, .d (.int .i64 k)), (27, x1), (10, .ptr 1 4 0 0), (11, .ptr 2 4 0 0), (2, .d (.int .i64 how)), (12, x2), (13, .d (.int .i64 W)), (14, .d (.bool o)), (1, .d (.list (r.map rowW) f)), (141, x3), (7, .ref 0 1 0 l.length true), (163, x4), (6, x5)],
      [.dvec 1 (R.map rowW), .vec 4 [[.d (.int .i64 A.kind), .d (.int .i64 A.loc), .d (.int .i64 A.old), .d (.int .i64 A.new)]], .vec 4 [[.d (.int .i64 B.kind), .d (.int .i64 B.loc), .d (.int .i64 B.old), .d (.int .i64 B.new)]]]⟩ K := by
  have G1 := k1.G; have F2 := k2.F; have G2 := k2.G
  have hlM : l.length ≤ maxLen := by unfold maxLen; omega
  have sR : szR R = l.length := by unfold szR; omega
  generalize hQ : putR R i k = Q at *
  have hQ' : putR R (i : Nat) (k : Nat) = Q := hQ
  have lQ : Q.length = l.length := by rw [← hQ, putR_len]; exact lR
  have sQ : szR Q = l.length := by unfold szR; omega
  have q1 : hasI Q i k = true := by
    rw [hasI_nat]
    unfold hasN
    rw [sQ, ← hQ]
    unfold putR
    rw [decide_eq_true hi, decide_eq_true hk, List.getD_eq_getElem?_getD, List.getElem?_set_self (by omega)]
    simp only [Option.getD_some, BitVec.getLsbD_or, BitVec.getLsbD_shiftLeft]
    have : k < 64 := by omega
    simp [this]
  unfold V_ref19_part part2
  cases o
  · have yes := fun E y4 y5 => hK E y4 y5
    simp only [Bool.false_and, Bool.and_false, pUp, Bool.false_eq_true, ↓reduceIte] at yes
    simp (maxSteps := 3000000) only [↓Z1d, ↓Z2b, ↓Z1t, ↓Z05, ↓Z2q, ↓Z2k, Z49, Z4a, ↓Z20, ↓Z1c, ↓Z0i, ↓Z1u, ↓Z12, ↓Z1z, ↓Z2z, ↓Z30, ↓Z23, ↓Z1s, ↓Z2d, ↓Z28, ↓Z1y, ↓Z3m, ↓Z46, ↓Z3e, ↓Z3g, ↓Z3f, ↓Z3v, ↓Z3q, ↓Z44, ↓Z0j, ↓Z0b, ↓Z16, ↓Z0h, ↓Z1g, Z4d, Z0a, Z18, Z32, Z1a, Z35, evN, Z2s, Z1x, Z34, Z41, Z1w, Z19, Z1v, Z2p, Z2a, Z29, Z1e, Z2x, evT, Opd.ev, Z04, Z01, Z33, Z3x, Z3o, Z26, Z1f, Z2w, Z2y, Z3c, Z22, Z14, Z3r, LOp.isNew, State.prune, Z3s, Z3j, AV.leaf, Heap.at, Z0g, Z08, Z1m, Z0e, Z02, Z4x, Z4t, rowW, Z24, Z2t, Z1p, Z1b, rowB, Z2v, Z2u, rowN, Z4b, Z3h, Z17, Z15, w_or, Z4r, Z2r, Z45, Z50, Z42, Z4s, Z47, Z4z, Z4y, Z4u, Z4v, Z4w, w_eq, Bool.decide_eq_true, Z3b, Z3a, Z39, Z2f, Z1h, Z03, Z09, Z11, Z00, Z21, rowI, RatG.row, LocG.row, ActG.row, StepG.row, StampG.row, ActG.av, ActG.eta, RatG.eta, LocG.eta, beq_true, beq_false, Z2j, Z2o, Z2c, Z2l, Z10, Z0n, Z0y, Z0z, Z0m, Z0l, Z0c, List.length_set, List.length_replicate, Z06, Int.reduceToNat, Z4o, Z27, Z4e, Src.all, Src.len, Src.leaf, Src.leafN, Z37, Z3z, Z4k, Z0k, Z0o, Z0p, Z0q, Z0r, Z0s, Z0t, Z0u, Z4m, drows, evMk, List.length_map, Z1r, Z1q, List.take_length, List.take_left, List.length_append, Nat.le_add_right, ite_self, List.take_of_length_le, Z38, Z4j, Z3w, Option.isSome_none, Option.isSome_some, Nat.sub_zero, Z4i, Z4p, Z4g, evUn, Z0v, Z13, binT, binQ, chk, Z3t, List.contains_cons, List.contains_nil, Bool.or_false, Bool.false_or, Bool.and_self, resQ, resV, resT, Z4q, Z2e, Z43, Z3l, fnOf, Z3k, isD, HO.drow, Z4f, Z3u, evEq, eqV, eqK, eqC1, Z40, Z3y, Z36, Z31, Z48, Z3d, Z2i, Z1k, Z2h, Z1j, Z2g, Z1i, Z1l, Z0w, Z0x, Z0d, List.mem_cons, List.not_mem_nil, or_false, forall_eq, putRow, Z3n, Z25, RetS, RetF, RetD, AV.frz, AV.frzL, AV.freshP, AV.freshL, DV.less, Z2m, Z1n, Z2n, Z1o, Z0f, Z07, Option.some.injEq, AV.tup.injEq, AV.agg.injEq, List.cons.injEq, DV.list.injEq, List.isEmpty_nil, Nat.le_refl, AV.d.injEq, DV.int.injEq, DV.bool.injEq, ↓reduceIte, Nat.reduceEqDiff, Nat.reduceAdd, Nat.reduceBEq, List.length_cons, List.length_nil, List.replicate_succ, List.replicate_zero, List.nil_append, List.cons_append, List.append_nil, List.foldl_cons, List.foldl_nil, List.map_cons, List.map_nil, List.all_cons, List.all_nil, List.set_cons_zero, List.set_cons_succ, List.getD_cons_zero, List.getD_cons_succ, List.drop_zero, List.drop_succ_cons, List.take_succ_cons, List.take_zero, List.flatten_cons, List.flatten_nil, Bool.true_and, Bool.and_true, Bool.not_true, Bool.not_false, true_and, and_true, true_or, or_true, Option.bind_some, Option.map_some, decide_true, decide_false, beq_self_eq_true, true_implies, false_implies, implies_true, not_true_eq_false, not_false_eq_true, and_self, Bool.and_false, Bool.false_and, Nat.reduceLT, Nat.reduceLeDiff, List.reverse_cons, List.reverse_nil, Nat.zero_add, Nat.add_zero, Bool.false_eq_true, List.getElem?_cons_zero, Nat.reduceMul, Nat.mul_one, Int.reduceEq, Int.reduceLT, G1, F2, G2, at_Put, at_Has, putE_d, lR, sR, lQ, sQ, r0, q1, hasI_nat, hQ, hQ']
    (repeat' (first | intro _ | apply And.intro))
    all_goals first
      | omega
      | exact h2
      | exact yes _ _ _ (.inl rfl)
      | exact yes _ _ _ (.inr ⟨_, rfl⟩)
  · cases hb : hasN r i k
    · have yes := fun E y4 y5 => hK E y4 y5
      simp only [hb, Bool.false_and, Bool.and_false, pUp, Bool.false_eq_true, ↓reduceIte] at yes
      simp (maxSteps := 3000000) only [↓Z1d, ↓Z2b, ↓Z1t, ↓Z05, ↓Z2q, ↓Z2k, Z49, Z4a, ↓Z20, ↓Z1c, ↓Z0i, ↓Z1u, ↓Z12, ↓Z1z, ↓Z2z, ↓Z30, ↓Z23, ↓Z1s, ↓Z2d, ↓Z28, ↓Z1y, ↓Z3m, ↓Z46, ↓Z3e, ↓Z3g, ↓Z3f, ↓Z3v, ↓Z3q, ↓Z44, ↓Z0j, ↓Z0b, ↓Z16, ↓Z0h, ↓Z1g, Z4d, Z0a, Z18, Z32, Z1a, Z35, evN, Z2s, Z1x, Z34, Z41, Z1w, Z19, Z1v, Z2p, Z2a, Z29, Z1e, Z2x, evT, Opd.ev, Z04, Z01, Z33, Z3x, Z3o, Z26, Z1f, Z2w, Z2y, Z3c, Z22, Z14, Z3r, LOp.isNew, State.prune, Z3s, Z3j, AV.leaf, Heap.at, Z0g, Z08, Z1m, Z0e, Z02, Z4x, Z4t, rowW, Z24, Z2t, Z1p, Z1b, rowB, Z2v, Z2u, rowN, Z4b, Z3h, Z17, Z15, w_or, Z4r, Z2r, Z45, Z50, Z42, Z4s, Z47, Z4z, Z4y, Z4u, Z4v, Z4w, w_eq, Bool.decide_eq_true, Z3b, Z3a, Z39, Z2f, Z1h, Z03, Z09, Z11, Z00, Z21, rowI, RatG.row, LocG.row, ActG.row, StepG.row, StampG.row, ActG.av, ActG.eta, RatG.eta, LocG.eta, beq_true, beq_false, Z2j, Z2o, Z2c, Z2l, Z10, Z0n, Z0y, Z0z, Z0m, Z0l, Z0c, List.length_set, List.length_replicate, Z06, Int.reduceToNat, Z4o, Z27, Z4e, Src.all, Src.len, Src.leaf, Src.leafN, Z37, Z3z, Z4k, Z0k, Z0o, Z0p, Z0q, Z0r, Z0s, Z0t, Z0u, Z4m, drows, evMk, List.length_map, Z1r, Z1q, List.take_length, List.take_left, List.length_append, Nat.le_add_right, ite_self, List.take_of_length_le, Z38, Z4j, Z3w, Option.isSome_none, Option.isSome_some, Nat.sub_zero, Z4i, Z4p, Z4g, evUn, Z0v, Z13, binT, binQ, chk, Z3t, List.contains_cons, List.contains_nil, Bool.or_false, Bool.false_or, Bool.and_self, resQ, resV, resT, Z4q, Z2e, Z43, Z3l, fnOf, Z3k, isD, HO.drow, Z4f, Z3u, evEq, eqV, eqK, eqC1, Z40, Z3y, Z36, Z31, Z48, Z3d, Z2i, Z1k, Z2h, Z1j, Z2g, Z1i, Z1l, Z0w, Z0x, Z0d, List.mem_cons, List.not_mem_nil, or_false, forall_eq, putRow, Z3n, Z25, RetS, RetF, RetD, AV.frz, AV.frzL, AV.freshP, AV.freshL, DV.less, Z2m, Z1n, Z2n, Z1o, Z0f, Z07, Option.some.injEq, AV.tup.injEq, AV.agg.injEq, List.cons.injEq, DV.list.injEq, List.isEmpty_nil, Nat.le_refl, AV.d.injEq, DV.int.injEq, DV.bool.injEq, ↓reduceIte, Nat.reduceEqDiff, Nat.reduceAdd, Nat.reduceBEq, List.length_cons, List.length_nil, List.replicate_succ, List.replicate_zero, List.nil_append, List.cons_append, List.append_nil, List.foldl_cons, List.foldl_nil, List.map_cons, List.map_nil, List.all_cons, List.all_nil, List.set_cons_zero, List.set_cons_succ, List.getD_cons_zero, List.getD_cons_succ, List.drop_zero, List.drop_succ_cons, List.take_succ_cons, List.take_zero, List.flatten_cons, List.flatten_nil, Bool.true_and, Bool.and_true, Bool.not_true, Bool.not_false, true_and, and_true, true_or, or_true, Option.bind_some, Option.map_some, decide_true, decide_false, beq_self_eq_true, true_implies, false_implies, implies_true, not_true_eq_false, not_false_eq_true, and_self, Bool.and_false, Bool.false_and, Nat.reduceLT, Nat.reduceLeDiff, List.reverse_cons, List.reverse_nil, Nat.zero_add, Nat.add_zero, Bool.false_eq_true, List.getElem?_cons_zero, Nat.reduceMul, Nat.mul_one, Int.reduceEq, Int.reduceLT, G1, F2, G2, at_Put, at_Has, putE_d, lR, sR, lQ, sQ, r0, q1, hasI_nat, hb, hQ, hQ']
      (repeat' (first | intro _ | apply And.intro))
      all_goals first
        | omega
        | exact h2
        | exact yes _ _ _ (.inl rfl)
        | exact yes _ _ _ (.inr ⟨_, rfl⟩)
    · simp (maxSteps := 3000000) only [↓Z1d, ↓Z2b, ↓Z1t, ↓Z05, ↓Z2q, ↓Z2k, Z49, Z4a, ↓Z20, ↓Z1c, ↓Z0i, ↓Z1u, ↓Z12, ↓Z1z, ↓Z2z, ↓Z30, ↓Z23, ↓Z1s, ↓Z2d, ↓Z28, ↓Z1y, ↓Z3m, ↓Z46, ↓Z3e, ↓Z3g, ↓Z3f, ↓Z3v, ↓Z3q, ↓Z44, ↓Z0j, ↓Z0b, ↓Z16, ↓Z0h, ↓Z1g, Z4d, Z0a, Z18, Z32, Z1a, Z35, evN, Z2s, Z1x, Z34, Z41, Z1w, Z19, Z1v, Z2p, Z2a, Z29, Z1e, Z2x, evT, Opd.ev, Z04, Z01, Z33, Z3x, Z3o, Z26, Z1f, Z2w, Z2y, Z3c, Z22, Z14, Z3r, LOp.isNew, State.prune, Z3s, Z3j, AV.leaf, Heap.at, Z0g, Z08, Z1m, Z0e, Z02, Z4x, Z4t, rowW, Z24, Z2t, Z1p, Z1b, rowB, Z2v, Z2u, rowN, Z4b, Z3h, Z17, Z15, w_or, Z4r, Z2r, Z45, Z50, Z42, Z4s, Z47, Z4z, Z4y, Z4u, Z4v, Z4w, w_eq, Bool.decide_eq_true, Z3b, Z3a, Z39, Z2f, Z1h, Z03, Z09, Z11, Z00, Z21, rowI, RatG.row, LocG.row, ActG.row, StepG.row, StampG.row, ActG.av, ActG.eta, RatG.eta, LocG.eta, beq_true, beq_false, Z2j, Z2o, Z2c, Z2l, Z10, Z0n, Z0y, Z0z, Z0m, Z0l, Z0c, List.length_set, List.length_replicate, Z06, Int.reduceToNat, Z4o, Z27, Z4e, Src.all, Src.len, Src.leaf, Src.leafN, Z37, Z3z, Z4k, Z0k, Z0o, Z0p, Z0q, Z0r, Z0s, Z0t, Z0u, Z4m, drows, evMk, List.length_map, Z1r, Z1q, List.take_length, List.take_left, List.length_append, Nat.le_add_right, ite_self, List.take_of_length_le, Z38, Z4j, Z3w, Option.isSome_none, Option.isSome_some, Nat.sub_zero, Z4i, Z4p, Z4g, evUn, Z0v, Z13, binT, binQ, chk, Z3t, List.contains_cons, List.contains_nil, Bool.or_false, Bool.false_or, Bool.and_self, resQ, resV, resT, Z4q, Z2e, Z43, Z3l, fnOf, Z3k, isD, HO.drow, Z4f, Z3u, evEq, eqV, eqK, eqC1, Z40, Z3y, Z36, Z31, Z48, Z3d, Z2i, Z1k, Z2h, Z1j, Z2g, Z1i, Z1l, Z0w, Z0x, Z0d, List.mem_cons, List.not_mem_nil, or_false, forall_eq, putRow, Z3n, Z25, RetS, RetF, RetD, AV.frz, AV.frzL, AV.freshP, AV.freshL, DV.less, Z2m, Z1n, Z2n, Z1o, Z0f, Z07, Option.some.injEq, AV.tup.injEq, AV.agg.injEq, List.cons.injEq, DV.list.injEq, List.isEmpty_nil, Nat.le_refl, AV.d.injEq, DV.int.injEq, DV.bool.injEq, ↓reduceIte, Nat.reduceEqDiff, Nat.reduceAdd, Nat.reduceBEq, List.length_cons, List.length_nil, List.replicate_succ, List.replicate_zero, List.nil_append, List.cons_append, List.append_nil, List.foldl_cons, List.foldl_nil, List.map_cons, List.map_nil, List.all_cons, List.all_nil, List.set_cons_zero, List.set_cons_succ, List.getD_cons_zero, List.getD_cons_succ, List.drop_zero, List.drop_succ_cons, List.take_succ_cons, List.take_zero, List.flatten_cons, List.flatten_nil, Bool.true_and, Bool.and_true, Bool.not_true, Bool.not_false, true_and, and_true, true_or, or_true, Option.bind_some, Option.map_some, decide_true, decide_false, beq_self_eq_true, true_implies, false_implies, implies_true, not_true_eq_false, not_false_eq_true, and_self, Bool.and_false, Bool.false_and, Nat.reduceLT, Nat.reduceLeDiff, List.reverse_cons, List.reverse_nil, Nat.zero_add, Nat.add_zero, Bool.false_eq_true, List.getElem?_cons_zero, Nat.reduceMul, Nat.mul_one, Int.reduceEq, Int.reduceLT, G1, F2, G2, at_Put, at_Has, putE_d, lR, sR, lQ, sQ, r0, q1, hasI_nat, hb, hQ, hQ']
      have no : ¬ (how < 4 ∨ (0 ≤ A.loc ∧ A.loc < 3 ∧ 0 ≤ B.loc ∧ B.loc < 3)) → ∀ E y4 y5, P2 E (p2E l e r f how i k x0 x1 x2 W true x5 y4 y5) → K .normal ⟨E,
          [.dvec 1 (R.map rowW), .vec 4 [[.d (.int .i64 A.kind), .d (.int .i64 A.loc), .d (.int .i64 A.old), .d (.int .i64 A.new)]], .vec 4 [[.d (.int .i64 B.kind), .d (.int .i64 B.loc), .d (.int .i64 B.old), .d (.int .i64 B.new)]]]⟩ := fun h E y4 y5 hE => by
        have := hK E y4 y5 hE
        rw [show (hasN r i k && (true && (decide (how < 4) || kinds A B))) = false from ?_] at this
        · exact this
        · rw [hb]; unfold kinds; apply Bool.eq_false_iff.2; intro h2; apply h; simpa [and_assoc] using h2
      have yes : (how < 4 ∨ (0 ≤ A.loc ∧ A.loc < 3 ∧ 0 ≤ B.loc ∧ B.loc < 3)) → ∀ E y4 y5, P2 E (p2E l e r f how i k x0 x1 x2 W true x5 y4 y5) → K .normal ⟨E,
          [.dvec 1 (Q.map rowW), .vec 4 [[.d (.int .i64 A.kind), .d (.int .i64 A.loc), .d (.int .i64 A.old), .d (.int .i64 A.new)]], .vec 4 [[.d (.int .i64 B.kind), .d (.int .i64 B.loc), .d (.int .i64 B.old), .d (.int .i64 B.new)]]]⟩ := fun h E y4 y5 hE => by
        have := hK E y4 y5 hE
        rw [show (hasN r i k && (true && (decide (how < 4) || kinds A B))) = true from ?_] at this
        · unfold pUp at this; rw [if_pos rfl, hQ] at this; exact this
        · rw [hb]; unfold kinds; simpa [and_assoc] using h
      (repeat' (first | intro _ | apply And.intro))
      all_goals first
        | omega
        | exact h2
        | exact hlM
        | exact yes (by omega) _ _ _ (.inl rfl)
        | exact yes (by omega) _ _ _ (.inr ⟨_, rfl⟩)
        | exact no (by omega) _ _ _ (.inl rfl)
        | exact no (by omega) _ _ _ (.inr ⟨_, rfl⟩)
end Go.Ago
