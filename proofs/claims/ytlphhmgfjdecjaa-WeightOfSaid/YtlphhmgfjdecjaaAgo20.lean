/- Regions in any order that their edges allow. Conditions: none. -/
import Derived.Test.YtlphhmgfjdecjaaAgo19
import Derived.Orders
set_option linter.unusedSimpArgs false
set_option linter.unusedVariables false
namespace Go.Ago

/-- What an item says of the region's own operation. -/
structure Item.Of (P : Program) (n : Nat) (ops : Array Oper) (it : Item) : Prop where
  low : low P it.c it.o.type it.o.op = some it.lo.op
  dst : it.lo.dst = it.o.dst
  lt : ∀ t, it.o.dst = some t → t < n
  at_ : ops[it.ix]? = some it.o
  guard : (it.o.guard = none ∧ it.lo.guard = none) ∨ ∃ j t want, it.o.guard = some (j, want) ∧ (ops[j]?).bind (·.dst) = some t ∧ it.lo.guard = some (t, want)

section
variable {A : Nat → Prop} {P : Program} {n base : Nat} {ops : Array Oper} {Q : Exit → Act → World → Prop}

def FreeIds (base : Nat) (φ : Nat → Option (Nat × Nat)) (S : State) (L : List Item) : Prop :=
  ∀ it ∈ L, it.lo.op.isNew = true → base + it.c < S.heap.length ∧ φ (base + it.c) = none

/-- One step. -/
theorem step_sound {it : Item} (hit : it.Of P n ops) {S : State} {φ : Nat → Option (Nat × Nat)} {a : Act} {w : World} (hs : Sim A n φ S a w)
    (hfree : it.lo.op.isNew = true → base + it.c < S.heap.length ∧ φ (base + it.c) = none) (hstep : Step P base it.lo it.δ S) (K : Act → World → Prop)
    (hK : ∀ φ' v w', Sim A n φ' (S.app it.lo.dst it.δ) (a.put it.o.dst v) w' → Onward A φ S.heap w φ' (S.app it.lo.dst it.δ).heap w' → (∀ j, (it.lo.op.isNew = true → j ≠ base + it.c) → φ' j = φ j) → K (a.put it.o.dst v) w') :
    wpOp P ops Q it.ix K a w := by
  have go : actK P base S.env S.heap it.lo.op (· = it.δ) → it.o.wp P a w K Q := fun hact =>
    op_sound hit.low hit.lt hs (fun h => (hfree h).1) (fun h => (hfree h).2) hact K Q (fun φ' v w' h1 h2 h3 =>
      hK φ' v w' (by rw [hit.dst]; exact h1) (by rw [hit.dst]; exact h2) h3)
  have skip : it.δ = skipD → K (a.put it.o.dst undef) w := fun he => by
    have h1 := sim_skip hs (dst := it.o.dst) hit.lt
    rw [← hit.dst] at h1
    have := hK φ undef w
    rw [← hit.dst, he] at this
    rw [← hit.dst]
    exact this h1 (Onward.same hs.heap) (fun _ _ => rfl)
  unfold wpOp
  simp only [hit.at_]
  unfold Step at hstep
  rcases hit.guard with ⟨g1, g2⟩ | ⟨j, t, want, g1, g2, g3⟩
  · simp only [g2] at hstep
    rw [wanted_none (all := ops) g1, if_pos rfl]
    exact .inl (go hstep)
  · simp only [g3] at hstep
    obtain ⟨s1, s2⟩ := guard_said (a := a) g1 g2 hs
    split at hstep
    · rename_i b hb
      rw [s1 b hb]
      by_cases e : b = want
      · rw [if_pos (by simp [e])]; exact .inl (go (hstep.1 e))
      · rw [if_neg (by simp [e])]; exact skip (hstep.2 e)
    · rename_i hb
      rw [s2 hb, if_neg (by simp)]
      exact skip hstep
    · exact hstep.elim

theorem exists_least {α : Type} (f : α → Nat) : ∀ (l : List α), l ≠ [] → ∃ x ∈ l, ∀ y ∈ l, f x ≤ f y := by
  intro l
  induction l with
  | nil => intro h; exact absurd rfl h
  | cons a l ih =>
    intro _
    by_cases hl : l = []
    · subst hl; exact ⟨a, by simp, by simp⟩
    · obtain ⟨x, hx, hm⟩ := ih hl
      by_cases h : f a ≤ f x
      · exact ⟨a, by simp, fun y hy => by
          rcases List.mem_cons.1 hy with rfl | hy
          · exact Nat.le_refl _
          · exact Nat.le_trans h (hm y hy)⟩
      · exact ⟨x, List.mem_cons_of_mem _ hx, fun y hy => by
          rcases List.mem_cons.1 hy with rfl | hy
          · omega
          · exact hm y hy⟩

theorem any_sound {md : Region.Mode} {anc : Nat → Nat} (hanc : ∀ i o j, ops[i]? = some o → (anc i).testBit j = true → ∃ e ∈ o.after, Region.binds md e = true ∧ (j = e.on ∨ (anc e.on).testBit j = true))
    {rk : Nat → Nat} (hback : ∀ (i : Nat) (o : Oper) (e : Edge), ops[i]? = some o → e ∈ o.after → Region.binds md e = true → e.on < ops.size ∧ rk e.on < rk i) {K : State → Prop} (hKL : ∀ S S', Like S S' → K S → K S') :
    ∀ (fuel : Nat) (L : List Item) (listed : Array Bool) (S : State) (φ : Nat → Option (Nat × Nat)) (a : Act) (w : World), listed.size = ops.size → L.length ≤ fuel →
      (∀ it ∈ L, it.Of P n ops) → (∀ it ∈ L, listed.getD it.ix true = false) → (∀ i, listed.getD i true = false → ∃ it ∈ L, it.ix = i) →
      L.Pairwise (fun x y => x.ix < y.ix ∧ (x.lo.op.isNew = true → y.lo.op.isNew = true → x.c ≠ y.c) ∧ ((anc y.ix).testBit x.ix = true ∨ Apart x y)) →
      (∀ i, listed.getD i false = true → ∀ j, (anc i).testBit j = true → listed.getD j false = true) →
      FreeIds base φ S L → Run P base K L S → Sim A n φ S a w →
      (∀ S' φ' a' w', K S' → Sim A n φ' S' a' w' → Onward A φ S.heap w φ' S'.heap w' → (∀ j, j < base → φ' j = φ j) → S.heap.length ≤ S'.heap.length → Q .normal a' w') →
      wpAny P md ops Q fuel listed a w := by
  intro fuel
  induction fuel with
  | zero =>
    intro L listed S φ a w hsz hlen hof hun hall hpw hcl hfree hrun hs hq
    have hL : L = [] := List.length_eq_zero_iff.1 (by omega)
    subst hL
    refine ⟨?_, hq S φ a w hrun hs (Onward.same hs.heap) (fun _ _ => rfl) (Nat.le_refl _)⟩
    cases hr : Region.ready md ops listed with
    | nil => rfl
    | cons i is =>
      obtain ⟨h1, _⟩ := mem_ready.1 (by rw [hr]; exact List.mem_cons_self .. : i ∈ Region.ready md ops listed)
      obtain ⟨it, hit, _⟩ := hall i h1
      cases hit
  | succ fuel ih =>
    intro L listed S φ a w hsz hlen hof hun hall hpw hcl hfree hrun hs hq
    -- the first of those left is ready
    refine ⟨fun hnil => ?_, fun i hi => ?_⟩
    · by_cases hL : L = []
      · subst hL; exact hq S φ a w hrun hs (Onward.same hs.heap) (fun _ _ => rfl) (Nat.le_refl _)
      · exfalso
        obtain ⟨it, hit, hmin⟩ := exists_least (fun it : Item => rk it.ix) L hL
        have hmem : it.ix ∈ Region.ready md ops listed := mem_ready.2 ⟨hun it hit, it.o, (hof it hit).at_, fun e he hb => by
          obtain ⟨hsize, hlt⟩ := hback it.ix it.o e (hof it hit).at_ he hb
          cases hf : listed.getD e.on true with
          | false =>
            obtain ⟨x, hx, hxe⟩ := hall e.on hf
            have := hmin x hx
            rw [hxe] at this
            omega
          | true =>
            rw [Array.getD_eq_getD_getElem?] at hf ⊢
            have : e.on < listed.size := by omega
            rw [Array.getElem?_eq_getElem this] at hf ⊢
            exact hf⟩
        rw [hnil] at hmem
        cases hmem
    · obtain ⟨h1, o, ho, hready⟩ := mem_ready.1 hi
      obtain ⟨it, hit, rfl⟩ := hall i h1
      obtain ⟨L1, L2, rfl⟩ := List.append_of_mem hit
      have hlisted : ∀ j, (anc it.ix).testBit j = true → listed.getD j false = true := fun j hj => by
        obtain ⟨e, he, hb, h2⟩ := hanc it.ix o j ho hj
        rcases h2 with rfl | h2
        · exact hready e he hb
        · exact hcl e.on (hready e he hb) j h2
      rw [List.pairwise_append] at hpw
      obtain ⟨p1, p2, p3⟩ := hpw
      rw [List.pairwise_cons] at p2
      obtain ⟨p2, p4⟩ := p2
      have hap : ∀ k ∈ L1, Apart k it := fun k hk => by
        rcases (p3 k hk it (List.mem_cons_self ..)).2.2 with h2 | h2
        · exfalso
          have h3 := hlisted k.ix h2
          have h4 := hun k (List.mem_append_left _ hk)
          rw [Array.getD_eq_getD_getElem?] at h3 h4
          cases h5 : listed[k.ix]? <;> simp [h5] at h3 h4
          rw [h3] at h4; cases h4
        · exact h2
      obtain ⟨hstep, hrest⟩ := Run.front hKL L1 S hap hrun
      refine step_sound (hof it hit) hs (hfree it hit) hstep _ ?_
      intro φ' v w' hs' hon hid
      have hlen' : (S.app it.lo.dst it.δ).heap.length = S.heap.length := foldl_set_len _ _
      have hmem : ∀ x ∈ L1 ++ L2, x ∈ L1 ++ it :: L2 := fun x hx => by
        rcases List.mem_append.1 hx with h | h
        · exact List.mem_append_left _ h
        · exact List.mem_append_right _ (List.mem_cons_of_mem _ h)
      have hne : ∀ x ∈ L1 ++ L2, x.ix ≠ it.ix ∧ (x.lo.op.isNew = true → it.lo.op.isNew = true → x.c ≠ it.c) := fun x hx => by
        rcases List.mem_append.1 hx with h | h
        · have := p3 x h it (List.mem_cons_self ..)
          exact ⟨by omega, this.2.1⟩
        · have := p2 x h
          exact ⟨by omega, fun h1 h2 e => this.2.1 h2 h1 e.symm⟩
      refine ih (L1 ++ L2) _ _ φ' _ w' (by simp [hsz]) (by simp at hlen ⊢; omega) (fun x hx => hof x (hmem x hx)) (fun x hx => ?_) (fun j hj => ?_) ?_ (fun j hj k hk => ?_) (fun x hx hn => ?_) hrest hs' ?_
      · rw [getD_set_ne _ (Ne.symm (hne x hx).1)]; exact hun x (hmem x hx)
      · have hji : j ≠ it.ix := fun e => by
          subst e
          rw [Array.getD_eq_getD_getElem?, Array.getElem?_setIfInBounds] at hj
          split at hj
          · split at hj <;> simp at hj
          · rename_i h; exact h rfl
        rw [getD_set_ne _ (Ne.symm hji)] at hj
        obtain ⟨x, hx, rfl⟩ := hall j hj
        refine ⟨x, ?_, rfl⟩
        rcases List.mem_append.1 hx with h | h
        · exact List.mem_append_left _ h
        · rcases List.mem_cons.1 h with h | h
          · subst h; exact absurd rfl hji
          · exact List.mem_append_right _ h
      · rw [List.pairwise_append]
        exact ⟨p1, p4, fun x hx y hy => p3 x hx y (List.mem_cons_of_mem _ hy)⟩
      · by_cases e : j = it.ix
        · subst e
          exact getD_set_true (hlisted k hk)
        · rw [getD_set_ne _ (Ne.symm e)] at hj
          exact getD_set_true (hcl j hj k hk)
      · have h0 := hfree x (hmem x hx) hn
        rw [hlen']
        refine ⟨h0.1, ?_⟩
        rw [hid _ (fun hn' e => (hne x hx).2 hn hn' (by omega))]
        exact h0.2
      · intro S' φ2 a2 w2 hK hs2 hon2 hid2 hl2
        refine hq S' φ2 a2 w2 hK hs2 (hon.trans hon2) (fun j hj => ?_) (by rw [hlen'] at hl2; exact hl2)
        rw [hid2 j hj, hid j (fun _ => by omega)]

/-! ### Items of a region that is told in the order of the text -/
theorem items_of {pairs : List (Nat × Nat)} {K : State → Prop} : ∀ (l : List Oper) (i c : Nat) (los : List LOper) (S : State) (acc : Feet), ops.toList.drop i = l → lowOps P n ops c l = some los →
    RG P true base pairs K los S acc → ∃ L : List Item, L.map (·.lo) = los ∧ (∀ it ∈ L, it.Of P n ops) ∧ (∀ k, (L[k]?).map (·.ix) = (los[k]?).map fun _ => i + k) ∧
      (∀ it ∈ L, it.lo.op.isNew = true → c ≤ it.c ∧ it.c < c + keeps los) ∧ L.Pairwise (fun x y => x.lo.op.isNew = true → y.lo.op.isNew = true → x.c ≠ y.c) ∧ Run P base K L S ∧
      chk pairs (acc.reverse ++ L.map (·.δ.foot)) = true := by
  intro l
  induction l with
  | nil =>
    intro i c los S acc hdrop hlow hg
    simp only [lowOps, Option.some.injEq] at hlow; subst hlow
    refine ⟨[], rfl, fun it h => ?_, fun k => rfl, fun it h => ?_, List.Pairwise.nil, hg.2, ?_⟩
    · cases h
    · cases h
    · simpa using hg.1
  | cons o os ih =>
    intro i c los S acc hdrop hlow hg
    have hi : ops[i]? = some o := by
      have : (ops.toList.drop i)[0]? = some o := by rw [hdrop]; rfl
      rw [List.getElem?_drop, Nat.add_zero, Array.getElem?_toList] at this
      exact this
    have hdrop' : ops.toList.drop (i + 1) = os := by rw [← List.drop_drop, hdrop]; rfl
    simp only [lowOps, Option.bind_eq_some_iff] at hlow
    obtain ⟨lo, hlo, hlow⟩ := hlow
    split at hlow
    · rename_i hdst
      have hd : ∀ t, o.dst = some t → t < n := fun t ht => by rw [ht] at hdst; simpa [dstOK] using hdst
      have main : ∀ (g : Option (Nat × Bool)) (los' : List LOper) (δ : Delta), los = ⟨o.dst, lo, g⟩ :: los' → lowOps P n ops (if lo.isNew then c + 1 else c) os = some los' →
          ((o.guard = none ∧ g = none) ∨ ∃ j t want, o.guard = some (j, want) ∧ (ops[j]?).bind (·.dst) = some t ∧ g = some (t, want)) →
          Step P base ⟨o.dst, lo, g⟩ δ S → RG P true base pairs K los' (S.app o.dst δ) (δ.foot :: acc) →
          ∃ L : List Item, L.map (·.lo) = los ∧ (∀ it ∈ L, it.Of P n ops) ∧ (∀ k, (L[k]?).map (·.ix) = (los[k]?).map fun _ => i + k) ∧
            (∀ it ∈ L, it.lo.op.isNew = true → c ≤ it.c ∧ it.c < c + keeps los) ∧ L.Pairwise (fun x y => x.lo.op.isNew = true → y.lo.op.isNew = true → x.c ≠ y.c) ∧ Run P base K L S ∧
            chk pairs (acc.reverse ++ L.map (·.δ.foot)) = true := by
        intro g los' δ hlos hlow' hgd hstep hrest
        subst hlos
        obtain ⟨L, h1, h2, h3, h4, h5, h6, h7⟩ := ih (i + 1) _ los' _ _ hdrop' hlow' hrest
        refine ⟨⟨i, o, c, ⟨o.dst, lo, g⟩, δ⟩ :: L, by simp [h1], fun it hit => ?_, fun k => ?_, fun it hit hn => ?_, ?_, ⟨hstep, h6⟩, by simpa using h7⟩
        · rcases List.mem_cons.1 hit with rfl | hit
          · exact ⟨hlo, rfl, hd, hi, hgd⟩
          · exact h2 it hit
        · cases k with
          | zero => simp
          | succ k => have := h3 k; simp only [List.getElem?_cons_succ, this]; congr 1; funext _; omega
        · simp only [keeps]
          rcases List.mem_cons.1 hit with rfl | hit
          · simp only at hn
            rw [if_pos hn]; simp only; omega
          · have := h4 it hit hn
            split at this <;> rename_i hn' <;> simp only [hn', if_true, if_false, Bool.false_eq_true] <;> omega
        · rw [List.pairwise_cons]
          refine ⟨fun y hy hn1 hn2 => ?_, h5⟩
          have := h4 y hy hn2
          simp only at hn1
          rw [if_pos hn1] at this
          simp only; omega
      split at hlow
      · rename_i hgd
        obtain ⟨los', hlow', rfl⟩ := Option.map_eq_some_iff.1 hlow
        simp only [RG] at hg
        rcases hg with hg | ⟨h, _⟩
        · obtain ⟨δ, hδ, hrest⟩ := actK_ex hg
          exact main none los' δ rfl hlow' (.inl ⟨hgd, rfl⟩) hδ hrest
        · cases h
      · rename_i j want hgd
        split at hlow
        · rename_i t ht
          obtain ⟨los', hlow', rfl⟩ := Option.map_eq_some_iff.1 hlow
          simp only [RG] at hg
          split at hg
          · rename_i b hb
            by_cases e : b = want
            · rcases hg.1 e with hg | ⟨h, _⟩
              · obtain ⟨δ, hδ, hrest⟩ := actK_ex hg
                refine main (some (t, want)) los' δ rfl hlow' (.inr ⟨j, t, want, hgd, ht, rfl⟩) ?_ hrest
                simp only [Step, hb]
                exact ⟨fun _ => hδ, fun h => absurd e h⟩
              · cases h
            · refine main (some (t, want)) los' skipD rfl hlow' (.inr ⟨j, t, want, hgd, ht, rfl⟩) ?_ (hg.2 e)
              simp only [Step, hb]
              exact ⟨fun h => absurd h e, fun _ => trivial⟩
          · rename_i hb
            refine main (some (t, want)) los' skipD rfl hlow' (.inr ⟨j, t, want, hgd, ht, rfl⟩) ?_ hg
            simp only [Step, hb]
          · exact hg.elim
        · cases hlow
    · cases hlow

/-! ### What is checked of a region once and for all -/
/-- Does it change nothing of the heap, though it may read? -/
def LOp.reads : LOp → Bool
  | .load .. => true
  | o => o.still

theorem actK_reads {P : Program} {base : Nat} {e : Env} {H : Heap} {lo : LOp} {δ : Delta} (h : lo.reads = true) (ha : actK P base e H lo (· = δ)) : δ.ups = [] := by
  cases lo with
  | load agg sz a =>
    simp only [actK, actLoad] at ha
    split at ha
    · obtain ⟨r, h1, x, h2, rfl⟩ := ha; rfl
    · obtain ⟨x, h2, rfl⟩ := ha; rfl
    · exact ha.elim
  | _ => exact (actK_still (by exact h) ha).2

def pairOK (anc : List Nat) (pairs : List (Nat × Nat)) (x : Nat × LOper) (i : Nat) (lo : LOper) : Bool :=
  (anc.getD i 0).testBit x.1 || (apartS x.2 lo && (x.2.op.still || lo.op.still || (x.2.op.reads && lo.op.reads) || pairs.contains (x.1, i)))

def drawOK (anc : List Nat) (pairs : List (Nat × Nat)) : Nat → List (Nat × LOper) → List LOper → Bool
  | _, _, [] => true
  | i, before, lo :: los => before.all (pairOK anc pairs · i lo) && drawOK anc pairs (i + 1) ((i, lo) :: before) los

def mkPairs (anc : List Nat) : Nat → List (Nat × LOper) → List LOper → List (Nat × Nat)
  | _, _, [] => []
  | i, before, lo :: los =>
    (before.filterMap fun x => if (anc.getD i 0).testBit x.1 || x.2.op.still || lo.op.still || (x.2.op.reads && lo.op.reads) then none else some (x.1, i)) ++ mkPairs anc (i + 1) ((i, lo) :: before) los

/-- An order that the edges of a mode allow: who comes first. -/
def kahn (md : Region.Mode) (ops : List Oper) : Nat → Nat → List Nat → List Nat
  | 0, _, acc => acc.reverse
  | f + 1, listed, acc =>
    match ops.zipIdx.find? fun p => !listed.testBit p.2 && p.1.after.toList.all fun e => !Region.binds md e || listed.testBit e.on with
    | some p => kahn md ops f (listed ||| 2 ^ p.2) (p.2 :: acc)
    | none => acc.reverse

def rankOK (md : Region.Mode) (ranks : List Nat) (n : Nat) : Nat → List Oper → Bool
  | _, [] => true
  | i, o :: os => o.after.toList.all (fun e => !Region.binds md e || (decide (e.on < n) && decide (ranks.idxOf e.on < ranks.idxOf i))) && rankOK md ranks n (i + 1) os

def orderOK (md : Region.Mode) (ops : Array Oper) : Bool := rankOK md (kahn md ops.toList ops.size 0 []) ops.size 0 ops.toList

def modesOf (mixed : Bool) (ops : Array Oper) : List Region.Mode := if mixed || !Region.departs ops then [.any] else [.text, .gc]

/-- What comes ahead in each of the region's modes. -/
def ancB (mixed : Bool) (ops : Array Oper) : List Nat :=
  if mixed || !Region.departs ops then ancs .any ops.toList [] else (List.zip (ancs .text ops.toList []) (ancs .gc ops.toList [])).map fun p => p.1 &&& p.2

def ordersOK (mixed : Bool) (ops : Array Oper) : Bool := (modesOf mixed ops).all fun md => orderOK md ops

theorem rankOK_spec {md : Region.Mode} {ranks : List Nat} {n : Nat} : ∀ (os : List Oper) (i : Nat), rankOK md ranks n i os = true → ∀ (k : Nat) (o : Oper) (e : Edge), os[k]? = some o → e ∈ o.after →
    Region.binds md e = true → e.on < n ∧ ranks.idxOf e.on < ranks.idxOf (i + k) := by
  intro os
  induction os with
  | nil => intro i _ k o e h; simp at h
  | cons o' os ih =>
    intro i h k o e hk he hb
    simp only [rankOK, Bool.and_eq_true, List.all_eq_true, Bool.or_eq_true, Bool.not_eq_true', decide_eq_true_eq] at h
    cases k with
    | zero =>
      simp at hk; subst hk
      rcases h.1 e (by simpa using he) with h1 | h1
      · rw [hb] at h1; cases h1
      · exact h1
    | succ k => have := ih (i + 1) h.2 k o e (by simpa using hk) he hb; rw [show i + (k + 1) = i + 1 + k by omega]; exact this

theorem orderOK_spec {md : Region.Mode} {ops : Array Oper} (h : orderOK md ops = true) (i : Nat) (o : Oper) (e : Edge) (hi : ops[i]? = some o) (he : e ∈ o.after) (hb : Region.binds md e = true) :
    e.on < ops.size ∧ (kahn md ops.toList ops.size 0 []).idxOf e.on < (kahn md ops.toList ops.size 0 []).idxOf i := by
  have := rankOK_spec ops.toList 0 h i o e (by rw [Array.getElem?_toList]; exact hi) he hb
  rw [Nat.zero_add] at this; exact this

theorem drawOK_spec {anc : List Nat} {pairs : List (Nat × Nat)} : ∀ (los : List LOper) (i : Nat) (before : List (Nat × LOper)), drawOK anc pairs i before los = true →
    (∀ x ∈ before, ∀ k lo, los[k]? = some lo → pairOK anc pairs x (i + k) lo = true) ∧
    (∀ j k x lo, j < k → los[j]? = some x → los[k]? = some lo → pairOK anc pairs (i + j, x) (i + k) lo = true) := by
  intro los
  induction los with
  | nil => intro i before h; exact ⟨fun _ _ k lo h => by simp at h, fun _ _ _ _ _ h => by simp at h⟩
  | cons lo' los ih =>
    intro i before h
    simp only [drawOK, Bool.and_eq_true, List.all_eq_true] at h
    obtain ⟨h1, h2⟩ := h
    obtain ⟨i1, i2⟩ := ih (i + 1) _ h2
    refine ⟨fun x hx k lo hk => ?_, fun j k x lo hjk hj hk => ?_⟩
    · cases k with
      | zero => simp at hk; subst hk; exact h1 x hx
      | succ k => have := i1 x (List.mem_cons_of_mem _ hx) k lo (by simpa using hk); rw [show i + (k + 1) = i + 1 + k by omega]; exact this
    · cases k with
      | zero => omega
      | succ k =>
        cases j with
        | zero =>
          simp at hj; subst hj
          have := i1 (i, lo') (List.mem_cons_self ..) k lo (by simpa using hk)
          rw [show i + (k + 1) = i + 1 + k by omega]; exact this
        | succ j =>
          have := i2 j k x lo (by omega) (by simpa using hj) (by simpa using hk)
          rw [show i + (k + 1) = i + 1 + k by omega, show i + (j + 1) = i + 1 + j by omega]; exact this

end
end Go.Ago
