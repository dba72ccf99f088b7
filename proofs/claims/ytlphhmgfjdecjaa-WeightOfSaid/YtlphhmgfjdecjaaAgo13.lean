/- Runs of copy, len, max, min, and of comparisons. Conditions: none. -/
import Derived.Test.YtlphhmgfjdecjaaAgo12
set_option linter.unusedSimpArgs false
set_option linter.unusedVariables false
namespace Go.Ago

section
variable {A : Nat → Prop} {φ : Nat → Option (Nat × Nat)} {M : Nat → Prop} {H : Heap} {w : World} {P : Program}

theorem run_len_op {t T : TypeId} {e : TypeId} (h1 : P.underlying t = some (.slice e)) {argTypes : Array TypeId} (a1 : argTypes[0]? = some t) {x : AV} {vx : Value} (hx : Rel φ M w x vx)
    {k : DV → Prop} (h : actLen x k) : ∃ v z, (Builtin.len_ argTypes T #[vx]).run P w = .ok v w ∧ RelD M w z v ∧ k z := by
  have run : ∀ (a : Option Addr) (len cap : Nat), (Builtin.len_ argTypes T #[.slice a len cap]).run P w = .ok (.int .i64 len) w := by
    intro a len cap
    simp [Builtin.len_, a1, run_underlying h1, goInt]
  unfold actLen at h
  split at h
  · cases hx with
    | ref0 _ _ _ _ a => exact ⟨_, _, run _ _ _, .int _ _, h⟩
    | ref _ _ _ _ b o cap _ c T hb hcap hroom hheap hfit => exact ⟨_, _, run _ _ _, .int _ _, h⟩
  · cases hx with
    | d _ _ hx =>
      cases hx with
      | nil _ a cap hfull => exact ⟨_, _, run _ _ _, .int _ _, h⟩
      | list => exact ⟨_, _, run _ _ _, .int _ _, h⟩
  · exact h.elim

theorem run_max_op {T : TypeId} {argTypes : Array TypeId} {x y : AV} {vx vy : Value} (hx : Rel φ M w x vx) (hy : Rel φ M w y vy) {k : DV → Prop}
    (h : actInt2 x y fun kd a b => k (.int kd (if b > a then b else a))) : ∃ v z, (Builtin.max_ argTypes T #[vx, vy]).run P w = .ok v w ∧ RelD M w z v ∧ k z := by
  unfold actInt2 at h
  split at h
  · have e1 := hx.int_inv
    have e2 := hy.int_inv
    subst e1; subst e2
    exact ⟨_, _, by simp [Builtin.max_, Builtin.max2], .int _ _, h⟩
  · exact h.elim

theorem run_min_op {T : TypeId} {argTypes : Array TypeId} {x y : AV} {vx vy : Value} (hx : Rel φ M w x vx) (hy : Rel φ M w y vy) {k : DV → Prop}
    (h : actInt2 x y fun kd a b => k (.int kd (if b < a then b else a))) : ∃ v z, (Builtin.min_ argTypes T #[vx, vy]).run P w = .ok v w ∧ RelD M w z v ∧ k z := by
  unfold actInt2 at h
  split at h
  · have e1 := hx.int_inv
    have e2 := hy.int_inv
    subst e1; subst e2
    exact ⟨_, _, by simp [Builtin.min_, Builtin.min2], .int _ _, h⟩
  · exact h.elim

/-! ### Comparisons -/
theorem eqK_split : ∀ (k1 k2 : List Bool) (xs ys : List AV) (r : Bool), eqK (k1 ++ k2) xs ys = some r →
    ∃ r1 r2, eqK k1 (xs.take k1.length) (ys.take k1.length) = some r1 ∧ eqK k2 (xs.drop k1.length) (ys.drop k1.length) = some r2 ∧ r = (r1 && r2) := by
  intro k1
  induction k1 with
  | nil => intro k2 xs ys r h; exact ⟨true, r, by simp [eqK], by simpa using h, by simp⟩
  | cons k k1 ih =>
    intro k2 xs ys r h
    cases xs with
    | nil => simp [eqK] at h
    | cons x xs =>
      cases ys with
      | nil => simp [eqK] at h
      | cons y ys =>
        simp only [List.cons_append, eqK, Option.bind_eq_some_iff, Option.map_eq_some_iff] at h
        obtain ⟨b, h1, r', h2, rfl⟩ := h
        obtain ⟨r1, r2, g1, g2, rfl⟩ := ih k2 xs ys r' h2
        exact ⟨b && r1, r2, by simp [eqK, h1, g1], by simpa using g2, by simp [Bool.and_assoc]⟩

theorem eqC1_int {x y : AV} {r : Bool} (h : eqC1 true x y = some r) : ∃ k a b, x = .d (.int k a) ∧ y = .d (.int k b) ∧ r = decide (a = b) := by
  unfold eqC1 at h
  split at h
  · split at h
    · subst_vars; simp only [Option.some.injEq] at h; exact ⟨_, _, _, rfl, rfl, h.symm⟩
    · cases h
  · contradiction
  · cases h

theorem eqC1_bool {x y : AV} {r : Bool} (h : eqC1 false x y = some r) : ∃ a b, x = .d (.bool a) ∧ y = .d (.bool b) ∧ r = (a == b) := by
  unfold eqC1 at h
  split at h
  · contradiction
  · simp only [Option.some.injEq] at h; exact ⟨_, _, rfl, rfl, h.symm⟩
  · cases h

theorem run_part_one {t : TypeId} (h : lowAgg P t = some false) {cs : Array Value} {off : Nat} {v : Value} (hv : cs[off]? = some v) : (part t cs off).run P w = .ok v w := by
  simp [part, run_isAgg h, hv]

theorem run_part_agg {t : TypeId} {n : Nat} (h : lowAgg P t = some true) (hn : lowSz P t = some n) (cs : Array Value) (off : Nat) :
    (part t cs off).run P w = .ok (.agg (cs.extract off (off + n))) w := by
  simp [part, run_isAgg h, run_sizeOf hn]

theorem RelL.extract {xs : List AV} {vs : Array Value} (h : RelL φ M w xs vs.toList) (off n : Nat) : RelL φ M w ((xs.drop off).take n) (vs.extract off (off + n)).toList := by
  have : (vs.extract off (off + n)).toList = (vs.toList.drop off).take n := by simp [Array.toList_extract, List.extract_eq_take_drop]
  rw [this]
  exact (h.drop off).take n

/-- How two values of a type compare that is told by 'flatEq'. -/
def EqGood (P : Program) (t : TypeId) (ks : List Bool) (D : Nat) : Prop :=
  ∀ (φ : Nat → Option (Nat × Nat)) (M : Nat → Prop) (w : World) (xs ys : List AV) (r : Bool), eqK ks xs ys = some r →
    (lowAgg P t = some true → ∀ vs us : Array Value, RelL φ M w xs vs.toList → RelL φ M w ys us.toList → (Op.equalIn D t (.agg vs) (.agg us)).run P w = .ok r w) ∧
    (lowAgg P t = some false → ∀ (x y : AV) (v u : Value), xs = [x] → ys = [y] → Rel φ M w x v → Rel φ M w y u → (Op.equalIn D t v u).run P w = .ok r w)

theorem eqFields_good {rec : TypeId → Option (List Bool)} {D : Nat} (hrec : ∀ t ks, rec t = some ks → EqGood P t ks D) : ∀ (fs : List Field) (n : Nat) (ks : List Bool), flatFields P rec fs n = some ks →
    ∀ (φ : Nat → Option (Nat × Nat)) (M : Nat → Prop) (w : World) (xs ys : List AV) (vs us : Array Value), RelL φ M w xs vs.toList → RelL φ M w ys us.toList → ∀ r, eqK ks (xs.drop n) (ys.drop n) = some r →
      (Op.eqFields D vs us fs).run P w = .ok r w := by
  intro fs
  induction fs with
  | nil =>
    intro n ks h φ M w xs ys vs us hx hy r hr
    simp [flatFields] at h; subst h
    cases h1 : xs.drop n with
    | nil =>
      cases h2 : ys.drop n with
      | nil => rw [h1, h2] at hr; simp [eqK] at hr; subst hr; simp [Op.eqFields]
      | cons => rw [h1, h2] at hr; simp [eqK] at hr
    | cons => rw [h1] at hr; simp [eqK] at hr
  | cons f fs ih =>
    intro n ks h φ M w xs ys vs us hx hy r hr
    simp only [flatFields] at h
    split at h
    · cases h
    · rename_i hc
      obtain ⟨l, h1, h⟩ := Option.bind_eq_some_iff.1 h
      split at h
      · rename_i hsz
        obtain ⟨ks', h2, rfl⟩ := Option.map_eq_some_iff.1 h
        obtain ⟨r1, r2, g1, g2, rfl⟩ := eqK_split _ _ _ _ _ hr
        have hname : f.name ≠ "_" := fun e => hc (.inl e)
        have hoff : f.offset = n := by
          by_cases e : f.offset = n
          · exact e
          · exact absurd (.inr e) hc
        rw [List.drop_drop, List.drop_drop] at g2
        have hrest := ih (n + l.length) ks' h2 φ M w xs ys vs us hx hy r2 g2
        have hgood := hrec f.type l h1 φ M w _ _ r1 g1
        simp only [Op.eqFields, hname, ne_eq, not_false_eq_true, if_true, Sem.run_bind]
        rcases hsz.2 with hb | ⟨hb, hl1⟩
        · have e1 := run_part_agg (w := w) hb hsz.1 vs f.offset
          have e2 := run_part_agg (w := w) hb hsz.1 us f.offset
          have e3 := hgood.1 hb _ _ (hx.extract n l.length) (hy.extract n l.length)
          rw [hoff] at e1 e2
          simp only [hoff, e1, e2, e3, Result.andThen_ok]
          cases r1 <;> simp [hrest]
        · have one : ∀ (zs : List AV) (ws : Array Value), RelL φ M w zs ws.toList → (∃ z, ((zs.drop n).take l.length) = [z]) → ∃ z v, (zs.drop n).take l.length = [z] ∧ ws[n]? = some v ∧ Rel φ M w z v := by
            intro zs ws hz ⟨z, hzz⟩
            have h0 : zs[n]? = some z := by
              have : ((zs.drop n).take l.length)[0]? = some z := by rw [hzz]; rfl
              rw [List.getElem?_take, hl1, if_pos (by omega), List.getElem?_drop] at this
              simpa using this
            obtain ⟨v, hv, hrel⟩ := hz.at h0
            exact ⟨z, v, hzz, by rw [← Array.getElem?_toList]; exact hv, hrel⟩
          have sing : ∀ (k1 : List Bool) (a b : List AV) (r : Bool), k1.length = 1 → eqK k1 a b = some r → (∃ z, a = [z]) ∧ ∃ z, b = [z] := by
            intro k1 a b r hk h
            cases k1 with
            | nil => simp at hk
            | cons k k1 =>
              have : k1 = [] := List.eq_nil_of_length_eq_zero (by simpa using hk)
              subst this
              cases a with
              | nil => simp [eqK] at h
              | cons x a =>
                cases b with
                | nil => simp [eqK] at h
                | cons y b =>
                  simp only [eqK, Option.bind_eq_some_iff, Option.map_eq_some_iff] at h
                  obtain ⟨_, _, r', h', _⟩ := h
                  cases a with
                  | nil =>
                    cases b with
                    | nil => exact ⟨⟨x, rfl⟩, ⟨y, rfl⟩⟩
                    | cons => simp [eqK] at h'
                  | cons => simp [eqK] at h'
          obtain ⟨s1, s2⟩ := sing l _ _ r1 hl1 g1
          obtain ⟨x, v, a1, a2, a3⟩ := one xs vs hx s1
          obtain ⟨y, u, b1, b2, b3⟩ := one ys us hy s2
          have e1 := run_part_one (P := P) (w := w) hb (off := f.offset) (by rw [hoff]; exact a2)
          have e2 := run_part_one (P := P) (w := w) hb (off := f.offset) (by rw [hoff]; exact b2)
          have e3 := hgood.2 hb x y v u a1 b1 a3 b3
          simp only [e1, e2, e3, Result.andThen_ok]
          cases r1 <;> simp [hrest]
      · cases h

theorem eqItems_good {e : TypeId} {k0 : IntKind} (he : P.underlying e = some (.int k0)) (hsz : P.cellsOf e = 1) (D : Nat) {xs ys : List AV} {vs us : Array Value}
    (hx : RelL φ M w xs vs.toList) (hy : RelL φ M w ys us.toList) : ∀ (m n : Nat) (r : Bool), eqK (List.replicate m true) (xs.drop n) (ys.drop n) = some r →
      (Op.eqItems (D + 1) e 1 vs us (List.range' n m)).run P w = .ok r w := by
  have hagg : lowAgg P e = some false := by simp [lowAgg, he]
  intro m
  induction m with
  | zero =>
    intro n r h
    cases h1 : xs.drop n with
    | nil =>
      cases h2 : ys.drop n with
      | nil => rw [h1, h2] at h; simp [eqK] at h; subst h; simp [Op.eqItems]
      | cons => rw [h1, h2] at h; simp [eqK] at h
    | cons => rw [h1] at h; simp [eqK] at h
  | succ m ih =>
    intro n r h
    rw [List.replicate_succ] at h
    cases h1 : xs.drop n with
    | nil => rw [h1] at h; simp [eqK] at h
    | cons x xs' =>
      cases h2 : ys.drop n with
      | nil => rw [h1, h2] at h; simp [eqK] at h
      | cons y ys' =>
        rw [h1, h2] at h
        simp only [eqK, Option.bind_eq_some_iff, Option.map_eq_some_iff] at h
        obtain ⟨b, hb, r', hr', rfl⟩ := h
        obtain ⟨k, p, q, rfl, rfl, rfl⟩ := eqC1_int hb
        have g1 : xs[n]? = some (.d (.int k p)) := by
          have : (xs.drop n)[0]? = some (.d (.int k p)) := by rw [h1]; rfl
          simpa using this
        have g2 : ys[n]? = some (.d (.int k q)) := by
          have : (ys.drop n)[0]? = some (.d (.int k q)) := by rw [h2]; rfl
          simpa using this
        obtain ⟨v, hv, hvr⟩ := hx.at g1
        obtain ⟨u, hu, hur⟩ := hy.at g2
        have ev := hvr.int_inv
        have eu := hur.int_inv
        subst ev; subst eu
        have e1 := run_part_one (P := P) (w := w) hagg (cs := vs) (off := n * 1) (by rw [Nat.mul_one, ← Array.getElem?_toList]; exact hv)
        have e2 := run_part_one (P := P) (w := w) hagg (cs := us) (off := n * 1) (by rw [Nat.mul_one, ← Array.getElem?_toList]; exact hu)
        have hxs : xs.drop (n + 1) = xs' := by rw [← List.drop_drop, h1]; rfl
        have hys : ys.drop (n + 1) = ys' := by rw [← List.drop_drop, h2]; rfl
        have hrest := ih (n + 1) r' (by rw [hxs, hys]; exact hr')
        simp only [List.range'_succ, Op.eqItems, Sem.run_bind, e1, e2, Result.andThen_ok, run_equalIn_int w D e k k0 p q he]
        by_cases hpq : p = q
        · simp [hpq, hrest]
        · simp [hpq]

theorem flatEq_good : ∀ (d : Nat) (t : TypeId) (ks : List Bool), flatEq P d t = some ks → ∀ D, d ≤ D → EqGood P t ks (D + 1) := by
  intro d
  induction d with
  | zero => intro t ks h; simp [flatEq] at h
  | succ d ih =>
    intro t ks h D hD φ M w xs ys r hr
    simp only [flatEq] at h
    split at h
    · rename_i k hu
      simp only [Option.some.injEq] at h; subst h
      refine ⟨fun ha => by simp [lowAgg, hu] at ha, fun _ x y v u hx hy hv hu' => ?_⟩
      subst hx; subst hy
      simp only [eqK, Option.bind_eq_some_iff, Option.map_eq_some_iff] at hr
      obtain ⟨b, hb, r', hr', rfl⟩ := hr
      simp at hr'; subst hr'
      obtain ⟨k', p, q, rfl, rfl, rfl⟩ := eqC1_int hb
      have ev := hv.int_inv
      have eu := hu'.int_inv
      subst ev; subst eu
      rw [run_equalIn_int w D t k' k p q hu]; simp; rfl
    · rename_i hu
      simp only [Option.some.injEq] at h; subst h
      refine ⟨fun ha => by simp [lowAgg, hu] at ha, fun _ x y v u hx hy hv hu' => ?_⟩
      subst hx; subst hy
      simp only [eqK, Option.bind_eq_some_iff, Option.map_eq_some_iff] at hr
      obtain ⟨b, hb, r', hr', rfl⟩ := hr
      simp at hr'; subst hr'
      obtain ⟨p, q, rfl, rfl, rfl⟩ := eqC1_bool hb
      have ev := Rel.bool_inv hv
      have eu := Rel.bool_inv hu'
      subst ev; subst eu
      rw [run_equalIn_bool' w D t p q hu]; simp
    · rename_i fs hu
      split at h
      · cases h
      · rename_i hst
        refine ⟨fun _ vs us hx hy => ?_, fun ha => by simp [lowAgg, hu] at ha⟩
        have hf : P.fieldsOf t = fs := by simp [Program.fieldsOf, hu]
        obtain ⟨D', rfl⟩ : ∃ D', D = D' + 1 := ⟨D - 1, by omega⟩
        rw [run_equalIn_agg w (D' + 1) t vs us (by rw [hf]; exact hu) (by simpa using hst), hf]
        exact eqFields_good (fun t ks h => ih t ks h D' (by omega)) fs.toList 0 ks h φ M w xs ys vs us hx hy r (by simpa using hr)
    · rename_i len e hu
      split at h
      · rename_i k0 he
        split at h
        · rename_i hc
          simp only [Option.some.injEq] at h; subst h
          refine ⟨fun _ vs us hx hy => ?_, fun ha => by simp [lowAgg, hu] at ha⟩
          obtain ⟨i, hi⟩ := Option.isSome_iff_exists.1 hc.2
          have hcell : P.cellsOf e = 1 := by
            have := hc.1
            simp [lowSz, hi] at this
            simp [Program.cellsOf, hi, this]
          obtain ⟨D', rfl⟩ : ∃ D', D = D' + 1 := ⟨D - 1, by omega⟩
          rw [run_equalIn_array w (D' + 1) vs us hu hi, hcell, List.range_eq_range']
          exact eqItems_good he hcell D' hx hy len 0 r (by simpa using hr)
        · cases h
      · cases h
    · cases h

theorem run_equalIn_nilFunc (d : Nat) {t : TypeId} {ps rs : Array TypeId} {vr : Bool} (hu : P.underlying t = some (.func ps rs vr)) : (Op.equalIn (d + 1) t .nilFunc .nilFunc).run P w = .ok true w := by
  simp only [Op.equalIn, Sem.run_bind, run_underlying hu, Result.andThen_ok, Sem.run_pure]

theorem run_equalIn_nilFunc_left (d : Nat) {t : TypeId} {ps rs : Array TypeId} {vr : Bool} (hu : P.underlying t = some (.func ps rs vr)) (f : Fn) (a c : Array Value) :
    (Op.equalIn (d + 1) t .nilFunc (.func f a c)).run P w = .ok false w := by
  simp only [Op.equalIn, Sem.run_bind, run_underlying hu, Result.andThen_ok, Sem.run_pure]

theorem run_equalIn_nilFunc_right (d : Nat) {t : TypeId} {ps rs : Array TypeId} {vr : Bool} (hu : P.underlying t = some (.func ps rs vr)) (f : Fn) (a c : Array Value) :
    (Op.equalIn (d + 1) t (.func f a c) .nilFunc).run P w = .ok false w := by
  simp only [Op.equalIn, Sem.run_bind, run_underlying hu, Result.andThen_ok, Sem.run_pure]

theorem run_eq_op {op : BinOp} {neg : Bool} (hop : op = if neg then .neq else .eql) {t : TypeId} {pl : EqPlan} (hp : eqPlan P t = some pl) {xo yo : Operand} {x y : AV} {vx vy : Value}
    (hx : Rel φ M w x vx) (hy : Rel φ M w y vy) {b : Bool} (h : eqV pl x y = some b) :
    (do eqGuard op t xo yo vx vy; binOp op t vx vy : Sem Value).run P w = .ok (.bool (if neg then !b else b)) w := by
  have fin : ∀ {u v : Value} {c : Bool}, (Op.equalIn 10000 t u v).run P w = .ok c w → (eqGuard op t xo yo u v).run P w = .ok () w → (binOp op t u v = if neg then (do pure (.bool (!(← Op.equal t u v)))) else (do pure (.bool (← Op.equal t u v)))) →
      (do eqGuard op t xo yo u v; binOp op t u v : Sem Value).run P w = .ok (.bool (if neg then !c else c)) w := by
    intro u v c h1 h2 h3
    rw [Sem.run_bind, h2, h3]
    cases neg <;> simp [Op.equal, Op.maxDepth, h1]
  have flat : ∀ ks, pl = .flat ks → P.eqGuardType P.depth t = false → flatEq P 8 t = some ks → lowAgg P t = some true →
      (do eqGuard op t xo yo vx vy; binOp op t vx vy : Sem Value).run P w = .ok (.bool (if neg then !b else b)) w := by
    intro ks hpl hg hfl hagg
    subst hpl
    simp only [eqV] at h
    split at h
    · rename_i xs ys
      obtain ⟨vs, rfl, hrx⟩ := hx.agg_inv
      obtain ⟨us, rfl, hry⟩ := hy.agg_inv
      refine fin ((flatEq_good 8 t ks hfl 9999 (by omega) φ M w xs ys b h).1 hagg vs us hrx hry) (run_eqGuard_agg w op t xo yo vs us hg) ?_
      subst hop; cases neg <;> rfl
    · cases h
  unfold eqPlan at hp
  split at hp
  · rename_i hu
    simp only [Option.some.injEq] at hp; subst hp
    simp only [eqV] at h
    split at h
    · rename_i a c
      have e1 := Rel.bool_inv hx
      have e2 := Rel.bool_inv hy
      subst e1; subst e2
      simp only [Option.some.injEq] at h; subst h
      refine fin (run_equalIn_bool' w 9999 t a c hu) (by rw [eqGuard_at_bool]; rfl) ?_
      subst hop; cases neg <;> rfl
    · cases h
  · rename_i hu
    simp only [Option.some.injEq] at hp; subst hp
    simp only [eqV] at h
    split at h <;> (try (cases h; done)) <;> simp only [Option.some.injEq] at h <;> subst h
    · cases hx with
      | d _ _ hx =>
        cases hy with
        | d _ _ hy =>
          cases hx; cases hy
          refine fin (run_equalIn_nilFunc 9999 hu) (by rw [eqGuard_at_nilFunc]; rfl) ?_
          subst hop; cases neg <;> rfl
    · cases hx with
      | d _ _ hx =>
        cases hy with
        | d _ _ hy =>
          cases hx; cases hy
          refine fin (run_equalIn_nilFunc_left 9999 hu _ _ _) (by rw [eqGuard_at_nilFunc]; rfl) ?_
          subst hop; cases neg <;> rfl
    · cases hx with
      | d _ _ hx =>
        cases hy with
        | clo f caps vs hl hh =>
          cases hx
          refine fin (run_equalIn_nilFunc_left 9999 hu _ _ _) (by rw [eqGuard_at_nilFunc]; rfl) ?_
          subst hop; cases neg <;> rfl
    · cases hx with
      | d _ _ hx =>
        cases hy with
        | d _ _ hy =>
          cases hx; cases hy
          refine fin (run_equalIn_nilFunc_right 9999 hu _ _ _) (by rw [eqGuard_at_func]; rfl) ?_
          subst hop; cases neg <;> rfl
    · cases hx with
      | clo f caps vs hl hh =>
        cases hy with
        | d _ _ hy =>
          cases hy
          refine fin (run_equalIn_nilFunc_right 9999 hu _ _ _) (by rw [eqGuard_at_func]; rfl) ?_
          subst hop; cases neg <;> rfl
  · rename_i fs hu
    split at hp
    · cases hp
    · rename_i hg
      obtain ⟨ks, hk, rfl⟩ := Option.map_eq_some_iff.1 hp
      exact flat ks rfl (by simpa using hg) hk (by simp [lowAgg, hu])
  · rename_i n e hu
    split at hp
    · cases hp
    · rename_i hg
      obtain ⟨ks, hk, rfl⟩ := Option.map_eq_some_iff.1 hp
      exact flat ks rfl (by simpa using hg) hk (by simp [lowAgg, hu])
  · cases hp

/-- The builtin copy. -/
theorem run_copy_op (hs : SimH A φ H w) {t T : TypeId} {e : TypeId} {sz : Nat} (h1 : P.underlying t = some (.slice e)) (hsz : lowSz P e = some sz) {argTypes : Array TypeId}
    (a1 : argTypes[0]? = some t) {x y : AV} {vx vy : Value} (hx : Rel φ (Mb A φ H) w x vx) (hy : Rel φ (Mb A φ H) w y vy) {k : Delta → Prop} (h : actCopy H sz x y k) :
    ∃ (w' : World) (v : Value) (z : DV) (id : Nat) (o : HO) (ids : List Nat), (Builtin.copy_ argTypes T #[vx, vy]).run P w = .ok v w' ∧ SimH A φ (H.set id o) w' ∧ Onward A φ H w φ (H.set id o) w' ∧
      RelD (Mb A φ (H.set id o)) w' z v ∧ k ⟨.d z, [(id, o)], ids⟩ := by
  unfold actCopy at h
  split at h
  · rename_i id sz0 row len room
    obtain ⟨s, i2, o, hsrc, hrow, hleaf, ⟨d, i1, hd⟩, hsp, hk⟩ := h
    obtain ⟨as, caps, vs, es, gs, fs⟩ := src_run (P := P) hs hy hsrc hrow
    have hleaf' : ∀ r ∈ s.all, ∀ z ∈ r, AV.leaf z = true := by
      intro r hr z hz
      cases s with
      | rows l => exact List.all_eq_true.1 (List.all_eq_true.1 hleaf r hr) z hz
      | drows l =>
        simp only [Src.all, List.mem_map] at hr
        obtain ⟨r', _, rfl⟩ := hr
        simp only [List.mem_map] at hz
        obtain ⟨z', _, rfl⟩ := hz
        rfl
    have hdst : ∃ rows, (H.at id).rows = some (sz, rows) ∧ sz0 = sz ∧ row + len ≤ rows.length := by
      simp only [srcOf] at hd
      split at hd
      · rename_i sz2 rows hat
        split at hd
        · rename_i hc
          obtain ⟨rfl, rfl, e3⟩ := hc
          exact ⟨rows, by rw [hat]; rfl, rfl, e3⟩
        · cases hd
      · rename_i sz2 rows hat
        split at hd
        · rename_i hc
          obtain ⟨rfl, rfl, e3⟩ := hc
          exact ⟨_, by rw [hat]; rfl, rfl, by simpa using e3⟩
        · cases hd
      · cases hd
    obtain ⟨rows, hro, rfl, hfitr⟩ := hdst
    generalize hm : min len s.len = m at hsp hk
    have hmle : m ≤ len ∧ m ≤ s.len := by omega
    have horows : o.rows = some (sz0, rows.take row ++ s.all.take m ++ rows.drop (row + m)) := by
      cases hat : H.at id with
      | dead => rw [hat] at hro; cases hro
      | vec sz2 rows2 =>
        rw [hat] at hro hsp
        simp only [HO.rows, Option.some.injEq, Prod.mk.injEq] at hro
        obtain ⟨rfl, rfl⟩ := hro
        simp only [HO.splice, Option.some.injEq] at hsp
        subst hsp; rfl
      | dvec sz2 rows2 =>
        rw [hat] at hro hsp
        simp only [HO.rows, Option.some.injEq, Prod.mk.injEq] at hro
        obtain ⟨rfl, rfl⟩ := hro
        cases s with
        | rows l => simp [HO.splice] at hsp
        | drows l =>
          simp only [HO.splice, Option.some.injEq] at hsp
          subst hsp
          simp [HO.rows, Src.all, List.map_take, List.map_drop]
    have hf := fs m hmle.2
    have hvl : (vs.take (m * sz0)).length = m * sz0 := by
      have := gs.len
      rw [← srcOf_len hsrc] at this
      have h2 := Nat.mul_le_mul_right sz0 hmle.2
      simp; omega
    have runC : ∀ (a : Option Addr) (cap : Nat) (w2 : World), vx = .slice a len cap → ((match a with | some a => storeCells a (vs.take (m * sz0)) | none => pure ()).run P w = .ok () w2) →
        (Builtin.copy_ argTypes T #[vx, vy]).run P w = .ok (.int .i64 m) w2 := by
      intro a cap w2 e1 e2
      subst e1
      have hmin : Nat.min s.len len = m := by rw [← hm]; exact Nat.min_comm _ _
      rw [es] at hf ⊢
      cases a <;> simp [Builtin.copy_, a1, run_underlying h1, Builtin.lenOf, hmin, run_sizeOf hsz, hf, goInt] at e2 ⊢
      · exact e2
      · simp [e2]
    have hid : id < H.length := Heap.at_lt (HO.alive_rows.2 ⟨_, _, hro⟩)
    cases hx with
    | ref0 _ _ _ _ a =>
      have hm0 : m = 0 := by omega
      subst hm0
      have hrows : rows.take row ++ s.all.take 0 ++ rows.drop (row + 0) = rows := by simp
      rw [hrows] at horows
      have hrun := runC a 0 w rfl (by cases a <;> simp [storeCells])
      -- the object has the rows that it had
      cases hφ : φ id with
      | none =>
        have hr0 : rows = [] := by
          by_cases h0 : rows = []
          · exact h0
          · obtain ⟨b, o', hb⟩ := hs.there id sz0 rows hro h0
            rw [hφ] at hb; cases hb
        subst hr0
        obtain ⟨hs2, hon2⟩ := hs.void hid hφ horows
        exact ⟨_, _, _, id, o, _, hrun, hs2, hon2, .int _ _, hk⟩
      | some p =>
        obtain ⟨b, o'⟩ := p
        have hal := HO.alive_rows.2 ⟨_, _, hro⟩
        obtain ⟨c, T', e1, e2, e3, e4⟩ := hs.objs id b o' hal hφ sz0 rows hro
        obtain ⟨hs2, hon2⟩ := hs.change hal hφ e1 (c' := c) rfl horows e2 e3 e4
        rw [setBlock_same e1] at hs2 hon2
        exact ⟨_, _, _, id, o, _, hrun, hs2, hon2, .int _ _, hk⟩
    | ref _ _ _ _ b o' cap _ c T' hb hcap hroom' hheap hfit =>
      have hal := HO.alive_rows.2 ⟨_, _, hro⟩
      obtain ⟨c1, T1, e1, e2, e3, e4⟩ := hs.objs id b o' hal hb sz0 rows hro
      rw [hheap] at e1; cases e1
      have m1 := Nat.mul_le_mul_right sz0 (show row + m ≤ rows.length by omega)
      rw [Nat.add_mul] at m1
      have hst := run_storeCells (P := P) (vs.take (m * sz0)) w b (o' + row * sz0) 0 c T' hheap (by rw [hvl]; omega) (fun v hv => gs.one hleaf' v (List.mem_of_mem_take hv))
      have hrun := runC _ cap _ rfl hst
      have hlen2 : (rows.take row ++ s.all.take m ++ rows.drop (row + m)).length = rows.length := by
        have := srcOf_len hsrc
        simp; omega
      obtain ⟨hs2, hon2⟩ := hs.change hal hb hheap (c' := arrPut c (o' + row * sz0 + 0) (vs.take (m * sz0))) (arrPut_size _ _ _) horows (by rw [hlen2]; exact e2)
        (fun r hr => by
          rcases List.mem_append.1 hr with hr | hr
          · rcases List.mem_append.1 hr with hr | hr
            · exact e3 r (List.mem_of_mem_take hr)
            · exact hrow r (List.mem_of_mem_take hr)
          · exact e3 r (List.mem_of_mem_drop hr))
        (fun kk q j z hq hz => by
          have hsl := srcOf_len hsrc
          have hlt := lt_of_get hq
          rw [hlen2] at hlt
          have hrowlen : ∀ r, r ∈ rows.take row ++ s.all.take m ++ rows.drop (row + m) → r.length = sz0 := fun r hr => by
            rcases List.mem_append.1 hr with hr | hr
            · rcases List.mem_append.1 hr with hr | hr
              · exact e3 r (List.mem_of_mem_take hr)
              · exact hrow r (List.mem_of_mem_take hr)
            · exact e3 r (List.mem_of_mem_drop hr)
          have hj : j < sz0 := by have := lt_of_get hz; rw [hrowlen q (List.mem_of_getElem? hq)] at this; exact this
          rw [arrPut_get _ _ _ _ (by rw [hvl]; omega), hvl]
          rw [List.append_assoc, List.getElem?_append] at hq
          simp only [List.length_take, Nat.min_eq_left (show row ≤ rows.length by omega)] at hq
          by_cases c1 : kk < row
          · rw [if_pos c1, List.getElem?_take, if_pos c1] at hq
            have := cell_lt c1 hj
            rw [if_neg (by omega)]
            exact e4 kk q j z hq hz
          · rw [if_neg c1, List.getElem?_append] at hq
            simp only [List.length_take, Nat.min_eq_left (show m ≤ s.all.length by omega)] at hq
            have m3 := Nat.mul_le_mul_right sz0 (show row ≤ kk by omega)
            by_cases c2 : kk - row < m
            · rw [if_pos c2, List.getElem?_take, if_pos c2] at hq
              obtain ⟨v, hv, hrel⟩ := gs.get (kk - row) q j z hq hz
              have := cell_lt c2 hj
              rw [Nat.sub_mul] at hv this
              rw [if_pos (by omega), show o' + kk * sz0 + j - (o' + row * sz0 + 0) = kk * sz0 - row * sz0 + j by omega, List.getElem?_take, if_pos (by omega)]
              exact ⟨v, hv, hrel⟩
            · rw [if_neg c2, List.getElem?_drop] at hq
              rw [show row + m + (kk - row - m) = kk by omega] at hq
              have m4 := Nat.mul_le_mul_right sz0 (show row + m ≤ kk by omega)
              rw [Nat.add_mul] at m4
              rw [if_neg (by omega)]
              exact e4 kk q j z hq hz)
      exact ⟨_, _, _, id, o, _, hrun, hs2, hon2, .int _ _, hk⟩
  · exact h.elim

end
end Go.Ago
