/- Lists of related cells, and the runs of those operations that leave the world alone. Conditions: none. -/
import Derived.Test.YtlphhmgfjdecjaaAgo7
set_option linter.unusedSimpArgs false
set_option linter.unusedVariables false
namespace Go.Ago

section
variable {φ : Nat → Option (Nat × Nat)} {M : Nat → Prop} {w : World} {P : Program}

/-- Two lists, cell by cell. -/
structure RelL (φ : Nat → Option (Nat × Nat)) (M : Nat → Prop) (w : World) (xs : List AV) (vs : List Value) : Prop where
  len : vs.length = xs.length
  get : ∀ (i : Nat) (x : AV) (v : Value), xs[i]? = some x → vs[i]? = some v → Rel φ M w x v

theorem RelL.nil : RelL φ M w [] [] := ⟨rfl, fun i x v h => by simp at h⟩

theorem RelL.take {xs : List AV} {vs : List Value} (h : RelL φ M w xs vs) (n : Nat) : RelL φ M w (xs.take n) (vs.take n) := by
  refine ⟨by simp [h.len], fun i x v h1 h2 => ?_⟩
  rw [List.getElem?_take] at h1 h2
  split at h1
  · rename_i hi; rw [if_pos hi] at h2; exact h.get i x v h1 h2
  · cases h1

theorem RelL.drop {xs : List AV} {vs : List Value} (h : RelL φ M w xs vs) (n : Nat) : RelL φ M w (xs.drop n) (vs.drop n) := by
  refine ⟨by simp [h.len], fun i x v h1 h2 => ?_⟩
  rw [List.getElem?_drop] at h1 h2
  exact h.get _ x v h1 h2

theorem RelL.append {xs ys : List AV} {vs us : List Value} (h : RelL φ M w xs vs) (h' : RelL φ M w ys us) : RelL φ M w (xs ++ ys) (vs ++ us) := by
  refine ⟨by simp [h.len, h'.len], fun i x v h1 h2 => ?_⟩
  rw [List.getElem?_append] at h1 h2
  rw [h.len] at h2
  split at h1
  · rename_i hi; rw [if_pos hi] at h2; exact h.get i x v h1 h2
  · rename_i hi; rw [if_neg hi] at h2; exact h'.get _ x v h1 h2

theorem RelL.putRow {xs ys : List AV} {vs us : List Value} (h : RelL φ M w xs vs) (h' : RelL φ M w ys us) (j : Nat) : RelL φ M w (Ago.putRow j ys xs) (Ago.putRow j us vs) := by
  unfold Ago.putRow
  rw [h'.len]
  exact ((h.take j).append h').append (h.drop _)

theorem RelL.at {xs : List AV} {vs : List Value} (h : RelL φ M w xs vs) {i : Nat} {x : AV} (hx : xs[i]? = some x) : ∃ v, vs[i]? = some v ∧ Rel φ M w x v := by
  have hi : i < vs.length := by
    rw [h.len]
    rcases Nat.lt_or_ge i xs.length with hl | hl
    · exact hl
    · rw [List.getElem?_eq_none hl] at hx; cases hx
  exact ⟨vs[i], List.getElem?_eq_getElem hi, h.get i x _ hx (List.getElem?_eq_getElem hi)⟩

theorem Rel.agg_inv {cs : List AV} {v : Value} (h : Rel φ M w (.agg cs) v) : ∃ vs : Array Value, v = .agg vs ∧ RelL φ M w cs vs.toList := by
  cases h with
  | agg cells vs hl h => exact ⟨vs, rfl, by simpa using hl, fun i x v h1 h2 => h i x v h1 (by simpa using h2)⟩

theorem Rel.tup_inv {cs : List AV} {v : Value} (h : Rel φ M w (.tup cs) v) : ∃ vs : Array Value, v = .tuple vs ∧ RelL φ M w cs vs.toList := by
  cases h with
  | tup cells vs hl h => exact ⟨vs, rfl, by simpa using hl, fun i x v h1 h2 => h i x v h1 (by simpa using h2)⟩

theorem RelL.agg {cs : List AV} {vs : List Value} (h : RelL φ M w cs vs) : Rel φ M w (.agg cs) (.agg vs.toArray) :=
  .agg cs vs.toArray (by simpa using h.len) (fun i x v h1 h2 => h.get i x v h1 (by simpa using h2))

theorem RelL.agg' {cs : List AV} {vs : Array Value} (h : RelL φ M w cs vs.toList) : Rel φ M w (.agg cs) (.agg vs) :=
  .agg cs vs (by simpa using h.len) (fun i x v h1 h2 => h.get i x v h1 (by simpa using h2))

theorem Rel.int_inv {k : IntKind} {n : Int} {v : Value} (h : Rel φ M w (.d (.int k n)) v) : v = .int k n := by
  cases h with
  | d x v h => cases h; rfl

theorem Rel.leaf_one {x : AV} {v : Value} (h : Rel φ M w x v) (hl : x.leaf = true) : v.oneCell' = true := by
  cases h with
  | d x v h => cases h <;> rfl
  | undef v => cases hl
  | agg => cases hl
  | tup => cases hl
  | _ => rfl

theorem Rel.leaf_cells {x : AV} {v : Value} (h : Rel φ M w x v) (hl : x.leaf = true) : v.cells = #[v] := by
  have := h.leaf_one hl
  cases v <;> first | rfl | (simp [Value.oneCell'] at this)

/-- The cells of a value. -/
theorem cellsOf_rel {x : AV} {v : Value} {cs : List AV} (h : Rel φ M w x v) (hc : x.cellsOf = some cs) :
    RelL φ M w cs v.cells.toList ∧ (∀ u ∈ v.cells.toList, u.oneCell' = true) ∧ cs.all AV.leaf = true := by
  have single : ∀ (y : AV), y = x → y.leaf = true → cs = [y] → RelL φ M w cs v.cells.toList ∧ (∀ u ∈ v.cells.toList, u.oneCell' = true) ∧ cs.all AV.leaf = true := by
    intro y hy hl hcs
    subst hy
    rw [h.leaf_cells hl, hcs]
    refine ⟨⟨rfl, fun i z u h1 h2 => ?_⟩, fun u hu => ?_, by simp [hl]⟩
    · cases i with
      | zero => simp at h1 h2; subst h1; subst h2; exact h
      | succ i => simp at h1
    · simp at hu; subst hu; exact h.leaf_one hl
  cases x with
  | agg l =>
    simp only [AV.cellsOf] at hc
    split at hc
    · rename_i hall
      simp only [Option.some.injEq] at hc; subst hc
      obtain ⟨vs, rfl, hr⟩ := h.agg_inv
      refine ⟨hr, fun u hu => ?_, hall⟩
      obtain ⟨i, hi, hu'⟩ := List.mem_iff_getElem.1 hu
      have hi' : i < l.length := by rw [← hr.len]; exact hi
      have hi2 : i < vs.toList.length := hi
      have := hr.get i l[i] u (List.getElem?_eq_getElem hi') (by rw [List.getElem?_eq_getElem hi2]; exact congrArg some hu')
      exact this.leaf_one (List.all_eq_true.1 hall _ (List.getElem_mem hi'))
    · cases hc
  | undef => cases hc
  | tup => cases hc
  | d y => simp [AV.cellsOf] at hc; exact single (.d y) rfl rfl hc.symm
  | ptr => simp [AV.cellsOf] at hc; exact single _ rfl rfl hc.symm
  | dptr => simp [AV.cellsOf] at hc; exact single _ rfl rfl hc.symm
  | ref => simp [AV.cellsOf] at hc; exact single _ rfl rfl hc.symm
  | clo => simp [AV.cellsOf] at hc; exact single _ rfl rfl hc.symm
  | mref => simp [AV.cellsOf] at hc; exact single _ rfl rfl hc.symm

theorem zeroA_spec {t : TypeId} {z : List AV} (h : zeroA P t = some z) :
    ∃ (i : TypeInfo) (v : Value), P.info? t = some i ∧ i.zero = some v ∧ i.size = z.length ∧ (∀ (φ : Nat → Option (Nat × Nat)) (M : Nat → Prop) (w : World), RelL φ M w z v.cells.toList) ∧
      lowSz P t = some z.length ∧ z.all AV.leaf = true := by
  unfold zeroA at h
  obtain ⟨i, h1, h⟩ := Option.bind_eq_some_iff.1 h
  obtain ⟨v, h2, h⟩ := Option.bind_eq_some_iff.1 h
  obtain ⟨l, h3, h⟩ := Option.bind_eq_some_iff.1 h
  split at h
  · rename_i hlen
    simp only [Option.some.injEq] at h; subst h
    obtain ⟨g1, g2⟩ := cvals_get _ _ h3
    have hget : ∀ (j : Nat) (x : AV), l[j]? = some x → ∃ u, v.cells.toList[j]? = some u ∧ cval u = some x := by
      intro j x hx
      have hj : j < l.length := by
        rcases Nat.lt_or_ge j l.length with hl | hl
        · exact hl
        · rw [List.getElem?_eq_none hl] at hx; cases hx
      have hj' : j < v.cells.toList.length := by omega
      exact ⟨_, List.getElem?_eq_getElem hj', g2 j _ x (List.getElem?_eq_getElem hj') hx⟩
    refine ⟨i, v, h1, h2, hlen.symm, fun φ M w => ⟨g1.symm, fun j x u hx hu => ?_⟩, by simp [lowSz, h1, hlen], List.all_eq_true.2 fun x hx => ?_⟩
    · obtain ⟨u', hu', hc⟩ := hget j x hx
      rw [hu] at hu'; cases hu'
      exact (cval_rel hc).1
    · obtain ⟨j, hj, rfl⟩ := List.mem_iff_getElem.1 hx
      obtain ⟨u', hu', hc⟩ := hget j _ (List.getElem?_eq_getElem hj)
      exact (cval_rel (φ := fun _ => none) (M := fun _ => False) (w := default) hc).2
  · cases h

/-! ### Whole numbers -/
theorem run_bin {op : BinOp} {t : TypeId} {xo yo : Operand} {x y : AV} {vx vy : Value} (hx : Rel φ M w x vx) (hy : Rel φ M w y vy) {k : DV → Prop} (h : actBin op x y k) :
    ∃ v z, (do eqGuard op t xo yo vx vy; binOp op t vx vy : Sem Value).run P w = .ok v w ∧ RelD M w z v ∧ k z := by
  unfold actBin at h
  split at h
  · rename_i ka a kb b
    have e1 := hx.int_inv
    have e2 := hy.int_inv
    subst e1; subst e2
    cases op <;> simp only [binI] at h
    case add => obtain ⟨rfl, h⟩ := h; exact ⟨_, _, by simp [go_sem, Op.intArith], .int _ _, h⟩
    case sub => obtain ⟨rfl, h⟩ := h; exact ⟨_, _, by simp [go_sem, Op.intArith], .int _ _, h⟩
    case mul => obtain ⟨rfl, h⟩ := h; exact ⟨_, _, by simp [go_sem, Op.intArith], .int _ _, h⟩
    case quo => obtain ⟨rfl, h0, h⟩ := h; exact ⟨_, _, by simp [go_sem, Op.intDiv, h0]  , .int _ _, h⟩
    case rem => obtain ⟨rfl, h0, h⟩ := h; exact ⟨_, _, by simp [go_sem, Op.intDiv, h0]  , .int _ _, h⟩
    case and => obtain ⟨rfl, h⟩ := h; exact ⟨_, _, by simp [go_sem]  , .int _ _, h⟩
    case or => obtain ⟨rfl, h⟩ := h; exact ⟨_, _, by simp [go_sem]  , .int _ _, h⟩
    case xor => obtain ⟨rfl, h⟩ := h; exact ⟨_, _, by simp [go_sem]  , .int _ _, h⟩
    case andNot => obtain ⟨rfl, h⟩ := h; exact ⟨_, _, by simp [go_sem]  , .int _ _, h⟩
    case shl => obtain ⟨h0, h⟩ := h; exact ⟨_, _, by simp [go_sem, Op.shift, Int.not_lt.2 h0]  , .int _ _, h⟩
    case shr => obtain ⟨h0, h⟩ := h; exact ⟨_, _, by simp [go_sem, Op.shift, Int.not_lt.2 h0]  , .int _ _, h⟩
    case eql => obtain ⟨rfl, h⟩ := h; exact ⟨.bool (decide (a = b)), _, by simp only [eqGuard_at_int, pure_bind, binOp_eql]; rfl, .bool _, h⟩
    case neq => obtain ⟨rfl, h⟩ := h; exact ⟨.bool (!decide (a = b)), _, by simp only [eqGuard_at_int, pure_bind, binOp_neq]; rfl, .bool _, h⟩
    case lss => obtain ⟨rfl, h⟩ := h; exact ⟨_, _, by simp [go_sem]  , .bool _, h⟩
    case leq => obtain ⟨rfl, h⟩ := h; exact ⟨_, _, by simp [go_sem]  , .bool _, h⟩
    case gtr => obtain ⟨rfl, h⟩ := h; exact ⟨_, _, by simp [go_sem]  , .bool _, h⟩
    case geq => obtain ⟨rfl, h⟩ := h; exact ⟨_, _, by simp [go_sem]  , .bool _, h⟩
  · exact h.elim

theorem nan_order {k : FloatKind} {b : Nat} (h : (k.format.read b).isNaN = true) (c : Nat) : k.format.order b c = none ∧ k.format.order c b = none := by
  unfold Ieee.Format.order
  cases hb : k.format.read b with
  | nan s f => exact ⟨rfl, by cases k.format.read c <;> rfl⟩
  | number => rw [hb] at h; cases h
  | infinity => rw [hb] at h; cases h

theorem run_nanBin {op : BinOp} {t : TypeId} {xo yo : Operand} {k : FloatKind} {a b : Nat} {z : DV} (hn : k.format.order a b = none) (h : nanBin op = some z) :
    ∃ v, (do eqGuard op t xo yo (.float k a) (.float k b); binOp op t (.float k a) (.float k b) : Sem Value).run P w = .ok v w ∧ RelD M w z v := by
  cases op <;> simp only [nanBin] at h <;> try (cases h; done)
  all_goals (simp only [Option.some.injEq] at h; subst h; exact ⟨.bool _, by simp only [eqGuard_at_float, pure_bind]; simp [binOp, Op.floatCmp, hn], .bool _⟩)

theorem nan_bits (k : FloatKind) (x y t : Nat) : (k.format.read ((Question.nanBits k x y).cut t)).isNaN = true := by
  cases k with
  | f64 =>
    show (Ieee.double.read ((t % 2) * 2 ^ 63 + 0x7ff0000000000000 + 1 + (t / 2) % (2 ^ 52 - 1))).isNaN = true
    unfold Ieee.Format.read
    simp only [show Ieee.double.signWeight = 9223372036854775808 from rfl, show Ieee.double.binade = 4503599627370496 from rfl, show Ieee.double.infRung = 9218868437227405312 from rfl]
    have e : ((t % 2) * 2 ^ 63 + 0x7ff0000000000000 + 1 + (t / 2) % (2 ^ 52 - 1)) % 9223372036854775808 = 9218868437227405313 + (t / 2) % (2 ^ 52 - 1) := by omega
    rw [e, if_neg (by omega), if_neg (by omega), if_neg (by omega)]
    rfl
  | f32 =>
    show (Ieee.single.read ((t % 2) * 2 ^ 31 + 0x7f800000 + 1 + (t / 2) % (2 ^ 23 - 1))).isNaN = true
    unfold Ieee.Format.read
    simp only [show Ieee.single.signWeight = 2147483648 from rfl, show Ieee.single.binade = 8388608 from rfl, show Ieee.single.infRung = 2139095040 from rfl]
    have e : ((t % 2) * 2 ^ 31 + 0x7f800000 + 1 + (t / 2) % (2 ^ 23 - 1)) % 2147483648 = 2139095041 + (t / 2) % (2 ^ 23 - 1) := by omega
    rw [e, if_neg (by omega), if_neg (by omega), if_neg (by omega)]
    rfl

theorem run_fltBin {op : BinOp} {t : TypeId} {xo yo : Operand} {x y : AV} {vx vy : Value} (hx : Rel φ M w x vx) (hy : Rel φ M w y vy) {z : DV} (h : fltV (.bin op) x y = some z) :
    ∃ v w', (do eqGuard op t xo yo vx vy; binOp op t vx vy : Sem Value).run P w = .ok v w' ∧ (w' = w ∨ w' = w.drew) ∧ RelD M w' z v := by
  unfold fltV at h
  split at h
  case h_1 op' k a k' b he =>
    cases he
    split at h
    · rename_i e; subst e
      have e1 : vx = .float k a := by
        cases hx with
        | d _ _ h => cases h; rfl
      have e2 : vy = .float k b := by
        cases hy with
        | d _ _ h => cases h; rfl
      subst e1; subst e2
      cases op <;> simp only [fltBin] at h
      case add => obtain ⟨r, hr, rfl⟩ := Option.map_eq_some_iff.1 h; exact ⟨.float k r, w, by simp [go_sem, binOp, Op.floatArith, hr], .inl rfl, .flt _ _⟩
      case sub => obtain ⟨r, hr, rfl⟩ := Option.map_eq_some_iff.1 h; exact ⟨.float k r, w, by simp [go_sem, binOp, Op.floatArith, hr], .inl rfl, .flt _ _⟩
      case mul => obtain ⟨r, hr, rfl⟩ := Option.map_eq_some_iff.1 h; exact ⟨.float k r, w, by simp [go_sem, binOp, Op.floatArith, hr], .inl rfl, .flt _ _⟩
      case quo =>
        simp only [Option.some.injEq] at h; subst h
        cases hr : k.format.div a b with
        | some r => exact ⟨.float k r, w, by simp [go_sem, binOp, Op.floatArith, hr], .inl rfl, .flt _ _⟩
        | none => exact ⟨.float k ((Question.nanBits k a b).cut (w.tape w.drawn (.nanBits k a b))), w.drew, by simp [go_sem, binOp, Op.floatArith, hr, Question.forced], .inr rfl, .nan _ _ (nan_bits k a b _)⟩
      case eql => simp only [Option.some.injEq] at h; subst h; exact ⟨.bool _, w, by simp only [eqGuard_at_float, pure_bind]; simp [binOp, Op.floatCmp], .inl rfl, .bool _⟩
      case neq => simp only [Option.some.injEq] at h; subst h; exact ⟨.bool _, w, by simp only [eqGuard_at_float, pure_bind]; simp [binOp, Op.floatCmp], .inl rfl, .bool _⟩
      case lss => simp only [Option.some.injEq] at h; subst h; exact ⟨.bool _, w, by simp only [eqGuard_at_float, pure_bind]; simp [binOp, Op.floatCmp], .inl rfl, .bool _⟩
      case leq => simp only [Option.some.injEq] at h; subst h; exact ⟨.bool _, w, by simp only [eqGuard_at_float, pure_bind]; simp [binOp, Op.floatCmp], .inl rfl, .bool _⟩
      case gtr => simp only [Option.some.injEq] at h; subst h; exact ⟨.bool _, w, by simp only [eqGuard_at_float, pure_bind]; simp [binOp, Op.floatCmp], .inl rfl, .bool _⟩
      case geq => simp only [Option.some.injEq] at h; subst h; exact ⟨.bool _, w, by simp only [eqGuard_at_float, pure_bind]; simp [binOp, Op.floatCmp], .inl rfl, .bool _⟩
      all_goals cases h
    · cases h
  case h_2 op' k k' b he =>
    cases he
    split at h
    · rename_i e; subst e
      obtain ⟨a, e1, ha⟩ : ∃ a, vx = .float k a ∧ (k.format.read a).isNaN = true := by
        cases hx with
        | d _ _ h => cases h with | nan _ a h => exact ⟨a, rfl, h⟩
      have e2 : vy = .float k b := by
        cases hy with
        | d _ _ h => cases h; rfl
      subst e1; subst e2
      obtain ⟨v, h1, h2⟩ := run_nanBin (P := P) (M := M) (w := w) (t := t) (xo := xo) (yo := yo) (nan_order ha b).1 h
      exact ⟨v, w, h1, .inl rfl, h2⟩
    · cases h
  case h_3 op' k a k' he =>
    cases he
    split at h
    · rename_i e; subst e
      obtain ⟨b, e1, hb⟩ : ∃ a, vy = .float k a ∧ (k.format.read a).isNaN = true := by
        cases hy with
        | d _ _ h => cases h with | nan _ a h => exact ⟨a, rfl, h⟩
      have e2 : vx = .float k a := by
        cases hx with
        | d _ _ h => cases h; rfl
      subst e1; subst e2
      obtain ⟨v, h1, h2⟩ := run_nanBin (P := P) (M := M) (w := w) (t := t) (xo := xo) (yo := yo) (nan_order hb a).2 h
      exact ⟨v, w, h1, .inl rfl, h2⟩
    · cases h
  case h_4 op' k k' he =>
    cases he
    split at h
    · rename_i e; subst e
      obtain ⟨a, e1, ha⟩ : ∃ a, vx = .float k a ∧ (k.format.read a).isNaN = true := by
        cases hx with
        | d _ _ h => cases h with | nan _ a h => exact ⟨a, rfl, h⟩
      obtain ⟨b, e2, hb⟩ : ∃ a, vy = .float k a ∧ (k.format.read a).isNaN = true := by
        cases hy with
        | d _ _ h => cases h with | nan _ a h => exact ⟨a, rfl, h⟩
      subst e1; subst e2
      obtain ⟨v, h1, h2⟩ := run_nanBin (P := P) (M := M) (w := w) (t := t) (xo := xo) (yo := yo) (nan_order ha b).1 h
      exact ⟨v, w, h1, .inl rfl, h2⟩
    · cases h
  all_goals first | (rename_i he; cases he; done) | cases h | (rename_i he _; cases he) | skip

theorem run_un {op : UnOp} {x : AV} {vx : Value} (hx : Rel φ M w x vx) {k : DV → Prop} (h : actUn op x k) : ∃ v z, (Op.unary op vx).run P w = .ok v w ∧ RelD M w z v ∧ k z := by
  unfold actUn at h
  split at h
  · have e1 := hx.int_inv; subst e1; exact ⟨_, _, by simp [Op.unary, Op.intArith]  , .int _ _, h⟩
  · have e1 := hx.int_inv; subst e1; exact ⟨_, _, by simp [Op.unary, go_sem]  , .int _ _, h⟩
  · have e1 := Rel.bool_inv hx; subst e1; exact ⟨_, _, by simp [Op.unary]  , .bool _, h⟩
  · exact h.elim

end
end Go.Ago
