/- Runs of addresses and slices. Conditions: none. -/
import Derived.Test.YtlphhmgfjdecjaaAgo9
set_option linter.unusedSimpArgs false
set_option linter.unusedVariables false
namespace Go.Ago

section
variable {φ : Nat → Option (Nat × Nat)} {M : Nat → Prop} {w : World} {P : Program}

theorem run_fieldAddr {s : TypeId} {fs : Array Field} {f : Nat} {fd : Field} {sz : Nat} (h1 : P.underlying s = some (.struct fs)) (h2 : fs[f]? = some fd) (h3 : lowSz P fd.type = some sz) (h4 : sz ≠ 0)
    (b q : Nat) : (Instr.fieldAt s (.pointer (some ⟨b, q, none⟩)) f).run P w = .ok (.pointer (some ⟨b, q + fd.offset, none⟩)) w := by
  simp [Instr.fieldAt, run_underlying h1, h2, Instr.sureAddr, fieldPlace, run_sizeOf h3, h4, addr_add]

theorem run_field_op {s : TypeId} {fs : Array Field} {f : Nat} {fd : Field} {sz : Nat} {g : Bool} (h1 : P.underlying s = some (.struct fs)) (h2 : fs[f]? = some fd) (h3 : lowSz P fd.type = some sz)
    (h4 : lowAgg P fd.type = some g) {cs : List AV} {vx : Value} (hx : Rel φ M w (.agg cs) vx) {x : AV} (hl : loadRow g sz fd.offset cs = some x) :
    ∃ v, (Instr.field s vx f).run P w = .ok v w ∧ Rel φ M w x v := by
  obtain ⟨vs, rfl, hr⟩ := hx.agg_inv
  rcases loadRow_rel hr hl with ⟨rfl, hj, h⟩ | ⟨rfl, v, hv, h⟩
  · refine ⟨_, ?_, h⟩
    simp only [Instr.field, Sem.run_bind, run_underlying h1, Result.andThen_ok, h2, asAgg, Sem.run_pure, part, run_isAgg h4, run_sizeOf h3, if_true]
    congr 2
    apply Array.ext'
    simp [Array.toList_extract, List.extract_eq_take_drop]
  · refine ⟨v, ?_, h⟩
    have hv' : vs[fd.offset]? = some v := by rw [← Array.getElem?_toList]; exact hv
    simp [Instr.field, run_underlying h1, h2, asAgg, part, run_isAgg h4, hv']

theorem run_idxArr_op {t e : TypeId} {len sz : Nat} {g : Bool} (h1 : P.underlying t = some (.array len e)) (h3 : lowSz P e = some sz) (h4 : lowAgg P e = some g) {x i : AV} {vx vi : Value}
    (hx : Rel φ M w x vx) (hi : Rel φ M w i vi) {k : AV → Prop} (h : actIdxArr g len sz x i k) : ∃ v z, (Instr.index t vx vi).run P w = .ok v w ∧ Rel φ M w z v ∧ k z := by
  unfold actIdxArr at h
  split at h
  · rename_i cs kd n
    obtain ⟨h0, hn, z, hl, hk⟩ := h
    obtain ⟨vs, rfl, hr⟩ := hx.agg_inv
    have e2 := hi.int_inv; subst e2
    rcases loadRow_rel hr hl with ⟨rfl, hj, h⟩ | ⟨rfl, v, hv, h⟩
    · refine ⟨_, z, ?_, h, hk⟩
      simp only [Instr.index, asIntOf, Sem.run_bind, Sem.run_pure, run_underlying h1, Result.andThen_ok, part, run_isAgg h4, run_sizeOf h3, if_true]
      simp only [h0, hn, and_self, if_true, Sem.run_bind, run_sizeOf h3, Result.andThen_ok, run_isAgg h4, Sem.run_pure]
      congr 2
      apply Array.ext'
      simp [Array.toList_extract, List.extract_eq_take_drop]
    · refine ⟨v, z, ?_, h, hk⟩
      have hv' : vs[n.toNat * sz]? = some v := by rw [← Array.getElem?_toList]; exact hv
      simp [Instr.index, asIntOf, run_underlying h1, h0, hn, part, run_isAgg h4, run_sizeOf h3, hv']
  · exact h.elim

theorem run_idxAddr_op {t e : TypeId} {sz : Nat} (h1 : P.underlying t = some (.slice e)) (h3 : lowSz P e = some sz) {x i : AV} {vx vi : Value}
    (hx : Rel φ M w x vx) (hi : Rel φ M w i vi) {k : AV → Prop} (h : actIdxAddr sz x i k) : ∃ v z, (Instr.indexAt t vx vi).run P w = .ok v w ∧ Rel φ M w z v ∧ k z := by
  unfold actIdxAddr at h
  split at h
  · rename_i id sz0 row len room kd n
    obtain ⟨rfl, h0, hn, hk⟩ := h
    have e2 := hi.int_inv; subst e2
    cases hx with
    | ref0 _ _ _ _ a => omega
    | ref _ _ _ _ b o cap _ c T hb hcap hroom hheap hfit =>
      refine ⟨_, _, ?_, .ptr id sz0 (row + n.toNat) 0 b o hb, hk⟩
      simp only [Instr.indexAt, asIntOf, Sem.run_bind, Sem.run_pure, run_underlying h1, Result.andThen_ok, h0, hn, and_self, if_true, run_sizeOf h3, addr_add]
      congr 4
      rw [Nat.add_mul]; omega
  · rename_i rows full kd n
    obtain ⟨h0, r, hr, hlen, hk⟩ := h
    have e2 := hi.int_inv; subst e2
    have hn : n.toNat < rows.length := by
      rcases Nat.lt_or_ge n.toNat rows.length with hl | hl
      · exact hl
      · rw [List.getElem?_eq_none hl] at hr; cases hr
    cases hx with
    | d _ _ hx =>
      cases hx with
      | nil => simp at hr
      | list _ _ sz' b off cap f hb hM hsz hcap hfull hc hrr =>
        have hsz' := hsz r (List.mem_of_getElem? hr)
        have e : sz' = sz := by omega
        subst e
        refine ⟨_, _, ?_, .dptr r 0 b (off + n.toNat * sz') (f n.toNat) hb hM (fun j y hy => ?_) (fun j y hy => hrr n.toNat r j y hr hy), hk⟩
        · simp only [Instr.indexAt, asIntOf, Sem.run_bind, Sem.run_pure, run_underlying h1, Result.andThen_ok]
          rw [if_pos ⟨h0, by omega⟩]
          simp only [Sem.run_bind, run_sizeOf h3, Result.andThen_ok, Sem.run_pure, addr_add, Nat.add_zero]
        · have := hc n.toNat r j y hr hy
          rwa [← Nat.add_assoc] at this
  · exact h.elim

theorem run_idxArrAddr_op {t e : TypeId} {len sz : Nat} (h1 : P.underlying t = some (.array len e)) (h3 : lowSz P e = some sz) {x i : AV} {vx vi : Value}
    (hx : Rel φ M w x vx) (hi : Rel φ M w i vi) {k : AV → Prop} (h : actIdxArrAddr len sz x i k) : ∃ v z, (Instr.indexAt t vx vi).run P w = .ok v w ∧ Rel φ M w z v ∧ k z := by
  unfold actIdxArrAddr at h
  split at h
  · rename_i id sz0 row j kd n
    obtain ⟨h0, hn, hk⟩ := h
    have e2 := hi.int_inv; subst e2
    cases hx with
    | ptr _ _ _ _ b o hb =>
      refine ⟨_, _, ?_, .ptr id sz0 row (j + n.toNat * sz) b o hb, hk⟩
      simp only [Instr.indexAt, asIntOf, Sem.run_bind, Sem.run_pure, run_underlying h1, Result.andThen_ok, Instr.sureAddr, h0, hn, and_self, if_true, run_sizeOf h3, addr_add, Nat.add_assoc]
  · rename_i cs j kd n
    obtain ⟨h0, hn, hk⟩ := h
    have e2 := hi.int_inv; subst e2
    cases hx with
    | dptr _ _ b off f hlt hM hc hr =>
      refine ⟨_, _, ?_, .dptr cs (j + n.toNat * sz) b off f hlt hM hc hr, hk⟩
      simp only [Instr.indexAt, asIntOf, Sem.run_bind, Sem.run_pure, run_underlying h1, Result.andThen_ok, Instr.sureAddr, h0, hn, and_self, if_true, run_sizeOf h3, addr_add, Nat.add_assoc]
  · exact h.elim

/-- A bound that is there, or not. -/
def OI (v : Option Value) (d n : Int) : Prop := (v = none ∧ n = d) ∨ ∃ k, v = some (.int k n)

theorem run_sliceBound {v : Value} {k : IntKind} {i : Int} {y : Nat} {cd : BoundsCode} (hv : v = .int k i) (h0 : 0 ≤ i) (h1 : i ≤ y) : (Instr.sliceBound v y cd).run P w = .ok i.toNat w := by
  subst hv
  simp [Instr.sliceBound, asIntOf, h0, h1]

theorem run_bounds {len cap : Nat} {lo hi mx : Option Value} {l h m : Int} (hl : OI lo 0 l) (hh : OI hi len h) (hm : OI mx h m) (h0 : 0 ≤ l) (h1 : l ≤ h) (h2 : h ≤ m) (h3 : m ≤ cap) (h4 : mx.isSome = true → hi.isSome = true) :
    (Instr.sliceBounds true len cap lo hi mx).run P w = .ok (l.toNat, h.toNat, if mx.isSome then m.toNat else cap) w := by
  rcases hm with ⟨rfl, rfl⟩ | ⟨km, rfl⟩
  · rcases hh with ⟨rfl, rfl⟩ | ⟨kh, rfl⟩
    · rcases hl with ⟨rfl, rfl⟩ | ⟨kl, rfl⟩
      · simp [Instr.sliceBounds]
      · simp [Instr.sliceBounds, run_sliceBound rfl h0 h1]
    · rcases hl with ⟨rfl, rfl⟩ | ⟨kl, rfl⟩
      · simp [Instr.sliceBounds, run_sliceBound (P := P) (w := w) (cd := .sliceAcap) (v := .int kh m) rfl (by omega) h3]
      · simp [Instr.sliceBounds, run_sliceBound (P := P) (w := w) (cd := .sliceAcap) (v := .int kh m) rfl (by omega) h3, run_sliceBound (P := P) (w := w) (cd := .sliceB) (v := .int kl l) (y := m.toNat) rfl h0 (by omega)]
  · obtain ⟨vh, rfl⟩ : ∃ v, hi = some v := Option.isSome_iff_exists.1 (h4 rfl)
    rcases hh with ⟨hh, _⟩ | ⟨kh, hh⟩
    · cases hh
    · cases hh
      have hM : (Instr.sliceBound (.int km m) cap .slice3Acap).run P w = .ok m.toNat w := run_sliceBound rfl (by omega) h3
      have hH : (Instr.sliceBound (.int kh h) m.toNat .slice3B).run P w = .ok h.toNat w := run_sliceBound rfl (by omega) (by omega)
      rcases hl with ⟨rfl, rfl⟩ | ⟨kl, rfl⟩
      · simp [Instr.sliceBounds, hM, hH]
      · have hL : (Instr.sliceBound (.int kl l) h.toNat .slice3C).run P w = .ok l.toNat w := run_sliceBound rfl h0 (by omega)
        simp [Instr.sliceBounds, hM, hH, hL]

theorem run_slice_val {t e : TypeId} {sz : Nat} (h1 : P.underlying t = some (.slice e)) (h3 : lowSz P e = some sz) {a : Option Addr} {len cap : Nat} {lo hi mx : Option Value} {l h m : Int}
    (hl : OI lo 0 l) (hh : OI hi len h) (hm : OI mx h m) (h0 : 0 ≤ l) (hlh : l ≤ h) (hhm : h ≤ m) (hmc : m ≤ cap) (h4 : mx.isSome = true → hi.isSome = true) :
    (Instr.sliceAt t (.slice a len cap) lo hi mx).run P w =
      .ok (.slice (if (if mx.isSome then m.toNat else cap) = l.toNat then a else a.map (·.add (l.toNat * sz))) (h.toNat - l.toNat) ((if mx.isSome then m.toNat else cap) - l.toNat)) w := by
  simp only [Instr.sliceAt, Sem.run_bind, run_underlying h1, Result.andThen_ok, Instr.slice, run_bounds hl hh hm h0 hlh hhm hmc h4, run_sizeOf h3, Sem.run_pure]

theorem run_slice_op {t e : TypeId} {sz : Nat} (h1 : P.underlying t = some (.slice e)) (h3 : lowSz P e = some sz) {env : Env} {x : AV} {vx : Value} (hx : Rel φ M w x vx)
    {lo hi mx : Option Opd} {vlo vhi vmx : Option Value} (hlo : ∀ n d, intOr env lo d = some n → OI vlo d n) (hhi : ∀ n d, intOr env hi d = some n → OI vhi d n) (hmx : ∀ n d, intOr env mx d = some n → OI vmx d n)
    (smx : vmx.isSome = mx.isSome) (shi : vhi.isSome = hi.isSome) {k : AV → Prop} (h : actSlice sz env x lo hi mx k) :
    ∃ v z, (Instr.sliceAt t vx vlo vhi vmx).run P w = .ok v w ∧ Rel φ M w z v ∧ k z := by
  unfold actSlice at h
  split at h
  · rename_i id sz0 row len room
    obtain ⟨rfl, l, hh, m, e1, e2, e3, p1, p2, p3, p4, p5, hk⟩ := h
    cases hx with
    | ref0 _ _ _ _ a =>
      refine ⟨_, _, run_slice_val h1 h3 (hlo _ _ e1) (hhi _ _ e2) (hmx _ _ e3) p1 p2 p3 (by simpa using p4) (by rw [smx, shi]; exact p5), ?_, hk⟩
      have : hh.toNat - l.toNat = 0 := by simp at p4; omega
      rw [this]
      have h0 : (if vmx.isSome = true then m.toNat else 0) - l.toNat = 0 := by split <;> simp at p4 <;> omega
      rw [h0]
      exact .ref0 _ _ _ _ _
    | ref _ _ _ _ b o cap _ c T hb hcap hroom hheap hfit =>
      refine ⟨_, _, run_slice_val h1 h3 (hlo _ _ e1) (hhi _ _ e2) (hmx _ _ e3) p1 p2 p3 (by omega) (by rw [smx, shi]; exact p5), ?_, hk⟩
      have hC : hh.toNat ≤ (if vmx.isSome = true then m.toNat else cap) ∧ (if vmx.isSome = true then m.toNat else cap) ≤ cap := by split <;> omega
      generalize hCC : (if vmx.isSome = true then m.toNat else cap) = C at hC ⊢
      by_cases hz : C = l.toNat
      · rw [if_pos hz]
        have : hh.toNat - l.toNat = 0 := by omega
        rw [this, show C - l.toNat = 0 by omega]
        exact .ref0 _ _ _ _ _
      · rw [if_neg hz]
        have hadd : (some (⟨b, o + row * sz0, none⟩ : Addr)).map (·.add (l.toNat * sz0)) = some ⟨b, o + (row + l.toNat) * sz0, none⟩ := by
          simp only [Option.map_some, addr_add, Nat.add_mul, Nat.add_assoc]
        rw [hadd]
        refine .ref id sz0 (row + l.toNat) _ b o (C - l.toNat) _ c T hb (by omega) ?_ hheap ?_
        · intro hr
          rw [← smx] at hr
          by_cases hmm : vmx.isSome = true
          · rw [if_pos hmm] at hr hCC
            simp at hr
            omega
          · rw [if_neg hmm] at hr hCC
            split at hr
            · have := hroom hr; omega
            · cases hr
        · have : row + l.toNat + (C - l.toNat) = row + C := by omega
          rw [this]
          have := Nat.mul_le_mul_right sz0 (show row + C ≤ row + cap by omega)
          omega
  · rename_i rows full
    obtain ⟨hszd, l, hh, m, e1, e2, e3, p1, p2, p3, p4, p5, hk⟩ := h
    cases hx with
    | d _ _ hx =>
      cases hx with
      | nil _ a cap hfull =>
        have hcapm : m ≤ cap := by simp at p4; omega
        refine ⟨_, _, run_slice_val h1 h3 (hlo _ _ e1) (hhi _ _ e2) (hmx _ _ e3) p1 p2 p3 hcapm (by rw [smx, shi]; exact p5), ?_, hk⟩
        have z1 : hh.toNat - l.toNat = 0 := by simp at p4; omega
        have z2 : ((([] : List (List DV)).take hh.toNat).drop l.toNat) = [] := by simp
        rw [z1, z2]
        refine .d _ _ (.nil _ _ _ fun hf => ?_)
        rw [← smx] at hf
        by_cases hmm : vmx.isSome = true
        · rw [if_pos hmm]; simp at p4; omega
        · rw [if_neg hmm] at hf ⊢
          simp only [Bool.and_eq_true] at hf
          have := hfull hf.1; omega
      | list _ _ sz' b off cap f hb hM hsz' hcap hfull hc hrr =>
        refine ⟨_, _, run_slice_val h1 h3 (hlo _ _ e1) (hhi _ _ e2) (hmx _ _ e3) p1 p2 p3 (by omega) (by rw [smx, shi]; exact p5), ?_, hk⟩
        have hC : hh.toNat ≤ (if vmx.isSome = true then m.toNat else cap) ∧ (if vmx.isSome = true then m.toNat else cap) ≤ cap := by split <;> omega
        have hf' : (if mx.isSome = true then decide (m = hh) else (full && decide (hh = (rows.length : Int)))) = true → (if vmx.isSome = true then m.toNat else cap) = hh.toNat := by
          intro hf
          rw [← smx] at hf
          by_cases hmm : vmx.isSome = true
          · rw [if_pos hmm] at hf ⊢; simp at hf; omega
          · rw [if_neg hmm] at hf ⊢
            simp only [Bool.and_eq_true, decide_eq_true_eq] at hf
            have := hfull hf.1; omega
        generalize (if vmx.isSome = true then m.toNat else cap) = C at hC hf' ⊢
        generalize hfl : (if mx.isSome = true then decide (m = hh) else (full && decide (hh = (rows.length : Int)))) = full' at hf' ⊢
        have hlen : ((rows.take hh.toNat).drop l.toNat).length = hh.toNat - l.toNat := by simp; omega
        by_cases hz : hh.toNat = l.toNat
        · have : (rows.take hh.toNat).drop l.toNat = [] := List.eq_nil_of_length_eq_zero (by omega)
          rw [this, show hh.toNat - l.toNat = 0 by omega]
          exact .d _ _ (.nil _ _ _ fun hf => by have := hf' hf; omega)
        · rw [if_neg (show ¬ C = l.toNat by omega)]
          have hrow0 : sz' = sz := by
            have h0 : 0 < rows.length := by omega
            have a1 := hsz' rows[0] (List.getElem_mem h0)
            have a2 := hszd rows[0] (List.getElem_mem h0)
            omega
          subst hrow0
          have hadd : (some (⟨b, off, none⟩ : Addr)).map (·.add (l.toNat * sz')) = some ⟨b, off + l.toNat * sz', none⟩ := by simp only [Option.map_some, addr_add]
          rw [hadd, ← hlen]
          have hget : ∀ (i : Nat) (r : List DV), ((rows.take hh.toNat).drop l.toNat)[i]? = some r → rows[l.toNat + i]? = some r := by
            intro i r hr
            rw [List.getElem?_drop, List.getElem?_take] at hr
            split at hr
            · exact hr
            · cases hr
          refine .d _ _ (.list _ _ sz' b (off + l.toNat * sz') _ (fun i j => f (l.toNat + i) j) hb hM (fun r hr => ?_) (by rw [hlen]; omega) (fun hf => by rw [hlen, hf' hf]) (fun i r j y h1 h2 => ?_) (fun i r j y h1 h2 => hrr _ r j y (hget i r h1) h2))
          · exact hsz' r (List.mem_of_mem_take (List.mem_of_mem_drop hr))
          · have := hc (l.toNat + i) r j y (hget i r h1) h2
            rw [Nat.add_mul] at this
            rw [show off + l.toNat * sz' + (i * sz' + j) = off + (l.toNat * sz' + i * sz' + j) by omega]
            exact this
  · exact h.elim

end
end Go.Ago
