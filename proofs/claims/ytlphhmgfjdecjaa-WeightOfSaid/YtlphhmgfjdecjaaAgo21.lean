/- The rules for regions. Conditions: none. -/
import Derived.Test.YtlphhmgfjdecjaaAgo20
set_option linter.unusedSimpArgs false
set_option linter.unusedVariables false
namespace Go.Ago

section
variable {P : Program} {n n0 : Nat} {S : State} {K : AExit → State → Prop}

theorem list_range (n : Nat) : List.range n = List.range' 0 n := List.range_eq_range'

/-- A region in the order of the text. -/
theorem AWP.region {id : Nat} {ops : Array Oper} {los : List LOper} (hlow : lowOps P n ops 0 ops.toList = some los) (h0 : n0 ≤ S.heap.length)
    (hg : RG P false S.heap.length [] (K .normal) los (reserve S (keeps los)) []) : AWP P n n0 (.region id ops false) S (fun x S' => K x S' ∧ n0 ≤ S'.heap.length) := by
  intro A φ a w hs Q hq
  refine wp_region ?_
  obtain ⟨hs', hfree⟩ := sim_reserve hs (keeps los)
  have hon : Onward A φ S.heap w φ (reserve S (keeps los)).heap w := ⟨fun _ _ h => h, Pres.refl _ _, fun b hb => .inl ((own_reserve _ _ b).1 hb)⟩
  rw [list_range]
  have := ops_text (base := S.heap.length) (Q := Q) [] [] ops.toList 0 0 los (reserve S (keeps los)) [] φ a w (by simp) hlow hg hs' (by simp [reserve]) (fun k _ _ => hfree _ (by omega)) (fun S' φ' a' w' hK hs2 hon2 hid hl => by
    refine hq .normal S' φ' a' w' ⟨hK, by simp only [reserve, List.length_append] at hl; omega⟩ hs2 ⟨fun i hi => hid i (by omega), ?_, ?_⟩
    · exact (hon.trans hon2).pres
    · exact (hon.trans hon2).mono)
  simpa using this

/-- A region whose order is drawn. -/
theorem AWP.draw {id : Nat} {ops : Array Oper} {los : List LOper} (hlow : lowOps P n ops 0 ops.toList = some los)
    (hord : ordersOK (P.follows .mixedOrders) ops = true) {pairs : List (Nat × Nat)} (hok : ∀ md ∈ modesOf (P.follows .mixedOrders) ops, drawOK (ancs md ops.toList []) pairs 0 [] los = true) (h0 : n0 ≤ S.heap.length)
    (hg : RG P true S.heap.length pairs (K .normal) los (reserve S (keeps los)) []) : AWP P n n0 (.region id ops true) S (fun x S' => K x S' ∧ n0 ≤ S'.heap.length) := by
  intro A φ a w hs Q hq
  obtain ⟨hs1, hfree⟩ := sim_reserve hs (keeps los)
  obtain ⟨L, e1, e2, e3, e4, e5, e6, e7⟩ := items_of ops.toList 0 0 los _ [] rfl hlow hg
  have hlen : L.length = ops.size := by
    have h1 : L.length = los.length := by rw [← e1]; simp
    have h2 : ∀ (l : List Oper) (c : Nat) (los : List LOper), lowOps P n ops c l = some los → los.length = l.length := by
      intro l
      induction l with
      | nil => intro c los h; simp [lowOps] at h; subst h; rfl
      | cons o os ih =>
        intro c los h
        simp only [lowOps, Option.bind_eq_some_iff] at h
        obtain ⟨lo, _, h⟩ := h
        split at h
        · split at h
          · obtain ⟨l', h', rfl⟩ := Option.map_eq_some_iff.1 h
            simp [ih _ _ h']
          · split at h
            · obtain ⟨l', h', rfl⟩ := Option.map_eq_some_iff.1 h
              simp [ih _ _ h']
            · cases h
        · cases h
    rw [h1, h2 _ _ _ hlow]; simp
  have hix : ∀ k (hk : k < L.length), L[k].ix = k := fun k hk => by
    have := e3 k
    rw [List.getElem?_eq_getElem hk, ← e1, List.getElem?_map, List.getElem?_eq_getElem hk] at this
    simpa using this
  have hlo : ∀ k (hk : k < L.length), los[k]? = some L[k].lo := fun k hk => by rw [← e1, List.getElem?_map, List.getElem?_eq_getElem hk]; rfl
  have hs2 : Sim A n φ (reserve S (keeps los)) a { w with drawn := w.drawn + 1 } ∧ Onward A φ (reserve S (keeps los)).heap w φ (reserve S (keeps los)).heap { w with drawn := w.drawn + 1 } := by
    obtain ⟨g1, g2⟩ := hs1.heap.keep (w' := { w with drawn := w.drawn + 1 }) ⟨Nat.le_refl _, fun _ _ _ => rfl, fun b c T h => ⟨c, h, rfl⟩, ⟨rfl, rfl⟩, fun _ => rfl⟩
    exact ⟨⟨g1, hs1.size, hs1.defs, fun t => g2.rel (hs1.slots t)⟩, g2⟩
  have hon : Onward A φ S.heap w φ (reserve S (keeps los)).heap w := ⟨fun _ _ h => h, Pres.refl _ _, fun b hb => .inl ((own_reserve _ _ b).1 hb)⟩
  have hstill : ∀ it ∈ L, ∀ S1, Step P S.heap.length it.lo it.δ S1 → it.lo.op.still = true → it.δ.foot = ([], []) := fun it _ S1 hst hs => by
    have act : actK P S.heap.length S1.env S1.heap it.lo.op (· = it.δ) → it.δ.foot = ([], []) := fun ha => by
      obtain ⟨h1, h2⟩ := actK_still hs ha
      simp [Delta.foot, h1, h2]
    unfold Step at hst
    cases hgd : it.lo.guard with
    | none => rw [hgd] at hst; exact act hst
    | some gw =>
      obtain ⟨g, want⟩ := gw
      rw [hgd] at hst
      simp only at hst
      split at hst
      · rename_i b _
        by_cases e : b = want
        · exact act (hst.1 e)
        · rw [hst.2 e]; rfl
      · rw [hst]; rfl
      · exact hst.elim
  have hreads : ∀ it ∈ L, ∀ S1, Step P S.heap.length it.lo it.δ S1 → it.lo.op.reads = true → it.δ.foot.2 = [] := fun it _ S1 hst hs => by
    have act : actK P S.heap.length S1.env S1.heap it.lo.op (· = it.δ) → it.δ.foot.2 = [] := fun ha => by
      simp [Delta.foot, actK_reads hs ha]
    unfold Step at hst
    cases hgd : it.lo.guard with
    | none => rw [hgd] at hst; exact act hst
    | some gw =>
      obtain ⟨g, want⟩ := gw
      rw [hgd] at hst
      simp only at hst
      split at hst
      · rename_i b _
        by_cases e : b = want
        · exact act (hst.1 e)
        · rw [hst.2 e]; rfl
      · rw [hst]; rfl
      · exact hst.elim
  have hrunstep : ∀ (L : List Item) (S1 : State) (K : State → Prop), Run P S.heap.length K L S1 → ∀ it ∈ L, ∃ S2, Step P S.heap.length it.lo it.δ S2 := by
    intro L
    induction L with
    | nil => intro _ _ _ it h; cases h
    | cons x xs ih =>
      intro S1 K h it hit
      rcases List.mem_cons.1 hit with rfl | hit
      · exact ⟨_, h.1⟩
      · exact ih _ _ h.2 it hit
  have hrun : Run P S.heap.length (fun S' => ∃ T, K .normal T ∧ Like T S') L (reserve S (keeps los)) := by
    have : ∀ (L : List Item) (S1 : State), Run P S.heap.length (K .normal) L S1 → Run P S.heap.length (fun S' => ∃ T, K .normal T ∧ Like T S') L S1 := by
      intro L
      induction L with
      | nil => intro S1 h; exact ⟨_, h, Like.refl _⟩
      | cons x xs ih => intro S1 h; exact ⟨h.1, ih _ h.2⟩
    exact this _ _ e6
  have key : ∀ (md : Region.Mode) (_ : md ∈ modesOf (P.follows .mixedOrders) ops) (_ : orderOK md ops = true), wpAny P md ops Q ops.size (Array.replicate ops.size false) a { w with drawn := w.drawn + 1 } := by
    intro md hmd hoo
    obtain ⟨_, hpair⟩ := drawOK_spec los 0 [] (hok md hmd)
    refine any_sound (md := md) (n := n) (base := S.heap.length) (anc := fun i => (ancs md ops.toList []).getD i 0) (fun i o j hi hj => ?_) (rk := fun i => (kahn md ops.toList ops.size 0 []).idxOf i) (orderOK_spec hoo) (K := fun S' => ∃ T, K .normal T ∧ Like T S')
      (fun S1 S2 hl ⟨T, h1, h2⟩ => ⟨T, h1, h2.trans hl⟩) ops.size L _ _ φ a _ (by simp) (by omega) e2 (fun it hit => ?_) (fun i hi => ?_) ?_ (fun i hi j hj => ?_) (fun it hit hn => ?_) hrun hs2.1 ?_
    · have := ancs_spec md ops.toList [] i o j (by rw [Array.getElem?_toList]; exact hi) (by simpa using hj)
      simpa using this
    · obtain ⟨k, hk, rfl⟩ := List.mem_iff_getElem.1 hit
      rw [hix k hk, Array.getD_eq_getD_getElem?, Array.getElem?_replicate, if_pos (by omega)]; rfl
    · by_cases h : i < ops.size
      · exact ⟨L[i], List.getElem_mem _, hix i (by omega)⟩
      · rw [Array.getD_eq_getD_getElem?, Array.getElem?_replicate, if_neg h] at hi; cases hi
    · rw [List.pairwise_iff_getElem] at e5 ⊢
      intro i j hi hj hij
      rw [hix i hi, hix j hj]
      refine ⟨hij, e5 i j hi hj hij, ?_⟩
      have hp := hpair i j _ _ hij (hlo i hi) (hlo j hj)
      simp only [pairOK, Bool.or_eq_true, Bool.and_eq_true, Nat.zero_add] at hp
      refine hp.imp (fun h => h) fun ⟨h1, h2⟩ => ⟨h1, ?_⟩
      obtain ⟨Si, hSi⟩ := hrunstep L _ _ e6 L[i] (List.getElem_mem _)
      obtain ⟨Sj, hSj⟩ := hrunstep L _ _ e6 L[j] (List.getElem_mem _)
      rcases h2 with ((h2 | h2) | h2) | h2
      · rw [hstill _ (List.getElem_mem _) Si hSi h2]; simp [apartF]
      · rw [hstill _ (List.getElem_mem _) Sj hSj h2]; simp [apartF]
      · simp only [apartF, hreads _ (List.getElem_mem _) Si hSi h2.1, hreads _ (List.getElem_mem _) Sj hSj h2.2]; rfl
      · have hc : (i, j) ∈ pairs := by simpa using h2
        have := List.all_eq_true.1 e7 _ hc
        simp only [List.reverse_nil, List.nil_append, List.getD_eq_getElem?_getD, List.getElem?_map, List.getElem?_eq_getElem hi, List.getElem?_eq_getElem hj, Option.map_some, Option.getD_some] at this
        exact this
    · rw [Array.getD_eq_getD_getElem?, Array.getElem?_replicate] at hi
      split at hi <;> simp at hi
    · have := e4 it hit hn
      exact ⟨by simp [reserve]; omega, hfree _ (by omega)⟩
    · rintro S' φ' a' w' ⟨T, hK, hl⟩ hs3 hon3 hid hlen3
      have hon4 := (hon.trans hs2.2).trans hon3
      refine hq .normal T φ' a' w' ⟨hK, by rw [hl.2]; simp only [reserve, List.length_append] at hlen3; omega⟩ (hl.symm.sim hs3) ?_
      rw [hl.2]
      exact ⟨fun i hi => hid i (by omega), hon4.pres, hon4.mono⟩
  refine wp_region_draw fun t => ?_
  unfold ordersOK at hord
  unfold Region.schedule
  split
  · rename_i hc
    have hm : modesOf (P.follows .mixedOrders) ops = [.any] := by unfold modesOf; rw [if_pos hc]
    rw [hm] at hord key
    exact wpAny_sound ops.size t _ a _ (key .any (by simp) (List.all_eq_true.1 hord _ (by simp)))
  · rename_i hc
    have hm : modesOf (P.follows .mixedOrders) ops = [.text, .gc] := by unfold modesOf; rw [if_neg hc]
    rw [hm] at hord key
    split
    · exact wpAny_sound ops.size _ _ a _ (key .text (by simp) (List.all_eq_true.1 hord _ (by simp)))
    · exact wpAny_sound ops.size _ _ a _ (key .gc (by simp) (List.all_eq_true.1 hord _ (by simp)))

end
end Go.Ago
