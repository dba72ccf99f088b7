/- Regions: in the order of the text. Conditions: none. -/
import Derived.Test.YtlphhmgfjdecjaaAgo16
set_option linter.unusedSimpArgs false
set_option linter.unusedVariables false
namespace Go.Ago

def dstOK (n : Nat) : Option Nat → Bool
  | some t => decide (t < n)
  | none => true

/-- The operations of a region, lowered; 'all': the whole region (for guards); 'c': the next id that is kept. -/
def lowOps (P : Program) (n : Nat) (all : Array Oper) : Nat → List Oper → Option (List LOper)
  | _, [] => some []
  | c, o :: os =>
    (low P c o.type o.op).bind fun lo =>
      if dstOK n o.dst = true then
        match o.guard with
        | none => (lowOps P n all (if lo.isNew then c + 1 else c) os).map (⟨o.dst, lo, none⟩ :: ·)
        | some (j, want) =>
          match (all[j]?).bind (·.dst) with
          | some t => (lowOps P n all (if lo.isNew then c + 1 else c) os).map (⟨o.dst, lo, some (t, want)⟩ :: ·)
          | none => none
      else none

/-- How many ids a region keeps. -/
def keeps : List LOper → Nat
  | [] => 0
  | o :: os => (if o.op.isNew then 1 else 0) + keeps os

def reserve (S : State) (k : Nat) : State := { S with heap := S.heap ++ List.replicate k .dead }

section
variable {A : Nat → Prop} {φ : Nat → Option (Nat × Nat)} {w : World} {P : Program} {n : Nat} {S : State} {a : Act}

theorem at_reserve (H : Heap) (k i : Nat) : Heap.at (H ++ List.replicate k .dead) i = H.at i := by
  unfold Heap.at
  simp only [List.getD_eq_getElem?_getD, List.getElem?_append]
  split
  · rfl
  · rename_i h
    rw [List.getElem?_eq_none (by omega : H.length ≤ i)]
    rw [List.getElem?_replicate]
    split <;> rfl

theorem own_reserve (H : Heap) (k : Nat) (b : Nat) : own φ (H ++ List.replicate k .dead) b ↔ own φ H b := by
  unfold own
  simp only [at_reserve]

theorem sim_reserve (hs : Sim A n φ S a w) (k : Nat) : Sim A n φ (reserve S k) a w ∧ (∀ i, S.heap.length ≤ i → φ i = none) := by
  have hM : ∀ b, Mb A φ (S.heap ++ List.replicate k .dead) b → Mb A φ S.heap b := fun b hb => hb.imp id (own_reserve _ _ b).1
  refine ⟨⟨⟨fun i b o hb => ?_, fun i sz rows hr hne => ?_, fun i j b o o' hi hj h1 h2 => ?_, hs.heap.amb, fun b hA ho => hs.heap.apart b hA ((own_reserve _ _ b).1 ho), fun i b o hi hb => ?_⟩, hs.size, hs.defs, fun t => (hs.slots t).less hM⟩, fun i hi => ?_⟩
  · have := hs.heap.dom i b o hb
    exact ⟨by simp [reserve]; omega, this.2⟩
  · simp only [reserve, at_reserve] at hr; exact hs.heap.there i sz rows hr hne
  · simp only [reserve, at_reserve] at hi hj; exact hs.heap.inj i j b o o' hi hj h1 h2
  · simp only [reserve, at_reserve] at hi ⊢
    intro sz rows hr
    obtain ⟨c, T, e1, e2, e3, e4⟩ := hs.heap.objs i b o hi hb sz rows hr
    exact ⟨c, T, e1, e2, e3, fun k r j x hk hx => by obtain ⟨v, hv, hrel⟩ := e4 k r j x hk hx; exact ⟨v, hv, hrel.less hM⟩⟩
  · cases h : φ i with
    | none => rfl
    | some p =>
      obtain ⟨b, o⟩ := p
      have := (hs.heap.dom i b o h).1
      omega

theorem foldl_set_len (ups : List (Nat × HO)) : ∀ (H : Heap), (ups.foldl (fun H p => H.set p.1 p.2) H).length = H.length := by
  induction ups with
  | nil => intro H; rfl
  | cons p ps ih => intro H; simp [ih]

theorem wanted_none {all : Array Oper} {o : Oper} (h : o.guard = none) (y : Nat → Option Bool) : Region.wanted o y = true := by simp [Region.wanted, h]

/-- What a guard says. -/
theorem guard_said {all : Array Oper} {o : Oper} {j t : Nat} {want : Bool} (h : o.guard = some (j, want)) (ht : (all[j]?).bind (·.dst) = some t) (hs : Sim A n φ S a w) :
    (∀ b, S.env.get t = .d (.bool b) → Region.wanted o (yielded all a.tmps) = decide (b = want)) ∧ (S.env.get t = .tup [] → Region.wanted o (yielded all a.tmps) = false) := by
  have hr := hs.slots t
  have hy : yielded all a.tmps j = match a.tmps[t]? with | some (.bool b) => some b | _ => none := by
    unfold yielded
    obtain ⟨p, hp1, hp2⟩ := Option.bind_eq_some_iff.1 ht
    simp only [hp1, hp2, Option.bind_some]
    cases a.tmps[t]? with
    | none => rfl
    | some v => cases v <;> rfl
  refine ⟨fun b hb => ?_, fun hb => ?_⟩
  · rw [hb] at hr
    have e := Rel.bool_inv hr
    have e2 : a.tmps[t]? = some (.bool b) := by
      rw [Array.getD_eq_getD_getElem?] at e
      cases h0 : a.tmps[t]? with
      | none => rw [h0] at e; cases e
      | some v => rw [h0] at e; simp at e; rw [e]
    rw [e2] at hy
    simp only at hy
    simp only [Region.wanted, h, hy]
    cases b <;> cases want <;> rfl
  · rw [hb] at hr
    obtain ⟨vs, e, _⟩ := hr.tup_inv
    have e2 : yielded all a.tmps j = none := by
      rw [hy, Array.getD_eq_getD_getElem?] at *
      cases h0 : a.tmps[t]? with
      | none => rfl
      | some v => rw [h0] at e; simp at e; rw [e]
    simp [Region.wanted, h, e2]

theorem sim_skip (hs : Sim A n φ S a w) {dst : Option Nat} (hd : ∀ t, dst = some t → t < n) : Sim A n φ (S.app dst ⟨.tup [], [], []⟩) (a.put dst undef) w :=
  sim_put hs hs.heap (Onward.same hs.heap) hd (.tup [] #[] rfl (fun i x v h => by simp at h))

/-- A shared call. -/
theorem call_shared_sound (hs : Sim A n φ S a w) {o : Oper} (hd : ∀ t, o.dst = some t → t < n) {c c1 : Nat} {imp : Bool} {f' : Opd} {args' : List Opd}
    (hlow : low P c o.type o.op = some (.call c1 imp f' args')) {g : FuncId} {caps : List AV} (hg : fnOf (f'.ev S.env) = some (g, caps)) {Post : AV → Heap → Prop}
    (hc : ACalls P g (args'.map (·.ev S.env) ++ caps) S.heap Post) (next : Act → World → Prop) (Q : Exit → Act → World → Prop)
    (hn : ∀ φ' v r H' w', Post r H' → Sim A n φ' ({ S with heap := H' }.app o.dst ⟨r, [], []⟩) (a.put o.dst v) w' → Onward A φ S.heap w φ' H' w' → (∀ j, j < S.heap.length → φ' j = φ j) → next (a.put o.dst v) w') :
    o.wp P a w next Q := by
  cases hop : o.op with
  | call cl =>
    obtain ⟨callee, args, ts⟩ := cl
    cases callee with
    | value f =>
      simp only [hop, low, Option.bind_eq_some_iff] at hlow
      obtain ⟨f2, hf, xs, hxs, he⟩ := hlow
      split at he
      case h_2 => split at he <;> simp at he
      simp only [Option.some.injEq, LOp.call.injEq] at he
      obtain ⟨_, _, rfl, rfl⟩ := he
      obtain ⟨vs, hv, hrv⟩ := fnOf_rel (lowOpd_rel hs hf) hg
      have hr : RelL φ (Mb A φ S.heap) w (xs.map (·.ev S.env) ++ caps) (args.map a.eval ++ vs).toList := by
        have := (opds_rel hs hxs).append hrv
        simpa using this
      unfold Oper.wp
      rw [run_call hop hc.1 hv]
      simp only [Oper.upon]
      refine (hc.2 A φ w (args.map a.eval ++ vs) hs.heap (by simpa using hr.len) (fun i x v h1 h2 => hr.get i x v h1 (by rw [Array.getElem?_toList]; exact h2))).mono ?_
      rintro e w' ⟨v, r, H', φ', rfl, hp, hs', hrr, hext⟩
      show next (a.put o.dst v) w'
      have hon : Onward A φ S.heap w φ' H' w' := by
        refine ⟨fun i p hp => ?_, hext.pres, hext.mono⟩
        obtain ⟨b, o'⟩ := p
        rw [hext.ids i (hs.heap.dom i b o' hp).1]; exact hp
      exact hn φ' v r H' w' hp (sim_put hs hs' hon hd hrr) hon hext.ids
    | invoke r m => simp [hop, low] at hlow
    | builtin b =>
      simp only [hop, low, Option.bind_eq_some_iff] at hlow
      obtain ⟨xs, hxs, hlow⟩ := hlow
      split at hlow <;> (try split at hlow) <;> simp [Option.bind_eq_some_iff, Option.map_eq_some_iff] at hlow
  | makeFunc fn first caps => cases fn <;> simp [hop, low] at hlow
  | build t parts =>
    simp only [hop, low] at hlow
    split at hlow <;> simp [Option.bind_eq_some_iff, Option.map_eq_some_iff] at hlow
  | buildSlice t len parts =>
    simp only [hop, low] at hlow
    split at hlow <;> (try split at hlow) <;> simp [Option.bind_eq_some_iff, Option.map_eq_some_iff] at hlow
  | binOp op t x y yt =>
    simp only [hop, low, Option.bind_eq_some_iff] at hlow
    obtain ⟨x', hx, y', hy, hlow⟩ := hlow
    cases op <;> simp only at hlow <;> (try split at hlow) <;> simp [Option.map_eq_some_iff] at hlow
  | convert s d x =>
    simp only [hop, low] at hlow
    split at hlow <;> simp [Option.map_eq_some_iff] at hlow
  | fieldAddr s x f =>
    simp only [hop, low] at hlow
    split at hlow <;> simp [Option.bind_eq_some_iff] at hlow
  | field s x f =>
    simp only [hop, low] at hlow
    split at hlow <;> simp [Option.bind_eq_some_iff, Option.map_eq_some_iff] at hlow
  | indexAddr t x i =>
    simp only [hop, low] at hlow
    split at hlow <;> simp [Option.bind_eq_some_iff, Option.map_eq_some_iff] at hlow
  | index t x i =>
    simp only [hop, low] at hlow
    split at hlow <;> simp [Option.bind_eq_some_iff, Option.map_eq_some_iff] at hlow
  | slice t x lo' hi' mx' =>
    simp only [hop, low] at hlow
    split at hlow <;> simp [Option.bind_eq_some_iff, Option.map_eq_some_iff] at hlow
  | makeSlice t l m =>
    simp only [hop, low] at hlow
    split at hlow <;> simp [Option.bind_eq_some_iff, Option.map_eq_some_iff] at hlow
  | _ => simp [hop, low, Option.bind_eq_some_iff, Option.map_eq_some_iff] at hlow

/-- A region, in the order of the text. -/
theorem ops_text {base : Nat} {pairs : List (Nat × Nat)} {K : State → Prop} {ops : Array Oper} {Q : Exit → Act → World → Prop} (extra : List Oper) (rest : List Nat) : ∀ (l : List Oper) (i c : Nat) (los : List LOper) (S : State) (acc : Feet)
    (φ : Nat → Option (Nat × Nat)) (a : Act) (w : World), ops.toList.drop i = l ++ extra → lowOps P n ops c l = some los → RG P false base pairs K los S acc → Sim A n φ S a w →
    base + c + keeps los ≤ S.heap.length → (∀ k, c ≤ k → k < c + keeps los → φ (base + k) = none) →
    (∀ S' φ' a' w', K S' → Sim A n φ' S' a' w' → Onward A φ S.heap w φ' S'.heap w' → (∀ j, j < base → φ' j = φ j) → S.heap.length ≤ S'.heap.length → wpOps P ops Q rest a' w') →
    wpOps P ops Q (List.range' i l.length ++ rest) a w := by
  intro l
  induction l with
  | nil =>
    intro i c los S acc φ a w hdrop hlow hg hs hlen hfree hq
    simp only [lowOps, Option.some.injEq] at hlow; subst hlow
    simp only [RG] at hg
    exact hq S φ a w hg.2 hs (Onward.same hs.heap) (fun _ _ => rfl) (Nat.le_refl _)
  | cons o os ih =>
    intro i c los S acc φ a w hdrop hlow hg hs hlen hfree hq
    have hi : ops[i]? = some o := by
      have : (ops.toList.drop i)[0]? = some o := by rw [hdrop]; rfl
      rw [List.getElem?_drop, Nat.add_zero, Array.getElem?_toList] at this
      exact this
    have hdrop' : ops.toList.drop (i + 1) = os ++ extra := by rw [← List.drop_drop, hdrop]; rfl
    simp only [lowOps, Option.bind_eq_some_iff] at hlow
    obtain ⟨lo, hlo, hlow⟩ := hlow
    split at hlow
    · rename_i hdst
      have hd : ∀ t, o.dst = some t → t < n := fun t ht => by rw [ht] at hdst; simpa [dstOK] using hdst
      -- what both ways share
      have main : ∀ (g : Option (Nat × Bool)) (los' : List LOper), los = ⟨o.dst, lo, g⟩ :: los' → lowOps P n ops (if lo.isNew then c + 1 else c) os = some los' →
          ((actK P base S.env S.heap lo fun δ => RG P false base pairs K los' (S.app o.dst δ) ((δ.rd, δ.ups.map (·.1)) :: acc)) ∨
            (True ∧ ∃ c imp f args g caps, lo = .call c imp f args ∧ fnOf (f.ev S.env) = some (g, caps) ∧
              ACalls P g (args.map (·.ev S.env) ++ caps) S.heap fun r H' => S.heap.length ≤ H'.length ∧ RG P false base pairs K los' ({ S with heap := H' }.app o.dst ⟨r, [], []⟩) (([], []) :: acc))) →
          o.wp P a w (wpOps P ops Q (List.range' (i + 1) os.length ++ rest)) Q := by
        intro g los' hlos hlow' hgo
        subst hlos
        simp only [keeps] at hlen hfree
        rcases hgo with hact | ⟨_, c1, imp, f, args, g1, caps, hcall, hfn, hc⟩
        · obtain ⟨δ, hδ, hrest⟩ := actK_ex hact
          have hnew : ∀ h : lo.isNew = true, base + c < S.heap.length ∧ φ (base + c) = none := fun h => by
            rw [h] at hlen hfree
            simp only [if_true] at hlen hfree
            exact ⟨by omega, hfree c (Nat.le_refl _) (by omega)⟩
          refine op_sound hlo hd hs (fun h => (hnew h).1) (fun h => (hnew h).2) hδ _ Q ?_
          intro φ' v w' hs' hon hid
          have hlen' : (S.app o.dst δ).heap.length = S.heap.length := foldl_set_len _ _
          refine ih (i + 1) _ los' _ _ φ' _ w' hdrop' hlow' hrest hs' ?_ ?_ ?_
          · rw [hlen']; split <;> rename_i hn <;> simp only [hn, if_true, if_false, Bool.false_eq_true] at hlen <;> omega
          · intro k hk1 hk2
            by_cases hn : lo.isNew = true
            · simp only [hn, if_true] at hk1 hk2 hfree
              rw [hid (base + k) (fun _ => by omega)]
              exact hfree k (by omega) (by omega)
            · simp only [hn, if_false, Bool.false_eq_true] at hk1 hk2 hfree
              rw [hid (base + k) (fun h => absurd h hn)]
              exact hfree k hk1 (by omega)
          · intro S' φ2 a2 w2 hK hs2 hon2 hid2 hl2
            refine hq S' φ2 a2 w2 hK hs2 (hon.trans hon2) (fun j hj => ?_) (by rw [hlen'] at hl2; exact hl2)
            rw [hid2 j hj, hid j (fun _ => by omega)]
        · subst hcall
          refine call_shared_sound hs hd hlo hfn hc _ Q ?_
          intro φ' v r H' w' ⟨hge, hrest⟩ hs' hon hid
          refine ih (i + 1) _ los' _ _ φ' _ w' hdrop' hlow' hrest hs' ?_ ?_ ?_
          · show _ ≤ H'.length
            split <;> rename_i hn <;> simp only [hn, if_true, if_false, Bool.false_eq_true] at hlen <;> omega
          · intro k hk1 hk2
            have hlt : base + k < S.heap.length := by
              split at hk2 <;> rename_i hn <;> simp only [hn, if_true, if_false, Bool.false_eq_true] at hlen <;> omega
            rw [hid _ hlt]
            refine hfree k ?_ ?_
            · split at hk1 <;> omega
            · split at hk2 <;> rename_i hn <;> simp only [hn, if_true, if_false, Bool.false_eq_true] <;> omega
          · intro S' φ2 a2 w2 hK hs2 hon2 hid2 hl2
            refine hq S' φ2 a2 w2 hK hs2 (hon.trans hon2) (fun j hj => ?_) (Nat.le_trans hge hl2)
            rw [hid2 j hj, hid j (by omega)]
      simp only [List.length_cons, List.range'_succ, List.cons_append, wpOps, hi]
      split at hlow
      · rename_i hgd
        obtain ⟨los', hlow', rfl⟩ := Option.map_eq_some_iff.1 hlow
        simp only [RG] at hg
        rw [wanted_none (all := ops) hgd, if_pos rfl]
        exact .inl (main none los' rfl hlow' hg)
      · rename_i j want hgd
        split at hlow
        · rename_i t ht
          obtain ⟨los', hlow', rfl⟩ := Option.map_eq_some_iff.1 hlow
          simp only [RG] at hg
          obtain ⟨g1, g2⟩ := guard_said (a := a) hgd ht hs
          have skip : RG P false base pairs K los' (S.app o.dst ⟨.tup [], [], []⟩) (([], []) :: acc) → wpOps P ops Q (List.range' (i + 1) os.length ++ rest) (a.put o.dst undef) w := by
            intro hrest
            simp only [keeps] at hlen hfree
            refine ih (i + 1) _ los' _ _ φ _ w hdrop' hlow' hrest (sim_skip hs hd) ?_ ?_ ?_
            · show _ ≤ S.heap.length
              split <;> rename_i hn <;> simp only [hn, if_true, if_false, Bool.false_eq_true] at hlen <;> omega
            · intro k hk1 hk2
              refine hfree k ?_ ?_
              · split at hk1 <;> omega
              · split at hk2 <;> rename_i hn <;> simp only [hn, if_true, if_false, Bool.false_eq_true] <;> omega
            · exact hq
          split at hg
          · rename_i b hb
            rw [g1 b hb]
            by_cases e : b = want
            · rw [if_pos (by simp [e])]
              exact .inl (main (some (t, want)) los' rfl hlow' (hg.1 e))
            · rw [if_neg (by simp [e])]
              exact skip (hg.2 e)
          · rename_i hb
            rw [g2 hb, if_neg (by simp)]
            exact skip hg
          · exact hg.elim
        · cases hlow
    · cases hlow

end
end Go.Ago
