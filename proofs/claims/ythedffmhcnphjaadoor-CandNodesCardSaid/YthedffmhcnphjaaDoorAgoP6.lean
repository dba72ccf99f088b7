/- Chapter 18: what the events of threads say of one another. Conditions: none. -/
import Derived.Test.YthedffmhcnphjaaDoorAgoP5
import Derived.Test.YthedffmhcnphjaaDoorAgoP4
set_option maxRecDepth 100000
set_option linter.unusedSimpArgs false
set_option linter.unusedVariables false
namespace Go.Ago
attribute [local irreducible] vck
/-- Eight relations, as lists of pairs. -/
structure P8 where
  po : List RatG
  ad : List RatG
  da : List RatG
  ct : List RatG
  fe : List RatG
  sy : List RatG
  lw : List RatG
  pa : List RatG
def P8.nil : P8 := ⟨[], [], [], [], [], [], [], []⟩
def cellP (k : Nat) (l : List RatG) : HO := .vec 1 [[.ref k 2 0 l.length true]]
def rowsP (l : List RatG) : HO := .dvec 2 (l.map RatG.row)
def P8.heap (P : P8) (x : HO) : Heap := [x, cellP 9 P.po, cellP 10 P.ad, cellP 11 P.da, cellP 12 P.ct, cellP 13 P.fe, cellP 14 P.sy, cellP 15 P.lw, cellP 16 P.pa,
  rowsP P.po, rowsP P.ad, rowsP P.da, rowsP P.ct, rowsP P.fe, rowsP P.sy, rowsP P.lw, rowsP P.pa]
def wEnv (n next : Nat) : Env := [(0, .ptr 0 12 0 0), (6, .d (.int .i64 n)), (7, .ptr 1 1 0 0), (8, .ptr 2 1 0 0), (9, .ptr 3 1 0 0), (10, .ptr 4 1 0 0), (11, .ptr 5 1 0 0), (12, .ptr 6 1 0 0), (13, .ptr 7 1 0 0), (14, .ptr 8 1 0 0), (15, .d (.int .i64 next))]
def XG.obj (x : XG) : HO := .vec 12 [[.d (.list (x.nodes.map ActG.row) x.nf), .d (lsX x.po), .d (lsX x.rf), .d (lsX x.co), .d (lsX x.fr), .d (lsX x.addr), .d (lsX x.data), .d (lsX x.ctrl), .d (lsX x.fenced), .d (lsX x.sync), .d (lsX x.lwsync), .d (lsX x.pairs)]]
def addP (c : Bool) (l : List RatG) (a b : Nat) : List RatG := if c = true then l ++ [⟨a, b⟩] else l
theorem addP_t {l : List RatG} {a b : Nat} : addP true l a b = l ++ [⟨a, b⟩] := rfl
theorem addP_f {l : List RatG} {a b : Nat} : addP false l a b = l := rfl
/-- The four masks, one after the other. -/
def P8.four (P : P8) (e : EvG) (p m next : Nat) : Nat → P8
  | 0 => P
  | 1 => { P with ad := addP (e.addr.getLsbD p) P.ad m next }
  | 2 => { P with ad := addP (e.addr.getLsbD p) P.ad m next, da := addP (e.data.getLsbD p) P.da m next }
  | 3 => { P with ad := addP (e.addr.getLsbD p) P.ad m next, da := addP (e.data.getLsbD p) P.da m next, ct := addP (e.ctrl.getLsbD p) P.ct m next }
  | _ => { P with ad := addP (e.addr.getLsbD p) P.ad m next, da := addP (e.data.getLsbD p) P.da m next, ct := addP (e.ctrl.getLsbD p) P.ct m next, fe := addP (e.fenced.getLsbD p) P.fe m next }
structure P8.Few (P : P8) (n : Nat) : Prop where
  po : P.po.length ≤ n
  ad : P.ad.length ≤ n
  da : P.da.length ≤ n
  ct : P.ct.length ≤ n
  fe : P.fe.length ≤ n
  sy : P.sy.length ≤ n
  lw : P.lw.length ≤ n
  pa : P.pa.length ≤ n
/-- What the walk through the earlier events knows. -/
structure WX where
  x : XG
  runs : List RunG
  g : Bool
  t : Nat
  evs : List EvG
  eg : Bool
  i : Nat
  e : EvG
  fe : Int
  li : Int
  es : List (Int × Int)
  next : Nat
def WX.env (y : WX) : Env := wEnv y.x.nodes.length y.next ++ [(18, .mapr 17), (19, .d (.int .i64 y.fe)), (20, .d (.int .i64 y.li)), (21, .d (.int .i64 y.i)), (22, .ptr 18 8 0 0), (34, .d (.list (y.runs.map RunG.row) y.g)), (35, .d (.int .i64 y.runs.length)), (36, .d (.int .i64 y.t)),
  (42, .d (.list (y.evs.map EvG.row) y.eg)), (43, .d (.int .i64 y.evs.length)), (44, .d (.int .i64 y.i)), (61, .ptr 19 1 0 0)]
def EvG.obj (e : EvG) : HO := .vec 8 [[.d (.int .i64 e.kind), .d (.int .i64 e.loc), .d (.int .i64 e.val), .d (.int .i64 e.pair), .d (.int .u64 (e.addr.toNat : Int)), .d (.int .u64 (e.data.toNat : Int)), .d (.int .u64 (e.ctrl.toNat : Int)), .d (.int .u64 (e.fenced.toNat : Int))]]
def WX.heap (y : WX) (P : P8) (seen : List Nat) : Heap := P.heap y.x.obj ++ [.mapo y.es, y.e.obj, .iter 17 y.es.length seen]
def four (e : EvG) : HO := .vec 2 [[.d (.int .u64 (e.addr.toNat : Int)), .ptr 2 1 0 0], [.d (.int .u64 (e.data.toNat : Int)), .ptr 3 1 0 0], [.d (.int .u64 (e.ctrl.toNat : Int)), .ptr 4 1 0 0], [.d (.int .u64 (e.fenced.toNat : Int)), .ptr 5 1 0 0]]
def fourS (y : WX) (seen : List Nat) (p m : Nat) (R : P8) (j : Nat) : State :=
  ⟨y.env ++ [(23, .d (.int .i64 p)), (24, .d (.int .i64 m)), (25, .d (.int .u64 ((1#64 <<< p).toNat : Int))), (110, .ref 20 2 0 4 true), (111, .d (.int .i64 4)), (112, .d (.int .i64 j))], y.heap R seen ++ [four y.e]⟩
def fourSt (y : WX) (seen : List Nat) (p m : Nat) (P : P8) (j : Nat) : State := fourS y seen p m (P.four y.e p m y.next j) j
def fourK (y : WX) (seen : List Nat) (p m : Nat) (R : P8) : State :=
  ⟨(113, .d (.bool false)) :: (((fourS y seen p m R 4).app (some 113) ⟨.d (.bool (decide (((4 : Nat) : Int) < 4))), [], []⟩).prune Z31).env, (fourS y seen p m R 4).heap⟩
theorem and_bit {a : W} {p : Nat} (hp : p < 64) : (a &&& 1#64 <<< p = 0#64) ↔ a.getLsbD p = false := by
  constructor
  · intro h
    have : (a &&& 1#64 <<< p).getLsbD p = false := by rw [h]; simp
    rw [BitVec.getLsbD_and, BitVec.getLsbD_shiftLeft] at this
    simpa [hp] using this
  · intro h
    apply BitVec.eq_of_getLsbD_eq
    intro k hk
    rw [BitVec.getLsbD_and, BitVec.getLsbD_shiftLeft, BitVec.getLsbD_zero]
    by_cases e : k = p
    · subst e; rw [h]; rfl
    · by_cases hl : k < p
      · simp [hl]
      · have : k - p ≠ 0 := by omega
        simp [this]
def liveY : List Nat := [0, 6, 7, 8, 9, 10, 11, 12, 13, 14, 15, 18, 19, 20, 21, 22, 34, 35, 36, 42, 43, 44, 61, 23, 24, 25, 110, 111, 112]
theorem bit_no {a : W} {p : Nat} (hp : p < 64) (h : a &&& 1#64 <<< p = 0#64) : a.getLsbD p = false := (and_bit hp).1 h
theorem bit_yes {a : W} {p : Nat} (hp : p < 64) (h : ¬ a &&& 1#64 <<< p = 0#64) : a.getLsbD p = true := by
  cases e : a.getLsbD p
  · exact absurd ((and_bit hp).2 e) h
  · rfl
set_option maxHeartbeats 4000000 in
theorem w_four {T : Tab} {n3 : Nat} (k3 : KnowsG T n3 addE) (y : WX) (seen : List Nat) (p m : Nat) (P : P8) (hp : p < 64) (hP : P.Few 100000) (K : AExit → State → Prop)
    (S : State) (ρ : List Nat) (h1 : ρ.Nodup) (h2 : ∀ i ∈ ρ, i < S.heap.length) (h3 : S.can ρ liveY = fourSt y seen p m P 0) (h0 : ρ[0]? = some 0)
    (hK : K (.exit 7) (fourK y seen p m (P.four y.e p m y.next 4))) : Loop T 1 Z31 (L_cand_within_y n3) S K := by
  have G3 := k3.G
  obtain ⟨_, p1, p2, p3, p4, _, _, _⟩ := hP
  refine Loop.fam1 liveY (fourSt y seen p m P) (fun j => j ≤ 4) (fun j => 4 - j) 0 ρ h1 h2 h3 (by omega) ?_ h0
  intro j hj
  have hj : j ≤ 4 := hj
  obtain rfl | rfl | rfl | rfl | rfl : j = 0 ∨ j = 1 ∨ j = 2 ∨ j = 3 ∨ j = 4 := by omega
  · unfold L_cand_within_y Z31
    simp (maxSteps := 3000000) only [fourSt, fourS, WX.env, WX.heap, wEnv, P8.heap, P8.four, cellP, rowsP, four, XG.obj, lsX, EvG.obj, List.cons_append, List.nil_append, ↓Z1r, ↓Z2x, ↓Z1x, ↓Z07, ↓Z2p, ↓Z2l, nilG_d, nilG_r, ↓Z2b, ↓Z1q, ↓Z13, ↓Z1y, ↓Z16, ↓Z2a, ↓Z34, ↓Z33, ↓Z20, ↓Z1w, ↓Z2g, ↓Z2c, ↓Z29, ↓Z3t, ↓retK_n, ↓Z3e, ↓Z3g, ↓Z3f, ↓Z46, ↓Z41, ↓famK_r, ↓Z0g, ↓Z06, ↓Z19, ↓Z0k, ↓Z1g, nf_mk, Z0f, Z17, Z3j, Z18, Z3m, evN, Z2v, Z28, Z3l, Z47, Z27, Z1b, Z22, Z2o, Z2d, Z23, Z1h, Z2z, evT, Opd.ev, Z03, Z00, Z3k, Z44, Z3x, Z1z, Z1f, Z2w, Z30, Z3c, Z1u, Z0j, Z3p, LOp.isNew, State.prune, Z3n, Z2y, AV.leaf, Heap.at, Z0i, Z09, Z1c, Z0d, Z02, idx_I, idx_W, rowW, Z26, Z2q, Z1s, Z1a, rowB, Z2t, Z2s, rowN, lens_W, Z3h, Z1d, Z15, w_or, w_and, Z2u, w_and1, w_shl, Z48, w_shr, Z49, w_neg, w_add, w_bit, w_eq0, w_eq1, w_eq, Bool.decide_eq_true, Z39, Z3b, Z3a, Z2h, Z1i, Z04, Z0a, Z0l, Z01, Z1v, rowI, RatG.row, LocG.row, ActG.row, StepG.row, StampG.row, ActG.av, ActG.eta, RatG.eta, LocG.eta, beq_true, beq_false, Z2e, Z2n, Z2f, Z2m, Z12, Z0o, Z10, Z11, Z0n, Z0m, Z0b, List.length_set, List.length_replicate, Z08, Int.reduceToNat, evLen, Z21, Z3w, Src.all, Src.len, Src.leaf, Src.leafN, Z36, Z42, joinV, Z0h, Z0p, Z0q, Z0r, Z0s, Z0t, Z0u, Z0v, mkVec, drows, evMk, List.length_map, Z1p, Z1t, List.take_length, List.take_left, List.length_append, Nat.le_add_right, ite_self, List.take_of_length_le, Z37, intOr, Z3z, Option.isSome_none, Option.isSome_some, Nat.sub_zero, loadQ, loadT, evBin, evUn, Z0w, Z0x, binT, binQ, chk, Z3s, List.contains_cons, List.contains_nil, Bool.or_false, Bool.false_or, Bool.and_self, resQ, resV, resT, pickV, Z2r, Z45, Z3o, fnOf, Z3i, isD, HO.drow, viewT, Z3u, evEq, eqV, eqK, eqC1, Z43, Z40, Z35, Z32, lens_I, Z3d, Z2k, Z1l, Z2j, Z1k, Z2i, Z1j, Z1m, Z0y, Z0z, Z0c, List.mem_cons, List.not_mem_nil, or_false, forall_eq, putRow, Z38, get_nil, RetS, RetF, RetD, AV.frz, AV.frzL, AV.freshP, AV.freshL, DV.less, Z24, Z1n, Z25, Z1o, Z0e, Z05, Option.some.injEq, AV.tup.injEq, AV.agg.injEq, List.cons.injEq, DV.list.injEq, List.isEmpty_nil, Nat.le_refl, AV.d.injEq, DV.int.injEq, DV.bool.injEq, ↓reduceIte, Nat.reduceEqDiff, Nat.reduceAdd, Nat.reduceBEq, List.length_cons, List.length_nil, List.replicate_succ, List.replicate_zero, List.nil_append, List.cons_append, List.append_nil, List.foldl_cons, List.foldl_nil, List.map_cons, List.map_nil, List.all_cons, List.all_nil, List.set_cons_zero, List.set_cons_succ, List.getD_cons_zero, List.getD_cons_succ, List.drop_zero, List.drop_succ_cons, List.take_succ_cons, List.take_zero, List.flatten_cons, List.flatten_nil, Bool.true_and, Bool.and_true, Bool.not_true, Bool.not_false, true_and, and_true, true_or, or_true, Option.bind_some, Option.map_some, decide_true, decide_false, beq_self_eq_true, true_implies, false_implies, implies_true, not_true_eq_false, not_false_eq_true, and_self, Bool.and_false, Bool.false_and, Nat.reduceLT, Nat.reduceLeDiff, List.reverse_cons, List.reverse_nil, Nat.zero_add, Nat.add_zero, Bool.false_eq_true, List.getElem?_cons_zero, Nat.reduceMul, Nat.mul_one, G3, addE, addE1, addE2, famK1_n, famK1_x, famK1_r]
    refine ⟨fun _ => ⟨⟨by omega, by omega⟩, fun hb => ?_, fun hb => ⟨⟨by decide, roomy_of (by omega) (by omega)⟩, ?_⟩⟩, fun h => absurd h (by decide)⟩
    · exact FamN1.mk [0, 1, 2, 3, 4, 5, 6, 7, 8, 9, 10, 11, 12, 13, 14, 15, 16, 17, 18, 19, 20] 1 (by decide) (by simp) (by simp only [liveY, fourSt, fourS, WX.env, WX.heap, wEnv, P8.heap, P8.four, cellP, rowsP, four, XG.obj, lsX, EvG.obj, List.cons_append, List.nil_append, bit_no hp hb, addP_f, State.can, AV.can, AV.canL, HO.can, Z1e, idx, Z03, Z00, Heap.at, Nat.reduceBEq, ↓reduceIte, Nat.reduceEqDiff, Option.getD_some, Option.map_some, List.map_cons, List.map_nil, List.getD_cons_zero, List.getD_cons_succ]; rfl) (by show 1 ≤ 4; omega) (by show 4 - 1 < 4 - 0; omega)
    · exact FamN1.mk [0, 1, 2, 3, 4, 5, 6, 7, 8, 9, 22, 11, 12, 13, 14, 15, 16, 17, 18, 19, 20] 1 (by decide) (by simp) (by simp only [liveY, fourSt, fourS, WX.env, WX.heap, wEnv, P8.heap, P8.four, cellP, rowsP, four, XG.obj, lsX, EvG.obj, List.cons_append, List.nil_append, bit_yes hp hb, addP_t, State.can, AV.can, AV.canL, HO.can, Z1e, idx, Z03, Z00, Heap.at, Nat.reduceBEq, ↓reduceIte, Nat.reduceEqDiff, Option.getD_some, Option.map_some, List.map_cons, List.map_nil, List.getD_cons_zero, List.getD_cons_succ, List.length_append, List.length_singleton]; rfl) (by show 1 ≤ 4; omega) (by show 4 - 1 < 4 - 0; omega)
  · unfold L_cand_within_y Z31
    simp (maxSteps := 3000000) only [fourSt, fourS, WX.env, WX.heap, wEnv, P8.heap, P8.four, cellP, rowsP, four, XG.obj, lsX, EvG.obj, List.cons_append, List.nil_append, ↓Z1r, ↓Z2x, ↓Z1x, ↓Z07, ↓Z2p, ↓Z2l, nilG_d, nilG_r, ↓Z2b, ↓Z1q, ↓Z13, ↓Z1y, ↓Z16, ↓Z2a, ↓Z34, ↓Z33, ↓Z20, ↓Z1w, ↓Z2g, ↓Z2c, ↓Z29, ↓Z3t, ↓retK_n, ↓Z3e, ↓Z3g, ↓Z3f, ↓Z46, ↓Z41, ↓famK_r, ↓Z0g, ↓Z06, ↓Z19, ↓Z0k, ↓Z1g, nf_mk, Z0f, Z17, Z3j, Z18, Z3m, evN, Z2v, Z28, Z3l, Z47, Z27, Z1b, Z22, Z2o, Z2d, Z23, Z1h, Z2z, evT, Opd.ev, Z03, Z00, Z3k, Z44, Z3x, Z1z, Z1f, Z2w, Z30, Z3c, Z1u, Z0j, Z3p, LOp.isNew, State.prune, Z3n, Z2y, AV.leaf, Heap.at, Z0i, Z09, Z1c, Z0d, Z02, idx_I, idx_W, rowW, Z26, Z2q, Z1s, Z1a, rowB, Z2t, Z2s, rowN, lens_W, Z3h, Z1d, Z15, w_or, w_and, Z2u, w_and1, w_shl, Z48, w_shr, Z49, w_neg, w_add, w_bit, w_eq0, w_eq1, w_eq, Bool.decide_eq_true, Z39, Z3b, Z3a, Z2h, Z1i, Z04, Z0a, Z0l, Z01, Z1v, rowI, RatG.row, LocG.row, ActG.row, StepG.row, StampG.row, ActG.av, ActG.eta, RatG.eta, LocG.eta, beq_true, beq_false, Z2e, Z2n, Z2f, Z2m, Z12, Z0o, Z10, Z11, Z0n, Z0m, Z0b, List.length_set, List.length_replicate, Z08, Int.reduceToNat, evLen, Z21, Z3w, Src.all, Src.len, Src.leaf, Src.leafN, Z36, Z42, joinV, Z0h, Z0p, Z0q, Z0r, Z0s, Z0t, Z0u, Z0v, mkVec, drows, evMk, List.length_map, Z1p, Z1t, List.take_length, List.take_left, List.length_append, Nat.le_add_right, ite_self, List.take_of_length_le, Z37, intOr, Z3z, Option.isSome_none, Option.isSome_some, Nat.sub_zero, loadQ, loadT, evBin, evUn, Z0w, Z0x, binT, binQ, chk, Z3s, List.contains_cons, List.contains_nil, Bool.or_false, Bool.false_or, Bool.and_self, resQ, resV, resT, pickV, Z2r, Z45, Z3o, fnOf, Z3i, isD, HO.drow, viewT, Z3u, evEq, eqV, eqK, eqC1, Z43, Z40, Z35, Z32, lens_I, Z3d, Z2k, Z1l, Z2j, Z1k, Z2i, Z1j, Z1m, Z0y, Z0z, Z0c, List.mem_cons, List.not_mem_nil, or_false, forall_eq, putRow, Z38, get_nil, RetS, RetF, RetD, AV.frz, AV.frzL, AV.freshP, AV.freshL, DV.less, Z24, Z1n, Z25, Z1o, Z0e, Z05, Option.some.injEq, AV.tup.injEq, AV.agg.injEq, List.cons.injEq, DV.list.injEq, List.isEmpty_nil, Nat.le_refl, AV.d.injEq, DV.int.injEq, DV.bool.injEq, ↓reduceIte, Nat.reduceEqDiff, Nat.reduceAdd, Nat.reduceBEq, List.length_cons, List.length_nil, List.replicate_succ, List.replicate_zero, List.nil_append, List.cons_append, List.append_nil, List.foldl_cons, List.foldl_nil, List.map_cons, List.map_nil, List.all_cons, List.all_nil, List.set_cons_zero, List.set_cons_succ, List.getD_cons_zero, List.getD_cons_succ, List.drop_zero, List.drop_succ_cons, List.take_succ_cons, List.take_zero, List.flatten_cons, List.flatten_nil, Bool.true_and, Bool.and_true, Bool.not_true, Bool.not_false, true_and, and_true, true_or, or_true, Option.bind_some, Option.map_some, decide_true, decide_false, beq_self_eq_true, true_implies, false_implies, implies_true, not_true_eq_false, not_false_eq_true, and_self, Bool.and_false, Bool.false_and, Nat.reduceLT, Nat.reduceLeDiff, List.reverse_cons, List.reverse_nil, Nat.zero_add, Nat.add_zero, Bool.false_eq_true, List.getElem?_cons_zero, Nat.reduceMul, Nat.mul_one, G3, addE, addE1, addE2, famK1_n, famK1_x, famK1_r]
    refine ⟨fun _ => ⟨⟨by omega, by omega⟩, fun hb => ?_, fun hb => ⟨⟨by decide, roomy_of (by omega) (by omega)⟩, ?_⟩⟩, fun h => absurd h (by decide)⟩
    · exact FamN1.mk [0, 1, 2, 3, 4, 5, 6, 7, 8, 9, 10, 11, 12, 13, 14, 15, 16, 17, 18, 19, 20] 2 (by decide) (by simp) (by simp only [liveY, fourSt, fourS, WX.env, WX.heap, wEnv, P8.heap, P8.four, cellP, rowsP, four, XG.obj, lsX, EvG.obj, List.cons_append, List.nil_append, bit_no hp hb, addP_f, State.can, AV.can, AV.canL, HO.can, Z1e, idx, Z03, Z00, Heap.at, Nat.reduceBEq, ↓reduceIte, Nat.reduceEqDiff, Option.getD_some, Option.map_some, List.map_cons, List.map_nil, List.getD_cons_zero, List.getD_cons_succ]; rfl) (by show 2 ≤ 4; omega) (by show 4 - 2 < 4 - 1; omega)
    · exact FamN1.mk [0, 1, 2, 3, 4, 5, 6, 7, 8, 9, 10, 22, 12, 13, 14, 15, 16, 17, 18, 19, 20] 2 (by decide) (by simp) (by simp only [liveY, fourSt, fourS, WX.env, WX.heap, wEnv, P8.heap, P8.four, cellP, rowsP, four, XG.obj, lsX, EvG.obj, List.cons_append, List.nil_append, bit_yes hp hb, addP_t, State.can, AV.can, AV.canL, HO.can, Z1e, idx, Z03, Z00, Heap.at, Nat.reduceBEq, ↓reduceIte, Nat.reduceEqDiff, Option.getD_some, Option.map_some, List.map_cons, List.map_nil, List.getD_cons_zero, List.getD_cons_succ, List.length_append, List.length_singleton]; rfl) (by show 2 ≤ 4; omega) (by show 4 - 2 < 4 - 1; omega)
  · unfold L_cand_within_y Z31
    simp (maxSteps := 3000000) only [fourSt, fourS, WX.env, WX.heap, wEnv, P8.heap, P8.four, cellP, rowsP, four, XG.obj, lsX, EvG.obj, List.cons_append, List.nil_append, ↓Z1r, ↓Z2x, ↓Z1x, ↓Z07, ↓Z2p, ↓Z2l, nilG_d, nilG_r, ↓Z2b, ↓Z1q, ↓Z13, ↓Z1y, ↓Z16, ↓Z2a, ↓Z34, ↓Z33, ↓Z20, ↓Z1w, ↓Z2g, ↓Z2c, ↓Z29, ↓Z3t, ↓retK_n, ↓Z3e, ↓Z3g, ↓Z3f, ↓Z46, ↓Z41, ↓famK_r, ↓Z0g, ↓Z06, ↓Z19, ↓Z0k, ↓Z1g, nf_mk, Z0f, Z17, Z3j, Z18, Z3m, evN, Z2v, Z28, Z3l, Z47, Z27, Z1b, Z22, Z2o, Z2d, Z23, Z1h, Z2z, evT, Opd.ev, Z03, Z00, Z3k, Z44, Z3x, Z1z, Z1f, Z2w, Z30, Z3c, Z1u, Z0j, Z3p, LOp.isNew, State.prune, Z3n, Z2y, AV.leaf, Heap.at, Z0i, Z09, Z1c, Z0d, Z02, idx_I, idx_W, rowW, Z26, Z2q, Z1s, Z1a, rowB, Z2t, Z2s, rowN, lens_W, Z3h, Z1d, Z15, w_or, w_and, Z2u, w_and1, w_shl, Z48, w_shr, Z49, w_neg, w_add, w_bit, w_eq0, w_eq1, w_eq, Bool.decide_eq_true, Z39, Z3b, Z3a, Z2h, Z1i, Z04, Z0a, Z0l, Z01, Z1v, rowI, RatG.row, LocG.row, ActG.row, StepG.row, StampG.row, ActG.av, ActG.eta, RatG.eta, LocG.eta, beq_true, beq_false, Z2e, Z2n, Z2f, Z2m, Z12, Z0o, Z10, Z11, Z0n, Z0m, Z0b, List.length_set, List.length_replicate, Z08, Int.reduceToNat, evLen, Z21, Z3w, Src.all, Src.len, Src.leaf, Src.leafN, Z36, Z42, joinV, Z0h, Z0p, Z0q, Z0r, Z0s, Z0t, Z0u, Z0v, mkVec, drows, evMk, List.length_map, Z1p, Z1t, List.take_length, List.take_left, List.length_append, Nat.le_add_right, ite_self, List.take_of_length_le, Z37, intOr, Z3z, Option.isSome_none, Option.isSome_some, Nat.sub_zero, loadQ, loadT, evBin, evUn, Z0w, Z0x, binT, binQ, chk, Z3s, List.contains_cons, List.contains_nil, Bool.or_false, Bool.false_or, Bool.and_self, resQ, resV, resT, pickV, Z2r, Z45, Z3o, fnOf, Z3i, isD, HO.drow, viewT, Z3u, evEq, eqV, eqK, eqC1, Z43, Z40, Z35, Z32, lens_I, Z3d, Z2k, Z1l, Z2j, Z1k, Z2i, Z1j, Z1m, Z0y, Z0z, Z0c, List.mem_cons, List.not_mem_nil, or_false, forall_eq, putRow, Z38, get_nil, RetS, RetF, RetD, AV.frz, AV.frzL, AV.freshP, AV.freshL, DV.less, Z24, Z1n, Z25, Z1o, Z0e, Z05, Option.some.injEq, AV.tup.injEq, AV.agg.injEq, List.cons.injEq, DV.list.injEq, List.isEmpty_nil, Nat.le_refl, AV.d.injEq, DV.int.injEq, DV.bool.injEq, ↓reduceIte, Nat.reduceEqDiff, Nat.reduceAdd, Nat.reduceBEq, List.length_cons, List.length_nil, List.replicate_succ, List.replicate_zero, List.nil_append, List.cons_append, List.append_nil, List.foldl_cons, List.foldl_nil, List.map_cons, List.map_nil, List.all_cons, List.all_nil, List.set_cons_zero, List.set_cons_succ, List.getD_cons_zero, List.getD_cons_succ, List.drop_zero, List.drop_succ_cons, List.take_succ_cons, List.take_zero, List.flatten_cons, List.flatten_nil, Bool.true_and, Bool.and_true, Bool.not_true, Bool.not_false, true_and, and_true, true_or, or_true, Option.bind_some, Option.map_some, decide_true, decide_false, beq_self_eq_true, true_implies, false_implies, implies_true, not_true_eq_false, not_false_eq_true, and_self, Bool.and_false, Bool.false_and, Nat.reduceLT, Nat.reduceLeDiff, List.reverse_cons, List.reverse_nil, Nat.zero_add, Nat.add_zero, Bool.false_eq_true, List.getElem?_cons_zero, Nat.reduceMul, Nat.mul_one, G3, addE, addE1, addE2, famK1_n, famK1_x, famK1_r]
    refine ⟨fun _ => ⟨⟨by omega, by omega⟩, fun hb => ?_, fun hb => ⟨⟨by decide, roomy_of (by omega) (by omega)⟩, ?_⟩⟩, fun h => absurd h (by decide)⟩
    · exact FamN1.mk [0, 1, 2, 3, 4, 5, 6, 7, 8, 9, 10, 11, 12, 13, 14, 15, 16, 17, 18, 19, 20] 3 (by decide) (by simp) (by simp only [liveY, fourSt, fourS, WX.env, WX.heap, wEnv, P8.heap, P8.four, cellP, rowsP, four, XG.obj, lsX, EvG.obj, List.cons_append, List.nil_append, bit_no hp hb, addP_f, State.can, AV.can, AV.canL, HO.can, Z1e, idx, Z03, Z00, Heap.at, Nat.reduceBEq, ↓reduceIte, Nat.reduceEqDiff, Option.getD_some, Option.map_some, List.map_cons, List.map_nil, List.getD_cons_zero, List.getD_cons_succ]; rfl) (by show 3 ≤ 4; omega) (by show 4 - 3 < 4 - 2; omega)
    · exact FamN1.mk [0, 1, 2, 3, 4, 5, 6, 7, 8, 9, 10, 11, 22, 13, 14, 15, 16, 17, 18, 19, 20] 3 (by decide) (by simp) (by simp only [liveY, fourSt, fourS, WX.env, WX.heap, wEnv, P8.heap, P8.four, cellP, rowsP, four, XG.obj, lsX, EvG.obj, List.cons_append, List.nil_append, bit_yes hp hb, addP_t, State.can, AV.can, AV.canL, HO.can, Z1e, idx, Z03, Z00, Heap.at, Nat.reduceBEq, ↓reduceIte, Nat.reduceEqDiff, Option.getD_some, Option.map_some, List.map_cons, List.map_nil, List.getD_cons_zero, List.getD_cons_succ, List.length_append, List.length_singleton]; rfl) (by show 3 ≤ 4; omega) (by show 4 - 3 < 4 - 2; omega)
  · unfold L_cand_within_y Z31
    simp (maxSteps := 3000000) only [fourSt, fourS, WX.env, WX.heap, wEnv, P8.heap, P8.four, cellP, rowsP, four, XG.obj, lsX, EvG.obj, List.cons_append, List.nil_append, ↓Z1r, ↓Z2x, ↓Z1x, ↓Z07, ↓Z2p, ↓Z2l, nilG_d, nilG_r, ↓Z2b, ↓Z1q, ↓Z13, ↓Z1y, ↓Z16, ↓Z2a, ↓Z34, ↓Z33, ↓Z20, ↓Z1w, ↓Z2g, ↓Z2c, ↓Z29, ↓Z3t, ↓retK_n, ↓Z3e, ↓Z3g, ↓Z3f, ↓Z46, ↓Z41, ↓famK_r, ↓Z0g, ↓Z06, ↓Z19, ↓Z0k, ↓Z1g, nf_mk, Z0f, Z17, Z3j, Z18, Z3m, evN, Z2v, Z28, Z3l, Z47, Z27, Z1b, Z22, Z2o, Z2d, Z23, Z1h, Z2z, evT, Opd.ev, Z03, Z00, Z3k, Z44, Z3x, Z1z, Z1f, Z2w, Z30, Z3c, Z1u, Z0j, Z3p, LOp.isNew, State.prune, Z3n, Z2y, AV.leaf, Heap.at, Z0i, Z09, Z1c, Z0d, Z02, idx_I, idx_W, rowW, Z26, Z2q, Z1s, Z1a, rowB, Z2t, Z2s, rowN, lens_W, Z3h, Z1d, Z15, w_or, w_and, Z2u, w_and1, w_shl, Z48, w_shr, Z49, w_neg, w_add, w_bit, w_eq0, w_eq1, w_eq, Bool.decide_eq_true, Z39, Z3b, Z3a, Z2h, Z1i, Z04, Z0a, Z0l, Z01, Z1v, rowI, RatG.row, LocG.row, ActG.row, StepG.row, StampG.row, ActG.av, ActG.eta, RatG.eta, LocG.eta, beq_true, beq_false, Z2e, Z2n, Z2f, Z2m, Z12, Z0o, Z10, Z11, Z0n, Z0m, Z0b, List.length_set, List.length_replicate, Z08, Int.reduceToNat, evLen, Z21, Z3w, Src.all, Src.len, Src.leaf, Src.leafN, Z36, Z42, joinV, Z0h, Z0p, Z0q, Z0r, Z0s, Z0t, Z0u, Z0v, mkVec, drows, evMk, List.length_map, Z1p, Z1t, List.take_length, List.take_left, List.length_append, Nat.le_add_right, ite_self, List.take_of_length_le, Z37, intOr, Z3z, Option.isSome_none, Option.isSome_some, Nat.sub_zero, loadQ, loadT, evBin, evUn, Z0w, Z0x, binT, binQ, chk, Z3s, List.contains_cons, List.contains_nil, Bool.or_false, Bool.false_or, Bool.and_self, resQ, resV, resT, pickV, Z2r, Z45, Z3o, fnOf, Z3i, isD, HO.drow, viewT, Z3u, evEq, eqV, eqK, eqC1, Z43, Z40, Z35, Z32, lens_I, Z3d, Z2k, Z1l, Z2j, Z1k, Z2i, Z1j, Z1m, Z0y, Z0z, Z0c, List.mem_cons, List.not_mem_nil, or_false, forall_eq, putRow, Z38, get_nil, RetS, RetF, RetD, AV.frz, AV.frzL, AV.freshP, AV.freshL, DV.less, Z24, Z1n, Z25, Z1o, Z0e, Z05, Option.some.injEq, AV.tup.injEq, AV.agg.injEq, List.cons.injEq, DV.list.injEq, List.isEmpty_nil, Nat.le_refl, AV.d.injEq, DV.int.injEq, DV.bool.injEq, ↓reduceIte, Nat.reduceEqDiff, Nat.reduceAdd, Nat.reduceBEq, List.length_cons, List.length_nil, List.replicate_succ, List.replicate_zero, List.nil_append, List.cons_append, List.append_nil, List.foldl_cons, List.foldl_nil, List.map_cons, List.map_nil, List.all_cons, List.all_nil, List.set_cons_zero, List.set_cons_succ, List.getD_cons_zero, List.getD_cons_succ, List.drop_zero, List.drop_succ_cons, List.take_succ_cons, List.take_zero, List.flatten_cons, List.flatten_nil, Bool.true_and, Bool.and_true, Bool.not_true, Bool.not_false, true_and, and_true, true_or, or_true, Option.bind_some, Option.map_some, decide_true, decide_false, beq_self_eq_true, true_implies, false_implies, implies_true, not_true_eq_false, not_false_eq_true, and_self, Bool.and_false, Bool.false_and, Nat.reduceLT, Nat.reduceLeDiff, List.reverse_cons, List.reverse_nil, Nat.zero_add, Nat.add_zero, Bool.false_eq_true, List.getElem?_cons_zero, Nat.reduceMul, Nat.mul_one, G3, addE, addE1, addE2, famK1_n, famK1_x, famK1_r]
    refine ⟨fun _ => ⟨⟨by omega, by omega⟩, fun hb => ?_, fun hb => ⟨⟨by decide, roomy_of (by omega) (by omega)⟩, ?_⟩⟩, fun h => absurd h (by decide)⟩
    · exact FamN1.mk [0, 1, 2, 3, 4, 5, 6, 7, 8, 9, 10, 11, 12, 13, 14, 15, 16, 17, 18, 19, 20] 4 (by decide) (by simp) (by simp only [liveY, fourSt, fourS, WX.env, WX.heap, wEnv, P8.heap, P8.four, cellP, rowsP, four, XG.obj, lsX, EvG.obj, List.cons_append, List.nil_append, bit_no hp hb, addP_f, State.can, AV.can, AV.canL, HO.can, Z1e, idx, Z03, Z00, Heap.at, Nat.reduceBEq, ↓reduceIte, Nat.reduceEqDiff, Option.getD_some, Option.map_some, List.map_cons, List.map_nil, List.getD_cons_zero, List.getD_cons_succ]; rfl) (by show 4 ≤ 4; omega) (by show 4 - 4 < 4 - 3; omega)
    · exact FamN1.mk [0, 1, 2, 3, 4, 5, 6, 7, 8, 9, 10, 11, 12, 22, 14, 15, 16, 17, 18, 19, 20] 4 (by decide) (by simp) (by simp only [liveY, fourSt, fourS, WX.env, WX.heap, wEnv, P8.heap, P8.four, cellP, rowsP, four, XG.obj, lsX, EvG.obj, List.cons_append, List.nil_append, bit_yes hp hb, addP_t, State.can, AV.can, AV.canL, HO.can, Z1e, idx, Z03, Z00, Heap.at, Nat.reduceBEq, ↓reduceIte, Nat.reduceEqDiff, Option.getD_some, Option.map_some, List.map_cons, List.map_nil, List.getD_cons_zero, List.getD_cons_succ, List.length_append, List.length_singleton]; rfl) (by show 4 ≤ 4; omega) (by show 4 - 4 < 4 - 3; omega)
  · unfold L_cand_within_y Z31
    unfold fourK Z31 at hK
    simp (maxSteps := 3000000) only [fourSt, fourS, WX.env, WX.heap, wEnv, P8.heap, P8.four, cellP, rowsP, four, XG.obj, lsX, EvG.obj, List.cons_append, List.nil_append, ↓Z1r, ↓Z2x, ↓Z1x, ↓Z07, ↓Z2p, ↓Z2l, nilG_d, nilG_r, ↓Z2b, ↓Z1q, ↓Z13, ↓Z1y, ↓Z16, ↓Z2a, ↓Z34, ↓Z33, ↓Z20, ↓Z1w, ↓Z2g, ↓Z2c, ↓Z29, ↓Z3t, ↓retK_n, ↓Z3e, ↓Z3g, ↓Z3f, ↓Z46, ↓Z41, ↓famK_r, ↓Z0g, ↓Z06, ↓Z19, ↓Z0k, ↓Z1g, nf_mk, Z0f, Z17, Z3j, Z18, Z3m, evN, Z2v, Z28, Z3l, Z47, Z27, Z1b, Z22, Z2o, Z2d, Z23, Z1h, Z2z, evT, Opd.ev, Z03, Z00, Z3k, Z44, Z3x, Z1z, Z1f, Z2w, Z30, Z3c, Z1u, Z0j, Z3p, LOp.isNew, State.prune, Z3n, Z2y, AV.leaf, Heap.at, Z0i, Z09, Z1c, Z0d, Z02, idx_I, idx_W, rowW, Z26, Z2q, Z1s, Z1a, rowB, Z2t, Z2s, rowN, lens_W, Z3h, Z1d, Z15, w_or, w_and, Z2u, w_and1, w_shl, Z48, w_shr, Z49, w_neg, w_add, w_bit, w_eq0, w_eq1, w_eq, Bool.decide_eq_true, Z39, Z3b, Z3a, Z2h, Z1i, Z04, Z0a, Z0l, Z01, Z1v, rowI, RatG.row, LocG.row, ActG.row, StepG.row, StampG.row, ActG.av, ActG.eta, RatG.eta, LocG.eta, beq_true, beq_false, Z2e, Z2n, Z2f, Z2m, Z12, Z0o, Z10, Z11, Z0n, Z0m, Z0b, List.length_set, List.length_replicate, Z08, Int.reduceToNat, evLen, Z21, Z3w, Src.all, Src.len, Src.leaf, Src.leafN, Z36, Z42, joinV, Z0h, Z0p, Z0q, Z0r, Z0s, Z0t, Z0u, Z0v, mkVec, drows, evMk, List.length_map, Z1p, Z1t, List.take_length, List.take_left, List.length_append, Nat.le_add_right, ite_self, List.take_of_length_le, Z37, intOr, Z3z, Option.isSome_none, Option.isSome_some, Nat.sub_zero, loadQ, loadT, evBin, evUn, Z0w, Z0x, binT, binQ, chk, Z3s, List.contains_cons, List.contains_nil, Bool.or_false, Bool.false_or, Bool.and_self, resQ, resV, resT, pickV, Z2r, Z45, Z3o, fnOf, Z3i, isD, HO.drow, viewT, Z3u, evEq, eqV, eqK, eqC1, Z43, Z40, Z35, Z32, lens_I, Z3d, Z2k, Z1l, Z2j, Z1k, Z2i, Z1j, Z1m, Z0y, Z0z, Z0c, List.mem_cons, List.not_mem_nil, or_false, forall_eq, putRow, Z38, get_nil, RetS, RetF, RetD, AV.frz, AV.frzL, AV.freshP, AV.freshL, DV.less, Z24, Z1n, Z25, Z1o, Z0e, Z05, Option.some.injEq, AV.tup.injEq, AV.agg.injEq, List.cons.injEq, DV.list.injEq, List.isEmpty_nil, Nat.le_refl, AV.d.injEq, DV.int.injEq, DV.bool.injEq, ↓reduceIte, Nat.reduceEqDiff, Nat.reduceAdd, Nat.reduceBEq, List.length_cons, List.length_nil, List.replicate_succ, List.replicate_zero, List.nil_append, List.cons_append, List.append_nil, List.foldl_cons, List.foldl_nil, List.map_cons, List.map_nil, List.all_cons, List.all_nil, List.set_cons_zero, List.set_cons_succ, List.getD_cons_zero, List.getD_cons_succ, List.drop_zero, List.drop_succ_cons, List.take_succ_cons, List.take_zero, List.flatten_cons, List.flatten_nil, Bool.true_and, Bool.and_true, Bool.not_true, Bool.not_false, true_and, and_true, true_or, or_true, Option.bind_some, Option.map_some, decide_true, decide_false, beq_self_eq_true, true_implies, false_implies, implies_true, not_true_eq_false, not_false_eq_true, and_self, Bool.and_false, Bool.false_and, Nat.reduceLT, Nat.reduceLeDiff, List.reverse_cons, List.reverse_nil, Nat.zero_add, Nat.add_zero, Bool.false_eq_true, List.getElem?_cons_zero, Nat.reduceMul, Nat.mul_one, famK1_n, famK1_x, famK1_r] at hK ⊢
    exact ⟨fun h => absurd h (by decide), fun _ => hK⟩
end Go.Ago

/- Chapter 18: the walk through the events ahead of one. Conditions: none. -/
set_option maxRecDepth 100000
set_option linter.unusedSimpArgs false
set_option linter.unusedVariables false
namespace Go.Ago
attribute [local irreducible] vck
/-! ### The walk through the events ahead -/
def P8.head (P : P8) (y : WX) (m : Nat) : P8 := { P with po := P.po ++ [⟨m, y.next⟩], sy := addP (decide ((m : Int) < y.fe)) P.sy m y.next, lw := addP (decide ((m : Int) < y.li)) P.lw m y.next }
def P8.tail (P : P8) (y : WX) (p m : Nat) : P8 := { P with pa := addP (decide (y.e.kind = 2) && decide (y.e.pair = p + 1)) P.pa m y.next }
def P8.step (P : P8) (y : WX) (p m : Nat) : P8 := if (y.x.nodes.getD m default).loc = 1 ∧ p < 64 then ((P.head y m).four y.e p m y.next 4).tail y p m else P.head y m
def P8.many (P : P8) (y : WX) (seen : List Nat) : P8 := seen.foldl (fun P i => P.step y (y.es.getD i (0, 0)).1.toNat (y.es.getD i (0, 0)).2.toNat) P
theorem addP_le {c : Bool} {l : List RatG} {a b n : Nat} (h : l.length ≤ n) : (addP c l a b).length ≤ n + 1 := by
  cases c
  · rw [addP_f]; omega
  · rw [addP_t, List.length_append, List.length_singleton]; omega
theorem P8.Few.step {P : P8} {n : Nat} (h : P.Few n) (y : WX) (p m : Nat) : (P.step y p m).Few (n + 1) := by
  obtain ⟨h1, h2, h3, h4, h5, h6, h7, h8⟩ := h
  have hpo : (P.po ++ [(⟨m, y.next⟩ : RatG)]).length ≤ n + 1 := by rw [List.length_append, List.length_singleton]; omega
  unfold P8.step
  split
  · exact ⟨hpo, addP_le h2, addP_le h3, addP_le h4, addP_le h5, addP_le h6, addP_le h7, addP_le h8⟩
  · exact ⟨hpo, by show P.ad.length ≤ _; omega, by show P.da.length ≤ _; omega, by show P.ct.length ≤ _; omega, by show P.fe.length ≤ _; omega, addP_le h6, addP_le h7, by show P.pa.length ≤ _; omega⟩
def liveM : List Nat := [0, 6, 7, 8, 9, 10, 11, 12, 13, 14, 15, 18, 19, 20, 21, 22, 34, 35, 36, 42, 43, 44, 61]
def mapSt (y : WX) (P : P8) (seen : List Nat) : State := ⟨y.env, y.heap (P.many y seen) seen⟩
def mapK (y : WX) (P : P8) (seen : List Nat) : State := ⟨(63, .d (.bool false)) :: (((mapSt y P seen).app (some 63) ⟨.d (.bool false), [], []⟩).prune Z31).env, (mapSt y P seen).heap⟩
def mapInv (y : WX) (seen : List Nat) : Prop := seen.Nodup ∧ ∀ i ∈ seen, i < y.es.length
structure WX.Ok (y : WX) : Prop where
  es : ∀ i, i < y.es.length → ∃ p m : Nat, y.es.getD i (0, 0) = ((p : Int), (m : Int)) ∧ p ≤ maxLen ∧ m < y.x.nodes.length
  len : y.es.length ≤ 1000
theorem P8.many_snoc {P : P8} {y : WX} {seen : List Nat} {i p m : Nat} (he : y.es.getD i (0, 0) = ((p : Int), (m : Int))) : P.many y (seen ++ [i]) = (P.many y seen).step y p m := by
  unfold P8.many
  rw [List.foldl_append, List.foldl_cons, List.foldl_nil, he]
  rfl
theorem w_end {T : Tab} {n3 : Nat} (k3 : KnowsG T n3 addE) (y : WX) (sn : List Nat) (p m : Nat) (P R : P8) (hp : p < 64) (hR : R.Few 100000) (hM : P.many y sn = R.tail y p m) (hI : mapInv y sn) (k : Nat) (hk : y.es.length - sn.length < k) (K0 : AExit → State → Prop) :
    vck T 1 Z31 (L_cand_within_e n3) (fourK y sn p m R) (blockK 6 (famK1 liveM (mapSt y P) (mapInv y) (fun seen => y.es.length - seen.length) k K0)) := by
  have G3 := k3.G
  obtain ⟨_, _, _, _, _, _, _, p1⟩ := hR
  have hw : IntKind.i64.wrap ((p : Int) + 1) = (p : Int) + 1 := wrap_id (by omega) (by omega)
  unfold L_cand_within_e fourK Z31
  simp (maxSteps := 3000000) only [fourSt, fourS, WX.env, WX.heap, wEnv, P8.heap, P8.four, cellP, rowsP, four, XG.obj, lsX, EvG.obj, List.cons_append, List.nil_append, ↓Z1r, ↓Z2x, ↓Z1x, ↓Z07, ↓Z2p, ↓Z2l, nilG_d, nilG_r, ↓Z2b, ↓Z1q, ↓Z13, ↓Z1y, ↓Z16, ↓Z2a, ↓Z34, ↓Z33, ↓Z20, ↓Z1w, ↓Z2g, ↓Z2c, ↓Z29, ↓Z3t, ↓retK_n, ↓Z3e, ↓Z3g, ↓Z3f, ↓Z46, ↓Z41, ↓famK_r, ↓Z0g, ↓Z06, ↓Z19, ↓Z0k, ↓Z1g, nf_mk, Z0f, Z17, Z3j, Z18, Z3m, evN, Z2v, Z28, Z3l, Z47, Z27, Z1b, Z22, Z2o, Z2d, Z23, Z1h, Z2z, evT, Opd.ev, Z03, Z00, Z3k, Z44, Z3x, Z1z, Z1f, Z2w, Z30, Z3c, Z1u, Z0j, Z3p, LOp.isNew, State.prune, Z3n, Z2y, AV.leaf, Heap.at, Z0i, Z09, Z1c, Z0d, Z02, idx_I, idx_W, rowW, Z26, Z2q, Z1s, Z1a, rowB, Z2t, Z2s, rowN, lens_W, Z3h, Z1d, Z15, w_or, w_and, Z2u, w_and1, w_shl, Z48, w_shr, Z49, w_neg, w_add, w_bit, w_eq0, w_eq1, w_eq, Bool.decide_eq_true, Z39, Z3b, Z3a, Z2h, Z1i, Z04, Z0a, Z0l, Z01, Z1v, rowI, RatG.row, LocG.row, ActG.row, StepG.row, StampG.row, ActG.av, ActG.eta, RatG.eta, LocG.eta, beq_true, beq_false, Z2e, Z2n, Z2f, Z2m, Z12, Z0o, Z10, Z11, Z0n, Z0m, Z0b, List.length_set, List.length_replicate, Z08, Int.reduceToNat, evLen, Z21, Z3w, Src.all, Src.len, Src.leaf, Src.leafN, Z36, Z42, joinV, Z0h, Z0p, Z0q, Z0r, Z0s, Z0t, Z0u, Z0v, mkVec, drows, evMk, List.length_map, Z1p, Z1t, List.take_length, List.take_left, List.length_append, Nat.le_add_right, ite_self, List.take_of_length_le, Z37, intOr, Z3z, Option.isSome_none, Option.isSome_some, Nat.sub_zero, loadQ, loadT, evBin, evUn, Z0w, Z0x, binT, binQ, chk, Z3s, List.contains_cons, List.contains_nil, Bool.or_false, Bool.false_or, Bool.and_self, resQ, resV, resT, pickV, Z2r, Z45, Z3o, fnOf, Z3i, isD, HO.drow, viewT, Z3u, evEq, eqV, eqK, eqC1, Z43, Z40, Z35, Z32, lens_I, Z3d, Z2k, Z1l, Z2j, Z1k, Z2i, Z1j, Z1m, Z0y, Z0z, Z0c, List.mem_cons, List.not_mem_nil, or_false, forall_eq, putRow, Z38, get_nil, RetS, RetF, RetD, AV.frz, AV.frzL, AV.freshP, AV.freshL, DV.less, Z24, Z1n, Z25, Z1o, Z0e, Z05, Option.some.injEq, AV.tup.injEq, AV.agg.injEq, List.cons.injEq, DV.list.injEq, List.isEmpty_nil, Nat.le_refl, AV.d.injEq, DV.int.injEq, DV.bool.injEq, ↓reduceIte, Nat.reduceEqDiff, Nat.reduceAdd, Nat.reduceBEq, List.length_cons, List.length_nil, List.replicate_succ, List.replicate_zero, List.nil_append, List.cons_append, List.append_nil, List.foldl_cons, List.foldl_nil, List.map_cons, List.map_nil, List.all_cons, List.all_nil, List.set_cons_zero, List.set_cons_succ, List.getD_cons_zero, List.getD_cons_succ, List.drop_zero, List.drop_succ_cons, List.take_succ_cons, List.take_zero, List.flatten_cons, List.flatten_nil, Bool.true_and, Bool.and_true, Bool.not_true, Bool.not_false, true_and, and_true, true_or, or_true, Option.bind_some, Option.map_some, decide_true, decide_false, beq_self_eq_true, true_implies, false_implies, implies_true, not_true_eq_false, not_false_eq_true, and_self, Bool.and_false, Bool.false_and, Nat.reduceLT, Nat.reduceLeDiff, List.reverse_cons, List.reverse_nil, Nat.zero_add, Nat.add_zero, Bool.false_eq_true, List.getElem?_cons_zero, Nat.reduceMul, Nat.mul_one, G3, addE, addE1, addE2, famK1_n, famK1_x, famK1_r, hw]
  have hno : ¬ (y.e.kind = 2 ∧ y.e.pair = p + 1) → P.many y sn = R := fun h => by
    rw [hM]; unfold P8.tail
    have : (decide (y.e.kind = 2) && decide (y.e.pair = p + 1)) = false := by simpa using h
    rw [this, addP_f]
  have hyes : y.e.kind = 2 → y.e.pair = p + 1 → P.many y sn = { R with pa := R.pa ++ [⟨m, y.next⟩] } := fun h h' => by
    rw [hM]; unfold P8.tail
    rw [decide_eq_true h, decide_eq_true h', Bool.true_and, addP_t]
  refine ⟨fun c1 => ⟨fun c2 => ⟨⟨by decide, roomy_of (by omega) (by omega)⟩, ?_⟩, fun c2 => ?_⟩, fun c1 => ?_⟩
  · exact FamN1.mk [0, 1, 2, 3, 4, 5, 6, 7, 8, 9, 10, 11, 12, 13, 14, 15, 21, 17, 18, 19] sn (by decide) (by simp) (by simp only [liveM, mapSt, fourSt, fourS, WX.env, WX.heap, wEnv, P8.heap, P8.four, cellP, rowsP, four, XG.obj, lsX, EvG.obj, List.cons_append, List.nil_append, hyes c1 c2, State.can, AV.can, AV.canL, HO.can, Z1e, idx, Z03, Z00, Heap.at, Nat.reduceBEq, ↓reduceIte, Nat.reduceEqDiff, Option.getD_some, Option.map_some, List.map_cons, List.map_nil, List.getD_cons_zero, List.getD_cons_succ, List.length_append, List.length_singleton]) hI hk
  · exact FamN1.mk [0, 1, 2, 3, 4, 5, 6, 7, 8, 9, 10, 11, 12, 13, 14, 15, 16, 17, 18, 19] sn (by decide) (by simp) (by simp only [liveM, mapSt, fourSt, fourS, WX.env, WX.heap, wEnv, P8.heap, P8.four, cellP, rowsP, four, XG.obj, lsX, EvG.obj, List.cons_append, List.nil_append, hno (fun h => c2 h.2), State.can, AV.can, AV.canL, HO.can, Z1e, idx, Z03, Z00, Heap.at, Nat.reduceBEq, ↓reduceIte, Nat.reduceEqDiff, Option.getD_some, Option.map_some, List.map_cons, List.map_nil, List.getD_cons_zero, List.getD_cons_succ]) hI hk
  · exact FamN1.mk [0, 1, 2, 3, 4, 5, 6, 7, 8, 9, 10, 11, 12, 13, 14, 15, 16, 17, 18, 19] sn (by decide) (by simp) (by simp only [liveM, mapSt, fourSt, fourS, WX.env, WX.heap, wEnv, P8.heap, P8.four, cellP, rowsP, four, XG.obj, lsX, EvG.obj, List.cons_append, List.nil_append, hno (fun h => c1 h.1), State.can, AV.can, AV.canL, HO.can, Z1e, idx, Z03, Z00, Heap.at, Nat.reduceBEq, ↓reduceIte, Nat.reduceEqDiff, Option.getD_some, Option.map_some, List.map_cons, List.map_nil, List.getD_cons_zero, List.getD_cons_succ]) hI hk
theorem evMEntO_last {es : List (Int × Int)} {id m n i : Nat} {seen : List Nat} : evMEntO (.mapo es) id m n (seen ++ [i]) = ⟨n = es.length ∧ i < es.length, ⟨.tup [.d (.int .i64 (es.getD i (0, 0)).1), .d (.int .i64 (es.getD i (0, 0)).2)], [], [id, m]⟩⟩ := by
  unfold evMEntO; rw [List.getLast?_concat]
theorem nodup_le : ∀ {n : Nat} {l : List Nat}, l.Nodup → (∀ j ∈ l, j < n) → l.length ≤ n
  | 0, [], _, _ => Nat.le_refl _
  | 0, a :: l, _, h => absurd (h a (List.mem_cons_self ..)) (by omega)
  | n + 1, l, h1, h2 => by
    have := nodup_le (n := n) (h1.erase n) (fun j hj => by
      rw [h1.mem_erase_iff] at hj
      have := h2 j hj.2
      omega)
    rw [List.length_erase] at this
    split at this
    · omega
    · omega
theorem seen_lt {seen : List Nat} {n i : Nat} (h1 : seen.Nodup) (h2 : ∀ j ∈ seen, j < n) (hi : i < n) (hn : i ∉ seen) : seen.length < n := by
  have h := nodup_le (l := seen ++ [i]) (n := n) (by
    rw [List.nodup_append]
    exact ⟨h1, by simp, fun a ha b hb => by
      rw [List.mem_singleton] at hb
      subst hb
      exact fun h => hn (h ▸ ha)⟩) (fun j hj => by
    rcases List.mem_append.1 hj with h | h
    · exact h2 j h
    · rw [List.mem_singleton] at h; rw [h]; exact hi)
  rw [List.length_append, List.length_singleton] at h
  omega
theorem P8.Few.mono {P : P8} {n m : Nat} (h : P.Few n) (hm : n ≤ m) : P.Few m := ⟨by have := h.po; omega, by have := h.ad; omega, by have := h.da; omega, by have := h.ct; omega, by have := h.fe; omega, by have := h.sy; omega, by have := h.lw; omega, by have := h.pa; omega⟩
theorem P8.Few.head {P : P8} {n : Nat} (h : P.Few n) (y : WX) (m : Nat) : (P.head y m).Few (n + 1) := by
  obtain ⟨h1, h2, h3, h4, h5, h6, h7, h8⟩ := h
  have hpo : (P.po ++ [(⟨m, y.next⟩ : RatG)]).length ≤ n + 1 := by rw [List.length_append, List.length_singleton]; omega
  exact ⟨hpo, by show P.ad.length ≤ _; omega, by show P.da.length ≤ _; omega, by show P.ct.length ≤ _; omega, by show P.fe.length ≤ _; omega, addP_le h6, addP_le h7, by show P.pa.length ≤ _; omega⟩
theorem P8.Few.four {P : P8} {n : Nat} (h : P.Few n) (e : EvG) (p m next : Nat) : (P.four e p m next 4).Few (n + 1) := by
  obtain ⟨h1, h2, h3, h4, h5, h6, h7, h8⟩ := h
  exact ⟨by show P.po.length ≤ _; omega, addP_le h2, addP_le h3, addP_le h4, addP_le h5, by show P.sy.length ≤ _; omega, by show P.lw.length ≤ _; omega, by show P.pa.length ≤ _; omega⟩
theorem foldl_few (y : WX) : ∀ (seen : List Nat) (P : P8) (n : Nat), P.Few n → (P.many y seen).Few (n + seen.length)
  | [], P, n, h => h
  | i :: seen, P, n, h => by
    have := foldl_few y seen _ (n + 1) (h.step y (y.es.getD i (0, 0)).1.toNat (y.es.getD i (0, 0)).2.toNat)
    exact this.mono (by simp only [List.length_cons]; omega)
theorem many_few {P : P8} {y : WX} {seen : List Nat} {n : Nat} (hP : P.Few n) (h1 : seen.Nodup) (h2 : ∀ j ∈ seen, j < y.es.length) : (P.many y seen).Few (n + y.es.length) :=
  (foldl_few y seen P n hP).mono (by have := nodup_le h1 h2; omega)
set_option maxHeartbeats 4000000 in
theorem w_map {T : Tab} {n3 : Nat} (k3 : KnowsG T n3 addE) (y : WX) (P : P8) (hy : y.Ok) (hP : P.Few 90000) (K : AExit → State → Prop)
    (S : State) (ρ : List Nat) (h1 : ρ.Nodup) (h2 : ∀ i ∈ ρ, i < S.heap.length) (h3 : S.can ρ liveM = mapSt y P []) (h0 : ρ[0]? = some 0)
    (hK : ∀ seen, seen.Nodup → (∀ i, i < y.es.length ↔ i ∈ seen) → K (.exit 5) (mapK y P seen)) : Loop T 1 Z31 (L_cand_within_m n3) S K := by
  have G3 := k3.G
  refine Loop.fam1 liveM (mapSt y P) (mapInv y) (fun seen => y.es.length - seen.length) [] ρ h1 h2 h3 ⟨List.nodup_nil, by simp⟩ ?_ h0
  intro seen hs
  unfold L_cand_within_m Z31
  generalize hQ : P.many y seen = Q
  rw [Z2b, vck_mnext]
  simp (maxSteps := 3000000) only [mapSt, fourSt, fourS, WX.env, WX.heap, wEnv, P8.heap, P8.four, cellP, rowsP, four, XG.obj, lsX, EvG.obj, List.cons_append, List.nil_append, hQ, ↓Z1r, ↓Z2x, ↓Z1x, ↓Z07, ↓Z2p, ↓Z2l, nilG_d, nilG_r, ↓Z2b, ↓Z1q, ↓Z13, ↓Z1y, ↓Z16, ↓Z2a, ↓Z34, ↓Z33, ↓Z20, ↓Z1w, ↓Z2g, ↓Z2c, ↓Z29, ↓Z3t, ↓retK_n, ↓Z3e, ↓Z3g, ↓Z3f, ↓Z46, ↓Z41, ↓famK_r, ↓Z0g, ↓Z06, ↓Z19, ↓Z0k, ↓Z1g, nf_mk, Z0f, Z17, Z3j, Z18, Z3m, evN, Z2v, Z28, Z3l, Z47, Z27, Z1b, Z22, Z2o, Z2d, Z23, Z1h, Z2z, evT, Opd.ev, Z03, Z00, Z3k, Z44, Z3x, Z1z, Z1f, Z2w, Z30, Z3c, Z1u, Z0j, Z3p, LOp.isNew, State.prune, Z3n, Z2y, AV.leaf, Heap.at, Z0i, Z09, Z1c, Z0d, Z02, idx_I, idx_W, rowW, Z26, Z2q, Z1s, Z1a, rowB, Z2t, Z2s, rowN, lens_W, Z3h, Z1d, Z15, w_or, w_and, Z2u, w_and1, w_shl, Z48, w_shr, Z49, w_neg, w_add, w_bit, w_eq0, w_eq1, w_eq, Bool.decide_eq_true, Z39, Z3b, Z3a, Z2h, Z1i, Z04, Z0a, Z0l, Z01, Z1v, rowI, RatG.row, LocG.row, ActG.row, StepG.row, StampG.row, ActG.av, ActG.eta, RatG.eta, LocG.eta, beq_true, beq_false, Z2e, Z2n, Z2f, Z2m, Z12, Z0o, Z10, Z11, Z0n, Z0m, Z0b, List.length_set, List.length_replicate, Z08, Int.reduceToNat, evLen, Z21, Z3w, Src.all, Src.len, Src.leaf, Src.leafN, Z36, Z42, joinV, Z0h, Z0p, Z0q, Z0r, Z0s, Z0t, Z0u, Z0v, mkVec, drows, evMk, List.length_map, Z1p, Z1t, List.take_length, List.take_left, List.length_append, Nat.le_add_right, ite_self, List.take_of_length_le, Z37, intOr, Z3z, Option.isSome_none, Option.isSome_some, Nat.sub_zero, loadQ, loadT, evBin, evUn, Z0w, Z0x, binT, binQ, chk, Z3s, List.contains_cons, List.contains_nil, Bool.or_false, Bool.false_or, Bool.and_self, resQ, resV, resT, pickV, Z2r, Z45, Z3o, fnOf, Z3i, isD, HO.drow, viewT, Z3u, evEq, eqV, eqK, eqC1, Z43, Z40, Z35, Z32, lens_I, Z3d, Z2k, Z1l, Z2j, Z1k, Z2i, Z1j, Z1m, Z0y, Z0z, Z0c, List.mem_cons, List.not_mem_nil, or_false, forall_eq, putRow, Z38, get_nil, RetS, RetF, RetD, AV.frz, AV.frzL, AV.freshP, AV.freshL, DV.less, Z24, Z1n, Z25, Z1o, Z0e, Z05, Option.some.injEq, AV.tup.injEq, AV.agg.injEq, List.cons.injEq, DV.list.injEq, List.isEmpty_nil, Nat.le_refl, AV.d.injEq, DV.int.injEq, DV.bool.injEq, ↓reduceIte, Nat.reduceEqDiff, Nat.reduceAdd, Nat.reduceBEq, List.length_cons, List.length_nil, List.replicate_succ, List.replicate_zero, List.nil_append, List.cons_append, List.append_nil, List.foldl_cons, List.foldl_nil, List.map_cons, List.map_nil, List.all_cons, List.all_nil, List.set_cons_zero, List.set_cons_succ, List.getD_cons_zero, List.getD_cons_succ, List.drop_zero, List.drop_succ_cons, List.take_succ_cons, List.take_zero, List.flatten_cons, List.flatten_nil, Bool.true_and, Bool.and_true, Bool.not_true, Bool.not_false, true_and, and_true, true_or, or_true, Option.bind_some, Option.map_some, decide_true, decide_false, beq_self_eq_true, true_implies, false_implies, implies_true, not_true_eq_false, not_false_eq_true, and_self, Bool.and_false, Bool.false_and, Nat.reduceLT, Nat.reduceLeDiff, List.reverse_cons, List.reverse_nil, Nat.zero_add, Nat.add_zero, Bool.false_eq_true, List.getElem?_cons_zero, Nat.reduceMul, Nat.mul_one, nextX_p, nextG_i, nextM_m]
  refine ⟨fun i hi hni => ?_, fun hall => ?_⟩
  · obtain ⟨p, m, he, hp, hm⟩ := hy.es i hi
    simp (maxSteps := 3000000) only [↓Z1r, ↓Z2x, ↓Z1x, ↓Z07, ↓Z2p, ↓Z2l, nilG_d, nilG_r, ↓Z2b, ↓Z1q, ↓Z13, ↓Z1y, ↓Z16, ↓Z2a, ↓Z34, ↓Z33, ↓Z20, ↓Z1w, ↓Z2g, ↓Z2c, ↓Z29, ↓Z3t, ↓retK_n, ↓Z3e, ↓Z3g, ↓Z3f, ↓Z46, ↓Z41, ↓famK_r, ↓Z0g, ↓Z06, ↓Z19, ↓Z0k, ↓Z1g, nf_mk, Z0f, Z17, Z3j, Z18, Z3m, evN, Z2v, Z28, Z3l, Z47, Z27, Z1b, Z22, Z2o, Z2d, Z23, Z1h, Z2z, evT, Opd.ev, Z03, Z00, Z3k, Z44, Z3x, Z1z, Z1f, Z2w, Z30, Z3c, Z1u, Z0j, Z3p, LOp.isNew, State.prune, Z3n, Z2y, AV.leaf, Heap.at, Z0i, Z09, Z1c, Z0d, Z02, idx_I, idx_W, rowW, Z26, Z2q, Z1s, Z1a, rowB, Z2t, Z2s, rowN, lens_W, Z3h, Z1d, Z15, w_or, w_and, Z2u, w_and1, w_shl, Z48, w_shr, Z49, w_neg, w_add, w_bit, w_eq0, w_eq1, w_eq, Bool.decide_eq_true, Z39, Z3b, Z3a, Z2h, Z1i, Z04, Z0a, Z0l, Z01, Z1v, rowI, RatG.row, LocG.row, ActG.row, StepG.row, StampG.row, ActG.av, ActG.eta, RatG.eta, LocG.eta, beq_true, beq_false, Z2e, Z2n, Z2f, Z2m, Z12, Z0o, Z10, Z11, Z0n, Z0m, Z0b, List.length_set, List.length_replicate, Z08, Int.reduceToNat, evLen, Z21, Z3w, Src.all, Src.len, Src.leaf, Src.leafN, Z36, Z42, joinV, Z0h, Z0p, Z0q, Z0r, Z0s, Z0t, Z0u, Z0v, mkVec, drows, evMk, List.length_map, Z1p, Z1t, List.take_length, List.take_left, List.length_append, Nat.le_add_right, ite_self, List.take_of_length_le, Z37, intOr, Z3z, Option.isSome_none, Option.isSome_some, Nat.sub_zero, loadQ, loadT, evBin, evUn, Z0w, Z0x, binT, binQ, chk, Z3s, List.contains_cons, List.contains_nil, Bool.or_false, Bool.false_or, Bool.and_self, resQ, resV, resT, pickV, Z2r, Z45, Z3o, fnOf, Z3i, isD, HO.drow, viewT, Z3u, evEq, eqV, eqK, eqC1, Z43, Z40, Z35, Z32, lens_I, Z3d, Z2k, Z1l, Z2j, Z1k, Z2i, Z1j, Z1m, Z0y, Z0z, Z0c, List.mem_cons, List.not_mem_nil, or_false, forall_eq, putRow, Z38, get_nil, RetS, RetF, RetD, AV.frz, AV.frzL, AV.freshP, AV.freshL, DV.less, Z24, Z1n, Z25, Z1o, Z0e, Z05, Option.some.injEq, AV.tup.injEq, AV.agg.injEq, List.cons.injEq, DV.list.injEq, List.isEmpty_nil, Nat.le_refl, AV.d.injEq, DV.int.injEq, DV.bool.injEq, ↓reduceIte, Nat.reduceEqDiff, Nat.reduceAdd, Nat.reduceBEq, List.length_cons, List.length_nil, List.replicate_succ, List.replicate_zero, List.nil_append, List.cons_append, List.append_nil, List.foldl_cons, List.foldl_nil, List.map_cons, List.map_nil, List.all_cons, List.all_nil, List.set_cons_zero, List.set_cons_succ, List.getD_cons_zero, List.getD_cons_succ, List.drop_zero, List.drop_succ_cons, List.take_succ_cons, List.take_zero, List.flatten_cons, List.flatten_nil, Bool.true_and, Bool.and_true, Bool.not_true, Bool.not_false, true_and, and_true, true_or, or_true, Option.bind_some, Option.map_some, decide_true, decide_false, beq_self_eq_true, true_implies, false_implies, implies_true, not_true_eq_false, not_false_eq_true, and_self, Bool.and_false, Bool.false_and, Nat.reduceLT, Nat.reduceLeDiff, List.reverse_cons, List.reverse_nil, Nat.zero_add, Nat.add_zero, Bool.false_eq_true, List.getElem?_cons_zero, Nat.reduceMul, Nat.mul_one, evMEnt, evMEntI, evMEntO_last, he, G3, Option.map_none, Option.bind_none, addE, addE1, addE2, famK1_n, famK1_x, famK1_r]
    have hs1 : mapInv y (seen ++ [i]) := by
      refine ⟨?_, fun j hj => ?_⟩
      · rw [List.nodup_append]
        exact ⟨hs.1, by simp, fun a ha b hb => by
          rw [List.mem_singleton] at hb
          subst hb
          exact fun h => hni (h ▸ ha)⟩
      · rcases List.mem_append.1 hj with h | h
        · exact hs.2 j h
        · rw [List.mem_singleton] at h; rw [h]; exact hi
    have hms : y.es.length - (seen ++ [i]).length < y.es.length - seen.length := by
      have := hs1.2
      have : seen.length < y.es.length := seen_lt hs.1 hs.2 hi hni
      rw [List.length_append, List.length_singleton]; omega
    have hsn : P.many y (seen ++ [i]) = Q.step y p m := by rw [P8.many_snoc he, hQ]
    have hQf : Q.Few 95000 := by
      rw [← hQ]
      exact (many_few hP hs.1 hs.2).mono (by have := hy.len; omega)
    have ⟨q1, q2, q3, q4, q5, q6, q7, q8⟩ := hQf
    have hstop : ¬ ((y.x.nodes.getD m default).loc = 1 ∧ p < 64) → P.many y (seen ++ [i]) = Q.head y m := fun h => by rw [hsn]; unfold P8.step; rw [if_neg h]
    have hgo : ((y.x.nodes.getD m default).loc = 1) → p < 64 → P.many y (seen ++ [i]) = ((Q.head y m).four y.e p m y.next 4).tail y p m := fun h h' => by rw [hsn]; unfold P8.step; rw [if_pos ⟨h, h'⟩]
    have hw : p < 64 → IntKind.u64.wrap (p : Int) = p := fun h => wrapU (by omega)
    have hm' : (0 : Int) ≤ m ∧ (m : Int) < y.x.nodes.length := ⟨by omega, by omega⟩
    refine ⟨hi, ⟨by decide, roomy_of (by omega) (by omega)⟩, fun c1 => ⟨⟨by decide, roomy_of (by omega) (by omega)⟩, fun c2 => ⟨⟨by decide, roomy_of (by omega) (by omega)⟩, hm', fun hr => ⟨fun h64 => ?_, fun h64 => ?_⟩, fun hr => ?_⟩, fun c2 => ⟨hm', fun hr => ⟨fun h64 => ?_, fun h64 => ?_⟩, fun hr => ?_⟩⟩,
      fun c1 => ⟨fun c2 => ⟨⟨by decide, roomy_of (by omega) (by omega)⟩, hm', fun hr => ⟨fun h64 => ?_, fun h64 => ?_⟩, fun hr => ?_⟩, fun c2 => ⟨hm', fun hr => ⟨fun h64 => ?_, fun h64 => ?_⟩, fun hr => ?_⟩⟩⟩
    · exact FamN1.mk [0, 1, 2, 3, 4, 5, 6, 7, 8, 20, 10, 11, 12, 13, 21, 22, 16, 17, 18, 19] (seen ++ [i]) (by decide) (by simp) (by simp only [liveM, mapSt, fourSt, fourS, WX.env, WX.heap, wEnv, P8.heap, P8.four, cellP, rowsP, four, XG.obj, lsX, EvG.obj, List.cons_append, List.nil_append, hstop (fun h => absurd h.2 (by omega)), P8.head, decide_eq_true c1, decide_eq_true c2, addP_t, addP_t, State.can, AV.can, AV.canL, HO.can, Z1e, idx, Z03, Z00, Heap.at, Nat.reduceBEq, ↓reduceIte, Nat.reduceEqDiff, Option.getD_some, Option.map_some, List.map_cons, List.map_nil, List.getD_cons_zero, List.getD_cons_succ, List.length_append, List.length_singleton]) hs1 hms
    · have h64' : p < 64 := by omega
      simp only [hw h64', Int.toNat_natCast]
      refine ⟨by omega, w_four k3 y (seen ++ [i]) p m (Q.head y m) h64' ?_ _ _ [0, 1, 2, 3, 4, 5, 6, 7, 8, 20, 10, 11, 12, 13, 21, 22, 16, 17, 18, 19, 23] (by decide) (by simp) (by simp only [liveY, fourSt, fourS, WX.env, WX.heap, wEnv, P8.heap, P8.four, cellP, rowsP, four, XG.obj, lsX, EvG.obj, List.cons_append, List.nil_append, P8.head, decide_eq_true c1, decide_eq_true c2, addP_t, addP_t, State.can, AV.can, AV.canL, HO.can, Z1e, idx, Z03, Z00, Heap.at, Nat.reduceBEq, ↓reduceIte, Nat.reduceEqDiff, Option.getD_some, Option.map_some, List.map_cons, List.map_nil, List.getD_cons_zero, List.getD_cons_succ, List.length_append, List.length_singleton]; rfl) rfl ?_⟩
      · exact (hQf.head y m).mono (by omega)
      · simp only [↓Z1r, ↓Z2x, ↓Z1x, ↓Z07, ↓Z2p, ↓Z2l, nilG_d, nilG_r, ↓Z2b, ↓Z1q, ↓Z13, ↓Z1y, ↓Z16, ↓Z2a, ↓Z34, ↓Z33, ↓Z20, ↓Z1w, ↓Z2g, ↓Z2c, ↓Z29, ↓Z3t, ↓retK_n, ↓Z3e, ↓Z3g, ↓Z3f, ↓Z46, ↓Z41, ↓famK_r, ↓Z0g, ↓Z06, ↓Z19, ↓Z0k, ↓Z1g, nf_mk, Z0f, Z17, Z3j, Z18, Z3m, evN, Z2v, Z28, Z3l, Z47, Z27, Z1b, Z22, Z2o, Z2d, Z23, Z1h, Z2z, evT, Opd.ev, Z03, Z00, Z3k, Z44, Z3x, Z1z, Z1f, Z2w, Z30, Z3c, Z1u, Z0j, Z3p, LOp.isNew, State.prune, Z3n, Z2y, AV.leaf, Heap.at, Z0i, Z09, Z1c, Z0d, Z02, idx_I, idx_W, rowW, Z26, Z2q, Z1s, Z1a, rowB, Z2t, Z2s, rowN, lens_W, Z3h, Z1d, Z15, w_or, w_and, Z2u, w_and1, w_shl, Z48, w_shr, Z49, w_neg, w_add, w_bit, w_eq0, w_eq1, w_eq, Bool.decide_eq_true, Z39, Z3b, Z3a, Z2h, Z1i, Z04, Z0a, Z0l, Z01, Z1v, rowI, RatG.row, LocG.row, ActG.row, StepG.row, StampG.row, ActG.av, ActG.eta, RatG.eta, LocG.eta, beq_true, beq_false, Z2e, Z2n, Z2f, Z2m, Z12, Z0o, Z10, Z11, Z0n, Z0m, Z0b, List.length_set, List.length_replicate, Z08, Int.reduceToNat, evLen, Z21, Z3w, Src.all, Src.len, Src.leaf, Src.leafN, Z36, Z42, joinV, Z0h, Z0p, Z0q, Z0r, Z0s, Z0t, Z0u, Z0v, mkVec, drows, evMk, List.length_map, Z1p, Z1t, List.take_length, List.take_left, List.length_append, Nat.le_add_right, ite_self, List.take_of_length_le, Z37, intOr, Z3z, Option.isSome_none, Option.isSome_some, Nat.sub_zero, loadQ, loadT, evBin, evUn, Z0w, Z0x, binT, binQ, chk, Z3s, List.contains_cons, List.contains_nil, Bool.or_false, Bool.false_or, Bool.and_self, resQ, resV, resT, pickV, Z2r, Z45, Z3o, fnOf, Z3i, isD, HO.drow, viewT, Z3u, evEq, eqV, eqK, eqC1, Z43, Z40, Z35, Z32, lens_I, Z3d, Z2k, Z1l, Z2j, Z1k, Z2i, Z1j, Z1m, Z0y, Z0z, Z0c, List.mem_cons, List.not_mem_nil, or_false, forall_eq, putRow, Z38, get_nil, RetS, RetF, RetD, AV.frz, AV.frzL, AV.freshP, AV.freshL, DV.less, Z24, Z1n, Z25, Z1o, Z0e, Z05, Option.some.injEq, AV.tup.injEq, AV.agg.injEq, List.cons.injEq, DV.list.injEq, List.isEmpty_nil, Nat.le_refl, AV.d.injEq, DV.int.injEq, DV.bool.injEq, ↓reduceIte, Nat.reduceEqDiff, Nat.reduceAdd, Nat.reduceBEq, List.length_cons, List.length_nil, List.replicate_succ, List.replicate_zero, List.nil_append, List.cons_append, List.append_nil, List.foldl_cons, List.foldl_nil, List.map_cons, List.map_nil, List.all_cons, List.all_nil, List.set_cons_zero, List.set_cons_succ, List.getD_cons_zero, List.getD_cons_succ, List.drop_zero, List.drop_succ_cons, List.take_succ_cons, List.take_zero, List.flatten_cons, List.flatten_nil, Bool.true_and, Bool.and_true, Bool.not_true, Bool.not_false, true_and, and_true, true_or, or_true, Option.bind_some, Option.map_some, decide_true, decide_false, beq_self_eq_true, true_implies, false_implies, implies_true, not_true_eq_false, not_false_eq_true, and_self, Bool.and_false, Bool.false_and, Nat.reduceLT, Nat.reduceLeDiff, List.reverse_cons, List.reverse_nil, Nat.zero_add, Nat.add_zero, Bool.false_eq_true, List.getElem?_cons_zero, Nat.reduceMul, Nat.mul_one]
        exact w_end k3 y (seen ++ [i]) p m P _ h64' (((hQf.head y m).four y.e p m y.next).mono (by omega)) (hgo hr h64') hs1 _ hms K
    · exact FamN1.mk [0, 1, 2, 3, 4, 5, 6, 7, 8, 20, 10, 11, 12, 13, 21, 22, 16, 17, 18, 19] (seen ++ [i]) (by decide) (by simp) (by simp only [liveM, mapSt, fourSt, fourS, WX.env, WX.heap, wEnv, P8.heap, P8.four, cellP, rowsP, four, XG.obj, lsX, EvG.obj, List.cons_append, List.nil_append, hstop (fun h => hr h.1), P8.head, decide_eq_true c1, decide_eq_true c2, addP_t, addP_t, State.can, AV.can, AV.canL, HO.can, Z1e, idx, Z03, Z00, Heap.at, Nat.reduceBEq, ↓reduceIte, Nat.reduceEqDiff, Option.getD_some, Option.map_some, List.map_cons, List.map_nil, List.getD_cons_zero, List.getD_cons_succ, List.length_append, List.length_singleton]) hs1 hms
    · exact FamN1.mk [0, 1, 2, 3, 4, 5, 6, 7, 8, 20, 10, 11, 12, 13, 21, 15, 16, 17, 18, 19] (seen ++ [i]) (by decide) (by simp) (by simp only [liveM, mapSt, fourSt, fourS, WX.env, WX.heap, wEnv, P8.heap, P8.four, cellP, rowsP, four, XG.obj, lsX, EvG.obj, List.cons_append, List.nil_append, hstop (fun h => absurd h.2 (by omega)), P8.head, decide_eq_true c1, decide_eq_false c2, addP_t, addP_f, State.can, AV.can, AV.canL, HO.can, Z1e, idx, Z03, Z00, Heap.at, Nat.reduceBEq, ↓reduceIte, Nat.reduceEqDiff, Option.getD_some, Option.map_some, List.map_cons, List.map_nil, List.getD_cons_zero, List.getD_cons_succ, List.length_append, List.length_singleton]) hs1 hms
    · have h64' : p < 64 := by omega
      simp only [hw h64', Int.toNat_natCast]
      refine ⟨by omega, w_four k3 y (seen ++ [i]) p m (Q.head y m) h64' ?_ _ _ [0, 1, 2, 3, 4, 5, 6, 7, 8, 20, 10, 11, 12, 13, 21, 15, 16, 17, 18, 19, 22] (by decide) (by simp) (by simp only [liveY, fourSt, fourS, WX.env, WX.heap, wEnv, P8.heap, P8.four, cellP, rowsP, four, XG.obj, lsX, EvG.obj, List.cons_append, List.nil_append, P8.head, decide_eq_true c1, decide_eq_false c2, addP_t, addP_f, State.can, AV.can, AV.canL, HO.can, Z1e, idx, Z03, Z00, Heap.at, Nat.reduceBEq, ↓reduceIte, Nat.reduceEqDiff, Option.getD_some, Option.map_some, List.map_cons, List.map_nil, List.getD_cons_zero, List.getD_cons_succ, List.length_append, List.length_singleton]; rfl) rfl ?_⟩
      · exact (hQf.head y m).mono (by omega)
      · simp only [↓Z1r, ↓Z2x, ↓Z1x, ↓Z07, ↓Z2p, ↓Z2l, nilG_d, nilG_r, ↓Z2b, ↓Z1q, ↓Z13, ↓Z1y, ↓Z16, ↓Z2a, ↓Z34, ↓Z33, ↓Z20, ↓Z1w, ↓Z2g, ↓Z2c, ↓Z29, ↓Z3t, ↓retK_n, ↓Z3e, ↓Z3g, ↓Z3f, ↓Z46, ↓Z41, ↓famK_r, ↓Z0g, ↓Z06, ↓Z19, ↓Z0k, ↓Z1g, nf_mk, Z0f, Z17, Z3j, Z18, Z3m, evN, Z2v, Z28, Z3l, Z47, Z27, Z1b, Z22, Z2o, Z2d, Z23, Z1h, Z2z, evT, Opd.ev, Z03, Z00, Z3k, Z44, Z3x, Z1z, Z1f, Z2w, Z30, Z3c, Z1u, Z0j, Z3p, LOp.isNew, State.prune, Z3n, Z2y, AV.leaf, Heap.at, Z0i, Z09, Z1c, Z0d, Z02, idx_I, idx_W, rowW, Z26, Z2q, Z1s, Z1a, rowB, Z2t, Z2s, rowN, lens_W, Z3h, Z1d, Z15, w_or, w_and, Z2u, w_and1, w_shl, Z48, w_shr, Z49, w_neg, w_add, w_bit, w_eq0, w_eq1, w_eq, Bool.decide_eq_true, Z39, Z3b, Z3a, Z2h, Z1i, Z04, Z0a, Z0l, Z01, Z1v, rowI, RatG.row, LocG.row, ActG.row, StepG.row, StampG.row, ActG.av, ActG.eta, RatG.eta, LocG.eta, beq_true, beq_false, Z2e, Z2n, Z2f, Z2m, Z12, Z0o, Z10, Z11, Z0n, Z0m, Z0b, List.length_set, List.length_replicate, Z08, Int.reduceToNat, evLen, Z21, Z3w, Src.all, Src.len, Src.leaf, Src.leafN, Z36, Z42, joinV, Z0h, Z0p, Z0q, Z0r, Z0s, Z0t, Z0u, Z0v, mkVec, drows, evMk, List.length_map, Z1p, Z1t, List.take_length, List.take_left, List.length_append, Nat.le_add_right, ite_self, List.take_of_length_le, Z37, intOr, Z3z, Option.isSome_none, Option.isSome_some, Nat.sub_zero, loadQ, loadT, evBin, evUn, Z0w, Z0x, binT, binQ, chk, Z3s, List.contains_cons, List.contains_nil, Bool.or_false, Bool.false_or, Bool.and_self, resQ, resV, resT, pickV, Z2r, Z45, Z3o, fnOf, Z3i, isD, HO.drow, viewT, Z3u, evEq, eqV, eqK, eqC1, Z43, Z40, Z35, Z32, lens_I, Z3d, Z2k, Z1l, Z2j, Z1k, Z2i, Z1j, Z1m, Z0y, Z0z, Z0c, List.mem_cons, List.not_mem_nil, or_false, forall_eq, putRow, Z38, get_nil, RetS, RetF, RetD, AV.frz, AV.frzL, AV.freshP, AV.freshL, DV.less, Z24, Z1n, Z25, Z1o, Z0e, Z05, Option.some.injEq, AV.tup.injEq, AV.agg.injEq, List.cons.injEq, DV.list.injEq, List.isEmpty_nil, Nat.le_refl, AV.d.injEq, DV.int.injEq, DV.bool.injEq, ↓reduceIte, Nat.reduceEqDiff, Nat.reduceAdd, Nat.reduceBEq, List.length_cons, List.length_nil, List.replicate_succ, List.replicate_zero, List.nil_append, List.cons_append, List.append_nil, List.foldl_cons, List.foldl_nil, List.map_cons, List.map_nil, List.all_cons, List.all_nil, List.set_cons_zero, List.set_cons_succ, List.getD_cons_zero, List.getD_cons_succ, List.drop_zero, List.drop_succ_cons, List.take_succ_cons, List.take_zero, List.flatten_cons, List.flatten_nil, Bool.true_and, Bool.and_true, Bool.not_true, Bool.not_false, true_and, and_true, true_or, or_true, Option.bind_some, Option.map_some, decide_true, decide_false, beq_self_eq_true, true_implies, false_implies, implies_true, not_true_eq_false, not_false_eq_true, and_self, Bool.and_false, Bool.false_and, Nat.reduceLT, Nat.reduceLeDiff, List.reverse_cons, List.reverse_nil, Nat.zero_add, Nat.add_zero, Bool.false_eq_true, List.getElem?_cons_zero, Nat.reduceMul, Nat.mul_one]
        exact w_end k3 y (seen ++ [i]) p m P _ h64' (((hQf.head y m).four y.e p m y.next).mono (by omega)) (hgo hr h64') hs1 _ hms K
    · exact FamN1.mk [0, 1, 2, 3, 4, 5, 6, 7, 8, 20, 10, 11, 12, 13, 21, 15, 16, 17, 18, 19] (seen ++ [i]) (by decide) (by simp) (by simp only [liveM, mapSt, fourSt, fourS, WX.env, WX.heap, wEnv, P8.heap, P8.four, cellP, rowsP, four, XG.obj, lsX, EvG.obj, List.cons_append, List.nil_append, hstop (fun h => hr h.1), P8.head, decide_eq_true c1, decide_eq_false c2, addP_t, addP_f, State.can, AV.can, AV.canL, HO.can, Z1e, idx, Z03, Z00, Heap.at, Nat.reduceBEq, ↓reduceIte, Nat.reduceEqDiff, Option.getD_some, Option.map_some, List.map_cons, List.map_nil, List.getD_cons_zero, List.getD_cons_succ, List.length_append, List.length_singleton]) hs1 hms
    · exact FamN1.mk [0, 1, 2, 3, 4, 5, 6, 7, 8, 20, 10, 11, 12, 13, 14, 21, 16, 17, 18, 19] (seen ++ [i]) (by decide) (by simp) (by simp only [liveM, mapSt, fourSt, fourS, WX.env, WX.heap, wEnv, P8.heap, P8.four, cellP, rowsP, four, XG.obj, lsX, EvG.obj, List.cons_append, List.nil_append, hstop (fun h => absurd h.2 (by omega)), P8.head, decide_eq_false c1, decide_eq_true c2, addP_f, addP_t, State.can, AV.can, AV.canL, HO.can, Z1e, idx, Z03, Z00, Heap.at, Nat.reduceBEq, ↓reduceIte, Nat.reduceEqDiff, Option.getD_some, Option.map_some, List.map_cons, List.map_nil, List.getD_cons_zero, List.getD_cons_succ, List.length_append, List.length_singleton]) hs1 hms
    · have h64' : p < 64 := by omega
      simp only [hw h64', Int.toNat_natCast]
      refine ⟨by omega, w_four k3 y (seen ++ [i]) p m (Q.head y m) h64' ?_ _ _ [0, 1, 2, 3, 4, 5, 6, 7, 8, 20, 10, 11, 12, 13, 14, 21, 16, 17, 18, 19, 22] (by decide) (by simp) (by simp only [liveY, fourSt, fourS, WX.env, WX.heap, wEnv, P8.heap, P8.four, cellP, rowsP, four, XG.obj, lsX, EvG.obj, List.cons_append, List.nil_append, P8.head, decide_eq_false c1, decide_eq_true c2, addP_f, addP_t, State.can, AV.can, AV.canL, HO.can, Z1e, idx, Z03, Z00, Heap.at, Nat.reduceBEq, ↓reduceIte, Nat.reduceEqDiff, Option.getD_some, Option.map_some, List.map_cons, List.map_nil, List.getD_cons_zero, List.getD_cons_succ, List.length_append, List.length_singleton]; rfl) rfl ?_⟩
      · exact (hQf.head y m).mono (by omega)
      · simp only [↓Z1r, ↓Z2x, ↓Z1x, ↓Z07, ↓Z2p, ↓Z2l, nilG_d, nilG_r, ↓Z2b, ↓Z1q, ↓Z13, ↓Z1y, ↓Z16, ↓Z2a, ↓Z34, ↓Z33, ↓Z20, ↓Z1w, ↓Z2g, ↓Z2c, ↓Z29, ↓Z3t, ↓retK_n, ↓Z3e, ↓Z3g, ↓Z3f, ↓Z46, ↓Z41, ↓famK_r, ↓Z0g, ↓Z06, ↓Z19, ↓Z0k, ↓Z1g, nf_mk, Z0f, Z17, Z3j, Z18, Z3m, evN, Z2v, Z28, Z3l, Z47, Z27, Z1b, Z22, Z2o, Z2d, Z23, Z1h, Z2z, evT, Opd.ev, Z03, Z00, Z3k, Z44, Z3x, Z1z, Z1f, Z2w, Z30, Z3c, Z1u, Z0j, Z3p, LOp.isNew, State.prune, Z3n, Z2y, AV.leaf, Heap.at, Z0i, Z09, Z1c, Z0d, Z02, idx_I, idx_W, rowW, Z26, Z2q, Z1s, Z1a, rowB, Z2t, Z2s, rowN, lens_W, Z3h, Z1d, Z15, w_or, w_and, Z2u, w_and1, w_shl, Z48, w_shr, Z49, w_neg, w_add, w_bit, w_eq0, w_eq1, w_eq, Bool.decide_eq_true, Z39, Z3b, Z3a, Z2h, Z1i, Z04, Z0a, Z0l, Z01, Z1v, rowI, RatG.row, LocG.row, ActG.row, StepG.row, StampG.row, ActG.av, ActG.eta, RatG.eta, LocG.eta, beq_true, beq_false, Z2e, Z2n, Z2f, Z2m, Z12, Z0o, Z10, Z11, Z0n, Z0m, Z0b, List.length_set, List.length_replicate, Z08, Int.reduceToNat, evLen, Z21, Z3w, Src.all, Src.len, Src.leaf, Src.leafN, Z36, Z42, joinV, Z0h, Z0p, Z0q, Z0r, Z0s, Z0t, Z0u, Z0v, mkVec, drows, evMk, List.length_map, Z1p, Z1t, List.take_length, List.take_left, List.length_append, Nat.le_add_right, ite_self, List.take_of_length_le, Z37, intOr, Z3z, Option.isSome_none, Option.isSome_some, Nat.sub_zero, loadQ, loadT, evBin, evUn, Z0w, Z0x, binT, binQ, chk, Z3s, List.contains_cons, List.contains_nil, Bool.or_false, Bool.false_or, Bool.and_self, resQ, resV, resT, pickV, Z2r, Z45, Z3o, fnOf, Z3i, isD, HO.drow, viewT, Z3u, evEq, eqV, eqK, eqC1, Z43, Z40, Z35, Z32, lens_I, Z3d, Z2k, Z1l, Z2j, Z1k, Z2i, Z1j, Z1m, Z0y, Z0z, Z0c, List.mem_cons, List.not_mem_nil, or_false, forall_eq, putRow, Z38, get_nil, RetS, RetF, RetD, AV.frz, AV.frzL, AV.freshP, AV.freshL, DV.less, Z24, Z1n, Z25, Z1o, Z0e, Z05, Option.some.injEq, AV.tup.injEq, AV.agg.injEq, List.cons.injEq, DV.list.injEq, List.isEmpty_nil, Nat.le_refl, AV.d.injEq, DV.int.injEq, DV.bool.injEq, ↓reduceIte, Nat.reduceEqDiff, Nat.reduceAdd, Nat.reduceBEq, List.length_cons, List.length_nil, List.replicate_succ, List.replicate_zero, List.nil_append, List.cons_append, List.append_nil, List.foldl_cons, List.foldl_nil, List.map_cons, List.map_nil, List.all_cons, List.all_nil, List.set_cons_zero, List.set_cons_succ, List.getD_cons_zero, List.getD_cons_succ, List.drop_zero, List.drop_succ_cons, List.take_succ_cons, List.take_zero, List.flatten_cons, List.flatten_nil, Bool.true_and, Bool.and_true, Bool.not_true, Bool.not_false, true_and, and_true, true_or, or_true, Option.bind_some, Option.map_some, decide_true, decide_false, beq_self_eq_true, true_implies, false_implies, implies_true, not_true_eq_false, not_false_eq_true, and_self, Bool.and_false, Bool.false_and, Nat.reduceLT, Nat.reduceLeDiff, List.reverse_cons, List.reverse_nil, Nat.zero_add, Nat.add_zero, Bool.false_eq_true, List.getElem?_cons_zero, Nat.reduceMul, Nat.mul_one]
        exact w_end k3 y (seen ++ [i]) p m P _ h64' (((hQf.head y m).four y.e p m y.next).mono (by omega)) (hgo hr h64') hs1 _ hms K
    · exact FamN1.mk [0, 1, 2, 3, 4, 5, 6, 7, 8, 20, 10, 11, 12, 13, 14, 21, 16, 17, 18, 19] (seen ++ [i]) (by decide) (by simp) (by simp only [liveM, mapSt, fourSt, fourS, WX.env, WX.heap, wEnv, P8.heap, P8.four, cellP, rowsP, four, XG.obj, lsX, EvG.obj, List.cons_append, List.nil_append, hstop (fun h => hr h.1), P8.head, decide_eq_false c1, decide_eq_true c2, addP_f, addP_t, State.can, AV.can, AV.canL, HO.can, Z1e, idx, Z03, Z00, Heap.at, Nat.reduceBEq, ↓reduceIte, Nat.reduceEqDiff, Option.getD_some, Option.map_some, List.map_cons, List.map_nil, List.getD_cons_zero, List.getD_cons_succ, List.length_append, List.length_singleton]) hs1 hms
    · exact FamN1.mk [0, 1, 2, 3, 4, 5, 6, 7, 8, 20, 10, 11, 12, 13, 14, 15, 16, 17, 18, 19] (seen ++ [i]) (by decide) (by simp) (by simp only [liveM, mapSt, fourSt, fourS, WX.env, WX.heap, wEnv, P8.heap, P8.four, cellP, rowsP, four, XG.obj, lsX, EvG.obj, List.cons_append, List.nil_append, hstop (fun h => absurd h.2 (by omega)), P8.head, decide_eq_false c1, decide_eq_false c2, addP_f, addP_f, State.can, AV.can, AV.canL, HO.can, Z1e, idx, Z03, Z00, Heap.at, Nat.reduceBEq, ↓reduceIte, Nat.reduceEqDiff, Option.getD_some, Option.map_some, List.map_cons, List.map_nil, List.getD_cons_zero, List.getD_cons_succ, List.length_append, List.length_singleton]) hs1 hms
    · have h64' : p < 64 := by omega
      simp only [hw h64', Int.toNat_natCast]
      refine ⟨by omega, w_four k3 y (seen ++ [i]) p m (Q.head y m) h64' ?_ _ _ [0, 1, 2, 3, 4, 5, 6, 7, 8, 20, 10, 11, 12, 13, 14, 15, 16, 17, 18, 19, 21] (by decide) (by simp) (by simp only [liveY, fourSt, fourS, WX.env, WX.heap, wEnv, P8.heap, P8.four, cellP, rowsP, four, XG.obj, lsX, EvG.obj, List.cons_append, List.nil_append, P8.head, decide_eq_false c1, decide_eq_false c2, addP_f, addP_f, State.can, AV.can, AV.canL, HO.can, Z1e, idx, Z03, Z00, Heap.at, Nat.reduceBEq, ↓reduceIte, Nat.reduceEqDiff, Option.getD_some, Option.map_some, List.map_cons, List.map_nil, List.getD_cons_zero, List.getD_cons_succ, List.length_append, List.length_singleton]; rfl) rfl ?_⟩
      · exact (hQf.head y m).mono (by omega)
      · simp only [↓Z1r, ↓Z2x, ↓Z1x, ↓Z07, ↓Z2p, ↓Z2l, nilG_d, nilG_r, ↓Z2b, ↓Z1q, ↓Z13, ↓Z1y, ↓Z16, ↓Z2a, ↓Z34, ↓Z33, ↓Z20, ↓Z1w, ↓Z2g, ↓Z2c, ↓Z29, ↓Z3t, ↓retK_n, ↓Z3e, ↓Z3g, ↓Z3f, ↓Z46, ↓Z41, ↓famK_r, ↓Z0g, ↓Z06, ↓Z19, ↓Z0k, ↓Z1g, nf_mk, Z0f, Z17, Z3j, Z18, Z3m, evN, Z2v, Z28, Z3l, Z47, Z27, Z1b, Z22, Z2o, Z2d, Z23, Z1h, Z2z, evT, Opd.ev, Z03, Z00, Z3k, Z44, Z3x, Z1z, Z1f, Z2w, Z30, Z3c, Z1u, Z0j, Z3p, LOp.isNew, State.prune, Z3n, Z2y, AV.leaf, Heap.at, Z0i, Z09, Z1c, Z0d, Z02, idx_I, idx_W, rowW, Z26, Z2q, Z1s, Z1a, rowB, Z2t, Z2s, rowN, lens_W, Z3h, Z1d, Z15, w_or, w_and, Z2u, w_and1, w_shl, Z48, w_shr, Z49, w_neg, w_add, w_bit, w_eq0, w_eq1, w_eq, Bool.decide_eq_true, Z39, Z3b, Z3a, Z2h, Z1i, Z04, Z0a, Z0l, Z01, Z1v, rowI, RatG.row, LocG.row, ActG.row, StepG.row, StampG.row, ActG.av, ActG.eta, RatG.eta, LocG.eta, beq_true, beq_false, Z2e, Z2n, Z2f, Z2m, Z12, Z0o, Z10, Z11, Z0n, Z0m, Z0b, List.length_set, List.length_replicate, Z08, Int.reduceToNat, evLen, Z21, Z3w, Src.all, Src.len, Src.leaf, Src.leafN, Z36, Z42, joinV, Z0h, Z0p, Z0q, Z0r, Z0s, Z0t, Z0u, Z0v, mkVec, drows, evMk, List.length_map, Z1p, Z1t, List.take_length, List.take_left, List.length_append, Nat.le_add_right, ite_self, List.take_of_length_le, Z37, intOr, Z3z, Option.isSome_none, Option.isSome_some, Nat.sub_zero, loadQ, loadT, evBin, evUn, Z0w, Z0x, binT, binQ, chk, Z3s, List.contains_cons, List.contains_nil, Bool.or_false, Bool.false_or, Bool.and_self, resQ, resV, resT, pickV, Z2r, Z45, Z3o, fnOf, Z3i, isD, HO.drow, viewT, Z3u, evEq, eqV, eqK, eqC1, Z43, Z40, Z35, Z32, lens_I, Z3d, Z2k, Z1l, Z2j, Z1k, Z2i, Z1j, Z1m, Z0y, Z0z, Z0c, List.mem_cons, List.not_mem_nil, or_false, forall_eq, putRow, Z38, get_nil, RetS, RetF, RetD, AV.frz, AV.frzL, AV.freshP, AV.freshL, DV.less, Z24, Z1n, Z25, Z1o, Z0e, Z05, Option.some.injEq, AV.tup.injEq, AV.agg.injEq, List.cons.injEq, DV.list.injEq, List.isEmpty_nil, Nat.le_refl, AV.d.injEq, DV.int.injEq, DV.bool.injEq, ↓reduceIte, Nat.reduceEqDiff, Nat.reduceAdd, Nat.reduceBEq, List.length_cons, List.length_nil, List.replicate_succ, List.replicate_zero, List.nil_append, List.cons_append, List.append_nil, List.foldl_cons, List.foldl_nil, List.map_cons, List.map_nil, List.all_cons, List.all_nil, List.set_cons_zero, List.set_cons_succ, List.getD_cons_zero, List.getD_cons_succ, List.drop_zero, List.drop_succ_cons, List.take_succ_cons, List.take_zero, List.flatten_cons, List.flatten_nil, Bool.true_and, Bool.and_true, Bool.not_true, Bool.not_false, true_and, and_true, true_or, or_true, Option.bind_some, Option.map_some, decide_true, decide_false, beq_self_eq_true, true_implies, false_implies, implies_true, not_true_eq_false, not_false_eq_true, and_self, Bool.and_false, Bool.false_and, Nat.reduceLT, Nat.reduceLeDiff, List.reverse_cons, List.reverse_nil, Nat.zero_add, Nat.add_zero, Bool.false_eq_true, List.getElem?_cons_zero, Nat.reduceMul, Nat.mul_one]
        exact w_end k3 y (seen ++ [i]) p m P _ h64' (((hQf.head y m).four y.e p m y.next).mono (by omega)) (hgo hr h64') hs1 _ hms K
    · exact FamN1.mk [0, 1, 2, 3, 4, 5, 6, 7, 8, 20, 10, 11, 12, 13, 14, 15, 16, 17, 18, 19] (seen ++ [i]) (by decide) (by simp) (by simp only [liveM, mapSt, fourSt, fourS, WX.env, WX.heap, wEnv, P8.heap, P8.four, cellP, rowsP, four, XG.obj, lsX, EvG.obj, List.cons_append, List.nil_append, hstop (fun h => hr h.1), P8.head, decide_eq_false c1, decide_eq_false c2, addP_f, addP_f, State.can, AV.can, AV.canL, HO.can, Z1e, idx, Z03, Z00, Heap.at, Nat.reduceBEq, ↓reduceIte, Nat.reduceEqDiff, Option.getD_some, Option.map_some, List.map_cons, List.map_nil, List.getD_cons_zero, List.getD_cons_succ, List.length_append, List.length_singleton]) hs1 hms
  · have := hK seen hs.1 (fun i => ⟨hall i, hs.2 i⟩)
    unfold mapK Z31 at this
    simp (maxSteps := 3000000) only [mapSt, fourSt, fourS, WX.env, WX.heap, wEnv, P8.heap, P8.four, cellP, rowsP, four, XG.obj, lsX, EvG.obj, List.cons_append, List.nil_append, hQ, ↓Z1r, ↓Z2x, ↓Z1x, ↓Z07, ↓Z2p, ↓Z2l, nilG_d, nilG_r, ↓Z2b, ↓Z1q, ↓Z13, ↓Z1y, ↓Z16, ↓Z2a, ↓Z34, ↓Z33, ↓Z20, ↓Z1w, ↓Z2g, ↓Z2c, ↓Z29, ↓Z3t, ↓retK_n, ↓Z3e, ↓Z3g, ↓Z3f, ↓Z46, ↓Z41, ↓famK_r, ↓Z0g, ↓Z06, ↓Z19, ↓Z0k, ↓Z1g, nf_mk, Z0f, Z17, Z3j, Z18, Z3m, evN, Z2v, Z28, Z3l, Z47, Z27, Z1b, Z22, Z2o, Z2d, Z23, Z1h, Z2z, evT, Opd.ev, Z03, Z00, Z3k, Z44, Z3x, Z1z, Z1f, Z2w, Z30, Z3c, Z1u, Z0j, Z3p, LOp.isNew, State.prune, Z3n, Z2y, AV.leaf, Heap.at, Z0i, Z09, Z1c, Z0d, Z02, idx_I, idx_W, rowW, Z26, Z2q, Z1s, Z1a, rowB, Z2t, Z2s, rowN, lens_W, Z3h, Z1d, Z15, w_or, w_and, Z2u, w_and1, w_shl, Z48, w_shr, Z49, w_neg, w_add, w_bit, w_eq0, w_eq1, w_eq, Bool.decide_eq_true, Z39, Z3b, Z3a, Z2h, Z1i, Z04, Z0a, Z0l, Z01, Z1v, rowI, RatG.row, LocG.row, ActG.row, StepG.row, StampG.row, ActG.av, ActG.eta, RatG.eta, LocG.eta, beq_true, beq_false, Z2e, Z2n, Z2f, Z2m, Z12, Z0o, Z10, Z11, Z0n, Z0m, Z0b, List.length_set, List.length_replicate, Z08, Int.reduceToNat, evLen, Z21, Z3w, Src.all, Src.len, Src.leaf, Src.leafN, Z36, Z42, joinV, Z0h, Z0p, Z0q, Z0r, Z0s, Z0t, Z0u, Z0v, mkVec, drows, evMk, List.length_map, Z1p, Z1t, List.take_length, List.take_left, List.length_append, Nat.le_add_right, ite_self, List.take_of_length_le, Z37, intOr, Z3z, Option.isSome_none, Option.isSome_some, Nat.sub_zero, loadQ, loadT, evBin, evUn, Z0w, Z0x, binT, binQ, chk, Z3s, List.contains_cons, List.contains_nil, Bool.or_false, Bool.false_or, Bool.and_self, resQ, resV, resT, pickV, Z2r, Z45, Z3o, fnOf, Z3i, isD, HO.drow, viewT, Z3u, evEq, eqV, eqK, eqC1, Z43, Z40, Z35, Z32, lens_I, Z3d, Z2k, Z1l, Z2j, Z1k, Z2i, Z1j, Z1m, Z0y, Z0z, Z0c, List.mem_cons, List.not_mem_nil, or_false, forall_eq, putRow, Z38, get_nil, RetS, RetF, RetD, AV.frz, AV.frzL, AV.freshP, AV.freshL, DV.less, Z24, Z1n, Z25, Z1o, Z0e, Z05, Option.some.injEq, AV.tup.injEq, AV.agg.injEq, List.cons.injEq, DV.list.injEq, List.isEmpty_nil, Nat.le_refl, AV.d.injEq, DV.int.injEq, DV.bool.injEq, ↓reduceIte, Nat.reduceEqDiff, Nat.reduceAdd, Nat.reduceBEq, List.length_cons, List.length_nil, List.replicate_succ, List.replicate_zero, List.nil_append, List.cons_append, List.append_nil, List.foldl_cons, List.foldl_nil, List.map_cons, List.map_nil, List.all_cons, List.all_nil, List.set_cons_zero, List.set_cons_succ, List.getD_cons_zero, List.getD_cons_succ, List.drop_zero, List.drop_succ_cons, List.take_succ_cons, List.take_zero, List.flatten_cons, List.flatten_nil, Bool.true_and, Bool.and_true, Bool.not_true, Bool.not_false, true_and, and_true, true_or, or_true, Option.bind_some, Option.map_some, decide_true, decide_false, beq_self_eq_true, true_implies, false_implies, implies_true, not_true_eq_false, not_false_eq_true, and_self, Bool.and_false, Bool.false_and, Nat.reduceLT, Nat.reduceLeDiff, List.reverse_cons, List.reverse_nil, Nat.zero_add, Nat.add_zero, Bool.false_eq_true, List.getElem?_cons_zero, Nat.reduceMul, Nat.mul_one] at this
    exact this
end Go.Ago

/- Chapter 18: the walk through the events of a thread. Conditions: none. -/
set_option maxRecDepth 100000
set_option linter.unusedSimpArgs false
set_option linter.unusedVariables false
namespace Go.Ago
attribute [local irreducible] vck
/-! ### Eight relations, by what they hold -/
def P8.get (P : P8) : Nat → List RatG
  | 0 => P.po
  | 1 => P.ad
  | 2 => P.da
  | 3 => P.ct
  | 4 => P.fe
  | 5 => P.sy
  | 6 => P.lw
  | _ => P.pa
def P8.Like (P Q : P8) : Prop := ∀ k r, r ∈ P.get k ↔ r ∈ Q.get k
theorem P8.Like.refl (P : P8) : P.Like P := fun _ _ => Iff.rfl
theorem addP_mem {c : Bool} {l : List RatG} {a b : Nat} {r : RatG} : r ∈ addP c l a b ↔ r ∈ l ∨ r ∈ addP c [] a b := by
  cases c
  · rw [addP_f, addP_f]; simp
  · rw [addP_t, addP_t]; simp
theorem P8.get_nil (k : Nat) : P8.nil.get k = [] := by
  match k with
  | 0 => rfl
  | 1 => rfl
  | 2 => rfl
  | 3 => rfl
  | 4 => rfl
  | 5 => rfl
  | 6 => rfl
  | _ + 7 => rfl
theorem P8.step_get (P : P8) (y : WX) (p m k : Nat) (r : RatG) : r ∈ (P.step y p m).get k ↔ r ∈ P.get k ∨ r ∈ (P8.nil.step y p m).get k := by
  unfold P8.step
  split
  · match k with
    | 0 => show r ∈ P.po ++ _ ↔ _ ∨ r ∈ [] ++ _; rw [List.mem_append, List.nil_append]; rfl
    | 1 => exact addP_mem
    | 2 => exact addP_mem
    | 3 => exact addP_mem
    | 4 => exact addP_mem
    | 5 => exact addP_mem
    | 6 => exact addP_mem
    | _ + 7 => exact addP_mem
  · match k with
    | 0 => show r ∈ P.po ++ _ ↔ _ ∨ r ∈ [] ++ _; rw [List.mem_append, List.nil_append]; rfl
    | 1 => exact ⟨.inl, fun h => h.elim id (fun h => (List.not_mem_nil h).elim)⟩
    | 2 => exact ⟨.inl, fun h => h.elim id (fun h => (List.not_mem_nil h).elim)⟩
    | 3 => exact ⟨.inl, fun h => h.elim id (fun h => (List.not_mem_nil h).elim)⟩
    | 4 => exact ⟨.inl, fun h => h.elim id (fun h => (List.not_mem_nil h).elim)⟩
    | 5 => exact addP_mem
    | 6 => exact addP_mem
    | _ + 7 => exact ⟨.inl, fun h => h.elim id (fun h => (List.not_mem_nil h).elim)⟩
theorem P8.many_get (y : WX) (k : Nat) (r : RatG) : ∀ (l : List Nat) (P : P8), r ∈ (P.many y l).get k ↔ r ∈ P.get k ∨ ∃ i ∈ l, r ∈ (P8.nil.step y (y.es.getD i (0, 0)).1.toNat (y.es.getD i (0, 0)).2.toNat).get k
  | [], P => by show r ∈ P.get k ↔ _; simp
  | i :: l, P => by
    show r ∈ (P8.many (P.step y _ _) y l).get k ↔ _
    rw [P8.many_get y k r l, P8.step_get, or_assoc]
    simp
theorem P8.many_like {P Q : P8} (h : P.Like Q) {y : WX} {l l' : List Nat} (hl : ∀ i, i ∈ l ↔ i ∈ l') : (P.many y l).Like (Q.many y l') := fun k r => by
  rw [P8.many_get, P8.many_get, h k r]
  simp only [hl]
/-! ### One event -/
structure WS where
  P : P8
  fe : Int
  li : Int
  es : List (Int × Int)
  next : Nat
/-- What the program stands on beside: the execution, the threads, the thread at hand. -/
structure WC where
  x : XG
  runs : List RunG
  g : Bool
  t : Nat
  evs : List EvG
  eg : Bool
def WC.wx (c : WC) (s : WS) (e : EvG) (i : Nat) : WX := ⟨c.x, c.runs, c.g, c.t, c.evs, c.eg, i, e, s.fe, s.li, s.es, s.next⟩
def WS.mark (s : WS) (e : EvG) : WS := { s with fe := if e.kind = 3 then s.next else s.fe, li := if e.kind = 4 then s.next else s.li }
def WS.ev (c : WC) (s : WS) (e : EvG) (i : Nat) : WS :=
  if e.isM = true then { s with P := s.P.many (c.wx s e i) (List.range s.es.length), es := s.es ++ [((i : Int), (s.next : Int))], next := s.next + 1 } else s.mark e
def WC.run (c : WC) (s : WS) : Nat → WS
  | 0 => s
  | i + 1 => (c.run s i).ev c (c.evs.getD i default) i
structure WS.Like (s r : WS) : Prop where
  P : s.P.Like r.P
  fe : s.fe = r.fe
  li : s.li = r.li
  es : s.es = r.es
  next : s.next = r.next
def memN (l : List EvG) : Nat := (l.filter EvG.isM).length
def liveE : List Nat := [0, 6, 7, 8, 9, 10, 11, 12, 13, 14, 15, 18, 19, 20, 34, 35, 36, 42, 43, 44]
def evSt (c : WC) (x : Nat × WS) : State :=
  ⟨wEnv c.x.nodes.length x.2.next ++ [(18, .mapr 17), (19, .d (.int .i64 x.2.fe)), (20, .d (.int .i64 x.2.li)), (34, .d (.list (c.runs.map RunG.row) c.g)), (35, .d (.int .i64 c.runs.length)), (36, .d (.int .i64 c.t)), (42, .d (.list (c.evs.map EvG.row) c.eg)), (43, .d (.int .i64 c.evs.length)), (44, .d (.int .i64 x.1))],
    x.2.P.heap c.x.obj ++ [.mapo x.2.es]⟩
def evK (c : WC) (s : WS) : State :=
  ⟨(45, .d (.bool false)) :: (((evSt c (c.evs.length, s)).app (some 45) ⟨.d (.bool (decide ((c.evs.length : Int) < (c.evs.length : Int)))), [], []⟩).prune Z31).env, (evSt c (c.evs.length, s)).heap⟩
structure evInv (c : WC) (s0 : WS) (x : Nat × WS) : Prop where
  i : x.1 ≤ c.evs.length
  like : x.2.Like (c.run s0 x.1)
  few : x.2.P.Few (x.2.next * 64)
  es : ∀ i, i < x.2.es.length → ∃ p m : Nat, x.2.es.getD i (0, 0) = ((p : Int), (m : Int)) ∧ p < x.1 ∧ m < x.2.next
  len : x.2.es.length ≤ x.2.next
  next : x.2.next + memN (c.evs.drop x.1) ≤ c.x.nodes.length
theorem ev_like_no {c : WC} {s r : WS} {e : EvG} {i : Nat} (hM : e.isM = false) (h : s.Like r) : (s.mark e).Like (r.ev c e i) := by
  unfold WS.ev
  rw [if_neg (by rw [hM]; simp)]
  exact ⟨h.P, by show ite _ _ _ = ite _ _ _; rw [h.next, h.fe], by show ite _ _ _ = ite _ _ _; rw [h.next, h.li], h.es, h.next⟩
theorem ev_like_yes {c : WC} {s r : WS} {e : EvG} {i : Nat} {seen : List Nat} (hM : e.isM = true) (h : s.Like r) (hs : ∀ j, j < s.es.length ↔ j ∈ seen) :
    (⟨s.P.many (c.wx s e i) seen, s.fe, s.li, s.es ++ [((i : Int), (s.next : Int))], s.next + 1⟩ : WS).Like (r.ev c e i) := by
  unfold WS.ev
  rw [if_pos hM]
  obtain ⟨P, fe, li, es, next⟩ := s
  obtain ⟨P', fe', li', es', next'⟩ := r
  obtain ⟨h1, h2, h3, h4, h5⟩ := h
  simp only at h2 h3 h4 h5
  subst h2; subst h3; subst h4; subst h5
  exact ⟨P8.many_like h1 (fun j => by rw [← hs j, List.mem_range]), rfl, rfl, rfl, rfl⟩
theorem memN_drop {l : List EvG} {i : Nat} (h : i < l.length) (hM : (l.getD i default).isM = false) : memN (l.drop i) = memN (l.drop (i + 1)) := by
  have : l.drop i = l.getD i default :: l.drop (i + 1) := by rw [List.drop_eq_getElem_cons h, List.getD_eq_getElem?_getD, List.getElem?_eq_getElem h]; rfl
  unfold memN
  rw [this, List.filter_cons, hM]; rfl
theorem memN_drop1 {l : List EvG} {i : Nat} (h : i < l.length) (hM : (l.getD i default).isM = true) : memN (l.drop i) = memN (l.drop (i + 1)) + 1 := by
  have : l.drop i = l.getD i default :: l.drop (i + 1) := by rw [List.drop_eq_getElem_cons h, List.getD_eq_getElem?_getD, List.getElem?_eq_getElem h]; rfl
  unfold memN
  rw [this, List.filter_cons, hM]; rfl
theorem P8.many_nil {P : P8} {y : WX} : P.many y [] = P := rfl
theorem mPut_new {es : List (Int × Int)} {a b : Int} (h : ∀ j, j < es.length → (es.getD j (0, 0)).1 ≠ a) : mPut es a b = es ++ [(a, b)] := by
  unfold mPut
  have : es.findIdx? (fun p => decide (p.1 = a)) = none := by
    rw [List.findIdx?_eq_none_iff]
    intro x hx
    obtain ⟨j, hj, rfl⟩ := List.mem_iff_getElem.1 hx
    have := h j hj
    rw [List.getD_eq_getElem?_getD, List.getElem?_eq_getElem hj] at this
    exact decide_eq_false this
  rw [this]
set_option maxHeartbeats 4000000 in
theorem w_evs {T : Tab} {n1 n3 : Nat} (k1 : Knows T n1 sp_isM) (k3 : KnowsG T n3 addE) (c : WC) (s0 : WS) (hn : c.x.nodes.length ≤ 64) (he : c.evs.length ≤ maxLen) (h5 : evInv c s0 (0, s0)) (K : AExit → State → Prop)
    (S : State) (ρ : List Nat) (h1 : ρ.Nodup) (h2 : ∀ i ∈ ρ, i < S.heap.length) (h3 : S.can ρ liveE = evSt c (0, s0)) (h0 : ρ[0]? = some 0)
    (hK : ∀ s, evInv c s0 (c.evs.length, s) → K (.exit 2) (evK c s)) : Loop T 1 Z31 (L_cand_within_v n1 n3) S K := by
  have F1 := k1.F; have G1 := k1.G; have G3 := k3.G
  refine Loop.fam1 liveE (evSt c) (evInv c s0) (fun x => c.evs.length - x.1) (0, s0) ρ h1 h2 h3 h5 ?_ h0
  rintro ⟨i, P, fe, li, es, next⟩ hI
  unfold L_cand_within_v Z31
  simp (maxSteps := 3000000) only [evSt, WX.env, WX.heap, wEnv, P8.heap, cellP, rowsP, XG.obj, lsX, EvG.obj, List.cons_append, List.nil_append, ↓Z1r, ↓Z2x, ↓Z1x, ↓Z07, ↓Z2p, ↓Z2l, nilG_d, nilG_r, ↓Z2b, ↓Z1q, ↓Z13, ↓Z1y, ↓Z16, ↓Z2a, ↓Z34, ↓Z33, ↓Z20, ↓Z1w, ↓Z2g, ↓Z2c, ↓Z29, ↓Z3t, ↓retK_n, ↓Z3e, ↓Z3g, ↓Z3f, ↓Z46, ↓Z41, ↓famK_r, ↓Z0g, ↓Z06, ↓Z19, ↓Z0k, ↓Z1g, nf_mk, Z0f, Z17, Z3j, Z18, Z3m, evN, Z2v, Z28, Z3l, Z47, Z27, Z1b, Z22, Z2o, Z2d, Z23, Z1h, Z2z, evT, Opd.ev, Z03, Z00, Z3k, Z44, Z3x, Z1z, Z1f, Z2w, Z30, Z3c, Z1u, Z0j, Z3p, LOp.isNew, State.prune, Z3n, Z2y, AV.leaf, Heap.at, Z0i, Z09, Z1c, Z0d, Z02, idx_I, idx_W, rowW, Z26, Z2q, Z1s, Z1a, rowB, Z2t, Z2s, rowN, lens_W, Z3h, Z1d, Z15, w_or, w_and, Z2u, w_and1, w_shl, Z48, w_shr, Z49, w_neg, w_add, w_bit, w_eq0, w_eq1, w_eq, Bool.decide_eq_true, Z39, Z3b, Z3a, Z2h, Z1i, Z04, Z0a, Z0l, Z01, Z1v, rowI, RatG.row, LocG.row, ActG.row, StepG.row, StampG.row, ActG.av, ActG.eta, RatG.eta, LocG.eta, beq_true, beq_false, Z2e, Z2n, Z2f, Z2m, Z12, Z0o, Z10, Z11, Z0n, Z0m, Z0b, List.length_set, List.length_replicate, Z08, Int.reduceToNat, evLen, Z21, Z3w, Src.all, Src.len, Src.leaf, Src.leafN, Z36, Z42, joinV, Z0h, Z0p, Z0q, Z0r, Z0s, Z0t, Z0u, Z0v, mkVec, drows, evMk, List.length_map, Z1p, Z1t, List.take_length, List.take_left, List.length_append, Nat.le_add_right, ite_self, List.take_of_length_le, Z37, intOr, Z3z, Option.isSome_none, Option.isSome_some, Nat.sub_zero, loadQ, loadT, evBin, evUn, Z0w, Z0x, binT, binQ, chk, Z3s, List.contains_cons, List.contains_nil, Bool.or_false, Bool.false_or, Bool.and_self, resQ, resV, resT, pickV, Z2r, Z45, Z3o, fnOf, Z3i, isD, HO.drow, viewT, Z3u, evEq, eqV, eqK, eqC1, Z43, Z40, Z35, Z32, lens_I, Z3d, Z2k, Z1l, Z2j, Z1k, Z2i, Z1j, Z1m, Z0y, Z0z, Z0c, List.mem_cons, List.not_mem_nil, or_false, forall_eq, putRow, Z38, get_nil, RetS, RetF, RetD, AV.frz, AV.frzL, AV.freshP, AV.freshL, DV.less, Z24, Z1n, Z25, Z1o, Z0e, Z05, Option.some.injEq, AV.tup.injEq, AV.agg.injEq, List.cons.injEq, DV.list.injEq, List.isEmpty_nil, Nat.le_refl, AV.d.injEq, DV.int.injEq, DV.bool.injEq, ↓reduceIte, Nat.reduceEqDiff, Nat.reduceAdd, Nat.reduceBEq, List.length_cons, List.length_nil, List.replicate_succ, List.replicate_zero, List.nil_append, List.cons_append, List.append_nil, List.foldl_cons, List.foldl_nil, List.map_cons, List.map_nil, List.all_cons, List.all_nil, List.set_cons_zero, List.set_cons_succ, List.getD_cons_zero, List.getD_cons_succ, List.drop_zero, List.drop_succ_cons, List.take_succ_cons, List.take_zero, List.flatten_cons, List.flatten_nil, Bool.true_and, Bool.and_true, Bool.not_true, Bool.not_false, true_and, and_true, true_or, or_true, Option.bind_some, Option.map_some, decide_true, decide_false, beq_self_eq_true, true_implies, false_implies, implies_true, not_true_eq_false, not_false_eq_true, and_self, Bool.and_false, Bool.false_and, Nat.reduceLT, Nat.reduceLeDiff, List.reverse_cons, List.reverse_nil, Nat.zero_add, Nat.add_zero, Bool.false_eq_true, List.getElem?_cons_zero, Nat.reduceMul, Nat.mul_one, idx_Ev, EvG.row, F1, G1, at_isM, G3, ↓vck_mnext, nextX_p, nextG_i, nextM_m, evMSet, evMSetO, evMGet, evMGetO, evMRange, evMRangeO, evMEnt, evMEntI, evMEntO, mVal, addE, addE1, addE2, famK1_n, famK1_x, famK1_r]
  obtain ⟨i1, i2, i3, i4, i5, i6⟩ := hI
  have i1 : i ≤ c.evs.length := i1
  have i3 : P.Few (next * 64) := i3
  have i5 : es.length ≤ next := i5
  have i6 : next + memN (c.evs.drop i) ≤ c.x.nodes.length := i6
  have w1 : i < c.evs.length → IntKind.i64.wrap ((i : Int) + 1) = ((i + 1 : Nat) : Int) := fun h => wrap_succ h he
  generalize hee : c.evs.getD i default = e
  have hrun : (c.run s0 (i + 1)) = (c.run s0 i).ev c e i := by rw [← hee]; rfl
  have hno : i < c.evs.length → e.isM = false → evInv c s0 (i + 1, (⟨P, fe, li, es, next⟩ : WS).mark e) := fun hi hM => by
    refine ⟨hi, ?_, i3, fun j hj => ?_, i5, ?_⟩
    · rw [hrun]; exact ev_like_no hM i2
    · obtain ⟨p, m, h1, h2, h3⟩ := i4 j hj
      exact ⟨p, m, h1, Nat.lt_succ_of_lt h2, h3⟩
    · have := memN_drop hi (hee ▸ hM : (c.evs.getD i default).isM = false)
      show next + memN (c.evs.drop (i + 1)) ≤ _
      omega
  have hyes : i < c.evs.length → e.isM = true → ∀ seen : List Nat, seen.Nodup → (∀ j, j < es.length ↔ j ∈ seen) → evInv c s0 (i + 1, ⟨P.many (c.wx ⟨P, fe, li, es, next⟩ e i) seen, fe, li, es ++ [((i : Int), (next : Int))], next + 1⟩) := fun hi hM seen hs1 hs2 => by
    have h7 := memN_drop1 hi (hee ▸ hM : (c.evs.getD i default).isM = true)
    refine ⟨hi, ?_, ?_, fun j hj => ?_, ?_, ?_⟩
    · rw [hrun]; exact ev_like_yes hM i2 hs2
    · exact (many_few i3 hs1 (fun j hj => (hs2 j).2 hj)).mono (by show next * 64 + es.length ≤ (next + 1) * 64; omega)
    · have hj : j < (es ++ [((i : Int), (next : Int))]).length := hj
      rw [List.length_append, List.length_singleton] at hj
      by_cases h : j < es.length
      · obtain ⟨p, m, h1, h2, h3⟩ := i4 j h
        refine ⟨p, m, ?_, Nat.lt_succ_of_lt h2, Nat.lt_succ_of_lt h3⟩
        show (es ++ _).getD j (0, 0) = _
        rw [List.getD_eq_getElem?_getD, List.getElem?_append_left h, ← List.getD_eq_getElem?_getD]
        exact h1
      · have : j = es.length := by omega
        subst this
        refine ⟨i, next, ?_, Nat.lt_succ_self _, Nat.lt_succ_self _⟩
        show (es ++ _).getD es.length (0, 0) = _
        rw [List.getD_eq_getElem?_getD, List.getElem?_append_right (Nat.le_refl _), Nat.sub_self]; rfl
    · show (es ++ _).length ≤ next + 1
      rw [List.length_append, List.length_singleton]; omega
    · show next + 1 + memN (c.evs.drop (i + 1)) ≤ _
      omega
  have m1 : i < c.evs.length → c.evs.length - (i + 1) < c.evs.length - i := fun h => by omega
  refine ⟨fun hi => ⟨⟨by omega, by omega⟩, fun k3' => ?_, fun k3' => ⟨fun k4' => ?_, fun k4' => ?_⟩⟩, fun hi => ?_⟩
  · have hi : i < c.evs.length := by omega
    have hM : e.isM = false := by unfold EvG.isM; rw [decide_eq_false (by omega), decide_eq_false (by omega)]; rfl
    rw [hM, Z06, w1 hi]
    refine FamN1.mk [0, 1, 2, 3, 4, 5, 6, 7, 8, 9, 10, 11, 12, 13, 14, 15, 16, 17] (i + 1, ⟨P, next, li, es, next⟩) (by decide) (by simp) (by simp only [liveE, evSt, WX.env, WX.heap, wEnv, P8.heap, cellP, rowsP, XG.obj, lsX, EvG.obj, List.cons_append, List.nil_append, State.can, AV.can, AV.canL, HO.can, Z1e, idx, Z03, Z00, Heap.at, Nat.reduceBEq, ↓reduceIte, Nat.reduceEqDiff, Option.getD_some, Option.map_some, List.map_cons, List.map_nil, List.getD_cons_zero, List.getD_cons_succ]) ?_ (m1 hi)
    have := hno hi hM
    unfold WS.mark at this
    rwa [if_pos k3', if_neg (by omega)] at this
  · have hi : i < c.evs.length := by omega
    have hM : e.isM = false := by unfold EvG.isM; rw [decide_eq_false (by omega), decide_eq_false (by omega)]; rfl
    rw [hM, Z06, w1 hi]
    refine FamN1.mk [0, 1, 2, 3, 4, 5, 6, 7, 8, 9, 10, 11, 12, 13, 14, 15, 16, 17] (i + 1, ⟨P, fe, next, es, next⟩) (by decide) (by simp) (by simp only [liveE, evSt, WX.env, WX.heap, wEnv, P8.heap, cellP, rowsP, XG.obj, lsX, EvG.obj, List.cons_append, List.nil_append, State.can, AV.can, AV.canL, HO.can, Z1e, idx, Z03, Z00, Heap.at, Nat.reduceBEq, ↓reduceIte, Nat.reduceEqDiff, Option.getD_some, Option.map_some, List.map_cons, List.map_nil, List.getD_cons_zero, List.getD_cons_succ]) ?_ (m1 hi)
    have := hno hi hM
    unfold WS.mark at this
    rwa [if_neg k3', if_pos k4'] at this
  · have hi : i < c.evs.length := by omega
    cases hM : e.isM with
    | false =>
      rw [Z06, w1 hi]
      refine FamN1.mk [0, 1, 2, 3, 4, 5, 6, 7, 8, 9, 10, 11, 12, 13, 14, 15, 16, 17] (i + 1, ⟨P, fe, li, es, next⟩) (by decide) (by simp) (by simp only [liveE, evSt, WX.env, WX.heap, wEnv, P8.heap, cellP, rowsP, XG.obj, lsX, EvG.obj, List.cons_append, List.nil_append, State.can, AV.can, AV.canL, HO.can, Z1e, idx, Z03, Z00, Heap.at, Nat.reduceBEq, ↓reduceIte, Nat.reduceEqDiff, Option.getD_some, Option.map_some, List.map_cons, List.map_nil, List.getD_cons_zero, List.getD_cons_succ]) ?_ (m1 hi)
      have := hno hi hM
      unfold WS.mark at this
      rwa [if_neg k3', if_neg k4'] at this
    | true =>
      rw [Z0g]
      have h7 := memN_drop1 hi (hee ▸ hM : (c.evs.getD i default).isM = true)
      refine w_map k3 (c.wx ⟨P, fe, li, es, next⟩ e i) P ⟨fun j hj => ?_, by show es.length ≤ 1000; omega⟩ (i3.mono (by omega)) _ _ (List.range 20) (by decide) ?_ (by simp only [liveM, mapSt, WC.wx, P8.many_nil, List.range, List.range.loop, WX.env, WX.heap, wEnv, P8.heap, cellP, rowsP, XG.obj, lsX, EvG.obj, List.cons_append, List.nil_append, State.can, AV.can, AV.canL, HO.can, Z1e, idx, Z03, Z00, Heap.at, Nat.reduceBEq, ↓reduceIte, Nat.reduceEqDiff, Option.getD_some, Option.map_some, List.map_cons, List.map_nil, List.getD_cons_zero, List.getD_cons_succ]) rfl (fun seen hs1 hs2 => ?_)
      · obtain ⟨p, m, h1, h2, h3⟩ := i4 j hj
        exact ⟨p, m, h1, by omega, by show m < c.x.nodes.length; have h3 : m < next := h3; omega⟩
      · intro j hj
        have := List.mem_range.1 hj
        simp only [List.length_cons, List.length_nil]
        exact this
      · have hs2 : ∀ j, j < es.length ↔ j ∈ seen := hs2
        have hI2 := hyes hi hM seen hs1 hs2
        have hput : mPut es (i : Int) (next : Int) = es ++ [((i : Int), (next : Int))] := mPut_new (fun j hj => by
          obtain ⟨p, m, h1, h2, h3⟩ := i4 j hj
          have h1 : es.getD j (0, 0) = ((p : Int), (m : Int)) := h1
          have h2 : p < i := h2
          rw [h1]
          show (p : Int) ≠ i
          omega)
        have w2 : IntKind.i64.wrap ((next : Int) + 1) = ((next + 1 : Nat) : Int) := by rw [wrap_id (by omega) (by omega)]; omega
        revert hI2
        generalize hQ : P.many (c.wx ⟨P, fe, li, es, next⟩ e i) seen = Q
        intro hI2
        unfold mapK Z31
        simp (maxSteps := 3000000) only [mapSt, hQ, ↓Z1r, ↓Z2x, ↓Z1x, ↓Z07, ↓Z2p, ↓Z2l, nilG_d, nilG_r, ↓Z2b, ↓Z1q, ↓Z13, ↓Z1y, ↓Z16, ↓Z2a, ↓Z34, ↓Z33, ↓Z20, ↓Z1w, ↓Z2g, ↓Z2c, ↓Z29, ↓Z3t, ↓retK_n, ↓Z3e, ↓Z3g, ↓Z3f, ↓Z46, ↓Z41, ↓famK_r, ↓Z0g, ↓Z06, ↓Z19, ↓Z0k, ↓Z1g, nf_mk, Z0f, Z17, Z3j, Z18, Z3m, evN, Z2v, Z28, Z3l, Z47, Z27, Z1b, Z22, Z2o, Z2d, Z23, Z1h, Z2z, evT, Opd.ev, Z03, Z00, Z3k, Z44, Z3x, Z1z, Z1f, Z2w, Z30, Z3c, Z1u, Z0j, Z3p, LOp.isNew, State.prune, Z3n, Z2y, AV.leaf, Heap.at, Z0i, Z09, Z1c, Z0d, Z02, idx_I, idx_W, rowW, Z26, Z2q, Z1s, Z1a, rowB, Z2t, Z2s, rowN, lens_W, Z3h, Z1d, Z15, w_or, w_and, Z2u, w_and1, w_shl, Z48, w_shr, Z49, w_neg, w_add, w_bit, w_eq0, w_eq1, w_eq, Bool.decide_eq_true, Z39, Z3b, Z3a, Z2h, Z1i, Z04, Z0a, Z0l, Z01, Z1v, rowI, RatG.row, LocG.row, ActG.row, StepG.row, StampG.row, ActG.av, ActG.eta, RatG.eta, LocG.eta, beq_true, beq_false, Z2e, Z2n, Z2f, Z2m, Z12, Z0o, Z10, Z11, Z0n, Z0m, Z0b, List.length_set, List.length_replicate, Z08, Int.reduceToNat, evLen, Z21, Z3w, Src.all, Src.len, Src.leaf, Src.leafN, Z36, Z42, joinV, Z0h, Z0p, Z0q, Z0r, Z0s, Z0t, Z0u, Z0v, mkVec, drows, evMk, List.length_map, Z1p, Z1t, List.take_length, List.take_left, List.length_append, Nat.le_add_right, ite_self, List.take_of_length_le, Z37, intOr, Z3z, Option.isSome_none, Option.isSome_some, Nat.sub_zero, loadQ, loadT, evBin, evUn, Z0w, Z0x, binT, binQ, chk, Z3s, List.contains_cons, List.contains_nil, Bool.or_false, Bool.false_or, Bool.and_self, resQ, resV, resT, pickV, Z2r, Z45, Z3o, fnOf, Z3i, isD, HO.drow, viewT, Z3u, evEq, eqV, eqK, eqC1, Z43, Z40, Z35, Z32, lens_I, Z3d, Z2k, Z1l, Z2j, Z1k, Z2i, Z1j, Z1m, Z0y, Z0z, Z0c, List.mem_cons, List.not_mem_nil, or_false, forall_eq, putRow, Z38, get_nil, RetS, RetF, RetD, AV.frz, AV.frzL, AV.freshP, AV.freshL, DV.less, Z24, Z1n, Z25, Z1o, Z0e, Z05, Option.some.injEq, AV.tup.injEq, AV.agg.injEq, List.cons.injEq, DV.list.injEq, List.isEmpty_nil, Nat.le_refl, AV.d.injEq, DV.int.injEq, DV.bool.injEq, ↓reduceIte, Nat.reduceEqDiff, Nat.reduceAdd, Nat.reduceBEq, List.length_cons, List.length_nil, List.replicate_succ, List.replicate_zero, List.nil_append, List.cons_append, List.append_nil, List.foldl_cons, List.foldl_nil, List.map_cons, List.map_nil, List.all_cons, List.all_nil, List.set_cons_zero, List.set_cons_succ, List.getD_cons_zero, List.getD_cons_succ, List.drop_zero, List.drop_succ_cons, List.take_succ_cons, List.take_zero, List.flatten_cons, List.flatten_nil, Bool.true_and, Bool.and_true, Bool.not_true, Bool.not_false, true_and, and_true, true_or, or_true, Option.bind_some, Option.map_some, decide_true, decide_false, beq_self_eq_true, true_implies, false_implies, implies_true, not_true_eq_false, not_false_eq_true, and_self, Bool.and_false, Bool.false_and, Nat.reduceLT, Nat.reduceLeDiff, List.reverse_cons, List.reverse_nil, Nat.zero_add, Nat.add_zero, Bool.false_eq_true, List.getElem?_cons_zero, Nat.reduceMul, Nat.mul_one, idx_Ev, EvG.row, F1, G1, at_isM, G3, ↓vck_mnext, nextX_p, nextG_i, nextM_m, evMSet, evMSetO, evMGet, evMGetO, evMRange, evMRangeO, evMEnt, evMEntI, evMEntO, mVal, addE, addE1, addE2, famK1_n, famK1_x, famK1_r]
        simp (maxSteps := 3000000) only [WC.wx, WX.env, WX.heap, wEnv, P8.heap, cellP, rowsP, XG.obj, lsX, EvG.obj, List.cons_append, List.nil_append, ↓Z1r, ↓Z2x, ↓Z1x, ↓Z07, ↓Z2p, ↓Z2l, nilG_d, nilG_r, ↓Z2b, ↓Z1q, ↓Z13, ↓Z1y, ↓Z16, ↓Z2a, ↓Z34, ↓Z33, ↓Z20, ↓Z1w, ↓Z2g, ↓Z2c, ↓Z29, ↓Z3t, ↓retK_n, ↓Z3e, ↓Z3g, ↓Z3f, ↓Z46, ↓Z41, ↓famK_r, ↓Z0g, ↓Z06, ↓Z19, ↓Z0k, ↓Z1g, nf_mk, Z0f, Z17, Z3j, Z18, Z3m, evN, Z2v, Z28, Z3l, Z47, Z27, Z1b, Z22, Z2o, Z2d, Z23, Z1h, Z2z, evT, Opd.ev, Z03, Z00, Z3k, Z44, Z3x, Z1z, Z1f, Z2w, Z30, Z3c, Z1u, Z0j, Z3p, LOp.isNew, State.prune, Z3n, Z2y, AV.leaf, Heap.at, Z0i, Z09, Z1c, Z0d, Z02, idx_I, idx_W, rowW, Z26, Z2q, Z1s, Z1a, rowB, Z2t, Z2s, rowN, lens_W, Z3h, Z1d, Z15, w_or, w_and, Z2u, w_and1, w_shl, Z48, w_shr, Z49, w_neg, w_add, w_bit, w_eq0, w_eq1, w_eq, Bool.decide_eq_true, Z39, Z3b, Z3a, Z2h, Z1i, Z04, Z0a, Z0l, Z01, Z1v, rowI, RatG.row, LocG.row, ActG.row, StepG.row, StampG.row, ActG.av, ActG.eta, RatG.eta, LocG.eta, beq_true, beq_false, Z2e, Z2n, Z2f, Z2m, Z12, Z0o, Z10, Z11, Z0n, Z0m, Z0b, List.length_set, List.length_replicate, Z08, Int.reduceToNat, evLen, Z21, Z3w, Src.all, Src.len, Src.leaf, Src.leafN, Z36, Z42, joinV, Z0h, Z0p, Z0q, Z0r, Z0s, Z0t, Z0u, Z0v, mkVec, drows, evMk, List.length_map, Z1p, Z1t, List.take_length, List.take_left, List.length_append, Nat.le_add_right, ite_self, List.take_of_length_le, Z37, intOr, Z3z, Option.isSome_none, Option.isSome_some, Nat.sub_zero, loadQ, loadT, evBin, evUn, Z0w, Z0x, binT, binQ, chk, Z3s, List.contains_cons, List.contains_nil, Bool.or_false, Bool.false_or, Bool.and_self, resQ, resV, resT, pickV, Z2r, Z45, Z3o, fnOf, Z3i, isD, HO.drow, viewT, Z3u, evEq, eqV, eqK, eqC1, Z43, Z40, Z35, Z32, lens_I, Z3d, Z2k, Z1l, Z2j, Z1k, Z2i, Z1j, Z1m, Z0y, Z0z, Z0c, List.mem_cons, List.not_mem_nil, or_false, forall_eq, putRow, Z38, get_nil, RetS, RetF, RetD, AV.frz, AV.frzL, AV.freshP, AV.freshL, DV.less, Z24, Z1n, Z25, Z1o, Z0e, Z05, Option.some.injEq, AV.tup.injEq, AV.agg.injEq, List.cons.injEq, DV.list.injEq, List.isEmpty_nil, Nat.le_refl, AV.d.injEq, DV.int.injEq, DV.bool.injEq, ↓reduceIte, Nat.reduceEqDiff, Nat.reduceAdd, Nat.reduceBEq, List.length_cons, List.length_nil, List.replicate_succ, List.replicate_zero, List.nil_append, List.cons_append, List.append_nil, List.foldl_cons, List.foldl_nil, List.map_cons, List.map_nil, List.all_cons, List.all_nil, List.set_cons_zero, List.set_cons_succ, List.getD_cons_zero, List.getD_cons_succ, List.drop_zero, List.drop_succ_cons, List.take_succ_cons, List.take_zero, List.flatten_cons, List.flatten_nil, Bool.true_and, Bool.and_true, Bool.not_true, Bool.not_false, true_and, and_true, true_or, or_true, Option.bind_some, Option.map_some, decide_true, decide_false, beq_self_eq_true, true_implies, false_implies, implies_true, not_true_eq_false, not_false_eq_true, and_self, Bool.and_false, Bool.false_and, Nat.reduceLT, Nat.reduceLeDiff, List.reverse_cons, List.reverse_nil, Nat.zero_add, Nat.add_zero, Bool.false_eq_true, List.getElem?_cons_zero, Nat.reduceMul, Nat.mul_one, idx_Ev, EvG.row, F1, G1, at_isM, G3, ↓vck_mnext, nextX_p, nextG_i, nextM_m, evMSet, evMSetO, evMGet, evMGetO, evMRange, evMRangeO, evMEnt, evMEntI, evMEntO, mVal, addE, addE1, addE2, famK1_n, famK1_x, famK1_r, hput, w1 hi, w2]
        exact FamN1.mk [0, 1, 2, 3, 4, 5, 6, 7, 8, 9, 10, 11, 12, 13, 14, 15, 16, 17] (i + 1, ⟨Q, fe, li, es ++ [((i : Int), (next : Int))], next + 1⟩) (by decide) (by simp) (by simp only [liveE, evSt, WX.env, WX.heap, wEnv, P8.heap, cellP, rowsP, XG.obj, lsX, EvG.obj, List.cons_append, List.nil_append, State.can, AV.can, AV.canL, HO.can, Z1e, idx, Z03, Z00, Heap.at, Nat.reduceBEq, ↓reduceIte, Nat.reduceEqDiff, Option.getD_some, Option.map_some, List.map_cons, List.map_nil, List.getD_cons_zero, List.getD_cons_succ]) hI2 (m1 hi)
  · have : i = c.evs.length := by omega
    subst this
    have := hK ⟨P, fe, li, es, next⟩ ⟨i1, i2, i3, i4, i5, i6⟩
    unfold evK Z31 at this
    simp (maxSteps := 3000000) only [evSt, WX.env, WX.heap, wEnv, P8.heap, cellP, rowsP, XG.obj, lsX, EvG.obj, List.cons_append, List.nil_append, ↓Z1r, ↓Z2x, ↓Z1x, ↓Z07, ↓Z2p, ↓Z2l, nilG_d, nilG_r, ↓Z2b, ↓Z1q, ↓Z13, ↓Z1y, ↓Z16, ↓Z2a, ↓Z34, ↓Z33, ↓Z20, ↓Z1w, ↓Z2g, ↓Z2c, ↓Z29, ↓Z3t, ↓retK_n, ↓Z3e, ↓Z3g, ↓Z3f, ↓Z46, ↓Z41, ↓famK_r, ↓Z0g, ↓Z06, ↓Z19, ↓Z0k, ↓Z1g, nf_mk, Z0f, Z17, Z3j, Z18, Z3m, evN, Z2v, Z28, Z3l, Z47, Z27, Z1b, Z22, Z2o, Z2d, Z23, Z1h, Z2z, evT, Opd.ev, Z03, Z00, Z3k, Z44, Z3x, Z1z, Z1f, Z2w, Z30, Z3c, Z1u, Z0j, Z3p, LOp.isNew, State.prune, Z3n, Z2y, AV.leaf, Heap.at, Z0i, Z09, Z1c, Z0d, Z02, idx_I, idx_W, rowW, Z26, Z2q, Z1s, Z1a, rowB, Z2t, Z2s, rowN, lens_W, Z3h, Z1d, Z15, w_or, w_and, Z2u, w_and1, w_shl, Z48, w_shr, Z49, w_neg, w_add, w_bit, w_eq0, w_eq1, w_eq, Bool.decide_eq_true, Z39, Z3b, Z3a, Z2h, Z1i, Z04, Z0a, Z0l, Z01, Z1v, rowI, RatG.row, LocG.row, ActG.row, StepG.row, StampG.row, ActG.av, ActG.eta, RatG.eta, LocG.eta, beq_true, beq_false, Z2e, Z2n, Z2f, Z2m, Z12, Z0o, Z10, Z11, Z0n, Z0m, Z0b, List.length_set, List.length_replicate, Z08, Int.reduceToNat, evLen, Z21, Z3w, Src.all, Src.len, Src.leaf, Src.leafN, Z36, Z42, joinV, Z0h, Z0p, Z0q, Z0r, Z0s, Z0t, Z0u, Z0v, mkVec, drows, evMk, List.length_map, Z1p, Z1t, List.take_length, List.take_left, List.length_append, Nat.le_add_right, ite_self, List.take_of_length_le, Z37, intOr, Z3z, Option.isSome_none, Option.isSome_some, Nat.sub_zero, loadQ, loadT, evBin, evUn, Z0w, Z0x, binT, binQ, chk, Z3s, List.contains_cons, List.contains_nil, Bool.or_false, Bool.false_or, Bool.and_self, resQ, resV, resT, pickV, Z2r, Z45, Z3o, fnOf, Z3i, isD, HO.drow, viewT, Z3u, evEq, eqV, eqK, eqC1, Z43, Z40, Z35, Z32, lens_I, Z3d, Z2k, Z1l, Z2j, Z1k, Z2i, Z1j, Z1m, Z0y, Z0z, Z0c, List.mem_cons, List.not_mem_nil, or_false, forall_eq, putRow, Z38, get_nil, RetS, RetF, RetD, AV.frz, AV.frzL, AV.freshP, AV.freshL, DV.less, Z24, Z1n, Z25, Z1o, Z0e, Z05, Option.some.injEq, AV.tup.injEq, AV.agg.injEq, List.cons.injEq, DV.list.injEq, List.isEmpty_nil, Nat.le_refl, AV.d.injEq, DV.int.injEq, DV.bool.injEq, ↓reduceIte, Nat.reduceEqDiff, Nat.reduceAdd, Nat.reduceBEq, List.length_cons, List.length_nil, List.replicate_succ, List.replicate_zero, List.nil_append, List.cons_append, List.append_nil, List.foldl_cons, List.foldl_nil, List.map_cons, List.map_nil, List.all_cons, List.all_nil, List.set_cons_zero, List.set_cons_succ, List.getD_cons_zero, List.getD_cons_succ, List.drop_zero, List.drop_succ_cons, List.take_succ_cons, List.take_zero, List.flatten_cons, List.flatten_nil, Bool.true_and, Bool.and_true, Bool.not_true, Bool.not_false, true_and, and_true, true_or, or_true, Option.bind_some, Option.map_some, decide_true, decide_false, beq_self_eq_true, true_implies, false_implies, implies_true, not_true_eq_false, not_false_eq_true, and_self, Bool.and_false, Bool.false_and, Nat.reduceLT, Nat.reduceLeDiff, List.reverse_cons, List.reverse_nil, Nat.zero_add, Nat.add_zero, Bool.false_eq_true, List.getElem?_cons_zero, Nat.reduceMul, Nat.mul_one] at this
    exact this
end Go.Ago

/- Chapter 18: what the events of threads say of one another, whole. Conditions: none. -/
set_option maxRecDepth 100000
set_option linter.unusedSimpArgs false
set_option linter.unusedVariables false
namespace Go.Ago
attribute [local irreducible] vck
def memAll (l : List RunG) : Nat := (l.map fun r => memN r.evs).sum
def thr (x : XG) (runs : List RunG) (g : Bool) (n : Nat) : Nat → P8 × Nat
  | 0 => (P8.nil, n)
  | t + 1 => let r := runs.getD t default
    let s := (⟨x, runs, g, t, r.evs, r.full⟩ : WC).run ⟨(thr x runs g n t).1, -1, -1, [], (thr x runs g n t).2⟩ r.evs.length
    (s.P, s.next)
def XG.withP (x : XG) (P : P8) : XG := { x with po := (ofG x.nodes.length P.po, false), addr := (ofG x.nodes.length P.ad, false), data := (ofG x.nodes.length P.da, false), ctrl := (ofG x.nodes.length P.ct, false), fenced := (ofG x.nodes.length P.fe, false), sync := (ofG x.nodes.length P.sy, false), lwsync := (ofG x.nodes.length P.lw, false), pairs := (ofG x.nodes.length P.pa, false) }
def ef_within : EfH where
  A := XG × Nat × List RunG × Bool
  args := fun a => [.ptr 0 12 0 0, .d (.int .i64 a.2.1), .d (.list (a.2.2.1.map RunG.row) a.2.2.2)]
  os := fun a => [a.1.obj]
  ok := fun a => a.1.nodes.length ≤ 64 ∧ a.2.1 + memAll a.2.2.1 ≤ a.1.nodes.length ∧ a.2.2.1.length ≤ maxLen ∧ ∀ r ∈ a.2.2.1, r.evs.length ≤ maxLen
  val := fun _ => .tup []
  os' := fun a => [(a.1.withP (thr a.1 a.2.2.1 a.2.2.2 a.2.1 a.2.2.1.length).1).obj]
def liveT : List Nat := [0, 6, 7, 8, 9, 10, 11, 12, 13, 14, 15, 34, 35, 36]
def thSt (x : XG) (runs : List RunG) (g : Bool) (y : Nat × P8 × Nat) : State :=
  ⟨wEnv x.nodes.length y.2.2 ++ [(34, .d (.list (runs.map RunG.row) g)), (35, .d (.int .i64 runs.length)), (36, .d (.int .i64 y.1))], y.2.1.heap x.obj⟩
structure thInv (x : XG) (runs : List RunG) (g : Bool) (n : Nat) (y : Nat × P8 × Nat) : Prop where
  i : y.1 ≤ runs.length
  like : y.2.1.Like (thr x runs g n y.1).1
  nx : y.2.2 = (thr x runs g n y.1).2
  few : y.2.1.Few (y.2.2 * 64)
  next : y.2.2 + memAll (runs.drop y.1) ≤ x.nodes.length
theorem RunG.eta0 (r : RunG) : r.row = [.list (r.evs.map EvG.row) r.full, .int .i64 r.st] := rfl
theorem memAll_drop {runs : List RunG} {t : Nat} (h : t < runs.length) : memAll (runs.drop t) = memN (runs.getD t default).evs + memAll (runs.drop (t + 1)) := by
  have : runs.drop t = runs.getD t default :: runs.drop (t + 1) := by rw [List.drop_eq_getElem_cons h, List.getD_eq_getElem?_getD, List.getElem?_eq_getElem h]; rfl
  unfold memAll
  rw [this, List.map_cons, List.sum_cons]
theorem run_like {c : WC} {s r : WS} (h : s.Like r) : ∀ i, (c.run s i).Like (c.run r i)
  | 0 => h
  | i + 1 => by
    have ih := run_like (c := c) h i
    unfold WC.run
    cases hM : (c.evs.getD i default).isM with
    | false =>
      have := ev_like_no (c := c) (i := i) hM ih
      have e : (c.run s i).ev c (c.evs.getD i default) i = (c.run s i).mark (c.evs.getD i default) := by unfold WS.ev; rw [if_neg (by rw [hM]; simp)]
      rwa [e]
    | true =>
      have := ev_like_yes (c := c) (i := i) (seen := List.range (c.run s i).es.length) hM ih (fun j => List.mem_range.symm)
      have e : (c.run s i).ev c (c.evs.getD i default) i = { c.run s i with P := (c.run s i).P.many (c.wx (c.run s i) (c.evs.getD i default) i) (List.range (c.run s i).es.length), es := (c.run s i).es ++ [((i : Int), ((c.run s i).next : Int))], next := (c.run s i).next + 1 } := by unfold WS.ev; rw [if_pos hM]
      rwa [e]
theorem run_next (c : WC) (s : WS) : ∀ i, i ≤ c.evs.length → (c.run s i).next = s.next + memN (c.evs.take i)
  | 0, _ => rfl
  | i + 1, h => by
    have ih := run_next c s i (by omega)
    have e : c.evs.take (i + 1) = c.evs.take i ++ [c.evs.getD i default] := by rw [List.take_add_one, List.getElem?_eq_getElem (by omega), List.getD_eq_getElem?_getD, List.getElem?_eq_getElem (by omega)]; rfl
    have e2 : memN (c.evs.take (i + 1)) = memN (c.evs.take i) + (if (c.evs.getD i default).isM = true then 1 else 0) := by
      unfold memN; rw [e, List.filter_append, List.length_append, List.filter_cons]
      split <;> rfl
    unfold WC.run WS.ev
    rw [e2]
    split
    · show (c.run s i).next + 1 = _; rw [ih]; omega
    · show (c.run s i).next = _; rw [ih]; rfl
theorem ofG_like {n : Nat} {l l' : List RatG} (h : ∀ r, r ∈ l ↔ r ∈ l') : ofG n l = ofG n l' := by
  have h1 : ∀ q : RatG → Bool, l.any q = l'.any q := fun q => by
    rw [Bool.eq_iff_iff, List.any_eq_true, List.any_eq_true]
    exact ⟨fun ⟨a, b, c⟩ => ⟨a, (h a).1 b, c⟩, fun ⟨a, b, c⟩ => ⟨a, (h a).2 b, c⟩⟩
  have h2 : ofP l = ofP l' := by funext i k; unfold ofP; rw [h1]
  unfold ofG ofErr
  rw [h1, h2]
set_option maxHeartbeats 4000000 in
theorem efh_cand_within {T : Tab} {n1 n2 n3 : Nat} (k1 : Knows T n1 sp_isM) (k2 : Knows T n2 sp_prel) (k3 : KnowsG T n3 addE) : ef_within.Body T Z31 (L_cand_within n1 n2 n3) R_cand_within := by
  have F1 := k1.F; have G1 := k1.G; have F2 := k2.F; have G2 := k2.G; have G3 := k3.G
  refine ⟨fun x => Nat.le_refl 1, ?_⟩
  rintro ⟨x, n, runs, g⟩ ⟨h1, h2, h3, h4⟩
  have h1 : x.nodes.length ≤ 64 := h1
  have h2 : n + memAll runs ≤ x.nodes.length := h2
  have h3 : runs.length ≤ maxLen := h3
  have h4 : ∀ r ∈ runs, r.evs.length ≤ maxLen := h4
  unfold Z31 L_cand_within R_cand_within
  simp (maxSteps := 3000000) only [ef_within, WX.env, WX.heap, wEnv, P8.heap, cellP, rowsP, XG.obj, lsX, EvG.obj, List.cons_append, List.nil_append, ↓Z1r, ↓Z2x, ↓Z1x, ↓Z07, ↓Z2p, ↓Z2l, nilG_d, nilG_r, ↓Z2b, ↓Z1q, ↓Z13, ↓Z1y, ↓Z16, ↓Z2a, ↓Z34, ↓Z33, ↓Z20, ↓Z1w, ↓Z2g, ↓Z2c, ↓Z29, ↓Z3t, ↓retK_n, ↓Z3e, ↓Z3g, ↓Z3f, ↓Z46, ↓Z41, ↓famK_r, ↓Z0g, ↓Z06, ↓Z19, ↓Z0k, ↓Z1g, nf_mk, Z0f, Z17, Z3j, Z18, Z3m, evN, Z2v, Z28, Z3l, Z47, Z27, Z1b, Z22, Z2o, Z2d, Z23, Z1h, Z2z, evT, Opd.ev, Z03, Z00, Z3k, Z44, Z3x, Z1z, Z1f, Z2w, Z30, Z3c, Z1u, Z0j, Z3p, LOp.isNew, State.prune, Z3n, Z2y, AV.leaf, Heap.at, Z0i, Z09, Z1c, Z0d, Z02, idx_I, idx_W, rowW, Z26, Z2q, Z1s, Z1a, rowB, Z2t, Z2s, rowN, lens_W, Z3h, Z1d, Z15, w_or, w_and, Z2u, w_and1, w_shl, Z48, w_shr, Z49, w_neg, w_add, w_bit, w_eq0, w_eq1, w_eq, Bool.decide_eq_true, Z39, Z3b, Z3a, Z2h, Z1i, Z04, Z0a, Z0l, Z01, Z1v, rowI, RatG.row, LocG.row, ActG.row, StepG.row, StampG.row, ActG.av, ActG.eta, RatG.eta, LocG.eta, beq_true, beq_false, Z2e, Z2n, Z2f, Z2m, Z12, Z0o, Z10, Z11, Z0n, Z0m, Z0b, List.length_set, List.length_replicate, Z08, Int.reduceToNat, evLen, Z21, Z3w, Src.all, Src.len, Src.leaf, Src.leafN, Z36, Z42, joinV, Z0h, Z0p, Z0q, Z0r, Z0s, Z0t, Z0u, Z0v, mkVec, drows, evMk, List.length_map, Z1p, Z1t, List.take_length, List.take_left, List.length_append, Nat.le_add_right, ite_self, List.take_of_length_le, Z37, intOr, Z3z, Option.isSome_none, Option.isSome_some, Nat.sub_zero, loadQ, loadT, evBin, evUn, Z0w, Z0x, binT, binQ, chk, Z3s, List.contains_cons, List.contains_nil, Bool.or_false, Bool.false_or, Bool.and_self, resQ, resV, resT, pickV, Z2r, Z45, Z3o, fnOf, Z3i, isD, HO.drow, viewT, Z3u, evEq, eqV, eqK, eqC1, Z43, Z40, Z35, Z32, lens_I, Z3d, Z2k, Z1l, Z2j, Z1k, Z2i, Z1j, Z1m, Z0y, Z0z, Z0c, List.mem_cons, List.not_mem_nil, or_false, forall_eq, putRow, Z38, get_nil, RetS, RetF, RetD, AV.frz, AV.frzL, AV.freshP, AV.freshL, DV.less, Z24, Z1n, Z25, Z1o, Z0e, Z05, Option.some.injEq, AV.tup.injEq, AV.agg.injEq, List.cons.injEq, DV.list.injEq, List.isEmpty_nil, Nat.le_refl, AV.d.injEq, DV.int.injEq, DV.bool.injEq, ↓reduceIte, Nat.reduceEqDiff, Nat.reduceAdd, Nat.reduceBEq, List.length_cons, List.length_nil, List.replicate_succ, List.replicate_zero, List.nil_append, List.cons_append, List.append_nil, List.foldl_cons, List.foldl_nil, List.map_cons, List.map_nil, List.all_cons, List.all_nil, List.set_cons_zero, List.set_cons_succ, List.getD_cons_zero, List.getD_cons_succ, List.drop_zero, List.drop_succ_cons, List.take_succ_cons, List.take_zero, List.flatten_cons, List.flatten_nil, Bool.true_and, Bool.and_true, Bool.not_true, Bool.not_false, true_and, and_true, true_or, or_true, Option.bind_some, Option.map_some, decide_true, decide_false, beq_self_eq_true, true_implies, false_implies, implies_true, not_true_eq_false, not_false_eq_true, and_self, Bool.and_false, Bool.false_and, Nat.reduceLT, Nat.reduceLeDiff, List.reverse_cons, List.reverse_nil, Nat.zero_add, Nat.add_zero, Bool.false_eq_true, List.getElem?_cons_zero, Nat.reduceMul, Nat.mul_one, F1, G1, at_isM, F2, G2, at_prel]
  refine Loop.nilcell 1 2 rfl (by simp) ?_
  simp only [List.length_cons, List.length_nil, List.cons_append, List.nil_append, List.set_cons_zero, List.set_cons_succ]
  refine Loop.nilcell 2 2 rfl (by simp) ?_
  simp only [List.length_cons, List.length_nil, List.cons_append, List.nil_append, List.set_cons_zero, List.set_cons_succ]
  refine Loop.nilcell 3 2 rfl (by simp) ?_
  simp only [List.length_cons, List.length_nil, List.cons_append, List.nil_append, List.set_cons_zero, List.set_cons_succ]
  refine Loop.nilcell 4 2 rfl (by simp) ?_
  simp only [List.length_cons, List.length_nil, List.cons_append, List.nil_append, List.set_cons_zero, List.set_cons_succ]
  refine Loop.nilcell 5 2 rfl (by simp) ?_
  simp only [List.length_cons, List.length_nil, List.cons_append, List.nil_append, List.set_cons_zero, List.set_cons_succ]
  refine Loop.nilcell 6 2 rfl (by simp) ?_
  simp only [List.length_cons, List.length_nil, List.cons_append, List.nil_append, List.set_cons_zero, List.set_cons_succ]
  refine Loop.nilcell 7 2 rfl (by simp) ?_
  simp only [List.length_cons, List.length_nil, List.cons_append, List.nil_append, List.set_cons_zero, List.set_cons_succ]
  refine Loop.nilcell 8 2 rfl (by simp) ?_
  simp only [List.length_cons, List.length_nil, List.cons_append, List.nil_append, List.set_cons_zero, List.set_cons_succ]
  refine Loop.fam1 liveT (thSt x runs g) (thInv x runs g n) (fun y => runs.length - y.1) (0, P8.nil, n) [0, 1, 2, 3, 4, 5, 6, 7, 8, 9, 10, 11, 12, 13, 14, 15, 16] (by decide) (by simp) (by simp only [List.length_cons, List.length_nil, List.cons_append, List.nil_append, List.set_cons_zero, List.set_cons_succ, State.can, AV.can, AV.canL, HO.can, Z1e, idx, Z03, Z00, Heap.at, Nat.reduceBEq, ↓reduceIte, Nat.reduceEqDiff, Option.getD_some, Option.map_some, List.map_cons, List.map_nil, List.getD_cons_zero, List.getD_cons_succ, liveT, thSt, P8.nil, WX.env, WX.heap, wEnv, P8.heap, cellP, rowsP, XG.obj, lsX, EvG.obj, List.cons_append, List.nil_append]; rfl) ⟨Nat.zero_le _, P8.Like.refl _, rfl, ⟨Nat.zero_le _, Nat.zero_le _, Nat.zero_le _, Nat.zero_le _, Nat.zero_le _, Nat.zero_le _, Nat.zero_le _, Nat.zero_le _⟩, h2⟩ ?_
  rintro ⟨t, P, next⟩ hI
  simp (maxSteps := 3000000) only [thSt, WX.env, WX.heap, wEnv, P8.heap, cellP, rowsP, XG.obj, lsX, EvG.obj, List.cons_append, List.nil_append, ↓Z1r, ↓Z2x, ↓Z1x, ↓Z07, ↓Z2p, ↓Z2l, nilG_d, nilG_r, ↓Z2b, ↓Z1q, ↓Z13, ↓Z1y, ↓Z16, ↓Z2a, ↓Z34, ↓Z33, ↓Z20, ↓Z1w, ↓Z2g, ↓Z2c, ↓Z29, ↓Z3t, ↓retK_n, ↓Z3e, ↓Z3g, ↓Z3f, ↓Z46, ↓Z41, ↓famK_r, ↓Z0g, ↓Z06, ↓Z19, ↓Z0k, ↓Z1g, nf_mk, Z0f, Z17, Z3j, Z18, Z3m, evN, Z2v, Z28, Z3l, Z47, Z27, Z1b, Z22, Z2o, Z2d, Z23, Z1h, Z2z, evT, Opd.ev, Z03, Z00, Z3k, Z44, Z3x, Z1z, Z1f, Z2w, Z30, Z3c, Z1u, Z0j, Z3p, LOp.isNew, State.prune, Z3n, Z2y, AV.leaf, Heap.at, Z0i, Z09, Z1c, Z0d, Z02, idx_I, idx_W, rowW, Z26, Z2q, Z1s, Z1a, rowB, Z2t, Z2s, rowN, lens_W, Z3h, Z1d, Z15, w_or, w_and, Z2u, w_and1, w_shl, Z48, w_shr, Z49, w_neg, w_add, w_bit, w_eq0, w_eq1, w_eq, Bool.decide_eq_true, Z39, Z3b, Z3a, Z2h, Z1i, Z04, Z0a, Z0l, Z01, Z1v, rowI, RatG.row, LocG.row, ActG.row, StepG.row, StampG.row, ActG.av, ActG.eta, RatG.eta, LocG.eta, beq_true, beq_false, Z2e, Z2n, Z2f, Z2m, Z12, Z0o, Z10, Z11, Z0n, Z0m, Z0b, List.length_set, List.length_replicate, Z08, Int.reduceToNat, evLen, Z21, Z3w, Src.all, Src.len, Src.leaf, Src.leafN, Z36, Z42, joinV, Z0h, Z0p, Z0q, Z0r, Z0s, Z0t, Z0u, Z0v, mkVec, drows, evMk, List.length_map, Z1p, Z1t, List.take_length, List.take_left, List.length_append, Nat.le_add_right, ite_self, List.take_of_length_le, Z37, intOr, Z3z, Option.isSome_none, Option.isSome_some, Nat.sub_zero, loadQ, loadT, evBin, evUn, Z0w, Z0x, binT, binQ, chk, Z3s, List.contains_cons, List.contains_nil, Bool.or_false, Bool.false_or, Bool.and_self, resQ, resV, resT, pickV, Z2r, Z45, Z3o, fnOf, Z3i, isD, HO.drow, viewT, Z3u, evEq, eqV, eqK, eqC1, Z43, Z40, Z35, Z32, lens_I, Z3d, Z2k, Z1l, Z2j, Z1k, Z2i, Z1j, Z1m, Z0y, Z0z, Z0c, List.mem_cons, List.not_mem_nil, or_false, forall_eq, putRow, Z38, get_nil, RetS, RetF, RetD, AV.frz, AV.frzL, AV.freshP, AV.freshL, DV.less, Z24, Z1n, Z25, Z1o, Z0e, Z05, Option.some.injEq, AV.tup.injEq, AV.agg.injEq, List.cons.injEq, DV.list.injEq, List.isEmpty_nil, Nat.le_refl, AV.d.injEq, DV.int.injEq, DV.bool.injEq, ↓reduceIte, Nat.reduceEqDiff, Nat.reduceAdd, Nat.reduceBEq, List.length_cons, List.length_nil, List.replicate_succ, List.replicate_zero, List.nil_append, List.cons_append, List.append_nil, List.foldl_cons, List.foldl_nil, List.map_cons, List.map_nil, List.all_cons, List.all_nil, List.set_cons_zero, List.set_cons_succ, List.getD_cons_zero, List.getD_cons_succ, List.drop_zero, List.drop_succ_cons, List.take_succ_cons, List.take_zero, List.flatten_cons, List.flatten_nil, Bool.true_and, Bool.and_true, Bool.not_true, Bool.not_false, true_and, and_true, true_or, or_true, Option.bind_some, Option.map_some, decide_true, decide_false, beq_self_eq_true, true_implies, false_implies, implies_true, not_true_eq_false, not_false_eq_true, and_self, Bool.and_false, Bool.false_and, Nat.reduceLT, Nat.reduceLeDiff, List.reverse_cons, List.reverse_nil, Nat.zero_add, Nat.add_zero, Bool.false_eq_true, List.getElem?_cons_zero, Nat.reduceMul, Nat.mul_one, idx_Run, RunG.eta0, F1, G1, at_isM, F2, G2, at_prel, famK1_n, famK1_x, famK1_r]
  obtain ⟨i1, i2, i3, i4, i5⟩ := hI
  have i1 : t ≤ runs.length := i1
  have i2 : P.Like (thr x runs g n t).1 := i2
  have i3 : next = (thr x runs g n t).2 := i3
  have i4 : P.Few (next * 64) := i4
  have i5 : next + memAll (runs.drop t) ≤ x.nodes.length := i5
  have ⟨q1, q2, q3, q4, q5, q6, q7, q8⟩ := i4
  have hm : maxLen = 9223372036854775807 := rfl
  refine ⟨fun ht => ⟨⟨by omega, by omega⟩, ?_⟩, fun ht => ⟨by omega, by omega, by omega, by omega, by omega, by omega, by omega, by omega, ?_⟩⟩
  · have ht : t < runs.length := by omega
    have hin : runs.getD t default ∈ runs := by
      rw [List.getD_eq_getElem?_getD, List.getElem?_eq_getElem ht]; exact List.getElem_mem ht
    have hr := h4 _ hin
    have hdrop : memAll (runs.drop t) = memN (runs.getD t default).evs + memAll (runs.drop (t + 1)) := memAll_drop ht
    refine w_evs k1 k3 ⟨x, runs, g, t, (runs.getD t default).evs, (runs.getD t default).full⟩ ⟨P, -1, -1, [], next⟩ h1 hr ⟨Nat.zero_le _, ⟨P8.Like.refl _, rfl, rfl, rfl, rfl⟩, i4, fun i hi => by simp at hi, Nat.zero_le _, ?_⟩ _ _ [0, 1, 2, 3, 4, 5, 6, 7, 8, 9, 10, 11, 12, 13, 14, 15, 16, 18] (by decide) (by simp) (by simp only [liveE, evSt, WX.env, WX.heap, wEnv, P8.heap, cellP, rowsP, XG.obj, lsX, EvG.obj, List.cons_append, List.nil_append, State.can, AV.can, AV.canL, HO.can, Z1e, idx, Z03, Z00, Heap.at, Nat.reduceBEq, ↓reduceIte, Nat.reduceEqDiff, Option.getD_some, Option.map_some, List.map_cons, List.map_nil, List.getD_cons_zero, List.getD_cons_succ]; rfl) rfl (fun s hs => ?_)
    · show next + memN ((runs.getD t default).evs.drop 0) ≤ x.nodes.length
      rw [List.drop_zero]; omega
    · obtain ⟨Q, fe, li, es, nx⟩ := s
      obtain ⟨j1, ⟨l1, l2, l3, l4, l5⟩, j3, j4, j5, j6⟩ := hs
      unfold evK Z31
      simp (maxSteps := 3000000) only [evSt, WX.env, WX.heap, wEnv, P8.heap, cellP, rowsP, XG.obj, lsX, EvG.obj, List.cons_append, List.nil_append, ↓Z1r, ↓Z2x, ↓Z1x, ↓Z07, ↓Z2p, ↓Z2l, nilG_d, nilG_r, ↓Z2b, ↓Z1q, ↓Z13, ↓Z1y, ↓Z16, ↓Z2a, ↓Z34, ↓Z33, ↓Z20, ↓Z1w, ↓Z2g, ↓Z2c, ↓Z29, ↓Z3t, ↓retK_n, ↓Z3e, ↓Z3g, ↓Z3f, ↓Z46, ↓Z41, ↓famK_r, ↓Z0g, ↓Z06, ↓Z19, ↓Z0k, ↓Z1g, nf_mk, Z0f, Z17, Z3j, Z18, Z3m, evN, Z2v, Z28, Z3l, Z47, Z27, Z1b, Z22, Z2o, Z2d, Z23, Z1h, Z2z, evT, Opd.ev, Z03, Z00, Z3k, Z44, Z3x, Z1z, Z1f, Z2w, Z30, Z3c, Z1u, Z0j, Z3p, LOp.isNew, State.prune, Z3n, Z2y, AV.leaf, Heap.at, Z0i, Z09, Z1c, Z0d, Z02, idx_I, idx_W, rowW, Z26, Z2q, Z1s, Z1a, rowB, Z2t, Z2s, rowN, lens_W, Z3h, Z1d, Z15, w_or, w_and, Z2u, w_and1, w_shl, Z48, w_shr, Z49, w_neg, w_add, w_bit, w_eq0, w_eq1, w_eq, Bool.decide_eq_true, Z39, Z3b, Z3a, Z2h, Z1i, Z04, Z0a, Z0l, Z01, Z1v, rowI, RatG.row, LocG.row, ActG.row, StepG.row, StampG.row, ActG.av, ActG.eta, RatG.eta, LocG.eta, beq_true, beq_false, Z2e, Z2n, Z2f, Z2m, Z12, Z0o, Z10, Z11, Z0n, Z0m, Z0b, List.length_set, List.length_replicate, Z08, Int.reduceToNat, evLen, Z21, Z3w, Src.all, Src.len, Src.leaf, Src.leafN, Z36, Z42, joinV, Z0h, Z0p, Z0q, Z0r, Z0s, Z0t, Z0u, Z0v, mkVec, drows, evMk, List.length_map, Z1p, Z1t, List.take_length, List.take_left, List.length_append, Nat.le_add_right, ite_self, List.take_of_length_le, Z37, intOr, Z3z, Option.isSome_none, Option.isSome_some, Nat.sub_zero, loadQ, loadT, evBin, evUn, Z0w, Z0x, binT, binQ, chk, Z3s, List.contains_cons, List.contains_nil, Bool.or_false, Bool.false_or, Bool.and_self, resQ, resV, resT, pickV, Z2r, Z45, Z3o, fnOf, Z3i, isD, HO.drow, viewT, Z3u, evEq, eqV, eqK, eqC1, Z43, Z40, Z35, Z32, lens_I, Z3d, Z2k, Z1l, Z2j, Z1k, Z2i, Z1j, Z1m, Z0y, Z0z, Z0c, List.mem_cons, List.not_mem_nil, or_false, forall_eq, putRow, Z38, get_nil, RetS, RetF, RetD, AV.frz, AV.frzL, AV.freshP, AV.freshL, DV.less, Z24, Z1n, Z25, Z1o, Z0e, Z05, Option.some.injEq, AV.tup.injEq, AV.agg.injEq, List.cons.injEq, DV.list.injEq, List.isEmpty_nil, Nat.le_refl, AV.d.injEq, DV.int.injEq, DV.bool.injEq, ↓reduceIte, Nat.reduceEqDiff, Nat.reduceAdd, Nat.reduceBEq, List.length_cons, List.length_nil, List.replicate_succ, List.replicate_zero, List.nil_append, List.cons_append, List.append_nil, List.foldl_cons, List.foldl_nil, List.map_cons, List.map_nil, List.all_cons, List.all_nil, List.set_cons_zero, List.set_cons_succ, List.getD_cons_zero, List.getD_cons_succ, List.drop_zero, List.drop_succ_cons, List.take_succ_cons, List.take_zero, List.flatten_cons, List.flatten_nil, Bool.true_and, Bool.and_true, Bool.not_true, Bool.not_false, true_and, and_true, true_or, or_true, Option.bind_some, Option.map_some, decide_true, decide_false, beq_self_eq_true, true_implies, false_implies, implies_true, not_true_eq_false, not_false_eq_true, and_self, Bool.and_false, Bool.false_and, Nat.reduceLT, Nat.reduceLeDiff, List.reverse_cons, List.reverse_nil, Nat.zero_add, Nat.add_zero, Bool.false_eq_true, List.getElem?_cons_zero, Nat.reduceMul, Nat.mul_one, famK1_n, famK1_x, famK1_r]
      rw [wrap_succ ht h3]
      have hl : (⟨P, -1, -1, [], next⟩ : WS).Like ⟨(thr x runs g n t).1, -1, -1, [], (thr x runs g n t).2⟩ := ⟨i2, rfl, rfl, rfl, i3⟩
      have hrl := run_like (c := ⟨x, runs, g, t, (runs.getD t default).evs, (runs.getD t default).full⟩) hl (runs.getD t default).evs.length
      refine FamN1.mk [0, 1, 2, 3, 4, 5, 6, 7, 8, 9, 10, 11, 12, 13, 14, 15, 16] (t + 1, Q, nx) (by decide) (by simp) (by simp only [liveT, thSt, WX.env, WX.heap, wEnv, P8.heap, cellP, rowsP, XG.obj, lsX, EvG.obj, List.cons_append, List.nil_append, State.can, AV.can, AV.canL, HO.can, Z1e, idx, Z03, Z00, Heap.at, Nat.reduceBEq, ↓reduceIte, Nat.reduceEqDiff, Option.getD_some, Option.map_some, List.map_cons, List.map_nil, List.getD_cons_zero, List.getD_cons_succ]) ⟨ht, fun k r => (l1 k r).trans (hrl.P k r), l5.trans hrl.next, j3, ?_⟩ (by show runs.length - (t + 1) < runs.length - t; omega)
      have j6 : nx + memN ((runs.getD t default).evs.drop (runs.getD t default).evs.length) ≤ x.nodes.length := j6
      have l5 : nx = _ := l5
      show nx + memAll (runs.drop (t + 1)) ≤ x.nodes.length
      have e1 := run_next ⟨x, runs, g, t, (runs.getD t default).evs, (runs.getD t default).full⟩ ⟨P, -1, -1, [], next⟩ (runs.getD t default).evs.length (Nat.le_refl _)
      have e2 : memN ((runs.getD t default).evs.take (runs.getD t default).evs.length) = memN (runs.getD t default).evs := by rw [List.take_length]
      have e1 : _ = next + memN ((runs.getD t default).evs.take (runs.getD t default).evs.length) := e1
      rw [e2] at e1
      rw [l5, e1]
      omega
  · have : t = runs.length := by omega
    subst this
    have e0 := ofG_like (n := x.nodes.length) (fun r => i2 0 r)
    have e1 := ofG_like (n := x.nodes.length) (fun r => i2 1 r)
    have e2 := ofG_like (n := x.nodes.length) (fun r => i2 2 r)
    have e3 := ofG_like (n := x.nodes.length) (fun r => i2 3 r)
    have e4 := ofG_like (n := x.nodes.length) (fun r => i2 4 r)
    have e5 := ofG_like (n := x.nodes.length) (fun r => i2 5 r)
    have e6 := ofG_like (n := x.nodes.length) (fun r => i2 6 r)
    have e7 := ofG_like (n := x.nodes.length) (fun r => i2 7 r)
    simp only [P8.get] at e0 e1 e2 e3 e4 e5 e6 e7
    rw [e0, e1, e2, e3, e4, e5, e6, e7]
    exact RetG.mk [0] (by simp) (by simp) (fun i hi => by have : i = 0 := by omega
                                                          subst this; rfl) rfl (by simp only [State.can, AV.can, AV.canL, HO.can, Z1e, idx, Z03, Z00, Heap.at, Nat.reduceBEq, ↓reduceIte, Nat.reduceEqDiff, Option.getD_some, Option.map_some, List.map_cons, List.map_nil, List.getD_cons_zero, List.getD_cons_succ, XG.withP])
end Go.Ago

/- Relations that package power is handed, as data. Conditions: none. -/
set_option linter.unusedSimpArgs false
set_option linter.unusedVariables false
namespace Go.Ago
theorem bodyD_rel_Then {T : Tab} {n1 n2 n3 : Nat} (k1 : Knows T n1 sp_size) (k2 : Knows T n2 sp_row) (k3 : Knows T n3 sp_tz) : (Sp.dat sp_Then).Body T V_rel_Then (L_rel_Then n1 n2 n3) R_rel_Then :=
  (body_rel_Then k1 k2 k3).dat (fun x ok sz l h => by simp only [sp_Then, SpecR.rows.injEq] at h; rw [← h.2.2]; exact scal_W)
theorem bodyD_rel_Back {T : Tab} {n1 n2 n3 : Nat} (k1 : Knows T n1 sp_size) (k2 : Knows T n2 sp_row) (k3 : Knows T n3 sp_tz) : (Sp.dat sp_Back).Body T V_rel_Back (L_rel_Back n1 n2 n3) R_rel_Back :=
  (body_rel_Back k1 k2 k3).dat (fun x ok sz l h => by simp only [sp_Back, SpecR.rows.injEq] at h; rw [← h.2.2]; exact scal_W)
end Go.Ago

/- Chapter 18: Build. Conditions: none. -/
set_option maxRecDepth 100000
set_option linter.unusedSimpArgs false
set_option linter.unusedVariables false
namespace Go.Ago
attribute [local irreducible] vck
theorem XG.av_obj {x y : XG} (h : x.obj = y.obj) : x = y := by
  unfold XG.obj at h
  simp only [HO.vec.injEq, true_and, List.cons.injEq, and_true] at h
  apply XG.av_inj
  simp only [XG.av, AV.agg.injEq, List.cons.injEq, and_true]
  exact h
theorem XG.obj_ren (x : XG) (φ : Nat → Nat) : x.obj.ren φ = x.obj := by simp [XG.obj, HO.ren, AV.ren]
theorem within_pick {H : Heap} {id n : Nat} {x : XG} {runs : List RunG} {g : Bool} (h : H.at id = x.obj) : ef_within.pick [.ptr id 12 0 0, .d (.int .i64 (n : Int)), .d (.list (runs.map RunG.row) g)] H =
    some ⟨x.nodes.length ≤ 64 ∧ n + memAll runs ≤ x.nodes.length ∧ runs.length ≤ maxLen ∧ ∀ r ∈ runs, r.evs.length ≤ maxLen, .tup [], [(id, (x.withP (thr x runs g n runs.length).1).obj)], [], none⟩ := by
  have hlt : id < H.length := Heap.at_lt (by rw [h]; trivial)
  have := EfH.pick_fits (e := ef_within) (p := ((x, n, runs, g), [id])) (args := [.ptr id 12 0 0, .d (.int .i64 (n : Int)), .d (.list (runs.map RunG.row) g)]) (H := H) (fun q hq => ?_) ⟨by simp, rfl, by simpa using hlt, fun k hk => ?_, ?_⟩
  · rw [this]
    simp [EfH.eff, ef_within, XG.obj_ren, AV.ren, AV.renL]
  · obtain ⟨⟨x', n', runs', g'⟩, ids⟩ := q
    obtain ⟨h1, h2, h3, h4, h5⟩ := hq
    have h2 : ids.length = 1 := h2
    obtain ⟨j, rfl⟩ := List.length_eq_one_iff.1 h2
    have e0 : into H [j] 0 = j := rfl
    simp only [ef_within, List.map_cons, List.map_nil, AV.ren, e0, List.cons.injEq, AV.ptr.injEq, AV.d.injEq, DV.int.injEq, DV.list.injEq, and_true, true_and] at h5
    obtain ⟨rfl, h6, h7, h8⟩ := h5
    have h4 := h4 0 (by simp)
    have h4 : H.at id = x'.obj.ren (into H [id]) := h4
    rw [XG.obj_ren, h] at h4
    have := XG.av_obj h4
    rw [this, Z3r RunG.row_inj h7, h8]
    have : n' = n := by omega
    rw [this]
  · have : k = 0 := by simpa using hk
    subst this
    show H.at id = x.obj.ren _
    rw [XG.obj_ren, h]
  · simp [ef_within, AV.ren, into]
def XG.zero (f : Bool) : XG := ⟨[], f, ([], f), ([], f), ([], f), ([], f), ([], f), ([], f), ([], f), ([], f), ([], f), ([], f), ([], f)⟩
def XG.none : XG := XG.zero false
def x0G (D : List NodeG) (rd fo : List RatG) : XG := { XG.zero true with nodes := D, nf := false, rf := (ofG D.length rd, false), co := (ofG D.length fo, false), fr := (thenG (backG (ofG D.length rd)) (ofG D.length fo), false) }
def cbuildG (l : List LocG) (runs : List RunG) (g : Bool) (fr : List Int) (order : List (List Int × Bool)) : XG × Int :=
  if (nodesG l runs).2 ≠ 0 then (XG.none, (nodesG l runs).2) else
  let D := (nodesG l runs).1
  if (readN D fr).2 = false ∨ (followN D l.length order).2 = false then (XG.none, 3) else
  let x := x0G D (readN D fr).1 (followN D l.length order).1
  (x.withP (thr x runs g l.length runs.length).1, 0)
def sp_CBuild : Sp := ⟨List LocG × Bool × List RunG × Bool × List Int × Bool × List (List Int × Bool) × Bool,
  fun x => [.d (.list (x.1.map LocG.row) x.2.1), .d (.list (x.2.2.1.map RunG.row) x.2.2.2.1), .d (.list (x.2.2.2.2.1.map rowI) x.2.2.2.2.2.1), .d (.list (x.2.2.2.2.2.2.1.map rowLI) x.2.2.2.2.2.2.2)],
  fun x => .data (smallR x.2.2.1 ∧ smallO x.2.2.2.2.2.2.1) (.tup [(cbuildG x.1 x.2.2.1 x.2.2.2.1 x.2.2.2.2.1 x.2.2.2.2.2.2.1).1.av, .d (.int .i64 (cbuildG x.1 x.2.2.1 x.2.2.2.1 x.2.2.2.2.1 x.2.2.2.2.2.2.1).2)]) false⟩
theorem at_CBuild (l : List LocG) (f : Bool) (runs : List RunG) (g : Bool) (fr : List Int) (h : Bool) (order : List (List Int × Bool)) (k : Bool) : sp_CBuild.at [.d (.list (l.map LocG.row) f), .d (.list (runs.map RunG.row) g), .d (.list (fr.map rowI) h), .d (.list (order.map rowLI) k)] =
    .data (smallR runs ∧ smallO order) (.tup [(cbuildG l runs g fr order).1.av, .d (.int .i64 (cbuildG l runs g fr order).2)]) false :=
  Sp.at_enc (s := sp_CBuild) (fun x y h => by
    obtain ⟨a, b, c, d, e, f, g, i⟩ := x; obtain ⟨a', b', c', d', e', f', g', i'⟩ := y
    simp only [sp_CBuild, List.cons.injEq, AV.d.injEq, DV.list.injEq, and_true] at h
    obtain ⟨⟨h1, h2⟩, ⟨h3, h4⟩, ⟨h5, h6⟩, h7, h8⟩ := h
    rw [Z3r LocG.row_inj h1, h2, Z3r RunG.row_inj h3, h4, Z3r rowI_inj h5, h6, Z3r rowLI_inj h7, h8]) (l, f, runs, g, fr, h, order, k)
theorem rdN_len {D : List NodeG} {fr : List Int} : ∀ {i : Nat} {r : List Int} {ps : List RatG}, rdN D fr i = some (r, ps) → ps.length ≤ i
  | 0, r, ps, h => by
    have : (fr, []) = (r, ps) := Option.some.inj h
    rw [← (Prod.mk.inj this).2]; exact Nat.zero_le _
  | i + 1, r, ps, h => by
    unfold rdN at h
    cases e : rdN D fr i with
    | none => rw [e] at h; cases h
    | some x =>
      obtain ⟨r', ps'⟩ := x
      have ih := rdN_len e
      rw [e] at h
      simp only at h
      split at h
      · cases r' with
        | nil => cases h
        | cons w r' =>
          simp only at h
          split at h
          · rw [← (Prod.mk.inj (Option.some.inj h)).2, List.length_append, List.length_singleton]; omega
          · cases h
      · rw [← (Prod.mk.inj (Option.some.inj h)).2]; omega
theorem readN_len (D : List NodeG) (fr : List Int) : (readN D fr).1.length ≤ D.length := by
  unfold readN
  split
  · exact Nat.zero_le _
  · rename_i h; exact rdN_len h
theorem coN_len {D : List NodeG} {n : Nat} {order : List (List Int × Bool)} (hD : D.length ≤ 64) : ∀ {t : Nat} {ps : List RatG}, coN D n order t = some ps → ps.length ≤ 4225 * t
  | 0, ps, h => by rw [← Option.some.inj h]; exact Nat.zero_le _
  | t + 1, ps, h => by
    unfold coN at h
    cases e : coN D n order t with
    | none => rw [e] at h; cases h
    | some x =>
      have ih := coN_len hD e
      rw [e] at h
      simp only at h
      split at h
      · rename_i hs
        have hw := wantN_le D n t (D.length - n)
        have hl : (order.getD t default).1.length ≤ 64 := by rw [← sortI_len, hs]; omega
        have hp := pairF_le t (order.getD t default).1 (order.getD t default).1.length
        have := Nat.mul_le_mul hl (show (order.getD t default).1.length + 1 ≤ 65 by omega)
        rw [← Option.some.inj h, List.length_append]; omega
      · cases h
theorem followN_len {D : List NodeG} {n : Nat} (hD : D.length ≤ 64) (order : List (List Int × Bool)) : (followN D n order).1.length ≤ 4225 * n := by
  unfold followN
  split
  · exact Nat.zero_le _
  · split
    · exact Nat.zero_le _
    · rename_i h; exact coN_len hD h
theorem keptN_len (runs : List RunG) : ∀ t, t ≤ runs.length → (keptN runs t).length = memAll (runs.take t)
  | 0, _ => rfl
  | t + 1, h => by
    have e : runs.take (t + 1) = runs.take t ++ [runs.getD t default] := by rw [List.take_add_one, List.getElem?_eq_getElem (by omega), List.getD_eq_getElem?_getD, List.getElem?_eq_getElem (by omega)]; rfl
    rw [keptN_succ, List.length_append, keptN_len runs t (by omega), e]
    unfold memAll keepN memN
    rw [List.map_append, List.sum_append, List.length_map]
    simp
theorem nodesAll_len (l : List LocG) (runs : List RunG) : (nodesAll l runs).length = l.length + memAll runs := by
  unfold nodesAll
  rw [List.length_append, initNL_len, keptN_len runs _ (Nat.le_refl _), List.take_length]
structure NodesOk (l : List LocG) (runs : List RunG) : Prop where
  eq : (nodesG l runs).1 = nodesAll l runs
  ls : l.length ≤ 16
  rs : runs.length ≤ 3
  right : rightN l runs = true
  len : (nodesAll l runs).length ≤ 64
theorem nodesOk {l : List LocG} {runs : List RunG} (h : (nodesG l runs).2 = 0) : NodesOk l runs := by
  unfold nodesG at h
  split at h
  · cases h
  · rename_i h1
    split at h
    · cases h
    · rename_i h2
      split at h
      · cases h
      · rename_i h3
        refine ⟨?_, by omega, by omega, by simpa using h2, by omega⟩
        unfold nodesG
        rw [if_neg h1, if_neg h2, if_neg h3]
theorem ofG_len (n : Nat) (l : List RatG) : (ofG n l).length ≤ n := by
  unfold ofG
  split
  · rw [mkR_len]; exact Nat.le_refl _
  · exact Nat.zero_le _
set_option maxHeartbeats 4000000 in
theorem body_cand_Build {T : Tab} {n1 n2 n3 n4 n5 n6 n7 : Nat} (k1 : Knows T n1 sp_Nodes) (k2 : Knows T n2 sp_readN) (k3 : Knows T n3 sp_followN) (k4 : Knows T n4 sp_prel) (k5 : Knows T n5 sp_Then.dat) (k6 : Knows T n6 sp_Back.dat) (k7 : KnowsG T n7 ef_within.pick) :
    sp_CBuild.Body T V_cand_Build (L_cand_Build n1 n2 n3 n4 n5 n6 n7) R_cand_Build := by
  have F1 := k1.F; have G1 := k1.G; have F2 := k2.F; have G2 := k2.G; have F3 := k3.F; have G3 := k3.G; have F4 := k4.F; have G4 := k4.G; have F5 := k5.F; have G5 := k5.G; have F6 := k6.F; have G6 := k6.G
  have G7 := k7.G
  rintro ⟨l, f, runs, g, fr, h, order, k⟩ ⟨hR, hO⟩
  have hR : smallR runs := hR
  have hO : smallO order := hO
  refine ⟨rfl, ?_⟩
  unfold V_cand_Build L_cand_Build R_cand_Build
  simp (maxSteps := 3000000) only [↓Z1r, ↓Z2x, ↓Z1x, ↓Z07, ↓Z2p, ↓Z2l, nilG_d, nilG_r, ↓Z2b, ↓Z1q, ↓Z13, ↓Z1y, ↓Z16, ↓Z2a, ↓Z34, ↓Z33, ↓Z20, ↓Z1w, ↓Z2g, ↓Z2c, ↓Z29, ↓Z3t, ↓retK_n, ↓Z3e, ↓Z3g, ↓Z3f, ↓Z46, ↓Z41, ↓famK_r, ↓Z0g, ↓Z06, ↓Z19, ↓Z0k, ↓Z1g, nf_mk, Z0f, Z17, Z3j, Z18, Z3m, evN, Z2v, Z28, Z3l, Z47, Z27, Z1b, Z22, Z2o, Z2d, Z23, Z1h, Z2z, evT, Opd.ev, Z03, Z00, Z3k, Z44, Z3x, Z1z, Z1f, Z2w, Z30, Z3c, Z1u, Z0j, Z3p, LOp.isNew, State.prune, Z3n, Z2y, AV.leaf, Heap.at, Z0i, Z09, Z1c, Z0d, Z02, idx_I, idx_W, rowW, Z26, Z2q, Z1s, Z1a, rowB, Z2t, Z2s, rowN, lens_W, Z3h, Z1d, Z15, w_or, w_and, Z2u, w_and1, w_shl, Z48, w_shr, Z49, w_neg, w_add, w_bit, w_eq0, w_eq1, w_eq, Bool.decide_eq_true, Z39, Z3b, Z3a, Z2h, Z1i, Z04, Z0a, Z0l, Z01, Z1v, rowI, RatG.row, LocG.row, ActG.row, StepG.row, StampG.row, ActG.av, ActG.eta, RatG.eta, LocG.eta, beq_true, beq_false, Z2e, Z2n, Z2f, Z2m, Z12, Z0o, Z10, Z11, Z0n, Z0m, Z0b, List.length_set, List.length_replicate, Z08, Int.reduceToNat, evLen, Z21, Z3w, Src.all, Src.len, Src.leaf, Src.leafN, Z36, Z42, joinV, Z0h, Z0p, Z0q, Z0r, Z0s, Z0t, Z0u, Z0v, mkVec, drows, evMk, List.length_map, Z1p, Z1t, List.take_length, List.take_left, List.length_append, Nat.le_add_right, ite_self, List.take_of_length_le, Z37, intOr, Z3z, Option.isSome_none, Option.isSome_some, Nat.sub_zero, loadQ, loadT, evBin, evUn, Z0w, Z0x, binT, binQ, chk, Z3s, List.contains_cons, List.contains_nil, Bool.or_false, Bool.false_or, Bool.and_self, resQ, resV, resT, pickV, Z2r, Z45, Z3o, fnOf, Z3i, isD, HO.drow, viewT, Z3u, evEq, eqV, eqK, eqC1, Z43, Z40, Z35, Z32, lens_I, Z3d, Z2k, Z1l, Z2j, Z1k, Z2i, Z1j, Z1m, Z0y, Z0z, Z0c, List.mem_cons, List.not_mem_nil, or_false, forall_eq, putRow, Z38, get_nil, RetS, RetF, RetD, AV.frz, AV.frzL, AV.freshP, AV.freshL, DV.less, Z24, Z1n, Z25, Z1o, Z0e, Z05, Option.some.injEq, AV.tup.injEq, AV.agg.injEq, List.cons.injEq, DV.list.injEq, List.isEmpty_nil, Nat.le_refl, AV.d.injEq, DV.int.injEq, DV.bool.injEq, ↓reduceIte, Nat.reduceEqDiff, Nat.reduceAdd, Nat.reduceBEq, List.length_cons, List.length_nil, List.replicate_succ, List.replicate_zero, List.nil_append, List.cons_append, List.append_nil, List.foldl_cons, List.foldl_nil, List.map_cons, List.map_nil, List.all_cons, List.all_nil, List.set_cons_zero, List.set_cons_succ, List.getD_cons_zero, List.getD_cons_succ, List.drop_zero, List.drop_succ_cons, List.take_succ_cons, List.take_zero, List.flatten_cons, List.flatten_nil, Bool.true_and, Bool.and_true, Bool.not_true, Bool.not_false, true_and, and_true, true_or, or_true, Option.bind_some, Option.map_some, decide_true, decide_false, beq_self_eq_true, true_implies, false_implies, implies_true, not_true_eq_false, not_false_eq_true, and_self, Bool.and_false, Bool.false_and, Nat.reduceLT, Nat.reduceLeDiff, List.reverse_cons, List.reverse_nil, Nat.zero_add, Nat.add_zero, Bool.false_eq_true, List.getElem?_cons_zero, Nat.reduceMul, Nat.mul_one, sp_CBuild, F1, G1, F2, G2, F3, G3, F4, G4, F5, G5, F6, G6, G7, at_Nodes, at_readN, at_followN, at_prel, Sp.at_dat, SpecR.dat_rows, at_Then, at_Back]
  have hbad : (nodesG l runs).2 ≠ 0 → cbuildG l runs g fr order = (XG.none, (nodesG l runs).2) := fun h => by unfold cbuildG; rw [if_pos h]
  refine ⟨hR, fun h0 => ?_, fun h0 => ?_⟩
  · have ok := nodesOk h0
    have hn := ok.len
    have hall := nodesAll_len l runs
    have hform : ((readN (nodesG l runs).1 fr).2 = false ∨ (followN (nodesG l runs).1 l.length order).2 = false) → cbuildG l runs g fr order = (XG.none, 3) := fun h => by
      unfold cbuildG; rw [if_neg (by rw [h0]; simp)]; exact if_pos h
    have hoe := ok.eq
    rw [ok.eq] at hform ⊢
    generalize hD : nodesAll l runs = D at *
    refine ⟨hn, ⟨hn, by omega, hO⟩, ?_⟩
    have l1 := readN_len D fr
    have l2 := followN_len (n := l.length) hn order
    have hl := ok.ls
    generalize hr : readN D fr = rd at *
    generalize hf : followN D l.length order = fo at *
    obtain ⟨rd, rok⟩ := rd
    obtain ⟨fo, fok⟩ := fo
    have l1 : rd.length ≤ D.length := l1
    have l2 : fo.length ≤ 4225 * l.length := l2
    have hM : maxLen = 9223372036854775807 := rfl
    cases rok with
    | false =>
      rw [hform (.inl rfl)]
      exact ⟨fun h => (by cases h), fun _ => ⟨rfl, rfl⟩⟩
    | true =>
      cases fok with
      | false =>
        rw [hform (.inr rfl)]
        exact ⟨fun _ => ⟨fun h => (by cases h), fun _ => ⟨rfl, rfl⟩⟩, fun h => (by cases h)⟩
      | true =>
        have hgood : cbuildG l runs g fr order = ((x0G D rd fo).withP (thr (x0G D rd fo) runs g l.length runs.length).1, 0) := by
          unfold cbuildG
          rw [if_neg (by rw [h0]; simp), ok.eq]
          simp only [hD, hr, hf]
          rfl
        have b1 := ofG_len D.length rd
        have b2 := ofG_len D.length fo
        simp only [Z0g]
        have b3 : (backG (ofG D.length rd)).length ≤ 64 := by unfold backG; rw [mkR_len]; exact szR_le _
        refine ⟨by omega, by omega, by omega, ⟨by omega, by omega⟩, ?_⟩
        rw [within_pick (x := x0G D rd fo) rfl]
        rw [hgood]
        generalize thr (x0G D rd fo) runs g l.length runs.length = P
        simp (maxSteps := 3000000) only [↓Z1r, ↓Z2x, ↓Z1x, ↓Z07, ↓Z2p, ↓Z2l, nilG_d, nilG_r, ↓Z2b, ↓Z1q, ↓Z13, ↓Z1y, ↓Z16, ↓Z2a, ↓Z34, ↓Z33, ↓Z20, ↓Z1w, ↓Z2g, ↓Z2c, ↓Z29, ↓Z3t, ↓retK_n, ↓Z3e, ↓Z3g, ↓Z3f, ↓Z46, ↓Z41, ↓famK_r, ↓Z0g, ↓Z06, ↓Z19, ↓Z0k, ↓Z1g, nf_mk, Z0f, Z17, Z3j, Z18, Z3m, evN, Z2v, Z28, Z3l, Z47, Z27, Z1b, Z22, Z2o, Z2d, Z23, Z1h, Z2z, evT, Opd.ev, Z03, Z00, Z3k, Z44, Z3x, Z1z, Z1f, Z2w, Z30, Z3c, Z1u, Z0j, Z3p, LOp.isNew, State.prune, Z3n, Z2y, AV.leaf, Heap.at, Z0i, Z09, Z1c, Z0d, Z02, idx_I, idx_W, rowW, Z26, Z2q, Z1s, Z1a, rowB, Z2t, Z2s, rowN, lens_W, Z3h, Z1d, Z15, w_or, w_and, Z2u, w_and1, w_shl, Z48, w_shr, Z49, w_neg, w_add, w_bit, w_eq0, w_eq1, w_eq, Bool.decide_eq_true, Z39, Z3b, Z3a, Z2h, Z1i, Z04, Z0a, Z0l, Z01, Z1v, rowI, RatG.row, LocG.row, ActG.row, StepG.row, StampG.row, ActG.av, ActG.eta, RatG.eta, LocG.eta, beq_true, beq_false, Z2e, Z2n, Z2f, Z2m, Z12, Z0o, Z10, Z11, Z0n, Z0m, Z0b, List.length_set, List.length_replicate, Z08, Int.reduceToNat, evLen, Z21, Z3w, Src.all, Src.len, Src.leaf, Src.leafN, Z36, Z42, joinV, Z0h, Z0p, Z0q, Z0r, Z0s, Z0t, Z0u, Z0v, mkVec, drows, evMk, List.length_map, Z1p, Z1t, List.take_length, List.take_left, List.length_append, Nat.le_add_right, ite_self, List.take_of_length_le, Z37, intOr, Z3z, Option.isSome_none, Option.isSome_some, Nat.sub_zero, loadQ, loadT, evBin, evUn, Z0w, Z0x, binT, binQ, chk, Z3s, List.contains_cons, List.contains_nil, Bool.or_false, Bool.false_or, Bool.and_self, resQ, resV, resT, pickV, Z2r, Z45, Z3o, fnOf, Z3i, isD, HO.drow, viewT, Z3u, evEq, eqV, eqK, eqC1, Z43, Z40, Z35, Z32, lens_I, Z3d, Z2k, Z1l, Z2j, Z1k, Z2i, Z1j, Z1m, Z0y, Z0z, Z0c, List.mem_cons, List.not_mem_nil, or_false, forall_eq, putRow, Z38, get_nil, RetS, RetF, RetD, AV.frz, AV.frzL, AV.freshP, AV.freshL, DV.less, Z24, Z1n, Z25, Z1o, Z0e, Z05, Option.some.injEq, AV.tup.injEq, AV.agg.injEq, List.cons.injEq, DV.list.injEq, List.isEmpty_nil, Nat.le_refl, AV.d.injEq, DV.int.injEq, DV.bool.injEq, ↓reduceIte, Nat.reduceEqDiff, Nat.reduceAdd, Nat.reduceBEq, List.length_cons, List.length_nil, List.replicate_succ, List.replicate_zero, List.nil_append, List.cons_append, List.append_nil, List.foldl_cons, List.foldl_nil, List.map_cons, List.map_nil, List.all_cons, List.all_nil, List.set_cons_zero, List.set_cons_succ, List.getD_cons_zero, List.getD_cons_succ, List.drop_zero, List.drop_succ_cons, List.take_succ_cons, List.take_zero, List.flatten_cons, List.flatten_nil, Bool.true_and, Bool.and_true, Bool.not_true, Bool.not_false, true_and, and_true, true_or, or_true, Option.bind_some, Option.map_some, decide_true, decide_false, beq_self_eq_true, true_implies, false_implies, implies_true, not_true_eq_false, not_false_eq_true, and_self, Bool.and_false, Bool.false_and, Nat.reduceLT, Nat.reduceLeDiff, List.reverse_cons, List.reverse_nil, Nat.zero_add, Nat.add_zero, Bool.false_eq_true, List.getElem?_cons_zero, Nat.reduceMul, Nat.mul_one, XG.obj, XG.withP, x0G, XG.av, lsX]
        refine ⟨hn, by omega, by have := ok.rs; omega, hR⟩
  · rw [hbad h0]
    exact ⟨rfl, rfl⟩
end Go.Ago

/- The document's answer for layer 18: the nodes, and where they come from. Conditions: none. -/
set_option maxRecDepth 100000
set_option linter.unusedSimpArgs false
set_option linter.unusedVariables false
namespace Go.Ago
attribute [local irreducible] vck
def keepW (t : Nat) (es : List EvG) : List RatG := (es.zipIdx.filter fun p => p.1.isM).map fun p => ⟨t, p.2⟩
def keptW (runs : List RunG) (t : Nat) : List RatG := ((List.range t).map fun i => keepW i (runs.getD i default).evs).flatten
theorem keptW_succ (runs : List RunG) (t : Nat) : keptW runs (t + 1) = keptW runs t ++ keepW t (runs.getD t default).evs := by
  unfold keptW; rw [List.range_succ, List.map_append, List.flatten_append]; simp
def initWL (k : Nat) : List RatG := List.replicate k ⟨-1, -1⟩
def wheresAll (l : List LocG) (runs : List RunG) : List RatG := initWL l.length ++ keptW runs runs.length
def wheresG (l : List LocG) (runs : List RunG) : List RatG := if (nodesG l runs).2 = 0 then wheresAll l runs else []
theorem keepW_next {t j : Nat} {es : List EvG} (hj : j < es.length) : keepW t (es.take (j + 1)) = keepW t (es.take j) ++ (if (es.getD j default).isM = true then [⟨t, j⟩] else []) := by
  unfold keepW
  rw [List.take_add_one, List.getElem?_eq_getElem hj, getD_lt hj]
  simp only [Option.toList_some, List.zipIdx_append, List.filter_append, List.map_append, List.length_take, Nat.zero_add, List.zipIdx_cons, List.zipIdx_nil, Nat.min_eq_left (Nat.le_of_lt hj)]
  congr 1
  cases h : (es[j]).isM <;> simp [h]
def smallE (l : List LocG) (runs : List RunG) : Prop := l.length ≤ 20 ∧ runs.length ≤ 5 ∧ ∀ r ∈ runs, r.evs.length ≤ 70
def sp_NodesR : Sp := ⟨List LocG × Bool × List RunG × Bool, fun x => [.d (.list (x.1.map LocG.row) x.2.1), .d (.list (x.2.2.1.map RunG.row) x.2.2.2)],
  fun x => .data (smallE x.1 x.2.2.1) (.tup [.d (.list ((nodesG x.1 x.2.2.1).1.map ActG.row) false), .d (.list ((wheresG x.1 x.2.2.1).map RatG.row) false), .d (.int .i64 (nodesG x.1 x.2.2.1).2)]) false⟩
theorem at_NodesR (l : List LocG) (f : Bool) (runs : List RunG) (g : Bool) : sp_NodesR.at [.d (.list (l.map LocG.row) f), .d (.list (runs.map RunG.row) g)] =
    .data (smallE l runs) (.tup [.d (.list ((nodesG l runs).1.map ActG.row) false), .d (.list ((wheresG l runs).map RatG.row) false), .d (.int .i64 (nodesG l runs).2)]) false :=
  Sp.at_enc (s := sp_NodesR) (fun x y h => by
    obtain ⟨a, b, c, d⟩ := x; obtain ⟨a', b', c', d'⟩ := y
    simp only [sp_NodesR, List.cons.injEq, AV.d.injEq, DV.list.injEq, and_true] at h
    obtain ⟨⟨h1, h2⟩, h3, h4⟩ := h
    rw [Z3r LocG.row_inj h1, h2, Z3r RunG.row_inj h3, h4]) (l, f, runs, g)
theorem keepN_le (t : Nat) (es : List EvG) : (keepN t es).length ≤ es.length := by unfold keepN; rw [List.length_map]; exact List.length_filter_le _ _
theorem keepW_le (t : Nat) (es : List EvG) : (keepW t es).length ≤ es.length := by
  unfold keepW; rw [List.length_map]
  have := List.length_filter_le (fun p : EvG × Nat => p.1.isM) es.zipIdx
  simpa using this
theorem keptN_le {runs : List RunG} (h : ∀ r ∈ runs, r.evs.length ≤ 70) : ∀ t, t ≤ runs.length → (keptN runs t).length ≤ 70 * t := by
  intro t
  induction t with
  | zero => intro _; simp [keptN]
  | succ t ih =>
    intro ht
    rw [keptN_succ, List.length_append]
    have := ih (by omega)
    have h1 := keepN_le t (runs.getD t default).evs
    have h2 := h (runs.getD t default) (by rw [getD_lt (by omega)]; exact List.getElem_mem _)
    omega
theorem keptW_le {runs : List RunG} (h : ∀ r ∈ runs, r.evs.length ≤ 70) : ∀ t, t ≤ runs.length → (keptW runs t).length ≤ 70 * t := by
  intro t
  induction t with
  | zero => intro _; simp [keptW]
  | succ t ih =>
    intro ht
    rw [keptW_succ, List.length_append]
    have := ih (by omega)
    have h1 := keepW_le t (runs.getD t default).evs
    have h2 := h (runs.getD t default) (by rw [getD_lt (by omega)]; exact List.getElem_mem _)
    omega
def qSt1 (l : List LocG) (f : Bool) (runs : List RunG) (g : Bool) (i : Nat) : State :=
  ⟨[(0, .d (.list (l.map LocG.row) f)), (1, .d (.list (runs.map RunG.row) g)), (7, .ref 0 4 0 i true), (8, .ref 1 2 0 i true), (9, .d (.int .i64 i))], [.dvec 4 ((initNL l i).map ActG.row), .dvec 2 ((initWL i).map RatG.row)]⟩
def qSt2 (l : List LocG) (f : Bool) (runs : List RunG) (g : Bool) (x : Nat × List NodeG × List RatG) : State :=
  ⟨[(0, .d (.list (l.map LocG.row) f)), (1, .d (.list (runs.map RunG.row) g)), (7, .ref 0 4 0 x.2.1.length true), (8, .ref 1 2 0 x.2.2.length true), (10, .d (.int .i64 x.1))], [.dvec 4 (x.2.1.map ActG.row), .dvec 2 (x.2.2.map RatG.row)]⟩
def qInv2 (l : List LocG) (runs : List RunG) (x : Nat × List NodeG × List RatG) : Prop :=
  x.1 ≤ runs.length ∧ (∀ i, i < x.1 → (runs.getD i default).evs.all (fun e => e.inL l.length) = true) ∧ x.2.1 = initNL l l.length ++ keptN runs x.1 ∧ x.2.2 = initWL l.length ++ keptW runs x.1
def qSt3 (l : List LocG) (f : Bool) (runs : List RunG) (g : Bool) (t : Nat) (x : Nat × List NodeG × List RatG) : State :=
  ⟨[(0, .d (.list (l.map LocG.row) f)), (1, .d (.list (runs.map RunG.row) g)), (7, .ref 0 4 0 x.2.1.length true), (8, .ref 1 2 0 x.2.2.length true), (10, .d (.int .i64 t)), (11, .d (.int .i64 x.1))], [.dvec 4 (x.2.1.map ActG.row), .dvec 2 (x.2.2.map RatG.row)]⟩
def qInv3 (l : List LocG) (runs : List RunG) (t : Nat) (x : Nat × List NodeG × List RatG) : Prop :=
  x.1 ≤ (runs.getD t default).evs.length ∧ (∀ i, i < x.1 → ((runs.getD t default).evs.getD i default).inL l.length = true) ∧
    x.2.1 = initNL l l.length ++ (keptN runs t ++ keepN t ((runs.getD t default).evs.take x.1)) ∧ x.2.2 = initWL l.length ++ (keptW runs t ++ keepW t ((runs.getD t default).evs.take x.1))
set_option maxHeartbeats 4000000 in
theorem body_ref18_Nodes {T : Tab} : sp_NodesR.Body T V_ref18_Nodes L_ref18_Nodes R_ref18_Nodes := by
  rintro ⟨l, f, runs, g⟩ ⟨h1, h2, h3⟩
  have h1 : l.length ≤ 20 := h1
  have h2 : runs.length ≤ 5 := h2
  have h3 : ∀ r ∈ runs, r.evs.length ≤ 70 := h3
  refine ⟨rfl, ?_⟩
  unfold V_ref18_Nodes L_ref18_Nodes R_ref18_Nodes
  simp (maxSteps := 3000000) only [↓Z1r, ↓Z2x, ↓Z1x, ↓Z07, ↓Z2p, ↓Z2l, nilG_d, nilG_r, ↓Z2b, ↓Z1q, ↓Z13, ↓Z1y, ↓Z16, ↓Z2a, ↓Z34, ↓Z33, ↓Z20, ↓Z1w, ↓Z2g, ↓Z2c, ↓Z29, ↓Z3t, ↓retK_n, ↓Z3e, ↓Z3g, ↓Z3f, ↓Z46, ↓Z41, ↓famK_r, ↓Z0g, ↓Z06, ↓Z19, ↓Z0k, ↓Z1g, nf_mk, Z0f, Z17, Z3j, Z18, Z3m, evN, Z2v, Z28, Z3l, Z47, Z27, Z1b, Z22, Z2o, Z2d, Z23, Z1h, Z2z, evT, Opd.ev, Z03, Z00, Z3k, Z44, Z3x, Z1z, Z1f, Z2w, Z30, Z3c, Z1u, Z0j, Z3p, LOp.isNew, State.prune, Z3n, Z2y, AV.leaf, Heap.at, Z0i, Z09, Z1c, Z0d, Z02, idx_I, idx_W, rowW, Z26, Z2q, Z1s, Z1a, rowB, Z2t, Z2s, rowN, lens_W, Z3h, Z1d, Z15, w_or, w_and, Z2u, w_and1, w_shl, Z48, w_shr, Z49, w_neg, w_add, w_bit, w_eq0, w_eq1, w_eq, Bool.decide_eq_true, Z39, Z3b, Z3a, Z2h, Z1i, Z04, Z0a, Z0l, Z01, Z1v, rowI, RatG.row, LocG.row, ActG.row, StepG.row, StampG.row, ActG.av, ActG.eta, RatG.eta, LocG.eta, beq_true, beq_false, Z2e, Z2n, Z2f, Z2m, Z12, Z0o, Z10, Z11, Z0n, Z0m, Z0b, List.length_set, List.length_replicate, Z08, Int.reduceToNat, evLen, Z21, Z3w, Src.all, Src.len, Src.leaf, Src.leafN, Z36, Z42, joinV, Z0h, Z0p, Z0q, Z0r, Z0s, Z0t, Z0u, Z0v, mkVec, drows, evMk, List.length_map, Z1p, Z1t, List.take_length, List.take_left, List.length_append, Nat.le_add_right, ite_self, List.take_of_length_le, Z37, intOr, Z3z, Option.isSome_none, Option.isSome_some, Nat.sub_zero, loadQ, loadT, evBin, evUn, Z0w, Z0x, binT, binQ, chk, Z3s, List.contains_cons, List.contains_nil, Bool.or_false, Bool.false_or, Bool.and_self, resQ, resV, resT, pickV, Z2r, Z45, Z3o, fnOf, Z3i, isD, HO.drow, viewT, Z3u, evEq, eqV, eqK, eqC1, Z43, Z40, Z35, Z32, lens_I, Z3d, Z2k, Z1l, Z2j, Z1k, Z2i, Z1j, Z1m, Z0y, Z0z, Z0c, List.mem_cons, List.not_mem_nil, or_false, forall_eq, putRow, Z38, get_nil, RetS, RetF, RetD, AV.frz, AV.frzL, AV.freshP, AV.freshL, DV.less, Z24, Z1n, Z25, Z1o, Z0e, Z05, Option.some.injEq, AV.tup.injEq, AV.agg.injEq, List.cons.injEq, DV.list.injEq, List.isEmpty_nil, Nat.le_refl, AV.d.injEq, DV.int.injEq, DV.bool.injEq, ↓reduceIte, Nat.reduceEqDiff, Nat.reduceAdd, Nat.reduceBEq, List.length_cons, List.length_nil, List.replicate_succ, List.replicate_zero, List.nil_append, List.cons_append, List.append_nil, List.foldl_cons, List.foldl_nil, List.map_cons, List.map_nil, List.all_cons, List.all_nil, List.set_cons_zero, List.set_cons_succ, List.getD_cons_zero, List.getD_cons_succ, List.drop_zero, List.drop_succ_cons, List.take_succ_cons, List.take_zero, List.flatten_cons, List.flatten_nil, Bool.true_and, Bool.and_true, Bool.not_true, Bool.not_false, true_and, and_true, true_or, or_true, Option.bind_some, Option.map_some, decide_true, decide_false, beq_self_eq_true, true_implies, false_implies, implies_true, not_true_eq_false, not_false_eq_true, and_self, Bool.and_false, Bool.false_and, Nat.reduceLT, Nat.reduceLeDiff, List.reverse_cons, List.reverse_nil, Nat.zero_add, Nat.add_zero, Bool.false_eq_true, List.getElem?_cons_zero, Nat.reduceMul, Nat.mul_one, EvG.row, RunG.row, idx_Ev, idx_Run, sp_NodesR]
  have e16 : 16 < l.length → nodesG l runs = ([], 1) := fun h => by unfold nodesG; rw [if_pos (.inl h)]
  have e3 : 3 < runs.length → nodesG l runs = ([], 1) := fun h => by unfold nodesG; rw [if_pos (.inr h)]
  have hwn : (nodesG l runs).2 ≠ 0 → wheresG l runs = [] := fun h => by unfold wheresG; rw [if_neg h]
  refine ⟨fun c => ?_, fun c => ⟨fun c2 => ?_, fun c2 => ?_⟩⟩
  · have e := e16 (by omega)
    rw [hwn (by rw [e]; decide), e]; exact ⟨rfl, rfl, rfl⟩
  · have e := e3 (by omega)
    rw [hwn (by rw [e]; decide), e]; exact ⟨rfl, rfl, rfl⟩
  have c : l.length ≤ 16 := by omega
  have c2 : runs.length ≤ 3 := by omega
  refine Loop.nilref 7 4 rfl (Nat.zero_le _) ?_
  refine Loop.nilref 8 2 rfl (Nat.zero_le _) ?_
  refine Loop.fam [0, 1, 7, 8, 9] (qSt1 l f runs g) (fun i => i ≤ l.length) (fun i => l.length - i) 0 [0, 1] (by simp) (by simp) (by simp only [List.length_nil, List.nil_append, List.cons_append, List.length_cons, State.can, AV.can, AV.canL, HO.can, Z1e, idx, Z03, Z00, Heap.at, Nat.reduceBEq, ↓reduceIte, Nat.reduceEqDiff, Option.getD_some, Option.map_some, List.map_cons, List.map_nil, List.getD_cons_zero, List.getD_cons_succ, qSt1]; rfl) (by omega) ?_
  intro i hi
  have hi : i ≤ l.length := hi
  have hwl : (initWL i).length = i := by simp [initWL]
  have hnl := initNL_len l i
  simp (maxSteps := 3000000) only [↓Z1r, ↓Z2x, ↓Z1x, ↓Z07, ↓Z2p, ↓Z2l, nilG_d, nilG_r, ↓Z2b, ↓Z1q, ↓Z13, ↓Z1y, ↓Z16, ↓Z2a, ↓Z34, ↓Z33, ↓Z20, ↓Z1w, ↓Z2g, ↓Z2c, ↓Z29, ↓Z3t, ↓retK_n, ↓Z3e, ↓Z3g, ↓Z3f, ↓Z46, ↓Z41, ↓famK_r, ↓Z0g, ↓Z06, ↓Z19, ↓Z0k, ↓Z1g, nf_mk, Z0f, Z17, Z3j, Z18, Z3m, evN, Z2v, Z28, Z3l, Z47, Z27, Z1b, Z22, Z2o, Z2d, Z23, Z1h, Z2z, evT, Opd.ev, Z03, Z00, Z3k, Z44, Z3x, Z1z, Z1f, Z2w, Z30, Z3c, Z1u, Z0j, Z3p, LOp.isNew, State.prune, Z3n, Z2y, AV.leaf, Heap.at, Z0i, Z09, Z1c, Z0d, Z02, idx_I, idx_W, rowW, Z26, Z2q, Z1s, Z1a, rowB, Z2t, Z2s, rowN, lens_W, Z3h, Z1d, Z15, w_or, w_and, Z2u, w_and1, w_shl, Z48, w_shr, Z49, w_neg, w_add, w_bit, w_eq0, w_eq1, w_eq, Bool.decide_eq_true, Z39, Z3b, Z3a, Z2h, Z1i, Z04, Z0a, Z0l, Z01, Z1v, rowI, RatG.row, LocG.row, ActG.row, StepG.row, StampG.row, ActG.av, ActG.eta, RatG.eta, LocG.eta, beq_true, beq_false, Z2e, Z2n, Z2f, Z2m, Z12, Z0o, Z10, Z11, Z0n, Z0m, Z0b, List.length_set, List.length_replicate, Z08, Int.reduceToNat, evLen, Z21, Z3w, Src.all, Src.len, Src.leaf, Src.leafN, Z36, Z42, joinV, Z0h, Z0p, Z0q, Z0r, Z0s, Z0t, Z0u, Z0v, mkVec, drows, evMk, List.length_map, Z1p, Z1t, List.take_length, List.take_left, List.length_append, Nat.le_add_right, ite_self, List.take_of_length_le, Z37, intOr, Z3z, Option.isSome_none, Option.isSome_some, Nat.sub_zero, loadQ, loadT, evBin, evUn, Z0w, Z0x, binT, binQ, chk, Z3s, List.contains_cons, List.contains_nil, Bool.or_false, Bool.false_or, Bool.and_self, resQ, resV, resT, pickV, Z2r, Z45, Z3o, fnOf, Z3i, isD, HO.drow, viewT, Z3u, evEq, eqV, eqK, eqC1, Z43, Z40, Z35, Z32, lens_I, Z3d, Z2k, Z1l, Z2j, Z1k, Z2i, Z1j, Z1m, Z0y, Z0z, Z0c, List.mem_cons, List.not_mem_nil, or_false, forall_eq, putRow, Z38, get_nil, RetS, RetF, RetD, AV.frz, AV.frzL, AV.freshP, AV.freshL, DV.less, Z24, Z1n, Z25, Z1o, Z0e, Z05, Option.some.injEq, AV.tup.injEq, AV.agg.injEq, List.cons.injEq, DV.list.injEq, List.isEmpty_nil, Nat.le_refl, AV.d.injEq, DV.int.injEq, DV.bool.injEq, ↓reduceIte, Nat.reduceEqDiff, Nat.reduceAdd, Nat.reduceBEq, List.length_cons, List.length_nil, List.replicate_succ, List.replicate_zero, List.nil_append, List.cons_append, List.append_nil, List.foldl_cons, List.foldl_nil, List.map_cons, List.map_nil, List.all_cons, List.all_nil, List.set_cons_zero, List.set_cons_succ, List.getD_cons_zero, List.getD_cons_succ, List.drop_zero, List.drop_succ_cons, List.take_succ_cons, List.take_zero, List.flatten_cons, List.flatten_nil, Bool.true_and, Bool.and_true, Bool.not_true, Bool.not_false, true_and, and_true, true_or, or_true, Option.bind_some, Option.map_some, decide_true, decide_false, beq_self_eq_true, true_implies, false_implies, implies_true, not_true_eq_false, not_false_eq_true, and_self, Bool.and_false, Bool.false_and, Nat.reduceLT, Nat.reduceLeDiff, List.reverse_cons, List.reverse_nil, Nat.zero_add, Nat.add_zero, Bool.false_eq_true, List.getElem?_cons_zero, Nat.reduceMul, Nat.mul_one, EvG.row, RunG.row, idx_Ev, idx_Run, qSt1, hwl, hnl]
  refine ⟨fun d => ⟨⟨by omega, by omega⟩, roomy_of (by omega) (by omega), roomy_of (by omega) (by omega), ?_⟩, fun d => ?_⟩
  · have d' : i < l.length := by omega
    have w1 : IntKind.i64.wrap ((i : Int) + 1) = ((i + 1 : Nat) : Int) := by rw [wrap_id (by omega) (by omega)]; omega
    rw [w1]
    refine Z4a.mk [3, 5] (i + 1) (by simp) (by simp) ?_ (by omega) (by omega)
    simp only [State.can, AV.can, AV.canL, HO.can, Z1e, idx, Z03, Z00, Heap.at, Nat.reduceBEq, ↓reduceIte, Nat.reduceEqDiff, Option.getD_some, Option.map_some, List.map_cons, List.map_nil, List.getD_cons_zero, List.getD_cons_succ, qSt1, initNL_succ, initWL, List.replicate_succ', List.length_append, List.length_singleton]; rfl
  · have d' : i = l.length := by omega
    subst d'
    refine Loop.fam [0, 1, 7, 8, 10] (qSt2 l f runs g) (qInv2 l runs) (fun x => runs.length - x.1) (0, initNL l l.length, initWL l.length) [0, 1] (by simp) (by simp) (by simp only [State.can, AV.can, AV.canL, HO.can, Z1e, idx, Z03, Z00, Heap.at, Nat.reduceBEq, ↓reduceIte, Nat.reduceEqDiff, Option.getD_some, Option.map_some, List.map_cons, List.map_nil, List.getD_cons_zero, List.getD_cons_succ, qSt2, hwl, hnl]; rfl)
      ⟨Nat.zero_le _, fun i hi => by omega, by simp [keptN], by simp [keptW]⟩ ?_
    rintro ⟨t, O, A⟩ ⟨i1, i2, i4, i5⟩
    have i1 : t ≤ runs.length := i1
    have i2 : ∀ i, i < t → (runs.getD i default).evs.all (fun e => e.inL l.length) = true := i2
    have i4 : O = initNL l l.length ++ keptN runs t := i4
    have i5 : A = initWL l.length ++ keptW runs t := i5
    simp (maxSteps := 3000000) only [↓Z1r, ↓Z2x, ↓Z1x, ↓Z07, ↓Z2p, ↓Z2l, nilG_d, nilG_r, ↓Z2b, ↓Z1q, ↓Z13, ↓Z1y, ↓Z16, ↓Z2a, ↓Z34, ↓Z33, ↓Z20, ↓Z1w, ↓Z2g, ↓Z2c, ↓Z29, ↓Z3t, ↓retK_n, ↓Z3e, ↓Z3g, ↓Z3f, ↓Z46, ↓Z41, ↓famK_r, ↓Z0g, ↓Z06, ↓Z19, ↓Z0k, ↓Z1g, nf_mk, Z0f, Z17, Z3j, Z18, Z3m, evN, Z2v, Z28, Z3l, Z47, Z27, Z1b, Z22, Z2o, Z2d, Z23, Z1h, Z2z, evT, Opd.ev, Z03, Z00, Z3k, Z44, Z3x, Z1z, Z1f, Z2w, Z30, Z3c, Z1u, Z0j, Z3p, LOp.isNew, State.prune, Z3n, Z2y, AV.leaf, Heap.at, Z0i, Z09, Z1c, Z0d, Z02, idx_I, idx_W, rowW, Z26, Z2q, Z1s, Z1a, rowB, Z2t, Z2s, rowN, lens_W, Z3h, Z1d, Z15, w_or, w_and, Z2u, w_and1, w_shl, Z48, w_shr, Z49, w_neg, w_add, w_bit, w_eq0, w_eq1, w_eq, Bool.decide_eq_true, Z39, Z3b, Z3a, Z2h, Z1i, Z04, Z0a, Z0l, Z01, Z1v, rowI, RatG.row, LocG.row, ActG.row, StepG.row, StampG.row, ActG.av, ActG.eta, RatG.eta, LocG.eta, beq_true, beq_false, Z2e, Z2n, Z2f, Z2m, Z12, Z0o, Z10, Z11, Z0n, Z0m, Z0b, List.length_set, List.length_replicate, Z08, Int.reduceToNat, evLen, Z21, Z3w, Src.all, Src.len, Src.leaf, Src.leafN, Z36, Z42, joinV, Z0h, Z0p, Z0q, Z0r, Z0s, Z0t, Z0u, Z0v, mkVec, drows, evMk, List.length_map, Z1p, Z1t, List.take_length, List.take_left, List.length_append, Nat.le_add_right, ite_self, List.take_of_length_le, Z37, intOr, Z3z, Option.isSome_none, Option.isSome_some, Nat.sub_zero, loadQ, loadT, evBin, evUn, Z0w, Z0x, binT, binQ, chk, Z3s, List.contains_cons, List.contains_nil, Bool.or_false, Bool.false_or, Bool.and_self, resQ, resV, resT, pickV, Z2r, Z45, Z3o, fnOf, Z3i, isD, HO.drow, viewT, Z3u, evEq, eqV, eqK, eqC1, Z43, Z40, Z35, Z32, lens_I, Z3d, Z2k, Z1l, Z2j, Z1k, Z2i, Z1j, Z1m, Z0y, Z0z, Z0c, List.mem_cons, List.not_mem_nil, or_false, forall_eq, putRow, Z38, get_nil, RetS, RetF, RetD, AV.frz, AV.frzL, AV.freshP, AV.freshL, DV.less, Z24, Z1n, Z25, Z1o, Z0e, Z05, Option.some.injEq, AV.tup.injEq, AV.agg.injEq, List.cons.injEq, DV.list.injEq, List.isEmpty_nil, Nat.le_refl, AV.d.injEq, DV.int.injEq, DV.bool.injEq, ↓reduceIte, Nat.reduceEqDiff, Nat.reduceAdd, Nat.reduceBEq, List.length_cons, List.length_nil, List.replicate_succ, List.replicate_zero, List.nil_append, List.cons_append, List.append_nil, List.foldl_cons, List.foldl_nil, List.map_cons, List.map_nil, List.all_cons, List.all_nil, List.set_cons_zero, List.set_cons_succ, List.getD_cons_zero, List.getD_cons_succ, List.drop_zero, List.drop_succ_cons, List.take_succ_cons, List.take_zero, List.flatten_cons, List.flatten_nil, Bool.true_and, Bool.and_true, Bool.not_true, Bool.not_false, true_and, and_true, true_or, or_true, Option.bind_some, Option.map_some, decide_true, decide_false, beq_self_eq_true, true_implies, false_implies, implies_true, not_true_eq_false, not_false_eq_true, and_self, Bool.and_false, Bool.false_and, Nat.reduceLT, Nat.reduceLeDiff, List.reverse_cons, List.reverse_nil, Nat.zero_add, Nat.add_zero, Bool.false_eq_true, List.getElem?_cons_zero, Nat.reduceMul, Nat.mul_one, EvG.row, RunG.row, idx_Ev, idx_Run, qSt2]
    refine ⟨fun d => ?_, fun d => ?_⟩
    · have d' : t < runs.length := by omega
      have hes : (runs.getD t default).evs.length ≤ 70 := h3 (runs.getD t default) (by rw [getD_lt d']; exact List.getElem_mem d')
      refine Loop.fam [0, 1, 7, 8, 10, 11] (qSt3 l f runs g t) (qInv3 l runs t) (fun x => (runs.getD t default).evs.length - x.1) (0, O, A) [0, 1] (by simp) (by simp) (by simp only [State.can, AV.can, AV.canL, HO.can, Z1e, idx, Z03, Z00, Heap.at, Nat.reduceBEq, ↓reduceIte, Nat.reduceEqDiff, Option.getD_some, Option.map_some, List.map_cons, List.map_nil, List.getD_cons_zero, List.getD_cons_succ, qSt3]; rfl)
        ⟨Nat.zero_le _, fun i hi => by omega, by rw [i4]; simp [keepN], by rw [i5]; simp [keepW]⟩ ?_
      rintro ⟨j, Q, B⟩ ⟨j1, j2, j4, j5⟩
      have j1 : j ≤ (runs.getD t default).evs.length := j1
      have j2 : ∀ i, i < j → ((runs.getD t default).evs.getD i default).inL l.length = true := j2
      have j4 : Q = initNL l l.length ++ (keptN runs t ++ keepN t ((runs.getD t default).evs.take j)) := j4
      have j5 : B = initWL l.length ++ (keptW runs t ++ keepW t ((runs.getD t default).evs.take j)) := j5
      simp (maxSteps := 3000000) only [↓Z1r, ↓Z2x, ↓Z1x, ↓Z07, ↓Z2p, ↓Z2l, nilG_d, nilG_r, ↓Z2b, ↓Z1q, ↓Z13, ↓Z1y, ↓Z16, ↓Z2a, ↓Z34, ↓Z33, ↓Z20, ↓Z1w, ↓Z2g, ↓Z2c, ↓Z29, ↓Z3t, ↓retK_n, ↓Z3e, ↓Z3g, ↓Z3f, ↓Z46, ↓Z41, ↓famK_r, ↓Z0g, ↓Z06, ↓Z19, ↓Z0k, ↓Z1g, nf_mk, Z0f, Z17, Z3j, Z18, Z3m, evN, Z2v, Z28, Z3l, Z47, Z27, Z1b, Z22, Z2o, Z2d, Z23, Z1h, Z2z, evT, Opd.ev, Z03, Z00, Z3k, Z44, Z3x, Z1z, Z1f, Z2w, Z30, Z3c, Z1u, Z0j, Z3p, LOp.isNew, State.prune, Z3n, Z2y, AV.leaf, Heap.at, Z0i, Z09, Z1c, Z0d, Z02, idx_I, idx_W, rowW, Z26, Z2q, Z1s, Z1a, rowB, Z2t, Z2s, rowN, lens_W, Z3h, Z1d, Z15, w_or, w_and, Z2u, w_and1, w_shl, Z48, w_shr, Z49, w_neg, w_add, w_bit, w_eq0, w_eq1, w_eq, Bool.decide_eq_true, Z39, Z3b, Z3a, Z2h, Z1i, Z04, Z0a, Z0l, Z01, Z1v, rowI, RatG.row, LocG.row, ActG.row, StepG.row, StampG.row, ActG.av, ActG.eta, RatG.eta, LocG.eta, beq_true, beq_false, Z2e, Z2n, Z2f, Z2m, Z12, Z0o, Z10, Z11, Z0n, Z0m, Z0b, List.length_set, List.length_replicate, Z08, Int.reduceToNat, evLen, Z21, Z3w, Src.all, Src.len, Src.leaf, Src.leafN, Z36, Z42, joinV, Z0h, Z0p, Z0q, Z0r, Z0s, Z0t, Z0u, Z0v, mkVec, drows, evMk, List.length_map, Z1p, Z1t, List.take_length, List.take_left, List.length_append, Nat.le_add_right, ite_self, List.take_of_length_le, Z37, intOr, Z3z, Option.isSome_none, Option.isSome_some, Nat.sub_zero, loadQ, loadT, evBin, evUn, Z0w, Z0x, binT, binQ, chk, Z3s, List.contains_cons, List.contains_nil, Bool.or_false, Bool.false_or, Bool.and_self, resQ, resV, resT, pickV, Z2r, Z45, Z3o, fnOf, Z3i, isD, HO.drow, viewT, Z3u, evEq, eqV, eqK, eqC1, Z43, Z40, Z35, Z32, lens_I, Z3d, Z2k, Z1l, Z2j, Z1k, Z2i, Z1j, Z1m, Z0y, Z0z, Z0c, List.mem_cons, List.not_mem_nil, or_false, forall_eq, putRow, Z38, get_nil, RetS, RetF, RetD, AV.frz, AV.frzL, AV.freshP, AV.freshL, DV.less, Z24, Z1n, Z25, Z1o, Z0e, Z05, Option.some.injEq, AV.tup.injEq, AV.agg.injEq, List.cons.injEq, DV.list.injEq, List.isEmpty_nil, Nat.le_refl, AV.d.injEq, DV.int.injEq, DV.bool.injEq, ↓reduceIte, Nat.reduceEqDiff, Nat.reduceAdd, Nat.reduceBEq, List.length_cons, List.length_nil, List.replicate_succ, List.replicate_zero, List.nil_append, List.cons_append, List.append_nil, List.foldl_cons, List.foldl_nil, List.map_cons, List.map_nil, List.all_cons, List.all_nil, List.set_cons_zero, List.set_cons_succ, List.getD_cons_zero, List.getD_cons_succ, List.drop_zero, List.drop_succ_cons, List.take_succ_cons, List.take_zero, List.flatten_cons, List.flatten_nil, Bool.true_and, Bool.and_true, Bool.not_true, Bool.not_false, true_and, and_true, true_or, or_true, Option.bind_some, Option.map_some, decide_true, decide_false, beq_self_eq_true, true_implies, false_implies, implies_true, not_true_eq_false, not_false_eq_true, and_self, Bool.and_false, Bool.false_and, Nat.reduceLT, Nat.reduceLeDiff, List.reverse_cons, List.reverse_nil, Nat.zero_add, Nat.add_zero, Bool.false_eq_true, List.getElem?_cons_zero, Nat.reduceMul, Nat.mul_one, EvG.row, RunG.row, idx_Ev, idx_Run, qSt3]
      have w1 : j < (runs.getD t default).evs.length → IntKind.i64.wrap ((j : Int) + 1) = ((j + 1 : Nat) : Int) := fun h => by rw [wrap_id (by omega) (by omega)]; omega
      have w3 : IntKind.i64.wrap ((t : Int) + 1) = ((t + 1 : Nat) : Int) := by rw [wrap_id (by omega) (by omega)]; omega
      have hbad : j < (runs.getD t default).evs.length → ((runs.getD t default).evs.getD j default).inL l.length = false → [] = List.map ActG.row (nodesG l runs).1 ∧ [] = List.map RatG.row (wheresG l runs) ∧ 3 = (nodesG l runs).2 := fun hj h => by
        have hno : rightN l runs = false := rightN_no d' hj h
        have e : nodesG l runs = ([], 3) := by unfold nodesG; rw [if_neg (by omega), if_pos hno]
        rw [hwn (by rw [e]; decide), e]; exact ⟨rfl, rfl, rfl⟩
      have all : ((runs.getD t default).evs.getD j default).inL l.length = true → ∀ i, i < j + 1 → ((runs.getD t default).evs.getD i default).inL l.length = true := fun h i hi => by
        by_cases e : i = j
        · rw [e]; exact h
        · exact j2 i (by omega)
      have hkt := keptN_le h3 t i1
      have hkw := keptW_le h3 t i1
      have hkj := keepN_le t ((runs.getD t default).evs.take j)
      have hkv := keepW_le t ((runs.getD t default).evs.take j)
      have hkl : ((runs.getD t default).evs.take j).length ≤ 70 := by rw [List.length_take]; omega
      have hQ : Q.length ≤ 20 + 70 * 3 + 70 := by rw [j4, List.length_append, List.length_append, hnl]; omega
      have hB : B.length ≤ 20 + 70 * 3 + 70 := by rw [j5, List.length_append, List.length_append, hwl]; omega
      have hq : roomy (Q.length + 1) 32 := roomy_of (by omega) (by omega)
      have hb : roomy (B.length + 1) 16 := roomy_of (by omega) (by omega)
      have hmem : j < (runs.getD t default).evs.length → ((runs.getD t default).evs.getD j default).isM = true → ¬ ((runs.getD t default).evs.getD j default).loc < 0 → ¬ (l.length : Int) ≤ ((runs.getD t default).evs.getD j default).loc → ∀ {S : State}, 7 ≤ S.heap.length →
          S.can [4, 6] [0, 1, 7, 8, 10, 11] = qSt3 l f runs g t (j + 1, Q ++ [nodeOf t ((runs.getD t default).evs.getD j default)], B ++ [⟨t, j⟩]) →
          Z4a [0, 1, 7, 8, 10, 11] (qSt3 l f runs g t) (qInv3 l runs t) (fun x => (runs.getD t default).evs.length - x.1) ((runs.getD t default).evs.length - j) S := fun hj hm c3 c4 S hS hc => by
        have hin : ((runs.getD t default).evs.getD j default).inL l.length = true := by unfold EvG.inL; rw [decide_eq_true (show 0 ≤ ((runs.getD t default).evs.getD j default).loc by omega), decide_eq_true (show ((runs.getD t default).evs.getD j default).loc < (l.length : Int) by omega)]; simp
        refine Z4a.mk [4, 6] _ (by simp) (by simp; omega) hc ⟨by show j + 1 ≤ _; omega, all hin, ?_, ?_⟩ (by show _ - (j + 1) < _ - j; omega)
        · show Q ++ [_] = initNL l l.length ++ (keptN runs t ++ keepN t (_ : List EvG))
          rw [keepN_next hj, if_pos hm, j4]; simp only [List.append_assoc]
        · show B ++ [_] = initWL l.length ++ (keptW runs t ++ keepW t (_ : List EvG))
          rw [keepW_next hj, if_pos hm, j5]; simp only [List.append_assoc]
      have b1 : ((runs.getD t default).evs.getD j default).isM = true → ((runs.getD t default).evs.getD j default).loc < 0 → ((runs.getD t default).evs.getD j default).inL l.length = false := fun hm h => by unfold EvG.inL; rw [hm, decide_eq_false (by omega)]; rfl
      have b2 : ((runs.getD t default).evs.getD j default).isM = true → (l.length : Int) ≤ ((runs.getD t default).evs.getD j default).loc → ((runs.getD t default).evs.getD j default).inL l.length = false := fun hm h => by
        unfold EvG.inL; rw [hm, decide_eq_false (show ¬ ((runs.getD t default).evs.getD j default).loc < (l.length : Int) by omega), Bool.and_false]; rfl
      refine ⟨⟨by omega, by omega⟩, fun e => ?_, fun e => ?_⟩
      · have e' : j < (runs.getD t default).evs.length := by omega
        rw [w1 e']
        refine ⟨⟨by omega, by omega⟩, ⟨by omega, by omega⟩, fun k1 => ?_, fun k1 => ⟨fun k2 => ?_, fun k2 => ?_⟩⟩
        · have hm : ((runs.getD t default).evs.getD j default).isM = true := by unfold EvG.isM; rw [decide_eq_true k1]; rfl
          exact ⟨fun h => hbad e' (b1 hm h), fun c3 => ⟨fun h => hbad e' (b2 hm h), fun c4 => ⟨hq, hb, hmem e' hm c3 c4 (by simp) (by simp only [State.can, AV.can, AV.canL, HO.can, Z1e, idx, Z03, Z00, Heap.at, Nat.reduceBEq, ↓reduceIte, Nat.reduceEqDiff, Option.getD_some, Option.map_some, List.map_cons, List.map_nil, List.getD_cons_zero, List.getD_cons_succ, qSt3, List.length_append, List.length_singleton, nodeOf])⟩⟩⟩
        · have hm : ((runs.getD t default).evs.getD j default).isM = true := by unfold EvG.isM; rw [decide_eq_true k2]; simp
          exact ⟨fun h => hbad e' (b1 hm h), fun c3 => ⟨fun h => hbad e' (b2 hm h), fun c4 => ⟨hq, hb, hmem e' hm c3 c4 (by simp) (by simp only [State.can, AV.can, AV.canL, HO.can, Z1e, idx, Z03, Z00, Heap.at, Nat.reduceBEq, ↓reduceIte, Nat.reduceEqDiff, Option.getD_some, Option.map_some, List.map_cons, List.map_nil, List.getD_cons_zero, List.getD_cons_succ, qSt3, List.length_append, List.length_singleton, nodeOf])⟩⟩⟩
        · have hm : ((runs.getD t default).evs.getD j default).isM = false := by unfold EvG.isM; rw [decide_eq_false k1, decide_eq_false k2]; rfl
          refine Z4a.mk [0, 1] (j + 1, Q, B) (by simp) (by simp) (by simp only [State.can, AV.can, AV.canL, HO.can, Z1e, idx, Z03, Z00, Heap.at, Nat.reduceBEq, ↓reduceIte, Nat.reduceEqDiff, Option.getD_some, Option.map_some, List.map_cons, List.map_nil, List.getD_cons_zero, List.getD_cons_succ, qSt3]) ⟨by show j + 1 ≤ _; omega, all (by unfold EvG.inL; rw [hm]; rfl), ?_, ?_⟩ (by show _ - (j + 1) < _ - j; omega)
          · show Q = initNL l l.length ++ (keptN runs t ++ keepN t ((runs.getD t default).evs.take (j + 1)))
            rw [keepN_next e', if_neg (by rw [hm]; simp), List.append_nil, j4]
          · show B = initWL l.length ++ (keptW runs t ++ keepW t ((runs.getD t default).evs.take (j + 1)))
            rw [keepW_next e', if_neg (by rw [hm]; simp), List.append_nil, j5]
      · have e' : j = (runs.getD t default).evs.length := by omega
        rw [e', List.take_length] at j4 j5
        rw [w3]
        refine Z4a.mk [0, 1] (t + 1, Q, B) (by simp) (by simp) (by simp only [State.can, AV.can, AV.canL, HO.can, Z1e, idx, Z03, Z00, Heap.at, Nat.reduceBEq, ↓reduceIte, Nat.reduceEqDiff, Option.getD_some, Option.map_some, List.map_cons, List.map_nil, List.getD_cons_zero, List.getD_cons_succ, qSt2]) ⟨by show t + 1 ≤ _; omega, fun i hi => ?_, ?_, ?_⟩ (by show runs.length - (t + 1) < runs.length - t; omega)
        · by_cases h : i = t
          · rw [h, List.all_eq_true]
            intro x hx
            obtain ⟨k, hk, rfl⟩ := List.getElem_of_mem hx
            have := j2 k (by omega)
            rwa [getD_lt hk] at this
          · exact i2 i (by have : i < t + 1 := hi; omega)
        · show Q = initNL l l.length ++ keptN runs (t + 1)
          rw [keptN_succ, j4]
        · show B = initWL l.length ++ keptW runs (t + 1)
          rw [keptW_succ, j5]
    · have d' : t = runs.length := by omega
      subst d'
      have hr : rightN l runs = true := rightN_yes i2
      have hO : O.length = (nodesAll l runs).length := by rw [i4]; rfl
      refine ⟨fun e => ?_, fun e => ?_⟩
      · have e : nodesG l runs = ([], 15) := by unfold nodesG; rw [if_neg (by omega), hr, if_neg (by simp), if_pos (by omega)]
        rw [hwn (by rw [e]; decide), e]; exact ⟨rfl, rfl, rfl⟩
      · have e : nodesG l runs = (nodesAll l runs, 0) := by unfold nodesG; rw [if_neg (by omega), hr, if_neg (by simp), if_neg (by omega)]
        unfold wheresG
        rw [e, if_pos rfl, i4, i5]; exact ⟨rfl, rfl, rfl⟩
end Go.Ago

/- The laws of layer 18: what is small, a fixed answer, and CandNodes. Conditions: none. -/
set_option maxRecDepth 100000
set_option linter.unusedSimpArgs false
set_option linter.unusedVariables false
namespace Go.Ago
attribute [local irreducible] vck
def smallEF (l : List LocG) (runs : List RunG) : Bool := decide (l.length ≤ 20) && decide (runs.length ≤ 5) && runs.all (fun r => decide (r.evs.length ≤ 70))
theorem smallEF_iff {l : List LocG} {runs : List RunG} : smallEF l runs = true ↔ smallE l runs := by
  unfold smallEF smallE
  simp only [Bool.and_eq_true, decide_eq_true_eq, List.all_eq_true]
  exact ⟨fun ⟨⟨a, b⟩, c⟩ => ⟨a, b, c⟩, fun ⟨a, b, c⟩ => ⟨⟨a, b⟩, c⟩⟩
def sp_smallE : Sp := ⟨List LocG × Bool × List RunG × Bool, fun x => [.d (.list (x.1.map LocG.row) x.2.1), .d (.list (x.2.2.1.map RunG.row) x.2.2.2)], fun x => .data (x.2.2.1.length ≤ maxLen) (.d (.bool (smallEF x.1 x.2.2.1))) true⟩
theorem at_smallE (l : List LocG) (f : Bool) (runs : List RunG) (g : Bool) : sp_smallE.at [.d (.list (l.map LocG.row) f), .d (.list (runs.map RunG.row) g)] = .data (runs.length ≤ maxLen) (.d (.bool (smallEF l runs))) true :=
  Sp.at_enc (s := sp_smallE) (fun x y h => by
    obtain ⟨a, b, c, d⟩ := x; obtain ⟨a', b', c', d'⟩ := y
    simp only [sp_smallE, List.cons.injEq, AV.d.injEq, DV.list.injEq, and_true] at h
    obtain ⟨⟨h1, h2⟩, h3, h4⟩ := h
    rw [Z3r LocG.row_inj h1, h2, Z3r RunG.row_inj h3, h4]) (l, f, runs, g)
theorem all_at18 {α : Type} [Inhabited α] {l : List α} {p : α → Bool} {i : Nat} (hi : i < l.length) (h : p (l.getD i default) = false) : l.all p = false := by
  rw [Bool.eq_false_iff]
  intro hh
  rw [List.all_eq_true] at hh
  have := hh (l.getD i default) (by rw [getD_lt hi]; exact List.getElem_mem hi)
  rw [h] at this; cases this
theorem all_yes18 {α : Type} [Inhabited α] {l : List α} {p : α → Bool} (h : ∀ i, i < l.length → p (l.getD i default) = true) : l.all p = true := by
  rw [List.all_eq_true]
  intro x hx
  obtain ⟨i, hi, rfl⟩ := List.getElem_of_mem hx
  have := h i hi
  rwa [getD_lt hi] at this
theorem body_law18_small {T : Tab} : sp_smallE.Body T V_law18_small L_law18_small R_law18_small := by
  rintro ⟨l, f, runs, g⟩ h1
  have h1 : runs.length ≤ maxLen := h1
  refine .inl ⟨rfl, ?_⟩
  unfold V_law18_small L_law18_small R_law18_small
  simp (maxSteps := 3000000) only [↓Z1r, ↓Z2x, ↓Z1x, ↓Z07, ↓Z2p, ↓Z2l, nilG_d, nilG_r, ↓Z2b, ↓Z1q, ↓Z13, ↓Z1y, ↓Z16, ↓Z2a, ↓Z34, ↓Z33, ↓Z20, ↓Z1w, ↓Z2g, ↓Z2c, ↓Z29, ↓Z3t, ↓retK_n, ↓Z3e, ↓Z3g, ↓Z3f, ↓Z46, ↓Z41, ↓famK_r, ↓Z0g, ↓Z06, ↓Z19, ↓Z0k, ↓Z1g, nf_mk, Z0f, Z17, Z3j, Z18, Z3m, evN, Z2v, Z28, Z3l, Z47, Z27, Z1b, Z22, Z2o, Z2d, Z23, Z1h, Z2z, evT, Opd.ev, Z03, Z00, Z3k, Z44, Z3x, Z1z, Z1f, Z2w, Z30, Z3c, Z1u, Z0j, Z3p, LOp.isNew, State.prune, Z3n, Z2y, AV.leaf, Heap.at, Z0i, Z09, Z1c, Z0d, Z02, idx_I, idx_W, rowW, Z26, Z2q, Z1s, Z1a, rowB, Z2t, Z2s, rowN, lens_W, Z3h, Z1d, Z15, w_or, w_and, Z2u, w_and1, w_shl, Z48, w_shr, Z49, w_neg, w_add, w_bit, w_eq0, w_eq1, w_eq, Bool.decide_eq_true, Z39, Z3b, Z3a, Z2h, Z1i, Z04, Z0a, Z0l, Z01, Z1v, rowI, RatG.row, LocG.row, ActG.row, StepG.row, StampG.row, ActG.av, ActG.eta, RatG.eta, LocG.eta, beq_true, beq_false, Z2e, Z2n, Z2f, Z2m, Z12, Z0o, Z10, Z11, Z0n, Z0m, Z0b, List.length_set, List.length_replicate, Z08, Int.reduceToNat, evLen, Z21, Z3w, Src.all, Src.len, Src.leaf, Src.leafN, Z36, Z42, joinV, Z0h, Z0p, Z0q, Z0r, Z0s, Z0t, Z0u, Z0v, mkVec, drows, evMk, List.length_map, Z1p, Z1t, List.take_length, List.take_left, List.length_append, Nat.le_add_right, ite_self, List.take_of_length_le, Z37, intOr, Z3z, Option.isSome_none, Option.isSome_some, Nat.sub_zero, loadQ, loadT, evBin, evUn, Z0w, Z0x, binT, binQ, chk, Z3s, List.contains_cons, List.contains_nil, Bool.or_false, Bool.false_or, Bool.and_self, resQ, resV, resT, pickV, Z2r, Z45, Z3o, fnOf, Z3i, isD, HO.drow, viewT, Z3u, evEq, eqV, eqK, eqC1, Z43, Z40, Z35, Z32, lens_I, Z3d, Z2k, Z1l, Z2j, Z1k, Z2i, Z1j, Z1m, Z0y, Z0z, Z0c, List.mem_cons, List.not_mem_nil, or_false, forall_eq, putRow, Z38, get_nil, RetS, RetF, RetD, AV.frz, AV.frzL, AV.freshP, AV.freshL, DV.less, Z24, Z1n, Z25, Z1o, Z0e, Z05, Option.some.injEq, AV.tup.injEq, AV.agg.injEq, List.cons.injEq, DV.list.injEq, List.isEmpty_nil, Nat.le_refl, AV.d.injEq, DV.int.injEq, DV.bool.injEq, ↓reduceIte, Nat.reduceEqDiff, Nat.reduceAdd, Nat.reduceBEq, List.length_cons, List.length_nil, List.replicate_succ, List.replicate_zero, List.nil_append, List.cons_append, List.append_nil, List.foldl_cons, List.foldl_nil, List.map_cons, List.map_nil, List.all_cons, List.all_nil, List.set_cons_zero, List.set_cons_succ, List.getD_cons_zero, List.getD_cons_succ, List.drop_zero, List.drop_succ_cons, List.take_succ_cons, List.take_zero, List.flatten_cons, List.flatten_nil, Bool.true_and, Bool.and_true, Bool.not_true, Bool.not_false, true_and, and_true, true_or, or_true, Option.bind_some, Option.map_some, decide_true, decide_false, beq_self_eq_true, true_implies, false_implies, implies_true, not_true_eq_false, not_false_eq_true, and_self, Bool.and_false, Bool.false_and, Nat.reduceLT, Nat.reduceLeDiff, List.reverse_cons, List.reverse_nil, Nat.zero_add, Nat.add_zero, Bool.false_eq_true, List.getElem?_cons_zero, Nat.reduceMul, Nat.mul_one, EvG.row, RunG.row, idx_Ev, idx_Run, RunG.eta0, sp_smallE]
  refine ⟨fun c1 => by unfold smallEF; rw [decide_eq_false (by omega)]; simp, fun c1 => ⟨fun c2 => by unfold smallEF; rw [decide_eq_false (show ¬ runs.length ≤ 5 by omega)]; simp, fun c2 => ?_⟩⟩
  refine Loop.fam [1, 5] (fun i : Nat => ⟨[(1, .d (.list (runs.map RunG.row) g)), (5, .d (.int .i64 i))], []⟩) (fun i => i ≤ runs.length ∧ ∀ j, j < i → (runs.getD j default).evs.length ≤ 70) (fun i => runs.length - i) 0 [] (by simp) (by simp) (by simp only [State.can, AV.can, AV.canL, HO.can, Z1e, idx, Z03, Z00, Heap.at, Nat.reduceBEq, ↓reduceIte, Nat.reduceEqDiff, Option.getD_some, Option.map_some, List.map_cons, List.map_nil, List.getD_cons_zero, List.getD_cons_succ]; rfl) ⟨by omega, by omega⟩ ?_
  rintro i ⟨hi, hj⟩
  simp (maxSteps := 3000000) only [↓Z1r, ↓Z2x, ↓Z1x, ↓Z07, ↓Z2p, ↓Z2l, nilG_d, nilG_r, ↓Z2b, ↓Z1q, ↓Z13, ↓Z1y, ↓Z16, ↓Z2a, ↓Z34, ↓Z33, ↓Z20, ↓Z1w, ↓Z2g, ↓Z2c, ↓Z29, ↓Z3t, ↓retK_n, ↓Z3e, ↓Z3g, ↓Z3f, ↓Z46, ↓Z41, ↓famK_r, ↓Z0g, ↓Z06, ↓Z19, ↓Z0k, ↓Z1g, nf_mk, Z0f, Z17, Z3j, Z18, Z3m, evN, Z2v, Z28, Z3l, Z47, Z27, Z1b, Z22, Z2o, Z2d, Z23, Z1h, Z2z, evT, Opd.ev, Z03, Z00, Z3k, Z44, Z3x, Z1z, Z1f, Z2w, Z30, Z3c, Z1u, Z0j, Z3p, LOp.isNew, State.prune, Z3n, Z2y, AV.leaf, Heap.at, Z0i, Z09, Z1c, Z0d, Z02, idx_I, idx_W, rowW, Z26, Z2q, Z1s, Z1a, rowB, Z2t, Z2s, rowN, lens_W, Z3h, Z1d, Z15, w_or, w_and, Z2u, w_and1, w_shl, Z48, w_shr, Z49, w_neg, w_add, w_bit, w_eq0, w_eq1, w_eq, Bool.decide_eq_true, Z39, Z3b, Z3a, Z2h, Z1i, Z04, Z0a, Z0l, Z01, Z1v, rowI, RatG.row, LocG.row, ActG.row, StepG.row, StampG.row, ActG.av, ActG.eta, RatG.eta, LocG.eta, beq_true, beq_false, Z2e, Z2n, Z2f, Z2m, Z12, Z0o, Z10, Z11, Z0n, Z0m, Z0b, List.length_set, List.length_replicate, Z08, Int.reduceToNat, evLen, Z21, Z3w, Src.all, Src.len, Src.leaf, Src.leafN, Z36, Z42, joinV, Z0h, Z0p, Z0q, Z0r, Z0s, Z0t, Z0u, Z0v, mkVec, drows, evMk, List.length_map, Z1p, Z1t, List.take_length, List.take_left, List.length_append, Nat.le_add_right, ite_self, List.take_of_length_le, Z37, intOr, Z3z, Option.isSome_none, Option.isSome_some, Nat.sub_zero, loadQ, loadT, evBin, evUn, Z0w, Z0x, binT, binQ, chk, Z3s, List.contains_cons, List.contains_nil, Bool.or_false, Bool.false_or, Bool.and_self, resQ, resV, resT, pickV, Z2r, Z45, Z3o, fnOf, Z3i, isD, HO.drow, viewT, Z3u, evEq, eqV, eqK, eqC1, Z43, Z40, Z35, Z32, lens_I, Z3d, Z2k, Z1l, Z2j, Z1k, Z2i, Z1j, Z1m, Z0y, Z0z, Z0c, List.mem_cons, List.not_mem_nil, or_false, forall_eq, putRow, Z38, get_nil, RetS, RetF, RetD, AV.frz, AV.frzL, AV.freshP, AV.freshL, DV.less, Z24, Z1n, Z25, Z1o, Z0e, Z05, Option.some.injEq, AV.tup.injEq, AV.agg.injEq, List.cons.injEq, DV.list.injEq, List.isEmpty_nil, Nat.le_refl, AV.d.injEq, DV.int.injEq, DV.bool.injEq, ↓reduceIte, Nat.reduceEqDiff, Nat.reduceAdd, Nat.reduceBEq, List.length_cons, List.length_nil, List.replicate_succ, List.replicate_zero, List.nil_append, List.cons_append, List.append_nil, List.foldl_cons, List.foldl_nil, List.map_cons, List.map_nil, List.all_cons, List.all_nil, List.set_cons_zero, List.set_cons_succ, List.getD_cons_zero, List.getD_cons_succ, List.drop_zero, List.drop_succ_cons, List.take_succ_cons, List.take_zero, List.flatten_cons, List.flatten_nil, Bool.true_and, Bool.and_true, Bool.not_true, Bool.not_false, true_and, and_true, true_or, or_true, Option.bind_some, Option.map_some, decide_true, decide_false, beq_self_eq_true, true_implies, false_implies, implies_true, not_true_eq_false, not_false_eq_true, and_self, Bool.and_false, Bool.false_and, Nat.reduceLT, Nat.reduceLeDiff, List.reverse_cons, List.reverse_nil, Nat.zero_add, Nat.add_zero, Bool.false_eq_true, List.getElem?_cons_zero, Nat.reduceMul, Nat.mul_one, EvG.row, idx_Ev, idx_Run, RunG.eta0]
  refine ⟨fun e => ⟨⟨by omega, by omega⟩, fun e2 => ?_, fun e2 => ?_⟩, fun e => ?_⟩
  · unfold smallEF
    rw [all_at18 (l := runs) (i := i) (by omega) (decide_eq_false (by omega))]; simp
  · rw [wrap_succ (n := runs.length) (by omega) h1]
    exact Z4a.mk [] (i + 1) (by simp) (by simp) (by simp only [State.can, AV.can, AV.canL, HO.can, Z1e, idx, Z03, Z00, Heap.at, Nat.reduceBEq, ↓reduceIte, Nat.reduceEqDiff, Option.getD_some, Option.map_some, List.map_cons, List.map_nil, List.getD_cons_zero, List.getD_cons_succ]) ⟨by omega, fun j hj' => by
      by_cases h : j = i
      · rw [h]; omega
      · exact hj j (by omega)⟩ (by omega)
  · have ei : i = runs.length := by omega
    unfold smallEF
    rw [all_yes18 (l := runs) (fun j hj' => decide_eq_true (hj j (by omega)))]
    rw [decide_eq_true (show l.length ≤ 20 by omega), decide_eq_true (show runs.length ≤ 5 by omega)]; rfl
/-! ### What the arguments read as -/
abbrev shEv : Sh := .st [.int .i64, .int .i64, .int .i64, .int .i64, .int .u64, .int .u64, .int .u64, .int .u64]
abbrev shRun : Sh := .st [.sl shEv, .int .i64]
theorem has_ev {r : List DV} (h : shEv.has r) : ∃ e : EvG, r = e.row ∧ True := by
  obtain ⟨x1, y1, rfl, h1, g1⟩ := hasL_cons (has_st h)
  obtain ⟨x2, y2, rfl, h2, g2⟩ := hasL_cons g1
  obtain ⟨x3, y3, rfl, h3, g3⟩ := hasL_cons g2
  obtain ⟨x4, y4, rfl, h4, g4⟩ := hasL_cons g3
  obtain ⟨x5, y5, rfl, h5, g5⟩ := hasL_cons g4
  obtain ⟨x6, y6, rfl, h6, g6⟩ := hasL_cons g5
  obtain ⟨x7, y7, rfl, h7, g7⟩ := hasL_cons g6
  obtain ⟨x8, y8, rfl, h8, g8⟩ := hasL_cons g7
  obtain rfl := hasL_nil g8
  obtain ⟨a, rfl, -⟩ := has_i64 h1
  obtain ⟨b, rfl, -⟩ := has_i64 h2
  obtain ⟨c, rfl, -⟩ := has_i64 h3
  obtain ⟨d, rfl, -⟩ := has_i64 h4
  obtain ⟨e, rfl, -⟩ := has_rowW h5
  obtain ⟨f, rfl, -⟩ := has_rowW h6
  obtain ⟨g, rfl, -⟩ := has_rowW h7
  obtain ⟨i, rfl, -⟩ := has_rowW h8
  exact ⟨⟨a, b, c, d, e, f, g, i⟩, rfl, trivial⟩
theorem has_run {r : List DV} (h : shRun.has r) : ∃ x : RunG, r = x.row ∧ x.evs.length ≤ maxLen := by
  obtain ⟨x1, y1, rfl, h1, g1⟩ := hasL_cons (has_st h)
  obtain ⟨x2, y2, rfl, h2, g2⟩ := hasL_cons g1
  obtain rfl := hasL_nil g2
  obtain ⟨l, f, rfl, -, hl⟩ := has_list (f := EvG.row) (ok := fun _ => True) (fun _ h => has_ev h) h1
  obtain ⟨a, rfl, -⟩ := has_i64 h2
  exact ⟨⟨l, f, a⟩, rfl, hl⟩
/-! ### awake -/
def aw18l : List LocG := [⟨false, 0⟩]
def aw18r : List RunG := [⟨[⟨2, 0, 1, 0, 0, 0, 0, 0⟩, ⟨1, 0, 1, 0, 0, 0, 0, 0⟩], false, 0⟩]
def aw18o : List (List Int × Bool) := [([1], false)]
def aw18D : List NodeG := [⟨-1, 2, 0, 0⟩, ⟨0, 2, 0, 1⟩, ⟨0, 1, 0, 1⟩]
theorem aw18_nodes : nodesG aw18l aw18r = (aw18D, 0) := by decide +kernel
theorem aw18_read : readN aw18D [1] = ([⟨1, 2⟩], true) := by decide +kernel
theorem aw18_follow : followN aw18D 1 aw18o = ([⟨0, 1⟩], true) := by
  unfold followN
  have h : coN aw18D 1 aw18o 1 = some [⟨0, 1⟩] := by
    unfold coN
    have h : coN aw18D 1 aw18o 0 = some [] := rfl
    rw [h]
    have h2 : (aw18o.getD 0 default).1 = [1] := rfl
    have h3 : sortI [1] = [1] := by unfold sortI; simp
    simp only [h2, h3]
    rw [if_pos (by decide +kernel)]
    decide +kernel
  rw [if_neg (by decide), h]
def aw18X : XG := ((x0G aw18D [⟨1, 2⟩] [⟨0, 1⟩]).withP (thr (x0G aw18D [⟨1, 2⟩] [⟨0, 1⟩]) aw18r false 1 1).1)
theorem aw18_build : cbuildG aw18l aw18r false [1] aw18o = (aw18X, 0) := by
  unfold cbuildG
  rw [aw18_nodes, if_neg (by simp)]
  simp only [show aw18l.length = 1 from rfl, aw18_read, aw18_follow]
  rfl
theorem aw18_co : hasI aw18X.co.1 0 1 = true := by decide +kernel
theorem aw18_rf : hasI aw18X.rf.1 1 2 = true := by decide +kernel
theorem aw18_po : hasI aw18X.po.1 1 2 = true := by decide +kernel
theorem aw18_at : sp_CBuild.at [.d (.list [[.bool false, .int .i64 0]] false), .d (.list [[.list [[.int .i64 2, .int .i64 0, .int .i64 1, .int .i64 0, .int .u64 0, .int .u64 0, .int .u64 0, .int .u64 0], [.int .i64 1, .int .i64 0, .int .i64 1, .int .i64 0, .int .u64 0, .int .u64 0, .int .u64 0, .int .u64 0]] false, .int .i64 0]] false),
    .d (.list [[.int .i64 1]] false), .d (.list [[.list [[.int .i64 1]] false]] false)] =
    .data True (.tup [.agg [.d (.list (aw18X.nodes.map ActG.row) aw18X.nf), .d (.list (aw18X.po.1.map rowW) aw18X.po.2), .d (.list (aw18X.rf.1.map rowW) aw18X.rf.2), .d (.list (aw18X.co.1.map rowW) aw18X.co.2), .d (.list (aw18X.fr.1.map rowW) aw18X.fr.2), .d (.list (aw18X.addr.1.map rowW) aw18X.addr.2), .d (.list (aw18X.data.1.map rowW) aw18X.data.2), .d (.list (aw18X.ctrl.1.map rowW) aw18X.ctrl.2), .d (.list (aw18X.fenced.1.map rowW) aw18X.fenced.2), .d (.list (aw18X.sync.1.map rowW) aw18X.sync.2), .d (.list (aw18X.lwsync.1.map rowW) aw18X.lwsync.2), .d (.list (aw18X.pairs.1.map rowW) aw18X.pairs.2)], .d (.int .i64 0)]) false := by
  have h := at_CBuild aw18l false aw18r false [1] false aw18o false
  have h2 : (smallR aw18r ∧ smallO aw18o) = True := eq_true ⟨by unfold smallR; decide, by unfold smallO; decide⟩
  rw [aw18_build, h2] at h
  exact h
theorem aw18_len : aw18X.nodes.length = 3 := rfl
theorem aw18_clen : aw18X.co.1.length = 3 := by decide +kernel
theorem aw18_rlen : aw18X.rf.1.length = 3 := by decide +kernel
theorem aw18_plen : aw18X.po.1.length = 3 := by decide +kernel
theorem body_law18_awake {T : Tab} {n1 n2 : Nat} (k1 : Knows T n1 sp_CBuild) (k2 : Knows T n2 sp_Has) : sp_true.Body T V_law18_awake (L_law18_awake n1 n2) R_law18_awake := by
  have F1 := k1.F; have G1 := k1.G; have F2 := k2.F; have G2 := k2.G
  rintro x -
  refine .inl ⟨rfl, ?_⟩
  unfold V_law18_awake L_law18_awake R_law18_awake
  simp (maxSteps := 3000000) only [↓Z1r, ↓Z2x, ↓Z1x, ↓Z07, ↓Z2p, ↓Z2l, nilG_d, nilG_r, ↓Z2b, ↓Z1q, ↓Z13, ↓Z1y, ↓Z16, ↓Z2a, ↓Z34, ↓Z33, ↓Z20, ↓Z1w, ↓Z2g, ↓Z2c, ↓Z29, ↓Z3t, ↓retK_n, ↓Z3e, ↓Z3g, ↓Z3f, ↓Z46, ↓Z41, ↓famK_r, ↓Z0g, ↓Z06, ↓Z19, ↓Z0k, ↓Z1g, nf_mk, Z0f, Z17, Z3j, Z18, Z3m, evN, Z2v, Z28, Z3l, Z47, Z27, Z1b, Z22, Z2o, Z2d, Z23, Z1h, Z2z, evT, Opd.ev, Z03, Z00, Z3k, Z44, Z3x, Z1z, Z1f, Z2w, Z30, Z3c, Z1u, Z0j, Z3p, LOp.isNew, State.prune, Z3n, Z2y, AV.leaf, Heap.at, Z0i, Z09, Z1c, Z0d, Z02, idx_I, idx_W, rowW, Z26, Z2q, Z1s, Z1a, rowB, Z2t, Z2s, rowN, lens_W, Z3h, Z1d, Z15, w_or, w_and, Z2u, w_and1, w_shl, Z48, w_shr, Z49, w_neg, w_add, w_bit, w_eq0, w_eq1, w_eq, Bool.decide_eq_true, Z39, Z3b, Z3a, Z2h, Z1i, Z04, Z0a, Z0l, Z01, Z1v, rowI, RatG.row, LocG.row, ActG.row, StepG.row, StampG.row, ActG.av, ActG.eta, RatG.eta, LocG.eta, beq_true, beq_false, Z2e, Z2n, Z2f, Z2m, Z12, Z0o, Z10, Z11, Z0n, Z0m, Z0b, List.length_set, List.length_replicate, Z08, Int.reduceToNat, evLen, Z21, Z3w, Src.all, Src.len, Src.leaf, Src.leafN, Z36, Z42, joinV, Z0h, Z0p, Z0q, Z0r, Z0s, Z0t, Z0u, Z0v, mkVec, drows, evMk, List.length_map, Z1p, Z1t, List.take_length, List.take_left, List.length_append, Nat.le_add_right, ite_self, List.take_of_length_le, Z37, intOr, Z3z, Option.isSome_none, Option.isSome_some, Nat.sub_zero, loadQ, loadT, evBin, evUn, Z0w, Z0x, binT, binQ, chk, Z3s, List.contains_cons, List.contains_nil, Bool.or_false, Bool.false_or, Bool.and_self, resQ, resV, resT, pickV, Z2r, Z45, Z3o, fnOf, Z3i, isD, HO.drow, viewT, Z3u, evEq, eqV, eqK, eqC1, Z43, Z40, Z35, Z32, lens_I, Z3d, Z2k, Z1l, Z2j, Z1k, Z2i, Z1j, Z1m, Z0y, Z0z, Z0c, List.mem_cons, List.not_mem_nil, or_false, forall_eq, putRow, Z38, get_nil, RetS, RetF, RetD, AV.frz, AV.frzL, AV.freshP, AV.freshL, DV.less, Z24, Z1n, Z25, Z1o, Z0e, Z05, Option.some.injEq, AV.tup.injEq, AV.agg.injEq, List.cons.injEq, DV.list.injEq, List.isEmpty_nil, Nat.le_refl, AV.d.injEq, DV.int.injEq, DV.bool.injEq, ↓reduceIte, Nat.reduceEqDiff, Nat.reduceAdd, Nat.reduceBEq, List.length_cons, List.length_nil, List.replicate_succ, List.replicate_zero, List.nil_append, List.cons_append, List.append_nil, List.foldl_cons, List.foldl_nil, List.map_cons, List.map_nil, List.all_cons, List.all_nil, List.set_cons_zero, List.set_cons_succ, List.getD_cons_zero, List.getD_cons_succ, List.drop_zero, List.drop_succ_cons, List.take_succ_cons, List.take_zero, List.flatten_cons, List.flatten_nil, Bool.true_and, Bool.and_true, Bool.not_true, Bool.not_false, true_and, and_true, true_or, or_true, Option.bind_some, Option.map_some, decide_true, decide_false, beq_self_eq_true, true_implies, false_implies, implies_true, not_true_eq_false, not_false_eq_true, and_self, Bool.and_false, Bool.false_and, Nat.reduceLT, Nat.reduceLeDiff, List.reverse_cons, List.reverse_nil, Nat.zero_add, Nat.add_zero, Bool.false_eq_true, List.getElem?_cons_zero, Nat.reduceMul, Nat.mul_one, Option.bind_none, Option.bind_some, vrowsT, vcellsT, vcellT, List.take_succ_cons, List.take_zero, List.drop_zero, aw18_at, aw18_len, at_Has, aw18_co, aw18_rf, aw18_po, sp_true, F1, G1, F2, G2]
  exact ⟨⟨by omega, by omega, roomy_of (by omega) (by omega)⟩, fun _ => ⟨by rw [aw18_clen]; decide, by rw [aw18_rlen]; decide, by rw [aw18_plen]; decide⟩, fun h => h rfl⟩
/-! ### The nodes -/
theorem nodesG_len (l : List LocG) (runs : List RunG) : (nodesG l runs).1.length ≤ 64 := by
  by_cases h : (nodesG l runs).2 = 0
  · have := nodesOk h; rw [this.eq]; exact this.len
  · unfold nodesG at h ⊢
    split
    · exact Nat.zero_le _
    · split
      · exact Nat.zero_le _
      · split
        · exact Nat.zero_le _
        · rename_i h1 h2 h3
          rw [if_neg h1, if_neg h2, if_neg h3] at h
          exact absurd rfl h
theorem law_CandNodes {T : Tab} {n1 n2 n3 n4 : Nat} (k1 : Knows T n1 sp_true) (k2 : Knows T n2 sp_smallE) (k3 : Knows T n3 sp_Nodes) (k4 : Knows T n4 sp_NodesR) (l : List LocG) (f : Bool) (runs : List RunG) (g : Bool)
    (hl : l.length ≤ maxLen) (hr : runs.length ≤ maxLen) (hs : smallR runs) :
    Holds T V_law18_CandNodes (L_law18_CandNodes n1 n2 n3 n4) R_law18_CandNodes [.d (.list (l.map LocG.row) f), .d (.list (runs.map RunG.row) g)] := by
  have F1 := k1.F; have G1 := k1.G; have F2 := k2.F; have G2 := k2.G; have F3 := k3.F; have G3 := k3.G; have F4 := k4.F; have G4 := k4.G
  unfold V_law18_CandNodes L_law18_CandNodes R_law18_CandNodes
  simp (maxSteps := 3000000) only [↓Z1r, ↓Z2x, ↓Z1x, ↓Z07, ↓Z2p, ↓Z2l, nilG_d, nilG_r, ↓Z2b, ↓Z1q, ↓Z13, ↓Z1y, ↓Z16, ↓Z2a, ↓Z34, ↓Z33, ↓Z20, ↓Z1w, ↓Z2g, ↓Z2c, ↓Z29, ↓Z3t, ↓retK_n, ↓Z3e, ↓Z3g, ↓Z3f, ↓Z46, ↓Z41, ↓famK_r, ↓Z0g, ↓Z06, ↓Z19, ↓Z0k, ↓Z1g, nf_mk, Z0f, Z17, Z3j, Z18, Z3m, evN, Z2v, Z28, Z3l, Z47, Z27, Z1b, Z22, Z2o, Z2d, Z23, Z1h, Z2z, evT, Opd.ev, Z03, Z00, Z3k, Z44, Z3x, Z1z, Z1f, Z2w, Z30, Z3c, Z1u, Z0j, Z3p, LOp.isNew, State.prune, Z3n, Z2y, AV.leaf, Heap.at, Z0i, Z09, Z1c, Z0d, Z02, idx_I, idx_W, rowW, Z26, Z2q, Z1s, Z1a, rowB, Z2t, Z2s, rowN, lens_W, Z3h, Z1d, Z15, w_or, w_and, Z2u, w_and1, w_shl, Z48, w_shr, Z49, w_neg, w_add, w_bit, w_eq0, w_eq1, w_eq, Bool.decide_eq_true, Z39, Z3b, Z3a, Z2h, Z1i, Z04, Z0a, Z0l, Z01, Z1v, rowI, RatG.row, LocG.row, ActG.row, StepG.row, StampG.row, ActG.av, ActG.eta, RatG.eta, LocG.eta, beq_true, beq_false, Z2e, Z2n, Z2f, Z2m, Z12, Z0o, Z10, Z11, Z0n, Z0m, Z0b, List.length_set, List.length_replicate, Z08, Int.reduceToNat, evLen, Z21, Z3w, Src.all, Src.len, Src.leaf, Src.leafN, Z36, Z42, joinV, Z0h, Z0p, Z0q, Z0r, Z0s, Z0t, Z0u, Z0v, mkVec, drows, evMk, List.length_map, Z1p, Z1t, List.take_length, List.take_left, List.length_append, Nat.le_add_right, ite_self, List.take_of_length_le, Z37, intOr, Z3z, Option.isSome_none, Option.isSome_some, Nat.sub_zero, loadQ, loadT, evBin, evUn, Z0w, Z0x, binT, binQ, chk, Z3s, List.contains_cons, List.contains_nil, Bool.or_false, Bool.false_or, Bool.and_self, resQ, resV, resT, pickV, Z2r, Z45, Z3o, fnOf, Z3i, isD, HO.drow, viewT, Z3u, evEq, eqV, eqK, eqC1, Z43, Z40, Z35, Z32, lens_I, Z3d, Z2k, Z1l, Z2j, Z1k, Z2i, Z1j, Z1m, Z0y, Z0z, Z0c, List.mem_cons, List.not_mem_nil, or_false, forall_eq, putRow, Z38, get_nil, RetS, RetF, RetD, AV.frz, AV.frzL, AV.freshP, AV.freshL, DV.less, Z24, Z1n, Z25, Z1o, Z0e, Z05, Option.some.injEq, AV.tup.injEq, AV.agg.injEq, List.cons.injEq, DV.list.injEq, List.isEmpty_nil, Nat.le_refl, AV.d.injEq, DV.int.injEq, DV.bool.injEq, ↓reduceIte, Nat.reduceEqDiff, Nat.reduceAdd, Nat.reduceBEq, List.length_cons, List.length_nil, List.replicate_succ, List.replicate_zero, List.nil_append, List.cons_append, List.append_nil, List.foldl_cons, List.foldl_nil, List.map_cons, List.map_nil, List.all_cons, List.all_nil, List.set_cons_zero, List.set_cons_succ, List.getD_cons_zero, List.getD_cons_succ, List.drop_zero, List.drop_succ_cons, List.take_succ_cons, List.take_zero, List.flatten_cons, List.flatten_nil, Bool.true_and, Bool.and_true, Bool.not_true, Bool.not_false, true_and, and_true, true_or, or_true, Option.bind_some, Option.map_some, decide_true, decide_false, beq_self_eq_true, true_implies, false_implies, implies_true, not_true_eq_false, not_false_eq_true, and_self, Bool.and_false, Bool.false_and, Nat.reduceLT, Nat.reduceLeDiff, List.reverse_cons, List.reverse_nil, Nat.zero_add, Nat.add_zero, Bool.false_eq_true, List.getElem?_cons_zero, Nat.reduceMul, Nat.mul_one, at_true, at_smallE, at_Nodes, at_NodesR, F1, G1, F2, G2, F3, G3, F4, G4]
  refine ⟨hr, ?_⟩
  cases hE : smallEF l runs with
  | false => exact ⟨fun h => (by cases h), fun _ => trivial⟩
  | true =>
    refine ⟨fun _ => ⟨hs, smallEF_iff.1 hE, ?_⟩, fun h => (by cases h)⟩
    have hn := nodesG_len l runs
    generalize (nodesG l runs).1 = N at *
    refine Loop.fam [5, 7, 10] (fun i : Nat => ⟨[(5, .d (.list (N.map ActG.row) false)), (7, .d (.list (N.map ActG.row) false)), (10, .d (.int .i64 i))], []⟩) (fun i => i ≤ N.length) (fun i => N.length - i) 0 [] (by simp) (by simp) (by simp only [State.can, AV.can, AV.canL, HO.can, Z1e, idx, Z03, Z00, Heap.at, Nat.reduceBEq, ↓reduceIte, Nat.reduceEqDiff, Option.getD_some, Option.map_some, List.map_cons, List.map_nil, List.getD_cons_zero, List.getD_cons_succ]; rfl) (by omega) ?_
    intro i hi
    have hi : i ≤ N.length := hi
    simp (maxSteps := 3000000) only [↓Z1r, ↓Z2x, ↓Z1x, ↓Z07, ↓Z2p, ↓Z2l, nilG_d, nilG_r, ↓Z2b, ↓Z1q, ↓Z13, ↓Z1y, ↓Z16, ↓Z2a, ↓Z34, ↓Z33, ↓Z20, ↓Z1w, ↓Z2g, ↓Z2c, ↓Z29, ↓Z3t, ↓retK_n, ↓Z3e, ↓Z3g, ↓Z3f, ↓Z46, ↓Z41, ↓famK_r, ↓Z0g, ↓Z06, ↓Z19, ↓Z0k, ↓Z1g, nf_mk, Z0f, Z17, Z3j, Z18, Z3m, evN, Z2v, Z28, Z3l, Z47, Z27, Z1b, Z22, Z2o, Z2d, Z23, Z1h, Z2z, evT, Opd.ev, Z03, Z00, Z3k, Z44, Z3x, Z1z, Z1f, Z2w, Z30, Z3c, Z1u, Z0j, Z3p, LOp.isNew, State.prune, Z3n, Z2y, AV.leaf, Heap.at, Z0i, Z09, Z1c, Z0d, Z02, idx_I, idx_W, rowW, Z26, Z2q, Z1s, Z1a, rowB, Z2t, Z2s, rowN, lens_W, Z3h, Z1d, Z15, w_or, w_and, Z2u, w_and1, w_shl, Z48, w_shr, Z49, w_neg, w_add, w_bit, w_eq0, w_eq1, w_eq, Bool.decide_eq_true, Z39, Z3b, Z3a, Z2h, Z1i, Z04, Z0a, Z0l, Z01, Z1v, rowI, RatG.row, LocG.row, ActG.row, StepG.row, StampG.row, ActG.av, ActG.eta, RatG.eta, LocG.eta, beq_true, beq_false, Z2e, Z2n, Z2f, Z2m, Z12, Z0o, Z10, Z11, Z0n, Z0m, Z0b, List.length_set, List.length_replicate, Z08, Int.reduceToNat, evLen, Z21, Z3w, Src.all, Src.len, Src.leaf, Src.leafN, Z36, Z42, joinV, Z0h, Z0p, Z0q, Z0r, Z0s, Z0t, Z0u, Z0v, mkVec, drows, evMk, List.length_map, Z1p, Z1t, List.take_length, List.take_left, List.length_append, Nat.le_add_right, ite_self, List.take_of_length_le, Z37, intOr, Z3z, Option.isSome_none, Option.isSome_some, Nat.sub_zero, loadQ, loadT, evBin, evUn, Z0w, Z0x, binT, binQ, chk, Z3s, List.contains_cons, List.contains_nil, Bool.or_false, Bool.false_or, Bool.and_self, resQ, resV, resT, pickV, Z2r, Z45, Z3o, fnOf, Z3i, isD, HO.drow, viewT, Z3u, evEq, eqV, eqK, eqC1, Z43, Z40, Z35, Z32, lens_I, Z3d, Z2k, Z1l, Z2j, Z1k, Z2i, Z1j, Z1m, Z0y, Z0z, Z0c, List.mem_cons, List.not_mem_nil, or_false, forall_eq, putRow, Z38, get_nil, RetS, RetF, RetD, AV.frz, AV.frzL, AV.freshP, AV.freshL, DV.less, Z24, Z1n, Z25, Z1o, Z0e, Z05, Option.some.injEq, AV.tup.injEq, AV.agg.injEq, List.cons.injEq, DV.list.injEq, List.isEmpty_nil, Nat.le_refl, AV.d.injEq, DV.int.injEq, DV.bool.injEq, ↓reduceIte, Nat.reduceEqDiff, Nat.reduceAdd, Nat.reduceBEq, List.length_cons, List.length_nil, List.replicate_succ, List.replicate_zero, List.nil_append, List.cons_append, List.append_nil, List.foldl_cons, List.foldl_nil, List.map_cons, List.map_nil, List.all_cons, List.all_nil, List.set_cons_zero, List.set_cons_succ, List.getD_cons_zero, List.getD_cons_succ, List.drop_zero, List.drop_succ_cons, List.take_succ_cons, List.take_zero, List.flatten_cons, List.flatten_nil, Bool.true_and, Bool.and_true, Bool.not_true, Bool.not_false, true_and, and_true, true_or, or_true, Option.bind_some, Option.map_some, decide_true, decide_false, beq_self_eq_true, true_implies, false_implies, implies_true, not_true_eq_false, not_false_eq_true, and_self, Bool.and_false, Bool.false_and, Nat.reduceLT, Nat.reduceLeDiff, List.reverse_cons, List.reverse_nil, Nat.zero_add, Nat.add_zero, Bool.false_eq_true, List.getElem?_cons_zero, Nat.reduceMul, Nat.mul_one]
    intro e
    have e' : i < N.length := by omega
    have w : IntKind.i64.wrap ((i : Int) + 1) = ((i + 1 : Nat) : Int) := by rw [wrap_id (by omega) (by omega)]; omega
    rw [w]
    exact ⟨⟨by omega, by omega⟩, ⟨by omega, by omega⟩, Z4a.mk [] (i + 1) (by simp) (by simp) (by simp only [State.can, AV.can, AV.canL, HO.can, Z1e, idx, Z03, Z00, Heap.at, Nat.reduceBEq, ↓reduceIte, Nat.reduceEqDiff, Option.getD_some, Option.map_some, List.map_cons, List.map_nil, List.getD_cons_zero, List.getD_cons_succ]) e' (by show N.length - (i + 1) < N.length - i; omega)⟩
end Go.Ago
