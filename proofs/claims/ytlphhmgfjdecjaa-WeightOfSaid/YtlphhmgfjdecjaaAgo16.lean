/- Every operation of the abstract machine is carried out by the model's: 'op_sound'. Conditions: none. -/
import Derived.Test.YtlphhmgfjdecjaaAgo15
set_option linter.unusedSimpArgs false
set_option linter.unusedVariables false
namespace Go.Ago

section
variable {A : Nat → Prop} {φ : Nat → Option (Nat × Nat)} {H : Heap} {w : World} {P : Program} {n : Nat} {S : State} {a : Act}

theorem opds_rel (hs : Sim A n φ S a w) {xs : List Operand} {ys : List Opd} (h : lowOpds xs = some ys) : RelL φ (Mb A φ S.heap) w (ys.map (·.ev S.env)) (xs.map a.eval) := by
  obtain ⟨h1, h2⟩ := lowOpds_get xs ys h
  refine ⟨by simp [h1], fun i x v hx hv => ?_⟩
  simp only [List.getElem?_map, Option.map_eq_some_iff] at hx hv
  obtain ⟨y, hy, rfl⟩ := hx
  obtain ⟨z, hz, rfl⟩ := hv
  exact lowOpd_rel hs (h2 i z y hz hy)

theorem lowO_OI (hs : Sim A n φ S a w) {x : Option Operand} {y : Option Opd} (h : lowO x = some y) (m d : Int) (hi : intOr S.env y d = some m) : OI (x.map a.eval) d m := by
  cases x with
  | none => simp [lowO] at h; subst h; simp [intOr] at hi; exact .inl ⟨rfl, hi.symm⟩
  | some x =>
    simp only [lowO, Option.map_eq_some_iff] at h
    obtain ⟨z, hz, rfl⟩ := h
    have hr := lowOpd_rel hs hz
    simp only [intOr, intOpd] at hi
    split at hi
    · rename_i k n' he
      simp only [Option.some.injEq] at hi; subst hi
      rw [he] at hr
      exact .inr ⟨k, by simp [hr.int_inv]⟩
    · cases hi

theorem lowO_some {x : Option Operand} {y : Option Opd} (h : lowO x = some y) : (x.map a.eval).isSome = y.isSome := by
  cases x with
  | none => simp [lowO] at h; subst h; rfl
  | some x =>
    simp only [lowO, Option.map_eq_some_iff] at h
    obtain ⟨z, hz, rfl⟩ := h
    rfl

theorem val_iff {δ : Delta} {x : AV} : val (· = δ) x ↔ δ = ⟨x, [], []⟩ := by unfold val; exact eq_comm

theorem find_bits {fn : Func} (h : fn.name = "math.Float64bits") : Extern.find fn = some Extern.MathFloatBits.float64bits := by
  have h1 : Extern.allGenericRows.lookup "math.Float64bits" = none := by kernel_rfl
  have h2 : Extern.allTypedRows.lookup "math.Float64bits" = none := by kernel_rfl
  have h3 : Extern.allRows.lookup "math.Float64bits" = some Extern.MathFloatBits.float64bits := by kernel_rfl
  simp only [Extern.find, h, h1, h2, h3]; rfl
theorem find_ofBits {fn : Func} (h : fn.name = "math.Float64frombits") : Extern.find fn = some Extern.MathFloatBits.float64frombits := by
  have h1 : Extern.allGenericRows.lookup "math.Float64frombits" = none := by kernel_rfl
  have h2 : Extern.allTypedRows.lookup "math.Float64frombits" = none := by kernel_rfl
  have h3 : Extern.allRows.lookup "math.Float64frombits" = some Extern.MathFloatBits.float64frombits := by kernel_rfl
  simp only [Extern.find, h, h1, h2, h3]; rfl

theorem run_extern {o : Oper} {f : Operand} {args : Array Operand} {ts : Array TypeId} (ho : o.op = .call { callee := .value f, args, argTypes := ts }) {g : FuncId} {fn : Func} {e : Array Value → Sem Value}
    (hf : a.eval f = .func (.func g) #[] #[]) (h1 : P.funcs[g]? = some fn) (h2 : (fn.name == "runtime.NumGoroutine") = false) (h3 : fn.body.isNone = true) (h4 : Extern.findNext fn = none) (h5 : Extern.find fn = some e)
    {v : Value} (hr : (e (args.map a.eval)).run P w = .ok v w) : (execOp a.eval o).run P w = .ok (.value v) w := by
  have := run_callFunc_extern h1 h2 h3 h4 h5 (args.map a.eval) w
  simp only [execOp, ho, resolve, hf, Deferred.ofValue, invoke, Sem.run_bind, Sem.run_pure, Result.andThen_ok, Array.append_empty, Array.empty_append]
  rw [this, hr]; rfl

theorem Rel.flt_inv {k : FloatKind} {b : Nat} {v : Value} {M : Nat → Prop} (h : Rel φ M w (.d (.flt k b)) v) : v = .float k b := by
  cases h with
  | d x v h => cases h; rfl

theorem fltV_bits {x y : AV} {z : DV} (h : fltV .bits x y = some z) : ∃ b, x = .d (.flt .f64 b) ∧ z = .int .u64 b := by
  cases x with
  | d dx =>
    cases dx with
    | flt k b =>
      cases k with
      | f64 => simp [fltV] at h; exact ⟨b, rfl, h.symm⟩
      | f32 => simp [fltV] at h
    | _ => simp [fltV] at h
  | _ => simp [fltV] at h
theorem fltV_ofBits {x y : AV} {z : DV} (h : fltV .ofBits x y = some z) : ∃ n, x = .d (.int .u64 n) ∧ z = .flt .f64 n.toNat := by
  cases x with
  | d dx =>
    cases dx with
    | int k b =>
      cases k with
      | u64 => simp [fltV] at h; exact ⟨b, rfl, h.symm⟩
      | _ => simp [fltV] at h
    | _ => simp [fltV] at h
  | _ => simp [fltV] at h
theorem fltV_ofInt {k : FloatKind} {x y : AV} {z : DV} (h : fltV (.ofInt k) x y = some z) : ∃ ki n, x = .d (.int ki n) ∧ z = .flt k (k.nearest n) := by
  cases x with
  | d dx =>
    cases dx with
    | int ki b => simp [fltV] at h; exact ⟨ki, b, rfl, h.symm⟩
    | _ => simp [fltV] at h
  | _ => simp [fltV] at h

theorem extern_sound (hs : Sim A n φ S a w) {o : Oper} (hd : ∀ t, o.dst = some t → t < n) {f : Operand} {args : Array Operand} {ts : Array TypeId} (hop : o.op = .call { callee := .value f, args, argTypes := ts })
    {f' x : Opd} (hf : lowOpd f = some f') (hxs : lowOpds args.toList = some [x]) {g : FOp} (hg : externF P f' = some g) {z : DV} (hz : fltV g (x.ev S.env) (x.ev S.env) = some z) {nw : Bool} {i : Nat} : Fine P n A φ S a w o nw i ⟨.d z, [], []⟩ := by
  have hr := opds_rel hs hxs
  have hlen := (lowOpds_get _ _ hxs).1
  obtain ⟨p, hp⟩ : ∃ p, args.toList = [p] := by
    cases h0 : args.toList with
    | nil => rw [h0] at hlen; simp at hlen
    | cons p r =>
      cases r with
      | nil => exact ⟨p, rfl⟩
      | cons => rw [h0] at hlen; simp at hlen
  have hx : Rel φ (Mb A φ S.heap) w (x.ev S.env) (a.eval p) := by
    rw [hp] at hr; exact hr.get 0 _ _ rfl rfl
  have hm : args.map a.eval = #[a.eval p] := by apply Array.ext'; simp [hp]
  unfold externF at hg
  split at hg
  · rename_i gid
    split at hg
    · rename_i fn hfn
      split at hg
      · rename_i hb
        split at hg
        · rename_i hn
          have hn' : Extern.findNext fn = none := by simpa using hn
          obtain ⟨vs, hv, hrv⟩ := fnOf_rel (lowOpd_rel hs hf) (g := gid) (caps := []) rfl
          have hvs : vs = #[] := by
            have := hrv.len
            simp at this
            exact this
          subst hvs
          split at hg
          · rename_i hname
            simp only [Option.some.injEq] at hg; subst hg
            obtain ⟨b, he2, rfl⟩ := fltV_bits hz
            rw [he2] at hx
            have ev := hx.flt_inv
            exact fine_val hs hd (v := .int .u64 b) (run_extern hop hv hfn (by rw [hname]; rfl) hb hn' (find_bits hname) (by rw [hm, ev]; rfl)) (.d _ _ (.int _ _))
          · split at hg
            · rename_i hname
              simp only [Option.some.injEq] at hg; subst hg
              obtain ⟨b, he2, rfl⟩ := fltV_ofBits hz
              rw [he2] at hx
              have ev := hx.int_inv
              exact fine_val hs hd (v := .float .f64 b.toNat) (run_extern hop hv hfn (by rw [hname]; rfl) hb hn' (find_ofBits hname) (by rw [hm, ev]; rfl)) (.d _ _ (.flt _ _))
            · cases hg
        · cases hg
      · cases hg
    · cases hg
  · cases hg

/-- Each operation is carried out: 'c' the id that it may use. -/
theorem op_sound {c base : Nat} {o : Oper} {lo : LOp} (hlow : low P c o.type o.op = some lo) (hd : ∀ t, o.dst = some t → t < n) (hs : Sim A n φ S a w) (hnw : lo.isNew = true → base + c < S.heap.length)
    (hφ : lo.isNew = true → φ (base + c) = none) {δ : Delta} (hact : actK P base S.env S.heap lo (· = δ)) : Fine P n A φ S a w o lo.isNew (base + c) δ := by
  cases hop : o.op with
  | move x =>
    simp only [hop, low, Option.map_eq_some_iff] at hlow
    obtain ⟨y, hy, rfl⟩ := hlow
    rw [actK, val_iff] at hact; subst hact
    exact fine_val hs hd (v := a.eval x) (by simp [execOp, hop]) (lowOpd_rel hs hy)
  | assign x =>
    simp only [hop, low, Option.map_eq_some_iff] at hlow
    obtain ⟨y, hy, rfl⟩ := hlow
    rw [actK, val_iff] at hact; subst hact
    exact fine_val hs hd (v := a.eval x) (by simp [execOp, hop]) (lowOpd_rel hs hy)
  | pick x y z =>
    simp only [hop, low, Option.bind_eq_some_iff, Option.map_eq_some_iff] at hlow
    obtain ⟨x', hx, y', hy, z', hz, rfl⟩ := hlow
    obtain ⟨t, ht, hact⟩ := hact
    rw [val_iff] at hact; subst hact
    have hx' := lowOpd_rel hs hx
    rw [ht] at hx'
    have hb := Rel.bool_inv hx'
    refine fine_val hs hd (v := if t then a.eval y else a.eval z) (by simp [execOp, hop, hb, asBool]) ?_
    rw [pickV_eq]
    cases t
    · exact lowOpd_rel hs hz
    · exact lowOpd_rel hs hy
  | alloc t =>
    simp only [hop, low, Option.bind_eq_some_iff, Option.map_eq_some_iff] at hlow
    obtain ⟨sz, hsz, z, hz, rfl⟩ := hlow
    simp only [actK] at hact; subst hact
    obtain ⟨i, zv, z1, z2, z3, z4, z5, z6⟩ := zeroA_spec hz
    rw [hsz] at z5
    have hzl : sz = z.length := by simpa using z5
    have hr := z4 φ (Mb A φ S.heap) w
    obtain ⟨h1, h2⟩ := hs.heap.new (hnw rfl) (hφ rfl) (o := .vec sz [z]) (sz := sz) rfl (c := zv.cells) (T := t) (by have := hr.len; simp at this; simp; omega) (fun r hr' => by simp at hr'; subst hr'; exact hzl.symm)
      (fun k r j x hk hx => by
        cases k with
        | zero =>
          simp at hk; subst hk
          obtain ⟨v, hv, hrel⟩ := hr.at hx
          exact ⟨v, by rw [Nat.zero_mul, Nat.zero_add, ← Array.getElem?_toList]; exact hv, hrel⟩
        | succ k => simp at hk)
    refine fine_new hs hd (ups := [(base + c, .vec sz [z])]) (v := .pointer (some ⟨w.heap.size, 0, none⟩)) (by
      simp only [execOp, hop]
      exact run_v (by simp [Instr.alloc, run_zeroValue z1 z2, newVar, newRow])) h1 h2 ?_ (fun j hj => by simp [hj rfl])
    have := Rel.ptr (φ := fun j => if j = base + c then some (w.heap.size, 0) else φ j) (M := Mb A (fun j => if j = base + c then some (w.heap.size, 0) else φ j) (S.heap.set (base + c) (.vec sz [z]))) (w := w.alloc (.cells zv.cells t)) (base + c) sz 0 0 w.heap.size 0 (by simp)
    simpa using this
  | box t x =>
    simp only [hop, low, Option.map_eq_some_iff] at hlow
    obtain ⟨y, hy, rfl⟩ := hlow
    obtain ⟨cs, hcs, hact⟩ := hact
    subst hact
    obtain ⟨hr, hone, hleaf⟩ := cellsOf_rel (lowOpd_rel hs hy) hcs
    obtain ⟨h1, h2⟩ := hs.heap.new (hnw rfl) (hφ rfl) (o := .vec cs.length [cs]) (sz := cs.length) rfl (c := (a.eval x).cells) (T := t) (by have := hr.len; simp at this; simp; omega) (fun r hr' => by simp at hr'; subst hr'; rfl)
      (fun k r j x hk hx => by
        cases k with
        | zero =>
          simp at hk; subst hk
          obtain ⟨v, hv, hrel⟩ := hr.at hx
          exact ⟨v, by rw [Nat.zero_mul, Nat.zero_add, ← Array.getElem?_toList]; exact hv, hrel⟩
        | succ k => simp at hk)
    refine fine_new hs hd (ups := [(base + c, .vec cs.length [cs])]) (v := .pointer (some ⟨w.heap.size, 0, none⟩)) (by
      simp only [execOp, hop]
      exact run_v (by simp [Instr.box, newVar, newRow])) h1 h2 ?_ (fun j hj => by simp [hj rfl])
    have := Rel.ptr (φ := fun j => if j = base + c then some (w.heap.size, 0) else φ j) (M := Mb A (fun j => if j = base + c then some (w.heap.size, 0) else φ j) (S.heap.set (base + c) (.vec cs.length [cs]))) (w := w.alloc (.cells (a.eval x).cells t)) (base + c) cs.length 0 0 w.heap.size 0 (by simp)
    simpa using this
  | load t x =>
    simp only [hop, low, Option.bind_eq_some_iff, Option.map_eq_some_iff] at hlow
    obtain ⟨g, hg, sz, hsz, y, hy, rfl⟩ := hlow
    simp only [actK] at hact
    obtain ⟨v, z, ids, hrun, hrel, hk⟩ := run_load_op hs.heap hg hsz (lowOpd_rel hs hy) hact
    subst hk
    exact fine_val hs hd (by simp only [execOp, hop]; exact run_v hrun) hrel
  | store t x y =>
    simp only [hop, low, Option.bind_eq_some_iff, Option.map_eq_some_iff] at hlow
    obtain ⟨sz, hsz, x', hx, y', hy, rfl⟩ := hlow
    simp only [actK] at hact
    obtain ⟨w', id, ob, hrun, h1, h2, hk⟩ := run_store_op hs.heap hsz (lowOpd_rel hs hx) (lowOpd_rel hs hy) hact
    subst hk
    intro next Q hn
    refine wp_skipped (w' := w') (by simp only [execOp, hop]; exact run_u hrun) (hn φ undef w' (sim_put hs h1 h2 hd ?_) h2 (fun _ _ => rfl))
    exact .tup [] #[] rfl (fun i x v h => by simp at h)
  | nilCheck x =>
    simp only [hop, low, Option.map_eq_some_iff] at hlow
    obtain ⟨y, hy, rfl⟩ := hlow
    obtain ⟨hc, hact⟩ := hact
    rw [val_iff] at hact; subst hact
    have hr := lowOpd_rel hs hy
    refine fine_val hs hd (v := a.eval x) ?_ hr
    simp only [execOp, hop]
    generalize a.eval x = u at hr ⊢
    generalize y.ev S.env = z at hc hr
    cases hr with
    | ptr => rfl
    | dptr => rfl
    | clo => rfl
    | d _ _ h => cases h <;> first | rfl | exact hc.elim
    | _ => exact hc.elim
  | binOp op t x y yt =>
    simp only [hop, low, Option.bind_eq_some_iff] at hlow
    obtain ⟨x', hx, y', hy, hlow⟩ := hlow
    have hrx := lowOpd_rel hs hx
    have hry := lowOpd_rel hs hy
    have bin : ∀ op', op = op' → lo = .bin op' x' y' → Fine P n A φ S a w o lo.isNew (base + c) δ := by
      intro op' e1 e2
      subst e1; subst e2
      simp only [actK] at hact
      obtain ⟨v, z, hrun, hrel, hk⟩ := run_bin (P := P) (op := op) (t := t) (xo := x) (yo := y) hrx hry hact
      rw [val_iff] at hk; subst hk
      exact fine_val hs hd (by simp only [execOp, hop]; exact run_v hrun) (.d _ _ hrel)
    have eqq : ∀ neg pl, op = (if neg then BinOp.neq else .eql) → eqPlan P t = some pl → lo = .eq neg pl x' y' → Fine P n A φ S a w o lo.isNew (base + c) δ := by
      intro neg pl e1 e2 e3
      subst e3
      obtain ⟨b, hb, hk⟩ := hact
      rw [val_iff] at hk; subst hk
      have hrun := run_eq_op (P := P) (w := w) e1 e2 (xo := x) (yo := y) hrx hry hb
      exact fine_val hs hd (by simp only [execOp, hop]; exact run_v hrun) (.d _ _ (.bool _))
    have flt : ∀ op', op = op' → lo = .fl (.bin op') x' y' → Fine P n A φ S a w o lo.isNew (base + c) δ := by
      intro op' e1 e2
      subst e1; subst e2
      simp only [actK] at hact
      obtain ⟨z, h1, hk⟩ := hact
      rw [val_iff] at hk; subst hk
      obtain ⟨v, w', hrun, hw, hrel⟩ := run_fltBin (P := P) (t := t) (xo := x) (yo := y) hrx hry h1
      rcases hw with rfl | rfl
      · exact fine_val hs hd (by simp only [execOp, hop]; exact run_v hrun) (.d _ _ hrel)
      · intro next Q hn
        have hdr := hs.heap.draw
        exact wp_value (by simp only [execOp, hop]; exact run_v hrun) (hn φ v w.drew (sim_put hs hdr.1 hdr.2 hd (.d _ _ hrel)) hdr.2 (fun _ _ => rfl))
    cases op <;> simp only at hlow
    case eql =>
      split at hlow
      · exact bin .eql rfl (by simpa using hlow.symm)
      · exact flt .eql rfl (by simpa using hlow.symm)
      · obtain ⟨pl, h1, h2⟩ := Option.map_eq_some_iff.1 hlow
        exact eqq false pl rfl h1 h2.symm
    case neq =>
      split at hlow
      · exact bin .neq rfl (by simpa using hlow.symm)
      · exact flt .neq rfl (by simpa using hlow.symm)
      · obtain ⟨pl, h1, h2⟩ := Option.map_eq_some_iff.1 hlow
        exact eqq true pl rfl h1 h2.symm
    all_goals
      split at hlow
      · exact flt _ rfl (by simpa using hlow.symm)
      · exact bin _ rfl (by simpa using hlow.symm)
  | unOp op t x =>
    simp only [hop, low, Option.map_eq_some_iff] at hlow
    obtain ⟨y, hy, rfl⟩ := hlow
    simp only [actK] at hact
    obtain ⟨v, z, hrun, hrel, hk⟩ := run_un (P := P) (lowOpd_rel hs hy) hact
    rw [val_iff] at hk; subst hk
    exact fine_val hs hd (by simp only [execOp, hop]; exact run_v hrun) (.d _ _ hrel)
  | convert s d x =>
    simp only [hop, low] at hlow
    split at hlow
    · rename_i ds k h1 h2
      simp only [Option.map_eq_some_iff] at hlow
      obtain ⟨y, hy, rfl⟩ := hlow
      obtain ⟨m, hm, hact⟩ := hact
      rw [val_iff] at hact; subst hact
      have hr := lowOpd_rel hs hy
      unfold intOpd at hm
      split at hm
      · rename_i k0 m0 he
        simp only [Option.some.injEq] at hm; subst hm
        rw [he] at hr
        have e := hr.int_inv
        refine fine_val hs hd (v := .int k (k.wrap m0)) ?_ (.d _ _ (.int _ _))
        simp only [execOp, hop, e]
        exact run_v (by simp [convert, run_underlying h1, run_underlying h2, Conv.intToInt])
      · cases hm
    · rename_i ks k h1 h2
      simp only [Option.map_eq_some_iff] at hlow
      obtain ⟨y, hy, rfl⟩ := hlow
      obtain ⟨z, hz, hact⟩ := hact
      rw [val_iff] at hact; subst hact
      have hr := lowOpd_rel hs hy
      obtain ⟨k0, m0, he, rfl⟩ := fltV_ofInt hz
      rw [he] at hr
      have e := hr.int_inv
      refine fine_val hs hd (v := .float k (k.nearest m0)) ?_ (.d _ _ (.flt _ _))
      simp only [execOp, hop, e]
      exact run_v (by simp [convert, run_underlying h1, run_underlying h2, Conv.intToFloat])
    · cases hlow
  | fieldAddr s x f =>
    simp only [hop, low] at hlow
    split at hlow
    · rename_i fs h1
      simp only [Option.bind_eq_some_iff] at hlow
      obtain ⟨fd, h2, sz, h3, hlow⟩ := hlow
      split at hlow
      · cases hlow
      · rename_i hz
        simp only [Option.map_eq_some_iff] at hlow
        obtain ⟨y, hy, rfl⟩ := hlow
        have hr := lowOpd_rel hs hy
        simp only [actK] at hact
        split at hact
        · rename_i id sz0 row j he
          rw [val_iff] at hact; subst hact
          rw [he] at hr
          generalize hv : a.eval x = vx at hr
          cases hr with
          | ptr _ _ _ _ b o' hb =>
            refine fine_val hs hd (v := .pointer (some ⟨b, o' + row * sz0 + j + fd.offset, none⟩)) ?_ ?_
            · simp only [execOp, hop, hv]
              exact run_v (run_fieldAddr h1 h2 h3 hz b _)
            · have := Rel.ptr (φ := φ) (M := Mb A φ S.heap) (w := w) id sz0 row (j + fd.offset) b o' hb
              rwa [← Nat.add_assoc] at this
        · rename_i cs j he
          rw [val_iff] at hact; subst hact
          rw [he] at hr
          generalize hv : a.eval x = vx at hr
          cases hr with
          | dptr _ _ b off f' hlt hM hc hr =>
            refine fine_val hs hd (v := .pointer (some ⟨b, off + j + fd.offset, none⟩)) ?_ ?_
            · simp only [execOp, hop, hv]
              exact run_v (run_fieldAddr h1 h2 h3 hz b _)
            · have := Rel.dptr (φ := φ) (M := Mb A φ S.heap) (w := w) cs (j + fd.offset) b off f' hlt hM hc hr
              rwa [← Nat.add_assoc] at this
        · exact hact.elim
    · cases hlow
  | field s x f =>
    simp only [hop, low] at hlow
    split at hlow
    · rename_i fs h1
      simp only [Option.bind_eq_some_iff, Option.map_eq_some_iff] at hlow
      obtain ⟨fd, h2, g, h4, sz, h3, y, hy, rfl⟩ := hlow
      have hr := lowOpd_rel hs hy
      simp only [actK] at hact
      split at hact
      · rename_i cs he
        obtain ⟨z, hz, hact⟩ := hact
        rw [val_iff] at hact; subst hact
        rw [he] at hr
        obtain ⟨v, hrun, hrel⟩ := run_field_op (P := P) h1 h2 h3 h4 hr hz
        exact fine_val hs hd (by simp only [execOp, hop]; exact run_v hrun) hrel
      · exact hact.elim
    · cases hlow
  | indexAddr t x i =>
    simp only [hop, low] at hlow
    split at hlow
    · rename_i e h1
      simp only [Option.bind_eq_some_iff, Option.map_eq_some_iff] at hlow
      obtain ⟨sz, h3, x', hx, i', hi, rfl⟩ := hlow
      simp only [actK] at hact
      obtain ⟨v, z, hrun, hrel, hk⟩ := run_idxAddr_op (P := P) h1 h3 (lowOpd_rel hs hx) (lowOpd_rel hs hi) hact
      rw [val_iff] at hk; subst hk
      exact fine_val hs hd (by simp only [execOp, hop]; exact run_v hrun) hrel
    · rename_i len e h1
      simp only [Option.bind_eq_some_iff, Option.map_eq_some_iff] at hlow
      obtain ⟨sz, h3, x', hx, i', hi, rfl⟩ := hlow
      simp only [actK] at hact
      obtain ⟨v, z, hrun, hrel, hk⟩ := run_idxArrAddr_op (P := P) h1 h3 (lowOpd_rel hs hx) (lowOpd_rel hs hi) hact
      rw [val_iff] at hk; subst hk
      exact fine_val hs hd (by simp only [execOp, hop]; exact run_v hrun) hrel
    · cases hlow
  | index t x i =>
    simp only [hop, low] at hlow
    split at hlow
    · rename_i len e h1
      simp only [Option.bind_eq_some_iff, Option.map_eq_some_iff] at hlow
      obtain ⟨g, h4, sz, h3, x', hx, i', hi, rfl⟩ := hlow
      simp only [actK] at hact
      obtain ⟨v, z, hrun, hrel, hk⟩ := run_idxArr_op (P := P) h1 h3 h4 (lowOpd_rel hs hx) (lowOpd_rel hs hi) hact
      rw [val_iff] at hk; subst hk
      exact fine_val hs hd (by simp only [execOp, hop]; exact run_v hrun) hrel
    · cases hlow
  | slice t x lo' hi' mx' =>
    simp only [hop, low] at hlow
    split at hlow
    · rename_i e h1
      simp only [Option.bind_eq_some_iff, Option.map_eq_some_iff] at hlow
      obtain ⟨sz, h3, x', hx, lo, hlo, hi, hhi, mx, hmx, rfl⟩ := hlow
      simp only [actK] at hact
      obtain ⟨v, z, hrun, hrel, hk⟩ := run_slice_op (P := P) h1 h3 (lowOpd_rel hs hx) (fun m d => lowO_OI hs hlo m d) (fun m d => lowO_OI hs hhi m d) (fun m d => lowO_OI hs hmx m d) (lowO_some hmx) (lowO_some hhi) hact
      rw [val_iff] at hk; subst hk
      exact fine_val hs hd (by simp only [execOp, hop]; exact run_v hrun) hrel
    · cases hlow
  | extract x i =>
    simp only [hop, low, Option.map_eq_some_iff] at hlow
    obtain ⟨y, hy, rfl⟩ := hlow
    have hr := lowOpd_rel hs hy
    simp only [actK] at hact
    split at hact
    · rename_i vs he
      obtain ⟨z, hz, hact⟩ := hact
      rw [val_iff] at hact; subst hact
      rw [he] at hr
      obtain ⟨us, hu, hrl⟩ := hr.tup_inv
      obtain ⟨v, hv, hrel⟩ := hrl.at hz
      refine fine_val hs hd (v := v) ?_ hrel
      simp only [execOp, hop, hu]
      have hv' : us[i]? = some v := by rw [← Array.getElem?_toList]; exact hv
      exact run_v (by simp [Instr.extract, hv'])
    · exact hact.elim
  | makeFunc fn first caps =>
    cases fn with
    | func f =>
      simp only [hop, low] at hlow
      split at hlow
      · rename_i he
        simp only [Option.map_eq_some_iff] at hlow
        obtain ⟨cs, hcs, rfl⟩ := hlow
        simp only [actK] at hact
        rw [val_iff] at hact; subst hact
        have hr := opds_rel hs hcs
        have hfirst : first = #[] := by simpa [Array.isEmpty] using he
        refine fine_val hs hd (v := .func (.func f) #[] (caps.map a.eval)) (by simp only [execOp, hop, hfirst]; exact run_v (by simp [Instr.makeFunc])) ?_
        cases cs with
        | nil =>
          have : caps.map a.eval = #[] := by
            have := hr.len
            simp at this
            simp [this]
          rw [this]
          exact .d _ _ (.fn f)
        | cons y ys =>
          have : RelL φ (Mb A φ S.heap) w ((y :: ys).map (·.ev S.env)) (caps.map a.eval).toList := by simpa using hr
          exact .clo f _ _ (by simpa using this.len) (fun i x v h1 h2 => this.get i x v h1 (by rw [Array.getElem?_toList]; exact h2))
      · cases hlow
    | _ => simp [hop, low] at hlow
  | build t parts =>
    have parts_eq : (parts.map fun (x : Nat × Operand) => (x.1, a.eval x.2)) = (parts.toList.map fun x => (x.1, a.eval x.2)).toArray := by
      apply Array.ext'; simp
    simp only [hop, low] at hlow
    split at hlow
    · rename_i fs h1
      simp only [Option.bind_eq_some_iff, Option.map_eq_some_iff] at hlow
      obtain ⟨z, hz, _, hall, ps, hps, rfl⟩ := hlow
      have hall' : fs.all (fun f => (lowSz P f.type).isSome) = true := by
        split at hall
        · assumption
        · cases hall
      obtain ⟨cs, hb, hact⟩ := hact
      rw [val_iff] at hact; subst hact
      obtain ⟨g1, g2⟩ := lowParts_get _ _ hps
      obtain ⟨v, hrun, hrel⟩ := run_build_struct (φ := φ) (M := Mb A φ S.heap) (w := w) h1 hz hall' (parts := parts.toList.map fun x => (x.1, a.eval x.2)) (ps := ps.map fun p => (p.1, p.2.1, p.2.2.ev S.env)) (by simp [g1]) (fun j p q h1 h2 => by
        simp only [List.getElem?_map, Option.map_eq_some_iff] at h1 h2
        obtain ⟨p', hp', rfl⟩ := h1
        obtain ⟨q', hq', rfl⟩ := h2
        obtain ⟨f, e1, e2, e3, e4⟩ := g2 j p' q' hp' hq'
        exact ⟨⟨f, e1, e2, e3⟩, lowOpd_rel hs e4⟩) hb
      refine fine_val hs hd (v := v) ?_ hrel
      simp only [execOp, hop]
      exact run_v (by rw [parts_eq]; exact hrun)
    · rename_i len e h1
      simp only [Option.bind_eq_some_iff, Option.map_eq_some_iff] at hlow
      obtain ⟨z, hz, sz, hsz, ps, hps, rfl⟩ := hlow
      obtain ⟨cs, hb, hact⟩ := hact
      rw [val_iff] at hact; subst hact
      obtain ⟨g1, g2⟩ := lowPartsA_get _ _ hps
      obtain ⟨v, hrun, hrel⟩ := run_build_array (φ := φ) (M := Mb A φ S.heap) (w := w) h1 hz hsz (parts := parts.toList.map fun x => (x.1, a.eval x.2)) (ps := ps.map fun p => (p.1, p.2.1, p.2.2.ev S.env)) (by simp [g1]) (fun j p q h1 h2 => by
        simp only [List.getElem?_map, Option.map_eq_some_iff] at h1 h2
        obtain ⟨p', hp', rfl⟩ := h1
        obtain ⟨q', hq', rfl⟩ := h2
        obtain ⟨e1, e2, e4⟩ := g2 j p' q' hp' hq'
        exact ⟨⟨e1, e2⟩, lowOpd_rel hs e4⟩) hb
      refine fine_val hs hd (v := v) ?_ hrel
      simp only [execOp, hop]
      exact run_v (by rw [parts_eq]; exact hrun)
    · cases hlow
  | buildSlice t len parts =>
    have parts_eq : (parts.map fun (x : Nat × Operand) => (x.1, a.eval x.2)) = (parts.toList.map fun x => (x.1, a.eval x.2)).toArray := by
      apply Array.ext'; simp
    simp only [hop, low] at hlow
    split at hlow
    · rename_i e h1
      split at hlow
      · rename_i hlen0
        simp only [Option.map_eq_some_iff] at hlow
        obtain ⟨sz, hsz, rfl⟩ := hlow
        rw [actK, val_iff] at hact; subst hact
        obtain ⟨hl0, hp0⟩ := hlen0
        subst hl0
        obtain rfl : parts = #[] := Array.eq_empty_of_size_eq_zero hp0
        have hrun : (Instr.buildSlice t 0 #[]).run P w = .ok (.slice (some ⟨w.heap.size, 0, none⟩) 0 0) (w.alloc (.cells #[] e)) := by
          simp [Instr.buildSlice, run_underlying h1, run_sizeOf hsz, newRow, Instr.fill]
          congr 2; apply Array.eq_empty_of_size_eq_zero; simp
        obtain ⟨h1', h2'⟩ := hs.heap.keep (Pres.alloc _ w #[] e)
        exact fine_new hs hd (ups := []) (by simp only [execOp, hop]; exact run_v (by simpa using hrun)) h1' h2' (.d _ _ (.nil true _ 0 (fun _ => rfl))) (fun j _ => rfl)
      simp only [Option.bind_eq_some_iff] at hlow
      obtain ⟨sz, hsz, z, hz, hlow⟩ := hlow
      split at hlow
      · rename_i hpos
        simp only [Option.map_eq_some_iff] at hlow
        obtain ⟨ps, hps, rfl⟩ := hlow
        obtain ⟨rows, hb, hact⟩ := hact
        subst hact
        obtain ⟨g1, g2⟩ := lowPartsS_get _ _ hps
        obtain ⟨w', v, hrun, h1', h2', hrel⟩ := run_bslice_op hs.heap (hnw rfl) (hφ rfl) h1 hsz hz hpos (parts := parts.toList.map fun x => (x.1, a.eval x.2)) (ps := ps.map fun p => (p.1, p.2.ev S.env)) (by simp [g1]) (fun j p q h1 h2 => by
          simp only [List.getElem?_map, Option.map_eq_some_iff] at h1 h2
          obtain ⟨p', hp', rfl⟩ := h1
          obtain ⟨q', hq', rfl⟩ := h2
          obtain ⟨e1, e4⟩ := g2 j p' q' hp' hq'
          exact ⟨e1, lowOpd_rel hs e4⟩) hb
        exact fine_new hs hd (ups := [(base + c, mkVec sz rows)]) (by simp only [execOp, hop]; exact run_v (by rw [parts_eq]; exact hrun)) h1' h2' hrel (fun j hj => by simp [hj rfl])
      · cases hlow
    · cases hlow
  | makeSlice t l m =>
    simp only [hop, low] at hlow
    split at hlow
    · rename_i e h1
      simp only [Option.bind_eq_some_iff, Option.map_eq_some_iff] at hlow
      obtain ⟨i, h3, z, h4, l', hl, m', hm, rfl⟩ := hlow
      simp only [actK] at hact
      obtain ⟨w', v, k, hrun, hk, h1', h2', hrel⟩ := run_mk_op hs.heap (hnw rfl) (hφ rfl) h1 h3 h4 (lowOpd_rel hs hl) (lowOpd_rel hs hm) hact
      subst hk
      exact fine_new hs hd (ups := [(base + c, mkVec i.size (List.replicate k z))]) (by simp only [execOp, hop]; exact run_v hrun) h1' h2' hrel (fun j hj => by simp [hj rfl])
    · cases hlow
  | call cl =>
    obtain ⟨callee, args, ts⟩ := cl
    cases callee with
    | value f =>
      simp only [hop, low, Option.bind_eq_some_iff] at hlow
      obtain ⟨f', hf, xs, hxs, hlow⟩ := hlow
      split at hlow
      case h_2 g0 hg0 =>
        split at hlow
        · rename_i x
          simp only [Option.some.injEq] at hlow; subst hlow
          obtain ⟨z, hz, hact⟩ := hact
          rw [val_iff] at hact; subst hact
          exact extern_sound hs hd hop hf hxs hg0 hz
        · cases hlow
      simp only [Option.some.injEq] at hlow; subst hlow
      obtain ⟨g, caps, hg, hact⟩ := hact
      obtain ⟨vs, hv, hrv⟩ := fnOf_rel (lowOpd_rel hs hf) hg
      have hr : RelL φ (Mb A φ S.heap) w (xs.map (·.ev S.env) ++ caps) (args.map a.eval ++ vs).toList := by
        have := (opds_rel hs hxs).append hrv
        simpa using this
      rcases hact with h | ⟨hi, h⟩
      · exact call_data_sound hs hd hop hv hr h
      · have e : ∀ i (b : Bool) (y : Opd) (ys : List Opd), b = true → (LOp.call i b y ys).isNew = true := fun _ _ _ _ h => h
        rw [e _ _ _ _ hi]
        exact call_imp_sound hs (hnw hi) (hφ hi) hd hop hv hr h
    | invoke r m => simp [hop, low] at hlow
    | builtin b =>
      simp only [hop, low, Option.bind_eq_some_iff] at hlow
      obtain ⟨xs, hxs, hlow⟩ := hlow
      have hr := opds_rel hs hxs
      have hlen := (lowOpds_get _ _ hxs).1
      have two : ∀ x y, xs = [x, y] → ∃ vx vy, args.map a.eval = #[vx, vy] ∧ Rel φ (Mb A φ S.heap) w (x.ev S.env) vx ∧ Rel φ (Mb A φ S.heap) w (y.ev S.env) vy := by
        intro x y e
        subst e
        have hl : args.toList.length = 2 := by simpa using hlen.symm
        obtain ⟨p, q, hpq⟩ : ∃ p q, args.toList = [p, q] := by
          cases h0 : args.toList with
          | nil => rw [h0] at hl; simp at hl
          | cons p r =>
            cases r with
            | nil => rw [h0] at hl; simp at hl
            | cons q r =>
              cases r with
              | nil => exact ⟨p, q, rfl⟩
              | cons => rw [h0] at hl; simp at hl
        rw [hpq] at hr
        refine ⟨a.eval p, a.eval q, ?_, hr.get 0 _ _ rfl rfl, hr.get 1 _ _ rfl rfl⟩
        apply Array.ext'
        simp [hpq]
      have one : ∀ x, xs = [x] → ∃ vx, args.map a.eval = #[vx] ∧ Rel φ (Mb A φ S.heap) w (x.ev S.env) vx := by
        intro x e
        subst e
        have hl : args.toList.length = 1 := by simpa using hlen.symm
        obtain ⟨p, hpq⟩ : ∃ p, args.toList = [p] := by
          cases h0 : args.toList with
          | nil => rw [h0] at hl; simp at hl
          | cons p r =>
            cases r with
            | nil => exact ⟨p, rfl⟩
            | cons q r => rw [h0] at hl; simp at hl
        rw [hpq] at hr
        refine ⟨a.eval p, ?_, hr.get 0 _ _ rfl rfl⟩
        apply Array.ext'
        simp [hpq]
      have runB : ∀ (s : Array TypeId → TypeId → Array Value → Sem Value) (v : Value) (w' : World), (s ts o.type (args.map a.eval)).run P w = .ok v w' →
          (∀ cs, builtin b ts o.type cs (args.map a.eval) = (do pure (Next.value (← s ts o.type (args.map a.eval))))) → (execOp a.eval o).run P w = .ok (.value v) w' := by
        intro s v w' h1 h2
        simp only [execOp, hop, resolve, invoke, pure_bind, h2]
        exact run_v h1
      split at hlow
      · rename_i x y
        obtain ⟨vx, vy, hargs, hx, hy⟩ := two x y rfl
        split at hlow
        · rename_i e e2 h1 h2
          simp only [Option.bind_eq_some_iff, Option.map_eq_some_iff] at hlow h1 h2
          obtain ⟨i, h3, z, h4, rfl⟩ := hlow
          obtain ⟨t1, a1, h1⟩ := h1
          obtain ⟨t2, a2, h2⟩ := h2
          simp only [actK] at hact
          obtain ⟨w', v, zv, φ', ups, ids, hrun, g1, g2, g3, g4, g5⟩ := run_append_op (T := o.type) hs.heap (hnw rfl) (hφ rfl) h1 h2 h3 h4 a1 a2 hx hy hact
          subst g4
          exact fine_new hs hd (runB Builtin.append_ v w' (by rw [hargs]; exact hrun) (fun cs => rfl)) g1 g2 g3 (fun j hj => g5 j (hj rfl))
        · cases hlow
      · rename_i x y
        obtain ⟨vx, vy, hargs, hx, hy⟩ := two x y rfl
        split at hlow
        · rename_i e h1
          simp only [Option.bind_eq_some_iff, Option.map_eq_some_iff] at hlow h1
          obtain ⟨sz, hsz, rfl⟩ := hlow
          obtain ⟨t1, a1, h1⟩ := h1
          simp only [actK] at hact
          obtain ⟨w', v, z, id, ob, ids, hrun, g1, g2, g3, g4⟩ := run_copy_op (T := o.type) hs.heap h1 hsz a1 hx hy hact
          subst g4
          exact fine_new hs hd (ups := [(id, ob)]) (runB Builtin.copy_ v w' (by rw [hargs]; exact hrun) (fun cs => rfl)) g1 g2 (.d _ _ g3) (fun _ _ => rfl)
        · cases hlow
      · rename_i x
        obtain ⟨vx, hargs, hx⟩ := one x rfl
        split at hlow
        · rename_i e h1
          simp only [Option.bind_eq_some_iff] at h1
          obtain ⟨t1, a1, h1⟩ := h1
          simp only [Option.some.injEq] at hlow; subst hlow
          simp only [actK] at hact
          obtain ⟨v, z, hrun, hrel, hk⟩ := run_len_op (P := P) (T := o.type) h1 a1 hx hact
          rw [val_iff] at hk; subst hk
          exact fine_val hs hd (runB Builtin.len_ v w (by rw [hargs]; exact hrun) (fun cs => rfl)) (.d _ _ hrel)
        · cases hlow
      · rename_i x y
        obtain ⟨vx, vy, hargs, hx, hy⟩ := two x y rfl
        simp only [Option.some.injEq] at hlow; subst hlow
        simp only [actK] at hact
        obtain ⟨v, z, hrun, hrel, hk⟩ := run_max_op (P := P) (T := o.type) (argTypes := ts) (k := fun v => val (· = δ) (.d v)) hx hy hact
        rw [val_iff] at hk; subst hk
        exact fine_val hs hd (runB Builtin.max_ v w (by rw [hargs]; exact hrun) (fun cs => rfl)) (.d _ _ hrel)
      · rename_i x y
        obtain ⟨vx, vy, hargs, hx, hy⟩ := two x y rfl
        simp only [Option.some.injEq] at hlow; subst hlow
        simp only [actK] at hact
        obtain ⟨v, z, hrun, hrel, hk⟩ := run_min_op (P := P) (T := o.type) (argTypes := ts) (k := fun v => val (· = δ) (.d v)) hx hy hact
        rw [val_iff] at hk; subst hk
        exact fine_val hs hd (runB Builtin.min_ v w (by rw [hargs]; exact hrun) (fun cs => rfl)) (.d _ _ hrel)
      · cases hlow
  | _ => simp [hop, low] at hlow

end
end Go.Ago
