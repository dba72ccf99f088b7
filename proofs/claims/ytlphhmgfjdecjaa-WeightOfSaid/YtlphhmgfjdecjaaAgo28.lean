/- Contracts as data, and tables of them. Conditions: none. -/
import Derived.Test.YtlphhmgfjdecjaaAgo27
set_option linter.unusedSimpArgs false
set_option linter.unusedVariables false
namespace Go.Ago

/-- What is known of a function: for each 'x' its arguments and its answer. -/
structure Sp where
  A : Type
  enc : A → List AV
  out : A → SpecR

open Classical in
noncomputable def Sp.at (s : Sp) (args : List AV) : SpecR := if h : ∃ x, s.enc x = args then s.out h.choose else .none

theorem Sp.at_enc {s : Sp} (hi : ∀ x y, s.enc x = s.enc y → x = y) (x : s.A) : s.at (s.enc x) = s.out x := by
  have h : ∃ y, s.enc y = s.enc x := ⟨x, rfl⟩
  unfold Sp.at
  rw [dif_pos h, hi _ _ h.choose_spec]

def SpecR.met (P : Program) (g : FuncId) (args : List AV) : SpecR → Prop
  | .data ok val fresh => ok → Plain val ∧ ACalls P g args [] fun r H' => Frz H' r val ∧ (fresh = true → Fresh H' r)
  | .rows ok sz l => ok → (∀ r ∈ l, r.length = sz) ∧ ACalls P g args [] fun r H' => IsRows H' r sz l
  | .none => True

def Sp.Ok (P : Program) (g : FuncId) (s : Sp) : Prop := ∀ x, (s.out x).met P g (s.enc x)

noncomputable def Tab.add (T : Tab) (g : FuncId) (s : Sp) : Tab := ⟨fun g' => if g' = g then s.at else T.F g', T.G⟩
noncomputable def Tab.addG (T : Tab) (g : FuncId) (e : List AV → Heap → Option Eff) : Tab := ⟨T.F, fun g' => if g' = g then e else T.G g'⟩
def Tab.none : Tab := ⟨fun _ _ => .none, fun _ _ _ => .none⟩

theorem TabOK.none {P : Program} : TabOK P Tab.none where
  F := ⟨fun g args ok val fresh h => by simp [Tab.none] at h, fun g args ok sz rows h => by simp [Tab.none] at h⟩
  G := fun g args H e h => by simp [Tab.none] at h

theorem TabOK.add {P : Program} {T : Tab} (hT : TabOK P T) {g : FuncId} {s : Sp} (hs : s.Ok P g) : TabOK P (T.add g s) where
  F := ⟨fun g' args ok val fresh h hok => by
      simp only [Tab.add] at h
      split at h
      · rename_i e; subst e
        unfold Sp.at at h
        split at h
        · rename_i hx
          have := hs hx.choose
          rw [h, hx.choose_spec] at this
          exact this hok
        · cases h
      · exact hT.F.data _ _ _ _ _ h hok,
    fun g' args ok sz rows h hok => by
      simp only [Tab.add] at h
      split at h
      · rename_i e; subst e
        unfold Sp.at at h
        split at h
        · rename_i hx
          have := hs hx.choose
          rw [h, hx.choose_spec] at this
          exact this hok
        · cases h
      · exact hT.F.rows _ _ _ _ _ h hok⟩
  G := hT.G

theorem TabOK.addG {P : Program} {T : Tab} (hT : TabOK P T) {g : FuncId} {E : List AV → Heap → Option Eff}
    (hs : ∀ args H e, E args H = some e → e.ok → ACalls P g args H fun r H' => r = e.val ∧ H' = applyUps H e.ups) : TabOK P (T.addG g E) where
  F := hT.F
  G := fun g' args H e h hok => by
    simp only [Tab.addG] at h
    split at h
    · rename_i e; subst e; exact hs _ _ _ h hok
    · exact hT.G _ _ _ _ h hok

/-- The table knows this contract at this number. -/
structure Knows (T : Tab) (g : FuncId) (s : Sp) : Prop where
  F : T.F g = s.at
  G : ∀ args H, T.G g args H = .none

structure KnowsG (T : Tab) (g : FuncId) (e : List AV → Heap → Option Eff) : Prop where
  G : T.G g = e

theorem Knows.hit {T : Tab} {g : FuncId} {s : Sp} (h : ∀ args H, T.G g args H = .none) : Knows (T.add g s) g s := ⟨by simp [Tab.add], h⟩
theorem Knows.next {T : Tab} {g g' : FuncId} {s s' : Sp} (hn : (g == g') = false) (h : Knows T g s) : Knows (T.add g' s') g s :=
  ⟨by have : ¬ g = g' := by simpa using hn
      simp [Tab.add, this, h.F], h.G⟩
theorem Knows.nextG {T : Tab} {g g' : FuncId} {s : Sp} {e : List AV → Heap → Option Eff} (hn : (g == g') = false) (h : Knows T g s) : Knows (T.addG g' e) g s :=
  ⟨h.F, fun args H => by
    have : ¬ g = g' := by simpa using hn
    simp [Tab.addG, this, h.G]⟩

/-! ### Results as data -/
/-- A list of which nothing is known behind its end. -/
def DV.less : DV → DV
  | .list rows _ => .list rows false
  | x => x

mutual
/-- A value as data, where it can be looked at. -/
def AV.frz (H : Heap) : AV → Option AV
  | .undef => some .undef
  | .d x => some (.d x.less)
  | .ref id sz row len _ =>
    match H.at id with
    | .dvec sz' rows => if sz' = sz ∧ row + len ≤ rows.length then some (.d (.list ((rows.drop row).take len) false)) else none
    | _ => none
  | .agg cs => (AV.frzL H cs).map .agg
  | .tup cs => (AV.frzL H cs).map .tup
  | _ => none
def AV.frzL (H : Heap) : List AV → Option (List AV)
  | [] => some []
  | x :: xs => match AV.frz H x, AV.frzL H xs with
    | some y, some ys => some (y :: ys)
    | _, _ => none
end

mutual
theorem AV.frz_spec {H : Heap} : ∀ (x y : AV), AV.frz H x = some y → Frz H x y ∧ Plain y
  | .undef, y, h => by simp [AV.frz] at h; subst h; exact ⟨.undef _, .undef⟩
  | .d x, y, h => by
    simp [AV.frz] at h; subst h
    cases x <;> first | exact ⟨.d _, .d _⟩ | exact ⟨.less _ _, .d _⟩
  | .ref id sz row len room, y, h => by
    simp only [AV.frz] at h
    split at h
    · rename_i sz' rows heq
      split at h
      · rename_i hc; obtain ⟨rfl, hc⟩ := hc
        simp at h; subst h
        exact ⟨.ref id sz' row len room rows heq hc, .d _⟩
      · cases h
    · cases h
  | .agg cs, y, h => by
    simp only [AV.frz, Option.map_eq_some_iff] at h
    obtain ⟨ys, h1, rfl⟩ := h
    obtain ⟨g1, g2, g3⟩ := AV.frzL_spec cs ys h1
    exact ⟨.agg _ _ g1 g2, .agg _ g3⟩
  | .tup cs, y, h => by
    simp only [AV.frz, Option.map_eq_some_iff] at h
    obtain ⟨ys, h1, rfl⟩ := h
    obtain ⟨g1, g2, g3⟩ := AV.frzL_spec cs ys h1
    exact ⟨.tup _ _ g1 g2, .tup _ g3⟩
  | .ptr .., y, h => by simp [AV.frz] at h
  | .dptr .., y, h => by simp [AV.frz] at h
  | .clo .., y, h => by simp [AV.frz] at h
  | .mref .., y, h => by simp [AV.frz] at h
theorem AV.frzL_spec {H : Heap} : ∀ (xs ys : List AV), AV.frzL H xs = some ys → ys.length = xs.length ∧ (∀ (i : Nat) (x x' : AV), xs[i]? = some x → ys[i]? = some x' → Frz H x x') ∧ ∀ y ∈ ys, Plain y
  | [], ys, h => by simp [AV.frzL] at h; subst h; exact ⟨rfl, fun i x x' h => by simp at h, fun y h => by simp at h⟩
  | x :: xs, ys, h => by
    simp only [AV.frzL] at h
    split at h
    · rename_i y ys' h1 h2
      simp at h; subst h
      obtain ⟨g1, g2, g3⟩ := AV.frzL_spec xs ys' h2
      obtain ⟨k1, k2⟩ := AV.frz_spec x y h1
      refine ⟨by simp [g1], fun i => ?_, fun z hz => ?_⟩
      · cases i with
        | zero => intro a b e1 e2; simp at e1 e2; subst e1; subst e2; exact k1
        | succ i => intro a b e1 e2; exact g2 i a b (by simpa using e1) (by simpa using e2)
      · rcases List.mem_cons.1 hz with rfl | hz
        · exact k2
        · exact g3 z hz
    · cases h
end

mutual
/-- A value without ids. -/
def AV.plainB : AV → Bool
  | .d _ => true
  | .undef => true
  | .agg cs => AV.plainL cs
  | .tup cs => AV.plainL cs
  | _ => false
def AV.plainL : List AV → Bool
  | [] => true
  | x :: xs => AV.plainB x && AV.plainL xs
end

mutual
/-- A value without ids, and without lists that have something in them. -/
def AV.scalB : AV → Bool
  | .d x => x.scal
  | .undef => true
  | .agg cs => AV.scalL cs
  | .tup cs => AV.scalL cs
  | _ => false
def AV.scalL : List AV → Bool
  | [] => true
  | x :: xs => AV.scalB x && AV.scalL xs
end

mutual
theorem AV.plain_spec : ∀ (x : AV), AV.plainB x = true → Plain x
  | .d x, _ => .d x
  | .undef, _ => .undef
  | .agg cs, h => .agg cs (AV.plainL_spec cs (by simpa [AV.plainB] using h))
  | .tup cs, h => .tup cs (AV.plainL_spec cs (by simpa [AV.plainB] using h))
  | .ptr .., h => by simp [AV.plainB] at h
  | .dptr .., h => by simp [AV.plainB] at h
  | .ref .., h => by simp [AV.plainB] at h
  | .clo .., h => by simp [AV.plainB] at h
  | .mref .., h => by simp [AV.plainB] at h
theorem AV.plainL_spec : ∀ (xs : List AV), AV.plainL xs = true → ∀ x ∈ xs, Plain x
  | [], _, x, hx => by simp at hx
  | y :: ys, h, x, hx => by
    simp only [AV.plainL, Bool.and_eq_true] at h
    rcases List.mem_cons.1 hx with hx | hx
    · rw [hx]; exact AV.plain_spec y h.1
    · exact AV.plainL_spec ys h.2 x hx
end

mutual
theorem AV.scal_spec {H : Heap} : ∀ (x : AV), AV.scalB x = true → Fresh H x ∧ Frz H x x ∧ Plain x
  | .d x, h => ⟨.d x (by simpa [AV.scalB] using h), .d x, .d x⟩
  | .undef, _ => ⟨.undef, .undef _, .undef⟩
  | .agg cs, h => by
    have := AV.scalL_spec (H := H) cs (by simpa [AV.scalB] using h)
    exact ⟨.agg cs fun x hx => (this x hx).1, .agg cs cs rfl fun i x x' h1 h2 => by
      rw [h1] at h2; simp at h2; subst h2; exact (this x (List.mem_of_getElem? h1)).2.1, .agg cs fun x hx => (this x hx).2.2⟩
  | .tup cs, h => by
    have := AV.scalL_spec (H := H) cs (by simpa [AV.scalB] using h)
    exact ⟨.tup cs fun x hx => (this x hx).1, .tup cs cs rfl fun i x x' h1 h2 => by
      rw [h1] at h2; simp at h2; subst h2; exact (this x (List.mem_of_getElem? h1)).2.1, .tup cs fun x hx => (this x hx).2.2⟩
  | .ptr .., h => by simp [AV.scalB] at h
  | .dptr .., h => by simp [AV.scalB] at h
  | .ref .., h => by simp [AV.scalB] at h
  | .clo .., h => by simp [AV.scalB] at h
  | .mref .., h => by simp [AV.scalB] at h
theorem AV.scalL_spec {H : Heap} : ∀ (xs : List AV), AV.scalL xs = true → ∀ x ∈ xs, Fresh H x ∧ Frz H x x ∧ Plain x
  | [], _, x, hx => by simp at hx
  | y :: ys, h, x, hx => by
    simp only [AV.scalL, Bool.and_eq_true] at h
    rcases List.mem_cons.1 hx with hx | hx
    · rw [hx]; exact AV.scal_spec y h.1
    · exact AV.scalL_spec ys h.2 x hx
end

mutual
/-- Lists in it are rows of the call's own, without lists in them. -/
def AV.freshP (H : Heap) : AV → Prop
  | .d x => x.scal = true
  | .undef => True
  | .ref id _ _ _ _ => (match H.at id with
    | .dvec _ rows => ∀ r ∈ rows, ∀ x ∈ r, DV.scal x = true
    | _ => False)
  | .agg cs => AV.freshL H cs
  | .tup cs => AV.freshL H cs
  | _ => False
def AV.freshL (H : Heap) : List AV → Prop
  | [] => True
  | x :: xs => AV.freshP H x ∧ AV.freshL H xs
end

mutual
theorem AV.fresh_spec {H : Heap} : ∀ (x y : AV), AV.freshP H x → AV.frz H x = some y → Fresh H x
  | .d x, _, h, _ => .d x (by simpa [AV.freshP] using h)
  | .undef, _, _, _ => .undef
  | .ref id sz row len room, _, h, hf => by
    simp only [AV.freshP] at h
    simp only [AV.frz] at hf
    split at h
    · rename_i sz' rows heq
      simp only [heq] at hf
      split at hf
      · rename_i hc
        obtain ⟨rfl, _⟩ := hc
        exact .ref id _ row len room rows heq h
      · cases hf
    · exact h.elim
  | .agg cs, y, h, hf => by
    simp only [AV.frz, Option.map_eq_some_iff] at hf
    obtain ⟨ys, h1, rfl⟩ := hf
    exact .agg cs (AV.freshL_spec cs ys (by simpa [AV.freshP] using h) h1)
  | .tup cs, y, h, hf => by
    simp only [AV.frz, Option.map_eq_some_iff] at hf
    obtain ⟨ys, h1, rfl⟩ := hf
    exact .tup cs (AV.freshL_spec cs ys (by simpa [AV.freshP] using h) h1)
  | .ptr .., _, h, _ => by simp [AV.freshP] at h
  | .dptr .., _, h, _ => by simp [AV.freshP] at h
  | .clo .., _, h, _ => by simp [AV.freshP] at h
  | .mref .., _, h, _ => by simp [AV.freshP] at h
theorem AV.freshL_spec {H : Heap} : ∀ (xs ys : List AV), AV.freshL H xs → AV.frzL H xs = some ys → ∀ x ∈ xs, Fresh H x
  | [], _, _, _, x, hx => by simp at hx
  | y :: l, ys, h, hf, x, hx => by
    simp only [AV.freshL] at h
    simp only [AV.frzL] at hf
    split at hf
    · rename_i y' ys' h1 h2
      rcases List.mem_cons.1 hx with hx | hx
      · rw [hx]; exact AV.fresh_spec y y' h.1 h1
      · exact AV.freshL_spec l ys' h.2 h2 x hx
    · cases hf
end

/-- What a body answers, as data. -/
def RetD (v : AV) : AV → Heap → Prop := fun r H => AV.frz H r = some v
/-- What a body answers, as data without lists. -/
def RetS (v : AV) : AV → Heap → Prop := fun r H => r = v
def RetRows (sz : Nat) (rows : List (List DV)) : AV → Heap → Prop := fun r H => IsRows H r sz rows

theorem SpecR.met_of_scal {P : Program} {g : FuncId} {args : List AV} {ok : Prop} {v : AV} (hs : ok → AV.scalB v = true) (h : ok → ACalls P g args [] (RetS v)) : (SpecR.data ok v true).met P g args := fun hok =>
  ⟨(AV.scal_spec (H := []) v (hs hok)).2.2, (h hok).mono fun r H' e => by cases e; exact ⟨(AV.scal_spec v (hs hok)).2.1, fun _ => (AV.scal_spec v (hs hok)).1⟩⟩

theorem SpecR.met_of_data {P : Program} {g : FuncId} {args : List AV} {ok : Prop} {v : AV} (hp : ok → AV.plainB v = true) (h : ok → ACalls P g args [] (RetD v)) : (SpecR.data ok v false).met P g args := fun hok =>
  ⟨AV.plain_spec v (hp hok), (h hok).mono fun r H' e => ⟨(AV.frz_spec _ _ e).1, fun h => by cases h⟩⟩

theorem SpecR.met_of_rows {P : Program} {g : FuncId} {args : List AV} {ok : Prop} {sz : Nat} {rows : List (List DV)} (hr : ok → ∀ r ∈ rows, r.length = sz) (h : ok → ACalls P g args [] (RetRows sz rows)) : (SpecR.rows ok sz rows).met P g args := fun hok =>
  ⟨hr hok, h hok⟩

/-- What a body answers, as data whose lists are its own. -/
def RetF (v : AV) : AV → Heap → Prop := fun r H => AV.frz H r = some v ∧ AV.freshP H r

/-- What is asked of a body by one answer. -/
def SpecR.asks (f : (AV → Heap → Prop) → Prop) : SpecR → Prop
  | .data ok val true => ok → (AV.scalB val = true ∧ f (RetS val)) ∨ (AV.plainB val = true ∧ f (RetF val))
  | .data ok val false => ok → AV.plainB val = true ∧ f (RetD val)
  | .rows ok sz l => ok → (∀ r ∈ l, r.length = sz) ∧ f (RetRows sz l)
  | .none => True

/-- What is asked of a body by a contract. -/
def Sp.Body (s : Sp) (T : Tab) (live : List Nat) (lc : LCode) (rs : List LRes) : Prop :=
  ∀ x, (s.out x).asks fun Post => vck T 0 live lc ⟨envFrom 0 (s.enc x), []⟩ (retK rs Post)

theorem Sp.Body.ok {P : Program} {T : Tab} (hT : TabOK P T) {s : Sp} {f : FuncId} {fn : Func} {c : Code} {lc : LCode} {rs : List LRes} {live : List Nat} (h : s.Body T live lc rs) (hf : P.funcs[f]? = some fn)
    (hname : (fn.name == "runtime.NumGoroutine") = false) (hb : fn.body = some c) (hl : lowCode P fn.ntmps c = some lc) (hr : lowRess P fn.results.toList = some rs) (ha : ∀ x, (s.enc x).length ≤ fn.ntmps) : s.Ok P f := by
  intro x
  have hx := h x
  have go : ∀ {Post : AV → Heap → Prop}, vck T 0 live lc ⟨envFrom 0 (s.enc x), []⟩ (retK rs Post) → ACalls P f (s.enc x) [] Post := fun hv =>
    ACalls.of_vck hT live hf hname hb hl hr (ha x) hv
  revert hx
  cases s.out x with
  | data ok val fresh =>
    cases fresh with
    | true =>
      intro hx hok
      rcases hx hok with ⟨h1, h2⟩ | ⟨h1, h2⟩
      · exact SpecR.met_of_scal (ok := True) (fun _ => h1) (fun _ => go h2) trivial
      · exact ⟨AV.plain_spec val h1, (go h2).mono fun r H' e => ⟨(AV.frz_spec _ _ e.1).1, fun _ => AV.fresh_spec _ _ e.2 e.1⟩⟩
    | false => exact fun hx => SpecR.met_of_data (fun hok => (hx hok).1) fun hok => go (hx hok).2
  | rows ok sz l => exact fun hx => SpecR.met_of_rows (fun hok => (hx hok).1) fun hok => go (hx hok).2
  | none => exact fun _ => trivial

/-! ### Loops by families of states -/
/-- A state that, said with the slots of 'L' and some of its ids, is one of the family, closer to the end. -/
def FamNext {α : Type} (L : List Nat) (st : α → State) (Inv : α → Prop) (m : α → Nat) (k : Nat) (S : State) : Prop :=
  ∃ ρ x, ρ.Nodup ∧ (∀ i ∈ ρ, i < S.heap.length) ∧ S.can ρ L = st x ∧ Inv x ∧ m x < k

theorem FamNext.mk {α : Type} {L : List Nat} {st : α → State} {Inv : α → Prop} {m : α → Nat} {k : Nat} {S : State} (ρ : List Nat) (x : α) (h1 : ρ.Nodup) (h2 : ∀ i ∈ ρ, i < S.heap.length)
    (h3 : S.can ρ L = st x) (h4 : Inv x) (h5 : m x < k) : FamNext L st Inv m k S := ⟨ρ, x, h1, h2, h3, h4, h5⟩

def famK {α : Type} (L : List Nat) (st : α → State) (Inv : α → Prop) (m : α → Nat) (k : Nat) (K : AExit → State → Prop) : AExit → State → Prop
  | .normal, S => FamNext L st Inv m k S
  | x, S => K x S

section
variable {α : Type} {L : List Nat} {st : α → State} {Inv : α → Prop} {m : α → Nat} {k : Nat} {K : AExit → State → Prop} {S : State}
theorem famK_n : famK L st Inv m k K .normal S ↔ FamNext L st Inv m k (nf S) := Iff.rfl
theorem famK_x {id : Nat} : famK L st Inv m k K (.exit id) S ↔ K (.exit id) S := Iff.rfl
theorem famK_r : famK L st Inv m k K .ret S ↔ K .ret S := Iff.rfl

theorem vck_mono {T : Tab} {n0 : Nat} {live : List Nat} : ∀ (lc : LCode) (S : State) (K K' : AExit → State → Prop), (∀ x S', K x S' → K' x S') → vck T n0 live lc S K → vck T n0 live lc S K' := by
  have wk : ∀ {X X' : State → Prop} {S : State}, (∀ S', X S' → X' S') → Wk n0 X S → Wk n0 X' S := fun h hw => by
    rcases hw with hw | ⟨ρ, S', h1, h2, h3⟩
    · exact .inl (h _ hw)
    · exact .inr ⟨ρ, S', h1, h2, h _ h3⟩
  have rg : ∀ {draw : Bool} {base : Nat} {pairs : List (Nat × Nat)} {X X' : State → Prop}, (∀ S', X S' → X' S') → ∀ (los : List LOper) (S : State) (acc : Feet), RGk T draw base pairs X los S acc → RGk T draw base pairs X' los S acc := by
    intro draw base pairs X X' h los
    induction los with
    | nil => intro S acc hr; cases draw <;> first | exact ⟨hr.1, h _ hr.2⟩ | exact h _ hr
    | cons o os ih =>
      intro S acc hr
      obtain ⟨dst, op, guard⟩ := o
      cases guard with
      | none => exact ⟨hr.1, ih _ _ hr.2⟩
      | some gw =>
        obtain ⟨g, want⟩ := gw
        simp only [RGk, guardS] at hr ⊢
        split at hr
        · exact ⟨fun e => ⟨(hr.1 e).1, ih _ _ (hr.1 e).2⟩, fun e => ih _ _ (hr.2 e)⟩
        · exact ih _ _ hr
        · exact hr
  intro lc
  induction lc with
  | skip => intro S K K' h hv; exact h _ _ hv
  | ret => intro S K K' h hv; exact h _ _ hv
  | exit id => intro S K K' h hv; exact h _ _ hv
  | region draw los pairs => intro S K K' h hv; exact rg (fun S' hS => h _ _ hS) _ _ _ hv
  | nilq los neg dst x =>
    intro S K K' h hv
    refine rg (fun S' hS => ?_) _ _ _ hv
    simp only [nilS] at hS ⊢
    split at hS
    · exact ⟨h _ _ hS.1, fun e => h _ _ (hS.2 e)⟩
    · exact ⟨h _ _ hS.1, fun e => h _ _ (hS.2 e)⟩
    · exact hS
  | seq a b iha ihb =>
    intro S K K' h hv
    refine iha _ _ _ (fun x S' hx => ?_) hv
    cases x with
    | normal => exact ihb _ _ _ h hx
    | exit id => exact h _ _ hx
    | ret => exact h _ _ hx
  | cond c a b iha ihb =>
    intro S K K' h hv
    simp only [vck, condS] at hv ⊢
    split at hv
    · exact ⟨fun e => iha _ _ _ h (hv.1 e), fun e => ihb _ _ _ h (hv.2 e)⟩
    · exact hv
  | block id b ih =>
    intro S K K' h hv
    refine ih _ _ _ (fun x S' hx => ?_) hv
    cases x with
    | normal => exact h _ _ hx
    | exit j =>
      simp only [blockK] at hx ⊢
      split
      · rename_i e; rw [if_pos e] at hx; exact h _ _ hx
      · rename_i e; rw [if_neg e] at hx; exact h _ _ hx
    | ret => exact h _ _ hx
  | loop b ih =>
    intro S K K' h ⟨I, k, h1, h2⟩
    refine ⟨I, k, h1, fun k S hI => ih _ _ _ (fun x S' hx => ?_) (h2 k S hI)⟩
    cases x with
    | normal => exact hx
    | exit j => exact wk (fun S' => h _ S') hx
    | ret => exact wk (fun S' => h _ S') hx

/-- A loop, by a family of states. -/
theorem Loop.fam {T : Tab} {live : List Nat} {b : LCode} (L : List Nat) (st : α → State) (Inv : α → Prop) (m : α → Nat) (x0 : α) (ρ : List Nat) (h1 : ρ.Nodup) (h2 : ∀ i ∈ ρ, i < S.heap.length)
    (h3 : S.can ρ L = st x0) (h4 : Inv x0) (h : ∀ x, Inv x → vck T 0 live b (st x) (famK L st Inv m (m x) K)) : Loop T 0 live b S K := by
  refine ⟨fun k S => ∃ x, S = st x ∧ Inv x ∧ m x = k, m x0, Wk.can ρ L h1 h2 ⟨x0, h3, h4, rfl⟩, ?_⟩
  rintro k S ⟨x, rfl, hI, rfl⟩
  refine vck_mono _ _ _ _ (fun e S' hK => ?_) (h x hI)
  cases e with
  | normal =>
    obtain ⟨ρ', x', g1, g2, g3, g4, g5⟩ := hK
    exact ⟨m x', g5, Wk.can ρ' L g1 g2 ⟨x', g3, g4, rfl⟩⟩
  | exit id => exact .inl hK
  | ret => exact .inl hK

/-- Two pieces of code that meet: what holds between them. -/
theorem vck_cut {T : Tab} {n0 : Nat} {live : List Nat} {a b : LCode} (X : State → Prop) (ha : vck T n0 live a S (thenK X K)) (hb : ∀ S', X S' → vck T n0 live b S' K) : vck T n0 live (.seq a b) S K :=
  vck_mono a _ _ _ (fun x S' hx => by
    cases x with
    | normal => exact hb _ hx
    | exit id => exact hx
    | ret => exact hx) ha
end

end Go.Ago
