/- Lists under a row's function, reckoned with as wholes. Conditions: none. -/
import Derived.Test.YtkcdbaagjhgmcaaDoorAgoP2
set_option linter.unusedSimpArgs false
set_option linter.unusedVariables false
namespace Go.Ago

section
variable {α : Type} [Inhabited α] {f : α → List DV} {l : List α} {k : Delta → Prop}

theorem stepK_idx_map {sz : Nat} {full : Bool} {kd : IntKind} {n : Int} (hf : ∀ x, (f x).length = sz) :
    stepK (evIdxAddr sz (.d (.list (l.map f) full)) (.d (.int kd n))) k ↔ (0 ≤ n ∧ n < l.length) ∧ k ⟨.dptr (f (l.getD n.toNat default)) 0, [], []⟩ := by
  simp only [evIdxAddr, stepK_v, List.length_map]
  constructor
  · rintro ⟨⟨h1, h2, h3⟩, h4⟩
    rw [map_getD (d := default) (by omega)] at h4
    exact ⟨⟨h1, h2⟩, h4⟩
  · rintro ⟨⟨h1, h2⟩, h4⟩
    rw [map_getD (d := default) (by omega)]
    exact ⟨⟨h1, h2, hf _⟩, h4⟩

theorem stepK_idx_ref {sz sz0 id row len : Nat} {room : Bool} {kd : IntKind} {n : Int} :
    stepK (evIdxAddr sz (.ref id sz0 row len room) (.d (.int kd n))) k ↔ (sz0 = sz ∧ 0 ≤ n ∧ n < len) ∧ k ⟨.ptr id sz0 (row + n.toNat) 0, [], []⟩ := Iff.rfl

/-- A load out of an object. -/
def evLoadO (o : HO) (id : Nat) (agg : Bool) (sz sz0 row j : Nat) : Out :=
  match o with
  | .vec sz' rows => ⟨sz' = sz0 ∧ row < rows.length ∧ loadQ agg sz j (rows.getD row []).length, ⟨loadT agg sz j (rows.getD row []), [], [id]⟩⟩
  | .dvec sz' rows => ⟨sz' = sz0 ∧ row < rows.length ∧ loadQ agg sz j (rows.getD row []).length, ⟨loadDT agg sz j (rows.getD row []), [], [id]⟩⟩
  | .dead => .no
theorem evLoad_ptr {H : Heap} {agg : Bool} {sz id sz0 row j : Nat} : evLoad H agg sz (.ptr id sz0 row j) = evLoadO (H.at id) id agg sz sz0 row j := rfl
theorem evLoad_dptr {H : Heap} {agg : Bool} {sz j : Nat} {cs : List DV} : evLoad H agg sz (.dptr cs j) = .v (loadQ agg sz j cs.length) (loadDT agg sz j cs) := rfl

theorem loadO_vec {id : Nat} {agg : Bool} {sz sz0 row j sz' : Nat} {rows : List (List AV)} : evLoadO (.vec sz' rows) id agg sz sz0 row j = ⟨sz' = sz0 ∧ row < rows.length ∧ loadQ agg sz j (rows.getD row []).length, ⟨loadT agg sz j (rows.getD row []), [], [id]⟩⟩ := rfl
theorem loadO_dvec1 {id : Nat} {agg : Bool} {sz sz0 row j sz' : Nat} {r : List DV} : evLoadO (.dvec sz' [r]) id agg sz sz0 row j = ⟨sz' = sz0 ∧ row < 1 ∧ loadQ agg sz j ([r].getD row []).length, ⟨loadDT agg sz j ([r].getD row []), [], [id]⟩⟩ := rfl

theorem stepK_load_map {id : Nat} {agg : Bool} {sz sz0 row j sz' : Nat} :
    stepK (evLoadO (.dvec sz' (l.map f)) id agg sz sz0 row j) k ↔ (sz' = sz0 ∧ row < l.length ∧ loadQ agg sz j (f (l.getD row default)).length) ∧ k ⟨loadDT agg sz j (f (l.getD row default)), [], [id]⟩ := by
  simp only [evLoadO, stepK_mk, List.length_map]
  constructor
  · rintro ⟨⟨h1, h2, h3⟩, h4⟩
    rw [map_getD (d := default) h2] at h3 h4
    exact ⟨⟨h1, h2, h3⟩, h4⟩
  · rintro ⟨⟨h1, h2, h3⟩, h4⟩
    rw [map_getD (d := default) h2]
    exact ⟨⟨h1, h2, h3⟩, h4⟩

/-- A store into an object. -/
def evStoreO (o : HO) (id sz sz0 row j : Nat) (x : AV) : Out :=
  match o with
  | .vec sz' rows => ⟨sz' = sz0 ∧ row < rows.length ∧ cellsQ x ∧ (cellsT x).length = sz ∧ j + (cellsT x).length ≤ sz', ⟨.tup [], [(id, .vec sz' (rows.set row (putRow j (cellsT x) (rows.getD row []))))], []⟩⟩
  | .dvec sz' rows =>
    match dcells (cellsT x) with
    | some ds => ⟨sz' = sz0 ∧ row < rows.length ∧ cellsQ x ∧ (cellsT x).length = sz ∧ j + (cellsT x).length ≤ sz', ⟨.tup [], [(id, .dvec sz' (rows.set row (putRow j ds (rows.getD row []))))], []⟩⟩
    | none => .no
  | .dead => .no
theorem evStore_ptr {H : Heap} {sz id sz0 row j : Nat} {x : AV} : evStore H sz (.ptr id sz0 row j) x = evStoreO (H.at id) id sz sz0 row j x := rfl
theorem storeO_vec {id sz sz0 row j sz' : Nat} {rows : List (List AV)} {x : AV} : evStoreO (.vec sz' rows) id sz sz0 row j x = ⟨sz' = sz0 ∧ row < rows.length ∧ cellsQ x ∧ (cellsT x).length = sz ∧ j + (cellsT x).length ≤ sz', ⟨.tup [], [(id, .vec sz' (rows.set row (putRow j (cellsT x) (rows.getD row []))))], []⟩⟩ := rfl

/-- One cell of a row anew. -/
theorem stepK_store_map1 {id sz sz0 row j sz' : Nat} {x : DV} :
    stepK (evStoreO (.dvec sz' (l.map f)) id sz sz0 row j (.d x)) k ↔ (sz' = sz0 ∧ row < l.length ∧ 1 = sz ∧ j + 1 ≤ sz') ∧ k ⟨.tup [], [(id, .dvec sz' ((l.map f).set row (putRow j [x] (f (l.getD row default)))))], []⟩ := by
  simp only [evStoreO, stepK_mk, List.length_map, cellsT, dcells, Option.map_some, cellsQ, List.length_cons, List.length_nil, Nat.zero_add, true_and]
  constructor
  · rintro ⟨⟨h1, h2, h3⟩, h4⟩
    rw [map_getD (d := default) h2] at h4
    exact ⟨⟨h1, h2, h3⟩, h4⟩
  · rintro ⟨⟨h1, h2, h3⟩, h4⟩
    rw [map_getD (d := default) h2]
    exact ⟨⟨h1, h2, h3⟩, h4⟩

/-- A whole row anew. -/
theorem stepK_store_mapA {id sz sz0 row j sz' : Nat} {cs : List DV} :
    stepK (evStoreO (.dvec sz' (l.map f)) id sz sz0 row j (.agg (cs.map .d))) k ↔ (sz' = sz0 ∧ row < l.length ∧ cs.all (fun x => (AV.d x).leaf) = true ∧ cs.length = sz ∧ j + cs.length ≤ sz') ∧ k ⟨.tup [], [(id, .dvec sz' ((l.map f).set row (putRow j cs (f (l.getD row default)))))], []⟩ := by
  have hd : dcells (cs.map AV.d) = some cs := by
    induction cs with
    | nil => rfl
    | cons c cs ih => simp [dcells, ih]
  simp only [evStoreO, stepK_mk, List.length_map, cellsT, hd, cellsQ, List.all_map]
  constructor
  · rintro ⟨⟨h1, h2, h3⟩, h4⟩
    rw [map_getD (d := default) h2] at h4
    exact ⟨⟨h1, h2, h3⟩, h4⟩
  · rintro ⟨⟨h1, h2, h3⟩, h4⟩
    rw [map_getD (d := default) h2]
    exact ⟨⟨h1, h2, h3⟩, h4⟩
end

theorem putI {x y : Int} : putRow 0 [.int .i64 x] (rowI y) = rowI x := rfl
theorem putU {x y : Int} : putRow 0 [.int .u64 x] (rowU y) = rowU x := rfl
theorem rowI_len {x : Int} : (rowI x).length = 1 := rfl
theorem rowU_len {x : Int} : (rowU x).length = 1 := rfl
theorem RatG.row_len {x : RatG} : x.row.length = 2 := rfl
theorem LocG.row_len {x : LocG} : x.row.length = 2 := rfl
theorem ActG.row_len {x : ActG} : x.row.length = 4 := rfl
theorem StepG.row_len {x : StepG} : x.row.length = 7 := rfl
theorem StampG.row_len {x : StampG} : x.row.length = 3 := rfl

theorem idx_I {l : List Int} {full : Bool} {kd : IntKind} {n : Int} {k : Delta → Prop} : stepK (evIdxAddr 1 (.d (.list (l.map rowI) full)) (.d (.int kd n))) k ↔ (0 ≤ n ∧ n < l.length) ∧ k ⟨.dptr (rowI (l.getD n.toNat default)) 0, [], []⟩ := stepK_idx_map (fun _ => rfl)
theorem idx_U {l : List Int} {full : Bool} {kd : IntKind} {n : Int} {k : Delta → Prop} : stepK (evIdxAddr 1 (.d (.list (l.map rowU) full)) (.d (.int kd n))) k ↔ (0 ≤ n ∧ n < l.length) ∧ k ⟨.dptr (rowU (l.getD n.toNat default)) 0, [], []⟩ := stepK_idx_map (fun _ => rfl)
theorem idx_Rat {l : List RatG} {full : Bool} {kd : IntKind} {n : Int} {k : Delta → Prop} : stepK (evIdxAddr 2 (.d (.list (l.map RatG.row) full)) (.d (.int kd n))) k ↔ (0 ≤ n ∧ n < l.length) ∧ k ⟨.dptr (RatG.row (l.getD n.toNat default)) 0, [], []⟩ := stepK_idx_map (fun _ => rfl)
theorem idx_Loc {l : List LocG} {full : Bool} {kd : IntKind} {n : Int} {k : Delta → Prop} : stepK (evIdxAddr 2 (.d (.list (l.map LocG.row) full)) (.d (.int kd n))) k ↔ (0 ≤ n ∧ n < l.length) ∧ k ⟨.dptr (LocG.row (l.getD n.toNat default)) 0, [], []⟩ := stepK_idx_map (fun _ => rfl)
theorem idx_Act {l : List ActG} {full : Bool} {kd : IntKind} {n : Int} {k : Delta → Prop} : stepK (evIdxAddr 4 (.d (.list (l.map ActG.row) full)) (.d (.int kd n))) k ↔ (0 ≤ n ∧ n < l.length) ∧ k ⟨.dptr (ActG.row (l.getD n.toNat default)) 0, [], []⟩ := stepK_idx_map (fun _ => rfl)
theorem idx_Step {l : List StepG} {full : Bool} {kd : IntKind} {n : Int} {k : Delta → Prop} : stepK (evIdxAddr 7 (.d (.list (l.map StepG.row) full)) (.d (.int kd n))) k ↔ (0 ≤ n ∧ n < l.length) ∧ k ⟨.dptr (StepG.row (l.getD n.toNat default)) 0, [], []⟩ := stepK_idx_map (fun _ => rfl)
theorem idx_Stamp {l : List StampG} {full : Bool} {kd : IntKind} {n : Int} {k : Delta → Prop} : stepK (evIdxAddr 3 (.d (.list (l.map StampG.row) full)) (.d (.int kd n))) k ↔ (0 ≤ n ∧ n < l.length) ∧ k ⟨.dptr (StampG.row (l.getD n.toNat default)) 0, [], []⟩ := stepK_idx_map (fun _ => rfl)

theorem loadDT_f {sz j : Nat} {r : List DV} : loadDT false sz j r = .d (r.getD j .nilp) := rfl
theorem loadDT_t {sz j : Nat} {r : List DV} : loadDT true sz j r = .agg (((r.drop j).take sz).map .d) := rfl

theorem take_map_len {α : Type} {f : α → List DV} {l : List α} : (l.map f).take l.length = l.map f := List.take_of_length_le (by simp)

theorem drows_rep1 {n : Nat} {a : DV} : drows (List.replicate n [.d a]) = some (List.replicate n [a]) := by
  induction n with
  | zero => rfl
  | succ n ih => simp [List.replicate_succ, drows, dcells, ih]
theorem drows_rep2 {n : Nat} {a b : DV} : drows (List.replicate n [.d a, .d b]) = some (List.replicate n [a, b]) := by
  induction n with
  | zero => rfl
  | succ n ih => simp [List.replicate_succ, drows, dcells, ih]
theorem drows_rep3 {n : Nat} {a b c : DV} : drows (List.replicate n [.d a, .d b, .d c]) = some (List.replicate n [a, b, c]) := by
  induction n with
  | zero => rfl
  | succ n ih => simp [List.replicate_succ, drows, dcells, ih]
theorem drows_rep4 {n : Nat} {a b c d : DV} : drows (List.replicate n [.d a, .d b, .d c, .d d]) = some (List.replicate n [a, b, c, d]) := by
  induction n with
  | zero => rfl
  | succ n ih => simp [List.replicate_succ, drows, dcells, ih]
theorem drows_rep5 {n : Nat} {a b c d e : DV} : drows (List.replicate n [.d a, .d b, .d c, .d d, .d e]) = some (List.replicate n [a, b, c, d, e]) := by
  induction n with
  | zero => rfl
  | succ n ih => simp [List.replicate_succ, drows, dcells, ih]
theorem drows_rep6 {n : Nat} {a b c d e f : DV} : drows (List.replicate n [.d a, .d b, .d c, .d d, .d e, .d f]) = some (List.replicate n [a, b, c, d, e, f]) := by
  induction n with
  | zero => rfl
  | succ n ih => simp [List.replicate_succ, drows, dcells, ih]
theorem drows_rep7 {n : Nat} {a b c d e f g : DV} : drows (List.replicate n [.d a, .d b, .d c, .d d, .d e, .d f, .d g]) = some (List.replicate n [a, b, c, d, e, f, g]) := by
  induction n with
  | zero => rfl
  | succ n ih => simp [List.replicate_succ, drows, dcells, ih]
theorem drows_rep8 {n : Nat} {a b c d e f g h : DV} : drows (List.replicate n [.d a, .d b, .d c, .d d, .d e, .d f, .d g, .d h]) = some (List.replicate n [a, b, c, d, e, f, g, h]) := by
  induction n with
  | zero => rfl
  | succ n ih => simp [List.replicate_succ, drows, dcells, ih]

theorem roomy_of {n b : Nat} (h1 : n ≤ 1048576) (h2 : b ≤ 1048576) : roomy n b := by
  refine ⟨by omega, ?_⟩
  have := Nat.mul_le_mul h1 h2
  omega

/-! Rows put together again. -/
theorem set_rowI {l : List Int} {i : Nat} {x : Int} : (l.map rowI).set i [.int .i64 x] = (l.set i x).map rowI := by rw [List.map_set]; rfl
theorem set_rowU {l : List Int} {i : Nat} {x : Int} : (l.map rowU).set i [.int .u64 x] = (l.set i x).map rowU := by rw [List.map_set]; rfl
theorem app_rowI {l : List Int} {x : Int} : l.map rowI ++ [[.int .i64 x]] = (l ++ [x]).map rowI := by simp [rowI]
theorem app_rowU {l : List Int} {x : Int} : l.map rowU ++ [[.int .u64 x]] = (l ++ [x]).map rowU := by simp [rowU]
theorem rep_rowI {n : Nat} {x : Int} : List.replicate n [DV.int .i64 x] = (List.replicate n x).map rowI := by simp [rowI]
theorem rep_rowU {n : Nat} {x : Int} : List.replicate n [DV.int .u64 x] = (List.replicate n x).map rowU := by simp [rowU]
theorem set_rowRat {l : List RatG} {i : Nat} {a b : Int} : (l.map RatG.row).set i [.int .i64 a, .int .i64 b] = (l.set i ⟨a, b⟩).map RatG.row := by rw [List.map_set]; rfl
theorem app_rowRat {l : List RatG} {a b : Int} : l.map RatG.row ++ [[.int .i64 a, .int .i64 b]] = (l ++ [(⟨a, b⟩ : RatG)]).map RatG.row := by simp [RatG.row]
theorem rep_rowRat {n : Nat} {a b : Int} : List.replicate n [DV.int .i64 a, .int .i64 b] = (List.replicate n (⟨a, b⟩ : RatG)).map RatG.row := by simp [RatG.row]
theorem set_rowLoc {l : List LocG} {i : Nat} {a : Bool} {b : Int} : (l.map LocG.row).set i [.bool a, .int .i64 b] = (l.set i ⟨a, b⟩).map LocG.row := by rw [List.map_set]; rfl
theorem app_rowLoc {l : List LocG} {a : Bool} {b : Int} : l.map LocG.row ++ [[.bool a, .int .i64 b]] = (l ++ [(⟨a, b⟩ : LocG)]).map LocG.row := by simp [LocG.row]
theorem app_rowAct {l : List ActG} {a b c d : Int} : l.map ActG.row ++ [[.int .i64 a, .int .i64 b, .int .i64 c, .int .i64 d]] = (l ++ [(⟨a, b, c, d⟩ : ActG)]).map ActG.row := by simp [ActG.row]
theorem app_rowStep {l : List StepG} {t a b c d e f : Int} : l.map StepG.row ++ [[.int .i64 t, .int .i64 a, .int .i64 b, .int .i64 c, .int .i64 d, .int .i64 e, .int .i64 f]] = (l ++ [(⟨t, ⟨a, b, c, d⟩, ⟨e, f⟩⟩ : StepG)]).map StepG.row := by simp [StepG.row]
theorem one_rowI {x : Int} : [[DV.int .i64 x]] = [x].map rowI := rfl

/-- What a body answers whose lists are rows of its own. -/
theorem retF_iff {v r : AV} {H : Heap} : RetF v r H ↔ AV.frz H r = some v ∧ AV.freshP H r := Iff.rfl
theorem retD_iff {v r : AV} {H : Heap} : RetD v r H ↔ AV.frz H r = some v := Iff.rfl
theorem scal_rowI {l : List Int} : (∀ r ∈ l.map rowI, ∀ x ∈ r, DV.scal x = true) ↔ True := ⟨fun _ => trivial, fun _ r hr x hx => by
  obtain ⟨n, _, rfl⟩ := List.mem_map.1 hr; simp [rowI] at hx; subst hx; rfl⟩
theorem scal_rowU {l : List Int} : (∀ r ∈ l.map rowU, ∀ x ∈ r, DV.scal x = true) ↔ True := ⟨fun _ => trivial, fun _ r hr x hx => by
  obtain ⟨n, _, rfl⟩ := List.mem_map.1 hr; simp [rowU] at hx; subst hx; rfl⟩
theorem scal_rowRat {l : List RatG} : (∀ r ∈ l.map RatG.row, ∀ x ∈ r, DV.scal x = true) ↔ True := ⟨fun _ => trivial, fun _ r hr x hx => by
  obtain ⟨n, _, rfl⟩ := List.mem_map.1 hr; simp [RatG.row] at hx; rcases hx with rfl | rfl <;> rfl⟩
theorem scal_rowStep {l : List StepG} : (∀ r ∈ l.map StepG.row, ∀ x ∈ r, DV.scal x = true) ↔ True := ⟨fun _ => trivial, fun _ r hr x hx => by
  obtain ⟨n, _, rfl⟩ := List.mem_map.1 hr; simp [StepG.row] at hx; rcases hx with rfl | rfl | rfl | rfl | rfl | rfl | rfl <;> rfl⟩

theorem scal_int {k : IntKind} {n : Int} : DV.scal (.int k n) = true := rfl
theorem scal_bool {b : Bool} : DV.scal (.bool b) = true := rfl
theorem scal_nil {full : Bool} : DV.scal (.list [] full) = true := rfl
theorem take_map_ge {α : Type} {f : α → List DV} {l : List α} {n : Nat} (h : l.length ≤ n) : (l.map f).take n = l.map f := List.take_of_length_le (by simpa using h)

theorem lens_I {l : List Int} : (∀ r ∈ l.map rowI, r.length = 1) ↔ True := ⟨fun _ => trivial, fun _ => rows_len (f := rowI) (fun _ => rfl) l⟩
theorem lensA_I {l : List Int} : (∀ r ∈ List.map (fun x => List.map AV.d x) (l.map rowI), r.length = 1) ↔ True := ⟨fun _ => trivial, fun _ r hr => by
  obtain ⟨x, hx, rfl⟩ := List.mem_map.1 hr
  simpa using rows_len (f := rowI) (sz := 1) (fun _ => rfl) l x hx⟩
theorem lens_U {l : List Int} : (∀ r ∈ l.map rowU, r.length = 1) ↔ True := ⟨fun _ => trivial, fun _ => rows_len (f := rowU) (fun _ => rfl) l⟩
theorem lensA_U {l : List Int} : (∀ r ∈ List.map (fun x => List.map AV.d x) (l.map rowU), r.length = 1) ↔ True := ⟨fun _ => trivial, fun _ r hr => by
  obtain ⟨x, hx, rfl⟩ := List.mem_map.1 hr
  simpa using rows_len (f := rowU) (sz := 1) (fun _ => rfl) l x hx⟩
theorem lens_Rat {l : List RatG} : (∀ r ∈ l.map RatG.row, r.length = 2) ↔ True := ⟨fun _ => trivial, fun _ => rows_len (f := RatG.row) (fun _ => rfl) l⟩
theorem lensA_Rat {l : List RatG} : (∀ r ∈ List.map (fun x => List.map AV.d x) (l.map RatG.row), r.length = 2) ↔ True := ⟨fun _ => trivial, fun _ r hr => by
  obtain ⟨x, hx, rfl⟩ := List.mem_map.1 hr
  simpa using rows_len (f := RatG.row) (sz := 2) (fun _ => rfl) l x hx⟩
theorem lens_Loc {l : List LocG} : (∀ r ∈ l.map LocG.row, r.length = 2) ↔ True := ⟨fun _ => trivial, fun _ => rows_len (f := LocG.row) (fun _ => rfl) l⟩
theorem lensA_Loc {l : List LocG} : (∀ r ∈ List.map (fun x => List.map AV.d x) (l.map LocG.row), r.length = 2) ↔ True := ⟨fun _ => trivial, fun _ r hr => by
  obtain ⟨x, hx, rfl⟩ := List.mem_map.1 hr
  simpa using rows_len (f := LocG.row) (sz := 2) (fun _ => rfl) l x hx⟩
theorem lens_Act {l : List ActG} : (∀ r ∈ l.map ActG.row, r.length = 4) ↔ True := ⟨fun _ => trivial, fun _ => rows_len (f := ActG.row) (fun _ => rfl) l⟩
theorem lensA_Act {l : List ActG} : (∀ r ∈ List.map (fun x => List.map AV.d x) (l.map ActG.row), r.length = 4) ↔ True := ⟨fun _ => trivial, fun _ r hr => by
  obtain ⟨x, hx, rfl⟩ := List.mem_map.1 hr
  simpa using rows_len (f := ActG.row) (sz := 4) (fun _ => rfl) l x hx⟩
theorem lens_Step {l : List StepG} : (∀ r ∈ l.map StepG.row, r.length = 7) ↔ True := ⟨fun _ => trivial, fun _ => rows_len (f := StepG.row) (fun _ => rfl) l⟩
theorem lensA_Step {l : List StepG} : (∀ r ∈ List.map (fun x => List.map AV.d x) (l.map StepG.row), r.length = 7) ↔ True := ⟨fun _ => trivial, fun _ r hr => by
  obtain ⟨x, hx, rfl⟩ := List.mem_map.1 hr
  simpa using rows_len (f := StepG.row) (sz := 7) (fun _ => rfl) l x hx⟩
theorem lens_Stamp {l : List StampG} : (∀ r ∈ l.map StampG.row, r.length = 3) ↔ True := ⟨fun _ => trivial, fun _ => rows_len (f := StampG.row) (fun _ => rfl) l⟩
theorem lensA_Stamp {l : List StampG} : (∀ r ∈ List.map (fun x => List.map AV.d x) (l.map StampG.row), r.length = 3) ↔ True := ⟨fun _ => trivial, fun _ r hr => by
  obtain ⟨x, hx, rfl⟩ := List.mem_map.1 hr
  simpa using rows_len (f := StampG.row) (sz := 3) (fun _ => rfl) l x hx⟩

theorem ActG.eta {a : ActG} : (⟨a.kind, a.loc, a.old, a.new⟩ : ActG) = a := rfl
theorem RatG.eta {a : RatG} : (⟨a.num, a.den⟩ : RatG) = a := rfl
theorem LocG.eta {a : LocG} : (⟨a.atom, a.init⟩ : LocG) = a := rfl

theorem take_mapF {α : Type} {f : α → List DV} {l : List α} {n : Nat} : (l.map f).take n = (l.take n).map f := List.map_take.symm
theorem drop_mapF {α : Type} {f : α → List DV} {l : List α} {n : Nat} : (l.map f).drop n = (l.drop n).map f := List.map_drop.symm

end Go.Ago
