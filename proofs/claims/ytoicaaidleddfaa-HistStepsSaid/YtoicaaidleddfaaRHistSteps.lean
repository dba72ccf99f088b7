/-
  For every input the Go function selvage/selvagelaw20.HistSteps returns true, and each argument reads behind the call as it read before.
  Conditions: none.
-/
import Derived.Test.YtoicaaidleddfaaRows
import Derived.Test.YtoicaaidleddfaaSeat

import Derived.WalkKit
import Derived.ProofKit
import Derived.OpenShut
set_option maxRecDepth 100000
set_option linter.unusedVariables false
set_option linter.unusedSimpArgs false
namespace Go.Proofs.Ytoicaaidleddfaa.histSteps
open Go Go.Ago Go.ChangeShapes Go.WideShapes Go.ChangeAt Go.RowKit

theorem own : ownKnob Try.prog.godebug = none := by kernel_rfl

theorem law : ∀ xs, HasAll [.sl shLoc, .int .i64, .sl shStep] xs → ACalls Try.prog 3 (avs [.sl shLoc, .int .i64, .sl shStep] xs) [] fun r _ => r = .d (.bool true) := by
  intro xs h
  obtain ⟨d1, r1, rfl, h1, h⟩ := h.cons_inv
  obtain ⟨d2, r2, rfl, h2, h⟩ := h.cons_inv
  obtain ⟨d3, r3, rfl, h3, h⟩ := h.cons_inv
  obtain rfl := h.nil_inv
  obtain ⟨l, f, rfl, -, hl⟩ := has_list (f := LocG.row) (ok := LocG.inn) (fun _ h => has_loc h) h1
  obtain ⟨t, rfl, -⟩ := has_i64 h2
  obtain ⟨s, g, rfl, hin, hs⟩ := has_list (f := StepG.row) (ok := StepG.inn) (fun _ h => has_step h) h3
  exact acalls_HistSteps (Nat.le_of_ble_eq_true rfl) (law_HistSteps ⟨rfl, fun _ _ => rfl⟩ ⟨rfl, fun _ _ => rfl⟩ ⟨rfl, fun _ _ => rfl⟩ rfl rfl ⟨rfl, fun _ _ => rfl⟩ ⟨rfl, fun _ _ => rfl⟩ l f t s g hl hs (fun y hy => (hin y hy).2.1.2.1))

theorem lifted (os : Os) (started : os.Started) (H : Type) (enc : TypeId × Value → H) :
    ReturnsInHanded {} Try.checked os 3 .any (Rows.histStepsSpec.pre6 enc Try.prog Try.f3 Rows.histStepsRow.domain false) (Rows.histStepsSpec.post enc Try.prog Try.f3 false true false false) := by
  refine returnsInHanded_of_change (C := Try.checked) own started (by kernel_rfl) Try.func3
    (ChangeSpec.witness6 (enc := enc) (C := Try.checked) false ⟨#[], #[.slice none 0 0, .int .i64 0, .slice none 0 0], []⟩ 8 (by kernel_rfl) (by kernel_rfl) (by kernel_rfl) (by kernel_rfl)) ?_
  intro W base args ds gs before hval hW _ _
  refine law_contract (ss := [.sl shLoc, .int .i64, .sl shStep]) (by kernel_rfl) (by kernel_rfl) (by kernel_rfl) rfl (by kernel_rfl) Try.underlying4 law hval hW (noTab (by kernel_rfl) W) fun p hp => ?_
  have hn := trodAll_len hp
  rw [Try.params3] at hn
  match ds, hn with
  | [d0, d1, d2], _ => exact ⟨rfl, rfl, rfl⟩

theorem over : Rows.histStepsRow.holds Try.pinned (OpenSpec.ofChange Rows.histStepsSpec) :=
  OpenClaim.holds_of_wide 3 Try.f3 rfl rfl rfl rfl rfl rfl rfl ⟨rfl, rfl, rfl, rfl, rfl⟩ rfl rfl rfl rfl rfl (by kernel_rfl) Try.func3 (by kernel_rfl)
    (of_decide_eq_true (by kernel_rfl)) (by unfold Func.isWrapper; first | (rw [if_pos (by decide +kernel)]; kernel_rfl) | (rw [if_neg (by decide +kernel)]; exact ⟨rfl, rfl⟩))
    (fun os started H enc _ => lifted os started H enc)

theorem histSteps_proved : Rows.HistStepsSaid := over
end Go.Proofs.Ytoicaaidleddfaa.histSteps
