/-
  For every input the Go function selvage/selvagelaw03.WeightLeast returns true, and each argument reads behind the call as it read before.
  Conditions: none.
-/
import Derived.Test.YtlphhmgfjdecjaaRows
import Derived.Test.YtlphhmgfjdecjaaSeat

import Derived.WalkKit
import Derived.ProofKit
import Derived.OpenShut
set_option maxRecDepth 100000
set_option linter.unusedVariables false
set_option linter.unusedSimpArgs false
namespace Go.Proofs.Ytlphhmgfjdecjaa.weightLeast
open Go Go.Ago Go.ChangeShapes Go.WideShapes Go.ChangeAt Go.RowKit

theorem own : ownKnob Try.prog.godebug = none := by kernel_rfl

theorem law : ∀ xs, HasAll [.sl (.int .u64)] xs → ACalls Try.prog 7 (avs [.sl (.int .u64)] xs) [] fun r _ => r = .d (.bool true) := by
  intro xs h
  obtain ⟨d1, r1, rfl, h1, h⟩ := h.cons_inv
  obtain rfl := h.nil_inv
  obtain ⟨l, f, rfl, -, hz⟩ := has_list (f := rowW) (ok := fun _ => True) (fun _ h => has_rowW h) h1
  exact acalls_WeightLeast (Nat.le_of_ble_eq_true rfl) (law_WeightLeast ⟨rfl, fun _ _ => rfl⟩ ⟨rfl, fun _ _ => rfl⟩ ⟨rfl, fun _ _ => rfl⟩ ⟨rfl, fun _ _ => rfl⟩ ⟨rfl, fun _ _ => rfl⟩ ⟨rfl, fun _ _ => rfl⟩ ⟨rfl, fun _ _ => rfl⟩ l f hz)

theorem lifted (os : Os) (started : os.Started) (H : Type) (enc : TypeId × Value → H) :
    ReturnsInHanded {} Try.checked os 7 .any (Rows.weightLeastSpec.pre6 enc Try.prog Try.f7 Rows.weightLeastRow.domain false) (Rows.weightLeastSpec.post enc Try.prog Try.f7 false true false false) := by
  refine returnsInHanded_of_change (C := Try.checked) own started (by kernel_rfl) Try.func7
    (ChangeSpec.witness6 (enc := enc) (C := Try.checked) false ⟨#[], #[.slice none 0 0], []⟩ 8 (by kernel_rfl) (by kernel_rfl) (by kernel_rfl) (by kernel_rfl)) ?_
  intro W base args ds gs before hval hW _ _
  refine law_contract (ss := [.sl (.int .u64)]) (by kernel_rfl) (by kernel_rfl) (by kernel_rfl) rfl (by kernel_rfl) Try.underlying4 law hval hW (noTab (by kernel_rfl) W) fun p hp => ?_
  have hn := trodAll_len hp
  rw [Try.params7] at hn
  match ds, hn with
  | [d0], _ => exact ⟨rfl, rfl, rfl⟩

theorem over : Rows.weightLeastRow.holds Try.pinned (OpenSpec.ofChange Rows.weightLeastSpec) :=
  OpenClaim.holds_of_wide 7 Try.f7 rfl rfl rfl rfl rfl rfl rfl ⟨rfl, rfl, rfl, rfl, rfl⟩ rfl rfl rfl rfl rfl (by kernel_rfl) Try.func7 (by kernel_rfl)
    (of_decide_eq_true (by kernel_rfl)) (by unfold Func.isWrapper; first | (rw [if_pos (by decide +kernel)]; kernel_rfl) | (rw [if_neg (by decide +kernel)]; exact ⟨rfl, rfl⟩))
    (fun os started H enc _ => lifted os started H enc)

theorem weightLeast_proved : Rows.WeightLeastSaid := over
end Go.Proofs.Ytlphhmgfjdecjaa.weightLeast
