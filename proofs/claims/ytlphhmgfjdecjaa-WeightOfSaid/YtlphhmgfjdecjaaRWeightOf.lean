/-
  For every input the Go function selvage/selvagelaw03.WeightOf returns true, and each argument reads behind the call as it read before.
  Conditions: none.
-/
import Derived.Test.YtlphhmgfjdecjaaRows
import Derived.Test.YtlphhmgfjdecjaaSeat
import Derived.Test.YtlphhmgfjdecjaaAgo29
import Derived.WalkKit
import Derived.ProofKit
import Derived.OpenShut
set_option maxRecDepth 100000
set_option linter.unusedVariables false
set_option linter.unusedSimpArgs false
namespace Go.Proofs.Ytlphhmgfjdecjaa.weightOf
open Go Go.Ago Go.ChangeShapes Go.WideShapes Go.ChangeAt Go.RowKit

theorem own : ownKnob Try.prog.godebug = none := by kernel_rfl

theorem law : ∀ xs, HasAll [.int .i64, .int .i64] xs → ACalls Try.prog 6 (avs [.int .i64, .int .i64] xs) [] fun r _ => r = .d (.bool true) := by
  intro xs h
  obtain ⟨d1, r1, rfl, h1, h⟩ := h.cons_inv
  obtain ⟨d2, r2, rfl, h2, h⟩ := h.cons_inv
  obtain rfl := h.nil_inv
  obtain ⟨a, rfl, ha⟩ := has_i64 h1
  obtain ⟨b, rfl, hb⟩ := has_i64 h2
  exact acalls_WeightOf (Nat.le_of_ble_eq_true rfl) (law_WeightOf ⟨rfl, fun _ _ => rfl⟩ ⟨rfl, fun _ _ => rfl⟩ ⟨rfl, fun _ _ => rfl⟩ a b ha hb)

theorem lifted (os : Os) (started : os.Started) (H : Type) (enc : TypeId × Value → H) :
    ReturnsInHanded {} Try.checked os 6 .any (Rows.weightOfSpec.pre6 enc Try.prog Try.f6 Rows.weightOfRow.domain false) (Rows.weightOfSpec.post enc Try.prog Try.f6 false true false false) := by
  refine returnsInHanded_of_change (C := Try.checked) own started (by kernel_rfl) Try.func6
    (ChangeSpec.witness6 (enc := enc) (C := Try.checked) false ⟨#[], #[.int .i64 0, .int .i64 0], []⟩ 8 (by kernel_rfl) (by kernel_rfl) (by kernel_rfl) (by kernel_rfl)) ?_
  intro W base args ds gs before hval hW _ _
  refine law_contract (ss := [.int .i64, .int .i64]) (by kernel_rfl) (by kernel_rfl) (by kernel_rfl) rfl (by kernel_rfl) Try.underlying4 law hval hW fun p hp => ?_
  have hn := trodAll_len hp
  rw [Try.params6] at hn
  match ds, hn with
  | [d0, d1], _ => exact ⟨rfl, rfl, rfl⟩

theorem over : Rows.weightOfRow.holds Try.pinned (OpenSpec.ofChange Rows.weightOfSpec) :=
  OpenClaim.holds_of_wide 6 Try.f6 rfl rfl rfl rfl rfl rfl rfl ⟨rfl, rfl, rfl, rfl, rfl⟩ rfl rfl rfl rfl rfl (by kernel_rfl) Try.func6 (by kernel_rfl)
    (of_decide_eq_true (by kernel_rfl)) (by unfold Func.isWrapper; first | (rw [if_pos (by decide +kernel)]; kernel_rfl) | (rw [if_neg (by decide +kernel)]; exact ⟨rfl, rfl⟩))
    (fun os started H enc _ => lifted os started H enc)

theorem weightOf_proved : Rows.WeightOfSaid := over
end Go.Proofs.Ytlphhmgfjdecjaa.weightOf
