/-
  For every input the Go function selvage/selvagelaw03.WeightOrder returns true, and each argument reads behind the call as it read before.
  Conditions: none.
-/
import Derived.Test.YtlphhmgfjdecjaaRows
import Derived.Test.YtlphhmgfjdecjaaSeat
import Derived.Test.YtlphhmgfjdecjaaAgo29
import Derived.WalkKit
import Derived.ProofKit
import Derived.OpenShut
set_option maxRecDepth 100000
set_option linter.unusedVariables false
set_option linter.unusedSimpArgs false
namespace Go.Proofs.Ytlphhmgfjdecjaa.weightOrder
open Go Go.Ago Go.ChangeShapes Go.WideShapes Go.ChangeAt Go.RowKit

theorem own : ownKnob Try.prog.godebug = none := by kernel_rfl

theorem law : ∀ xs, HasAll [.int .u64, .int .u64, .int .u64] xs → ACalls Try.prog 4 (avs [.int .u64, .int .u64, .int .u64] xs) [] fun r _ => r = .d (.bool true) := by
  intro xs h
  obtain ⟨d1, r1, rfl, h1, h⟩ := h.cons_inv
  obtain ⟨d2, r2, rfl, h2, h⟩ := h.cons_inv
  obtain ⟨d3, r3, rfl, h3, h⟩ := h.cons_inv
  obtain rfl := h.nil_inv
  obtain ⟨a, rfl, ha⟩ := has_u64 h1
  obtain ⟨b, rfl, hb⟩ := has_u64 h2
  obtain ⟨c, rfl, hc⟩ := has_u64 h3
  exact acalls_WeightOrder (Nat.le_of_ble_eq_true rfl) (law_WeightOrder ⟨rfl, fun _ _ => rfl⟩ ⟨rfl, fun _ _ => rfl⟩ a b c ha hb hc)

theorem lifted (os : Os) (started : os.Started) (H : Type) (enc : TypeId × Value → H) :
    ReturnsInHanded {} Try.checked os 4 .any (Rows.weightOrderSpec.pre6 enc Try.prog Try.f4 Rows.weightOrderRow.domain false) (Rows.weightOrderSpec.post enc Try.prog Try.f4 false true false false) := by
  refine returnsInHanded_of_change (C := Try.checked) own started (by kernel_rfl) Try.func4
    (ChangeSpec.witness6 (enc := enc) (C := Try.checked) false ⟨#[], #[.int .u64 0, .int .u64 0, .int .u64 0], []⟩ 8 (by kernel_rfl) (by kernel_rfl) (by kernel_rfl) (by kernel_rfl)) ?_
  intro W base args ds gs before hval hW _ _
  refine law_contract (ss := [.int .u64, .int .u64, .int .u64]) (by kernel_rfl) (by kernel_rfl) (by kernel_rfl) rfl (by kernel_rfl) Try.underlying4 law hval hW fun p hp => ?_
  have hn := trodAll_len hp
  rw [Try.params4] at hn
  match ds, hn with
  | [d0, d1, d2], _ => exact ⟨rfl, rfl, rfl⟩

theorem over : Rows.weightOrderRow.holds Try.pinned (OpenSpec.ofChange Rows.weightOrderSpec) :=
  OpenClaim.holds_of_wide 4 Try.f4 rfl rfl rfl rfl rfl rfl rfl ⟨rfl, rfl, rfl, rfl, rfl⟩ rfl rfl rfl rfl rfl (by kernel_rfl) Try.func4 (by kernel_rfl)
    (of_decide_eq_true (by kernel_rfl)) (by unfold Func.isWrapper; first | (rw [if_pos (by decide +kernel)]; kernel_rfl) | (rw [if_neg (by decide +kernel)]; exact ⟨rfl, rfl⟩))
    (fun os started H enc _ => lifted os started H enc)

theorem weightOrder_proved : Rows.WeightOrderSaid := over
end Go.Proofs.Ytlphhmgfjdecjaa.weightOrder
