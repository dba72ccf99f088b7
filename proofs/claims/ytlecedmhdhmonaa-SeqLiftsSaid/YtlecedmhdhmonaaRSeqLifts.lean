/-
  For every input the Go function selvage/selvagelaw21.SeqLifts returns true, and each argument reads behind the call as it read before.
  Conditions: none.
-/
import Derived.Test.YtlecedmhdhmonaaRows
import Derived.Test.YtlecedmhdhmonaaSeat

import Derived.WalkKit
import Derived.ProofKit
import Derived.OpenShut
set_option maxRecDepth 100000
set_option linter.unusedVariables false
set_option linter.unusedSimpArgs false
namespace Go.Proofs.Ytlecedmhdhmonaa.seqLifts
open Go Go.Ago Go.ChangeShapes Go.WideShapes Go.ChangeAt Go.RowKit

theorem own : ownKnob Try.prog.godebug = none := by kernel_rfl

theorem law : ∀ xs, HasAll [.sl shLoc, .sl shStep] xs → ACalls Try.prog 6 (avs [.sl shLoc, .sl shStep] xs) [] fun r _ => r = .d (.bool true) := by
  intro xs h
  obtain ⟨d1, r1, rfl, h1, h⟩ := h.cons_inv
  obtain ⟨d2, r2, rfl, h2, h⟩ := h.cons_inv
  obtain rfl := h.nil_inv
  obtain ⟨l, f, rfl, -, hl⟩ := has_list (f := LocG.row) (ok := LocG.inn) (fun _ h => has_loc h) h1
  obtain ⟨s, g, rfl, -, hs⟩ := has_list (f := StepG.row) (ok := StepG.inn) (fun _ h => has_step h) h2
  exact acalls_SeqLifts (Nat.le_of_ble_eq_true rfl) (law_SeqLifts ⟨rfl, fun _ _ => rfl⟩ ⟨rfl, fun _ _ => rfl⟩ ⟨rfl, fun _ _ => rfl⟩ ⟨rfl, fun _ _ => rfl⟩ ⟨rfl, fun _ _ => rfl⟩ ⟨rfl, fun _ _ => rfl⟩ ⟨rfl, fun _ _ => rfl⟩ l f s g hl hs)

theorem lifted (os : Os) (started : os.Started) (H : Type) (enc : TypeId × Value → H) :
    ReturnsInHanded {} Try.checked os 6 .any (Rows.seqLiftsSpec.pre6 enc Try.prog Try.f6 Rows.seqLiftsRow.domain false) (Rows.seqLiftsSpec.post enc Try.prog Try.f6 false true false false) := by
  refine returnsInHanded_of_change (C := Try.checked) own started (by kernel_rfl) Try.func6
    (ChangeSpec.witness6 (enc := enc) (C := Try.checked) false ⟨#[], #[.slice none 0 0, .slice none 0 0], []⟩ 8 (by kernel_rfl) (by kernel_rfl) (by kernel_rfl) (by kernel_rfl)) ?_
  intro W base args ds gs before hval hW _ _
  refine law_contract (ss := [.sl shLoc, .sl shStep]) (by kernel_rfl) (by kernel_rfl) (by kernel_rfl) rfl (by kernel_rfl) Try.underlying4 law hval hW (noTab (by kernel_rfl) W) fun p hp => ?_
  have hn := trodAll_len hp
  rw [Try.params6] at hn
  match ds, hn with
  | [d0, d1], _ => exact ⟨rfl, rfl, rfl⟩

theorem over : Rows.seqLiftsRow.holds Try.pinned (OpenSpec.ofChange Rows.seqLiftsSpec) :=
  OpenClaim.holds_of_wide 6 Try.f6 rfl rfl rfl rfl rfl rfl rfl ⟨rfl, rfl, rfl, rfl, rfl⟩ rfl rfl rfl rfl rfl (by kernel_rfl) Try.func6 (by kernel_rfl)
    (of_decide_eq_true (by kernel_rfl)) (by unfold Func.isWrapper; first | (rw [if_pos (by decide +kernel)]; kernel_rfl) | (rw [if_neg (by decide +kernel)]; exact ⟨rfl, rfl⟩))
    (fun os started H enc _ => lifted os started H enc)

theorem seqLifts_proved : Rows.SeqLiftsSaid := over
end Go.Proofs.Ytlecedmhdhmonaa.seqLifts
