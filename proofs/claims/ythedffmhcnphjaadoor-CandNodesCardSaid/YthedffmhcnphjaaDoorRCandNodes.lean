/-
  For every input the Go function selvage/selvagelaw18.CandNodes returns true, and each argument reads behind the call as it read before.
  Conditions: none.
-/
import Derived.Test.YthedffmhcnphjaaDoorRows
import Derived.Test.YthedffmhcnphjaaDoorSeat

import Derived.Test.YthedffmhcnphjaaDoorCards
import Derived.Test.YthedffmhcnphjaaDoorTie
import Derived.Test.YthedffmhcnphjaaDoorAgoTied
import Derived.LaidMore
import Derived.Stop.Joined
import Derived.SevenTiedAt
import Derived.WalkKit
import Derived.ProofKit
import Derived.OpenShut
set_option maxRecDepth 100000
set_option linter.unusedVariables false
set_option linter.unusedSimpArgs false
namespace Go.Proofs.YthedffmhcnphjaaDoor.candNodes
open Go Go.Ago Go.ChangeShapes Go.WideShapes Go.ChangeAt Go.RowKit

theorem own : ownKnob Tryd.prog.godebug = none := by kernel_rfl

theorem law : ∀ xs, HasAll [.sl shLoc, .sl shRun] xs → ACalls Tryd.prog 3 (avs [.sl shLoc, .sl shRun] xs) [] fun r _ => r = .d (.bool true) := by
  intro xs h
  obtain ⟨d1, r1, rfl, h1, h⟩ := h.cons_inv
  obtain ⟨d2, r2, rfl, h2, h⟩ := h.cons_inv
  obtain rfl := h.nil_inv
  obtain ⟨l, f, rfl, -, hl⟩ := has_list (f := LocG.row) (ok := LocG.inn) (fun _ h => has_loc h) h1
  obtain ⟨runs, g, rfl, ha2, ha⟩ := has_list (f := RunG.row) (fun _ h => has_run h) h2
  exact acalls_CandNodes (Nat.le_of_ble_eq_true rfl) (law_CandNodes ⟨rfl, fun _ _ => rfl⟩ ⟨rfl, fun _ _ => rfl⟩ ⟨rfl, fun _ _ => rfl⟩ ⟨rfl, fun _ _ => rfl⟩ l f runs g hl ha ha2)

abbrev laid1 : List (String × DataW Unit) := [("math/bits.deBruijn64tab", Rows.laid_math_bits_deBruijn64tab)]
theorem door_met (os : Os) (args : Array Value) : laidMetH Tryd.prog laid1 ((World.doorLaid Tryd.prog 400 os).forCall (fun _ _ => 0) ⟨#[], args, []⟩).memory :=
  laidMetH_of_parts3 (fuel := 8) (laidMet_of_run' 8 (by kernel_rfl) (by kernel_rfl)) (by kernel_rfl) (by kernel_rfl)
theorem tabAt {W : World} (h : laidMetH Tryd.prog laid1 W) : ∀ b, tabOf Tryd.prog b = true → TableAt W b := by
  rw [MakeChecks.laidMetH_plain _ _ _ (by kernel_rfl)] at h
  exact tab_of_laid (g := 0) (tA := 88) (tE := 5) (by kernel_rfl) (by kernel_rfl) (by kernel_rfl) Tryd.underlying88 Tryd.underlying5 (by kernel_rfl) (by kernel_rfl) h

theorem lifted (os : Os) (started : os.Started) (H : Type) (enc : TypeId × Value → H) :
    ReturnsInHanded {} Tryd.checked os 3 .any (fun w args => (Rows.candNodesSpec.pre enc Tryd.prog Tryd.f3 [] false w args ∧ laidMetH Tryd.prog laid1 w) ∧ sizedMet enc Tryd.prog Tryd.f3 (OpenSpec.ofChange Rows.candNodesSpec) false w args)
      (Rows.candNodesSpec.post enc Tryd.prog Tryd.f3 false true false false) := by
  refine returnsInHanded_of_change_and (C := Tryd.checked) (X := fun w _ => laidMetH Tryd.prog laid1 w) (fun _ _ _ hh h => h.of_heap hh) own started (by kernel_rfl) Tryd.func3
    (ChangeSpec.witness_shaped (enc := enc) (C := Tryd.checked) (os := os) (X := fun w _ => laidMetH Tryd.prog laid1 w) false (World.doorLaid Tryd.prog 400 os) #[.slice none 0 0, .slice none 0 0] 8 rfl (World.shaped_of_RefB (by kernel_rfl) (by kernel_rfl)) (by kernel_rfl) (by kernel_rfl) (by kernel_rfl) (door_met os _)) ?_
  intro W base args ds gs before hval hW _ _ hL _
  refine law_contract (ss := [.sl shLoc, .sl shRun]) (by kernel_rfl) (by kernel_rfl) (by kernel_rfl) rfl (by kernel_rfl) Tryd.underlying4 law hval hW (tabAt hL) fun p hp => ?_
  have hn := trodAll_len hp
  rw [Tryd.params3] at hn
  match ds, hn with
  | [d0, d1], _ => exact ⟨rfl, rfl, rfl⟩

theorem over : Rows.candNodesRow.holds Tryd.pinned (OpenSpec.ofChange Rows.candNodesSpec) :=
  OpenClaim.holds_of_wide 3 Tryd.f3 rfl rfl rfl rfl rfl rfl rfl ⟨rfl, rfl, rfl, rfl, rfl⟩ rfl rfl rfl rfl rfl (by kernel_rfl) Tryd.func3 (by kernel_rfl)
    (of_decide_eq_true (by kernel_rfl)) (by unfold Func.isWrapper; first | (rw [if_pos (by decide +kernel)]; kernel_rfl) | (rw [if_neg (by decide +kernel)]; exact ⟨rfl, rfl⟩))
    (fun os started H enc _ => lifted os started H enc)

theorem candNodes_proved : Rows.CandNodesCardSaid :=
  Claim7.holds_tied_plain_at .later [] [.data] true (true, "81ed64ac68971580b96cac1681b3c829c8ded2b0e74e895287070c877651f8c7") false
    over (fun _ h => by cases h) (by kernel_rfl) (fun _ h => by cases h) candNodes_row_tie rfl ⟨rfl, rfl⟩ (by kernel_rfl) rfl
    (fun f fn hf hfn => by
      obtain rfl : f = 3 := Option.some.inj ((show Tryd.prog.funcNamed "selvage/selvagelaw18.CandNodes" = some 3 by kernel_rfl).symm.trans hf) |>.symm
      obtain rfl : fn = Tryd.f3 := (Option.some.inj (Tryd.func3.symm.trans hfn)).symm
      exact ⟨by kernel_rfl, fun j t ht => by
        have hm : t ∈ Tryd.f3.params.toList := by simpa using Array.mem_of_getElem? ht
        have hall : (Tryd.f3.params.toList.all fun u => !Tryd.prog.wantsStandIn u) = true := by kernel_rfl
        exact (show Tryd.prog.wantsStandIn t = false by simpa using List.all_eq_true.1 hall t hm)⟩)
    (by kernel_rfl)
end Go.Proofs.YthedffmhcnphjaaDoor.candNodes
