/-
  For every input the Go function selvage/selvagelaw18.CandRels returns true, and each argument reads behind the call as it read before.
  Conditions: none.
-/
import Derived.Test.YthedffmhcnphjaaDoorRows
import Derived.Test.YthedffmhcnphjaaDoorSeat

import Derived.Test.YthedffmhcnphjaaDoorCards
import Derived.Test.YthedffmhcnphjaaDoorTie
import Derived.Test.YthedffmhcnphjaaDoorAgoTied
import Derived.LaidMore
import Derived.Stop.Joined
import Derived.SevenTiedAt
import Derived.WalkKit
import Derived.ProofKit
import Derived.OpenShut
set_option maxRecDepth 100000
set_option linter.unusedVariables false
set_option linter.unusedSimpArgs false
namespace Go.Proofs.YthedffmhcnphjaaDoor.candRels
open Go Go.Ago Go.ChangeShapes Go.WideShapes Go.ChangeAt Go.RowKit

theorem own : ownKnob Tryd.prog.godebug = none := by kernel_rfl

abbrev Q : List (List DV) → Prop := fun xs => ∀ rows full, xs[3]? = some [.list rows full] → ∀ r ∈ rows, ∀ l f, r = [.list l f] → l.length ≤ 17592186044416
theorem law : ∀ xs, HasAll [.sl shLoc, .sl shRun, .sl (.int .i64), .sl shLI18] xs → Q xs → ACalls Tryd.prog 4 (avs [.sl shLoc, .sl shRun, .sl (.int .i64), .sl shLI18] xs) [] fun r _ => r = .d (.bool true) := by
  intro xs h hq
  obtain ⟨d1, r1, rfl, h1, h⟩ := h.cons_inv
  obtain ⟨d2, r2, rfl, h2, h⟩ := h.cons_inv
  obtain ⟨d3, r3, rfl, h3, h⟩ := h.cons_inv
  obtain ⟨d4, r4, rfl, h4, h⟩ := h.cons_inv
  obtain rfl := h.nil_inv
  obtain ⟨l, f, rfl, -, hl⟩ := has_list (f := LocG.row) (ok := LocG.inn) (fun _ h => has_loc h) h1
  obtain ⟨runs, g, rfl, ha2, ha⟩ := has_list (f := RunG.row) (fun _ h => has_run h) h2
  obtain ⟨fr, ff, rfl, -, hf⟩ := has_list (f := rowI) (ok := inI) (fun _ h => has_i64 h) h3
  obtain ⟨order, og, rfl, -, ho⟩ := has_list (f := rowLI) (fun _ h => has_LI18 h) h4
  have hs : smallO order := fun x hx => by
    have := hq _ _ rfl (rowLI x) (List.mem_map.2 ⟨x, hx, rfl⟩) _ _ rfl
    rwa [List.length_map] at this
  exact acalls_CandRels (Nat.le_of_ble_eq_true rfl) (law_CandRelsU ⟨rfl, fun _ _ => rfl⟩ ⟨rfl, fun _ _ => rfl⟩ ⟨rfl, fun _ _ => rfl⟩ ⟨rfl, fun _ _ => rfl⟩ ⟨rfl, fun _ _ => rfl⟩ ⟨rfl, fun _ _ => rfl⟩ ⟨rfl, fun _ _ => rfl⟩ l f runs g fr ff order og ha ha2 hs)

abbrev laid1 : List (String × DataW Unit) := [("math/bits.deBruijn64tab", Rows.laid_math_bits_deBruijn64tab)]
theorem door_met (os : Os) (args : Array Value) : laidMetH Tryd.prog laid1 ((World.doorLaid Tryd.prog 400 os).forCall (fun _ _ => 0) ⟨#[], args, []⟩).memory :=
  laidMetH_of_parts3 (fuel := 8) (laidMet_of_run' 8 (by kernel_rfl) (by kernel_rfl)) (by kernel_rfl) (by kernel_rfl)
theorem tabAt {W : World} (h : laidMetH Tryd.prog laid1 W) : ∀ b, tabOf Tryd.prog b = true → TableAt W b := by
  rw [MakeChecks.laidMetH_plain _ _ _ (by kernel_rfl)] at h
  exact tab_of_laid (g := 0) (tA := 88) (tE := 5) (by kernel_rfl) (by kernel_rfl) (by kernel_rfl) Tryd.underlying88 Tryd.underlying5 (by kernel_rfl) (by kernel_rfl) h

theorem lifted (os : Os) (started : os.Started) (H : Type) (enc : TypeId × Value → H) :
    ReturnsInHanded {} Tryd.checked os 4 .any (fun w args => (Rows.candRelsSpec.pre enc Tryd.prog Tryd.f4 [] false w args ∧ laidMetH Tryd.prog laid1 w) ∧ sizedMet enc Tryd.prog Tryd.f4 (OpenSpec.ofChange Rows.candRelsSpec) false w args)
      (Rows.candRelsSpec.post enc Tryd.prog Tryd.f4 false true false false) := by
  refine returnsInHanded_of_change_and (C := Tryd.checked) (X := fun w _ => laidMetH Tryd.prog laid1 w) (fun _ _ _ hh h => h.of_heap hh) own started (by kernel_rfl) Tryd.func4
    (ChangeSpec.witness_shaped (enc := enc) (C := Tryd.checked) (os := os) (X := fun w _ => laidMetH Tryd.prog laid1 w) false (World.doorLaid Tryd.prog 400 os) #[.slice none 0 0, .slice none 0 0, .slice none 0 0, .slice none 0 0] 8 rfl (World.shaped_of_RefB (by kernel_rfl) (by kernel_rfl)) (by kernel_rfl) (by kernel_rfl) (by kernel_rfl) (door_met os _)) ?_
  intro W base args ds gs before hval hW _ hwt hL _
  refine law_contract_q (ss := [.sl shLoc, .sl shRun, .sl (.int .i64), .sl shLI18]) (by kernel_rfl) (by kernel_rfl) (by kernel_rfl) rfl (by kernel_rfl) Tryd.underlying4 Q law hval hW (tabAt hL) (fun p hA xs hx hrel => fun rows full hxs => order_room (t := 36) (e := 35) (k := 3) (P := Tryd.prog) (j := 3) Tryd.underlying36 Tryd.underlying35 (by kernel_rfl) (by kernel_rfl) (rows_lists (j := 3) hx rfl hxs) hA (by kernel_rfl) (fun v hv => hrel 3 _ v (avs_list (j := 3) (s := shLI18) rfl hxs) hv) hwt) fun p hp => ?_
  have hn := trodAll_len hp
  rw [Tryd.params4] at hn
  match ds, hn with
  | [d0, d1, d2, d3], _ => exact ⟨rfl, rfl, rfl⟩

theorem over : Rows.candRelsRow.holds Tryd.pinned (OpenSpec.ofChange Rows.candRelsSpec) :=
  OpenClaim.holds_of_wide 4 Tryd.f4 rfl rfl rfl rfl rfl rfl rfl ⟨rfl, rfl, rfl, rfl, rfl⟩ rfl rfl rfl rfl rfl (by kernel_rfl) Tryd.func4 (by kernel_rfl)
    (of_decide_eq_true (by kernel_rfl)) (by unfold Func.isWrapper; first | (rw [if_pos (by decide +kernel)]; kernel_rfl) | (rw [if_neg (by decide +kernel)]; exact ⟨rfl, rfl⟩))
    (fun os started H enc _ => lifted os started H enc)

theorem candRels_proved : Rows.CandRelsCardSaid :=
  Claim7.holds_tied_plain_at .later [] [.data] true (true, "81ed64ac68971580b96cac1681b3c829c8ded2b0e74e895287070c877651f8c7") false
    over (fun _ h => by cases h) (by kernel_rfl) (fun _ h => by cases h) candRels_row_tie rfl ⟨rfl, rfl⟩ (by kernel_rfl) rfl
    (fun f fn hf hfn => by
      obtain rfl : f = 4 := Option.some.inj ((show Tryd.prog.funcNamed "selvage/selvagelaw18.CandRels" = some 4 by kernel_rfl).symm.trans hf) |>.symm
      obtain rfl : fn = Tryd.f4 := (Option.some.inj (Tryd.func4.symm.trans hfn)).symm
      exact ⟨by kernel_rfl, fun j t ht => by
        have hm : t ∈ Tryd.f4.params.toList := by simpa using Array.mem_of_getElem? ht
        have hall : (Tryd.f4.params.toList.all fun u => !Tryd.prog.wantsStandIn u) = true := by kernel_rfl
        exact (show Tryd.prog.wantsStandIn t = false by simpa using List.all_eq_true.1 hall t hm)⟩)
    (by kernel_rfl)
end Go.Proofs.YthedffmhcnphjaaDoor.candRels
