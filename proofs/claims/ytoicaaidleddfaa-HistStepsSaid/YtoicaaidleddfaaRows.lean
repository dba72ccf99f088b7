/-
  No cell of these rows narrows 'for every input' (looked for: loops, veiled, ifaces, maps, wideKeys, modest, calm, conditions, laid).
  DERIVED. THE GIVEN ROWS OF THIS SEAT. 5 by the template 'for every input the law returns true; each argument reads behind the call as it read before'; 0 by the template 'total and deterministic' (their statements: YtoicaaidleddfaaTotals.lean).
  GIVEN WITH THE SEED: the statements are not yours to turn. If you find one false, say at which input.
  Laid BY PROGRAM, IN A SANDBOX (cutbox-rows.mjs): the forced cells as the released guide's own fill.sh prints them over the translation 09c6805f867c9a32… (all of the seat's roots in one cut). By AI agents, Wed Nov 11 2026. No macro, syntax, notation, axiom, sorry.
-/
import Derived.Test.YtoicaaidleddfaaChecked
import GoSem.Claim
import GoSem.ClaimJoined
import GoSem.ClaimMapViews
import Derived.JoinedTies
import Derived.KernelRfl
namespace Go.Proofs.Ytoicaaidleddfaa
/- THE CELL 'sum', in the pinned program and in every row, IS THE sha256 OF THE DUMP (.gsa) THAT YtoicaaidleddfaaProg.lean LOADS. Nothing in Lean hashes anything: it is a label: what it is worth is what the hold of that sum in a sandbox is worth. -/
noncomputable def Try.pinned : Pinned := { name := "ytoicaaidleddfaa", sum := "09c6805f867c9a32e72f4546aaebcfe856a9e260c848c92b9dec6cc78721f632", checked := Try.checked }
namespace Rows
def none {H : Type} : Left H := { results := [], args := [] }

/-- 'selvagelaw20.HistSteps': WHATEVER THE INPUT: true; the input reads as it did. -/
def histStepsSpec : ChangeSpec := { name := "histSteps", fn := fun _ => fun
  | [d1, d2, d3] => { results := [.lit (.bool true)], args := [d1, d2, d3] }
  | _ => none }
def histStepsRow : OpenClaim := { program := "ytoicaaidleddfaa", sum := "09c6805f867c9a32e72f4546aaebcfe856a9e260c848c92b9dec6cc78721f632", func := "selvage/selvagelaw20.HistSteps", spec := "histSteps", inPlace := ["slices.overlaps[selvage/api.Stamp]"], unfollowed := true, recurses := true, apart := false }
def HistStepsSaid : Prop := histStepsRow.holds Try.pinned (OpenSpec.ofChange histStepsSpec)

/-- ITS FALSE NEIGHBOUR: 'it returns false'. Refute it at one input. -/
def histStepsWrong : ChangeSpec := { name := "histSteps", fn := fun _ => fun
  | [d1, d2, d3] => { results := [.lit (.bool false)], args := [d1, d2, d3] }
  | _ => none }
def HistStepsWrongFalsely : Prop := histStepsRow.holds Try.pinned (OpenSpec.ofChange histStepsWrong)

/-- 'selvagelaw20.HistOnward': WHATEVER THE INPUT: true; the input reads as it did. -/
def histOnwardSpec : ChangeSpec := { name := "histOnward", fn := fun _ => fun
  | [d1, d2, d3] => { results := [.lit (.bool true)], args := [d1, d2, d3] }
  | _ => none }
def histOnwardRow : OpenClaim := { program := "ytoicaaidleddfaa", sum := "09c6805f867c9a32e72f4546aaebcfe856a9e260c848c92b9dec6cc78721f632", func := "selvage/selvagelaw20.HistOnward", spec := "histOnward", inPlace := ["slices.overlaps[selvage/api.Stamp]"], unfollowed := true, recurses := true, apart := false }
def HistOnwardSaid : Prop := histOnwardRow.holds Try.pinned (OpenSpec.ofChange histOnwardSpec)

/-- ITS FALSE NEIGHBOUR: 'it returns false'. Refute it at one input. -/
def histOnwardWrong : ChangeSpec := { name := "histOnward", fn := fun _ => fun
  | [d1, d2, d3] => { results := [.lit (.bool false)], args := [d1, d2, d3] }
  | _ => none }
def HistOnwardWrongFalsely : Prop := histOnwardRow.holds Try.pinned (OpenSpec.ofChange histOnwardWrong)

/-- 'selvagelaw20.HistOwn': WHATEVER THE INPUT: true; the input reads as it did. -/
def histOwnSpec : ChangeSpec := { name := "histOwn", fn := fun _ => fun
  | [d1, d2, d3, d4] => { results := [.lit (.bool true)], args := [d1, d2, d3, d4] }
  | _ => none }
def histOwnRow : OpenClaim := { program := "ytoicaaidleddfaa", sum := "09c6805f867c9a32e72f4546aaebcfe856a9e260c848c92b9dec6cc78721f632", func := "selvage/selvagelaw20.HistOwn", spec := "histOwn", inPlace := ["slices.overlaps[selvage/api.Stamp]"], unfollowed := true, recurses := true, apart := false }
def HistOwnSaid : Prop := histOwnRow.holds Try.pinned (OpenSpec.ofChange histOwnSpec)

/-- ITS FALSE NEIGHBOUR: 'it returns false'. Refute it at one input. -/
def histOwnWrong : ChangeSpec := { name := "histOwn", fn := fun _ => fun
  | [d1, d2, d3, d4] => { results := [.lit (.bool false)], args := [d1, d2, d3, d4] }
  | _ => none }
def HistOwnWrongFalsely : Prop := histOwnRow.holds Try.pinned (OpenSpec.ofChange histOwnWrong)

/-- 'selvagelaw20.HistSwap': WHATEVER THE INPUT: true; the input reads as it did. -/
def histSwapSpec : ChangeSpec := { name := "histSwap", fn := fun _ => fun
  | [d1, d2, d3, d4, d5] => { results := [.lit (.bool true)], args := [d1, d2, d3, d4, d5] }
  | _ => none }
def histSwapRow : OpenClaim := { program := "ytoicaaidleddfaa", sum := "09c6805f867c9a32e72f4546aaebcfe856a9e260c848c92b9dec6cc78721f632", func := "selvage/selvagelaw20.HistSwap", spec := "histSwap", inPlace := ["slices.overlaps[selvage/api.Stamp]"], unfollowed := true, recurses := true, apart := false }
def HistSwapSaid : Prop := histSwapRow.holds Try.pinned (OpenSpec.ofChange histSwapSpec)

/-- ITS FALSE NEIGHBOUR: 'it returns false'. Refute it at one input. -/
def histSwapWrong : ChangeSpec := { name := "histSwap", fn := fun _ => fun
  | [d1, d2, d3, d4, d5] => { results := [.lit (.bool false)], args := [d1, d2, d3, d4, d5] }
  | _ => none }
def HistSwapWrongFalsely : Prop := histSwapRow.holds Try.pinned (OpenSpec.ofChange histSwapWrong)

/-- 'selvagelaw20.HistSees': WHATEVER THE INPUT: true; the input reads as it did. -/
def histSeesSpec : ChangeSpec := { name := "histSees", fn := fun _ => fun
  | [d1, d2, d3, d4] => { results := [.lit (.bool true)], args := [d1, d2, d3, d4] }
  | _ => none }
def histSeesRow : OpenClaim := { program := "ytoicaaidleddfaa", sum := "09c6805f867c9a32e72f4546aaebcfe856a9e260c848c92b9dec6cc78721f632", func := "selvage/selvagelaw20.HistSees", spec := "histSees", inPlace := ["slices.overlaps[selvage/api.Stamp]"], unfollowed := true, recurses := true, apart := false }
def HistSeesSaid : Prop := histSeesRow.holds Try.pinned (OpenSpec.ofChange histSeesSpec)

/-- ITS FALSE NEIGHBOUR: 'it returns false'. Refute it at one input. -/
def histSeesWrong : ChangeSpec := { name := "histSees", fn := fun _ => fun
  | [d1, d2, d3, d4] => { results := [.lit (.bool false)], args := [d1, d2, d3, d4] }
  | _ => none }
def HistSeesWrongFalsely : Prop := histSeesRow.holds Try.pinned (OpenSpec.ofChange histSeesWrong)

/- THE SECOND FORM. 'bulk': how many values and letters a reading holds, each counted each time it is reached (what is shared counts as often as it is met; a slice's spare places count too). A statement '..UptoSaid' is the law's where the arguments, and the package variables that the reading takes, are together of bulk at most 1048576: NARROWER than '..Said'. Prove '..Said' where nothing that the law and all that it calls make is longer than what came in: it says more and counts as full. Else prove '..UptoSaid'. A law counts once. -/
mutual
def uptoBulk {H : Type} : DataW H → Nat
  | .lit (.string bytes) => bytes.length + 1
  | .lit _ => 1
  | .nil => 1
  | .ptr d => uptoBulk d + 1
  | .slice elems spare => uptoBulkAll elems + uptoBulkAll spare + 1
  | .agg parts => uptoBulkAll parts + 1
  | .iface _ d => uptoBulk d + 1
  | .map entries => uptoBulkEntries entries + 1
  | .held _ => 1
def uptoBulkAll {H : Type} : List (DataW H) → Nat
  | [] => 0
  | d :: r => uptoBulk d + uptoBulkAll r
def uptoBulkEntries {H : Type} : List (Lit × DataW H) → Nat
  | [] => 0
  | x :: r => uptoBulkEntry x + uptoBulkEntries r
def uptoBulkEntry {H : Type} : Lit × DataW H → Nat
  | (.string bytes, d) => bytes.length + uptoBulk d + 1
  | (_, d) => uptoBulk d + 1
 end
def uptoSmall : (H : Type) → List (DataW H) → Bool := fun _ ds => decide (uptoBulkAll ds ≤ 1048576)
def OpenSpec.upto (s : _root_.Go.ChangeSpec) : _root_.Go.OpenSpec := { _root_.Go.OpenSpec.ofChange s with cond := some uptoSmall }

/-- 'selvagelaw20.HistSteps', WHERE WHAT IT READS IS OF BULK AT MOST 1048576: true; the input reads as it did. -/
def histStepsUptoRow : OpenClaim := { program := "ytoicaaidleddfaa", sum := "09c6805f867c9a32e72f4546aaebcfe856a9e260c848c92b9dec6cc78721f632", func := "selvage/selvagelaw20.HistSteps", spec := "histSteps", inPlace := ["slices.overlaps[selvage/api.Stamp]"], unfollowed := true, recurses := true, apart := false, narrowed := true }
def HistStepsUptoSaid : Prop := histStepsUptoRow.holds Try.pinned (OpenSpec.upto histStepsSpec)

/-- 'selvagelaw20.HistOnward', WHERE WHAT IT READS IS OF BULK AT MOST 1048576: true; the input reads as it did. -/
def histOnwardUptoRow : OpenClaim := { program := "ytoicaaidleddfaa", sum := "09c6805f867c9a32e72f4546aaebcfe856a9e260c848c92b9dec6cc78721f632", func := "selvage/selvagelaw20.HistOnward", spec := "histOnward", inPlace := ["slices.overlaps[selvage/api.Stamp]"], unfollowed := true, recurses := true, apart := false, narrowed := true }
def HistOnwardUptoSaid : Prop := histOnwardUptoRow.holds Try.pinned (OpenSpec.upto histOnwardSpec)

/-- 'selvagelaw20.HistOwn', WHERE WHAT IT READS IS OF BULK AT MOST 1048576: true; the input reads as it did. -/
def histOwnUptoRow : OpenClaim := { program := "ytoicaaidleddfaa", sum := "09c6805f867c9a32e72f4546aaebcfe856a9e260c848c92b9dec6cc78721f632", func := "selvage/selvagelaw20.HistOwn", spec := "histOwn", inPlace := ["slices.overlaps[selvage/api.Stamp]"], unfollowed := true, recurses := true, apart := false, narrowed := true }
def HistOwnUptoSaid : Prop := histOwnUptoRow.holds Try.pinned (OpenSpec.upto histOwnSpec)

/-- 'selvagelaw20.HistSwap', WHERE WHAT IT READS IS OF BULK AT MOST 1048576: true; the input reads as it did. -/
def histSwapUptoRow : OpenClaim := { program := "ytoicaaidleddfaa", sum := "09c6805f867c9a32e72f4546aaebcfe856a9e260c848c92b9dec6cc78721f632", func := "selvage/selvagelaw20.HistSwap", spec := "histSwap", inPlace := ["slices.overlaps[selvage/api.Stamp]"], unfollowed := true, recurses := true, apart := false, narrowed := true }
def HistSwapUptoSaid : Prop := histSwapUptoRow.holds Try.pinned (OpenSpec.upto histSwapSpec)

/-- 'selvagelaw20.HistSees', WHERE WHAT IT READS IS OF BULK AT MOST 1048576: true; the input reads as it did. -/
def histSeesUptoRow : OpenClaim := { program := "ytoicaaidleddfaa", sum := "09c6805f867c9a32e72f4546aaebcfe856a9e260c848c92b9dec6cc78721f632", func := "selvage/selvagelaw20.HistSees", spec := "histSees", inPlace := ["slices.overlaps[selvage/api.Stamp]"], unfollowed := true, recurses := true, apart := false, narrowed := true }
def HistSeesUptoSaid : Prop := histSeesUptoRow.holds Try.pinned (OpenSpec.upto histSeesSpec)

end Rows
end Go.Proofs.Ytoicaaidleddfaa
