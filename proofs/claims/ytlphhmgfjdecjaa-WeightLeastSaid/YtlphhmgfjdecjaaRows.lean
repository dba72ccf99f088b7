/-
  No cell of these rows narrows 'for every input' (looked for: loops, veiled, ifaces, maps, wideKeys, modest, calm, conditions, laid).
  DERIVED. THE GIVEN ROWS OF THIS SEAT. 5 by the template 'for every input the law returns true; each argument reads behind the call as it read before'; 0 by the template 'total and deterministic' (their statements: YtlphhmgfjdecjaaTotals.lean).
  GIVEN WITH THE SEED: the statements are not yours to turn. If you find one false, say at which input.
  Laid BY PROGRAM, IN A SANDBOX (cutbox-rows.mjs): the forced cells as the released guide's own fill.sh prints them over the translation 6ad1314a8af867f0… (all of the seat's roots in one cut). By AI agents, Wed Nov 11 2026. No macro, syntax, notation, axiom, sorry.
-/
import Derived.Test.YtlphhmgfjdecjaaChecked
import GoSem.Claim
import GoSem.ClaimJoined
import GoSem.ClaimMapViews
import Derived.JoinedTies
import Derived.KernelRfl
namespace Go.Proofs.Ytlphhmgfjdecjaa
/- THE CELL 'sum', in the pinned program and in every row, IS THE sha256 OF THE DUMP (.gsa) THAT YtlphhmgfjdecjaaProg.lean LOADS. Nothing in Lean hashes anything: it is a label: what it is worth is what the hold of that sum in a sandbox is worth. -/
noncomputable def Try.pinned : Pinned := { name := "ytlphhmgfjdecjaa", sum := "6ad1314a8af867f0a49fce137535b03807649cf61b639cd4c9f333355dc25369", checked := Try.checked }
namespace Rows
def none {H : Type} : Left H := { results := [], args := [] }

/-- 'selvagelaw03.WeightLess': WHATEVER THE INPUT: true; the input reads as it did. -/
def weightLessSpec : ChangeSpec := { name := "weightLess", fn := fun _ => fun
  | [d1, d2] => { results := [.lit (.bool true)], args := [d1, d2] }
  | _ => none }
def weightLessRow : OpenClaim := { program := "ytlphhmgfjdecjaa", sum := "6ad1314a8af867f0a49fce137535b03807649cf61b639cd4c9f333355dc25369", func := "selvage/selvagelaw03.WeightLess", spec := "weightLess", inPlace := ["math.Float64bits", "math.Float64frombits"], apart := false }
def WeightLessSaid : Prop := weightLessRow.holds Try.pinned (OpenSpec.ofChange weightLessSpec)

/-- ITS FALSE NEIGHBOUR: 'it returns false'. Refute it at one input. -/
def weightLessWrong : ChangeSpec := { name := "weightLess", fn := fun _ => fun
  | [d1, d2] => { results := [.lit (.bool false)], args := [d1, d2] }
  | _ => none }
def WeightLessWrongFalsely : Prop := weightLessRow.holds Try.pinned (OpenSpec.ofChange weightLessWrong)

/-- 'selvagelaw03.WeightOrder': WHATEVER THE INPUT: true; the input reads as it did. -/
def weightOrderSpec : ChangeSpec := { name := "weightOrder", fn := fun _ => fun
  | [d1, d2, d3] => { results := [.lit (.bool true)], args := [d1, d2, d3] }
  | _ => none }
def weightOrderRow : OpenClaim := { program := "ytlphhmgfjdecjaa", sum := "6ad1314a8af867f0a49fce137535b03807649cf61b639cd4c9f333355dc25369", func := "selvage/selvagelaw03.WeightOrder", spec := "weightOrder", inPlace := ["math.Float64bits", "math.Float64frombits"], apart := false }
def WeightOrderSaid : Prop := weightOrderRow.holds Try.pinned (OpenSpec.ofChange weightOrderSpec)

/-- ITS FALSE NEIGHBOUR: 'it returns false'. Refute it at one input. -/
def weightOrderWrong : ChangeSpec := { name := "weightOrder", fn := fun _ => fun
  | [d1, d2, d3] => { results := [.lit (.bool false)], args := [d1, d2, d3] }
  | _ => none }
def WeightOrderWrongFalsely : Prop := weightOrderRow.holds Try.pinned (OpenSpec.ofChange weightOrderWrong)

/-- 'selvagelaw03.WeightTurned': WHATEVER THE INPUT: true; the input reads as it did. -/
def weightTurnedSpec : ChangeSpec := { name := "weightTurned", fn := fun _ => fun
  | [d1, d2] => { results := [.lit (.bool true)], args := [d1, d2] }
  | _ => none }
def weightTurnedRow : OpenClaim := { program := "ytlphhmgfjdecjaa", sum := "6ad1314a8af867f0a49fce137535b03807649cf61b639cd4c9f333355dc25369", func := "selvage/selvagelaw03.WeightTurned", spec := "weightTurned", inPlace := ["math.Float64bits", "math.Float64frombits"], apart := false }
def WeightTurnedSaid : Prop := weightTurnedRow.holds Try.pinned (OpenSpec.ofChange weightTurnedSpec)

/-- ITS FALSE NEIGHBOUR: 'it returns false'. Refute it at one input. -/
def weightTurnedWrong : ChangeSpec := { name := "weightTurned", fn := fun _ => fun
  | [d1, d2] => { results := [.lit (.bool false)], args := [d1, d2] }
  | _ => none }
def WeightTurnedWrongFalsely : Prop := weightTurnedRow.holds Try.pinned (OpenSpec.ofChange weightTurnedWrong)

/-- 'selvagelaw03.WeightOf': WHATEVER THE INPUT: true; the input reads as it did. -/
def weightOfSpec : ChangeSpec := { name := "weightOf", fn := fun _ => fun
  | [d1, d2] => { results := [.lit (.bool true)], args := [d1, d2] }
  | _ => none }
def weightOfRow : OpenClaim := { program := "ytlphhmgfjdecjaa", sum := "6ad1314a8af867f0a49fce137535b03807649cf61b639cd4c9f333355dc25369", func := "selvage/selvagelaw03.WeightOf", spec := "weightOf", inPlace := ["math.Float64bits", "math.Float64frombits"], apart := false }
def WeightOfSaid : Prop := weightOfRow.holds Try.pinned (OpenSpec.ofChange weightOfSpec)

/-- ITS FALSE NEIGHBOUR: 'it returns false'. Refute it at one input. -/
def weightOfWrong : ChangeSpec := { name := "weightOf", fn := fun _ => fun
  | [d1, d2] => { results := [.lit (.bool false)], args := [d1, d2] }
  | _ => none }
def WeightOfWrongFalsely : Prop := weightOfRow.holds Try.pinned (OpenSpec.ofChange weightOfWrong)

/-- 'selvagelaw03.WeightLeast': WHATEVER THE INPUT: true; the input reads as it did. -/
def weightLeastSpec : ChangeSpec := { name := "weightLeast", fn := fun _ => fun
  | [d] => { results := [.lit (.bool true)], args := [d] }
  | _ => none }
def weightLeastRow : OpenClaim := { program := "ytlphhmgfjdecjaa", sum := "6ad1314a8af867f0a49fce137535b03807649cf61b639cd4c9f333355dc25369", func := "selvage/selvagelaw03.WeightLeast", spec := "weightLeast", inPlace := ["math.Float64bits", "math.Float64frombits"], unfollowed := true, recurses := true, apart := false }
def WeightLeastSaid : Prop := weightLeastRow.holds Try.pinned (OpenSpec.ofChange weightLeastSpec)

/-- ITS FALSE NEIGHBOUR: 'it returns false'. Refute it at one input. -/
def weightLeastWrong : ChangeSpec := { name := "weightLeast", fn := fun _ => fun
  | [d] => { results := [.lit (.bool false)], args := [d] }
  | _ => none }
def WeightLeastWrongFalsely : Prop := weightLeastRow.holds Try.pinned (OpenSpec.ofChange weightLeastWrong)

/- THE SECOND FORM. 'bulk': how many values and letters a reading holds, each counted each time it is reached (what is shared counts as often as it is met; a slice's spare places count too). A statement '..UptoSaid' is the law's where the arguments, and the package variables that the reading takes, are together of bulk at most 1048576: NARROWER than '..Said'. Prove '..Said' where nothing that the law and all that it calls make is longer than what came in: it says more and counts as full. Else prove '..UptoSaid'. A law counts once. -/
mutual
def uptoBulk {H : Type} : DataW H → Nat
  | .lit (.string bytes) => bytes.length + 1
  | .lit _ => 1
  | .nil => 1
  | .ptr d => uptoBulk d + 1
  | .slice elems spare => uptoBulkAll elems + uptoBulkAll spare + 1
  | .agg parts => uptoBulkAll parts + 1
  | .iface _ d => uptoBulk d + 1
  | .map entries => uptoBulkEntries entries + 1
  | .held _ => 1
def uptoBulkAll {H : Type} : List (DataW H) → Nat
  | [] => 0
  | d :: r => uptoBulk d + uptoBulkAll r
def uptoBulkEntries {H : Type} : List (Lit × DataW H) → Nat
  | [] => 0
  | x :: r => uptoBulkEntry x + uptoBulkEntries r
def uptoBulkEntry {H : Type} : Lit × DataW H → Nat
  | (.string bytes, d) => bytes.length + uptoBulk d + 1
  | (_, d) => uptoBulk d + 1
 end
def uptoSmall : (H : Type) → List (DataW H) → Bool := fun _ ds => decide (uptoBulkAll ds ≤ 1048576)
def OpenSpec.upto (s : _root_.Go.ChangeSpec) : _root_.Go.OpenSpec := { _root_.Go.OpenSpec.ofChange s with cond := some uptoSmall }

/-- 'selvagelaw03.WeightLess', WHERE WHAT IT READS IS OF BULK AT MOST 1048576: true; the input reads as it did. -/
def weightLessUptoRow : OpenClaim := { program := "ytlphhmgfjdecjaa", sum := "6ad1314a8af867f0a49fce137535b03807649cf61b639cd4c9f333355dc25369", func := "selvage/selvagelaw03.WeightLess", spec := "weightLess", inPlace := ["math.Float64bits", "math.Float64frombits"], apart := false, narrowed := true }
def WeightLessUptoSaid : Prop := weightLessUptoRow.holds Try.pinned (OpenSpec.upto weightLessSpec)

/-- 'selvagelaw03.WeightOrder', WHERE WHAT IT READS IS OF BULK AT MOST 1048576: true; the input reads as it did. -/
def weightOrderUptoRow : OpenClaim := { program := "ytlphhmgfjdecjaa", sum := "6ad1314a8af867f0a49fce137535b03807649cf61b639cd4c9f333355dc25369", func := "selvage/selvagelaw03.WeightOrder", spec := "weightOrder", inPlace := ["math.Float64bits", "math.Float64frombits"], apart := false, narrowed := true }
def WeightOrderUptoSaid : Prop := weightOrderUptoRow.holds Try.pinned (OpenSpec.upto weightOrderSpec)

/-- 'selvagelaw03.WeightTurned', WHERE WHAT IT READS IS OF BULK AT MOST 1048576: true; the input reads as it did. -/
def weightTurnedUptoRow : OpenClaim := { program := "ytlphhmgfjdecjaa", sum := "6ad1314a8af867f0a49fce137535b03807649cf61b639cd4c9f333355dc25369", func := "selvage/selvagelaw03.WeightTurned", spec := "weightTurned", inPlace := ["math.Float64bits", "math.Float64frombits"], apart := false, narrowed := true }
def WeightTurnedUptoSaid : Prop := weightTurnedUptoRow.holds Try.pinned (OpenSpec.upto weightTurnedSpec)

/-- 'selvagelaw03.WeightOf', WHERE WHAT IT READS IS OF BULK AT MOST 1048576: true; the input reads as it did. -/
def weightOfUptoRow : OpenClaim := { program := "ytlphhmgfjdecjaa", sum := "6ad1314a8af867f0a49fce137535b03807649cf61b639cd4c9f333355dc25369", func := "selvage/selvagelaw03.WeightOf", spec := "weightOf", inPlace := ["math.Float64bits", "math.Float64frombits"], apart := false, narrowed := true }
def WeightOfUptoSaid : Prop := weightOfUptoRow.holds Try.pinned (OpenSpec.upto weightOfSpec)

/-- 'selvagelaw03.WeightLeast', WHERE WHAT IT READS IS OF BULK AT MOST 1048576: true; the input reads as it did. -/
def weightLeastUptoRow : OpenClaim := { program := "ytlphhmgfjdecjaa", sum := "6ad1314a8af867f0a49fce137535b03807649cf61b639cd4c9f333355dc25369", func := "selvage/selvagelaw03.WeightLeast", spec := "weightLeast", inPlace := ["math.Float64bits", "math.Float64frombits"], unfollowed := true, recurses := true, apart := false, narrowed := true }
def WeightLeastUptoSaid : Prop := weightLeastUptoRow.holds Try.pinned (OpenSpec.upto weightLeastSpec)

end Rows
end Go.Proofs.Ytlphhmgfjdecjaa
