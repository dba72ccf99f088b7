/-
  No cell of these rows narrows 'for every input' (looked for: loops, veiled, ifaces, maps, wideKeys, modest, calm, conditions, laid).
  DERIVED. THE GIVEN ROWS OF THIS SEAT. 4 by the template 'for every input the law returns true; each argument reads behind the call as it read before'; 0 by the template 'total and deterministic' (their statements: YtlecedmhdhmonaaTotals.lean).
  GIVEN WITH THE SEED: the statements are not yours to turn. If you find one false, say at which input.
  Laid BY PROGRAM, IN A SANDBOX (cutbox-rows.mjs): the forced cells as the released guide's own fill.sh prints them over the translation cd3dfb2cfc912144… (all of the seat's roots in one cut). By AI agents, Wed Nov 11 2026. No macro, syntax, notation, axiom, sorry.
-/
import Derived.Test.YtlecedmhdhmonaaChecked
import GoSem.Claim
import GoSem.ClaimJoined
import GoSem.ClaimMapViews
import Derived.JoinedTies
import Derived.KernelRfl
namespace Go.Proofs.Ytlecedmhdhmonaa
/- THE CELL 'sum', in the pinned program and in every row, IS THE sha256 OF THE DUMP (.gsa) THAT YtlecedmhdhmonaaProg.lean LOADS. Nothing in Lean hashes anything: it is a label: what it is worth is what the hold of that sum in a sandbox is worth. -/
noncomputable def Try.pinned : Pinned := { name := "ytlecedmhdhmonaa", sum := "cd3dfb2cfc912144dd7b27009aefddba0c84a4e2c7edcf5830b2a89f307b3604", checked := Try.checked }
namespace Rows
def none {H : Type} : Left H := { results := [], args := [] }

/-- 'selvagelaw21.SeqRuns': WHATEVER THE INPUT: true; the input reads as it did. -/
def seqRunsSpec : ChangeSpec := { name := "seqRuns", fn := fun _ => fun
  | [d1, d2] => { results := [.lit (.bool true)], args := [d1, d2] }
  | _ => none }
def seqRunsRow : OpenClaim := { program := "ytlecedmhdhmonaa", sum := "cd3dfb2cfc912144dd7b27009aefddba0c84a4e2c7edcf5830b2a89f307b3604", func := "selvage/selvagelaw21.SeqRuns", spec := "seqRuns", apart := false }
def SeqRunsSaid : Prop := seqRunsRow.holds Try.pinned (OpenSpec.ofChange seqRunsSpec)

/-- ITS FALSE NEIGHBOUR: 'it returns false'. Refute it at one input. -/
def seqRunsWrong : ChangeSpec := { name := "seqRuns", fn := fun _ => fun
  | [d1, d2] => { results := [.lit (.bool false)], args := [d1, d2] }
  | _ => none }
def SeqRunsWrongFalsely : Prop := seqRunsRow.holds Try.pinned (OpenSpec.ofChange seqRunsWrong)

/-- 'selvagelaw21.SeqDo': WHATEVER THE INPUT: true; the input reads as it did. -/
def seqDoSpec : ChangeSpec := { name := "seqDo", fn := fun _ => fun
  | [d1, d2, d3] => { results := [.lit (.bool true)], args := [d1, d2, d3] }
  | _ => none }
def seqDoRow : OpenClaim := { program := "ytlecedmhdhmonaa", sum := "cd3dfb2cfc912144dd7b27009aefddba0c84a4e2c7edcf5830b2a89f307b3604", func := "selvage/selvagelaw21.SeqDo", spec := "seqDo", apart := false }
def SeqDoSaid : Prop := seqDoRow.holds Try.pinned (OpenSpec.ofChange seqDoSpec)

/-- ITS FALSE NEIGHBOUR: 'it returns false'. Refute it at one input. -/
def seqDoWrong : ChangeSpec := { name := "seqDo", fn := fun _ => fun
  | [d1, d2, d3] => { results := [.lit (.bool false)], args := [d1, d2, d3] }
  | _ => none }
def SeqDoWrongFalsely : Prop := seqDoRow.holds Try.pinned (OpenSpec.ofChange seqDoWrong)

/-- 'selvagelaw21.SeqCut': WHATEVER THE INPUT: true; the input reads as it did. -/
def seqCutSpec : ChangeSpec := { name := "seqCut", fn := fun _ => fun
  | [d1, d2, d3] => { results := [.lit (.bool true)], args := [d1, d2, d3] }
  | _ => none }
def seqCutRow : OpenClaim := { program := "ytlecedmhdhmonaa", sum := "cd3dfb2cfc912144dd7b27009aefddba0c84a4e2c7edcf5830b2a89f307b3604", func := "selvage/selvagelaw21.SeqCut", spec := "seqCut", apart := false }
def SeqCutSaid : Prop := seqCutRow.holds Try.pinned (OpenSpec.ofChange seqCutSpec)

/-- ITS FALSE NEIGHBOUR: 'it returns false'. Refute it at one input. -/
def seqCutWrong : ChangeSpec := { name := "seqCut", fn := fun _ => fun
  | [d1, d2, d3] => { results := [.lit (.bool false)], args := [d1, d2, d3] }
  | _ => none }
def SeqCutWrongFalsely : Prop := seqCutRow.holds Try.pinned (OpenSpec.ofChange seqCutWrong)

/-- 'selvagelaw21.SeqLifts': WHATEVER THE INPUT: true; the input reads as it did. -/
def seqLiftsSpec : ChangeSpec := { name := "seqLifts", fn := fun _ => fun
  | [d1, d2] => { results := [.lit (.bool true)], args := [d1, d2] }
  | _ => none }
def seqLiftsRow : OpenClaim := { program := "ytlecedmhdhmonaa", sum := "cd3dfb2cfc912144dd7b27009aefddba0c84a4e2c7edcf5830b2a89f307b3604", func := "selvage/selvagelaw21.SeqLifts", spec := "seqLifts", inPlace := ["slices.overlaps[selvage/api.Stamp]"], unfollowed := true, recurses := true, apart := false }
def SeqLiftsSaid : Prop := seqLiftsRow.holds Try.pinned (OpenSpec.ofChange seqLiftsSpec)

/-- ITS FALSE NEIGHBOUR: 'it returns false'. Refute it at one input. -/
def seqLiftsWrong : ChangeSpec := { name := "seqLifts", fn := fun _ => fun
  | [d1, d2] => { results := [.lit (.bool false)], args := [d1, d2] }
  | _ => none }
def SeqLiftsWrongFalsely : Prop := seqLiftsRow.holds Try.pinned (OpenSpec.ofChange seqLiftsWrong)

/- THE SECOND FORM. 'bulk': how many values and letters a reading holds, each counted each time it is reached (what is shared counts as often as it is met; a slice's spare places count too). A statement '..UptoSaid' is the law's where the arguments, and the package variables that the reading takes, are together of bulk at most 1048576: NARROWER than '..Said'. Prove '..Said' where nothing that the law and all that it calls make is longer than what came in: it says more and counts as full. Else prove '..UptoSaid'. A law counts once. -/
mutual
def uptoBulk {H : Type} : DataW H → Nat
  | .lit (.string bytes) => bytes.length + 1
  | .lit _ => 1
  | .nil => 1
  | .ptr d => uptoBulk d + 1
  | .slice elems spare => uptoBulkAll elems + uptoBulkAll spare + 1
  | .agg parts => uptoBulkAll parts + 1
  | .iface _ d => uptoBulk d + 1
  | .map entries => uptoBulkEntries entries + 1
  | .held _ => 1
def uptoBulkAll {H : Type} : List (DataW H) → Nat
  | [] => 0
  | d :: r => uptoBulk d + uptoBulkAll r
def uptoBulkEntries {H : Type} : List (Lit × DataW H) → Nat
  | [] => 0
  | x :: r => uptoBulkEntry x + uptoBulkEntries r
def uptoBulkEntry {H : Type} : Lit × DataW H → Nat
  | (.string bytes, d) => bytes.length + uptoBulk d + 1
  | (_, d) => uptoBulk d + 1
 end
def uptoSmall : (H : Type) → List (DataW H) → Bool := fun _ ds => decide (uptoBulkAll ds ≤ 1048576)
def OpenSpec.upto (s : _root_.Go.ChangeSpec) : _root_.Go.OpenSpec := { _root_.Go.OpenSpec.ofChange s with cond := some uptoSmall }

/-- 'selvagelaw21.SeqRuns', WHERE WHAT IT READS IS OF BULK AT MOST 1048576: true; the input reads as it did. -/
def seqRunsUptoRow : OpenClaim := { program := "ytlecedmhdhmonaa", sum := "cd3dfb2cfc912144dd7b27009aefddba0c84a4e2c7edcf5830b2a89f307b3604", func := "selvage/selvagelaw21.SeqRuns", spec := "seqRuns", apart := false, narrowed := true }
def SeqRunsUptoSaid : Prop := seqRunsUptoRow.holds Try.pinned (OpenSpec.upto seqRunsSpec)

/-- 'selvagelaw21.SeqDo', WHERE WHAT IT READS IS OF BULK AT MOST 1048576: true; the input reads as it did. -/
def seqDoUptoRow : OpenClaim := { program := "ytlecedmhdhmonaa", sum := "cd3dfb2cfc912144dd7b27009aefddba0c84a4e2c7edcf5830b2a89f307b3604", func := "selvage/selvagelaw21.SeqDo", spec := "seqDo", apart := false, narrowed := true }
def SeqDoUptoSaid : Prop := seqDoUptoRow.holds Try.pinned (OpenSpec.upto seqDoSpec)

/-- 'selvagelaw21.SeqCut', WHERE WHAT IT READS IS OF BULK AT MOST 1048576: true; the input reads as it did. -/
def seqCutUptoRow : OpenClaim := { program := "ytlecedmhdhmonaa", sum := "cd3dfb2cfc912144dd7b27009aefddba0c84a4e2c7edcf5830b2a89f307b3604", func := "selvage/selvagelaw21.SeqCut", spec := "seqCut", apart := false, narrowed := true }
def SeqCutUptoSaid : Prop := seqCutUptoRow.holds Try.pinned (OpenSpec.upto seqCutSpec)

/-- 'selvagelaw21.SeqLifts', WHERE WHAT IT READS IS OF BULK AT MOST 1048576: true; the input reads as it did. -/
def seqLiftsUptoRow : OpenClaim := { program := "ytlecedmhdhmonaa", sum := "cd3dfb2cfc912144dd7b27009aefddba0c84a4e2c7edcf5830b2a89f307b3604", func := "selvage/selvagelaw21.SeqLifts", spec := "seqLifts", inPlace := ["slices.overlaps[selvage/api.Stamp]"], unfollowed := true, recurses := true, apart := false, narrowed := true }
def SeqLiftsUptoSaid : Prop := seqLiftsUptoRow.holds Try.pinned (OpenSpec.upto seqLiftsSpec)

end Rows
end Go.Proofs.Ytlecedmhdhmonaa
