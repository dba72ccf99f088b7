/-
  No cell of these rows narrows 'for every input' (looked for: loops, veiled, ifaces, maps, wideKeys, modest, calm, conditions, laid).
  DERIVED. THE GIVEN ROWS OF THIS SEAT. 5 by the template 'for every input the law returns true; each argument reads behind the call as it read before'; 0 by the template 'total and deterministic' (their statements: YtngkcfdkeliedaaTotals.lean).
  GIVEN WITH THE SEED: the statements are not yours to turn. If you find one false, say at which input.
  Laid BY PROGRAM, IN A SANDBOX (cutbox-rows.mjs): the forced cells as the released guide's own fill.sh prints them over the translation 7695bc0caa1b2b74… (all of the seat's roots in one cut). By AI agents, Wed Nov 11 2026. No macro, syntax, notation, axiom, sorry.
-/
import Derived.Test.YtngkcfdkeliedaaChecked
import GoSem.Claim
import GoSem.ClaimJoined
import GoSem.ClaimMapViews
import Derived.JoinedTies
import Derived.KernelRfl
namespace Go.Proofs.Ytngkcfdkeliedaa
/- THE CELL 'sum', in the pinned program and in every row, IS THE sha256 OF THE DUMP (.gsa) THAT YtngkcfdkeliedaaProg.lean LOADS. Nothing in Lean hashes anything: it is a label: what it is worth is what the hold of that sum in a sandbox is worth. -/
noncomputable def Try.pinned : Pinned := { name := "ytngkcfdkeliedaa", sum := "7695bc0caa1b2b74de3c48a11ebd41b7e3a633c86d7c1c3dbf9aeb33bc2d5bf2", checked := Try.checked }
namespace Rows
def none {H : Type} : Left H := { results := [], args := [] }

/-- 'selvagelaw22.RaceOrder': WHATEVER THE INPUT: true; the input reads as it did. -/
def raceOrderSpec : ChangeSpec := { name := "raceOrder", fn := fun _ => fun
  | [d1, d2, d3] => { results := [.lit (.bool true)], args := [d1, d2, d3] }
  | _ => none }
def raceOrderRow : OpenClaim := { program := "ytngkcfdkeliedaa", sum := "7695bc0caa1b2b74de3c48a11ebd41b7e3a633c86d7c1c3dbf9aeb33bc2d5bf2", func := "selvage/selvagelaw22.RaceOrder", spec := "raceOrder", inPlace := ["slices.overlaps[selvage/api.Stamp]"], unfollowed := true, recurses := true, apart := false }
def RaceOrderSaid : Prop := raceOrderRow.holds Try.pinned (OpenSpec.ofChange raceOrderSpec)

/-- ITS FALSE NEIGHBOUR: 'it returns false'. Refute it at one input. -/
def raceOrderWrong : ChangeSpec := { name := "raceOrder", fn := fun _ => fun
  | [d1, d2, d3] => { results := [.lit (.bool false)], args := [d1, d2, d3] }
  | _ => none }
def RaceOrderWrongFalsely : Prop := raceOrderRow.holds Try.pinned (OpenSpec.ofChange raceOrderWrong)

/-- 'selvagelaw22.RaceReads': WHATEVER THE INPUT: true; the input reads as it did. -/
def raceReadsSpec : ChangeSpec := { name := "raceReads", fn := fun _ => fun
  | [d1, d2, d3] => { results := [.lit (.bool true)], args := [d1, d2, d3] }
  | _ => none }
def raceReadsRow : OpenClaim := { program := "ytngkcfdkeliedaa", sum := "7695bc0caa1b2b74de3c48a11ebd41b7e3a633c86d7c1c3dbf9aeb33bc2d5bf2", func := "selvage/selvagelaw22.RaceReads", spec := "raceReads", inPlace := ["slices.overlaps[selvage/api.Stamp]"], unfollowed := true, recurses := true, apart := false }
def RaceReadsSaid : Prop := raceReadsRow.holds Try.pinned (OpenSpec.ofChange raceReadsSpec)

/-- ITS FALSE NEIGHBOUR: 'it returns false'. Refute it at one input. -/
def raceReadsWrong : ChangeSpec := { name := "raceReads", fn := fun _ => fun
  | [d1, d2, d3] => { results := [.lit (.bool false)], args := [d1, d2, d3] }
  | _ => none }
def RaceReadsWrongFalsely : Prop := raceReadsRow.holds Try.pinned (OpenSpec.ofChange raceReadsWrong)

/-- 'selvagelaw22.RaceAll': WHATEVER THE INPUT: true; the input reads as it did. -/
def raceAllSpec : ChangeSpec := { name := "raceAll", fn := fun _ => fun
  | [d1, d2, d3] => { results := [.lit (.bool true)], args := [d1, d2, d3] }
  | _ => none }
def raceAllRow : OpenClaim := { program := "ytngkcfdkeliedaa", sum := "7695bc0caa1b2b74de3c48a11ebd41b7e3a633c86d7c1c3dbf9aeb33bc2d5bf2", func := "selvage/selvagelaw22.RaceAll", spec := "raceAll", inPlace := ["slices.overlaps[selvage/api.Stamp]"], unfollowed := true, recurses := true, apart := false }
def RaceAllSaid : Prop := raceAllRow.holds Try.pinned (OpenSpec.ofChange raceAllSpec)

/-- ITS FALSE NEIGHBOUR: 'it returns false'. Refute it at one input. -/
def raceAllWrong : ChangeSpec := { name := "raceAll", fn := fun _ => fun
  | [d1, d2, d3] => { results := [.lit (.bool false)], args := [d1, d2, d3] }
  | _ => none }
def RaceAllWrongFalsely : Prop := raceAllRow.holds Try.pinned (OpenSpec.ofChange raceAllWrong)

/-- 'selvagelaw22.RaceOne': WHATEVER THE INPUT: true; the input reads as it did. -/
def raceOneSpec : ChangeSpec := { name := "raceOne", fn := fun _ => fun
  | [d1, d2, d3] => { results := [.lit (.bool true)], args := [d1, d2, d3] }
  | _ => none }
def raceOneRow : OpenClaim := { program := "ytngkcfdkeliedaa", sum := "7695bc0caa1b2b74de3c48a11ebd41b7e3a633c86d7c1c3dbf9aeb33bc2d5bf2", func := "selvage/selvagelaw22.RaceOne", spec := "raceOne", inPlace := ["slices.overlaps[selvage/api.Stamp]"], unfollowed := true, recurses := true, apart := false }
def RaceOneSaid : Prop := raceOneRow.holds Try.pinned (OpenSpec.ofChange raceOneSpec)

/-- ITS FALSE NEIGHBOUR: 'it returns false'. Refute it at one input. -/
def raceOneWrong : ChangeSpec := { name := "raceOne", fn := fun _ => fun
  | [d1, d2, d3] => { results := [.lit (.bool false)], args := [d1, d2, d3] }
  | _ => none }
def RaceOneWrongFalsely : Prop := raceOneRow.holds Try.pinned (OpenSpec.ofChange raceOneWrong)

/-- 'selvagelaw22.RaceLatest': WHATEVER THE INPUT: true; the input reads as it did. -/
def raceLatestSpec : ChangeSpec := { name := "raceLatest", fn := fun _ => fun
  | [d1, d2, d3] => { results := [.lit (.bool true)], args := [d1, d2, d3] }
  | _ => none }
def raceLatestRow : OpenClaim := { program := "ytngkcfdkeliedaa", sum := "7695bc0caa1b2b74de3c48a11ebd41b7e3a633c86d7c1c3dbf9aeb33bc2d5bf2", func := "selvage/selvagelaw22.RaceLatest", spec := "raceLatest", inPlace := ["slices.overlaps[selvage/api.Stamp]"], unfollowed := true, recurses := true, apart := false }
def RaceLatestSaid : Prop := raceLatestRow.holds Try.pinned (OpenSpec.ofChange raceLatestSpec)

/-- ITS FALSE NEIGHBOUR: 'it returns false'. Refute it at one input. -/
def raceLatestWrong : ChangeSpec := { name := "raceLatest", fn := fun _ => fun
  | [d1, d2, d3] => { results := [.lit (.bool false)], args := [d1, d2, d3] }
  | _ => none }
def RaceLatestWrongFalsely : Prop := raceLatestRow.holds Try.pinned (OpenSpec.ofChange raceLatestWrong)

/- THE SECOND FORM. 'bulk': how many values and letters a reading holds, each counted each time it is reached (what is shared counts as often as it is met; a slice's spare places count too). A statement '..UptoSaid' is the law's where the arguments, and the package variables that the reading takes, are together of bulk at most 1048576: NARROWER than '..Said'. Prove '..Said' where nothing that the law and all that it calls make is longer than what came in: it says more and counts as full. Else prove '..UptoSaid'. A law counts once. -/
mutual
def uptoBulk {H : Type} : DataW H → Nat
  | .lit (.string bytes) => bytes.length + 1
  | .lit _ => 1
  | .nil => 1
  | .ptr d => uptoBulk d + 1
  | .slice elems spare => uptoBulkAll elems + uptoBulkAll spare + 1
  | .agg parts => uptoBulkAll parts + 1
  | .iface _ d => uptoBulk d + 1
  | .map entries => uptoBulkEntries entries + 1
  | .held _ => 1
def uptoBulkAll {H : Type} : List (DataW H) → Nat
  | [] => 0
  | d :: r => uptoBulk d + uptoBulkAll r
def uptoBulkEntries {H : Type} : List (Lit × DataW H) → Nat
  | [] => 0
  | x :: r => uptoBulkEntry x + uptoBulkEntries r
def uptoBulkEntry {H : Type} : Lit × DataW H → Nat
  | (.string bytes, d) => bytes.length + uptoBulk d + 1
  | (_, d) => uptoBulk d + 1
 end
def uptoSmall : (H : Type) → List (DataW H) → Bool := fun _ ds => decide (uptoBulkAll ds ≤ 1048576)
def OpenSpec.upto (s : _root_.Go.ChangeSpec) : _root_.Go.OpenSpec := { _root_.Go.OpenSpec.ofChange s with cond := some uptoSmall }

/-- 'selvagelaw22.RaceOrder', WHERE WHAT IT READS IS OF BULK AT MOST 1048576: true; the input reads as it did. -/
def raceOrderUptoRow : OpenClaim := { program := "ytngkcfdkeliedaa", sum := "7695bc0caa1b2b74de3c48a11ebd41b7e3a633c86d7c1c3dbf9aeb33bc2d5bf2", func := "selvage/selvagelaw22.RaceOrder", spec := "raceOrder", inPlace := ["slices.overlaps[selvage/api.Stamp]"], unfollowed := true, recurses := true, apart := false, narrowed := true }
def RaceOrderUptoSaid : Prop := raceOrderUptoRow.holds Try.pinned (OpenSpec.upto raceOrderSpec)

/-- 'selvagelaw22.RaceReads', WHERE WHAT IT READS IS OF BULK AT MOST 1048576: true; the input reads as it did. -/
def raceReadsUptoRow : OpenClaim := { program := "ytngkcfdkeliedaa", sum := "7695bc0caa1b2b74de3c48a11ebd41b7e3a633c86d7c1c3dbf9aeb33bc2d5bf2", func := "selvage/selvagelaw22.RaceReads", spec := "raceReads", inPlace := ["slices.overlaps[selvage/api.Stamp]"], unfollowed := true, recurses := true, apart := false, narrowed := true }
def RaceReadsUptoSaid : Prop := raceReadsUptoRow.holds Try.pinned (OpenSpec.upto raceReadsSpec)

/-- 'selvagelaw22.RaceAll', WHERE WHAT IT READS IS OF BULK AT MOST 1048576: true; the input reads as it did. -/
def raceAllUptoRow : OpenClaim := { program := "ytngkcfdkeliedaa", sum := "7695bc0caa1b2b74de3c48a11ebd41b7e3a633c86d7c1c3dbf9aeb33bc2d5bf2", func := "selvage/selvagelaw22.RaceAll", spec := "raceAll", inPlace := ["slices.overlaps[selvage/api.Stamp]"], unfollowed := true, recurses := true, apart := false, narrowed := true }
def RaceAllUptoSaid : Prop := raceAllUptoRow.holds Try.pinned (OpenSpec.upto raceAllSpec)

/-- 'selvagelaw22.RaceOne', WHERE WHAT IT READS IS OF BULK AT MOST 1048576: true; the input reads as it did. -/
def raceOneUptoRow : OpenClaim := { program := "ytngkcfdkeliedaa", sum := "7695bc0caa1b2b74de3c48a11ebd41b7e3a633c86d7c1c3dbf9aeb33bc2d5bf2", func := "selvage/selvagelaw22.RaceOne", spec := "raceOne", inPlace := ["slices.overlaps[selvage/api.Stamp]"], unfollowed := true, recurses := true, apart := false, narrowed := true }
def RaceOneUptoSaid : Prop := raceOneUptoRow.holds Try.pinned (OpenSpec.upto raceOneSpec)

/-- 'selvagelaw22.RaceLatest', WHERE WHAT IT READS IS OF BULK AT MOST 1048576: true; the input reads as it did. -/
def raceLatestUptoRow : OpenClaim := { program := "ytngkcfdkeliedaa", sum := "7695bc0caa1b2b74de3c48a11ebd41b7e3a633c86d7c1c3dbf9aeb33bc2d5bf2", func := "selvage/selvagelaw22.RaceLatest", spec := "raceLatest", inPlace := ["slices.overlaps[selvage/api.Stamp]"], unfollowed := true, recurses := true, apart := false, narrowed := true }
def RaceLatestUptoSaid : Prop := raceLatestUptoRow.holds Try.pinned (OpenSpec.upto raceLatestSpec)

end Rows
end Go.Proofs.Ytngkcfdkeliedaa
