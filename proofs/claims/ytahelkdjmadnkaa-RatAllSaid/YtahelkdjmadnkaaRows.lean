/-
  No cell of these rows narrows 'for every input' (looked for: loops, veiled, ifaces, maps, wideKeys, modest, calm, conditions, laid).
  DERIVED. THE GIVEN ROWS OF THIS SEAT. 5 by the template 'for every input the law returns true; each argument reads behind the call as it read before'; 0 by the template 'total and deterministic' (their statements: YtahelkdjmadnkaaTotals.lean).
  GIVEN WITH THE SEED: the statements are not yours to turn. If you find one false, say at which input.
  Laid BY PROGRAM, IN A SANDBOX (cutbox-rows.mjs): the forced cells as the released guide's own fill.sh prints them over the translation 16427c8145da2464… (all of the seat's roots in one cut). By AI agents, Wed Nov 11 2026. No macro, syntax, notation, axiom, sorry.
-/
import Derived.Test.YtahelkdjmadnkaaChecked
import GoSem.Claim
import GoSem.ClaimJoined
import GoSem.ClaimMapViews
import Derived.JoinedTies
import Derived.KernelRfl
namespace Go.Proofs.Ytahelkdjmadnkaa
/- THE CELL 'sum', in the pinned program and in every row, IS THE sha256 OF THE DUMP (.gsa) THAT YtahelkdjmadnkaaProg.lean LOADS. Nothing in Lean hashes anything: it is a label: what it is worth is what the hold of that sum in a sandbox is worth. -/
noncomputable def Try.pinned : Pinned := { name := "ytahelkdjmadnkaa", sum := "16427c8145da2464b99064b46191a52f2b3e18a1caa2fa79bef9f1626d99812d", checked := Try.checked }
namespace Rows
def none {H : Type} : Left H := { results := [], args := [] }

/-- 'selvagelaw01.RatOrder': WHATEVER THE INPUT: true; the input reads as it did. -/
def ratOrderSpec : ChangeSpec := { name := "ratOrder", fn := fun _ => fun
  | [d1, d2, d3] => { results := [.lit (.bool true)], args := [d1, d2, d3] }
  | _ => none }
def ratOrderRow : OpenClaim := { program := "ytahelkdjmadnkaa", sum := "16427c8145da2464b99064b46191a52f2b3e18a1caa2fa79bef9f1626d99812d", func := "selvage/selvagelaw01.RatOrder", spec := "ratOrder", apart := false }
def RatOrderSaid : Prop := ratOrderRow.holds Try.pinned (OpenSpec.ofChange ratOrderSpec)

/-- ITS FALSE NEIGHBOUR: 'it returns false'. Refute it at one input. -/
def ratOrderWrong : ChangeSpec := { name := "ratOrder", fn := fun _ => fun
  | [d1, d2, d3] => { results := [.lit (.bool false)], args := [d1, d2, d3] }
  | _ => none }
def RatOrderWrongFalsely : Prop := ratOrderRow.holds Try.pinned (OpenSpec.ofChange ratOrderWrong)

/-- 'selvagelaw01.RatTimes': WHATEVER THE INPUT: true; the input reads as it did. -/
def ratTimesSpec : ChangeSpec := { name := "ratTimes", fn := fun _ => fun
  | [d1, d2, d3] => { results := [.lit (.bool true)], args := [d1, d2, d3] }
  | _ => none }
def ratTimesRow : OpenClaim := { program := "ytahelkdjmadnkaa", sum := "16427c8145da2464b99064b46191a52f2b3e18a1caa2fa79bef9f1626d99812d", func := "selvage/selvagelaw01.RatTimes", spec := "ratTimes", apart := false }
def RatTimesSaid : Prop := ratTimesRow.holds Try.pinned (OpenSpec.ofChange ratTimesSpec)

/-- ITS FALSE NEIGHBOUR: 'it returns false'. Refute it at one input. -/
def ratTimesWrong : ChangeSpec := { name := "ratTimes", fn := fun _ => fun
  | [d1, d2, d3] => { results := [.lit (.bool false)], args := [d1, d2, d3] }
  | _ => none }
def RatTimesWrongFalsely : Prop := ratTimesRow.holds Try.pinned (OpenSpec.ofChange ratTimesWrong)

/-- 'selvagelaw01.RatLeast': WHATEVER THE INPUT: true; the input reads as it did. -/
def ratLeastSpec : ChangeSpec := { name := "ratLeast", fn := fun _ => fun
  | [d1, d2] => { results := [.lit (.bool true)], args := [d1, d2] }
  | _ => none }
def ratLeastRow : OpenClaim := { program := "ytahelkdjmadnkaa", sum := "16427c8145da2464b99064b46191a52f2b3e18a1caa2fa79bef9f1626d99812d", func := "selvage/selvagelaw01.RatLeast", spec := "ratLeast", apart := false }
def RatLeastSaid : Prop := ratLeastRow.holds Try.pinned (OpenSpec.ofChange ratLeastSpec)

/-- ITS FALSE NEIGHBOUR: 'it returns false'. Refute it at one input. -/
def ratLeastWrong : ChangeSpec := { name := "ratLeast", fn := fun _ => fun
  | [d1, d2] => { results := [.lit (.bool false)], args := [d1, d2] }
  | _ => none }
def RatLeastWrongFalsely : Prop := ratLeastRow.holds Try.pinned (OpenSpec.ofChange ratLeastWrong)

/-- 'selvagelaw01.RatBetween': WHATEVER THE INPUT: true; the input reads as it did. -/
def ratBetweenSpec : ChangeSpec := { name := "ratBetween", fn := fun _ => fun
  | [d1, d2] => { results := [.lit (.bool true)], args := [d1, d2] }
  | _ => none }
def ratBetweenRow : OpenClaim := { program := "ytahelkdjmadnkaa", sum := "16427c8145da2464b99064b46191a52f2b3e18a1caa2fa79bef9f1626d99812d", func := "selvage/selvagelaw01.RatBetween", spec := "ratBetween", apart := false }
def RatBetweenSaid : Prop := ratBetweenRow.holds Try.pinned (OpenSpec.ofChange ratBetweenSpec)

/-- ITS FALSE NEIGHBOUR: 'it returns false'. Refute it at one input. -/
def ratBetweenWrong : ChangeSpec := { name := "ratBetween", fn := fun _ => fun
  | [d1, d2] => { results := [.lit (.bool false)], args := [d1, d2] }
  | _ => none }
def RatBetweenWrongFalsely : Prop := ratBetweenRow.holds Try.pinned (OpenSpec.ofChange ratBetweenWrong)

/-- 'selvagelaw01.RatAll': WHATEVER THE INPUT: true; the input reads as it did. -/
def ratAllSpec : ChangeSpec := { name := "ratAll", fn := fun _ => fun
  | [d1, d2] => { results := [.lit (.bool true)], args := [d1, d2] }
  | _ => none }
def ratAllRow : OpenClaim := { program := "ytahelkdjmadnkaa", sum := "16427c8145da2464b99064b46191a52f2b3e18a1caa2fa79bef9f1626d99812d", func := "selvage/selvagelaw01.RatAll", spec := "ratAll", apart := false }
def RatAllSaid : Prop := ratAllRow.holds Try.pinned (OpenSpec.ofChange ratAllSpec)

/-- ITS FALSE NEIGHBOUR: 'it returns false'. Refute it at one input. -/
def ratAllWrong : ChangeSpec := { name := "ratAll", fn := fun _ => fun
  | [d1, d2] => { results := [.lit (.bool false)], args := [d1, d2] }
  | _ => none }
def RatAllWrongFalsely : Prop := ratAllRow.holds Try.pinned (OpenSpec.ofChange ratAllWrong)

/- THE SECOND FORM. 'bulk': how many values and letters a reading holds, each counted each time it is reached (what is shared counts as often as it is met; a slice's spare places count too). A statement '..UptoSaid' is the law's where the arguments, and the package variables that the reading takes, are together of bulk at most 1048576: NARROWER than '..Said'. Prove '..Said' where nothing that the law and all that it calls make is longer than what came in: it says more and counts as full. Else prove '..UptoSaid'. A law counts once. -/
mutual
def uptoBulk {H : Type} : DataW H → Nat
  | .lit (.string bytes) => bytes.length + 1
  | .lit _ => 1
  | .nil => 1
  | .ptr d => uptoBulk d + 1
  | .slice elems spare => uptoBulkAll elems + uptoBulkAll spare + 1
  | .agg parts => uptoBulkAll parts + 1
  | .iface _ d => uptoBulk d + 1
  | .map entries => uptoBulkEntries entries + 1
  | .held _ => 1
def uptoBulkAll {H : Type} : List (DataW H) → Nat
  | [] => 0
  | d :: r => uptoBulk d + uptoBulkAll r
def uptoBulkEntries {H : Type} : List (Lit × DataW H) → Nat
  | [] => 0
  | x :: r => uptoBulkEntry x + uptoBulkEntries r
def uptoBulkEntry {H : Type} : Lit × DataW H → Nat
  | (.string bytes, d) => bytes.length + uptoBulk d + 1
  | (_, d) => uptoBulk d + 1
 end
def uptoSmall : (H : Type) → List (DataW H) → Bool := fun _ ds => decide (uptoBulkAll ds ≤ 1048576)
def OpenSpec.upto (s : _root_.Go.ChangeSpec) : _root_.Go.OpenSpec := { _root_.Go.OpenSpec.ofChange s with cond := some uptoSmall }

/-- 'selvagelaw01.RatOrder', WHERE WHAT IT READS IS OF BULK AT MOST 1048576: true; the input reads as it did. -/
def ratOrderUptoRow : OpenClaim := { program := "ytahelkdjmadnkaa", sum := "16427c8145da2464b99064b46191a52f2b3e18a1caa2fa79bef9f1626d99812d", func := "selvage/selvagelaw01.RatOrder", spec := "ratOrder", apart := false, narrowed := true }
def RatOrderUptoSaid : Prop := ratOrderUptoRow.holds Try.pinned (OpenSpec.upto ratOrderSpec)

/-- 'selvagelaw01.RatTimes', WHERE WHAT IT READS IS OF BULK AT MOST 1048576: true; the input reads as it did. -/
def ratTimesUptoRow : OpenClaim := { program := "ytahelkdjmadnkaa", sum := "16427c8145da2464b99064b46191a52f2b3e18a1caa2fa79bef9f1626d99812d", func := "selvage/selvagelaw01.RatTimes", spec := "ratTimes", apart := false, narrowed := true }
def RatTimesUptoSaid : Prop := ratTimesUptoRow.holds Try.pinned (OpenSpec.upto ratTimesSpec)

/-- 'selvagelaw01.RatLeast', WHERE WHAT IT READS IS OF BULK AT MOST 1048576: true; the input reads as it did. -/
def ratLeastUptoRow : OpenClaim := { program := "ytahelkdjmadnkaa", sum := "16427c8145da2464b99064b46191a52f2b3e18a1caa2fa79bef9f1626d99812d", func := "selvage/selvagelaw01.RatLeast", spec := "ratLeast", apart := false, narrowed := true }
def RatLeastUptoSaid : Prop := ratLeastUptoRow.holds Try.pinned (OpenSpec.upto ratLeastSpec)

/-- 'selvagelaw01.RatBetween', WHERE WHAT IT READS IS OF BULK AT MOST 1048576: true; the input reads as it did. -/
def ratBetweenUptoRow : OpenClaim := { program := "ytahelkdjmadnkaa", sum := "16427c8145da2464b99064b46191a52f2b3e18a1caa2fa79bef9f1626d99812d", func := "selvage/selvagelaw01.RatBetween", spec := "ratBetween", apart := false, narrowed := true }
def RatBetweenUptoSaid : Prop := ratBetweenUptoRow.holds Try.pinned (OpenSpec.upto ratBetweenSpec)

/-- 'selvagelaw01.RatAll', WHERE WHAT IT READS IS OF BULK AT MOST 1048576: true; the input reads as it did. -/
def ratAllUptoRow : OpenClaim := { program := "ytahelkdjmadnkaa", sum := "16427c8145da2464b99064b46191a52f2b3e18a1caa2fa79bef9f1626d99812d", func := "selvage/selvagelaw01.RatAll", spec := "ratAll", apart := false, narrowed := true }
def RatAllUptoSaid : Prop := ratAllUptoRow.holds Try.pinned (OpenSpec.upto ratAllSpec)

end Rows
end Go.Proofs.Ytahelkdjmadnkaa
