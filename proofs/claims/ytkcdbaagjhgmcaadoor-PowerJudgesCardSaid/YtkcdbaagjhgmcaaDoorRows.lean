/-
  NARROWER THAN 'FOR EVERY INPUT', by the rows' own cells (each row's printed sentence says how): PowerNone: laid · PowerRenamed: laid · PowerJudges: laid · PowerThreads: laid · PowerOrdered: laid · PowerMore: laid.
  DERIVED. THE GIVEN ROWS OF THIS SEAT. 6 by the template 'for every input the law returns true; each argument reads behind the call as it read before'; 0 by the template 'total and deterministic' (their statements: YtkcdbaagjhgmcaaDoorTotals.lean).
  GIVEN WITH THE SEED: the statements are not yours to turn. If you find one false, say at which input.
  Laid BY PROGRAM, IN A SANDBOX (cutbox-rows.mjs): the forced cells as the released guide's own fill.sh prints them over the translation b8504caebb747c28… (all of the seat's roots in one cut). By AI agents, Wed Nov 11 2026. No macro, syntax, notation, axiom, sorry.
-/
import Derived.Test.YtkcdbaagjhgmcaaDoorChecked
import GoSem.Claim
import GoSem.ClaimJoined
import GoSem.ClaimMapViews
import Derived.JoinedTies
import Derived.KernelRfl
namespace Go.Proofs.YtkcdbaagjhgmcaaDoor
/- THE CELL 'sum', in the pinned program and in every row, IS THE sha256 OF THE DUMP (.gsa) THAT YtkcdbaagjhgmcaaDoorProg.lean LOADS. Nothing in Lean hashes anything: it is a label: what it is worth is what the hold of that sum in a sandbox is worth. -/
noncomputable def Tryd.pinned : Pinned := { name := "ytkcdbaagjhgmcaadoor", sum := "b8504caebb747c28ac880f8893c1c9f5599187b87e3ac05bd8ad25388f70ce30", checked := Tryd.checked }
namespace Rows
def none {H : Type} : Left H := { results := [], args := [] }

/- WHAT THE LISTED PACKAGE-LEVEL VARIABLES READ AS WHEN THE CALL BEGINS. Each datum BY PROGRAM (the guide's laid-datum.mjs) off the statement by which the dump's own 'gosem.cut.vars' lays the variable. In a bare row this is a premise. The card (YtkcdbaagjhgmcaaDoorCards.lean) ties it to the program's text. -/
def laid_math_bits_deBruijn64tab {H : Type} : DataW H := .agg [.lit (.int .u8 0), .lit (.int .u8 1), .lit (.int .u8 56), .lit (.int .u8 2), .lit (.int .u8 57), .lit (.int .u8 49), .lit (.int .u8 28), .lit (.int .u8 3), .lit (.int .u8 61), .lit (.int .u8 58), .lit (.int .u8 42), .lit (.int .u8 50), .lit (.int .u8 38), .lit (.int .u8 29), .lit (.int .u8 17), .lit (.int .u8 4), .lit (.int .u8 62), .lit (.int .u8 47), .lit (.int .u8 59), .lit (.int .u8 36), .lit (.int .u8 45), .lit (.int .u8 43), .lit (.int .u8 51), .lit (.int .u8 22), .lit (.int .u8 53), .lit (.int .u8 39), .lit (.int .u8 33), .lit (.int .u8 30), .lit (.int .u8 24), .lit (.int .u8 18), .lit (.int .u8 12), .lit (.int .u8 5), .lit (.int .u8 63), .lit (.int .u8 55), .lit (.int .u8 48), .lit (.int .u8 27), .lit (.int .u8 60), .lit (.int .u8 41), .lit (.int .u8 37), .lit (.int .u8 16), .lit (.int .u8 46), .lit (.int .u8 35), .lit (.int .u8 44), .lit (.int .u8 21), .lit (.int .u8 52), .lit (.int .u8 32), .lit (.int .u8 23), .lit (.int .u8 11), .lit (.int .u8 54), .lit (.int .u8 26), .lit (.int .u8 40), .lit (.int .u8 15), .lit (.int .u8 34), .lit (.int .u8 20), .lit (.int .u8 31), .lit (.int .u8 10), .lit (.int .u8 25), .lit (.int .u8 14), .lit (.int .u8 19), .lit (.int .u8 9), .lit (.int .u8 13), .lit (.int .u8 8), .lit (.int .u8 7), .lit (.int .u8 6)]

/-- 'selvagelaw19.PowerNone': WHATEVER THE INPUT: true; the input reads as it did. -/
def powerNoneSpec : ChangeSpec := { name := "powerNone", fn := fun _ => fun
  | [d1, d2] => { results := [.lit (.bool true)], args := [d1, d2] }
  | _ => none }
def powerNoneRow : OpenClaim := { program := "ytkcdbaagjhgmcaadoor", sum := "b8504caebb747c28ac880f8893c1c9f5599187b87e3ac05bd8ad25388f70ce30", func := "selvage/selvagelaw19.PowerNone", spec := "powerNone", unfollowed := true, recurses := true, named := ["math/bits.deBruijn64tab"], apart := false, laid := [("math/bits.deBruijn64tab", laid_math_bits_deBruijn64tab)] }
def PowerNoneSaid : Prop := powerNoneRow.holds Tryd.pinned (OpenSpec.ofChange powerNoneSpec)

/-- ITS FALSE NEIGHBOUR: 'it returns false'. Refute it at one input. -/
def powerNoneWrong : ChangeSpec := { name := "powerNone", fn := fun _ => fun
  | [d1, d2] => { results := [.lit (.bool false)], args := [d1, d2] }
  | _ => none }
def PowerNoneWrongFalsely : Prop := powerNoneRow.holds Tryd.pinned (OpenSpec.ofChange powerNoneWrong)

/-- 'selvagelaw19.PowerRenamed': WHATEVER THE INPUT: true; the input reads as it did. -/
def powerRenamedSpec : ChangeSpec := { name := "powerRenamed", fn := fun _ => fun
  | [d1, d2] => { results := [.lit (.bool true)], args := [d1, d2] }
  | _ => none }
def powerRenamedRow : OpenClaim := { program := "ytkcdbaagjhgmcaadoor", sum := "b8504caebb747c28ac880f8893c1c9f5599187b87e3ac05bd8ad25388f70ce30", func := "selvage/selvagelaw19.PowerRenamed", spec := "powerRenamed", unfollowed := true, recurses := true, named := ["math/bits.deBruijn64tab"], apart := false, laid := [("math/bits.deBruijn64tab", laid_math_bits_deBruijn64tab)] }
def PowerRenamedSaid : Prop := powerRenamedRow.holds Tryd.pinned (OpenSpec.ofChange powerRenamedSpec)

/-- ITS FALSE NEIGHBOUR: 'it returns false'. Refute it at one input. -/
def powerRenamedWrong : ChangeSpec := { name := "powerRenamed", fn := fun _ => fun
  | [d1, d2] => { results := [.lit (.bool false)], args := [d1, d2] }
  | _ => none }
def PowerRenamedWrongFalsely : Prop := powerRenamedRow.holds Tryd.pinned (OpenSpec.ofChange powerRenamedWrong)

/-- 'selvagelaw19.PowerJudges': WHATEVER THE INPUT: true; the input reads as it did. -/
def powerJudgesSpec : ChangeSpec := { name := "powerJudges", fn := fun _ => fun
  | [d] => { results := [.lit (.bool true)], args := [d] }
  | _ => none }
def powerJudgesRow : OpenClaim := { program := "ytkcdbaagjhgmcaadoor", sum := "b8504caebb747c28ac880f8893c1c9f5599187b87e3ac05bd8ad25388f70ce30", func := "selvage/selvagelaw19.PowerJudges", spec := "powerJudges", unfollowed := true, recurses := true, named := ["math/bits.deBruijn64tab"], apart := false, laid := [("math/bits.deBruijn64tab", laid_math_bits_deBruijn64tab)] }
def PowerJudgesSaid : Prop := powerJudgesRow.holds Tryd.pinned (OpenSpec.ofChange powerJudgesSpec)

/-- ITS FALSE NEIGHBOUR: 'it returns false'. Refute it at one input. -/
def powerJudgesWrong : ChangeSpec := { name := "powerJudges", fn := fun _ => fun
  | [d] => { results := [.lit (.bool false)], args := [d] }
  | _ => none }
def PowerJudgesWrongFalsely : Prop := powerJudgesRow.holds Tryd.pinned (OpenSpec.ofChange powerJudgesWrong)

/-- 'selvagelaw19.PowerThreads': WHATEVER THE INPUT: true; the input reads as it did. -/
def powerThreadsSpec : ChangeSpec := { name := "powerThreads", fn := fun _ => fun
  | [d1, d2, d3, d4] => { results := [.lit (.bool true)], args := [d1, d2, d3, d4] }
  | _ => none }
def powerThreadsRow : OpenClaim := { program := "ytkcdbaagjhgmcaadoor", sum := "b8504caebb747c28ac880f8893c1c9f5599187b87e3ac05bd8ad25388f70ce30", func := "selvage/selvagelaw19.PowerThreads", spec := "powerThreads", unfollowed := true, recurses := true, named := ["math/bits.deBruijn64tab"], apart := false, laid := [("math/bits.deBruijn64tab", laid_math_bits_deBruijn64tab)] }
def PowerThreadsSaid : Prop := powerThreadsRow.holds Tryd.pinned (OpenSpec.ofChange powerThreadsSpec)

/-- ITS FALSE NEIGHBOUR: 'it returns false'. Refute it at one input. -/
def powerThreadsWrong : ChangeSpec := { name := "powerThreads", fn := fun _ => fun
  | [d1, d2, d3, d4] => { results := [.lit (.bool false)], args := [d1, d2, d3, d4] }
  | _ => none }
def PowerThreadsWrongFalsely : Prop := powerThreadsRow.holds Tryd.pinned (OpenSpec.ofChange powerThreadsWrong)

/-- 'selvagelaw19.PowerOrdered': WHATEVER THE INPUT: true; the input reads as it did. -/
def powerOrderedSpec : ChangeSpec := { name := "powerOrdered", fn := fun _ => fun
  | [d1, d2, d3, d4] => { results := [.lit (.bool true)], args := [d1, d2, d3, d4] }
  | _ => none }
def powerOrderedRow : OpenClaim := { program := "ytkcdbaagjhgmcaadoor", sum := "b8504caebb747c28ac880f8893c1c9f5599187b87e3ac05bd8ad25388f70ce30", func := "selvage/selvagelaw19.PowerOrdered", spec := "powerOrdered", unfollowed := true, recurses := true, named := ["math/bits.deBruijn64tab"], apart := false, laid := [("math/bits.deBruijn64tab", laid_math_bits_deBruijn64tab)] }
def PowerOrderedSaid : Prop := powerOrderedRow.holds Tryd.pinned (OpenSpec.ofChange powerOrderedSpec)

/-- ITS FALSE NEIGHBOUR: 'it returns false'. Refute it at one input. -/
def powerOrderedWrong : ChangeSpec := { name := "powerOrdered", fn := fun _ => fun
  | [d1, d2, d3, d4] => { results := [.lit (.bool false)], args := [d1, d2, d3, d4] }
  | _ => none }
def PowerOrderedWrongFalsely : Prop := powerOrderedRow.holds Tryd.pinned (OpenSpec.ofChange powerOrderedWrong)

/-- 'selvagelaw19.PowerMore': WHATEVER THE INPUT: true; the input reads as it did. -/
def powerMoreSpec : ChangeSpec := { name := "powerMore", fn := fun _ => fun
  | [d1, d2, d3, d4, d5, d6] => { results := [.lit (.bool true)], args := [d1, d2, d3, d4, d5, d6] }
  | _ => none }
def powerMoreRow : OpenClaim := { program := "ytkcdbaagjhgmcaadoor", sum := "b8504caebb747c28ac880f8893c1c9f5599187b87e3ac05bd8ad25388f70ce30", func := "selvage/selvagelaw19.PowerMore", spec := "powerMore", unfollowed := true, recurses := true, named := ["math/bits.deBruijn64tab"], apart := false, laid := [("math/bits.deBruijn64tab", laid_math_bits_deBruijn64tab)] }
def PowerMoreSaid : Prop := powerMoreRow.holds Tryd.pinned (OpenSpec.ofChange powerMoreSpec)

/-- ITS FALSE NEIGHBOUR: 'it returns false'. Refute it at one input. -/
def powerMoreWrong : ChangeSpec := { name := "powerMore", fn := fun _ => fun
  | [d1, d2, d3, d4, d5, d6] => { results := [.lit (.bool false)], args := [d1, d2, d3, d4, d5, d6] }
  | _ => none }
def PowerMoreWrongFalsely : Prop := powerMoreRow.holds Tryd.pinned (OpenSpec.ofChange powerMoreWrong)

/- THE SECOND FORM. 'bulk': how many values and letters a reading holds, each counted each time it is reached (what is shared counts as often as it is met; a slice's spare places count too). A statement '..UptoSaid' is the law's where the arguments, and the package variables that the reading takes, are together of bulk at most 1048576: NARROWER than '..Said'. Prove '..Said' where nothing that the law and all that it calls make is longer than what came in: it says more and counts as full. Else prove '..UptoSaid'. A law counts once. -/
mutual
def uptoBulk {H : Type} : DataW H → Nat
  | .lit (.string bytes) => bytes.length + 1
  | .lit _ => 1
  | .nil => 1
  | .ptr d => uptoBulk d + 1
  | .slice elems spare => uptoBulkAll elems + uptoBulkAll spare + 1
  | .agg parts => uptoBulkAll parts + 1
  | .iface _ d => uptoBulk d + 1
  | .map entries => uptoBulkEntries entries + 1
  | .held _ => 1
def uptoBulkAll {H : Type} : List (DataW H) → Nat
  | [] => 0
  | d :: r => uptoBulk d + uptoBulkAll r
def uptoBulkEntries {H : Type} : List (Lit × DataW H) → Nat
  | [] => 0
  | x :: r => uptoBulkEntry x + uptoBulkEntries r
def uptoBulkEntry {H : Type} : Lit × DataW H → Nat
  | (.string bytes, d) => bytes.length + uptoBulk d + 1
  | (_, d) => uptoBulk d + 1
 end
def uptoSmall : (H : Type) → List (DataW H) → Bool := fun _ ds => decide (uptoBulkAll ds ≤ 1048576)
def OpenSpec.upto (s : _root_.Go.ChangeSpec) : _root_.Go.OpenSpec := { _root_.Go.OpenSpec.ofChange s with cond := some uptoSmall }

/-- 'selvagelaw19.PowerNone', WHERE WHAT IT READS IS OF BULK AT MOST 1048576: true; the input reads as it did. -/
def powerNoneUptoRow : OpenClaim := { program := "ytkcdbaagjhgmcaadoor", sum := "b8504caebb747c28ac880f8893c1c9f5599187b87e3ac05bd8ad25388f70ce30", func := "selvage/selvagelaw19.PowerNone", spec := "powerNone", unfollowed := true, recurses := true, named := ["math/bits.deBruijn64tab"], apart := false, laid := [("math/bits.deBruijn64tab", laid_math_bits_deBruijn64tab)], narrowed := true }
def PowerNoneUptoSaid : Prop := powerNoneUptoRow.holds Tryd.pinned (OpenSpec.upto powerNoneSpec)

/-- 'selvagelaw19.PowerRenamed', WHERE WHAT IT READS IS OF BULK AT MOST 1048576: true; the input reads as it did. -/
def powerRenamedUptoRow : OpenClaim := { program := "ytkcdbaagjhgmcaadoor", sum := "b8504caebb747c28ac880f8893c1c9f5599187b87e3ac05bd8ad25388f70ce30", func := "selvage/selvagelaw19.PowerRenamed", spec := "powerRenamed", unfollowed := true, recurses := true, named := ["math/bits.deBruijn64tab"], apart := false, laid := [("math/bits.deBruijn64tab", laid_math_bits_deBruijn64tab)], narrowed := true }
def PowerRenamedUptoSaid : Prop := powerRenamedUptoRow.holds Tryd.pinned (OpenSpec.upto powerRenamedSpec)

/-- 'selvagelaw19.PowerJudges', WHERE WHAT IT READS IS OF BULK AT MOST 1048576: true; the input reads as it did. -/
def powerJudgesUptoRow : OpenClaim := { program := "ytkcdbaagjhgmcaadoor", sum := "b8504caebb747c28ac880f8893c1c9f5599187b87e3ac05bd8ad25388f70ce30", func := "selvage/selvagelaw19.PowerJudges", spec := "powerJudges", unfollowed := true, recurses := true, named := ["math/bits.deBruijn64tab"], apart := false, laid := [("math/bits.deBruijn64tab", laid_math_bits_deBruijn64tab)], narrowed := true }
def PowerJudgesUptoSaid : Prop := powerJudgesUptoRow.holds Tryd.pinned (OpenSpec.upto powerJudgesSpec)

/-- 'selvagelaw19.PowerThreads', WHERE WHAT IT READS IS OF BULK AT MOST 1048576: true; the input reads as it did. -/
def powerThreadsUptoRow : OpenClaim := { program := "ytkcdbaagjhgmcaadoor", sum := "b8504caebb747c28ac880f8893c1c9f5599187b87e3ac05bd8ad25388f70ce30", func := "selvage/selvagelaw19.PowerThreads", spec := "powerThreads", unfollowed := true, recurses := true, named := ["math/bits.deBruijn64tab"], apart := false, laid := [("math/bits.deBruijn64tab", laid_math_bits_deBruijn64tab)], narrowed := true }
def PowerThreadsUptoSaid : Prop := powerThreadsUptoRow.holds Tryd.pinned (OpenSpec.upto powerThreadsSpec)

/-- 'selvagelaw19.PowerOrdered', WHERE WHAT IT READS IS OF BULK AT MOST 1048576: true; the input reads as it did. -/
def powerOrderedUptoRow : OpenClaim := { program := "ytkcdbaagjhgmcaadoor", sum := "b8504caebb747c28ac880f8893c1c9f5599187b87e3ac05bd8ad25388f70ce30", func := "selvage/selvagelaw19.PowerOrdered", spec := "powerOrdered", unfollowed := true, recurses := true, named := ["math/bits.deBruijn64tab"], apart := false, laid := [("math/bits.deBruijn64tab", laid_math_bits_deBruijn64tab)], narrowed := true }
def PowerOrderedUptoSaid : Prop := powerOrderedUptoRow.holds Tryd.pinned (OpenSpec.upto powerOrderedSpec)

/-- 'selvagelaw19.PowerMore', WHERE WHAT IT READS IS OF BULK AT MOST 1048576: true; the input reads as it did. -/
def powerMoreUptoRow : OpenClaim := { program := "ytkcdbaagjhgmcaadoor", sum := "b8504caebb747c28ac880f8893c1c9f5599187b87e3ac05bd8ad25388f70ce30", func := "selvage/selvagelaw19.PowerMore", spec := "powerMore", unfollowed := true, recurses := true, named := ["math/bits.deBruijn64tab"], apart := false, laid := [("math/bits.deBruijn64tab", laid_math_bits_deBruijn64tab)], narrowed := true }
def PowerMoreUptoSaid : Prop := powerMoreUptoRow.holds Tryd.pinned (OpenSpec.upto powerMoreSpec)

end Rows
end Go.Proofs.YtkcdbaagjhgmcaaDoor
