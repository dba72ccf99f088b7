/-
  DERIVED. GIVEN WITH THE SEED: THE CARDS: each row of YthedffmhcnphjaaDoorRows.lean that lists a variable, with what it lists TIED to the program's text (the seventh form; the later family's looks); each row that meets fmt, with fmt's text TOLD by the authors' own Lean function (tested against real Go, not proved from fmt's source: count such statements apart). THE CARD IS WHAT COUNTS. Prove the row's statement (the work); the ties are given (YthedffmhcnphjaaDoorTie.lean); close each card by the builder's one call (the guide's Derived/Test/ToyasCard.lean, 'card_holds'). Laid BY PROGRAM, IN A SANDBOX (cutbox-door.mjs). By AI agents, Wed Nov 11 2026. No macro, syntax, notation, axiom, sorry.
-/
import Derived.Test.YthedffmhcnphjaaDoorRows
import GoSem.ClaimSeven
namespace Go.Proofs.YthedffmhcnphjaaDoor
namespace Rows

/-- THE TIED CARD OF 'selvagelaw18.CandNodes'. -/
def candNodesCard : Claim7 := { stood := { row := candNodesRow, standIns := [], harness := (true, "81ed64ac68971580b96cac1681b3c829c8ded2b0e74e895287070c877651f8c7"), looks := false }, kinds := [], alts := [], laidByText := true, laidKinds := [.data], laidTests := true, laidLooks := .later }
def CandNodesCardSaid : Prop := Claim7.holds Tryd.pinned (.plain (OpenSpec.ofChange candNodesSpec)) candNodesCard

/-- THE TIED CARD OF 'selvagelaw18.CandRels'. -/
def candRelsCard : Claim7 := { stood := { row := candRelsRow, standIns := [], harness := (true, "81ed64ac68971580b96cac1681b3c829c8ded2b0e74e895287070c877651f8c7"), looks := false }, kinds := [], alts := [], laidByText := true, laidKinds := [.data], laidTests := true, laidLooks := .later }
def CandRelsCardSaid : Prop := Claim7.holds Tryd.pinned (.plain (OpenSpec.ofChange candRelsSpec)) candRelsCard

/-- THE SECOND FORM's CARD OF 'selvagelaw18.CandNodes'. -/
def candNodesUptoCard : Claim7 := { stood := { row := candNodesUptoRow, standIns := [], harness := (true, "81ed64ac68971580b96cac1681b3c829c8ded2b0e74e895287070c877651f8c7"), looks := false }, kinds := [], alts := [], laidByText := true, laidKinds := [.data], laidTests := true, laidLooks := .later }
def CandNodesUptoCardSaid : Prop := Claim7.holds Tryd.pinned (.plain (OpenSpec.upto candNodesSpec)) candNodesUptoCard

/-- THE SECOND FORM's CARD OF 'selvagelaw18.CandRels'. -/
def candRelsUptoCard : Claim7 := { stood := { row := candRelsUptoRow, standIns := [], harness := (true, "81ed64ac68971580b96cac1681b3c829c8ded2b0e74e895287070c877651f8c7"), looks := false }, kinds := [], alts := [], laidByText := true, laidKinds := [.data], laidTests := true, laidLooks := .later }
def CandRelsUptoCardSaid : Prop := Claim7.holds Tryd.pinned (.plain (OpenSpec.upto candRelsSpec)) candRelsUptoCard
end Rows
end Go.Proofs.YthedffmhcnphjaaDoor
