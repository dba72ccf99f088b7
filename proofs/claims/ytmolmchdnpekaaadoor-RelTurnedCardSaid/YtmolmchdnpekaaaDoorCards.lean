/-
  DERIVED. GIVEN WITH THE SEED: THE CARDS: each row of YtmolmchdnpekaaaDoorRows.lean that lists a variable, with what it lists TIED to the program's text (the seventh form; the later family's looks); each row that meets fmt, with fmt's text TOLD by the authors' own Lean function (tested against real Go, not proved from fmt's source: count such statements apart). THE CARD IS WHAT COUNTS. Prove the row's statement (the work); the ties are given (YtmolmchdnpekaaaDoorTie.lean); close each card by the builder's one call (the guide's Derived/Test/ToyasCard.lean, 'card_holds'). Laid BY PROGRAM, IN A SANDBOX (cutbox-door.mjs). By AI agents, Wed Nov 11 2026. No macro, syntax, notation, axiom, sorry.
-/
import Derived.Test.YtmolmchdnpekaaaDoorRows
import GoSem.ClaimSeven
namespace Go.Proofs.YtmolmchdnpekaaaDoor
namespace Rows

/-- THE TIED CARD OF 'selvagelaw02.RelOf'. -/
def relOfCard : Claim7 := { stood := { row := relOfRow, standIns := [], harness := (true, "7a27ae5c5beb5449ff89879370cbf12ea169c3ae259ad8bc8fbdacf7cf024cf2"), looks := false }, kinds := [], alts := [], laidByText := true, laidKinds := [.data], laidTests := true, laidLooks := .later }
def RelOfCardSaid : Prop := Claim7.holds Tryd.pinned (.plain (OpenSpec.ofChange relOfSpec)) relOfCard

/-- THE TIED CARD OF 'selvagelaw02.RelOrder'. -/
def relOrderCard : Claim7 := { stood := { row := relOrderRow, standIns := [], harness := (true, "7a27ae5c5beb5449ff89879370cbf12ea169c3ae259ad8bc8fbdacf7cf024cf2"), looks := false }, kinds := [], alts := [], laidByText := true, laidKinds := [.data], laidTests := true, laidLooks := .later }
def RelOrderCardSaid : Prop := Claim7.holds Tryd.pinned (.plain (OpenSpec.ofChange relOrderSpec)) relOrderCard

/-- THE TIED CARD OF 'selvagelaw02.RelTurned'. -/
def relTurnedCard : Claim7 := { stood := { row := relTurnedRow, standIns := [], harness := (true, "7a27ae5c5beb5449ff89879370cbf12ea169c3ae259ad8bc8fbdacf7cf024cf2"), looks := false }, kinds := [], alts := [], laidByText := true, laidKinds := [.data], laidTests := true, laidLooks := .later }
def RelTurnedCardSaid : Prop := Claim7.holds Tryd.pinned (.plain (OpenSpec.ofChange relTurnedSpec)) relTurnedCard

/-- THE TIED CARD OF 'selvagelaw02.RelLaws'. -/
def relLawsCard : Claim7 := { stood := { row := relLawsRow, standIns := [], harness := (true, "7a27ae5c5beb5449ff89879370cbf12ea169c3ae259ad8bc8fbdacf7cf024cf2"), looks := false }, kinds := [], alts := [], laidByText := true, laidKinds := [.data], laidTests := true, laidLooks := .later }
def RelLawsCardSaid : Prop := Claim7.holds Tryd.pinned (.plain (OpenSpec.ofChange relLawsSpec)) relLawsCard

/-- THE TIED CARD OF 'selvagelaw02.RelAll'. -/
def relAllCard : Claim7 := { stood := { row := relAllRow, standIns := [], harness := (true, "7a27ae5c5beb5449ff89879370cbf12ea169c3ae259ad8bc8fbdacf7cf024cf2"), looks := false }, kinds := [], alts := [], laidByText := true, laidKinds := [.data], laidTests := true, laidLooks := .later }
def RelAllCardSaid : Prop := Claim7.holds Tryd.pinned (.plain (OpenSpec.ofChange relAllSpec)) relAllCard

/-- THE TIED CARD OF 'selvagelaw02.RelWays'. -/
def relWaysCard : Claim7 := { stood := { row := relWaysRow, standIns := [], harness := (true, "7a27ae5c5beb5449ff89879370cbf12ea169c3ae259ad8bc8fbdacf7cf024cf2"), looks := false }, kinds := [], alts := [], laidByText := true, laidKinds := [.data], laidTests := true, laidLooks := .later }
def RelWaysCardSaid : Prop := Claim7.holds Tryd.pinned (.plain (OpenSpec.ofChange relWaysSpec)) relWaysCard

/-- THE SECOND FORM's CARD OF 'selvagelaw02.RelOf'. -/
def relOfUptoCard : Claim7 := { stood := { row := relOfUptoRow, standIns := [], harness := (true, "7a27ae5c5beb5449ff89879370cbf12ea169c3ae259ad8bc8fbdacf7cf024cf2"), looks := false }, kinds := [], alts := [], laidByText := true, laidKinds := [.data], laidTests := true, laidLooks := .later }
def RelOfUptoCardSaid : Prop := Claim7.holds Tryd.pinned (.plain (OpenSpec.upto relOfSpec)) relOfUptoCard

/-- THE SECOND FORM's CARD OF 'selvagelaw02.RelOrder'. -/
def relOrderUptoCard : Claim7 := { stood := { row := relOrderUptoRow, standIns := [], harness := (true, "7a27ae5c5beb5449ff89879370cbf12ea169c3ae259ad8bc8fbdacf7cf024cf2"), looks := false }, kinds := [], alts := [], laidByText := true, laidKinds := [.data], laidTests := true, laidLooks := .later }
def RelOrderUptoCardSaid : Prop := Claim7.holds Tryd.pinned (.plain (OpenSpec.upto relOrderSpec)) relOrderUptoCard

/-- THE SECOND FORM's CARD OF 'selvagelaw02.RelTurned'. -/
def relTurnedUptoCard : Claim7 := { stood := { row := relTurnedUptoRow, standIns := [], harness := (true, "7a27ae5c5beb5449ff89879370cbf12ea169c3ae259ad8bc8fbdacf7cf024cf2"), looks := false }, kinds := [], alts := [], laidByText := true, laidKinds := [.data], laidTests := true, laidLooks := .later }
def RelTurnedUptoCardSaid : Prop := Claim7.holds Tryd.pinned (.plain (OpenSpec.upto relTurnedSpec)) relTurnedUptoCard

/-- THE SECOND FORM's CARD OF 'selvagelaw02.RelLaws'. -/
def relLawsUptoCard : Claim7 := { stood := { row := relLawsUptoRow, standIns := [], harness := (true, "7a27ae5c5beb5449ff89879370cbf12ea169c3ae259ad8bc8fbdacf7cf024cf2"), looks := false }, kinds := [], alts := [], laidByText := true, laidKinds := [.data], laidTests := true, laidLooks := .later }
def RelLawsUptoCardSaid : Prop := Claim7.holds Tryd.pinned (.plain (OpenSpec.upto relLawsSpec)) relLawsUptoCard

/-- THE SECOND FORM's CARD OF 'selvagelaw02.RelAll'. -/
def relAllUptoCard : Claim7 := { stood := { row := relAllUptoRow, standIns := [], harness := (true, "7a27ae5c5beb5449ff89879370cbf12ea169c3ae259ad8bc8fbdacf7cf024cf2"), looks := false }, kinds := [], alts := [], laidByText := true, laidKinds := [.data], laidTests := true, laidLooks := .later }
def RelAllUptoCardSaid : Prop := Claim7.holds Tryd.pinned (.plain (OpenSpec.upto relAllSpec)) relAllUptoCard

/-- THE SECOND FORM's CARD OF 'selvagelaw02.RelWays'. -/
def relWaysUptoCard : Claim7 := { stood := { row := relWaysUptoRow, standIns := [], harness := (true, "7a27ae5c5beb5449ff89879370cbf12ea169c3ae259ad8bc8fbdacf7cf024cf2"), looks := false }, kinds := [], alts := [], laidByText := true, laidKinds := [.data], laidTests := true, laidLooks := .later }
def RelWaysUptoCardSaid : Prop := Claim7.holds Tryd.pinned (.plain (OpenSpec.upto relWaysSpec)) relWaysUptoCard
end Rows
end Go.Proofs.YtmolmchdnpekaaaDoor
