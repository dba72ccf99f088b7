/-
  DERIVED. GIVEN WITH THE SEED: THE CARDS: each row of YtmknnljemhajoaaDoorRows.lean that lists a variable, with what it lists TIED to the program's text (the seventh form; the later family's looks); each row that meets fmt, with fmt's text TOLD by the authors' own Lean function (tested against real Go, not proved from fmt's source: count such statements apart). THE CARD IS WHAT COUNTS. Prove the row's statement (the work); the ties are given (YtmknnljemhajoaaDoorTie.lean); close each card by the builder's one call (the guide's Derived/Test/ToyasCard.lean, 'card_holds'). Laid BY PROGRAM, IN A SANDBOX (cutbox-door.mjs). By AI agents, Wed Nov 11 2026. No macro, syntax, notation, axiom, sorry.
-/
import Derived.Test.YtmknnljemhajoaaDoorRows
import GoSem.ClaimSeven
namespace Go.Proofs.YtmknnljemhajoaaDoor
namespace Rows

/-- THE TIED CARD OF 'selvagelaw23.AxiomForms'. -/
def axiomFormsCard : Claim7 := { stood := { row := axiomFormsRow, standIns := [], harness := (true, "965708d857997b48cff15420e1f481e1eb29cba1ab4f468c33a17edd1fb15cf2"), looks := false }, kinds := [], alts := [], laidByText := true, laidKinds := [.data], laidTests := true, laidLooks := .later }
def AxiomFormsCardSaid : Prop := Claim7.holds Tryd.pinned (.plain (OpenSpec.ofChange axiomFormsSpec)) axiomFormsCard

/-- THE TIED CARD OF 'selvagelaw23.AxiomJudges'. -/
def axiomJudgesCard : Claim7 := { stood := { row := axiomJudgesRow, standIns := [], harness := (true, "965708d857997b48cff15420e1f481e1eb29cba1ab4f468c33a17edd1fb15cf2"), looks := false }, kinds := [], alts := [], laidByText := true, laidKinds := [.data], laidTests := true, laidLooks := .later }
def AxiomJudgesCardSaid : Prop := Claim7.holds Tryd.pinned (.plain (OpenSpec.ofChange axiomJudgesSpec)) axiomJudgesCard

/-- THE TIED CARD OF 'selvagelaw23.AxiomTurns'. -/
def axiomTurnsCard : Claim7 := { stood := { row := axiomTurnsRow, standIns := [], harness := (true, "965708d857997b48cff15420e1f481e1eb29cba1ab4f468c33a17edd1fb15cf2"), looks := false }, kinds := [], alts := [], laidByText := true, laidKinds := [.data], laidTests := true, laidLooks := .later }
def AxiomTurnsCardSaid : Prop := Claim7.holds Tryd.pinned (.plain (OpenSpec.ofChange axiomTurnsSpec)) axiomTurnsCard

/-- THE TIED CARD OF 'selvagelaw23.AxiomOwn'. -/
def axiomOwnCard : Claim7 := { stood := { row := axiomOwnRow, standIns := [], harness := (true, "965708d857997b48cff15420e1f481e1eb29cba1ab4f468c33a17edd1fb15cf2"), looks := false }, kinds := [], alts := [], laidByText := true, laidKinds := [.data], laidTests := true, laidLooks := .later }
def AxiomOwnCardSaid : Prop := Claim7.holds Tryd.pinned (.plain (OpenSpec.ofChange axiomOwnSpec)) axiomOwnCard

/-- THE SECOND FORM's CARD OF 'selvagelaw23.AxiomForms'. -/
def axiomFormsUptoCard : Claim7 := { stood := { row := axiomFormsUptoRow, standIns := [], harness := (true, "965708d857997b48cff15420e1f481e1eb29cba1ab4f468c33a17edd1fb15cf2"), looks := false }, kinds := [], alts := [], laidByText := true, laidKinds := [.data], laidTests := true, laidLooks := .later }
def AxiomFormsUptoCardSaid : Prop := Claim7.holds Tryd.pinned (.plain (OpenSpec.upto axiomFormsSpec)) axiomFormsUptoCard

/-- THE SECOND FORM's CARD OF 'selvagelaw23.AxiomJudges'. -/
def axiomJudgesUptoCard : Claim7 := { stood := { row := axiomJudgesUptoRow, standIns := [], harness := (true, "965708d857997b48cff15420e1f481e1eb29cba1ab4f468c33a17edd1fb15cf2"), looks := false }, kinds := [], alts := [], laidByText := true, laidKinds := [.data], laidTests := true, laidLooks := .later }
def AxiomJudgesUptoCardSaid : Prop := Claim7.holds Tryd.pinned (.plain (OpenSpec.upto axiomJudgesSpec)) axiomJudgesUptoCard

/-- THE SECOND FORM's CARD OF 'selvagelaw23.AxiomTurns'. -/
def axiomTurnsUptoCard : Claim7 := { stood := { row := axiomTurnsUptoRow, standIns := [], harness := (true, "965708d857997b48cff15420e1f481e1eb29cba1ab4f468c33a17edd1fb15cf2"), looks := false }, kinds := [], alts := [], laidByText := true, laidKinds := [.data], laidTests := true, laidLooks := .later }
def AxiomTurnsUptoCardSaid : Prop := Claim7.holds Tryd.pinned (.plain (OpenSpec.upto axiomTurnsSpec)) axiomTurnsUptoCard

/-- THE SECOND FORM's CARD OF 'selvagelaw23.AxiomOwn'. -/
def axiomOwnUptoCard : Claim7 := { stood := { row := axiomOwnUptoRow, standIns := [], harness := (true, "965708d857997b48cff15420e1f481e1eb29cba1ab4f468c33a17edd1fb15cf2"), looks := false }, kinds := [], alts := [], laidByText := true, laidKinds := [.data], laidTests := true, laidLooks := .later }
def AxiomOwnUptoCardSaid : Prop := Claim7.holds Tryd.pinned (.plain (OpenSpec.upto axiomOwnSpec)) axiomOwnUptoCard
end Rows
end Go.Proofs.YtmknnljemhajoaaDoor
