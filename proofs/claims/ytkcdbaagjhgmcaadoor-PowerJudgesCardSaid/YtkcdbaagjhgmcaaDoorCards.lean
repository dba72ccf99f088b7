/-
  DERIVED. GIVEN WITH THE SEED: THE CARDS: each row of YtkcdbaagjhgmcaaDoorRows.lean that lists a variable, with what it lists TIED to the program's text (the seventh form; the later family's looks); each row that meets fmt, with fmt's text TOLD by the authors' own Lean function (tested against real Go, not proved from fmt's source: count such statements apart). THE CARD IS WHAT COUNTS. Prove the row's statement (the work); the ties are given (YtkcdbaagjhgmcaaDoorTie.lean); close each card by the builder's one call (the guide's Derived/Test/ToyasCard.lean, 'card_holds'). Laid BY PROGRAM, IN A SANDBOX (cutbox-door.mjs). By AI agents, Wed Nov 11 2026. No macro, syntax, notation, axiom, sorry.
-/
import Derived.Test.YtkcdbaagjhgmcaaDoorRows
import GoSem.ClaimSeven
namespace Go.Proofs.YtkcdbaagjhgmcaaDoor
namespace Rows

/-- THE TIED CARD OF 'selvagelaw19.PowerNone'. -/
def powerNoneCard : Claim7 := { stood := { row := powerNoneRow, standIns := [], harness := (true, "83eca3fc9f93bae4183f559c2a3158d6a10920dd83ba110b4a47309d44a785d3"), looks := false }, kinds := [], alts := [], laidByText := true, laidKinds := [.data], laidTests := true, laidLooks := .later }
def PowerNoneCardSaid : Prop := Claim7.holds Tryd.pinned (.plain (OpenSpec.ofChange powerNoneSpec)) powerNoneCard

/-- THE TIED CARD OF 'selvagelaw19.PowerRenamed'. -/
def powerRenamedCard : Claim7 := { stood := { row := powerRenamedRow, standIns := [], harness := (true, "83eca3fc9f93bae4183f559c2a3158d6a10920dd83ba110b4a47309d44a785d3"), looks := false }, kinds := [], alts := [], laidByText := true, laidKinds := [.data], laidTests := true, laidLooks := .later }
def PowerRenamedCardSaid : Prop := Claim7.holds Tryd.pinned (.plain (OpenSpec.ofChange powerRenamedSpec)) powerRenamedCard

/-- THE TIED CARD OF 'selvagelaw19.PowerJudges'. -/
def powerJudgesCard : Claim7 := { stood := { row := powerJudgesRow, standIns := [], harness := (true, "83eca3fc9f93bae4183f559c2a3158d6a10920dd83ba110b4a47309d44a785d3"), looks := false }, kinds := [], alts := [], laidByText := true, laidKinds := [.data], laidTests := true, laidLooks := .later }
def PowerJudgesCardSaid : Prop := Claim7.holds Tryd.pinned (.plain (OpenSpec.ofChange powerJudgesSpec)) powerJudgesCard

/-- THE TIED CARD OF 'selvagelaw19.PowerThreads'. -/
def powerThreadsCard : Claim7 := { stood := { row := powerThreadsRow, standIns := [], harness := (true, "83eca3fc9f93bae4183f559c2a3158d6a10920dd83ba110b4a47309d44a785d3"), looks := false }, kinds := [], alts := [], laidByText := true, laidKinds := [.data], laidTests := true, laidLooks := .later }
def PowerThreadsCardSaid : Prop := Claim7.holds Tryd.pinned (.plain (OpenSpec.ofChange powerThreadsSpec)) powerThreadsCard

/-- THE TIED CARD OF 'selvagelaw19.PowerOrdered'. -/
def powerOrderedCard : Claim7 := { stood := { row := powerOrderedRow, standIns := [], harness := (true, "83eca3fc9f93bae4183f559c2a3158d6a10920dd83ba110b4a47309d44a785d3"), looks := false }, kinds := [], alts := [], laidByText := true, laidKinds := [.data], laidTests := true, laidLooks := .later }
def PowerOrderedCardSaid : Prop := Claim7.holds Tryd.pinned (.plain (OpenSpec.ofChange powerOrderedSpec)) powerOrderedCard

/-- THE TIED CARD OF 'selvagelaw19.PowerMore'. -/
def powerMoreCard : Claim7 := { stood := { row := powerMoreRow, standIns := [], harness := (true, "83eca3fc9f93bae4183f559c2a3158d6a10920dd83ba110b4a47309d44a785d3"), looks := false }, kinds := [], alts := [], laidByText := true, laidKinds := [.data], laidTests := true, laidLooks := .later }
def PowerMoreCardSaid : Prop := Claim7.holds Tryd.pinned (.plain (OpenSpec.ofChange powerMoreSpec)) powerMoreCard

/-- THE SECOND FORM's CARD OF 'selvagelaw19.PowerNone'. -/
def powerNoneUptoCard : Claim7 := { stood := { row := powerNoneUptoRow, standIns := [], harness := (true, "83eca3fc9f93bae4183f559c2a3158d6a10920dd83ba110b4a47309d44a785d3"), looks := false }, kinds := [], alts := [], laidByText := true, laidKinds := [.data], laidTests := true, laidLooks := .later }
def PowerNoneUptoCardSaid : Prop := Claim7.holds Tryd.pinned (.plain (OpenSpec.upto powerNoneSpec)) powerNoneUptoCard

/-- THE SECOND FORM's CARD OF 'selvagelaw19.PowerRenamed'. -/
def powerRenamedUptoCard : Claim7 := { stood := { row := powerRenamedUptoRow, standIns := [], harness := (true, "83eca3fc9f93bae4183f559c2a3158d6a10920dd83ba110b4a47309d44a785d3"), looks := false }, kinds := [], alts := [], laidByText := true, laidKinds := [.data], laidTests := true, laidLooks := .later }
def PowerRenamedUptoCardSaid : Prop := Claim7.holds Tryd.pinned (.plain (OpenSpec.upto powerRenamedSpec)) powerRenamedUptoCard

/-- THE SECOND FORM's CARD OF 'selvagelaw19.PowerJudges'. -/
def powerJudgesUptoCard : Claim7 := { stood := { row := powerJudgesUptoRow, standIns := [], harness := (true, "83eca3fc9f93bae4183f559c2a3158d6a10920dd83ba110b4a47309d44a785d3"), looks := false }, kinds := [], alts := [], laidByText := true, laidKinds := [.data], laidTests := true, laidLooks := .later }
def PowerJudgesUptoCardSaid : Prop := Claim7.holds Tryd.pinned (.plain (OpenSpec.upto powerJudgesSpec)) powerJudgesUptoCard

/-- THE SECOND FORM's CARD OF 'selvagelaw19.PowerThreads'. -/
def powerThreadsUptoCard : Claim7 := { stood := { row := powerThreadsUptoRow, standIns := [], harness := (true, "83eca3fc9f93bae4183f559c2a3158d6a10920dd83ba110b4a47309d44a785d3"), looks := false }, kinds := [], alts := [], laidByText := true, laidKinds := [.data], laidTests := true, laidLooks := .later }
def PowerThreadsUptoCardSaid : Prop := Claim7.holds Tryd.pinned (.plain (OpenSpec.upto powerThreadsSpec)) powerThreadsUptoCard

/-- THE SECOND FORM's CARD OF 'selvagelaw19.PowerOrdered'. -/
def powerOrderedUptoCard : Claim7 := { stood := { row := powerOrderedUptoRow, standIns := [], harness := (true, "83eca3fc9f93bae4183f559c2a3158d6a10920dd83ba110b4a47309d44a785d3"), looks := false }, kinds := [], alts := [], laidByText := true, laidKinds := [.data], laidTests := true, laidLooks := .later }
def PowerOrderedUptoCardSaid : Prop := Claim7.holds Tryd.pinned (.plain (OpenSpec.upto powerOrderedSpec)) powerOrderedUptoCard

/-- THE SECOND FORM's CARD OF 'selvagelaw19.PowerMore'. -/
def powerMoreUptoCard : Claim7 := { stood := { row := powerMoreUptoRow, standIns := [], harness := (true, "83eca3fc9f93bae4183f559c2a3158d6a10920dd83ba110b4a47309d44a785d3"), looks := false }, kinds := [], alts := [], laidByText := true, laidKinds := [.data], laidTests := true, laidLooks := .later }
def PowerMoreUptoCardSaid : Prop := Claim7.holds Tryd.pinned (.plain (OpenSpec.upto powerMoreSpec)) powerMoreUptoCard
end Rows
end Go.Proofs.YtkcdbaagjhgmcaaDoor
