/-
  DERIVED. GIVEN WITH THE SEED: THE CARDS: each row of YticpkkjnajmpoaaGreatDoorRows.lean that lists a variable, with what it lists TIED to the program's text (the seventh form; the later family's looks); each row that meets fmt, with fmt's text TOLD by the authors' own Lean function (tested against real Go, not proved from fmt's source: count such statements apart). THE CARD IS WHAT COUNTS. Prove the row's statement (the work); the ties are given (YticpkkjnajmpoaaGreatDoorTie.lean); close each card by the builder's one call (the guide's Derived/Test/ToyasCard.lean, 'card_holds'). Laid BY PROGRAM, IN A SANDBOX (cutbox-door.mjs). By AI agents, Wed Nov 11 2026. No macro, syntax, notation, axiom, sorry.
-/
import Derived.Test.YticpkkjnajmpoaaGreatDoorRows
import GoSem.ClaimSeven
namespace Go.Proofs.YticpkkjnajmpoaaGreatDoor
namespace Rows

/-- THE TIED CARD OF 'interleavelaw40.BaselineFormats'. -/
def baselineFormatsCard : Claim7 := { stood := { row := baselineFormatsRow, standIns := [], harness := (true, "7dcc65f69a3d86da458ebbf98df5308c1219fd98e87e57867218b03e160732f3"), looks := true }, kinds := [], alts := [], laidByText := true, laidKinds := [.data, .data, .data, .data, .sentinel, .sentinel, .data, .data, .pinned], laidTests := true, laidLooks := .later }
def BaselineFormatsCardSaid : Prop := Claim7.holds Tryz.pinned (.plain (OpenSpec.ofChange baselineFormatsSpec)) baselineFormatsCard

/-- THE TIED CARD OF 'interleavelaw40.BaselineLess'. -/
def baselineLessCard : Claim7 := { stood := { row := baselineLessRow, standIns := [], harness := (true, "7dcc65f69a3d86da458ebbf98df5308c1219fd98e87e57867218b03e160732f3"), looks := true }, kinds := [], alts := [], laidByText := true, laidKinds := [.data, .data, .data, .data, .sentinel, .sentinel, .data, .data, .pinned], laidTests := true, laidLooks := .later }
def BaselineLessCardSaid : Prop := Claim7.holds Tryz.pinned (.plain (OpenSpec.ofChange baselineLessSpec)) baselineLessCard

/-- THE TIED CARD OF 'interleavelaw40.BaselineOrders'. -/
def baselineOrdersCard : Claim7 := { stood := { row := baselineOrdersRow, standIns := [], harness := (true, "7dcc65f69a3d86da458ebbf98df5308c1219fd98e87e57867218b03e160732f3"), looks := true }, kinds := [], alts := [], laidByText := true, laidKinds := [.data, .data, .data, .data, .sentinel, .sentinel, .data, .data, .pinned], laidTests := true, laidLooks := .later }
def BaselineOrdersCardSaid : Prop := Claim7.holds Tryz.pinned (.plain (OpenSpec.ofChange baselineOrdersSpec)) baselineOrdersCard

/-- THE TIED CARD OF 'interleavelaw40.BaselineValid'. -/
def baselineValidCard : Claim7 := { stood := { row := baselineValidRow, standIns := [], harness := (true, "7dcc65f69a3d86da458ebbf98df5308c1219fd98e87e57867218b03e160732f3"), looks := true }, kinds := [], alts := [], laidByText := true, laidKinds := [.data, .data, .data, .data, .sentinel, .sentinel, .data, .data, .pinned], laidTests := true, laidLooks := .later }
def BaselineValidCardSaid : Prop := Claim7.holds Tryz.pinned (.plain (OpenSpec.ofChange baselineValidSpec)) baselineValidCard

/-- THE TIED CARD OF 'interleavelaw40.BaselineSpoilt'. -/
def baselineSpoiltCard : Claim7 := { stood := { row := baselineSpoiltRow, standIns := [], harness := (true, "7dcc65f69a3d86da458ebbf98df5308c1219fd98e87e57867218b03e160732f3"), looks := true }, kinds := [], alts := [], laidByText := true, laidKinds := [.data, .data, .data, .data, .sentinel, .sentinel, .data, .data, .pinned], laidTests := true, laidLooks := .later }
def BaselineSpoiltCardSaid : Prop := Claim7.holds Tryz.pinned (.plain (OpenSpec.ofChange baselineSpoiltSpec)) baselineSpoiltCard

/-- THE TIED CARD OF 'interleavelaw40.BaselineEncodes'. -/
def baselineEncodesCard : Claim7 := { stood := { row := baselineEncodesRow, standIns := [], harness := (true, "7dcc65f69a3d86da458ebbf98df5308c1219fd98e87e57867218b03e160732f3"), looks := true }, kinds := [], alts := [], laidByText := true, laidKinds := [.data, .data, .data, .data, .sentinel, .sentinel, .data, .data, .pinned], laidTests := true, laidLooks := .later }
def BaselineEncodesCardSaid : Prop := Claim7.holds Tryz.pinned (.plain (OpenSpec.ofChange baselineEncodesSpec)) baselineEncodesCard

/-- THE TIED CARD OF 'interleavelaw40.BaselineCompares'. -/
def baselineComparesCard : Claim7 := { stood := { row := baselineComparesRow, standIns := [], harness := (true, "7dcc65f69a3d86da458ebbf98df5308c1219fd98e87e57867218b03e160732f3"), looks := true }, kinds := [], alts := [], laidByText := true, laidKinds := [.data, .data, .data, .data, .sentinel, .sentinel, .data, .data, .pinned], laidTests := true, laidLooks := .later }
def BaselineComparesCardSaid : Prop := Claim7.holds Tryz.pinned (.plain (OpenSpec.ofChange baselineComparesSpec)) baselineComparesCard

/-- THE TIED CARD OF 'interleavelaw40.BaselineUpdates'. -/
def baselineUpdatesCard : Claim7 := { stood := { row := baselineUpdatesRow, standIns := [], harness := (true, "7dcc65f69a3d86da458ebbf98df5308c1219fd98e87e57867218b03e160732f3"), looks := true }, kinds := [], alts := [], laidByText := true, laidKinds := [.data, .data, .data, .data, .sentinel, .sentinel, .data, .data, .pinned], laidTests := true, laidLooks := .later }
def BaselineUpdatesCardSaid : Prop := Claim7.holds Tryz.pinned (.plain (OpenSpec.ofChange baselineUpdatesSpec)) baselineUpdatesCard

/-- THE TIED CARD OF 'interleavelaw40.BaselineFull'. -/
def baselineFullCard : Claim7 := { stood := { row := baselineFullRow, standIns := [], harness := (true, "7dcc65f69a3d86da458ebbf98df5308c1219fd98e87e57867218b03e160732f3"), looks := true }, kinds := [], alts := [], laidByText := true, laidKinds := [.data, .data, .data, .data, .sentinel, .sentinel, .data, .data, .pinned], laidTests := true, laidLooks := .later }
def BaselineFullCardSaid : Prop := Claim7.holds Tryz.pinned (.plain (OpenSpec.ofChange baselineFullSpec)) baselineFullCard

/-- THE TIED CARD OF 'interleavelaw40.BaselineLives'. -/
def baselineLivesCard : Claim7 := { stood := { row := baselineLivesRow, standIns := [], harness := (true, "7dcc65f69a3d86da458ebbf98df5308c1219fd98e87e57867218b03e160732f3"), looks := true }, kinds := [], alts := [], laidByText := true, laidKinds := [.data, .data, .data, .data, .sentinel, .sentinel, .data, .data, .pinned], laidTests := true, laidLooks := .later }
def BaselineLivesCardSaid : Prop := Claim7.holds Tryz.pinned (.plain (OpenSpec.ofChange baselineLivesSpec)) baselineLivesCard

/-- THE TIED CARD OF 'interleavelaw40.BaselineSettles'. -/
def baselineSettlesCard : Claim7 := { stood := { row := baselineSettlesRow, standIns := [], harness := (true, "7dcc65f69a3d86da458ebbf98df5308c1219fd98e87e57867218b03e160732f3"), looks := true }, kinds := [], alts := [], laidByText := true, laidKinds := [.data, .data, .data, .data, .sentinel, .sentinel, .data, .data, .pinned], laidTests := true, laidLooks := .later }
def BaselineSettlesCardSaid : Prop := Claim7.holds Tryz.pinned (.plain (OpenSpec.ofChange baselineSettlesSpec)) baselineSettlesCard

/-- THE TIED CARD OF 'interleavelaw40.BaselineParses'. -/
def baselineParsesCard : Claim7 := { stood := { row := baselineParsesRow, standIns := [], harness := (true, "7dcc65f69a3d86da458ebbf98df5308c1219fd98e87e57867218b03e160732f3"), looks := true }, kinds := [], alts := [], laidByText := true, laidKinds := [.data, .data, .data, .data, .sentinel, .sentinel, .data, .data, .pinned], laidTests := true, laidLooks := .later }
def BaselineParsesCardSaid : Prop := Claim7.holds Tryz.pinned (.plain (OpenSpec.ofChange baselineParsesSpec)) baselineParsesCard

/-- THE SECOND FORM's CARD OF 'interleavelaw40.BaselineFormats'. -/
def baselineFormatsUptoCard : Claim7 := { stood := { row := baselineFormatsUptoRow, standIns := [], harness := (true, "7dcc65f69a3d86da458ebbf98df5308c1219fd98e87e57867218b03e160732f3"), looks := true }, kinds := [], alts := [], laidByText := true, laidKinds := [.data, .data, .data, .data, .sentinel, .sentinel, .data, .data, .pinned], laidTests := true, laidLooks := .later }
def BaselineFormatsUptoCardSaid : Prop := Claim7.holds Tryz.pinned (.plain (OpenSpec.upto baselineFormatsSpec)) baselineFormatsUptoCard

/-- THE SECOND FORM's CARD OF 'interleavelaw40.BaselineLess'. -/
def baselineLessUptoCard : Claim7 := { stood := { row := baselineLessUptoRow, standIns := [], harness := (true, "7dcc65f69a3d86da458ebbf98df5308c1219fd98e87e57867218b03e160732f3"), looks := true }, kinds := [], alts := [], laidByText := true, laidKinds := [.data, .data, .data, .data, .sentinel, .sentinel, .data, .data, .pinned], laidTests := true, laidLooks := .later }
def BaselineLessUptoCardSaid : Prop := Claim7.holds Tryz.pinned (.plain (OpenSpec.upto baselineLessSpec)) baselineLessUptoCard

/-- THE SECOND FORM's CARD OF 'interleavelaw40.BaselineOrders'. -/
def baselineOrdersUptoCard : Claim7 := { stood := { row := baselineOrdersUptoRow, standIns := [], harness := (true, "7dcc65f69a3d86da458ebbf98df5308c1219fd98e87e57867218b03e160732f3"), looks := true }, kinds := [], alts := [], laidByText := true, laidKinds := [.data, .data, .data, .data, .sentinel, .sentinel, .data, .data, .pinned], laidTests := true, laidLooks := .later }
def BaselineOrdersUptoCardSaid : Prop := Claim7.holds Tryz.pinned (.plain (OpenSpec.upto baselineOrdersSpec)) baselineOrdersUptoCard

/-- THE SECOND FORM's CARD OF 'interleavelaw40.BaselineValid'. -/
def baselineValidUptoCard : Claim7 := { stood := { row := baselineValidUptoRow, standIns := [], harness := (true, "7dcc65f69a3d86da458ebbf98df5308c1219fd98e87e57867218b03e160732f3"), looks := true }, kinds := [], alts := [], laidByText := true, laidKinds := [.data, .data, .data, .data, .sentinel, .sentinel, .data, .data, .pinned], laidTests := true, laidLooks := .later }
def BaselineValidUptoCardSaid : Prop := Claim7.holds Tryz.pinned (.plain (OpenSpec.upto baselineValidSpec)) baselineValidUptoCard

/-- THE SECOND FORM's CARD OF 'interleavelaw40.BaselineSpoilt'. -/
def baselineSpoiltUptoCard : Claim7 := { stood := { row := baselineSpoiltUptoRow, standIns := [], harness := (true, "7dcc65f69a3d86da458ebbf98df5308c1219fd98e87e57867218b03e160732f3"), looks := true }, kinds := [], alts := [], laidByText := true, laidKinds := [.data, .data, .data, .data, .sentinel, .sentinel, .data, .data, .pinned], laidTests := true, laidLooks := .later }
def BaselineSpoiltUptoCardSaid : Prop := Claim7.holds Tryz.pinned (.plain (OpenSpec.upto baselineSpoiltSpec)) baselineSpoiltUptoCard

/-- THE SECOND FORM's CARD OF 'interleavelaw40.BaselineEncodes'. -/
def baselineEncodesUptoCard : Claim7 := { stood := { row := baselineEncodesUptoRow, standIns := [], harness := (true, "7dcc65f69a3d86da458ebbf98df5308c1219fd98e87e57867218b03e160732f3"), looks := true }, kinds := [], alts := [], laidByText := true, laidKinds := [.data, .data, .data, .data, .sentinel, .sentinel, .data, .data, .pinned], laidTests := true, laidLooks := .later }
def BaselineEncodesUptoCardSaid : Prop := Claim7.holds Tryz.pinned (.plain (OpenSpec.upto baselineEncodesSpec)) baselineEncodesUptoCard

/-- THE SECOND FORM's CARD OF 'interleavelaw40.BaselineCompares'. -/
def baselineComparesUptoCard : Claim7 := { stood := { row := baselineComparesUptoRow, standIns := [], harness := (true, "7dcc65f69a3d86da458ebbf98df5308c1219fd98e87e57867218b03e160732f3"), looks := true }, kinds := [], alts := [], laidByText := true, laidKinds := [.data, .data, .data, .data, .sentinel, .sentinel, .data, .data, .pinned], laidTests := true, laidLooks := .later }
def BaselineComparesUptoCardSaid : Prop := Claim7.holds Tryz.pinned (.plain (OpenSpec.upto baselineComparesSpec)) baselineComparesUptoCard

/-- THE SECOND FORM's CARD OF 'interleavelaw40.BaselineUpdates'. -/
def baselineUpdatesUptoCard : Claim7 := { stood := { row := baselineUpdatesUptoRow, standIns := [], harness := (true, "7dcc65f69a3d86da458ebbf98df5308c1219fd98e87e57867218b03e160732f3"), looks := true }, kinds := [], alts := [], laidByText := true, laidKinds := [.data, .data, .data, .data, .sentinel, .sentinel, .data, .data, .pinned], laidTests := true, laidLooks := .later }
def BaselineUpdatesUptoCardSaid : Prop := Claim7.holds Tryz.pinned (.plain (OpenSpec.upto baselineUpdatesSpec)) baselineUpdatesUptoCard

/-- THE SECOND FORM's CARD OF 'interleavelaw40.BaselineFull'. -/
def baselineFullUptoCard : Claim7 := { stood := { row := baselineFullUptoRow, standIns := [], harness := (true, "7dcc65f69a3d86da458ebbf98df5308c1219fd98e87e57867218b03e160732f3"), looks := true }, kinds := [], alts := [], laidByText := true, laidKinds := [.data, .data, .data, .data, .sentinel, .sentinel, .data, .data, .pinned], laidTests := true, laidLooks := .later }
def BaselineFullUptoCardSaid : Prop := Claim7.holds Tryz.pinned (.plain (OpenSpec.upto baselineFullSpec)) baselineFullUptoCard

/-- THE SECOND FORM's CARD OF 'interleavelaw40.BaselineLives'. -/
def baselineLivesUptoCard : Claim7 := { stood := { row := baselineLivesUptoRow, standIns := [], harness := (true, "7dcc65f69a3d86da458ebbf98df5308c1219fd98e87e57867218b03e160732f3"), looks := true }, kinds := [], alts := [], laidByText := true, laidKinds := [.data, .data, .data, .data, .sentinel, .sentinel, .data, .data, .pinned], laidTests := true, laidLooks := .later }
def BaselineLivesUptoCardSaid : Prop := Claim7.holds Tryz.pinned (.plain (OpenSpec.upto baselineLivesSpec)) baselineLivesUptoCard

/-- THE SECOND FORM's CARD OF 'interleavelaw40.BaselineSettles'. -/
def baselineSettlesUptoCard : Claim7 := { stood := { row := baselineSettlesUptoRow, standIns := [], harness := (true, "7dcc65f69a3d86da458ebbf98df5308c1219fd98e87e57867218b03e160732f3"), looks := true }, kinds := [], alts := [], laidByText := true, laidKinds := [.data, .data, .data, .data, .sentinel, .sentinel, .data, .data, .pinned], laidTests := true, laidLooks := .later }
def BaselineSettlesUptoCardSaid : Prop := Claim7.holds Tryz.pinned (.plain (OpenSpec.upto baselineSettlesSpec)) baselineSettlesUptoCard

/-- THE SECOND FORM's CARD OF 'interleavelaw40.BaselineParses'. -/
def baselineParsesUptoCard : Claim7 := { stood := { row := baselineParsesUptoRow, standIns := [], harness := (true, "7dcc65f69a3d86da458ebbf98df5308c1219fd98e87e57867218b03e160732f3"), looks := true }, kinds := [], alts := [], laidByText := true, laidKinds := [.data, .data, .data, .data, .sentinel, .sentinel, .data, .data, .pinned], laidTests := true, laidLooks := .later }
def BaselineParsesUptoCardSaid : Prop := Claim7.holds Tryz.pinned (.plain (OpenSpec.upto baselineParsesSpec)) baselineParsesUptoCard
end Rows
end Go.Proofs.YticpkkjnajmpoaaGreatDoor
