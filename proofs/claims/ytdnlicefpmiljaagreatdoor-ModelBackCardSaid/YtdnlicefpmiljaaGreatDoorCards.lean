/-
  DERIVED. GIVEN WITH THE SEED: THE CARDS: each row of YtdnlicefpmiljaaGreatDoorRows.lean that lists a variable, with what it lists TIED to the program's text (the seventh form; the later family's looks); each row that meets fmt, with fmt's text TOLD by the authors' own Lean function (tested against real Go, not proved from fmt's source: count such statements apart). THE CARD IS WHAT COUNTS. Prove the row's statement (the work); the ties are given (YtdnlicefpmiljaaGreatDoorTie.lean); close each card by the builder's one call (the guide's Derived/Test/ToyasCard.lean, 'card_holds'). Laid BY PROGRAM, IN A SANDBOX (cutbox-door.mjs). By AI agents, Wed Nov 11 2026. No macro, syntax, notation, axiom, sorry.
-/
import Derived.Test.YtdnlicefpmiljaaGreatDoorRows
import GoSem.ClaimSeven
namespace Go.Proofs.YtdnlicefpmiljaaGreatDoor
namespace Rows

/-- THE TIED CARD OF 'carousellaw12.ModelKnown'. -/
def modelKnownCard : Claim7 := { stood := { row := modelKnownRow, standIns := [], harness := (true, "b8e982d4ce3da68af1c51210c0d07e53579d69f721081c99176cbf7218593a65"), looks := true }, kinds := [], alts := [], laidByText := true, laidKinds := [.data, .data, .data, .data, .sentinel, .sentinel, .pinned], laidTests := true, laidLooks := .later }
def ModelKnownCardSaid : Prop := Claim7.holds Tryz.pinned (.plain (OpenSpec.ofChange modelKnownSpec)) modelKnownCard

/-- THE TIED CARD OF 'carousellaw12.ModelShapes'. -/
def modelShapesCard : Claim7 := { stood := { row := modelShapesRow, standIns := [], harness := (true, "b8e982d4ce3da68af1c51210c0d07e53579d69f721081c99176cbf7218593a65"), looks := true }, kinds := [], alts := [], laidByText := true, laidKinds := [.data, .data, .data, .data, .sentinel, .sentinel, .pinned], laidTests := true, laidLooks := .later }
def ModelShapesCardSaid : Prop := Claim7.holds Tryz.pinned (.plain (OpenSpec.ofChange modelShapesSpec)) modelShapesCard

/-- THE TIED CARD OF 'carousellaw12.ModelRuns'. -/
def modelRunsCard : Claim7 := { stood := { row := modelRunsRow, standIns := [], harness := (true, "b8e982d4ce3da68af1c51210c0d07e53579d69f721081c99176cbf7218593a65"), looks := true }, kinds := [], alts := [], laidByText := true, laidKinds := [.data, .data, .data, .data, .sentinel, .sentinel, .pinned], laidTests := true, laidLooks := .later }
def ModelRunsCardSaid : Prop := Claim7.holds Tryz.pinned (.plain (OpenSpec.ofChange modelRunsSpec)) modelRunsCard

/-- THE TIED CARD OF 'carousellaw12.ModelBack'. -/
def modelBackCard : Claim7 := { stood := { row := modelBackRow, standIns := [], harness := (true, "b8e982d4ce3da68af1c51210c0d07e53579d69f721081c99176cbf7218593a65"), looks := true }, kinds := [], alts := [], laidByText := true, laidKinds := [.data, .data, .data, .data, .sentinel, .sentinel, .pinned], laidTests := true, laidLooks := .later }
def ModelBackCardSaid : Prop := Claim7.holds Tryz.pinned (.plain (OpenSpec.ofChange modelBackSpec)) modelBackCard

/-- THE TIED CARD OF 'carousellaw12.ModelSkips'. -/
def modelSkipsCard : Claim7 := { stood := { row := modelSkipsRow, standIns := [], harness := (true, "b8e982d4ce3da68af1c51210c0d07e53579d69f721081c99176cbf7218593a65"), looks := true }, kinds := [], alts := [], laidByText := true, laidKinds := [.data, .data, .data, .data, .sentinel, .sentinel, .pinned], laidTests := true, laidLooks := .later }
def ModelSkipsCardSaid : Prop := Claim7.holds Tryz.pinned (.plain (OpenSpec.ofChange modelSkipsSpec)) modelSkipsCard

/-- THE TIED CARD OF 'carousellaw12.ModelCounts'. -/
def modelCountsCard : Claim7 := { stood := { row := modelCountsRow, standIns := [], harness := (true, "b8e982d4ce3da68af1c51210c0d07e53579d69f721081c99176cbf7218593a65"), looks := true }, kinds := [], alts := [], laidByText := true, laidKinds := [.data, .data, .data, .data, .sentinel, .sentinel, .pinned], laidTests := true, laidLooks := .later }
def ModelCountsCardSaid : Prop := Claim7.holds Tryz.pinned (.plain (OpenSpec.ofChange modelCountsSpec)) modelCountsCard

/-- THE SECOND FORM's CARD OF 'carousellaw12.ModelKnown'. -/
def modelKnownUptoCard : Claim7 := { stood := { row := modelKnownUptoRow, standIns := [], harness := (true, "b8e982d4ce3da68af1c51210c0d07e53579d69f721081c99176cbf7218593a65"), looks := true }, kinds := [], alts := [], laidByText := true, laidKinds := [.data, .data, .data, .data, .sentinel, .sentinel, .pinned], laidTests := true, laidLooks := .later }
def ModelKnownUptoCardSaid : Prop := Claim7.holds Tryz.pinned (.plain (OpenSpec.upto modelKnownSpec)) modelKnownUptoCard

/-- THE SECOND FORM's CARD OF 'carousellaw12.ModelShapes'. -/
def modelShapesUptoCard : Claim7 := { stood := { row := modelShapesUptoRow, standIns := [], harness := (true, "b8e982d4ce3da68af1c51210c0d07e53579d69f721081c99176cbf7218593a65"), looks := true }, kinds := [], alts := [], laidByText := true, laidKinds := [.data, .data, .data, .data, .sentinel, .sentinel, .pinned], laidTests := true, laidLooks := .later }
def ModelShapesUptoCardSaid : Prop := Claim7.holds Tryz.pinned (.plain (OpenSpec.upto modelShapesSpec)) modelShapesUptoCard

/-- THE SECOND FORM's CARD OF 'carousellaw12.ModelRuns'. -/
def modelRunsUptoCard : Claim7 := { stood := { row := modelRunsUptoRow, standIns := [], harness := (true, "b8e982d4ce3da68af1c51210c0d07e53579d69f721081c99176cbf7218593a65"), looks := true }, kinds := [], alts := [], laidByText := true, laidKinds := [.data, .data, .data, .data, .sentinel, .sentinel, .pinned], laidTests := true, laidLooks := .later }
def ModelRunsUptoCardSaid : Prop := Claim7.holds Tryz.pinned (.plain (OpenSpec.upto modelRunsSpec)) modelRunsUptoCard

/-- THE SECOND FORM's CARD OF 'carousellaw12.ModelBack'. -/
def modelBackUptoCard : Claim7 := { stood := { row := modelBackUptoRow, standIns := [], harness := (true, "b8e982d4ce3da68af1c51210c0d07e53579d69f721081c99176cbf7218593a65"), looks := true }, kinds := [], alts := [], laidByText := true, laidKinds := [.data, .data, .data, .data, .sentinel, .sentinel, .pinned], laidTests := true, laidLooks := .later }
def ModelBackUptoCardSaid : Prop := Claim7.holds Tryz.pinned (.plain (OpenSpec.upto modelBackSpec)) modelBackUptoCard

/-- THE SECOND FORM's CARD OF 'carousellaw12.ModelSkips'. -/
def modelSkipsUptoCard : Claim7 := { stood := { row := modelSkipsUptoRow, standIns := [], harness := (true, "b8e982d4ce3da68af1c51210c0d07e53579d69f721081c99176cbf7218593a65"), looks := true }, kinds := [], alts := [], laidByText := true, laidKinds := [.data, .data, .data, .data, .sentinel, .sentinel, .pinned], laidTests := true, laidLooks := .later }
def ModelSkipsUptoCardSaid : Prop := Claim7.holds Tryz.pinned (.plain (OpenSpec.upto modelSkipsSpec)) modelSkipsUptoCard

/-- THE SECOND FORM's CARD OF 'carousellaw12.ModelCounts'. -/
def modelCountsUptoCard : Claim7 := { stood := { row := modelCountsUptoRow, standIns := [], harness := (true, "b8e982d4ce3da68af1c51210c0d07e53579d69f721081c99176cbf7218593a65"), looks := true }, kinds := [], alts := [], laidByText := true, laidKinds := [.data, .data, .data, .data, .sentinel, .sentinel, .pinned], laidTests := true, laidLooks := .later }
def ModelCountsUptoCardSaid : Prop := Claim7.holds Tryz.pinned (.plain (OpenSpec.upto modelCountsSpec)) modelCountsUptoCard
end Rows
end Go.Proofs.YtdnlicefpmiljaaGreatDoor
