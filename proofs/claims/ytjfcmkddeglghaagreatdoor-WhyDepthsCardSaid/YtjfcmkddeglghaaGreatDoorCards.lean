/-
  DERIVED. GIVEN WITH THE SEED: THE CARDS: each row of YtjfcmkddeglghaaGreatDoorRows.lean that lists a variable, with what it lists TIED to the program's text (the seventh form; the later family's looks); each row that meets fmt, with fmt's text TOLD by the authors' own Lean function (tested against real Go, not proved from fmt's source: count such statements apart). THE CARD IS WHAT COUNTS. Prove the row's statement (the work); the ties are given (YtjfcmkddeglghaaGreatDoorTie.lean); close each card by the builder's one call (the guide's Derived/Test/ToyasCard.lean, 'card_holds'). Laid BY PROGRAM, IN A SANDBOX (cutbox-door.mjs). By AI agents, Wed Nov 11 2026. No macro, syntax, notation, axiom, sorry.
-/
import Derived.Test.YtjfcmkddeglghaaGreatDoorRows
import GoSem.ClaimSeven
namespace Go.Proofs.YtjfcmkddeglghaaGreatDoor
namespace Rows

/-- THE TIED CARD OF 'graftwoodlaw19.WhyTells'. -/
def whyTellsCard : Claim7 := { stood := { row := whyTellsRow, standIns := [], harness := (true, "f721c666ab31949d08bfea188f487a0fa410c9dfb6ad7294aa2128bfd97badc3"), looks := false }, kinds := [], alts := [], laidByText := true, laidKinds := [.data, .pinned], laidTests := true, laidLooks := .later }
def WhyTellsCardSaid : Prop := Claim7.holds Tryz.pinned (.plain (OpenSpec.ofChange whyTellsSpec)) whyTellsCard

/-- THE TIED CARD OF 'graftwoodlaw19.WhyDepths'. -/
def whyDepthsCard : Claim7 := { stood := { row := whyDepthsRow, standIns := [], harness := (true, "f721c666ab31949d08bfea188f487a0fa410c9dfb6ad7294aa2128bfd97badc3"), looks := false }, kinds := [], alts := [], laidByText := true, laidKinds := [.data, .pinned], laidTests := true, laidLooks := .later }
def WhyDepthsCardSaid : Prop := Claim7.holds Tryz.pinned (.plain (OpenSpec.ofChange whyDepthsSpec)) whyDepthsCard

/-- THE TIED CARD OF 'graftwoodlaw13.DiffTells'. -/
def diffTellsCard : Claim7 := { stood := { row := diffTellsRow, standIns := [], harness := (true, "f721c666ab31949d08bfea188f487a0fa410c9dfb6ad7294aa2128bfd97badc3"), looks := false }, kinds := [], alts := [], laidByText := true, laidKinds := [.data, .pinned], laidTests := true, laidLooks := .later }
def DiffTellsCardSaid : Prop := Claim7.holds Tryz.pinned (.plain (OpenSpec.ofChange diffTellsSpec)) diffTellsCard

/-- THE TIED CARD OF 'graftwoodlaw13.DiffEdits'. -/
def diffEditsCard : Claim7 := { stood := { row := diffEditsRow, standIns := [], harness := (true, "f721c666ab31949d08bfea188f487a0fa410c9dfb6ad7294aa2128bfd97badc3"), looks := false }, kinds := [], alts := [], laidByText := true, laidKinds := [.data, .pinned], laidTests := true, laidLooks := .later }
def DiffEditsCardSaid : Prop := Claim7.holds Tryz.pinned (.plain (OpenSpec.ofChange diffEditsSpec)) diffEditsCard

/-- THE TIED CARD OF 'graftwoodlaw13.DiffGoes'. -/
def diffGoesCard : Claim7 := { stood := { row := diffGoesRow, standIns := [], harness := (true, "f721c666ab31949d08bfea188f487a0fa410c9dfb6ad7294aa2128bfd97badc3"), looks := false }, kinds := [], alts := [], laidByText := true, laidKinds := [.data, .pinned], laidTests := true, laidLooks := .later }
def DiffGoesCardSaid : Prop := Claim7.holds Tryz.pinned (.plain (OpenSpec.ofChange diffGoesSpec)) diffGoesCard

/-- THE TIED CARD OF 'graftwoodlaw16.TallyTells'. -/
def tallyTellsCard : Claim7 := { stood := { row := tallyTellsRow, standIns := [], harness := (true, "f721c666ab31949d08bfea188f487a0fa410c9dfb6ad7294aa2128bfd97badc3"), looks := false }, kinds := [], alts := [], laidByText := true, laidKinds := [.data, .pinned], laidTests := true, laidLooks := .later }
def TallyTellsCardSaid : Prop := Claim7.holds Tryz.pinned (.plain (OpenSpec.ofChange tallyTellsSpec)) tallyTellsCard

/-- THE TIED CARD OF 'graftwoodlaw14.RoomFits'. -/
def roomFitsCard : Claim7 := { stood := { row := roomFitsRow, standIns := [], harness := (true, "f721c666ab31949d08bfea188f487a0fa410c9dfb6ad7294aa2128bfd97badc3"), looks := false }, kinds := [], alts := [], laidByText := true, laidKinds := [.data, .pinned], laidTests := true, laidLooks := .later }
def RoomFitsCardSaid : Prop := Claim7.holds Tryz.pinned (.plain (OpenSpec.ofChange roomFitsSpec)) roomFitsCard

/-- THE TIED CARD OF 'graftwoodlaw14.RoomRoots'. -/
def roomRootsCard : Claim7 := { stood := { row := roomRootsRow, standIns := [], harness := (true, "f721c666ab31949d08bfea188f487a0fa410c9dfb6ad7294aa2128bfd97badc3"), looks := false }, kinds := [], alts := [], laidByText := true, laidKinds := [.data, .pinned], laidTests := true, laidLooks := .later }
def RoomRootsCardSaid : Prop := Claim7.holds Tryz.pinned (.plain (OpenSpec.ofChange roomRootsSpec)) roomRootsCard

/-- THE TIED CARD OF 'graftwoodlaw14.RoomMore'. -/
def roomMoreCard : Claim7 := { stood := { row := roomMoreRow, standIns := [], harness := (true, "f721c666ab31949d08bfea188f487a0fa410c9dfb6ad7294aa2128bfd97badc3"), looks := false }, kinds := [], alts := [], laidByText := true, laidKinds := [.data, .pinned], laidTests := true, laidLooks := .later }
def RoomMoreCardSaid : Prop := Claim7.holds Tryz.pinned (.plain (OpenSpec.ofChange roomMoreSpec)) roomMoreCard

/-- THE TIED CARD OF 'graftwoodlaw14.RoomOf'. -/
def roomOfCard : Claim7 := { stood := { row := roomOfRow, standIns := [], harness := (true, "f721c666ab31949d08bfea188f487a0fa410c9dfb6ad7294aa2128bfd97badc3"), looks := false }, kinds := [], alts := [], laidByText := true, laidKinds := [.data, .pinned], laidTests := true, laidLooks := .later }
def RoomOfCardSaid : Prop := Claim7.holds Tryz.pinned (.plain (OpenSpec.ofChange roomOfSpec)) roomOfCard

/-- THE TIED CARD OF 'graftwoodlaw14.RoomBounds'. -/
def roomBoundsCard : Claim7 := { stood := { row := roomBoundsRow, standIns := [], harness := (true, "f721c666ab31949d08bfea188f487a0fa410c9dfb6ad7294aa2128bfd97badc3"), looks := false }, kinds := [], alts := [], laidByText := true, laidKinds := [.data, .pinned], laidTests := true, laidLooks := .later }
def RoomBoundsCardSaid : Prop := Claim7.holds Tryz.pinned (.plain (OpenSpec.ofChange roomBoundsSpec)) roomBoundsCard

/-- THE TIED CARD OF 'graftwoodlaw14.RoomTakes'. -/
def roomTakesCard : Claim7 := { stood := { row := roomTakesRow, standIns := [], harness := (true, "f721c666ab31949d08bfea188f487a0fa410c9dfb6ad7294aa2128bfd97badc3"), looks := false }, kinds := [], alts := [], laidByText := true, laidKinds := [.data, .pinned], laidTests := true, laidLooks := .later }
def RoomTakesCardSaid : Prop := Claim7.holds Tryz.pinned (.plain (OpenSpec.ofChange roomTakesSpec)) roomTakesCard

/-- THE SECOND FORM's CARD OF 'graftwoodlaw19.WhyTells'. -/
def whyTellsUptoCard : Claim7 := { stood := { row := whyTellsUptoRow, standIns := [], harness := (true, "f721c666ab31949d08bfea188f487a0fa410c9dfb6ad7294aa2128bfd97badc3"), looks := false }, kinds := [], alts := [], laidByText := true, laidKinds := [.data, .pinned], laidTests := true, laidLooks := .later }
def WhyTellsUptoCardSaid : Prop := Claim7.holds Tryz.pinned (.plain (OpenSpec.upto whyTellsSpec)) whyTellsUptoCard

/-- THE SECOND FORM's CARD OF 'graftwoodlaw19.WhyDepths'. -/
def whyDepthsUptoCard : Claim7 := { stood := { row := whyDepthsUptoRow, standIns := [], harness := (true, "f721c666ab31949d08bfea188f487a0fa410c9dfb6ad7294aa2128bfd97badc3"), looks := false }, kinds := [], alts := [], laidByText := true, laidKinds := [.data, .pinned], laidTests := true, laidLooks := .later }
def WhyDepthsUptoCardSaid : Prop := Claim7.holds Tryz.pinned (.plain (OpenSpec.upto whyDepthsSpec)) whyDepthsUptoCard

/-- THE SECOND FORM's CARD OF 'graftwoodlaw13.DiffTells'. -/
def diffTellsUptoCard : Claim7 := { stood := { row := diffTellsUptoRow, standIns := [], harness := (true, "f721c666ab31949d08bfea188f487a0fa410c9dfb6ad7294aa2128bfd97badc3"), looks := false }, kinds := [], alts := [], laidByText := true, laidKinds := [.data, .pinned], laidTests := true, laidLooks := .later }
def DiffTellsUptoCardSaid : Prop := Claim7.holds Tryz.pinned (.plain (OpenSpec.upto diffTellsSpec)) diffTellsUptoCard

/-- THE SECOND FORM's CARD OF 'graftwoodlaw13.DiffEdits'. -/
def diffEditsUptoCard : Claim7 := { stood := { row := diffEditsUptoRow, standIns := [], harness := (true, "f721c666ab31949d08bfea188f487a0fa410c9dfb6ad7294aa2128bfd97badc3"), looks := false }, kinds := [], alts := [], laidByText := true, laidKinds := [.data, .pinned], laidTests := true, laidLooks := .later }
def DiffEditsUptoCardSaid : Prop := Claim7.holds Tryz.pinned (.plain (OpenSpec.upto diffEditsSpec)) diffEditsUptoCard

/-- THE SECOND FORM's CARD OF 'graftwoodlaw13.DiffGoes'. -/
def diffGoesUptoCard : Claim7 := { stood := { row := diffGoesUptoRow, standIns := [], harness := (true, "f721c666ab31949d08bfea188f487a0fa410c9dfb6ad7294aa2128bfd97badc3"), looks := false }, kinds := [], alts := [], laidByText := true, laidKinds := [.data, .pinned], laidTests := true, laidLooks := .later }
def DiffGoesUptoCardSaid : Prop := Claim7.holds Tryz.pinned (.plain (OpenSpec.upto diffGoesSpec)) diffGoesUptoCard

/-- THE SECOND FORM's CARD OF 'graftwoodlaw16.TallyTells'. -/
def tallyTellsUptoCard : Claim7 := { stood := { row := tallyTellsUptoRow, standIns := [], harness := (true, "f721c666ab31949d08bfea188f487a0fa410c9dfb6ad7294aa2128bfd97badc3"), looks := false }, kinds := [], alts := [], laidByText := true, laidKinds := [.data, .pinned], laidTests := true, laidLooks := .later }
def TallyTellsUptoCardSaid : Prop := Claim7.holds Tryz.pinned (.plain (OpenSpec.upto tallyTellsSpec)) tallyTellsUptoCard

/-- THE SECOND FORM's CARD OF 'graftwoodlaw14.RoomFits'. -/
def roomFitsUptoCard : Claim7 := { stood := { row := roomFitsUptoRow, standIns := [], harness := (true, "f721c666ab31949d08bfea188f487a0fa410c9dfb6ad7294aa2128bfd97badc3"), looks := false }, kinds := [], alts := [], laidByText := true, laidKinds := [.data, .pinned], laidTests := true, laidLooks := .later }
def RoomFitsUptoCardSaid : Prop := Claim7.holds Tryz.pinned (.plain (OpenSpec.upto roomFitsSpec)) roomFitsUptoCard

/-- THE SECOND FORM's CARD OF 'graftwoodlaw14.RoomRoots'. -/
def roomRootsUptoCard : Claim7 := { stood := { row := roomRootsUptoRow, standIns := [], harness := (true, "f721c666ab31949d08bfea188f487a0fa410c9dfb6ad7294aa2128bfd97badc3"), looks := false }, kinds := [], alts := [], laidByText := true, laidKinds := [.data, .pinned], laidTests := true, laidLooks := .later }
def RoomRootsUptoCardSaid : Prop := Claim7.holds Tryz.pinned (.plain (OpenSpec.upto roomRootsSpec)) roomRootsUptoCard

/-- THE SECOND FORM's CARD OF 'graftwoodlaw14.RoomMore'. -/
def roomMoreUptoCard : Claim7 := { stood := { row := roomMoreUptoRow, standIns := [], harness := (true, "f721c666ab31949d08bfea188f487a0fa410c9dfb6ad7294aa2128bfd97badc3"), looks := false }, kinds := [], alts := [], laidByText := true, laidKinds := [.data, .pinned], laidTests := true, laidLooks := .later }
def RoomMoreUptoCardSaid : Prop := Claim7.holds Tryz.pinned (.plain (OpenSpec.upto roomMoreSpec)) roomMoreUptoCard

/-- THE SECOND FORM's CARD OF 'graftwoodlaw14.RoomOf'. -/
def roomOfUptoCard : Claim7 := { stood := { row := roomOfUptoRow, standIns := [], harness := (true, "f721c666ab31949d08bfea188f487a0fa410c9dfb6ad7294aa2128bfd97badc3"), looks := false }, kinds := [], alts := [], laidByText := true, laidKinds := [.data, .pinned], laidTests := true, laidLooks := .later }
def RoomOfUptoCardSaid : Prop := Claim7.holds Tryz.pinned (.plain (OpenSpec.upto roomOfSpec)) roomOfUptoCard

/-- THE SECOND FORM's CARD OF 'graftwoodlaw14.RoomBounds'. -/
def roomBoundsUptoCard : Claim7 := { stood := { row := roomBoundsUptoRow, standIns := [], harness := (true, "f721c666ab31949d08bfea188f487a0fa410c9dfb6ad7294aa2128bfd97badc3"), looks := false }, kinds := [], alts := [], laidByText := true, laidKinds := [.data, .pinned], laidTests := true, laidLooks := .later }
def RoomBoundsUptoCardSaid : Prop := Claim7.holds Tryz.pinned (.plain (OpenSpec.upto roomBoundsSpec)) roomBoundsUptoCard

/-- THE SECOND FORM's CARD OF 'graftwoodlaw14.RoomTakes'. -/
def roomTakesUptoCard : Claim7 := { stood := { row := roomTakesUptoRow, standIns := [], harness := (true, "f721c666ab31949d08bfea188f487a0fa410c9dfb6ad7294aa2128bfd97badc3"), looks := false }, kinds := [], alts := [], laidByText := true, laidKinds := [.data, .pinned], laidTests := true, laidLooks := .later }
def RoomTakesUptoCardSaid : Prop := Claim7.holds Tryz.pinned (.plain (OpenSpec.upto roomTakesSpec)) roomTakesUptoCard
end Rows
end Go.Proofs.YtjfcmkddeglghaaGreatDoor
