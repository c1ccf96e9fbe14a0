/-
  DERIVED. GIVEN WITH THE SEED: THE CARDS: each row of YtgljicdpcapgnaaGreatDoorRows.lean that lists a variable, with what it lists TIED to the program's text (the seventh form; the later family's looks); each row that meets fmt, with fmt's text TOLD by the authors' own Lean function (tested against real Go, not proved from fmt's source: count such statements apart). THE CARD IS WHAT COUNTS. Prove the row's statement (the work); the ties are given (YtgljicdpcapgnaaGreatDoorTie.lean); close each card by the builder's one call (the guide's Derived/Test/ToyasCard.lean, 'card_holds'). Laid BY PROGRAM, IN A SANDBOX (cutbox-door.mjs). By AI agents, Wed Nov 11 2026. No macro, syntax, notation, axiom, sorry.
-/
import Derived.Test.YtgljicdpcapgnaaGreatDoorRows
import GoSem.ClaimSeven
namespace Go.Proofs.YtgljicdpcapgnaaGreatDoor
namespace Rows

/-- THE TIED CARD OF 'coaminglaw21.ConnBounds'. -/
def connBoundsCard : Claim7 := { stood := { row := connBoundsRow, standIns := [], harness := (true, "c80b1c7c0d3f36f140c7088670886e0d5b60e32a251244c8080ace9b0c5352c6"), looks := false }, kinds := [], alts := [], laidByText := true, laidKinds := [.data], laidTests := true, laidLooks := .later }
def ConnBoundsCardSaid : Prop := Claim7.holds Tryz.pinned (.plain (OpenSpec.ofChange connBoundsSpec)) connBoundsCard

/-- THE TIED CARD OF 'coaminglaw21.ConnDoes'. -/
def connDoesCard : Claim7 := { stood := { row := connDoesRow, standIns := [], harness := (true, "c80b1c7c0d3f36f140c7088670886e0d5b60e32a251244c8080ace9b0c5352c6"), looks := false }, kinds := [], alts := [], laidByText := true, laidKinds := [.data], laidTests := true, laidLooks := .later }
def ConnDoesCardSaid : Prop := Claim7.holds Tryz.pinned (.plain (OpenSpec.ofChange connDoesSpec)) connDoesCard

/-- THE SECOND FORM's CARD OF 'coaminglaw21.ConnBounds'. -/
def connBoundsUptoCard : Claim7 := { stood := { row := connBoundsUptoRow, standIns := [], harness := (true, "c80b1c7c0d3f36f140c7088670886e0d5b60e32a251244c8080ace9b0c5352c6"), looks := false }, kinds := [], alts := [], laidByText := true, laidKinds := [.data], laidTests := true, laidLooks := .later }
def ConnBoundsUptoCardSaid : Prop := Claim7.holds Tryz.pinned (.plain (OpenSpec.upto connBoundsSpec)) connBoundsUptoCard

/-- THE SECOND FORM's CARD OF 'coaminglaw21.ConnDoes'. -/
def connDoesUptoCard : Claim7 := { stood := { row := connDoesUptoRow, standIns := [], harness := (true, "c80b1c7c0d3f36f140c7088670886e0d5b60e32a251244c8080ace9b0c5352c6"), looks := false }, kinds := [], alts := [], laidByText := true, laidKinds := [.data], laidTests := true, laidLooks := .later }
def ConnDoesUptoCardSaid : Prop := Claim7.holds Tryz.pinned (.plain (OpenSpec.upto connDoesSpec)) connDoesUptoCard
end Rows
end Go.Proofs.YtgljicdpcapgnaaGreatDoor
