/-
  DERIVED. GIVEN WITH THE SEED: THE CARDS: each row of YtgljicdpcapgnaaDoorRows.lean that lists a variable, with what it lists TIED to the program's text (the seventh form; the later family's looks); each row that meets fmt, with fmt's text TOLD by the authors' own Lean function (tested against real Go, not proved from fmt's source: count such statements apart). THE CARD IS WHAT COUNTS. Prove the row's statement (the work); the ties are given (YtgljicdpcapgnaaDoorTie.lean); close each card by the builder's one call (the guide's Derived/Test/ToyasCard.lean, 'card_holds'). Laid BY PROGRAM, IN A SANDBOX (cutbox-door.mjs). By AI agents, Wed Nov 11 2026. No macro, syntax, notation, axiom, sorry.
-/
import Derived.Test.YtgljicdpcapgnaaDoorRows
import GoSem.ClaimSeven
namespace Go.Proofs.YtgljicdpcapgnaaDoor
namespace Rows

/-- THE TIED CARD OF 'coaminglaw21.ConnAnswers'. -/
def connAnswersCard : Claim7 := { stood := { row := connAnswersRow, standIns := [], harness := (true, "b94a56dd89bc716cc43660ab7e982fed9b812f0cfd4578020de085b642ba142e"), looks := false }, kinds := [], alts := [], laidByText := true, laidKinds := [.data], laidTests := true, laidLooks := .later }
def ConnAnswersCardSaid : Prop := Claim7.holds Tryd.pinned (.plain (OpenSpec.ofChange connAnswersSpec)) connAnswersCard

/-- THE TIED CARD OF 'coaminglaw21.ConnGates'. -/
def connGatesCard : Claim7 := { stood := { row := connGatesRow, standIns := [], harness := (true, "b94a56dd89bc716cc43660ab7e982fed9b812f0cfd4578020de085b642ba142e"), looks := false }, kinds := [], alts := [], laidByText := true, laidKinds := [.data], laidTests := true, laidLooks := .later }
def ConnGatesCardSaid : Prop := Claim7.holds Tryd.pinned (.plain (OpenSpec.ofChange connGatesSpec)) connGatesCard

/-- THE TIED CARD OF 'coaminglaw21.ConnLong'. -/
def connLongCard : Claim7 := { stood := { row := connLongRow, standIns := [], harness := (true, "b94a56dd89bc716cc43660ab7e982fed9b812f0cfd4578020de085b642ba142e"), looks := false }, kinds := [], alts := [], laidByText := true, laidKinds := [.data], laidTests := true, laidLooks := .later }
def ConnLongCardSaid : Prop := Claim7.holds Tryd.pinned (.plain (OpenSpec.ofChange connLongSpec)) connLongCard

/-- THE TIED CARD OF 'coaminglaw21.ConnPieces'. -/
def connPiecesCard : Claim7 := { stood := { row := connPiecesRow, standIns := [], harness := (true, "b94a56dd89bc716cc43660ab7e982fed9b812f0cfd4578020de085b642ba142e"), looks := false }, kinds := [], alts := [], laidByText := true, laidKinds := [.data], laidTests := true, laidLooks := .later }
def ConnPiecesCardSaid : Prop := Claim7.holds Tryd.pinned (.plain (OpenSpec.ofChange connPiecesSpec)) connPiecesCard

/-- THE TIED CARD OF 'coaminglaw21.ConnServes'. -/
def connServesCard : Claim7 := { stood := { row := connServesRow, standIns := [], harness := (true, "b94a56dd89bc716cc43660ab7e982fed9b812f0cfd4578020de085b642ba142e"), looks := false }, kinds := [], alts := [], laidByText := true, laidKinds := [.data], laidTests := true, laidLooks := .later }
def ConnServesCardSaid : Prop := Claim7.holds Tryd.pinned (.plain (OpenSpec.ofChange connServesSpec)) connServesCard

/-- THE SECOND FORM's CARD OF 'coaminglaw21.ConnAnswers'. -/
def connAnswersUptoCard : Claim7 := { stood := { row := connAnswersUptoRow, standIns := [], harness := (true, "b94a56dd89bc716cc43660ab7e982fed9b812f0cfd4578020de085b642ba142e"), looks := false }, kinds := [], alts := [], laidByText := true, laidKinds := [.data], laidTests := true, laidLooks := .later }
def ConnAnswersUptoCardSaid : Prop := Claim7.holds Tryd.pinned (.plain (OpenSpec.upto connAnswersSpec)) connAnswersUptoCard

/-- THE SECOND FORM's CARD OF 'coaminglaw21.ConnGates'. -/
def connGatesUptoCard : Claim7 := { stood := { row := connGatesUptoRow, standIns := [], harness := (true, "b94a56dd89bc716cc43660ab7e982fed9b812f0cfd4578020de085b642ba142e"), looks := false }, kinds := [], alts := [], laidByText := true, laidKinds := [.data], laidTests := true, laidLooks := .later }
def ConnGatesUptoCardSaid : Prop := Claim7.holds Tryd.pinned (.plain (OpenSpec.upto connGatesSpec)) connGatesUptoCard

/-- THE SECOND FORM's CARD OF 'coaminglaw21.ConnLong'. -/
def connLongUptoCard : Claim7 := { stood := { row := connLongUptoRow, standIns := [], harness := (true, "b94a56dd89bc716cc43660ab7e982fed9b812f0cfd4578020de085b642ba142e"), looks := false }, kinds := [], alts := [], laidByText := true, laidKinds := [.data], laidTests := true, laidLooks := .later }
def ConnLongUptoCardSaid : Prop := Claim7.holds Tryd.pinned (.plain (OpenSpec.upto connLongSpec)) connLongUptoCard

/-- THE SECOND FORM's CARD OF 'coaminglaw21.ConnPieces'. -/
def connPiecesUptoCard : Claim7 := { stood := { row := connPiecesUptoRow, standIns := [], harness := (true, "b94a56dd89bc716cc43660ab7e982fed9b812f0cfd4578020de085b642ba142e"), looks := false }, kinds := [], alts := [], laidByText := true, laidKinds := [.data], laidTests := true, laidLooks := .later }
def ConnPiecesUptoCardSaid : Prop := Claim7.holds Tryd.pinned (.plain (OpenSpec.upto connPiecesSpec)) connPiecesUptoCard

/-- THE SECOND FORM's CARD OF 'coaminglaw21.ConnServes'. -/
def connServesUptoCard : Claim7 := { stood := { row := connServesUptoRow, standIns := [], harness := (true, "b94a56dd89bc716cc43660ab7e982fed9b812f0cfd4578020de085b642ba142e"), looks := false }, kinds := [], alts := [], laidByText := true, laidKinds := [.data], laidTests := true, laidLooks := .later }
def ConnServesUptoCardSaid : Prop := Claim7.holds Tryd.pinned (.plain (OpenSpec.upto connServesSpec)) connServesUptoCard
end Rows
end Go.Proofs.YtgljicdpcapgnaaDoor
