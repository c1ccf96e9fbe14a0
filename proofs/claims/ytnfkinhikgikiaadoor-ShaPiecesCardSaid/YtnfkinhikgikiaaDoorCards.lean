/-
  DERIVED. GIVEN WITH THE SEED: THE CARDS: each row of YtnfkinhikgikiaaDoorRows.lean that lists a variable, with what it lists TIED to the program's text (the seventh form; the later family's looks); each row that meets fmt, with fmt's text TOLD by the authors' own Lean function (tested against real Go, not proved from fmt's source: count such statements apart). THE CARD IS WHAT COUNTS. Prove the row's statement (the work); the ties are given (YtnfkinhikgikiaaDoorTie.lean); close each card by the builder's one call (the guide's Derived/Test/ToyasCard.lean, 'card_holds'). Laid BY PROGRAM, IN A SANDBOX (cutbox-door.mjs). By AI agents, Wed Nov 11 2026. No macro, syntax, notation, axiom, sorry.
-/
import Derived.Test.YtnfkinhikgikiaaDoorRows
import GoSem.ClaimSeven
namespace Go.Proofs.YtnfkinhikgikiaaDoor
namespace Rows

/-- THE TIED CARD OF 'coaminglaw02.ShaSums'. -/
def shaSumsCard : Claim7 := { stood := { row := shaSumsRow, standIns := [], harness := (true, "4a458099d0066d3635fa7948cc792fe0ce29d52b8a17ca1574f688b5700ba112"), looks := false }, kinds := [], alts := [], laidByText := true, laidKinds := [.data], laidTests := true, laidLooks := .later }
def ShaSumsCardSaid : Prop := Claim7.holds Tryd.pinned (.plain (OpenSpec.ofChange shaSumsSpec)) shaSumsCard

/-- THE TIED CARD OF 'coaminglaw02.ShaPieces'. -/
def shaPiecesCard : Claim7 := { stood := { row := shaPiecesRow, standIns := [], harness := (true, "4a458099d0066d3635fa7948cc792fe0ce29d52b8a17ca1574f688b5700ba112"), looks := false }, kinds := [], alts := [], laidByText := true, laidKinds := [.data], laidTests := true, laidLooks := .later }
def ShaPiecesCardSaid : Prop := Claim7.holds Tryd.pinned (.plain (OpenSpec.ofChange shaPiecesSpec)) shaPiecesCard

/-- THE TIED CARD OF 'coaminglaw02.ShaStays'. -/
def shaStaysCard : Claim7 := { stood := { row := shaStaysRow, standIns := [], harness := (true, "4a458099d0066d3635fa7948cc792fe0ce29d52b8a17ca1574f688b5700ba112"), looks := false }, kinds := [], alts := [], laidByText := true, laidKinds := [.data], laidTests := true, laidLooks := .later }
def ShaStaysCardSaid : Prop := Claim7.holds Tryd.pinned (.plain (OpenSpec.ofChange shaStaysSpec)) shaStaysCard

/-- THE TIED CARD OF 'coaminglaw02.ShaBytes'. -/
def shaBytesCard : Claim7 := { stood := { row := shaBytesRow, standIns := [], harness := (true, "4a458099d0066d3635fa7948cc792fe0ce29d52b8a17ca1574f688b5700ba112"), looks := false }, kinds := [], alts := [], laidByText := true, laidKinds := [.data], laidTests := true, laidLooks := .later }
def ShaBytesCardSaid : Prop := Claim7.holds Tryd.pinned (.plain (OpenSpec.ofChange shaBytesSpec)) shaBytesCard

/-- THE SECOND FORM's CARD OF 'coaminglaw02.ShaSums'. -/
def shaSumsUptoCard : Claim7 := { stood := { row := shaSumsUptoRow, standIns := [], harness := (true, "4a458099d0066d3635fa7948cc792fe0ce29d52b8a17ca1574f688b5700ba112"), looks := false }, kinds := [], alts := [], laidByText := true, laidKinds := [.data], laidTests := true, laidLooks := .later }
def ShaSumsUptoCardSaid : Prop := Claim7.holds Tryd.pinned (.plain (OpenSpec.upto shaSumsSpec)) shaSumsUptoCard

/-- THE SECOND FORM's CARD OF 'coaminglaw02.ShaPieces'. -/
def shaPiecesUptoCard : Claim7 := { stood := { row := shaPiecesUptoRow, standIns := [], harness := (true, "4a458099d0066d3635fa7948cc792fe0ce29d52b8a17ca1574f688b5700ba112"), looks := false }, kinds := [], alts := [], laidByText := true, laidKinds := [.data], laidTests := true, laidLooks := .later }
def ShaPiecesUptoCardSaid : Prop := Claim7.holds Tryd.pinned (.plain (OpenSpec.upto shaPiecesSpec)) shaPiecesUptoCard

/-- THE SECOND FORM's CARD OF 'coaminglaw02.ShaStays'. -/
def shaStaysUptoCard : Claim7 := { stood := { row := shaStaysUptoRow, standIns := [], harness := (true, "4a458099d0066d3635fa7948cc792fe0ce29d52b8a17ca1574f688b5700ba112"), looks := false }, kinds := [], alts := [], laidByText := true, laidKinds := [.data], laidTests := true, laidLooks := .later }
def ShaStaysUptoCardSaid : Prop := Claim7.holds Tryd.pinned (.plain (OpenSpec.upto shaStaysSpec)) shaStaysUptoCard

/-- THE SECOND FORM's CARD OF 'coaminglaw02.ShaBytes'. -/
def shaBytesUptoCard : Claim7 := { stood := { row := shaBytesUptoRow, standIns := [], harness := (true, "4a458099d0066d3635fa7948cc792fe0ce29d52b8a17ca1574f688b5700ba112"), looks := false }, kinds := [], alts := [], laidByText := true, laidKinds := [.data], laidTests := true, laidLooks := .later }
def ShaBytesUptoCardSaid : Prop := Claim7.holds Tryd.pinned (.plain (OpenSpec.upto shaBytesSpec)) shaBytesUptoCard
end Rows
end Go.Proofs.YtnfkinhikgikiaaDoor
