/-
  DERIVED. GIVEN WITH THE SEED: THE CARDS: each row of YthcilikinfhipaaDoorRows.lean that lists a variable, with what it lists TIED to the program's text (the seventh form; the later family's looks); each row that meets fmt, with fmt's text TOLD by the authors' own Lean function (tested against real Go, not proved from fmt's source: count such statements apart). THE CARD IS WHAT COUNTS. Prove the row's statement (the work); the ties are given (YthcilikinfhipaaDoorTie.lean); close each card by the builder's one call (the guide's Derived/Test/ToyasCard.lean, 'card_holds'). Laid BY PROGRAM, IN A SANDBOX (cutbox-door.mjs). By AI agents, Wed Nov 11 2026. No macro, syntax, notation, axiom, sorry.
-/
import Derived.Test.YthcilikinfhipaaDoorRows
import GoSem.ClaimSeven
namespace Go.Proofs.YthcilikinfhipaaDoor
namespace Rows

/-- THE TIED CARD OF 'coaminglaw03.MacTags'. -/
def macTagsCard : Claim7 := { stood := { row := macTagsRow, standIns := [], harness := (true, "ec37803ce0c76b2e91dc930df1b1b4d433909658e8f2fe1d19451ce5ea3400a0"), looks := false }, kinds := [], alts := [], laidByText := true, laidKinds := [.data], laidTests := true, laidLooks := .later }
def MacTagsCardSaid : Prop := Claim7.holds Tryd.pinned (.plain (OpenSpec.ofChange macTagsSpec)) macTagsCard

/-- THE TIED CARD OF 'coaminglaw03.MacPieces'. -/
def macPiecesCard : Claim7 := { stood := { row := macPiecesRow, standIns := [], harness := (true, "ec37803ce0c76b2e91dc930df1b1b4d433909658e8f2fe1d19451ce5ea3400a0"), looks := false }, kinds := [], alts := [], laidByText := true, laidKinds := [.data], laidTests := true, laidLooks := .later }
def MacPiecesCardSaid : Prop := Claim7.holds Tryd.pinned (.plain (OpenSpec.ofChange macPiecesSpec)) macPiecesCard

/-- THE TIED CARD OF 'coaminglaw03.MacKeys'. -/
def macKeysCard : Claim7 := { stood := { row := macKeysRow, standIns := [], harness := (true, "ec37803ce0c76b2e91dc930df1b1b4d433909658e8f2fe1d19451ce5ea3400a0"), looks := false }, kinds := [], alts := [], laidByText := true, laidKinds := [.data], laidTests := true, laidLooks := .later }
def MacKeysCardSaid : Prop := Claim7.holds Tryd.pinned (.plain (OpenSpec.ofChange macKeysSpec)) macKeysCard

/-- THE TIED CARD OF 'coaminglaw03.MacSame'. -/
def macSameCard : Claim7 := { stood := { row := macSameRow, standIns := [], harness := (true, "ec37803ce0c76b2e91dc930df1b1b4d433909658e8f2fe1d19451ce5ea3400a0"), looks := false }, kinds := [], alts := [], laidByText := true, laidKinds := [.data], laidTests := true, laidLooks := .later }
def MacSameCardSaid : Prop := Claim7.holds Tryd.pinned (.plain (OpenSpec.ofChange macSameSpec)) macSameCard

/-- THE TIED CARD OF 'coaminglaw03.MacTurns'. -/
def macTurnsCard : Claim7 := { stood := { row := macTurnsRow, standIns := [], harness := (true, "ec37803ce0c76b2e91dc930df1b1b4d433909658e8f2fe1d19451ce5ea3400a0"), looks := false }, kinds := [], alts := [], laidByText := true, laidKinds := [.data], laidTests := true, laidLooks := .later }
def MacTurnsCardSaid : Prop := Claim7.holds Tryd.pinned (.plain (OpenSpec.ofChange macTurnsSpec)) macTurnsCard

/-- THE SECOND FORM's CARD OF 'coaminglaw03.MacTags'. -/
def macTagsUptoCard : Claim7 := { stood := { row := macTagsUptoRow, standIns := [], harness := (true, "ec37803ce0c76b2e91dc930df1b1b4d433909658e8f2fe1d19451ce5ea3400a0"), looks := false }, kinds := [], alts := [], laidByText := true, laidKinds := [.data], laidTests := true, laidLooks := .later }
def MacTagsUptoCardSaid : Prop := Claim7.holds Tryd.pinned (.plain (OpenSpec.upto macTagsSpec)) macTagsUptoCard

/-- THE SECOND FORM's CARD OF 'coaminglaw03.MacPieces'. -/
def macPiecesUptoCard : Claim7 := { stood := { row := macPiecesUptoRow, standIns := [], harness := (true, "ec37803ce0c76b2e91dc930df1b1b4d433909658e8f2fe1d19451ce5ea3400a0"), looks := false }, kinds := [], alts := [], laidByText := true, laidKinds := [.data], laidTests := true, laidLooks := .later }
def MacPiecesUptoCardSaid : Prop := Claim7.holds Tryd.pinned (.plain (OpenSpec.upto macPiecesSpec)) macPiecesUptoCard

/-- THE SECOND FORM's CARD OF 'coaminglaw03.MacKeys'. -/
def macKeysUptoCard : Claim7 := { stood := { row := macKeysUptoRow, standIns := [], harness := (true, "ec37803ce0c76b2e91dc930df1b1b4d433909658e8f2fe1d19451ce5ea3400a0"), looks := false }, kinds := [], alts := [], laidByText := true, laidKinds := [.data], laidTests := true, laidLooks := .later }
def MacKeysUptoCardSaid : Prop := Claim7.holds Tryd.pinned (.plain (OpenSpec.upto macKeysSpec)) macKeysUptoCard

/-- THE SECOND FORM's CARD OF 'coaminglaw03.MacSame'. -/
def macSameUptoCard : Claim7 := { stood := { row := macSameUptoRow, standIns := [], harness := (true, "ec37803ce0c76b2e91dc930df1b1b4d433909658e8f2fe1d19451ce5ea3400a0"), looks := false }, kinds := [], alts := [], laidByText := true, laidKinds := [.data], laidTests := true, laidLooks := .later }
def MacSameUptoCardSaid : Prop := Claim7.holds Tryd.pinned (.plain (OpenSpec.upto macSameSpec)) macSameUptoCard

/-- THE SECOND FORM's CARD OF 'coaminglaw03.MacTurns'. -/
def macTurnsUptoCard : Claim7 := { stood := { row := macTurnsUptoRow, standIns := [], harness := (true, "ec37803ce0c76b2e91dc930df1b1b4d433909658e8f2fe1d19451ce5ea3400a0"), looks := false }, kinds := [], alts := [], laidByText := true, laidKinds := [.data], laidTests := true, laidLooks := .later }
def MacTurnsUptoCardSaid : Prop := Claim7.holds Tryd.pinned (.plain (OpenSpec.upto macTurnsSpec)) macTurnsUptoCard
end Rows
end Go.Proofs.YthcilikinfhipaaDoor
