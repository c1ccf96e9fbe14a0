/-
  DERIVED. GIVEN WITH THE SEED: THE CARDS: each row of YtabdnlecpndfjaaDoorRows.lean that lists a variable, with what it lists TIED to the program's text (the seventh form; the later family's looks); each row that meets fmt, with fmt's text TOLD by the authors' own Lean function (tested against real Go, not proved from fmt's source: count such statements apart). THE CARD IS WHAT COUNTS. Prove the row's statement (the work); the ties are given (YtabdnlecpndfjaaDoorTie.lean); close each card by the builder's one call (the guide's Derived/Test/ToyasCard.lean, 'card_holds'). Laid BY PROGRAM, IN A SANDBOX (cutbox-door.mjs). By AI agents, Wed Nov 11 2026. No macro, syntax, notation, axiom, sorry.
-/
import Derived.Test.YtabdnlecpndfjaaDoorRows
import GoSem.ClaimSeven
namespace Go.Proofs.YtabdnlecpndfjaaDoor
namespace Rows

/-- THE TIED CARD OF 'coaminglaw05.PassIssues'. -/
def passIssuesCard : Claim7 := { stood := { row := passIssuesRow, standIns := [], harness := (true, "c00660f5daf97fd2e00f365fd57cb992f08b8f40a4f3e072524fa76b99aa7263"), looks := false }, kinds := [], alts := [], laidByText := true, laidKinds := [.data], laidTests := true, laidLooks := .later }
def PassIssuesCardSaid : Prop := Claim7.holds Tryd.pinned (.plain (OpenSpec.ofChange passIssuesSpec)) passIssuesCard

/-- THE TIED CARD OF 'coaminglaw05.PassLooks'. -/
def passLooksCard : Claim7 := { stood := { row := passLooksRow, standIns := [], harness := (true, "c00660f5daf97fd2e00f365fd57cb992f08b8f40a4f3e072524fa76b99aa7263"), looks := false }, kinds := [], alts := [], laidByText := true, laidKinds := [.data], laidTests := true, laidLooks := .later }
def PassLooksCardSaid : Prop := Claim7.holds Tryd.pinned (.plain (OpenSpec.ofChange passLooksSpec)) passLooksCard

/-- THE TIED CARD OF 'coaminglaw05.PassOwn'. -/
def passOwnCard : Claim7 := { stood := { row := passOwnRow, standIns := [], harness := (true, "c00660f5daf97fd2e00f365fd57cb992f08b8f40a4f3e072524fa76b99aa7263"), looks := false }, kinds := [], alts := [], laidByText := true, laidKinds := [.data], laidTests := true, laidLooks := .later }
def PassOwnCardSaid : Prop := Claim7.holds Tryd.pinned (.plain (OpenSpec.ofChange passOwnSpec)) passOwnCard

/-- THE TIED CARD OF 'coaminglaw05.PassTags'. -/
def passTagsCard : Claim7 := { stood := { row := passTagsRow, standIns := [], harness := (true, "c00660f5daf97fd2e00f365fd57cb992f08b8f40a4f3e072524fa76b99aa7263"), looks := false }, kinds := [], alts := [], laidByText := true, laidKinds := [.data], laidTests := true, laidLooks := .later }
def PassTagsCardSaid : Prop := Claim7.holds Tryd.pinned (.plain (OpenSpec.ofChange passTagsSpec)) passTagsCard

/-- THE TIED CARD OF 'coaminglaw05.PassApart'. -/
def passApartCard : Claim7 := { stood := { row := passApartRow, standIns := [], harness := (true, "c00660f5daf97fd2e00f365fd57cb992f08b8f40a4f3e072524fa76b99aa7263"), looks := false }, kinds := [], alts := [], laidByText := true, laidKinds := [.data], laidTests := true, laidLooks := .later }
def PassApartCardSaid : Prop := Claim7.holds Tryd.pinned (.plain (OpenSpec.ofChange passApartSpec)) passApartCard

/-- THE TIED CARD OF 'coaminglaw05.PassChecks'. -/
def passChecksCard : Claim7 := { stood := { row := passChecksRow, standIns := [], harness := (true, "c00660f5daf97fd2e00f365fd57cb992f08b8f40a4f3e072524fa76b99aa7263"), looks := false }, kinds := [], alts := [], laidByText := true, laidKinds := [.data], laidTests := true, laidLooks := .later }
def PassChecksCardSaid : Prop := Claim7.holds Tryd.pinned (.plain (OpenSpec.ofChange passChecksSpec)) passChecksCard

/-- THE TIED CARD OF 'coaminglaw05.PassNew'. -/
def passNewCard : Claim7 := { stood := { row := passNewRow, standIns := [], harness := (true, "c00660f5daf97fd2e00f365fd57cb992f08b8f40a4f3e072524fa76b99aa7263"), looks := false }, kinds := [], alts := [], laidByText := true, laidKinds := [.data], laidTests := true, laidLooks := .later }
def PassNewCardSaid : Prop := Claim7.holds Tryd.pinned (.plain (OpenSpec.ofChange passNewSpec)) passNewCard

/-- THE SECOND FORM's CARD OF 'coaminglaw05.PassIssues'. -/
def passIssuesUptoCard : Claim7 := { stood := { row := passIssuesUptoRow, standIns := [], harness := (true, "c00660f5daf97fd2e00f365fd57cb992f08b8f40a4f3e072524fa76b99aa7263"), looks := false }, kinds := [], alts := [], laidByText := true, laidKinds := [.data], laidTests := true, laidLooks := .later }
def PassIssuesUptoCardSaid : Prop := Claim7.holds Tryd.pinned (.plain (OpenSpec.upto passIssuesSpec)) passIssuesUptoCard

/-- THE SECOND FORM's CARD OF 'coaminglaw05.PassLooks'. -/
def passLooksUptoCard : Claim7 := { stood := { row := passLooksUptoRow, standIns := [], harness := (true, "c00660f5daf97fd2e00f365fd57cb992f08b8f40a4f3e072524fa76b99aa7263"), looks := false }, kinds := [], alts := [], laidByText := true, laidKinds := [.data], laidTests := true, laidLooks := .later }
def PassLooksUptoCardSaid : Prop := Claim7.holds Tryd.pinned (.plain (OpenSpec.upto passLooksSpec)) passLooksUptoCard

/-- THE SECOND FORM's CARD OF 'coaminglaw05.PassOwn'. -/
def passOwnUptoCard : Claim7 := { stood := { row := passOwnUptoRow, standIns := [], harness := (true, "c00660f5daf97fd2e00f365fd57cb992f08b8f40a4f3e072524fa76b99aa7263"), looks := false }, kinds := [], alts := [], laidByText := true, laidKinds := [.data], laidTests := true, laidLooks := .later }
def PassOwnUptoCardSaid : Prop := Claim7.holds Tryd.pinned (.plain (OpenSpec.upto passOwnSpec)) passOwnUptoCard

/-- THE SECOND FORM's CARD OF 'coaminglaw05.PassTags'. -/
def passTagsUptoCard : Claim7 := { stood := { row := passTagsUptoRow, standIns := [], harness := (true, "c00660f5daf97fd2e00f365fd57cb992f08b8f40a4f3e072524fa76b99aa7263"), looks := false }, kinds := [], alts := [], laidByText := true, laidKinds := [.data], laidTests := true, laidLooks := .later }
def PassTagsUptoCardSaid : Prop := Claim7.holds Tryd.pinned (.plain (OpenSpec.upto passTagsSpec)) passTagsUptoCard

/-- THE SECOND FORM's CARD OF 'coaminglaw05.PassApart'. -/
def passApartUptoCard : Claim7 := { stood := { row := passApartUptoRow, standIns := [], harness := (true, "c00660f5daf97fd2e00f365fd57cb992f08b8f40a4f3e072524fa76b99aa7263"), looks := false }, kinds := [], alts := [], laidByText := true, laidKinds := [.data], laidTests := true, laidLooks := .later }
def PassApartUptoCardSaid : Prop := Claim7.holds Tryd.pinned (.plain (OpenSpec.upto passApartSpec)) passApartUptoCard

/-- THE SECOND FORM's CARD OF 'coaminglaw05.PassChecks'. -/
def passChecksUptoCard : Claim7 := { stood := { row := passChecksUptoRow, standIns := [], harness := (true, "c00660f5daf97fd2e00f365fd57cb992f08b8f40a4f3e072524fa76b99aa7263"), looks := false }, kinds := [], alts := [], laidByText := true, laidKinds := [.data], laidTests := true, laidLooks := .later }
def PassChecksUptoCardSaid : Prop := Claim7.holds Tryd.pinned (.plain (OpenSpec.upto passChecksSpec)) passChecksUptoCard

/-- THE SECOND FORM's CARD OF 'coaminglaw05.PassNew'. -/
def passNewUptoCard : Claim7 := { stood := { row := passNewUptoRow, standIns := [], harness := (true, "c00660f5daf97fd2e00f365fd57cb992f08b8f40a4f3e072524fa76b99aa7263"), looks := false }, kinds := [], alts := [], laidByText := true, laidKinds := [.data], laidTests := true, laidLooks := .later }
def PassNewUptoCardSaid : Prop := Claim7.holds Tryd.pinned (.plain (OpenSpec.upto passNewSpec)) passNewUptoCard
end Rows
end Go.Proofs.YtabdnlecpndfjaaDoor
