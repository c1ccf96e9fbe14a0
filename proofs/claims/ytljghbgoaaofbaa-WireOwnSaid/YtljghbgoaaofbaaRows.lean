/-
  No cell of these rows narrows 'for every input' (looked for: loops, veiled, ifaces, maps, wideKeys, modest, calm, conditions, laid).
  DERIVED. THE GIVEN ROWS OF THIS SEAT. 5 by the template 'for every input the law returns true; each argument reads behind the call as it read before'; 0 by the template 'total and deterministic' (their statements: YtljghbgoaaofbaaTotals.lean).
  GIVEN WITH THE SEED: the statements are not yours to turn. If you find one false, say at which input.
  Laid BY PROGRAM, IN A SANDBOX (cutbox-rows.mjs): the forced cells as the released guide's own fill.sh prints them over the translation da239af450623141… (all of the seat's roots in one cut). By AI agents, Wed Nov 11 2026. No macro, syntax, notation, axiom, sorry.
-/
import Derived.Test.YtljghbgoaaofbaaChecked
import GoSem.Claim
import GoSem.ClaimJoined
import GoSem.ClaimMapViews
import Derived.JoinedTies
import Derived.KernelRfl
namespace Go.Proofs.Ytljghbgoaaofbaa
/- THE CELL 'sum', in the pinned program and in every row, IS THE sha256 OF THE DUMP (.gsa) THAT YtljghbgoaaofbaaProg.lean LOADS. Nothing in Lean hashes anything: it is a label: what it is worth is what the hold of that sum in a sandbox is worth. -/
noncomputable def Try.pinned : Pinned := { name := "ytljghbgoaaofbaa", sum := "da239af4506231419abb6d71a13a254f0d3ab6d5525c43b234a8298d53599dd2", checked := Try.checked }
namespace Rows
def none {H : Type} : Left H := { results := [], args := [] }

/-- 'coaminglaw06.WirePacks': WHATEVER THE INPUT: true; the input reads as it did. -/
def wirePacksSpec : ChangeSpec := { name := "wirePacks", fn := fun _ => fun
  | [d1, d2] => { results := [.lit (.bool true)], args := [d1, d2] }
  | _ => none }
def wirePacksRow : OpenClaim := { program := "ytljghbgoaaofbaa", sum := "da239af4506231419abb6d71a13a254f0d3ab6d5525c43b234a8298d53599dd2", func := "coaming/coaminglaw06.WirePacks", spec := "wirePacks", unfollowed := true, recurses := true, apart := false }
def WirePacksSaid : Prop := wirePacksRow.holds Try.pinned (OpenSpec.ofChange wirePacksSpec)

/-- ITS FALSE NEIGHBOUR: 'it returns false'. Refute it at one input. -/
def wirePacksWrong : ChangeSpec := { name := "wirePacks", fn := fun _ => fun
  | [d1, d2] => { results := [.lit (.bool false)], args := [d1, d2] }
  | _ => none }
def WirePacksWrongFalsely : Prop := wirePacksRow.holds Try.pinned (OpenSpec.ofChange wirePacksWrong)

/-- 'coaminglaw06.WireTakes': WHATEVER THE INPUT: true; the input reads as it did. -/
def wireTakesSpec : ChangeSpec := { name := "wireTakes", fn := fun _ => fun
  | [d1, d2] => { results := [.lit (.bool true)], args := [d1, d2] }
  | _ => none }
def wireTakesRow : OpenClaim := { program := "ytljghbgoaaofbaa", sum := "da239af4506231419abb6d71a13a254f0d3ab6d5525c43b234a8298d53599dd2", func := "coaming/coaminglaw06.WireTakes", spec := "wireTakes", unfollowed := true, recurses := true, apart := false }
def WireTakesSaid : Prop := wireTakesRow.holds Try.pinned (OpenSpec.ofChange wireTakesSpec)

/-- ITS FALSE NEIGHBOUR: 'it returns false'. Refute it at one input. -/
def wireTakesWrong : ChangeSpec := { name := "wireTakes", fn := fun _ => fun
  | [d1, d2] => { results := [.lit (.bool false)], args := [d1, d2] }
  | _ => none }
def WireTakesWrongFalsely : Prop := wireTakesRow.holds Try.pinned (OpenSpec.ofChange wireTakesWrong)

/-- 'coaminglaw06.WireBack': WHATEVER THE INPUT: true; the input reads as it did. -/
def wireBackSpec : ChangeSpec := { name := "wireBack", fn := fun _ => fun
  | [d1, d2, d3] => { results := [.lit (.bool true)], args := [d1, d2, d3] }
  | _ => none }
def wireBackRow : OpenClaim := { program := "ytljghbgoaaofbaa", sum := "da239af4506231419abb6d71a13a254f0d3ab6d5525c43b234a8298d53599dd2", func := "coaming/coaminglaw06.WireBack", spec := "wireBack", unfollowed := true, recurses := true, apart := false }
def WireBackSaid : Prop := wireBackRow.holds Try.pinned (OpenSpec.ofChange wireBackSpec)

/-- ITS FALSE NEIGHBOUR: 'it returns false'. Refute it at one input. -/
def wireBackWrong : ChangeSpec := { name := "wireBack", fn := fun _ => fun
  | [d1, d2, d3] => { results := [.lit (.bool false)], args := [d1, d2, d3] }
  | _ => none }
def WireBackWrongFalsely : Prop := wireBackRow.holds Try.pinned (OpenSpec.ofChange wireBackWrong)

/-- 'coaminglaw06.WireOwn': WHATEVER THE INPUT: true; the input reads as it did. -/
def wireOwnSpec : ChangeSpec := { name := "wireOwn", fn := fun _ => fun
  | [d1, d2] => { results := [.lit (.bool true)], args := [d1, d2] }
  | _ => none }
def wireOwnRow : OpenClaim := { program := "ytljghbgoaaofbaa", sum := "da239af4506231419abb6d71a13a254f0d3ab6d5525c43b234a8298d53599dd2", func := "coaming/coaminglaw06.WireOwn", spec := "wireOwn", unfollowed := true, recurses := true, apart := false }
def WireOwnSaid : Prop := wireOwnRow.holds Try.pinned (OpenSpec.ofChange wireOwnSpec)

/-- ITS FALSE NEIGHBOUR: 'it returns false'. Refute it at one input. -/
def wireOwnWrong : ChangeSpec := { name := "wireOwn", fn := fun _ => fun
  | [d1, d2] => { results := [.lit (.bool false)], args := [d1, d2] }
  | _ => none }
def WireOwnWrongFalsely : Prop := wireOwnRow.holds Try.pinned (OpenSpec.ofChange wireOwnWrong)

/-- 'coaminglaw06.WireJoin': WHATEVER THE INPUT: true; the input reads as it did. -/
def wireJoinSpec : ChangeSpec := { name := "wireJoin", fn := fun _ => fun
  | [d1, d2, d3] => { results := [.lit (.bool true)], args := [d1, d2, d3] }
  | _ => none }
def wireJoinRow : OpenClaim := { program := "ytljghbgoaaofbaa", sum := "da239af4506231419abb6d71a13a254f0d3ab6d5525c43b234a8298d53599dd2", func := "coaming/coaminglaw06.WireJoin", spec := "wireJoin", unfollowed := true, recurses := true, apart := false }
def WireJoinSaid : Prop := wireJoinRow.holds Try.pinned (OpenSpec.ofChange wireJoinSpec)

/-- ITS FALSE NEIGHBOUR: 'it returns false'. Refute it at one input. -/
def wireJoinWrong : ChangeSpec := { name := "wireJoin", fn := fun _ => fun
  | [d1, d2, d3] => { results := [.lit (.bool false)], args := [d1, d2, d3] }
  | _ => none }
def WireJoinWrongFalsely : Prop := wireJoinRow.holds Try.pinned (OpenSpec.ofChange wireJoinWrong)

/- THE SECOND FORM. 'bulk': how many values and letters a reading holds, each counted each time it is reached (what is shared counts as often as it is met; a slice's spare places count too). A statement '..UptoSaid' is the law's where the arguments, and the package variables that the reading takes, are together of bulk at most 1048576: NARROWER than '..Said'. Prove '..Said' where nothing that the law and all that it calls make is longer than what came in: it says more and counts as full. Else prove '..UptoSaid'. A law counts once. -/
mutual
def uptoBulk {H : Type} : DataW H → Nat
  | .lit (.string bytes) => bytes.length + 1
  | .lit _ => 1
  | .nil => 1
  | .ptr d => uptoBulk d + 1
  | .slice elems spare => uptoBulkAll elems + uptoBulkAll spare + 1
  | .agg parts => uptoBulkAll parts + 1
  | .iface _ d => uptoBulk d + 1
  | .map entries => uptoBulkEntries entries + 1
  | .held _ => 1
def uptoBulkAll {H : Type} : List (DataW H) → Nat
  | [] => 0
  | d :: r => uptoBulk d + uptoBulkAll r
def uptoBulkEntries {H : Type} : List (Lit × DataW H) → Nat
  | [] => 0
  | x :: r => uptoBulkEntry x + uptoBulkEntries r
def uptoBulkEntry {H : Type} : Lit × DataW H → Nat
  | (.string bytes, d) => bytes.length + uptoBulk d + 1
  | (_, d) => uptoBulk d + 1
 end
def uptoSmall : (H : Type) → List (DataW H) → Bool := fun _ ds => decide (uptoBulkAll ds ≤ 1048576)
def OpenSpec.upto (s : _root_.Go.ChangeSpec) : _root_.Go.OpenSpec := { _root_.Go.OpenSpec.ofChange s with cond := some uptoSmall }

/-- 'coaminglaw06.WirePacks', WHERE WHAT IT READS IS OF BULK AT MOST 1048576: true; the input reads as it did. -/
def wirePacksUptoRow : OpenClaim := { program := "ytljghbgoaaofbaa", sum := "da239af4506231419abb6d71a13a254f0d3ab6d5525c43b234a8298d53599dd2", func := "coaming/coaminglaw06.WirePacks", spec := "wirePacks", unfollowed := true, recurses := true, apart := false, narrowed := true }
def WirePacksUptoSaid : Prop := wirePacksUptoRow.holds Try.pinned (OpenSpec.upto wirePacksSpec)

/-- 'coaminglaw06.WireTakes', WHERE WHAT IT READS IS OF BULK AT MOST 1048576: true; the input reads as it did. -/
def wireTakesUptoRow : OpenClaim := { program := "ytljghbgoaaofbaa", sum := "da239af4506231419abb6d71a13a254f0d3ab6d5525c43b234a8298d53599dd2", func := "coaming/coaminglaw06.WireTakes", spec := "wireTakes", unfollowed := true, recurses := true, apart := false, narrowed := true }
def WireTakesUptoSaid : Prop := wireTakesUptoRow.holds Try.pinned (OpenSpec.upto wireTakesSpec)

/-- 'coaminglaw06.WireBack', WHERE WHAT IT READS IS OF BULK AT MOST 1048576: true; the input reads as it did. -/
def wireBackUptoRow : OpenClaim := { program := "ytljghbgoaaofbaa", sum := "da239af4506231419abb6d71a13a254f0d3ab6d5525c43b234a8298d53599dd2", func := "coaming/coaminglaw06.WireBack", spec := "wireBack", unfollowed := true, recurses := true, apart := false, narrowed := true }
def WireBackUptoSaid : Prop := wireBackUptoRow.holds Try.pinned (OpenSpec.upto wireBackSpec)

/-- 'coaminglaw06.WireOwn', WHERE WHAT IT READS IS OF BULK AT MOST 1048576: true; the input reads as it did. -/
def wireOwnUptoRow : OpenClaim := { program := "ytljghbgoaaofbaa", sum := "da239af4506231419abb6d71a13a254f0d3ab6d5525c43b234a8298d53599dd2", func := "coaming/coaminglaw06.WireOwn", spec := "wireOwn", unfollowed := true, recurses := true, apart := false, narrowed := true }
def WireOwnUptoSaid : Prop := wireOwnUptoRow.holds Try.pinned (OpenSpec.upto wireOwnSpec)

/-- 'coaminglaw06.WireJoin', WHERE WHAT IT READS IS OF BULK AT MOST 1048576: true; the input reads as it did. -/
def wireJoinUptoRow : OpenClaim := { program := "ytljghbgoaaofbaa", sum := "da239af4506231419abb6d71a13a254f0d3ab6d5525c43b234a8298d53599dd2", func := "coaming/coaminglaw06.WireJoin", spec := "wireJoin", unfollowed := true, recurses := true, apart := false, narrowed := true }
def WireJoinUptoSaid : Prop := wireJoinUptoRow.holds Try.pinned (OpenSpec.upto wireJoinSpec)

end Rows
end Go.Proofs.Ytljghbgoaaofbaa
