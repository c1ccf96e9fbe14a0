/-
  No cell of these rows narrows 'for every input' (looked for: loops, veiled, ifaces, maps, wideKeys, modest, calm, conditions, laid).
  DERIVED. THE GIVEN ROWS OF THIS SEAT. 6 by the template 'for every input the law returns true; each argument reads behind the call as it read before'; 0 by the template 'total and deterministic' (their statements: YtkpanpekoiadoaaTotals.lean).
  GIVEN WITH THE SEED: the statements are not yours to turn. If you find one false, say at which input.
  Laid BY PROGRAM, IN A SANDBOX (cutbox-rows.mjs): the forced cells as the released guide's own fill.sh prints them over the translation 99b2f35db8eec838… (all of the seat's roots in one cut). By AI agents, Wed Nov 11 2026. No macro, syntax, notation, axiom, sorry.
-/
import Derived.Test.YtkpanpekoiadoaaChecked
import GoSem.Claim
import GoSem.ClaimJoined
import GoSem.ClaimMapViews
import Derived.JoinedTies
import Derived.KernelRfl
namespace Go.Proofs.Ytkpanpekoiadoaa
/- THE CELL 'sum', in the pinned program and in every row, IS THE sha256 OF THE DUMP (.gsa) THAT YtkpanpekoiadoaaProg.lean LOADS. Nothing in Lean hashes anything: it is a label: what it is worth is what the hold of that sum in a sandbox is worth. -/
noncomputable def Try.pinned : Pinned := { name := "ytkpanpekoiadoaa", sum := "99b2f35db8eec838624386062fabaf536be26fc8d48949463c958c36e3a198b9", checked := Try.checked }
namespace Rows
def none {H : Type} : Left H := { results := [], args := [] }

/-- 'coaminglaw07.GreetReads': WHATEVER THE INPUT: true; the input reads as it did. -/
def greetReadsSpec : ChangeSpec := { name := "greetReads", fn := fun _ => fun
  | [d] => { results := [.lit (.bool true)], args := [d] }
  | _ => none }
def greetReadsRow : OpenClaim := { program := "ytkpanpekoiadoaa", sum := "99b2f35db8eec838624386062fabaf536be26fc8d48949463c958c36e3a198b9", func := "coaming/coaminglaw07.GreetReads", spec := "greetReads", unfollowed := true, recurses := true, apart := false }
def GreetReadsSaid : Prop := greetReadsRow.holds Try.pinned (OpenSpec.ofChange greetReadsSpec)

/-- ITS FALSE NEIGHBOUR: 'it returns false'. Refute it at one input. -/
def greetReadsWrong : ChangeSpec := { name := "greetReads", fn := fun _ => fun
  | [d] => { results := [.lit (.bool false)], args := [d] }
  | _ => none }
def GreetReadsWrongFalsely : Prop := greetReadsRow.holds Try.pinned (OpenSpec.ofChange greetReadsWrong)

/-- 'coaminglaw07.GreetAsked': WHATEVER THE INPUT: true; the input reads as it did. -/
def greetAskedSpec : ChangeSpec := { name := "greetAsked", fn := fun _ => fun
  | [d] => { results := [.lit (.bool true)], args := [d] }
  | _ => none }
def greetAskedRow : OpenClaim := { program := "ytkpanpekoiadoaa", sum := "99b2f35db8eec838624386062fabaf536be26fc8d48949463c958c36e3a198b9", func := "coaming/coaminglaw07.GreetAsked", spec := "greetAsked", unfollowed := true, recurses := true, apart := false }
def GreetAskedSaid : Prop := greetAskedRow.holds Try.pinned (OpenSpec.ofChange greetAskedSpec)

/-- ITS FALSE NEIGHBOUR: 'it returns false'. Refute it at one input. -/
def greetAskedWrong : ChangeSpec := { name := "greetAsked", fn := fun _ => fun
  | [d] => { results := [.lit (.bool false)], args := [d] }
  | _ => none }
def GreetAskedWrongFalsely : Prop := greetAskedRow.holds Try.pinned (OpenSpec.ofChange greetAskedWrong)

/-- 'coaminglaw07.GreetFronts': WHATEVER THE INPUT: true; the input reads as it did. -/
def greetFrontsSpec : ChangeSpec := { name := "greetFronts", fn := fun _ => fun
  | [d1, d2, d3, d4] => { results := [.lit (.bool true)], args := [d1, d2, d3, d4] }
  | _ => none }
def greetFrontsRow : OpenClaim := { program := "ytkpanpekoiadoaa", sum := "99b2f35db8eec838624386062fabaf536be26fc8d48949463c958c36e3a198b9", func := "coaming/coaminglaw07.GreetFronts", spec := "greetFronts", unfollowed := true, recurses := true, apart := false }
def GreetFrontsSaid : Prop := greetFrontsRow.holds Try.pinned (OpenSpec.ofChange greetFrontsSpec)

/-- ITS FALSE NEIGHBOUR: 'it returns false'. Refute it at one input. -/
def greetFrontsWrong : ChangeSpec := { name := "greetFronts", fn := fun _ => fun
  | [d1, d2, d3, d4] => { results := [.lit (.bool false)], args := [d1, d2, d3, d4] }
  | _ => none }
def GreetFrontsWrongFalsely : Prop := greetFrontsRow.holds Try.pinned (OpenSpec.ofChange greetFrontsWrong)

/-- 'coaminglaw07.GreetBack': WHATEVER THE INPUT: true; the input reads as it did. -/
def greetBackSpec : ChangeSpec := { name := "greetBack", fn := fun _ => fun
  | [d1, d2, d3] => { results := [.lit (.bool true)], args := [d1, d2, d3] }
  | _ => none }
def greetBackRow : OpenClaim := { program := "ytkpanpekoiadoaa", sum := "99b2f35db8eec838624386062fabaf536be26fc8d48949463c958c36e3a198b9", func := "coaming/coaminglaw07.GreetBack", spec := "greetBack", unfollowed := true, recurses := true, apart := false }
def GreetBackSaid : Prop := greetBackRow.holds Try.pinned (OpenSpec.ofChange greetBackSpec)

/-- ITS FALSE NEIGHBOUR: 'it returns false'. Refute it at one input. -/
def greetBackWrong : ChangeSpec := { name := "greetBack", fn := fun _ => fun
  | [d1, d2, d3] => { results := [.lit (.bool false)], args := [d1, d2, d3] }
  | _ => none }
def GreetBackWrongFalsely : Prop := greetBackRow.holds Try.pinned (OpenSpec.ofChange greetBackWrong)

/-- 'coaminglaw07.GreetFlags': WHATEVER THE INPUT: true; the input reads as it did. -/
def greetFlagsSpec : ChangeSpec := { name := "greetFlags", fn := fun _ => fun
  | [d1, d2, d3, d4, d5] => { results := [.lit (.bool true)], args := [d1, d2, d3, d4, d5] }
  | _ => none }
def greetFlagsRow : OpenClaim := { program := "ytkpanpekoiadoaa", sum := "99b2f35db8eec838624386062fabaf536be26fc8d48949463c958c36e3a198b9", func := "coaming/coaminglaw07.GreetFlags", spec := "greetFlags", unfollowed := true, recurses := true, apart := false }
def GreetFlagsSaid : Prop := greetFlagsRow.holds Try.pinned (OpenSpec.ofChange greetFlagsSpec)

/-- ITS FALSE NEIGHBOUR: 'it returns false'. Refute it at one input. -/
def greetFlagsWrong : ChangeSpec := { name := "greetFlags", fn := fun _ => fun
  | [d1, d2, d3, d4, d5] => { results := [.lit (.bool false)], args := [d1, d2, d3, d4, d5] }
  | _ => none }
def GreetFlagsWrongFalsely : Prop := greetFlagsRow.holds Try.pinned (OpenSpec.ofChange greetFlagsWrong)

/-- 'coaminglaw07.GreetWrites': WHATEVER THE INPUT: true; the input reads as it did. -/
def greetWritesSpec : ChangeSpec := { name := "greetWrites", fn := fun _ => fun
  | [d1, d2, d3, d4, d5, d6] => { results := [.lit (.bool true)], args := [d1, d2, d3, d4, d5, d6] }
  | _ => none }
def greetWritesRow : OpenClaim := { program := "ytkpanpekoiadoaa", sum := "99b2f35db8eec838624386062fabaf536be26fc8d48949463c958c36e3a198b9", func := "coaming/coaminglaw07.GreetWrites", spec := "greetWrites", unfollowed := true, recurses := true, apart := false }
def GreetWritesSaid : Prop := greetWritesRow.holds Try.pinned (OpenSpec.ofChange greetWritesSpec)

/-- ITS FALSE NEIGHBOUR: 'it returns false'. Refute it at one input. -/
def greetWritesWrong : ChangeSpec := { name := "greetWrites", fn := fun _ => fun
  | [d1, d2, d3, d4, d5, d6] => { results := [.lit (.bool false)], args := [d1, d2, d3, d4, d5, d6] }
  | _ => none }
def GreetWritesWrongFalsely : Prop := greetWritesRow.holds Try.pinned (OpenSpec.ofChange greetWritesWrong)

/- THE SECOND FORM. 'bulk': how many values and letters a reading holds, each counted each time it is reached (what is shared counts as often as it is met; a slice's spare places count too). A statement '..UptoSaid' is the law's where the arguments, and the package variables that the reading takes, are together of bulk at most 1048576: NARROWER than '..Said'. Prove '..Said' where nothing that the law and all that it calls make is longer than what came in: it says more and counts as full. Else prove '..UptoSaid'. A law counts once. -/
mutual
def uptoBulk {H : Type} : DataW H → Nat
  | .lit (.string bytes) => bytes.length + 1
  | .lit _ => 1
  | .nil => 1
  | .ptr d => uptoBulk d + 1
  | .slice elems spare => uptoBulkAll elems + uptoBulkAll spare + 1
  | .agg parts => uptoBulkAll parts + 1
  | .iface _ d => uptoBulk d + 1
  | .map entries => uptoBulkEntries entries + 1
  | .held _ => 1
def uptoBulkAll {H : Type} : List (DataW H) → Nat
  | [] => 0
  | d :: r => uptoBulk d + uptoBulkAll r
def uptoBulkEntries {H : Type} : List (Lit × DataW H) → Nat
  | [] => 0
  | x :: r => uptoBulkEntry x + uptoBulkEntries r
def uptoBulkEntry {H : Type} : Lit × DataW H → Nat
  | (.string bytes, d) => bytes.length + uptoBulk d + 1
  | (_, d) => uptoBulk d + 1
 end
def uptoSmall : (H : Type) → List (DataW H) → Bool := fun _ ds => decide (uptoBulkAll ds ≤ 1048576)
def OpenSpec.upto (s : _root_.Go.ChangeSpec) : _root_.Go.OpenSpec := { _root_.Go.OpenSpec.ofChange s with cond := some uptoSmall }

/-- 'coaminglaw07.GreetReads', WHERE WHAT IT READS IS OF BULK AT MOST 1048576: true; the input reads as it did. -/
def greetReadsUptoRow : OpenClaim := { program := "ytkpanpekoiadoaa", sum := "99b2f35db8eec838624386062fabaf536be26fc8d48949463c958c36e3a198b9", func := "coaming/coaminglaw07.GreetReads", spec := "greetReads", unfollowed := true, recurses := true, apart := false, narrowed := true }
def GreetReadsUptoSaid : Prop := greetReadsUptoRow.holds Try.pinned (OpenSpec.upto greetReadsSpec)

/-- 'coaminglaw07.GreetAsked', WHERE WHAT IT READS IS OF BULK AT MOST 1048576: true; the input reads as it did. -/
def greetAskedUptoRow : OpenClaim := { program := "ytkpanpekoiadoaa", sum := "99b2f35db8eec838624386062fabaf536be26fc8d48949463c958c36e3a198b9", func := "coaming/coaminglaw07.GreetAsked", spec := "greetAsked", unfollowed := true, recurses := true, apart := false, narrowed := true }
def GreetAskedUptoSaid : Prop := greetAskedUptoRow.holds Try.pinned (OpenSpec.upto greetAskedSpec)

/-- 'coaminglaw07.GreetFronts', WHERE WHAT IT READS IS OF BULK AT MOST 1048576: true; the input reads as it did. -/
def greetFrontsUptoRow : OpenClaim := { program := "ytkpanpekoiadoaa", sum := "99b2f35db8eec838624386062fabaf536be26fc8d48949463c958c36e3a198b9", func := "coaming/coaminglaw07.GreetFronts", spec := "greetFronts", unfollowed := true, recurses := true, apart := false, narrowed := true }
def GreetFrontsUptoSaid : Prop := greetFrontsUptoRow.holds Try.pinned (OpenSpec.upto greetFrontsSpec)

/-- 'coaminglaw07.GreetBack', WHERE WHAT IT READS IS OF BULK AT MOST 1048576: true; the input reads as it did. -/
def greetBackUptoRow : OpenClaim := { program := "ytkpanpekoiadoaa", sum := "99b2f35db8eec838624386062fabaf536be26fc8d48949463c958c36e3a198b9", func := "coaming/coaminglaw07.GreetBack", spec := "greetBack", unfollowed := true, recurses := true, apart := false, narrowed := true }
def GreetBackUptoSaid : Prop := greetBackUptoRow.holds Try.pinned (OpenSpec.upto greetBackSpec)

/-- 'coaminglaw07.GreetFlags', WHERE WHAT IT READS IS OF BULK AT MOST 1048576: true; the input reads as it did. -/
def greetFlagsUptoRow : OpenClaim := { program := "ytkpanpekoiadoaa", sum := "99b2f35db8eec838624386062fabaf536be26fc8d48949463c958c36e3a198b9", func := "coaming/coaminglaw07.GreetFlags", spec := "greetFlags", unfollowed := true, recurses := true, apart := false, narrowed := true }
def GreetFlagsUptoSaid : Prop := greetFlagsUptoRow.holds Try.pinned (OpenSpec.upto greetFlagsSpec)

/-- 'coaminglaw07.GreetWrites', WHERE WHAT IT READS IS OF BULK AT MOST 1048576: true; the input reads as it did. -/
def greetWritesUptoRow : OpenClaim := { program := "ytkpanpekoiadoaa", sum := "99b2f35db8eec838624386062fabaf536be26fc8d48949463c958c36e3a198b9", func := "coaming/coaminglaw07.GreetWrites", spec := "greetWrites", unfollowed := true, recurses := true, apart := false, narrowed := true }
def GreetWritesUptoSaid : Prop := greetWritesUptoRow.holds Try.pinned (OpenSpec.upto greetWritesSpec)

end Rows
end Go.Proofs.Ytkpanpekoiadoaa
