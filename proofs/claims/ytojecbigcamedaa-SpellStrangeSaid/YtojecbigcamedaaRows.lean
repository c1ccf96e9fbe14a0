/-
  No cell of these rows narrows 'for every input' (looked for: loops, veiled, ifaces, maps, wideKeys, modest, calm, conditions, laid).
  DERIVED. THE GIVEN ROWS OF THIS SEAT. 5 by the template 'for every input the law returns true; each argument reads behind the call as it read before'; 0 by the template 'total and deterministic' (their statements: YtojecbigcamedaaTotals.lean).
  GIVEN WITH THE SEED: the statements are not yours to turn. If you find one false, say at which input.
  Laid BY PROGRAM, IN A SANDBOX (cutbox-rows.mjs): the forced cells as the released guide's own fill.sh prints them over the translation a915293e03cf32b4… (all of the seat's roots in one cut). By AI agents, Wed Nov 11 2026. No macro, syntax, notation, axiom, sorry.
-/
import Derived.Test.YtojecbigcamedaaChecked
import GoSem.Claim
import GoSem.ClaimJoined
import GoSem.ClaimMapViews
import Derived.JoinedTies
import Derived.KernelRfl
namespace Go.Proofs.Ytojecbigcamedaa
/- THE CELL 'sum', in the pinned program and in every row, IS THE sha256 OF THE DUMP (.gsa) THAT YtojecbigcamedaaProg.lean LOADS. Nothing in Lean hashes anything: it is a label: what it is worth is what the hold of that sum in a sandbox is worth. -/
noncomputable def Try.pinned : Pinned := { name := "ytojecbigcamedaa", sum := "a915293e03cf32b439a6befcf2b2c9bb0ddc040171bda082672ce4225392ace5", checked := Try.checked }
namespace Rows
def none {H : Type} : Left H := { results := [], args := [] }

/-- 'coaminglaw04.SpellWrites': WHATEVER THE INPUT: true; the input reads as it did. -/
def spellWritesSpec : ChangeSpec := { name := "spellWrites", fn := fun _ => fun
  | [d] => { results := [.lit (.bool true)], args := [d] }
  | _ => none }
def spellWritesRow : OpenClaim := { program := "ytojecbigcamedaa", sum := "a915293e03cf32b439a6befcf2b2c9bb0ddc040171bda082672ce4225392ace5", func := "coaming/coaminglaw04.SpellWrites", spec := "spellWrites", inPlace := ["internal/abi.NoEscape"], apart := false }
def SpellWritesSaid : Prop := spellWritesRow.holds Try.pinned (OpenSpec.ofChange spellWritesSpec)

/-- ITS FALSE NEIGHBOUR: 'it returns false'. Refute it at one input. -/
def spellWritesWrong : ChangeSpec := { name := "spellWrites", fn := fun _ => fun
  | [d] => { results := [.lit (.bool false)], args := [d] }
  | _ => none }
def SpellWritesWrongFalsely : Prop := spellWritesRow.holds Try.pinned (OpenSpec.ofChange spellWritesWrong)

/-- 'coaminglaw04.SpellReads': WHATEVER THE INPUT: true; the input reads as it did. -/
def spellReadsSpec : ChangeSpec := { name := "spellReads", fn := fun _ => fun
  | [d] => { results := [.lit (.bool true)], args := [d] }
  | _ => none }
def spellReadsRow : OpenClaim := { program := "ytojecbigcamedaa", sum := "a915293e03cf32b439a6befcf2b2c9bb0ddc040171bda082672ce4225392ace5", func := "coaming/coaminglaw04.SpellReads", spec := "spellReads", inPlace := ["internal/abi.NoEscape"], apart := false }
def SpellReadsSaid : Prop := spellReadsRow.holds Try.pinned (OpenSpec.ofChange spellReadsSpec)

/-- ITS FALSE NEIGHBOUR: 'it returns false'. Refute it at one input. -/
def spellReadsWrong : ChangeSpec := { name := "spellReads", fn := fun _ => fun
  | [d] => { results := [.lit (.bool false)], args := [d] }
  | _ => none }
def SpellReadsWrongFalsely : Prop := spellReadsRow.holds Try.pinned (OpenSpec.ofChange spellReadsWrong)

/-- 'coaminglaw04.SpellBack': WHATEVER THE INPUT: true; the input reads as it did. -/
def spellBackSpec : ChangeSpec := { name := "spellBack", fn := fun _ => fun
  | [d1, d2] => { results := [.lit (.bool true)], args := [d1, d2] }
  | _ => none }
def spellBackRow : OpenClaim := { program := "ytojecbigcamedaa", sum := "a915293e03cf32b439a6befcf2b2c9bb0ddc040171bda082672ce4225392ace5", func := "coaming/coaminglaw04.SpellBack", spec := "spellBack", inPlace := ["internal/abi.NoEscape"], apart := false }
def SpellBackSaid : Prop := spellBackRow.holds Try.pinned (OpenSpec.ofChange spellBackSpec)

/-- ITS FALSE NEIGHBOUR: 'it returns false'. Refute it at one input. -/
def spellBackWrong : ChangeSpec := { name := "spellBack", fn := fun _ => fun
  | [d1, d2] => { results := [.lit (.bool false)], args := [d1, d2] }
  | _ => none }
def SpellBackWrongFalsely : Prop := spellBackRow.holds Try.pinned (OpenSpec.ofChange spellBackWrong)

/-- 'coaminglaw04.SpellFronts': WHATEVER THE INPUT: true; the input reads as it did. -/
def spellFrontsSpec : ChangeSpec := { name := "spellFronts", fn := fun _ => fun
  | [d1, d2] => { results := [.lit (.bool true)], args := [d1, d2] }
  | _ => none }
def spellFrontsRow : OpenClaim := { program := "ytojecbigcamedaa", sum := "a915293e03cf32b439a6befcf2b2c9bb0ddc040171bda082672ce4225392ace5", func := "coaming/coaminglaw04.SpellFronts", spec := "spellFronts", inPlace := ["internal/abi.NoEscape"], apart := false }
def SpellFrontsSaid : Prop := spellFrontsRow.holds Try.pinned (OpenSpec.ofChange spellFrontsSpec)

/-- ITS FALSE NEIGHBOUR: 'it returns false'. Refute it at one input. -/
def spellFrontsWrong : ChangeSpec := { name := "spellFronts", fn := fun _ => fun
  | [d1, d2] => { results := [.lit (.bool false)], args := [d1, d2] }
  | _ => none }
def SpellFrontsWrongFalsely : Prop := spellFrontsRow.holds Try.pinned (OpenSpec.ofChange spellFrontsWrong)

/-- 'coaminglaw04.SpellStrange': WHATEVER THE INPUT: true; the input reads as it did. -/
def spellStrangeSpec : ChangeSpec := { name := "spellStrange", fn := fun _ => fun
  | [d1, d2, d3] => { results := [.lit (.bool true)], args := [d1, d2, d3] }
  | _ => none }
def spellStrangeRow : OpenClaim := { program := "ytojecbigcamedaa", sum := "a915293e03cf32b439a6befcf2b2c9bb0ddc040171bda082672ce4225392ace5", func := "coaming/coaminglaw04.SpellStrange", spec := "spellStrange", inPlace := ["internal/abi.NoEscape"], apart := false }
def SpellStrangeSaid : Prop := spellStrangeRow.holds Try.pinned (OpenSpec.ofChange spellStrangeSpec)

/-- ITS FALSE NEIGHBOUR: 'it returns false'. Refute it at one input. -/
def spellStrangeWrong : ChangeSpec := { name := "spellStrange", fn := fun _ => fun
  | [d1, d2, d3] => { results := [.lit (.bool false)], args := [d1, d2, d3] }
  | _ => none }
def SpellStrangeWrongFalsely : Prop := spellStrangeRow.holds Try.pinned (OpenSpec.ofChange spellStrangeWrong)

/- THE SECOND FORM. 'bulk': how many values and letters a reading holds, each counted each time it is reached (what is shared counts as often as it is met; a slice's spare places count too). A statement '..UptoSaid' is the law's where the arguments, and the package variables that the reading takes, are together of bulk at most 1048576: NARROWER than '..Said'. Prove '..Said' where nothing that the law and all that it calls make is longer than what came in: it says more and counts as full. Else prove '..UptoSaid'. A law counts once. -/
mutual
def uptoBulk {H : Type} : DataW H → Nat
  | .lit (.string bytes) => bytes.length + 1
  | .lit _ => 1
  | .nil => 1
  | .ptr d => uptoBulk d + 1
  | .slice elems spare => uptoBulkAll elems + uptoBulkAll spare + 1
  | .agg parts => uptoBulkAll parts + 1
  | .iface _ d => uptoBulk d + 1
  | .map entries => uptoBulkEntries entries + 1
  | .held _ => 1
def uptoBulkAll {H : Type} : List (DataW H) → Nat
  | [] => 0
  | d :: r => uptoBulk d + uptoBulkAll r
def uptoBulkEntries {H : Type} : List (Lit × DataW H) → Nat
  | [] => 0
  | x :: r => uptoBulkEntry x + uptoBulkEntries r
def uptoBulkEntry {H : Type} : Lit × DataW H → Nat
  | (.string bytes, d) => bytes.length + uptoBulk d + 1
  | (_, d) => uptoBulk d + 1
 end
def uptoSmall : (H : Type) → List (DataW H) → Bool := fun _ ds => decide (uptoBulkAll ds ≤ 1048576)
def OpenSpec.upto (s : _root_.Go.ChangeSpec) : _root_.Go.OpenSpec := { _root_.Go.OpenSpec.ofChange s with cond := some uptoSmall }

/-- 'coaminglaw04.SpellWrites', WHERE WHAT IT READS IS OF BULK AT MOST 1048576: true; the input reads as it did. -/
def spellWritesUptoRow : OpenClaim := { program := "ytojecbigcamedaa", sum := "a915293e03cf32b439a6befcf2b2c9bb0ddc040171bda082672ce4225392ace5", func := "coaming/coaminglaw04.SpellWrites", spec := "spellWrites", inPlace := ["internal/abi.NoEscape"], apart := false, narrowed := true }
def SpellWritesUptoSaid : Prop := spellWritesUptoRow.holds Try.pinned (OpenSpec.upto spellWritesSpec)

/-- 'coaminglaw04.SpellReads', WHERE WHAT IT READS IS OF BULK AT MOST 1048576: true; the input reads as it did. -/
def spellReadsUptoRow : OpenClaim := { program := "ytojecbigcamedaa", sum := "a915293e03cf32b439a6befcf2b2c9bb0ddc040171bda082672ce4225392ace5", func := "coaming/coaminglaw04.SpellReads", spec := "spellReads", inPlace := ["internal/abi.NoEscape"], apart := false, narrowed := true }
def SpellReadsUptoSaid : Prop := spellReadsUptoRow.holds Try.pinned (OpenSpec.upto spellReadsSpec)

/-- 'coaminglaw04.SpellBack', WHERE WHAT IT READS IS OF BULK AT MOST 1048576: true; the input reads as it did. -/
def spellBackUptoRow : OpenClaim := { program := "ytojecbigcamedaa", sum := "a915293e03cf32b439a6befcf2b2c9bb0ddc040171bda082672ce4225392ace5", func := "coaming/coaminglaw04.SpellBack", spec := "spellBack", inPlace := ["internal/abi.NoEscape"], apart := false, narrowed := true }
def SpellBackUptoSaid : Prop := spellBackUptoRow.holds Try.pinned (OpenSpec.upto spellBackSpec)

/-- 'coaminglaw04.SpellFronts', WHERE WHAT IT READS IS OF BULK AT MOST 1048576: true; the input reads as it did. -/
def spellFrontsUptoRow : OpenClaim := { program := "ytojecbigcamedaa", sum := "a915293e03cf32b439a6befcf2b2c9bb0ddc040171bda082672ce4225392ace5", func := "coaming/coaminglaw04.SpellFronts", spec := "spellFronts", inPlace := ["internal/abi.NoEscape"], apart := false, narrowed := true }
def SpellFrontsUptoSaid : Prop := spellFrontsUptoRow.holds Try.pinned (OpenSpec.upto spellFrontsSpec)

/-- 'coaminglaw04.SpellStrange', WHERE WHAT IT READS IS OF BULK AT MOST 1048576: true; the input reads as it did. -/
def spellStrangeUptoRow : OpenClaim := { program := "ytojecbigcamedaa", sum := "a915293e03cf32b439a6befcf2b2c9bb0ddc040171bda082672ce4225392ace5", func := "coaming/coaminglaw04.SpellStrange", spec := "spellStrange", inPlace := ["internal/abi.NoEscape"], apart := false, narrowed := true }
def SpellStrangeUptoSaid : Prop := spellStrangeUptoRow.holds Try.pinned (OpenSpec.upto spellStrangeSpec)

end Rows
end Go.Proofs.Ytojecbigcamedaa
