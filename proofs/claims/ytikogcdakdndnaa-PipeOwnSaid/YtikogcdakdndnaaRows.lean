/-
  No cell of these rows narrows 'for every input' (looked for: loops, veiled, ifaces, maps, wideKeys, modest, calm, conditions, laid).
  DERIVED. THE GIVEN ROWS OF THIS SEAT. 4 by the template 'for every input the law returns true; each argument reads behind the call as it read before'; 0 by the template 'total and deterministic' (their statements: YtikogcdakdndnaaTotals.lean).
  GIVEN WITH THE SEED: the statements are not yours to turn. If you find one false, say at which input.
  Laid BY PROGRAM, IN A SANDBOX (cutbox-rows.mjs): the forced cells as the released guide's own fill.sh prints them over the translation 0b429d1162efd7a2… (all of the seat's roots in one cut). By AI agents, Wed Nov 11 2026. No macro, syntax, notation, axiom, sorry.
-/
import Derived.Test.YtikogcdakdndnaaChecked
import GoSem.Claim
import GoSem.ClaimJoined
import GoSem.ClaimMapViews
import Derived.JoinedTies
import Derived.KernelRfl
namespace Go.Proofs.Ytikogcdakdndnaa
/- THE CELL 'sum', in the pinned program and in every row, IS THE sha256 OF THE DUMP (.gsa) THAT YtikogcdakdndnaaProg.lean LOADS. Nothing in Lean hashes anything: it is a label: what it is worth is what the hold of that sum in a sandbox is worth. -/
noncomputable def Try.pinned : Pinned := { name := "ytikogcdakdndnaa", sum := "0b429d1162efd7a2c87bf2e3a60e27b918a6d57928f284056ec4f41ef8ffd2f8", checked := Try.checked }
namespace Rows
def none {H : Type} : Left H := { results := [], args := [] }

/-- 'coaminglaw20.PipeOwn': WHATEVER THE INPUT: true; the input reads as it did. -/
def pipeOwnSpec : ChangeSpec := { name := "pipeOwn", fn := fun _ => fun
  | [d] => { results := [.lit (.bool true)], args := [d] }
  | _ => none }
def pipeOwnRow : OpenClaim := { program := "ytikogcdakdndnaa", sum := "0b429d1162efd7a2c87bf2e3a60e27b918a6d57928f284056ec4f41ef8ffd2f8", func := "coaming/coaminglaw20.PipeOwn", spec := "pipeOwn", apart := false }
def PipeOwnSaid : Prop := pipeOwnRow.holds Try.pinned (OpenSpec.ofChange pipeOwnSpec)

/-- ITS FALSE NEIGHBOUR: 'it returns false'. Refute it at one input. -/
def pipeOwnWrong : ChangeSpec := { name := "pipeOwn", fn := fun _ => fun
  | [d] => { results := [.lit (.bool false)], args := [d] }
  | _ => none }
def PipeOwnWrongFalsely : Prop := pipeOwnRow.holds Try.pinned (OpenSpec.ofChange pipeOwnWrong)

/-- 'coaminglaw20.PipeOnce': WHATEVER THE INPUT: true; the input reads as it did. -/
def pipeOnceSpec : ChangeSpec := { name := "pipeOnce", fn := fun _ => fun
  | [d] => { results := [.lit (.bool true)], args := [d] }
  | _ => none }
def pipeOnceRow : OpenClaim := { program := "ytikogcdakdndnaa", sum := "0b429d1162efd7a2c87bf2e3a60e27b918a6d57928f284056ec4f41ef8ffd2f8", func := "coaming/coaminglaw20.PipeOnce", spec := "pipeOnce", apart := false }
def PipeOnceSaid : Prop := pipeOnceRow.holds Try.pinned (OpenSpec.ofChange pipeOnceSpec)

/-- ITS FALSE NEIGHBOUR: 'it returns false'. Refute it at one input. -/
def pipeOnceWrong : ChangeSpec := { name := "pipeOnce", fn := fun _ => fun
  | [d] => { results := [.lit (.bool false)], args := [d] }
  | _ => none }
def PipeOnceWrongFalsely : Prop := pipeOnceRow.holds Try.pinned (OpenSpec.ofChange pipeOnceWrong)

/-- 'coaminglaw20.PipeFills': WHATEVER THE INPUT: true; the input reads as it did. -/
def pipeFillsSpec : ChangeSpec := { name := "pipeFills", fn := fun _ => fun
  | [d1, d2] => { results := [.lit (.bool true)], args := [d1, d2] }
  | _ => none }
def pipeFillsRow : OpenClaim := { program := "ytikogcdakdndnaa", sum := "0b429d1162efd7a2c87bf2e3a60e27b918a6d57928f284056ec4f41ef8ffd2f8", func := "coaming/coaminglaw20.PipeFills", spec := "pipeFills", apart := false }
def PipeFillsSaid : Prop := pipeFillsRow.holds Try.pinned (OpenSpec.ofChange pipeFillsSpec)

/-- ITS FALSE NEIGHBOUR: 'it returns false'. Refute it at one input. -/
def pipeFillsWrong : ChangeSpec := { name := "pipeFills", fn := fun _ => fun
  | [d1, d2] => { results := [.lit (.bool false)], args := [d1, d2] }
  | _ => none }
def PipeFillsWrongFalsely : Prop := pipeFillsRow.holds Try.pinned (OpenSpec.ofChange pipeFillsWrong)

/-- 'coaminglaw20.PipeDoes': WHATEVER THE INPUT: true; the input reads as it did. -/
def pipeDoesSpec : ChangeSpec := { name := "pipeDoes", fn := fun _ => fun
  | [d] => { results := [.lit (.bool true)], args := [d] }
  | _ => none }
def pipeDoesRow : OpenClaim := { program := "ytikogcdakdndnaa", sum := "0b429d1162efd7a2c87bf2e3a60e27b918a6d57928f284056ec4f41ef8ffd2f8", func := "coaming/coaminglaw20.PipeDoes", spec := "pipeDoes", apart := false }
def PipeDoesSaid : Prop := pipeDoesRow.holds Try.pinned (OpenSpec.ofChange pipeDoesSpec)

/-- ITS FALSE NEIGHBOUR: 'it returns false'. Refute it at one input. -/
def pipeDoesWrong : ChangeSpec := { name := "pipeDoes", fn := fun _ => fun
  | [d] => { results := [.lit (.bool false)], args := [d] }
  | _ => none }
def PipeDoesWrongFalsely : Prop := pipeDoesRow.holds Try.pinned (OpenSpec.ofChange pipeDoesWrong)

/- THE SECOND FORM. 'bulk': how many values and letters a reading holds, each counted each time it is reached (what is shared counts as often as it is met; a slice's spare places count too). A statement '..UptoSaid' is the law's where the arguments, and the package variables that the reading takes, are together of bulk at most 1048576: NARROWER than '..Said'. Prove '..Said' where nothing that the law and all that it calls make is longer than what came in: it says more and counts as full. Else prove '..UptoSaid'. A law counts once. -/
mutual
def uptoBulk {H : Type} : DataW H → Nat
  | .lit (.string bytes) => bytes.length + 1
  | .lit _ => 1
  | .nil => 1
  | .ptr d => uptoBulk d + 1
  | .slice elems spare => uptoBulkAll elems + uptoBulkAll spare + 1
  | .agg parts => uptoBulkAll parts + 1
  | .iface _ d => uptoBulk d + 1
  | .map entries => uptoBulkEntries entries + 1
  | .held _ => 1
def uptoBulkAll {H : Type} : List (DataW H) → Nat
  | [] => 0
  | d :: r => uptoBulk d + uptoBulkAll r
def uptoBulkEntries {H : Type} : List (Lit × DataW H) → Nat
  | [] => 0
  | x :: r => uptoBulkEntry x + uptoBulkEntries r
def uptoBulkEntry {H : Type} : Lit × DataW H → Nat
  | (.string bytes, d) => bytes.length + uptoBulk d + 1
  | (_, d) => uptoBulk d + 1
 end
def uptoSmall : (H : Type) → List (DataW H) → Bool := fun _ ds => decide (uptoBulkAll ds ≤ 1048576)
def OpenSpec.upto (s : _root_.Go.ChangeSpec) : _root_.Go.OpenSpec := { _root_.Go.OpenSpec.ofChange s with cond := some uptoSmall }

/-- 'coaminglaw20.PipeOwn', WHERE WHAT IT READS IS OF BULK AT MOST 1048576: true; the input reads as it did. -/
def pipeOwnUptoRow : OpenClaim := { program := "ytikogcdakdndnaa", sum := "0b429d1162efd7a2c87bf2e3a60e27b918a6d57928f284056ec4f41ef8ffd2f8", func := "coaming/coaminglaw20.PipeOwn", spec := "pipeOwn", apart := false, narrowed := true }
def PipeOwnUptoSaid : Prop := pipeOwnUptoRow.holds Try.pinned (OpenSpec.upto pipeOwnSpec)

/-- 'coaminglaw20.PipeOnce', WHERE WHAT IT READS IS OF BULK AT MOST 1048576: true; the input reads as it did. -/
def pipeOnceUptoRow : OpenClaim := { program := "ytikogcdakdndnaa", sum := "0b429d1162efd7a2c87bf2e3a60e27b918a6d57928f284056ec4f41ef8ffd2f8", func := "coaming/coaminglaw20.PipeOnce", spec := "pipeOnce", apart := false, narrowed := true }
def PipeOnceUptoSaid : Prop := pipeOnceUptoRow.holds Try.pinned (OpenSpec.upto pipeOnceSpec)

/-- 'coaminglaw20.PipeFills', WHERE WHAT IT READS IS OF BULK AT MOST 1048576: true; the input reads as it did. -/
def pipeFillsUptoRow : OpenClaim := { program := "ytikogcdakdndnaa", sum := "0b429d1162efd7a2c87bf2e3a60e27b918a6d57928f284056ec4f41ef8ffd2f8", func := "coaming/coaminglaw20.PipeFills", spec := "pipeFills", apart := false, narrowed := true }
def PipeFillsUptoSaid : Prop := pipeFillsUptoRow.holds Try.pinned (OpenSpec.upto pipeFillsSpec)

/-- 'coaminglaw20.PipeDoes', WHERE WHAT IT READS IS OF BULK AT MOST 1048576: true; the input reads as it did. -/
def pipeDoesUptoRow : OpenClaim := { program := "ytikogcdakdndnaa", sum := "0b429d1162efd7a2c87bf2e3a60e27b918a6d57928f284056ec4f41ef8ffd2f8", func := "coaming/coaminglaw20.PipeDoes", spec := "pipeDoes", apart := false, narrowed := true }
def PipeDoesUptoSaid : Prop := pipeDoesUptoRow.holds Try.pinned (OpenSpec.upto pipeDoesSpec)

end Rows
end Go.Proofs.Ytikogcdakdndnaa
