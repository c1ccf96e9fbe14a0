/-
  NARROWER THAN 'FOR EVERY INPUT', by the rows' own cells (each row's printed sentence says how): ReqReplies: maps.
  DERIVED. THE GIVEN ROWS OF THIS SEAT. 7 by the template 'for every input the law returns true; each argument reads behind the call as it read before'; 0 by the template 'total and deterministic' (their statements: YtemhlinodccokaaTotals.lean).
  GIVEN WITH THE SEED: the statements are not yours to turn. If you find one false, say at which input.
  Laid BY PROGRAM, IN A SANDBOX (cutbox-rows.mjs): the forced cells as the released guide's own fill.sh prints them over the translation 6a713376db5e6b71… (all of the seat's roots in one cut). By AI agents, Wed Nov 11 2026. No macro, syntax, notation, axiom, sorry.
-/
import Derived.Test.YtemhlinodccokaaChecked
import GoSem.Claim
import GoSem.ClaimJoined
import GoSem.ClaimMapViews
import Derived.JoinedTies
import Derived.KernelRfl
namespace Go.Proofs.Ytemhlinodccokaa
/- THE CELL 'sum', in the pinned program and in every row, IS THE sha256 OF THE DUMP (.gsa) THAT YtemhlinodccokaaProg.lean LOADS. Nothing in Lean hashes anything: it is a label: what it is worth is what the hold of that sum in a sandbox is worth. -/
noncomputable def Try.pinned : Pinned := { name := "ytemhlinodccokaa", sum := "6a713376db5e6b71ba7f7b87c2506de54d7d013d5b2b49507afb0e2b558eff7e", checked := Try.checked }
namespace Rows
def none {H : Type} : Left H := { results := [], args := [] }

/-- 'coaminglaw08.ReqReads': WHATEVER THE INPUT: true; the input reads as it did. -/
def reqReadsSpec : ChangeSpec := { name := "reqReads", fn := fun _ => fun
  | [d] => { results := [.lit (.bool true)], args := [d] }
  | _ => none }
def reqReadsRow : OpenClaim := { program := "ytemhlinodccokaa", sum := "6a713376db5e6b71ba7f7b87c2506de54d7d013d5b2b49507afb0e2b558eff7e", func := "coaming/coaminglaw08.ReqReads", spec := "reqReads", unfollowed := true, recurses := true, apart := false }
def ReqReadsSaid : Prop := reqReadsRow.holds Try.pinned (OpenSpec.ofChange reqReadsSpec)

/-- ITS FALSE NEIGHBOUR: 'it returns false'. Refute it at one input. -/
def reqReadsWrong : ChangeSpec := { name := "reqReads", fn := fun _ => fun
  | [d] => { results := [.lit (.bool false)], args := [d] }
  | _ => none }
def ReqReadsWrongFalsely : Prop := reqReadsRow.holds Try.pinned (OpenSpec.ofChange reqReadsWrong)

/-- 'coaminglaw08.ReqWrites': WHATEVER THE INPUT: true; the input reads as it did. -/
def reqWritesSpec : ChangeSpec := { name := "reqWrites", fn := fun _ => fun
  | [d1, d2, d3, d4] => { results := [.lit (.bool true)], args := [d1, d2, d3, d4] }
  | _ => none }
def reqWritesRow : OpenClaim := { program := "ytemhlinodccokaa", sum := "6a713376db5e6b71ba7f7b87c2506de54d7d013d5b2b49507afb0e2b558eff7e", func := "coaming/coaminglaw08.ReqWrites", spec := "reqWrites", unfollowed := true, recurses := true, apart := false }
def ReqWritesSaid : Prop := reqWritesRow.holds Try.pinned (OpenSpec.ofChange reqWritesSpec)

/-- ITS FALSE NEIGHBOUR: 'it returns false'. Refute it at one input. -/
def reqWritesWrong : ChangeSpec := { name := "reqWrites", fn := fun _ => fun
  | [d1, d2, d3, d4] => { results := [.lit (.bool false)], args := [d1, d2, d3, d4] }
  | _ => none }
def ReqWritesWrongFalsely : Prop := reqWritesRow.holds Try.pinned (OpenSpec.ofChange reqWritesWrong)

/-- 'coaminglaw08.ReqReplies': WHATEVER THE INPUT: true; the input reads as it did. -/
def reqRepliesSpec : ChangeSpec := { name := "reqReplies", fn := fun _ => fun
  | [d1, d2] => { results := [.lit (.bool true)], args := [d1, d2] }
  | _ => none }
def reqRepliesRow : OpenClaim := { program := "ytemhlinodccokaa", sum := "6a713376db5e6b71ba7f7b87c2506de54d7d013d5b2b49507afb0e2b558eff7e", func := "coaming/coaminglaw08.ReqReplies", spec := "reqReplies", unfollowed := true, recurses := true, maps := true, apart := false }
def ReqRepliesSaid : Prop := reqRepliesRow.holds Try.pinned (OpenSpec.ofChange reqRepliesSpec)

/-- ITS FALSE NEIGHBOUR: 'it returns false'. Refute it at one input. -/
def reqRepliesWrong : ChangeSpec := { name := "reqReplies", fn := fun _ => fun
  | [d1, d2] => { results := [.lit (.bool false)], args := [d1, d2] }
  | _ => none }
def ReqRepliesWrongFalsely : Prop := reqRepliesRow.holds Try.pinned (OpenSpec.ofChange reqRepliesWrong)

/-- 'coaminglaw08.ReqBack': WHATEVER THE INPUT: true; the input reads as it did. -/
def reqBackSpec : ChangeSpec := { name := "reqBack", fn := fun _ => fun
  | [d1, d2, d3] => { results := [.lit (.bool true)], args := [d1, d2, d3] }
  | _ => none }
def reqBackRow : OpenClaim := { program := "ytemhlinodccokaa", sum := "6a713376db5e6b71ba7f7b87c2506de54d7d013d5b2b49507afb0e2b558eff7e", func := "coaming/coaminglaw08.ReqBack", spec := "reqBack", unfollowed := true, recurses := true, apart := false }
def ReqBackSaid : Prop := reqBackRow.holds Try.pinned (OpenSpec.ofChange reqBackSpec)

/-- ITS FALSE NEIGHBOUR: 'it returns false'. Refute it at one input. -/
def reqBackWrong : ChangeSpec := { name := "reqBack", fn := fun _ => fun
  | [d1, d2, d3] => { results := [.lit (.bool false)], args := [d1, d2, d3] }
  | _ => none }
def ReqBackWrongFalsely : Prop := reqBackRow.holds Try.pinned (OpenSpec.ofChange reqBackWrong)

/-- 'coaminglaw08.ReqMany': WHATEVER THE INPUT: true; the input reads as it did. -/
def reqManySpec : ChangeSpec := { name := "reqMany", fn := fun _ => fun
  | [d1, d2] => { results := [.lit (.bool true)], args := [d1, d2] }
  | _ => none }
def reqManyRow : OpenClaim := { program := "ytemhlinodccokaa", sum := "6a713376db5e6b71ba7f7b87c2506de54d7d013d5b2b49507afb0e2b558eff7e", func := "coaming/coaminglaw08.ReqMany", spec := "reqMany", unfollowed := true, recurses := true, apart := false }
def ReqManySaid : Prop := reqManyRow.holds Try.pinned (OpenSpec.ofChange reqManySpec)

/-- ITS FALSE NEIGHBOUR: 'it returns false'. Refute it at one input. -/
def reqManyWrong : ChangeSpec := { name := "reqMany", fn := fun _ => fun
  | [d1, d2] => { results := [.lit (.bool false)], args := [d1, d2] }
  | _ => none }
def ReqManyWrongFalsely : Prop := reqManyRow.holds Try.pinned (OpenSpec.ofChange reqManyWrong)

/-- 'coaminglaw08.ReqFronts': WHATEVER THE INPUT: true; the input reads as it did. -/
def reqFrontsSpec : ChangeSpec := { name := "reqFronts", fn := fun _ => fun
  | [d] => { results := [.lit (.bool true)], args := [d] }
  | _ => none }
def reqFrontsRow : OpenClaim := { program := "ytemhlinodccokaa", sum := "6a713376db5e6b71ba7f7b87c2506de54d7d013d5b2b49507afb0e2b558eff7e", func := "coaming/coaminglaw08.ReqFronts", spec := "reqFronts", unfollowed := true, recurses := true, apart := false }
def ReqFrontsSaid : Prop := reqFrontsRow.holds Try.pinned (OpenSpec.ofChange reqFrontsSpec)

/-- ITS FALSE NEIGHBOUR: 'it returns false'. Refute it at one input. -/
def reqFrontsWrong : ChangeSpec := { name := "reqFronts", fn := fun _ => fun
  | [d] => { results := [.lit (.bool false)], args := [d] }
  | _ => none }
def ReqFrontsWrongFalsely : Prop := reqFrontsRow.holds Try.pinned (OpenSpec.ofChange reqFrontsWrong)

/-- 'coaminglaw08.ReqLong': WHATEVER THE INPUT: true; the input reads as it did. -/
def reqLongSpec : ChangeSpec := { name := "reqLong", fn := fun _ => fun
  | [d1, d2] => { results := [.lit (.bool true)], args := [d1, d2] }
  | _ => none }
def reqLongRow : OpenClaim := { program := "ytemhlinodccokaa", sum := "6a713376db5e6b71ba7f7b87c2506de54d7d013d5b2b49507afb0e2b558eff7e", func := "coaming/coaminglaw08.ReqLong", spec := "reqLong", unfollowed := true, recurses := true, apart := false }
def ReqLongSaid : Prop := reqLongRow.holds Try.pinned (OpenSpec.ofChange reqLongSpec)

/-- ITS FALSE NEIGHBOUR: 'it returns false'. Refute it at one input. -/
def reqLongWrong : ChangeSpec := { name := "reqLong", fn := fun _ => fun
  | [d1, d2] => { results := [.lit (.bool false)], args := [d1, d2] }
  | _ => none }
def ReqLongWrongFalsely : Prop := reqLongRow.holds Try.pinned (OpenSpec.ofChange reqLongWrong)

/- THE SECOND FORM. 'bulk': how many values and letters a reading holds, each counted each time it is reached (what is shared counts as often as it is met; a slice's spare places count too). A statement '..UptoSaid' is the law's where the arguments, and the package variables that the reading takes, are together of bulk at most 1048576: NARROWER than '..Said'. Prove '..Said' where nothing that the law and all that it calls make is longer than what came in: it says more and counts as full. Else prove '..UptoSaid'. A law counts once. -/
mutual
def uptoBulk {H : Type} : DataW H → Nat
  | .lit (.string bytes) => bytes.length + 1
  | .lit _ => 1
  | .nil => 1
  | .ptr d => uptoBulk d + 1
  | .slice elems spare => uptoBulkAll elems + uptoBulkAll spare + 1
  | .agg parts => uptoBulkAll parts + 1
  | .iface _ d => uptoBulk d + 1
  | .map entries => uptoBulkEntries entries + 1
  | .held _ => 1
def uptoBulkAll {H : Type} : List (DataW H) → Nat
  | [] => 0
  | d :: r => uptoBulk d + uptoBulkAll r
def uptoBulkEntries {H : Type} : List (Lit × DataW H) → Nat
  | [] => 0
  | x :: r => uptoBulkEntry x + uptoBulkEntries r
def uptoBulkEntry {H : Type} : Lit × DataW H → Nat
  | (.string bytes, d) => bytes.length + uptoBulk d + 1
  | (_, d) => uptoBulk d + 1
 end
def uptoSmall : (H : Type) → List (DataW H) → Bool := fun _ ds => decide (uptoBulkAll ds ≤ 1048576)
def OpenSpec.upto (s : _root_.Go.ChangeSpec) : _root_.Go.OpenSpec := { _root_.Go.OpenSpec.ofChange s with cond := some uptoSmall }

/-- 'coaminglaw08.ReqReads', WHERE WHAT IT READS IS OF BULK AT MOST 1048576: true; the input reads as it did. -/
def reqReadsUptoRow : OpenClaim := { program := "ytemhlinodccokaa", sum := "6a713376db5e6b71ba7f7b87c2506de54d7d013d5b2b49507afb0e2b558eff7e", func := "coaming/coaminglaw08.ReqReads", spec := "reqReads", unfollowed := true, recurses := true, apart := false, narrowed := true }
def ReqReadsUptoSaid : Prop := reqReadsUptoRow.holds Try.pinned (OpenSpec.upto reqReadsSpec)

/-- 'coaminglaw08.ReqWrites', WHERE WHAT IT READS IS OF BULK AT MOST 1048576: true; the input reads as it did. -/
def reqWritesUptoRow : OpenClaim := { program := "ytemhlinodccokaa", sum := "6a713376db5e6b71ba7f7b87c2506de54d7d013d5b2b49507afb0e2b558eff7e", func := "coaming/coaminglaw08.ReqWrites", spec := "reqWrites", unfollowed := true, recurses := true, apart := false, narrowed := true }
def ReqWritesUptoSaid : Prop := reqWritesUptoRow.holds Try.pinned (OpenSpec.upto reqWritesSpec)

/-- 'coaminglaw08.ReqReplies', WHERE WHAT IT READS IS OF BULK AT MOST 1048576: true; the input reads as it did. -/
def reqRepliesUptoRow : OpenClaim := { program := "ytemhlinodccokaa", sum := "6a713376db5e6b71ba7f7b87c2506de54d7d013d5b2b49507afb0e2b558eff7e", func := "coaming/coaminglaw08.ReqReplies", spec := "reqReplies", unfollowed := true, recurses := true, maps := true, apart := false, narrowed := true }
def ReqRepliesUptoSaid : Prop := reqRepliesUptoRow.holds Try.pinned (OpenSpec.upto reqRepliesSpec)

/-- 'coaminglaw08.ReqBack', WHERE WHAT IT READS IS OF BULK AT MOST 1048576: true; the input reads as it did. -/
def reqBackUptoRow : OpenClaim := { program := "ytemhlinodccokaa", sum := "6a713376db5e6b71ba7f7b87c2506de54d7d013d5b2b49507afb0e2b558eff7e", func := "coaming/coaminglaw08.ReqBack", spec := "reqBack", unfollowed := true, recurses := true, apart := false, narrowed := true }
def ReqBackUptoSaid : Prop := reqBackUptoRow.holds Try.pinned (OpenSpec.upto reqBackSpec)

/-- 'coaminglaw08.ReqMany', WHERE WHAT IT READS IS OF BULK AT MOST 1048576: true; the input reads as it did. -/
def reqManyUptoRow : OpenClaim := { program := "ytemhlinodccokaa", sum := "6a713376db5e6b71ba7f7b87c2506de54d7d013d5b2b49507afb0e2b558eff7e", func := "coaming/coaminglaw08.ReqMany", spec := "reqMany", unfollowed := true, recurses := true, apart := false, narrowed := true }
def ReqManyUptoSaid : Prop := reqManyUptoRow.holds Try.pinned (OpenSpec.upto reqManySpec)

/-- 'coaminglaw08.ReqFronts', WHERE WHAT IT READS IS OF BULK AT MOST 1048576: true; the input reads as it did. -/
def reqFrontsUptoRow : OpenClaim := { program := "ytemhlinodccokaa", sum := "6a713376db5e6b71ba7f7b87c2506de54d7d013d5b2b49507afb0e2b558eff7e", func := "coaming/coaminglaw08.ReqFronts", spec := "reqFronts", unfollowed := true, recurses := true, apart := false, narrowed := true }
def ReqFrontsUptoSaid : Prop := reqFrontsUptoRow.holds Try.pinned (OpenSpec.upto reqFrontsSpec)

/-- 'coaminglaw08.ReqLong', WHERE WHAT IT READS IS OF BULK AT MOST 1048576: true; the input reads as it did. -/
def reqLongUptoRow : OpenClaim := { program := "ytemhlinodccokaa", sum := "6a713376db5e6b71ba7f7b87c2506de54d7d013d5b2b49507afb0e2b558eff7e", func := "coaming/coaminglaw08.ReqLong", spec := "reqLong", unfollowed := true, recurses := true, apart := false, narrowed := true }
def ReqLongUptoSaid : Prop := reqLongUptoRow.holds Try.pinned (OpenSpec.upto reqLongSpec)

end Rows
end Go.Proofs.Ytemhlinodccokaa
