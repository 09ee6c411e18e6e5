/-
  No cell of these rows narrows 'for every input' (looked for: loops, veiled, ifaces, maps, wideKeys, modest, calm, conditions, laid).
  DERIVED. THE GIVEN ROWS OF THIS SEAT. 5 by the template 'for every input the law returns true; each argument reads behind the call as it read before'; 0 by the template 'total and deterministic' (their statements: YthflfekhanjlnaaTotals.lean).
  GIVEN WITH THE SEED: the statements are not yours to turn. If you find one false, say at which input.
  Laid BY PROGRAM, IN A SANDBOX (cutbox-rows.mjs): the forced cells as the released guide's own fill.sh prints them over the translation 5e4dcfda2276f760… (all of the seat's roots in one cut). By AI agents, Wed Nov 11 2026. No macro, syntax, notation, axiom, sorry.
-/
import Derived.Test.YthflfekhanjlnaaChecked
import GoSem.Claim
import GoSem.ClaimJoined
import GoSem.ClaimMapViews
import Derived.JoinedTies
import Derived.KernelRfl
namespace Go.Proofs.Ythflfekhanjlnaa
/- THE CELL 'sum', in the pinned program and in every row, IS THE sha256 OF THE DUMP (.gsa) THAT YthflfekhanjlnaaProg.lean LOADS. Nothing in Lean hashes anything: it is a label: what it is worth is what the hold of that sum in a sandbox is worth. -/
noncomputable def Try.pinned : Pinned := { name := "ythflfekhanjlnaa", sum := "5e4dcfda2276f760d50af83d9d40fab59b633d0471ea21d433c5717ebc36266b", checked := Try.checked }
namespace Rows
def none {H : Type} : Left H := { results := [], args := [] }

/-- 'rialtolaw20.ShardmapTells': WHATEVER THE INPUT: true; the input reads as it did. -/
def shardmapTellsSpec : ChangeSpec := { name := "shardmapTells", fn := fun _ => fun
  | [d1, d2, d3] => { results := [.lit (.bool true)], args := [d1, d2, d3] }
  | _ => none }
def shardmapTellsRow : OpenClaim := { program := "ythflfekhanjlnaa", sum := "5e4dcfda2276f760d50af83d9d40fab59b633d0471ea21d433c5717ebc36266b", func := "rialto/rialtolaw20.ShardmapTells", spec := "shardmapTells", inPlace := ["slices.overlaps[rialto/api.Place]"], unfollowed := true, recurses := true, apart := false }
def ShardmapTellsSaid : Prop := shardmapTellsRow.holds Try.pinned (OpenSpec.ofChange shardmapTellsSpec)

/-- ITS FALSE NEIGHBOUR: 'it returns false'. Refute it at one input. -/
def shardmapTellsWrong : ChangeSpec := { name := "shardmapTells", fn := fun _ => fun
  | [d1, d2, d3] => { results := [.lit (.bool false)], args := [d1, d2, d3] }
  | _ => none }
def ShardmapTellsWrongFalsely : Prop := shardmapTellsRow.holds Try.pinned (OpenSpec.ofChange shardmapTellsWrong)

/-- 'rialtolaw20.ShardmapLearns': WHATEVER THE INPUT: true; the input reads as it did. -/
def shardmapLearnsSpec : ChangeSpec := { name := "shardmapLearns", fn := fun _ => fun
  | [d1, d2] => { results := [.lit (.bool true)], args := [d1, d2] }
  | _ => none }
def shardmapLearnsRow : OpenClaim := { program := "ythflfekhanjlnaa", sum := "5e4dcfda2276f760d50af83d9d40fab59b633d0471ea21d433c5717ebc36266b", func := "rialto/rialtolaw20.ShardmapLearns", spec := "shardmapLearns", inPlace := ["slices.overlaps[rialto/api.Place]"], unfollowed := true, recurses := true, apart := false }
def ShardmapLearnsSaid : Prop := shardmapLearnsRow.holds Try.pinned (OpenSpec.ofChange shardmapLearnsSpec)

/-- ITS FALSE NEIGHBOUR: 'it returns false'. Refute it at one input. -/
def shardmapLearnsWrong : ChangeSpec := { name := "shardmapLearns", fn := fun _ => fun
  | [d1, d2] => { results := [.lit (.bool false)], args := [d1, d2] }
  | _ => none }
def ShardmapLearnsWrongFalsely : Prop := shardmapLearnsRow.holds Try.pinned (OpenSpec.ofChange shardmapLearnsWrong)

/-- 'rialtolaw20.ShardmapOrder': WHATEVER THE INPUT: true; the input reads as it did. -/
def shardmapOrderSpec : ChangeSpec := { name := "shardmapOrder", fn := fun _ => fun
  | [d1, d2, d3] => { results := [.lit (.bool true)], args := [d1, d2, d3] }
  | _ => none }
def shardmapOrderRow : OpenClaim := { program := "ythflfekhanjlnaa", sum := "5e4dcfda2276f760d50af83d9d40fab59b633d0471ea21d433c5717ebc36266b", func := "rialto/rialtolaw20.ShardmapOrder", spec := "shardmapOrder", inPlace := ["slices.overlaps[rialto/api.Place]"], unfollowed := true, recurses := true, apart := false }
def ShardmapOrderSaid : Prop := shardmapOrderRow.holds Try.pinned (OpenSpec.ofChange shardmapOrderSpec)

/-- ITS FALSE NEIGHBOUR: 'it returns false'. Refute it at one input. -/
def shardmapOrderWrong : ChangeSpec := { name := "shardmapOrder", fn := fun _ => fun
  | [d1, d2, d3] => { results := [.lit (.bool false)], args := [d1, d2, d3] }
  | _ => none }
def ShardmapOrderWrongFalsely : Prop := shardmapOrderRow.holds Try.pinned (OpenSpec.ofChange shardmapOrderWrong)

/-- 'rialtolaw20.ShardmapAgain': WHATEVER THE INPUT: true; the input reads as it did. -/
def shardmapAgainSpec : ChangeSpec := { name := "shardmapAgain", fn := fun _ => fun
  | [d1, d2, d3] => { results := [.lit (.bool true)], args := [d1, d2, d3] }
  | _ => none }
def shardmapAgainRow : OpenClaim := { program := "ythflfekhanjlnaa", sum := "5e4dcfda2276f760d50af83d9d40fab59b633d0471ea21d433c5717ebc36266b", func := "rialto/rialtolaw20.ShardmapAgain", spec := "shardmapAgain", inPlace := ["slices.overlaps[rialto/api.Place]"], unfollowed := true, recurses := true, apart := false }
def ShardmapAgainSaid : Prop := shardmapAgainRow.holds Try.pinned (OpenSpec.ofChange shardmapAgainSpec)

/-- ITS FALSE NEIGHBOUR: 'it returns false'. Refute it at one input. -/
def shardmapAgainWrong : ChangeSpec := { name := "shardmapAgain", fn := fun _ => fun
  | [d1, d2, d3] => { results := [.lit (.bool false)], args := [d1, d2, d3] }
  | _ => none }
def ShardmapAgainWrongFalsely : Prop := shardmapAgainRow.holds Try.pinned (OpenSpec.ofChange shardmapAgainWrong)

/-- 'rialtolaw20.ShardmapNewer': WHATEVER THE INPUT: true; the input reads as it did. -/
def shardmapNewerSpec : ChangeSpec := { name := "shardmapNewer", fn := fun _ => fun
  | [d1, d2, d3] => { results := [.lit (.bool true)], args := [d1, d2, d3] }
  | _ => none }
def shardmapNewerRow : OpenClaim := { program := "ythflfekhanjlnaa", sum := "5e4dcfda2276f760d50af83d9d40fab59b633d0471ea21d433c5717ebc36266b", func := "rialto/rialtolaw20.ShardmapNewer", spec := "shardmapNewer", inPlace := ["slices.overlaps[rialto/api.Place]"], unfollowed := true, recurses := true, apart := false }
def ShardmapNewerSaid : Prop := shardmapNewerRow.holds Try.pinned (OpenSpec.ofChange shardmapNewerSpec)

/-- ITS FALSE NEIGHBOUR: 'it returns false'. Refute it at one input. -/
def shardmapNewerWrong : ChangeSpec := { name := "shardmapNewer", fn := fun _ => fun
  | [d1, d2, d3] => { results := [.lit (.bool false)], args := [d1, d2, d3] }
  | _ => none }
def ShardmapNewerWrongFalsely : Prop := shardmapNewerRow.holds Try.pinned (OpenSpec.ofChange shardmapNewerWrong)

/- THE SECOND FORM. 'bulk': how many values and letters a reading holds, each counted each time it is reached (what is shared counts as often as it is met; a slice's spare places count too). A statement '..UptoSaid' is the law's where the arguments, and the package variables that the reading takes, are together of bulk at most 1048576: NARROWER than '..Said'. Prove '..Said' where nothing that the law and all that it calls make is longer than what came in: it says more and counts as full. Else prove '..UptoSaid'. A law counts once. -/
mutual
def uptoBulk {H : Type} : DataW H → Nat
  | .lit (.string bytes) => bytes.length + 1
  | .lit _ => 1
  | .nil => 1
  | .ptr d => uptoBulk d + 1
  | .slice elems spare => uptoBulkAll elems + uptoBulkAll spare + 1
  | .agg parts => uptoBulkAll parts + 1
  | .iface _ d => uptoBulk d + 1
  | .map entries => uptoBulkEntries entries + 1
  | .held _ => 1
def uptoBulkAll {H : Type} : List (DataW H) → Nat
  | [] => 0
  | d :: r => uptoBulk d + uptoBulkAll r
def uptoBulkEntries {H : Type} : List (Lit × DataW H) → Nat
  | [] => 0
  | x :: r => uptoBulkEntry x + uptoBulkEntries r
def uptoBulkEntry {H : Type} : Lit × DataW H → Nat
  | (.string bytes, d) => bytes.length + uptoBulk d + 1
  | (_, d) => uptoBulk d + 1
 end
def uptoSmall : (H : Type) → List (DataW H) → Bool := fun _ ds => decide (uptoBulkAll ds ≤ 1048576)
def OpenSpec.upto (s : _root_.Go.ChangeSpec) : _root_.Go.OpenSpec := { _root_.Go.OpenSpec.ofChange s with cond := some uptoSmall }

/-- 'rialtolaw20.ShardmapTells', WHERE WHAT IT READS IS OF BULK AT MOST 1048576: true; the input reads as it did. -/
def shardmapTellsUptoRow : OpenClaim := { program := "ythflfekhanjlnaa", sum := "5e4dcfda2276f760d50af83d9d40fab59b633d0471ea21d433c5717ebc36266b", func := "rialto/rialtolaw20.ShardmapTells", spec := "shardmapTells", inPlace := ["slices.overlaps[rialto/api.Place]"], unfollowed := true, recurses := true, apart := false, narrowed := true }
def ShardmapTellsUptoSaid : Prop := shardmapTellsUptoRow.holds Try.pinned (OpenSpec.upto shardmapTellsSpec)

/-- 'rialtolaw20.ShardmapLearns', WHERE WHAT IT READS IS OF BULK AT MOST 1048576: true; the input reads as it did. -/
def shardmapLearnsUptoRow : OpenClaim := { program := "ythflfekhanjlnaa", sum := "5e4dcfda2276f760d50af83d9d40fab59b633d0471ea21d433c5717ebc36266b", func := "rialto/rialtolaw20.ShardmapLearns", spec := "shardmapLearns", inPlace := ["slices.overlaps[rialto/api.Place]"], unfollowed := true, recurses := true, apart := false, narrowed := true }
def ShardmapLearnsUptoSaid : Prop := shardmapLearnsUptoRow.holds Try.pinned (OpenSpec.upto shardmapLearnsSpec)

/-- 'rialtolaw20.ShardmapOrder', WHERE WHAT IT READS IS OF BULK AT MOST 1048576: true; the input reads as it did. -/
def shardmapOrderUptoRow : OpenClaim := { program := "ythflfekhanjlnaa", sum := "5e4dcfda2276f760d50af83d9d40fab59b633d0471ea21d433c5717ebc36266b", func := "rialto/rialtolaw20.ShardmapOrder", spec := "shardmapOrder", inPlace := ["slices.overlaps[rialto/api.Place]"], unfollowed := true, recurses := true, apart := false, narrowed := true }
def ShardmapOrderUptoSaid : Prop := shardmapOrderUptoRow.holds Try.pinned (OpenSpec.upto shardmapOrderSpec)

/-- 'rialtolaw20.ShardmapAgain', WHERE WHAT IT READS IS OF BULK AT MOST 1048576: true; the input reads as it did. -/
def shardmapAgainUptoRow : OpenClaim := { program := "ythflfekhanjlnaa", sum := "5e4dcfda2276f760d50af83d9d40fab59b633d0471ea21d433c5717ebc36266b", func := "rialto/rialtolaw20.ShardmapAgain", spec := "shardmapAgain", inPlace := ["slices.overlaps[rialto/api.Place]"], unfollowed := true, recurses := true, apart := false, narrowed := true }
def ShardmapAgainUptoSaid : Prop := shardmapAgainUptoRow.holds Try.pinned (OpenSpec.upto shardmapAgainSpec)

/-- 'rialtolaw20.ShardmapNewer', WHERE WHAT IT READS IS OF BULK AT MOST 1048576: true; the input reads as it did. -/
def shardmapNewerUptoRow : OpenClaim := { program := "ythflfekhanjlnaa", sum := "5e4dcfda2276f760d50af83d9d40fab59b633d0471ea21d433c5717ebc36266b", func := "rialto/rialtolaw20.ShardmapNewer", spec := "shardmapNewer", inPlace := ["slices.overlaps[rialto/api.Place]"], unfollowed := true, recurses := true, apart := false, narrowed := true }
def ShardmapNewerUptoSaid : Prop := shardmapNewerUptoRow.holds Try.pinned (OpenSpec.upto shardmapNewerSpec)

end Rows
end Go.Proofs.Ythflfekhanjlnaa
