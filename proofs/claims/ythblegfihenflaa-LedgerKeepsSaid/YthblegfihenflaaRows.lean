/-
  No cell of these rows narrows 'for every input' (looked for: loops, veiled, ifaces, maps, wideKeys, modest, calm, conditions, laid).
  DERIVED. THE GIVEN ROWS OF THIS SEAT. 7 by the template 'for every input the law returns true; each argument reads behind the call as it read before'; 0 by the template 'total and deterministic' (their statements: YthblegfihenflaaTotals.lean).
  GIVEN WITH THE SEED: the statements are not yours to turn. If you find one false, say at which input.
  Laid BY PROGRAM, IN A SANDBOX (cutbox-rows.mjs): the forced cells as the released guide's own fill.sh prints them over the translation 6bac9fd271ee4449… (all of the seat's roots in one cut). By AI agents, Wed Nov 11 2026. No macro, syntax, notation, axiom, sorry.
-/
import Derived.Test.YthblegfihenflaaChecked
import GoSem.Claim
import GoSem.ClaimJoined
import GoSem.ClaimMapViews
import Derived.JoinedTies
import Derived.KernelRfl
namespace Go.Proofs.Ythblegfihenflaa
/- THE CELL 'sum', in the pinned program and in every row, IS THE sha256 OF THE DUMP (.gsa) THAT YthblegfihenflaaProg.lean LOADS. Nothing in Lean hashes anything: it is a label: what it is worth is what the hold of that sum in a sandbox is worth. -/
noncomputable def Try.pinned : Pinned := { name := "ythblegfihenflaa", sum := "6bac9fd271ee4449d79758a8f0abca734498a86b4670b12bdb96bfbca9c3a3e1", checked := Try.checked }
namespace Rows
def none {H : Type} : Left H := { results := [], args := [] }

/-- 'rialtolaw12.LedgerMoves': WHATEVER THE INPUT: true; the input reads as it did. -/
def ledgerMovesSpec : ChangeSpec := { name := "ledgerMoves", fn := fun _ => fun
  | [d1, d2, d3] => { results := [.lit (.bool true)], args := [d1, d2, d3] }
  | _ => none }
def ledgerMovesRow : OpenClaim := { program := "ythblegfihenflaa", sum := "6bac9fd271ee4449d79758a8f0abca734498a86b4670b12bdb96bfbca9c3a3e1", func := "rialto/rialtolaw12.LedgerMoves", spec := "ledgerMoves", inPlace := ["slices.overlaps[rialto/api.Amount]"], unfollowed := true, recurses := true, apart := false }
def LedgerMovesSaid : Prop := ledgerMovesRow.holds Try.pinned (OpenSpec.ofChange ledgerMovesSpec)

/-- ITS FALSE NEIGHBOUR: 'it returns false'. Refute it at one input. -/
def ledgerMovesWrong : ChangeSpec := { name := "ledgerMoves", fn := fun _ => fun
  | [d1, d2, d3] => { results := [.lit (.bool false)], args := [d1, d2, d3] }
  | _ => none }
def LedgerMovesWrongFalsely : Prop := ledgerMovesRow.holds Try.pinned (OpenSpec.ofChange ledgerMovesWrong)

/-- 'rialtolaw12.LedgerApart': WHATEVER THE INPUT: true; the input reads as it did. -/
def ledgerApartSpec : ChangeSpec := { name := "ledgerApart", fn := fun _ => fun
  | [d] => { results := [.lit (.bool true)], args := [d] }
  | _ => none }
def ledgerApartRow : OpenClaim := { program := "ythblegfihenflaa", sum := "6bac9fd271ee4449d79758a8f0abca734498a86b4670b12bdb96bfbca9c3a3e1", func := "rialto/rialtolaw12.LedgerApart", spec := "ledgerApart", inPlace := ["slices.overlaps[rialto/api.Amount]"], unfollowed := true, recurses := true, apart := false }
def LedgerApartSaid : Prop := ledgerApartRow.holds Try.pinned (OpenSpec.ofChange ledgerApartSpec)

/-- ITS FALSE NEIGHBOUR: 'it returns false'. Refute it at one input. -/
def ledgerApartWrong : ChangeSpec := { name := "ledgerApart", fn := fun _ => fun
  | [d] => { results := [.lit (.bool false)], args := [d] }
  | _ => none }
def LedgerApartWrongFalsely : Prop := ledgerApartRow.holds Try.pinned (OpenSpec.ofChange ledgerApartWrong)

/-- 'rialtolaw12.LedgerParts': WHATEVER THE INPUT: true; the input reads as it did. -/
def ledgerPartsSpec : ChangeSpec := { name := "ledgerParts", fn := fun _ => fun
  | [d1, d2, d3] => { results := [.lit (.bool true)], args := [d1, d2, d3] }
  | _ => none }
def ledgerPartsRow : OpenClaim := { program := "ythblegfihenflaa", sum := "6bac9fd271ee4449d79758a8f0abca734498a86b4670b12bdb96bfbca9c3a3e1", func := "rialto/rialtolaw12.LedgerParts", spec := "ledgerParts", inPlace := ["slices.overlaps[rialto/api.Amount]"], unfollowed := true, recurses := true, apart := false }
def LedgerPartsSaid : Prop := ledgerPartsRow.holds Try.pinned (OpenSpec.ofChange ledgerPartsSpec)

/-- ITS FALSE NEIGHBOUR: 'it returns false'. Refute it at one input. -/
def ledgerPartsWrong : ChangeSpec := { name := "ledgerParts", fn := fun _ => fun
  | [d1, d2, d3] => { results := [.lit (.bool false)], args := [d1, d2, d3] }
  | _ => none }
def LedgerPartsWrongFalsely : Prop := ledgerPartsRow.holds Try.pinned (OpenSpec.ofChange ledgerPartsWrong)

/-- 'rialtolaw12.LedgerReads': WHATEVER THE INPUT: true; the input reads as it did. -/
def ledgerReadsSpec : ChangeSpec := { name := "ledgerReads", fn := fun _ => fun
  | [d1, d2] => { results := [.lit (.bool true)], args := [d1, d2] }
  | _ => none }
def ledgerReadsRow : OpenClaim := { program := "ythblegfihenflaa", sum := "6bac9fd271ee4449d79758a8f0abca734498a86b4670b12bdb96bfbca9c3a3e1", func := "rialto/rialtolaw12.LedgerReads", spec := "ledgerReads", inPlace := ["slices.overlaps[rialto/api.Amount]"], unfollowed := true, recurses := true, apart := false }
def LedgerReadsSaid : Prop := ledgerReadsRow.holds Try.pinned (OpenSpec.ofChange ledgerReadsSpec)

/-- ITS FALSE NEIGHBOUR: 'it returns false'. Refute it at one input. -/
def ledgerReadsWrong : ChangeSpec := { name := "ledgerReads", fn := fun _ => fun
  | [d1, d2] => { results := [.lit (.bool false)], args := [d1, d2] }
  | _ => none }
def LedgerReadsWrongFalsely : Prop := ledgerReadsRow.holds Try.pinned (OpenSpec.ofChange ledgerReadsWrong)

/-- 'rialtolaw12.LedgerBack': WHATEVER THE INPUT: true; the input reads as it did. -/
def ledgerBackSpec : ChangeSpec := { name := "ledgerBack", fn := fun _ => fun
  | [d1, d2, d3] => { results := [.lit (.bool true)], args := [d1, d2, d3] }
  | _ => none }
def ledgerBackRow : OpenClaim := { program := "ythblegfihenflaa", sum := "6bac9fd271ee4449d79758a8f0abca734498a86b4670b12bdb96bfbca9c3a3e1", func := "rialto/rialtolaw12.LedgerBack", spec := "ledgerBack", inPlace := ["slices.overlaps[rialto/api.Amount]"], unfollowed := true, recurses := true, apart := false }
def LedgerBackSaid : Prop := ledgerBackRow.holds Try.pinned (OpenSpec.ofChange ledgerBackSpec)

/-- ITS FALSE NEIGHBOUR: 'it returns false'. Refute it at one input. -/
def ledgerBackWrong : ChangeSpec := { name := "ledgerBack", fn := fun _ => fun
  | [d1, d2, d3] => { results := [.lit (.bool false)], args := [d1, d2, d3] }
  | _ => none }
def LedgerBackWrongFalsely : Prop := ledgerBackRow.holds Try.pinned (OpenSpec.ofChange ledgerBackWrong)

/-- 'rialtolaw12.LedgerTotals': WHATEVER THE INPUT: true; the input reads as it did. -/
def ledgerTotalsSpec : ChangeSpec := { name := "ledgerTotals", fn := fun _ => fun
  | [d] => { results := [.lit (.bool true)], args := [d] }
  | _ => none }
def ledgerTotalsRow : OpenClaim := { program := "ythblegfihenflaa", sum := "6bac9fd271ee4449d79758a8f0abca734498a86b4670b12bdb96bfbca9c3a3e1", func := "rialto/rialtolaw12.LedgerTotals", spec := "ledgerTotals", inPlace := ["slices.overlaps[rialto/api.Amount]"], unfollowed := true, recurses := true, apart := false }
def LedgerTotalsSaid : Prop := ledgerTotalsRow.holds Try.pinned (OpenSpec.ofChange ledgerTotalsSpec)

/-- ITS FALSE NEIGHBOUR: 'it returns false'. Refute it at one input. -/
def ledgerTotalsWrong : ChangeSpec := { name := "ledgerTotals", fn := fun _ => fun
  | [d] => { results := [.lit (.bool false)], args := [d] }
  | _ => none }
def LedgerTotalsWrongFalsely : Prop := ledgerTotalsRow.holds Try.pinned (OpenSpec.ofChange ledgerTotalsWrong)

/-- 'rialtolaw12.LedgerKeeps': WHATEVER THE INPUT: true; the input reads as it did. -/
def ledgerKeepsSpec : ChangeSpec := { name := "ledgerKeeps", fn := fun _ => fun
  | [d] => { results := [.lit (.bool true)], args := [d] }
  | _ => none }
def ledgerKeepsRow : OpenClaim := { program := "ythblegfihenflaa", sum := "6bac9fd271ee4449d79758a8f0abca734498a86b4670b12bdb96bfbca9c3a3e1", func := "rialto/rialtolaw12.LedgerKeeps", spec := "ledgerKeeps", inPlace := ["slices.overlaps[rialto/api.Amount]"], unfollowed := true, recurses := true, apart := false }
def LedgerKeepsSaid : Prop := ledgerKeepsRow.holds Try.pinned (OpenSpec.ofChange ledgerKeepsSpec)

/-- ITS FALSE NEIGHBOUR: 'it returns false'. Refute it at one input. -/
def ledgerKeepsWrong : ChangeSpec := { name := "ledgerKeeps", fn := fun _ => fun
  | [d] => { results := [.lit (.bool false)], args := [d] }
  | _ => none }
def LedgerKeepsWrongFalsely : Prop := ledgerKeepsRow.holds Try.pinned (OpenSpec.ofChange ledgerKeepsWrong)

/- THE SECOND FORM. 'bulk': how many values and letters a reading holds, each counted each time it is reached (what is shared counts as often as it is met; a slice's spare places count too). A statement '..UptoSaid' is the law's where the arguments, and the package variables that the reading takes, are together of bulk at most 1048576: NARROWER than '..Said'. Prove '..Said' where nothing that the law and all that it calls make is longer than what came in: it says more and counts as full. Else prove '..UptoSaid'. A law counts once. -/
mutual
def uptoBulk {H : Type} : DataW H → Nat
  | .lit (.string bytes) => bytes.length + 1
  | .lit _ => 1
  | .nil => 1
  | .ptr d => uptoBulk d + 1
  | .slice elems spare => uptoBulkAll elems + uptoBulkAll spare + 1
  | .agg parts => uptoBulkAll parts + 1
  | .iface _ d => uptoBulk d + 1
  | .map entries => uptoBulkEntries entries + 1
  | .held _ => 1
def uptoBulkAll {H : Type} : List (DataW H) → Nat
  | [] => 0
  | d :: r => uptoBulk d + uptoBulkAll r
def uptoBulkEntries {H : Type} : List (Lit × DataW H) → Nat
  | [] => 0
  | x :: r => uptoBulkEntry x + uptoBulkEntries r
def uptoBulkEntry {H : Type} : Lit × DataW H → Nat
  | (.string bytes, d) => bytes.length + uptoBulk d + 1
  | (_, d) => uptoBulk d + 1
 end
def uptoSmall : (H : Type) → List (DataW H) → Bool := fun _ ds => decide (uptoBulkAll ds ≤ 1048576)
def OpenSpec.upto (s : _root_.Go.ChangeSpec) : _root_.Go.OpenSpec := { _root_.Go.OpenSpec.ofChange s with cond := some uptoSmall }

/-- 'rialtolaw12.LedgerMoves', WHERE WHAT IT READS IS OF BULK AT MOST 1048576: true; the input reads as it did. -/
def ledgerMovesUptoRow : OpenClaim := { program := "ythblegfihenflaa", sum := "6bac9fd271ee4449d79758a8f0abca734498a86b4670b12bdb96bfbca9c3a3e1", func := "rialto/rialtolaw12.LedgerMoves", spec := "ledgerMoves", inPlace := ["slices.overlaps[rialto/api.Amount]"], unfollowed := true, recurses := true, apart := false, narrowed := true }
def LedgerMovesUptoSaid : Prop := ledgerMovesUptoRow.holds Try.pinned (OpenSpec.upto ledgerMovesSpec)

/-- 'rialtolaw12.LedgerApart', WHERE WHAT IT READS IS OF BULK AT MOST 1048576: true; the input reads as it did. -/
def ledgerApartUptoRow : OpenClaim := { program := "ythblegfihenflaa", sum := "6bac9fd271ee4449d79758a8f0abca734498a86b4670b12bdb96bfbca9c3a3e1", func := "rialto/rialtolaw12.LedgerApart", spec := "ledgerApart", inPlace := ["slices.overlaps[rialto/api.Amount]"], unfollowed := true, recurses := true, apart := false, narrowed := true }
def LedgerApartUptoSaid : Prop := ledgerApartUptoRow.holds Try.pinned (OpenSpec.upto ledgerApartSpec)

/-- 'rialtolaw12.LedgerParts', WHERE WHAT IT READS IS OF BULK AT MOST 1048576: true; the input reads as it did. -/
def ledgerPartsUptoRow : OpenClaim := { program := "ythblegfihenflaa", sum := "6bac9fd271ee4449d79758a8f0abca734498a86b4670b12bdb96bfbca9c3a3e1", func := "rialto/rialtolaw12.LedgerParts", spec := "ledgerParts", inPlace := ["slices.overlaps[rialto/api.Amount]"], unfollowed := true, recurses := true, apart := false, narrowed := true }
def LedgerPartsUptoSaid : Prop := ledgerPartsUptoRow.holds Try.pinned (OpenSpec.upto ledgerPartsSpec)

/-- 'rialtolaw12.LedgerReads', WHERE WHAT IT READS IS OF BULK AT MOST 1048576: true; the input reads as it did. -/
def ledgerReadsUptoRow : OpenClaim := { program := "ythblegfihenflaa", sum := "6bac9fd271ee4449d79758a8f0abca734498a86b4670b12bdb96bfbca9c3a3e1", func := "rialto/rialtolaw12.LedgerReads", spec := "ledgerReads", inPlace := ["slices.overlaps[rialto/api.Amount]"], unfollowed := true, recurses := true, apart := false, narrowed := true }
def LedgerReadsUptoSaid : Prop := ledgerReadsUptoRow.holds Try.pinned (OpenSpec.upto ledgerReadsSpec)

/-- 'rialtolaw12.LedgerBack', WHERE WHAT IT READS IS OF BULK AT MOST 1048576: true; the input reads as it did. -/
def ledgerBackUptoRow : OpenClaim := { program := "ythblegfihenflaa", sum := "6bac9fd271ee4449d79758a8f0abca734498a86b4670b12bdb96bfbca9c3a3e1", func := "rialto/rialtolaw12.LedgerBack", spec := "ledgerBack", inPlace := ["slices.overlaps[rialto/api.Amount]"], unfollowed := true, recurses := true, apart := false, narrowed := true }
def LedgerBackUptoSaid : Prop := ledgerBackUptoRow.holds Try.pinned (OpenSpec.upto ledgerBackSpec)

/-- 'rialtolaw12.LedgerTotals', WHERE WHAT IT READS IS OF BULK AT MOST 1048576: true; the input reads as it did. -/
def ledgerTotalsUptoRow : OpenClaim := { program := "ythblegfihenflaa", sum := "6bac9fd271ee4449d79758a8f0abca734498a86b4670b12bdb96bfbca9c3a3e1", func := "rialto/rialtolaw12.LedgerTotals", spec := "ledgerTotals", inPlace := ["slices.overlaps[rialto/api.Amount]"], unfollowed := true, recurses := true, apart := false, narrowed := true }
def LedgerTotalsUptoSaid : Prop := ledgerTotalsUptoRow.holds Try.pinned (OpenSpec.upto ledgerTotalsSpec)

/-- 'rialtolaw12.LedgerKeeps', WHERE WHAT IT READS IS OF BULK AT MOST 1048576: true; the input reads as it did. -/
def ledgerKeepsUptoRow : OpenClaim := { program := "ythblegfihenflaa", sum := "6bac9fd271ee4449d79758a8f0abca734498a86b4670b12bdb96bfbca9c3a3e1", func := "rialto/rialtolaw12.LedgerKeeps", spec := "ledgerKeeps", inPlace := ["slices.overlaps[rialto/api.Amount]"], unfollowed := true, recurses := true, apart := false, narrowed := true }
def LedgerKeepsUptoSaid : Prop := ledgerKeepsUptoRow.holds Try.pinned (OpenSpec.upto ledgerKeepsSpec)

end Rows
end Go.Proofs.Ythblegfihenflaa
