/-
  No cell of these rows narrows 'for every input' (looked for: loops, veiled, ifaces, maps, wideKeys, modest, calm, conditions, laid).
  DERIVED. THE GIVEN ROWS OF THIS SEAT. 6 by the template 'for every input the law returns true; each argument reads behind the call as it read before'; 0 by the template 'total and deterministic' (their statements: YthhdfefobblmkaaTotals.lean).
  GIVEN WITH THE SEED: the statements are not yours to turn. If you find one false, say at which input.
  Laid BY PROGRAM, IN A SANDBOX (cutbox-rows.mjs): the forced cells as the released guide's own fill.sh prints them over the translation 434c11ba283fa194… (all of the seat's roots in one cut). By AI agents, Wed Nov 11 2026. No macro, syntax, notation, axiom, sorry.
-/
import Derived.Test.YthhdfefobblmkaaChecked
import GoSem.Claim
import GoSem.ClaimJoined
import GoSem.ClaimMapViews
import Derived.JoinedTies
import Derived.KernelRfl
namespace Go.Proofs.Ythhdfefobblmkaa
/- THE CELL 'sum', in the pinned program and in every row, IS THE sha256 OF THE DUMP (.gsa) THAT YthhdfefobblmkaaProg.lean LOADS. Nothing in Lean hashes anything: it is a label: what it is worth is what the hold of that sum in a sandbox is worth. -/
noncomputable def Try.pinned : Pinned := { name := "ythhdfefobblmkaa", sum := "434c11ba283fa194c9be278b3cc2afb0898d9c245754214f5d55dfc43f2acebf", checked := Try.checked }
namespace Rows
def none {H : Type} : Left H := { results := [], args := [] }

/-- 'rialtolaw07.TermGrants': WHATEVER THE INPUT: true; the input reads as it did. -/
def termGrantsSpec : ChangeSpec := { name := "termGrants", fn := fun _ => fun
  | [d1, d2, d3] => { results := [.lit (.bool true)], args := [d1, d2, d3] }
  | _ => none }
def termGrantsRow : OpenClaim := { program := "ythhdfefobblmkaa", sum := "434c11ba283fa194c9be278b3cc2afb0898d9c245754214f5d55dfc43f2acebf", func := "rialto/rialtolaw07.TermGrants", spec := "termGrants", inPlace := ["slices.overlaps[int]"], apart := false }
def TermGrantsSaid : Prop := termGrantsRow.holds Try.pinned (OpenSpec.ofChange termGrantsSpec)

/-- ITS FALSE NEIGHBOUR: 'it returns false'. Refute it at one input. -/
def termGrantsWrong : ChangeSpec := { name := "termGrants", fn := fun _ => fun
  | [d1, d2, d3] => { results := [.lit (.bool false)], args := [d1, d2, d3] }
  | _ => none }
def TermGrantsWrongFalsely : Prop := termGrantsRow.holds Try.pinned (OpenSpec.ofChange termGrantsWrong)

/-- 'rialtolaw07.TermCounts': WHATEVER THE INPUT: true; the input reads as it did. -/
def termCountsSpec : ChangeSpec := { name := "termCounts", fn := fun _ => fun
  | [d1, d2] => { results := [.lit (.bool true)], args := [d1, d2] }
  | _ => none }
def termCountsRow : OpenClaim := { program := "ythhdfefobblmkaa", sum := "434c11ba283fa194c9be278b3cc2afb0898d9c245754214f5d55dfc43f2acebf", func := "rialto/rialtolaw07.TermCounts", spec := "termCounts", inPlace := ["slices.overlaps[int]"], apart := false }
def TermCountsSaid : Prop := termCountsRow.holds Try.pinned (OpenSpec.ofChange termCountsSpec)

/-- ITS FALSE NEIGHBOUR: 'it returns false'. Refute it at one input. -/
def termCountsWrong : ChangeSpec := { name := "termCounts", fn := fun _ => fun
  | [d1, d2] => { results := [.lit (.bool false)], args := [d1, d2] }
  | _ => none }
def TermCountsWrongFalsely : Prop := termCountsRow.holds Try.pinned (OpenSpec.ofChange termCountsWrong)

/-- 'rialtolaw07.TermOne': WHATEVER THE INPUT: true; the input reads as it did. -/
def termOneSpec : ChangeSpec := { name := "termOne", fn := fun _ => fun
  | [d1, d2, d3] => { results := [.lit (.bool true)], args := [d1, d2, d3] }
  | _ => none }
def termOneRow : OpenClaim := { program := "ythhdfefobblmkaa", sum := "434c11ba283fa194c9be278b3cc2afb0898d9c245754214f5d55dfc43f2acebf", func := "rialto/rialtolaw07.TermOne", spec := "termOne", inPlace := ["slices.overlaps[int]"], apart := false }
def TermOneSaid : Prop := termOneRow.holds Try.pinned (OpenSpec.ofChange termOneSpec)

/-- ITS FALSE NEIGHBOUR: 'it returns false'. Refute it at one input. -/
def termOneWrong : ChangeSpec := { name := "termOne", fn := fun _ => fun
  | [d1, d2, d3] => { results := [.lit (.bool false)], args := [d1, d2, d3] }
  | _ => none }
def TermOneWrongFalsely : Prop := termOneRow.holds Try.pinned (OpenSpec.ofChange termOneWrong)

/-- 'rialtolaw07.TermOrder': WHATEVER THE INPUT: true; the input reads as it did. -/
def termOrderSpec : ChangeSpec := { name := "termOrder", fn := fun _ => fun
  | [d1, d2, d3] => { results := [.lit (.bool true)], args := [d1, d2, d3] }
  | _ => none }
def termOrderRow : OpenClaim := { program := "ythhdfefobblmkaa", sum := "434c11ba283fa194c9be278b3cc2afb0898d9c245754214f5d55dfc43f2acebf", func := "rialto/rialtolaw07.TermOrder", spec := "termOrder", inPlace := ["slices.overlaps[int]"], apart := false }
def TermOrderSaid : Prop := termOrderRow.holds Try.pinned (OpenSpec.ofChange termOrderSpec)

/-- ITS FALSE NEIGHBOUR: 'it returns false'. Refute it at one input. -/
def termOrderWrong : ChangeSpec := { name := "termOrder", fn := fun _ => fun
  | [d1, d2, d3] => { results := [.lit (.bool false)], args := [d1, d2, d3] }
  | _ => none }
def TermOrderWrongFalsely : Prop := termOrderRow.holds Try.pinned (OpenSpec.ofChange termOrderWrong)

/-- 'rialtolaw07.TermBegins': WHATEVER THE INPUT: true; the input reads as it did. -/
def termBeginsSpec : ChangeSpec := { name := "termBegins", fn := fun _ => fun
  | [d1, d2, d3] => { results := [.lit (.bool true)], args := [d1, d2, d3] }
  | _ => none }
def termBeginsRow : OpenClaim := { program := "ythhdfefobblmkaa", sum := "434c11ba283fa194c9be278b3cc2afb0898d9c245754214f5d55dfc43f2acebf", func := "rialto/rialtolaw07.TermBegins", spec := "termBegins", inPlace := ["slices.overlaps[int]"], apart := false }
def TermBeginsSaid : Prop := termBeginsRow.holds Try.pinned (OpenSpec.ofChange termBeginsSpec)

/-- ITS FALSE NEIGHBOUR: 'it returns false'. Refute it at one input. -/
def termBeginsWrong : ChangeSpec := { name := "termBegins", fn := fun _ => fun
  | [d1, d2, d3] => { results := [.lit (.bool false)], args := [d1, d2, d3] }
  | _ => none }
def TermBeginsWrongFalsely : Prop := termBeginsRow.holds Try.pinned (OpenSpec.ofChange termBeginsWrong)

/-- 'rialtolaw07.TermFirm': WHATEVER THE INPUT: true; the input reads as it did. -/
def termFirmSpec : ChangeSpec := { name := "termFirm", fn := fun _ => fun
  | [d1, d2] => { results := [.lit (.bool true)], args := [d1, d2] }
  | _ => none }
def termFirmRow : OpenClaim := { program := "ythhdfefobblmkaa", sum := "434c11ba283fa194c9be278b3cc2afb0898d9c245754214f5d55dfc43f2acebf", func := "rialto/rialtolaw07.TermFirm", spec := "termFirm", inPlace := ["slices.overlaps[int]"], apart := false }
def TermFirmSaid : Prop := termFirmRow.holds Try.pinned (OpenSpec.ofChange termFirmSpec)

/-- ITS FALSE NEIGHBOUR: 'it returns false'. Refute it at one input. -/
def termFirmWrong : ChangeSpec := { name := "termFirm", fn := fun _ => fun
  | [d1, d2] => { results := [.lit (.bool false)], args := [d1, d2] }
  | _ => none }
def TermFirmWrongFalsely : Prop := termFirmRow.holds Try.pinned (OpenSpec.ofChange termFirmWrong)

/- THE SECOND FORM. 'bulk': how many values and letters a reading holds, each counted each time it is reached (what is shared counts as often as it is met; a slice's spare places count too). A statement '..UptoSaid' is the law's where the arguments, and the package variables that the reading takes, are together of bulk at most 1048576: NARROWER than '..Said'. Prove '..Said' where nothing that the law and all that it calls make is longer than what came in: it says more and counts as full. Else prove '..UptoSaid'. A law counts once. -/
mutual
def uptoBulk {H : Type} : DataW H → Nat
  | .lit (.string bytes) => bytes.length + 1
  | .lit _ => 1
  | .nil => 1
  | .ptr d => uptoBulk d + 1
  | .slice elems spare => uptoBulkAll elems + uptoBulkAll spare + 1
  | .agg parts => uptoBulkAll parts + 1
  | .iface _ d => uptoBulk d + 1
  | .map entries => uptoBulkEntries entries + 1
  | .held _ => 1
def uptoBulkAll {H : Type} : List (DataW H) → Nat
  | [] => 0
  | d :: r => uptoBulk d + uptoBulkAll r
def uptoBulkEntries {H : Type} : List (Lit × DataW H) → Nat
  | [] => 0
  | x :: r => uptoBulkEntry x + uptoBulkEntries r
def uptoBulkEntry {H : Type} : Lit × DataW H → Nat
  | (.string bytes, d) => bytes.length + uptoBulk d + 1
  | (_, d) => uptoBulk d + 1
 end
def uptoSmall : (H : Type) → List (DataW H) → Bool := fun _ ds => decide (uptoBulkAll ds ≤ 1048576)
def OpenSpec.upto (s : _root_.Go.ChangeSpec) : _root_.Go.OpenSpec := { _root_.Go.OpenSpec.ofChange s with cond := some uptoSmall }

/-- 'rialtolaw07.TermGrants', WHERE WHAT IT READS IS OF BULK AT MOST 1048576: true; the input reads as it did. -/
def termGrantsUptoRow : OpenClaim := { program := "ythhdfefobblmkaa", sum := "434c11ba283fa194c9be278b3cc2afb0898d9c245754214f5d55dfc43f2acebf", func := "rialto/rialtolaw07.TermGrants", spec := "termGrants", inPlace := ["slices.overlaps[int]"], apart := false, narrowed := true }
def TermGrantsUptoSaid : Prop := termGrantsUptoRow.holds Try.pinned (OpenSpec.upto termGrantsSpec)

/-- 'rialtolaw07.TermCounts', WHERE WHAT IT READS IS OF BULK AT MOST 1048576: true; the input reads as it did. -/
def termCountsUptoRow : OpenClaim := { program := "ythhdfefobblmkaa", sum := "434c11ba283fa194c9be278b3cc2afb0898d9c245754214f5d55dfc43f2acebf", func := "rialto/rialtolaw07.TermCounts", spec := "termCounts", inPlace := ["slices.overlaps[int]"], apart := false, narrowed := true }
def TermCountsUptoSaid : Prop := termCountsUptoRow.holds Try.pinned (OpenSpec.upto termCountsSpec)

/-- 'rialtolaw07.TermOne', WHERE WHAT IT READS IS OF BULK AT MOST 1048576: true; the input reads as it did. -/
def termOneUptoRow : OpenClaim := { program := "ythhdfefobblmkaa", sum := "434c11ba283fa194c9be278b3cc2afb0898d9c245754214f5d55dfc43f2acebf", func := "rialto/rialtolaw07.TermOne", spec := "termOne", inPlace := ["slices.overlaps[int]"], apart := false, narrowed := true }
def TermOneUptoSaid : Prop := termOneUptoRow.holds Try.pinned (OpenSpec.upto termOneSpec)

/-- 'rialtolaw07.TermOrder', WHERE WHAT IT READS IS OF BULK AT MOST 1048576: true; the input reads as it did. -/
def termOrderUptoRow : OpenClaim := { program := "ythhdfefobblmkaa", sum := "434c11ba283fa194c9be278b3cc2afb0898d9c245754214f5d55dfc43f2acebf", func := "rialto/rialtolaw07.TermOrder", spec := "termOrder", inPlace := ["slices.overlaps[int]"], apart := false, narrowed := true }
def TermOrderUptoSaid : Prop := termOrderUptoRow.holds Try.pinned (OpenSpec.upto termOrderSpec)

/-- 'rialtolaw07.TermBegins', WHERE WHAT IT READS IS OF BULK AT MOST 1048576: true; the input reads as it did. -/
def termBeginsUptoRow : OpenClaim := { program := "ythhdfefobblmkaa", sum := "434c11ba283fa194c9be278b3cc2afb0898d9c245754214f5d55dfc43f2acebf", func := "rialto/rialtolaw07.TermBegins", spec := "termBegins", inPlace := ["slices.overlaps[int]"], apart := false, narrowed := true }
def TermBeginsUptoSaid : Prop := termBeginsUptoRow.holds Try.pinned (OpenSpec.upto termBeginsSpec)

/-- 'rialtolaw07.TermFirm', WHERE WHAT IT READS IS OF BULK AT MOST 1048576: true; the input reads as it did. -/
def termFirmUptoRow : OpenClaim := { program := "ythhdfefobblmkaa", sum := "434c11ba283fa194c9be278b3cc2afb0898d9c245754214f5d55dfc43f2acebf", func := "rialto/rialtolaw07.TermFirm", spec := "termFirm", inPlace := ["slices.overlaps[int]"], apart := false, narrowed := true }
def TermFirmUptoSaid : Prop := termFirmUptoRow.holds Try.pinned (OpenSpec.upto termFirmSpec)

end Rows
end Go.Proofs.Ythhdfefobblmkaa
