/-
  No cell of these rows narrows 'for every input' (looked for: loops, veiled, ifaces, maps, wideKeys, modest, calm, conditions, laid).
  DERIVED. THE GIVEN ROWS OF THIS SEAT. 7 by the template 'for every input the law returns true; each argument reads behind the call as it read before'; 0 by the template 'total and deterministic' (their statements: YtgphfhpobppmeaaTotals.lean).
  GIVEN WITH THE SEED: the statements are not yours to turn. If you find one false, say at which input.
  Laid BY PROGRAM, IN A SANDBOX (cutbox-rows.mjs): the forced cells as the released guide's own fill.sh prints them over the translation 2d322511658acafe… (all of the seat's roots in one cut). By AI agents, Wed Nov 11 2026. No macro, syntax, notation, axiom, sorry.
-/
import Derived.Test.YtgphfhpobppmeaaChecked
import GoSem.Claim
import GoSem.ClaimJoined
import GoSem.ClaimMapViews
import Derived.JoinedTies
import Derived.KernelRfl
namespace Go.Proofs.Ytgphfhpobppmeaa
/- THE CELL 'sum', in the pinned program and in every row, IS THE sha256 OF THE DUMP (.gsa) THAT YtgphfhpobppmeaaProg.lean LOADS. Nothing in Lean hashes anything: it is a label: what it is worth is what the hold of that sum in a sandbox is worth. -/
noncomputable def Try.pinned : Pinned := { name := "ytgphfhpobppmeaa", sum := "2d322511658acafe73bc640d020f056e367ed537406727065a30eef7dd7d1c6e", checked := Try.checked }
namespace Rows
def none {H : Type} : Left H := { results := [], args := [] }

/-- 'cofferdamlaw03.MatrixInverts': WHATEVER THE INPUT: true; the input reads as it did. -/
def matrixInvertsSpec : ChangeSpec := { name := "matrixInverts", fn := fun _ => fun
  | [d1, d2] => { results := [.lit (.bool true)], args := [d1, d2] }
  | _ => none }
def matrixInvertsRow : OpenClaim := { program := "ytgphfhpobppmeaa", sum := "2d322511658acafe73bc640d020f056e367ed537406727065a30eef7dd7d1c6e", func := "cofferdam/cofferdamlaw03.MatrixInverts", spec := "matrixInverts", unfollowed := true, recurses := true, apart := false }
def MatrixInvertsSaid : Prop := matrixInvertsRow.holds Try.pinned (OpenSpec.ofChange matrixInvertsSpec)

/-- ITS FALSE NEIGHBOUR: 'it returns false'. Refute it at one input. -/
def matrixInvertsWrong : ChangeSpec := { name := "matrixInverts", fn := fun _ => fun
  | [d1, d2] => { results := [.lit (.bool false)], args := [d1, d2] }
  | _ => none }
def MatrixInvertsWrongFalsely : Prop := matrixInvertsRow.holds Try.pinned (OpenSpec.ofChange matrixInvertsWrong)

/-- 'cofferdamlaw03.MatrixPowers': WHATEVER THE INPUT: true; the input reads as it did. -/
def matrixPowersSpec : ChangeSpec := { name := "matrixPowers", fn := fun _ => fun
  | [d1, d2] => { results := [.lit (.bool true)], args := [d1, d2] }
  | _ => none }
def matrixPowersRow : OpenClaim := { program := "ytgphfhpobppmeaa", sum := "2d322511658acafe73bc640d020f056e367ed537406727065a30eef7dd7d1c6e", func := "cofferdam/cofferdamlaw03.MatrixPowers", spec := "matrixPowers", unfollowed := true, recurses := true, apart := false }
def MatrixPowersSaid : Prop := matrixPowersRow.holds Try.pinned (OpenSpec.ofChange matrixPowersSpec)

/-- ITS FALSE NEIGHBOUR: 'it returns false'. Refute it at one input. -/
def matrixPowersWrong : ChangeSpec := { name := "matrixPowers", fn := fun _ => fun
  | [d1, d2] => { results := [.lit (.bool false)], args := [d1, d2] }
  | _ => none }
def MatrixPowersWrongFalsely : Prop := matrixPowersRow.holds Try.pinned (OpenSpec.ofChange matrixPowersWrong)

/-- 'cofferdamlaw03.MatrixMuls': WHATEVER THE INPUT: true; the input reads as it did. -/
def matrixMulsSpec : ChangeSpec := { name := "matrixMuls", fn := fun _ => fun
  | [d1, d2] => { results := [.lit (.bool true)], args := [d1, d2] }
  | _ => none }
def matrixMulsRow : OpenClaim := { program := "ytgphfhpobppmeaa", sum := "2d322511658acafe73bc640d020f056e367ed537406727065a30eef7dd7d1c6e", func := "cofferdam/cofferdamlaw03.MatrixMuls", spec := "matrixMuls", unfollowed := true, recurses := true, apart := false }
def MatrixMulsSaid : Prop := matrixMulsRow.holds Try.pinned (OpenSpec.ofChange matrixMulsSpec)

/-- ITS FALSE NEIGHBOUR: 'it returns false'. Refute it at one input. -/
def matrixMulsWrong : ChangeSpec := { name := "matrixMuls", fn := fun _ => fun
  | [d1, d2] => { results := [.lit (.bool false)], args := [d1, d2] }
  | _ => none }
def MatrixMulsWrongFalsely : Prop := matrixMulsRow.holds Try.pinned (OpenSpec.ofChange matrixMulsWrong)

/-- 'cofferdamlaw03.MatrixApplies': WHATEVER THE INPUT: true; the input reads as it did. -/
def matrixAppliesSpec : ChangeSpec := { name := "matrixApplies", fn := fun _ => fun
  | [d1, d2, d3] => { results := [.lit (.bool true)], args := [d1, d2, d3] }
  | _ => none }
def matrixAppliesRow : OpenClaim := { program := "ytgphfhpobppmeaa", sum := "2d322511658acafe73bc640d020f056e367ed537406727065a30eef7dd7d1c6e", func := "cofferdam/cofferdamlaw03.MatrixApplies", spec := "matrixApplies", unfollowed := true, recurses := true, apart := false }
def MatrixAppliesSaid : Prop := matrixAppliesRow.holds Try.pinned (OpenSpec.ofChange matrixAppliesSpec)

/-- ITS FALSE NEIGHBOUR: 'it returns false'. Refute it at one input. -/
def matrixAppliesWrong : ChangeSpec := { name := "matrixApplies", fn := fun _ => fun
  | [d1, d2, d3] => { results := [.lit (.bool false)], args := [d1, d2, d3] }
  | _ => none }
def MatrixAppliesWrongFalsely : Prop := matrixAppliesRow.holds Try.pinned (OpenSpec.ofChange matrixAppliesWrong)

/-- 'cofferdamlaw03.MatrixMakes': WHATEVER THE INPUT: true; the input reads as it did. -/
def matrixMakesSpec : ChangeSpec := { name := "matrixMakes", fn := fun _ => fun
  | [d1, d2, d3] => { results := [.lit (.bool true)], args := [d1, d2, d3] }
  | _ => none }
def matrixMakesRow : OpenClaim := { program := "ytgphfhpobppmeaa", sum := "2d322511658acafe73bc640d020f056e367ed537406727065a30eef7dd7d1c6e", func := "cofferdam/cofferdamlaw03.MatrixMakes", spec := "matrixMakes", unfollowed := true, recurses := true, apart := false }
def MatrixMakesSaid : Prop := matrixMakesRow.holds Try.pinned (OpenSpec.ofChange matrixMakesSpec)

/-- ITS FALSE NEIGHBOUR: 'it returns false'. Refute it at one input. -/
def matrixMakesWrong : ChangeSpec := { name := "matrixMakes", fn := fun _ => fun
  | [d1, d2, d3] => { results := [.lit (.bool false)], args := [d1, d2, d3] }
  | _ => none }
def MatrixMakesWrongFalsely : Prop := matrixMakesRow.holds Try.pinned (OpenSpec.ofChange matrixMakesWrong)

/-- 'cofferdamlaw03.MatrixBack': WHATEVER THE INPUT: true; the input reads as it did. -/
def matrixBackSpec : ChangeSpec := { name := "matrixBack", fn := fun _ => fun
  | [d] => { results := [.lit (.bool true)], args := [d] }
  | _ => none }
def matrixBackRow : OpenClaim := { program := "ytgphfhpobppmeaa", sum := "2d322511658acafe73bc640d020f056e367ed537406727065a30eef7dd7d1c6e", func := "cofferdam/cofferdamlaw03.MatrixBack", spec := "matrixBack", unfollowed := true, recurses := true, apart := false }
def MatrixBackSaid : Prop := matrixBackRow.holds Try.pinned (OpenSpec.ofChange matrixBackSpec)

/-- ITS FALSE NEIGHBOUR: 'it returns false'. Refute it at one input. -/
def matrixBackWrong : ChangeSpec := { name := "matrixBack", fn := fun _ => fun
  | [d] => { results := [.lit (.bool false)], args := [d] }
  | _ => none }
def MatrixBackWrongFalsely : Prop := matrixBackRow.holds Try.pinned (OpenSpec.ofChange matrixBackWrong)

/-- 'cofferdamlaw03.MatrixTexts': WHATEVER THE INPUT: true; the input reads as it did. -/
def matrixTextsSpec : ChangeSpec := { name := "matrixTexts", fn := fun _ => fun
  | [d1, d2, d3] => { results := [.lit (.bool true)], args := [d1, d2, d3] }
  | _ => none }
def matrixTextsRow : OpenClaim := { program := "ytgphfhpobppmeaa", sum := "2d322511658acafe73bc640d020f056e367ed537406727065a30eef7dd7d1c6e", func := "cofferdam/cofferdamlaw03.MatrixTexts", spec := "matrixTexts", unfollowed := true, recurses := true, apart := false }
def MatrixTextsSaid : Prop := matrixTextsRow.holds Try.pinned (OpenSpec.ofChange matrixTextsSpec)

/-- ITS FALSE NEIGHBOUR: 'it returns false'. Refute it at one input. -/
def matrixTextsWrong : ChangeSpec := { name := "matrixTexts", fn := fun _ => fun
  | [d1, d2, d3] => { results := [.lit (.bool false)], args := [d1, d2, d3] }
  | _ => none }
def MatrixTextsWrongFalsely : Prop := matrixTextsRow.holds Try.pinned (OpenSpec.ofChange matrixTextsWrong)

/- THE SECOND FORM. 'bulk': how many values and letters a reading holds, each counted each time it is reached (what is shared counts as often as it is met; a slice's spare places count too). A statement '..UptoSaid' is the law's where the arguments, and the package variables that the reading takes, are together of bulk at most 1048576: NARROWER than '..Said'. Prove '..Said' where nothing that the law and all that it calls make is longer than what came in: it says more and counts as full. Else prove '..UptoSaid'. A law counts once. -/
mutual
def uptoBulk {H : Type} : DataW H → Nat
  | .lit (.string bytes) => bytes.length + 1
  | .lit _ => 1
  | .nil => 1
  | .ptr d => uptoBulk d + 1
  | .slice elems spare => uptoBulkAll elems + uptoBulkAll spare + 1
  | .agg parts => uptoBulkAll parts + 1
  | .iface _ d => uptoBulk d + 1
  | .map entries => uptoBulkEntries entries + 1
  | .held _ => 1
def uptoBulkAll {H : Type} : List (DataW H) → Nat
  | [] => 0
  | d :: r => uptoBulk d + uptoBulkAll r
def uptoBulkEntries {H : Type} : List (Lit × DataW H) → Nat
  | [] => 0
  | x :: r => uptoBulkEntry x + uptoBulkEntries r
def uptoBulkEntry {H : Type} : Lit × DataW H → Nat
  | (.string bytes, d) => bytes.length + uptoBulk d + 1
  | (_, d) => uptoBulk d + 1
 end
def uptoSmall : (H : Type) → List (DataW H) → Bool := fun _ ds => decide (uptoBulkAll ds ≤ 1048576)
def OpenSpec.upto (s : _root_.Go.ChangeSpec) : _root_.Go.OpenSpec := { _root_.Go.OpenSpec.ofChange s with cond := some uptoSmall }

/-- 'cofferdamlaw03.MatrixInverts', WHERE WHAT IT READS IS OF BULK AT MOST 1048576: true; the input reads as it did. -/
def matrixInvertsUptoRow : OpenClaim := { program := "ytgphfhpobppmeaa", sum := "2d322511658acafe73bc640d020f056e367ed537406727065a30eef7dd7d1c6e", func := "cofferdam/cofferdamlaw03.MatrixInverts", spec := "matrixInverts", unfollowed := true, recurses := true, apart := false, narrowed := true }
def MatrixInvertsUptoSaid : Prop := matrixInvertsUptoRow.holds Try.pinned (OpenSpec.upto matrixInvertsSpec)

/-- 'cofferdamlaw03.MatrixPowers', WHERE WHAT IT READS IS OF BULK AT MOST 1048576: true; the input reads as it did. -/
def matrixPowersUptoRow : OpenClaim := { program := "ytgphfhpobppmeaa", sum := "2d322511658acafe73bc640d020f056e367ed537406727065a30eef7dd7d1c6e", func := "cofferdam/cofferdamlaw03.MatrixPowers", spec := "matrixPowers", unfollowed := true, recurses := true, apart := false, narrowed := true }
def MatrixPowersUptoSaid : Prop := matrixPowersUptoRow.holds Try.pinned (OpenSpec.upto matrixPowersSpec)

/-- 'cofferdamlaw03.MatrixMuls', WHERE WHAT IT READS IS OF BULK AT MOST 1048576: true; the input reads as it did. -/
def matrixMulsUptoRow : OpenClaim := { program := "ytgphfhpobppmeaa", sum := "2d322511658acafe73bc640d020f056e367ed537406727065a30eef7dd7d1c6e", func := "cofferdam/cofferdamlaw03.MatrixMuls", spec := "matrixMuls", unfollowed := true, recurses := true, apart := false, narrowed := true }
def MatrixMulsUptoSaid : Prop := matrixMulsUptoRow.holds Try.pinned (OpenSpec.upto matrixMulsSpec)

/-- 'cofferdamlaw03.MatrixApplies', WHERE WHAT IT READS IS OF BULK AT MOST 1048576: true; the input reads as it did. -/
def matrixAppliesUptoRow : OpenClaim := { program := "ytgphfhpobppmeaa", sum := "2d322511658acafe73bc640d020f056e367ed537406727065a30eef7dd7d1c6e", func := "cofferdam/cofferdamlaw03.MatrixApplies", spec := "matrixApplies", unfollowed := true, recurses := true, apart := false, narrowed := true }
def MatrixAppliesUptoSaid : Prop := matrixAppliesUptoRow.holds Try.pinned (OpenSpec.upto matrixAppliesSpec)

/-- 'cofferdamlaw03.MatrixMakes', WHERE WHAT IT READS IS OF BULK AT MOST 1048576: true; the input reads as it did. -/
def matrixMakesUptoRow : OpenClaim := { program := "ytgphfhpobppmeaa", sum := "2d322511658acafe73bc640d020f056e367ed537406727065a30eef7dd7d1c6e", func := "cofferdam/cofferdamlaw03.MatrixMakes", spec := "matrixMakes", unfollowed := true, recurses := true, apart := false, narrowed := true }
def MatrixMakesUptoSaid : Prop := matrixMakesUptoRow.holds Try.pinned (OpenSpec.upto matrixMakesSpec)

/-- 'cofferdamlaw03.MatrixBack', WHERE WHAT IT READS IS OF BULK AT MOST 1048576: true; the input reads as it did. -/
def matrixBackUptoRow : OpenClaim := { program := "ytgphfhpobppmeaa", sum := "2d322511658acafe73bc640d020f056e367ed537406727065a30eef7dd7d1c6e", func := "cofferdam/cofferdamlaw03.MatrixBack", spec := "matrixBack", unfollowed := true, recurses := true, apart := false, narrowed := true }
def MatrixBackUptoSaid : Prop := matrixBackUptoRow.holds Try.pinned (OpenSpec.upto matrixBackSpec)

/-- 'cofferdamlaw03.MatrixTexts', WHERE WHAT IT READS IS OF BULK AT MOST 1048576: true; the input reads as it did. -/
def matrixTextsUptoRow : OpenClaim := { program := "ytgphfhpobppmeaa", sum := "2d322511658acafe73bc640d020f056e367ed537406727065a30eef7dd7d1c6e", func := "cofferdam/cofferdamlaw03.MatrixTexts", spec := "matrixTexts", unfollowed := true, recurses := true, apart := false, narrowed := true }
def MatrixTextsUptoSaid : Prop := matrixTextsUptoRow.holds Try.pinned (OpenSpec.upto matrixTextsSpec)

end Rows
end Go.Proofs.Ytgphfhpobppmeaa
