/-
  No cell of these rows narrows 'for every input' (looked for: loops, veiled, ifaces, maps, wideKeys, modest, calm, conditions, laid).
  DERIVED. THE GIVEN ROWS OF THIS SEAT. 8 by the template 'for every input the law returns true; each argument reads behind the call as it read before'; 0 by the template 'total and deterministic' (their statements: YtikgipohjoiagaaTotals.lean).
  GIVEN WITH THE SEED: the statements are not yours to turn. If you find one false, say at which input.
  Laid BY PROGRAM, IN A SANDBOX (cutbox-rows.mjs): the forced cells as the released guide's own fill.sh prints them over the translation 2c058d1e3cc37f20… (all of the seat's roots in one cut). By AI agents, Wed Nov 11 2026. No macro, syntax, notation, axiom, sorry.
-/
import Derived.Test.YtikgipohjoiagaaChecked
import GoSem.Claim
import GoSem.ClaimJoined
import GoSem.ClaimMapViews
import Derived.JoinedTies
import Derived.KernelRfl
namespace Go.Proofs.Ytikgipohjoiagaa
/- THE CELL 'sum', in the pinned program and in every row, IS THE sha256 OF THE DUMP (.gsa) THAT YtikgipohjoiagaaProg.lean LOADS. Nothing in Lean hashes anything: it is a label: what it is worth is what the hold of that sum in a sandbox is worth. -/
noncomputable def Try.pinned : Pinned := { name := "ytikgipohjoiagaa", sum := "2c058d1e3cc37f208ea7eda514cf273fcc08c8f17a26f2fc323bdcc7d0d15dd2", checked := Try.checked }
namespace Rows
def none {H : Type} : Left H := { results := [], args := [] }

/-- 'cofferdamlaw04.RsEncodes': WHATEVER THE INPUT: true; the input reads as it did. -/
def rsEncodesSpec : ChangeSpec := { name := "rsEncodes", fn := fun _ => fun
  | [d1, d2] => { results := [.lit (.bool true)], args := [d1, d2] }
  | _ => none }
def rsEncodesRow : OpenClaim := { program := "ytikgipohjoiagaa", sum := "2c058d1e3cc37f208ea7eda514cf273fcc08c8f17a26f2fc323bdcc7d0d15dd2", func := "cofferdam/cofferdamlaw04.RsEncodes", spec := "rsEncodes", apart := false }
def RsEncodesSaid : Prop := rsEncodesRow.holds Try.pinned (OpenSpec.ofChange rsEncodesSpec)

/-- ITS FALSE NEIGHBOUR: 'it returns false'. Refute it at one input. -/
def rsEncodesWrong : ChangeSpec := { name := "rsEncodes", fn := fun _ => fun
  | [d1, d2] => { results := [.lit (.bool false)], args := [d1, d2] }
  | _ => none }
def RsEncodesWrongFalsely : Prop := rsEncodesRow.holds Try.pinned (OpenSpec.ofChange rsEncodesWrong)

/-- 'cofferdamlaw04.RsChecks': WHATEVER THE INPUT: true; the input reads as it did. -/
def rsChecksSpec : ChangeSpec := { name := "rsChecks", fn := fun _ => fun
  | [d1, d2] => { results := [.lit (.bool true)], args := [d1, d2] }
  | _ => none }
def rsChecksRow : OpenClaim := { program := "ytikgipohjoiagaa", sum := "2c058d1e3cc37f208ea7eda514cf273fcc08c8f17a26f2fc323bdcc7d0d15dd2", func := "cofferdam/cofferdamlaw04.RsChecks", spec := "rsChecks", apart := false }
def RsChecksSaid : Prop := rsChecksRow.holds Try.pinned (OpenSpec.ofChange rsChecksSpec)

/-- ITS FALSE NEIGHBOUR: 'it returns false'. Refute it at one input. -/
def rsChecksWrong : ChangeSpec := { name := "rsChecks", fn := fun _ => fun
  | [d1, d2] => { results := [.lit (.bool false)], args := [d1, d2] }
  | _ => none }
def RsChecksWrongFalsely : Prop := rsChecksRow.holds Try.pinned (OpenSpec.ofChange rsChecksWrong)

/-- 'cofferdamlaw04.RsOne': WHATEVER THE INPUT: true; the input reads as it did. -/
def rsOneSpec : ChangeSpec := { name := "rsOne", fn := fun _ => fun
  | [d1, d2, d3] => { results := [.lit (.bool true)], args := [d1, d2, d3] }
  | _ => none }
def rsOneRow : OpenClaim := { program := "ytikgipohjoiagaa", sum := "2c058d1e3cc37f208ea7eda514cf273fcc08c8f17a26f2fc323bdcc7d0d15dd2", func := "cofferdam/cofferdamlaw04.RsOne", spec := "rsOne", apart := false }
def RsOneSaid : Prop := rsOneRow.holds Try.pinned (OpenSpec.ofChange rsOneSpec)

/-- ITS FALSE NEIGHBOUR: 'it returns false'. Refute it at one input. -/
def rsOneWrong : ChangeSpec := { name := "rsOne", fn := fun _ => fun
  | [d1, d2, d3] => { results := [.lit (.bool false)], args := [d1, d2, d3] }
  | _ => none }
def RsOneWrongFalsely : Prop := rsOneRow.holds Try.pinned (OpenSpec.ofChange rsOneWrong)

/-- 'cofferdamlaw04.RsUpdates': WHATEVER THE INPUT: true; the input reads as it did. -/
def rsUpdatesSpec : ChangeSpec := { name := "rsUpdates", fn := fun _ => fun
  | [d1, d2, d3] => { results := [.lit (.bool true)], args := [d1, d2, d3] }
  | _ => none }
def rsUpdatesRow : OpenClaim := { program := "ytikgipohjoiagaa", sum := "2c058d1e3cc37f208ea7eda514cf273fcc08c8f17a26f2fc323bdcc7d0d15dd2", func := "cofferdam/cofferdamlaw04.RsUpdates", spec := "rsUpdates", apart := false }
def RsUpdatesSaid : Prop := rsUpdatesRow.holds Try.pinned (OpenSpec.ofChange rsUpdatesSpec)

/-- ITS FALSE NEIGHBOUR: 'it returns false'. Refute it at one input. -/
def rsUpdatesWrong : ChangeSpec := { name := "rsUpdates", fn := fun _ => fun
  | [d1, d2, d3] => { results := [.lit (.bool false)], args := [d1, d2, d3] }
  | _ => none }
def RsUpdatesWrongFalsely : Prop := rsUpdatesRow.holds Try.pinned (OpenSpec.ofChange rsUpdatesWrong)

/-- 'cofferdamlaw04.RsDelta': WHATEVER THE INPUT: true; the input reads as it did. -/
def rsDeltaSpec : ChangeSpec := { name := "rsDelta", fn := fun _ => fun
  | [d1, d2] => { results := [.lit (.bool true)], args := [d1, d2] }
  | _ => none }
def rsDeltaRow : OpenClaim := { program := "ytikgipohjoiagaa", sum := "2c058d1e3cc37f208ea7eda514cf273fcc08c8f17a26f2fc323bdcc7d0d15dd2", func := "cofferdam/cofferdamlaw04.RsDelta", spec := "rsDelta", apart := false }
def RsDeltaSaid : Prop := rsDeltaRow.holds Try.pinned (OpenSpec.ofChange rsDeltaSpec)

/-- ITS FALSE NEIGHBOUR: 'it returns false'. Refute it at one input. -/
def rsDeltaWrong : ChangeSpec := { name := "rsDelta", fn := fun _ => fun
  | [d1, d2] => { results := [.lit (.bool false)], args := [d1, d2] }
  | _ => none }
def RsDeltaWrongFalsely : Prop := rsDeltaRow.holds Try.pinned (OpenSpec.ofChange rsDeltaWrong)

/-- 'cofferdamlaw04.RsDecodes': WHATEVER THE INPUT: true; the input reads as it did. -/
def rsDecodesSpec : ChangeSpec := { name := "rsDecodes", fn := fun _ => fun
  | [d1, d2, d3] => { results := [.lit (.bool true)], args := [d1, d2, d3] }
  | _ => none }
def rsDecodesRow : OpenClaim := { program := "ytikgipohjoiagaa", sum := "2c058d1e3cc37f208ea7eda514cf273fcc08c8f17a26f2fc323bdcc7d0d15dd2", func := "cofferdam/cofferdamlaw04.RsDecodes", spec := "rsDecodes", unfollowed := true, recurses := true, apart := false }
def RsDecodesSaid : Prop := rsDecodesRow.holds Try.pinned (OpenSpec.ofChange rsDecodesSpec)

/-- ITS FALSE NEIGHBOUR: 'it returns false'. Refute it at one input. -/
def rsDecodesWrong : ChangeSpec := { name := "rsDecodes", fn := fun _ => fun
  | [d1, d2, d3] => { results := [.lit (.bool false)], args := [d1, d2, d3] }
  | _ => none }
def RsDecodesWrongFalsely : Prop := rsDecodesRow.holds Try.pinned (OpenSpec.ofChange rsDecodesWrong)

/-- 'cofferdamlaw04.RsAnyTwo': WHATEVER THE INPUT: true; the input reads as it did. -/
def rsAnyTwoSpec : ChangeSpec := { name := "rsAnyTwo", fn := fun _ => fun
  | [d1, d2] => { results := [.lit (.bool true)], args := [d1, d2] }
  | _ => none }
def rsAnyTwoRow : OpenClaim := { program := "ytikgipohjoiagaa", sum := "2c058d1e3cc37f208ea7eda514cf273fcc08c8f17a26f2fc323bdcc7d0d15dd2", func := "cofferdam/cofferdamlaw04.RsAnyTwo", spec := "rsAnyTwo", unfollowed := true, recurses := true, apart := false }
def RsAnyTwoSaid : Prop := rsAnyTwoRow.holds Try.pinned (OpenSpec.ofChange rsAnyTwoSpec)

/-- ITS FALSE NEIGHBOUR: 'it returns false'. Refute it at one input. -/
def rsAnyTwoWrong : ChangeSpec := { name := "rsAnyTwo", fn := fun _ => fun
  | [d1, d2] => { results := [.lit (.bool false)], args := [d1, d2] }
  | _ => none }
def RsAnyTwoWrongFalsely : Prop := rsAnyTwoRow.holds Try.pinned (OpenSpec.ofChange rsAnyTwoWrong)

/-- 'cofferdamlaw04.RsThree': WHATEVER THE INPUT: true; the input reads as it did. -/
def rsThreeSpec : ChangeSpec := { name := "rsThree", fn := fun _ => fun
  | [d1, d2] => { results := [.lit (.bool true)], args := [d1, d2] }
  | _ => none }
def rsThreeRow : OpenClaim := { program := "ytikgipohjoiagaa", sum := "2c058d1e3cc37f208ea7eda514cf273fcc08c8f17a26f2fc323bdcc7d0d15dd2", func := "cofferdam/cofferdamlaw04.RsThree", spec := "rsThree", unfollowed := true, recurses := true, apart := false }
def RsThreeSaid : Prop := rsThreeRow.holds Try.pinned (OpenSpec.ofChange rsThreeSpec)

/-- ITS FALSE NEIGHBOUR: 'it returns false'. Refute it at one input. -/
def rsThreeWrong : ChangeSpec := { name := "rsThree", fn := fun _ => fun
  | [d1, d2] => { results := [.lit (.bool false)], args := [d1, d2] }
  | _ => none }
def RsThreeWrongFalsely : Prop := rsThreeRow.holds Try.pinned (OpenSpec.ofChange rsThreeWrong)

/- THE SECOND FORM. 'bulk': how many values and letters a reading holds, each counted each time it is reached (what is shared counts as often as it is met; a slice's spare places count too). A statement '..UptoSaid' is the law's where the arguments, and the package variables that the reading takes, are together of bulk at most 1048576: NARROWER than '..Said'. Prove '..Said' where nothing that the law and all that it calls make is longer than what came in: it says more and counts as full. Else prove '..UptoSaid'. A law counts once. -/
mutual
def uptoBulk {H : Type} : DataW H → Nat
  | .lit (.string bytes) => bytes.length + 1
  | .lit _ => 1
  | .nil => 1
  | .ptr d => uptoBulk d + 1
  | .slice elems spare => uptoBulkAll elems + uptoBulkAll spare + 1
  | .agg parts => uptoBulkAll parts + 1
  | .iface _ d => uptoBulk d + 1
  | .map entries => uptoBulkEntries entries + 1
  | .held _ => 1
def uptoBulkAll {H : Type} : List (DataW H) → Nat
  | [] => 0
  | d :: r => uptoBulk d + uptoBulkAll r
def uptoBulkEntries {H : Type} : List (Lit × DataW H) → Nat
  | [] => 0
  | x :: r => uptoBulkEntry x + uptoBulkEntries r
def uptoBulkEntry {H : Type} : Lit × DataW H → Nat
  | (.string bytes, d) => bytes.length + uptoBulk d + 1
  | (_, d) => uptoBulk d + 1
 end
def uptoSmall : (H : Type) → List (DataW H) → Bool := fun _ ds => decide (uptoBulkAll ds ≤ 1048576)
def OpenSpec.upto (s : _root_.Go.ChangeSpec) : _root_.Go.OpenSpec := { _root_.Go.OpenSpec.ofChange s with cond := some uptoSmall }

/-- 'cofferdamlaw04.RsEncodes', WHERE WHAT IT READS IS OF BULK AT MOST 1048576: true; the input reads as it did. -/
def rsEncodesUptoRow : OpenClaim := { program := "ytikgipohjoiagaa", sum := "2c058d1e3cc37f208ea7eda514cf273fcc08c8f17a26f2fc323bdcc7d0d15dd2", func := "cofferdam/cofferdamlaw04.RsEncodes", spec := "rsEncodes", apart := false, narrowed := true }
def RsEncodesUptoSaid : Prop := rsEncodesUptoRow.holds Try.pinned (OpenSpec.upto rsEncodesSpec)

/-- 'cofferdamlaw04.RsChecks', WHERE WHAT IT READS IS OF BULK AT MOST 1048576: true; the input reads as it did. -/
def rsChecksUptoRow : OpenClaim := { program := "ytikgipohjoiagaa", sum := "2c058d1e3cc37f208ea7eda514cf273fcc08c8f17a26f2fc323bdcc7d0d15dd2", func := "cofferdam/cofferdamlaw04.RsChecks", spec := "rsChecks", apart := false, narrowed := true }
def RsChecksUptoSaid : Prop := rsChecksUptoRow.holds Try.pinned (OpenSpec.upto rsChecksSpec)

/-- 'cofferdamlaw04.RsOne', WHERE WHAT IT READS IS OF BULK AT MOST 1048576: true; the input reads as it did. -/
def rsOneUptoRow : OpenClaim := { program := "ytikgipohjoiagaa", sum := "2c058d1e3cc37f208ea7eda514cf273fcc08c8f17a26f2fc323bdcc7d0d15dd2", func := "cofferdam/cofferdamlaw04.RsOne", spec := "rsOne", apart := false, narrowed := true }
def RsOneUptoSaid : Prop := rsOneUptoRow.holds Try.pinned (OpenSpec.upto rsOneSpec)

/-- 'cofferdamlaw04.RsUpdates', WHERE WHAT IT READS IS OF BULK AT MOST 1048576: true; the input reads as it did. -/
def rsUpdatesUptoRow : OpenClaim := { program := "ytikgipohjoiagaa", sum := "2c058d1e3cc37f208ea7eda514cf273fcc08c8f17a26f2fc323bdcc7d0d15dd2", func := "cofferdam/cofferdamlaw04.RsUpdates", spec := "rsUpdates", apart := false, narrowed := true }
def RsUpdatesUptoSaid : Prop := rsUpdatesUptoRow.holds Try.pinned (OpenSpec.upto rsUpdatesSpec)

/-- 'cofferdamlaw04.RsDelta', WHERE WHAT IT READS IS OF BULK AT MOST 1048576: true; the input reads as it did. -/
def rsDeltaUptoRow : OpenClaim := { program := "ytikgipohjoiagaa", sum := "2c058d1e3cc37f208ea7eda514cf273fcc08c8f17a26f2fc323bdcc7d0d15dd2", func := "cofferdam/cofferdamlaw04.RsDelta", spec := "rsDelta", apart := false, narrowed := true }
def RsDeltaUptoSaid : Prop := rsDeltaUptoRow.holds Try.pinned (OpenSpec.upto rsDeltaSpec)

/-- 'cofferdamlaw04.RsDecodes', WHERE WHAT IT READS IS OF BULK AT MOST 1048576: true; the input reads as it did. -/
def rsDecodesUptoRow : OpenClaim := { program := "ytikgipohjoiagaa", sum := "2c058d1e3cc37f208ea7eda514cf273fcc08c8f17a26f2fc323bdcc7d0d15dd2", func := "cofferdam/cofferdamlaw04.RsDecodes", spec := "rsDecodes", unfollowed := true, recurses := true, apart := false, narrowed := true }
def RsDecodesUptoSaid : Prop := rsDecodesUptoRow.holds Try.pinned (OpenSpec.upto rsDecodesSpec)

/-- 'cofferdamlaw04.RsAnyTwo', WHERE WHAT IT READS IS OF BULK AT MOST 1048576: true; the input reads as it did. -/
def rsAnyTwoUptoRow : OpenClaim := { program := "ytikgipohjoiagaa", sum := "2c058d1e3cc37f208ea7eda514cf273fcc08c8f17a26f2fc323bdcc7d0d15dd2", func := "cofferdam/cofferdamlaw04.RsAnyTwo", spec := "rsAnyTwo", unfollowed := true, recurses := true, apart := false, narrowed := true }
def RsAnyTwoUptoSaid : Prop := rsAnyTwoUptoRow.holds Try.pinned (OpenSpec.upto rsAnyTwoSpec)

/-- 'cofferdamlaw04.RsThree', WHERE WHAT IT READS IS OF BULK AT MOST 1048576: true; the input reads as it did. -/
def rsThreeUptoRow : OpenClaim := { program := "ytikgipohjoiagaa", sum := "2c058d1e3cc37f208ea7eda514cf273fcc08c8f17a26f2fc323bdcc7d0d15dd2", func := "cofferdam/cofferdamlaw04.RsThree", spec := "rsThree", unfollowed := true, recurses := true, apart := false, narrowed := true }
def RsThreeUptoSaid : Prop := rsThreeUptoRow.holds Try.pinned (OpenSpec.upto rsThreeSpec)

end Rows
end Go.Proofs.Ytikgipohjoiagaa
