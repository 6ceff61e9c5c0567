/-
  No cell of these rows narrows 'for every input' (looked for: loops, veiled, ifaces, maps, wideKeys, modest, calm, conditions, laid).
  DERIVED. THE GIVEN ROWS OF THIS SEAT. 8 by the template 'for every input the law returns true; each argument reads behind the call as it read before'; 0 by the template 'total and deterministic' (their statements: YtfdmakihobhhnaaTotals.lean).
  GIVEN WITH THE SEED: the statements are not yours to turn. If you find one false, say at which input.
  Laid BY PROGRAM, IN A SANDBOX (cutbox-rows.mjs): the forced cells as the released guide's own fill.sh prints them over the translation 3cd32b6510079311… (all of the seat's roots in one cut). By AI agents, Wed Nov 11 2026. No macro, syntax, notation, axiom, sorry.
-/
import Derived.Test.YtfdmakihobhhnaaChecked
import GoSem.Claim
import GoSem.ClaimJoined
import GoSem.ClaimMapViews
import Derived.JoinedTies
import Derived.KernelRfl
namespace Go.Proofs.Ytfdmakihobhhnaa
/- THE CELL 'sum', in the pinned program and in every row, IS THE sha256 OF THE DUMP (.gsa) THAT YtfdmakihobhhnaaProg.lean LOADS. Nothing in Lean hashes anything: it is a label: what it is worth is what the hold of that sum in a sandbox is worth. -/
noncomputable def Try.pinned : Pinned := { name := "ytfdmakihobhhnaa", sum := "3cd32b65100793117690c68d318eb64f4d18b2403b211ccff60bd0904760a124", checked := Try.checked }
namespace Rows
def none {H : Type} : Left H := { results := [], args := [] }

/-- 'cofferdamlaw02.GfAdds': WHATEVER THE INPUT: true; the input reads as it did. -/
def gfAddsSpec : ChangeSpec := { name := "gfAdds", fn := fun _ => fun
  | [d1, d2] => { results := [.lit (.bool true)], args := [d1, d2] }
  | _ => none }
def gfAddsRow : OpenClaim := { program := "ytfdmakihobhhnaa", sum := "3cd32b65100793117690c68d318eb64f4d18b2403b211ccff60bd0904760a124", func := "cofferdam/cofferdamlaw02.GfAdds", spec := "gfAdds", apart := false }
def GfAddsSaid : Prop := gfAddsRow.holds Try.pinned (OpenSpec.ofChange gfAddsSpec)

/-- ITS FALSE NEIGHBOUR: 'it returns false'. Refute it at one input. -/
def gfAddsWrong : ChangeSpec := { name := "gfAdds", fn := fun _ => fun
  | [d1, d2] => { results := [.lit (.bool false)], args := [d1, d2] }
  | _ => none }
def GfAddsWrongFalsely : Prop := gfAddsRow.holds Try.pinned (OpenSpec.ofChange gfAddsWrong)

/-- 'cofferdamlaw02.GfPowers': WHATEVER THE INPUT: true; the input reads as it did. -/
def gfPowersSpec : ChangeSpec := { name := "gfPowers", fn := fun _ => fun
  | [d1, d2] => { results := [.lit (.bool true)], args := [d1, d2] }
  | _ => none }
def gfPowersRow : OpenClaim := { program := "ytfdmakihobhhnaa", sum := "3cd32b65100793117690c68d318eb64f4d18b2403b211ccff60bd0904760a124", func := "cofferdam/cofferdamlaw02.GfPowers", spec := "gfPowers", apart := false }
def GfPowersSaid : Prop := gfPowersRow.holds Try.pinned (OpenSpec.ofChange gfPowersSpec)

/-- ITS FALSE NEIGHBOUR: 'it returns false'. Refute it at one input. -/
def gfPowersWrong : ChangeSpec := { name := "gfPowers", fn := fun _ => fun
  | [d1, d2] => { results := [.lit (.bool false)], args := [d1, d2] }
  | _ => none }
def GfPowersWrongFalsely : Prop := gfPowersRow.holds Try.pinned (OpenSpec.ofChange gfPowersWrong)

/-- 'cofferdamlaw02.GfInverts': WHATEVER THE INPUT: true; the input reads as it did. -/
def gfInvertsSpec : ChangeSpec := { name := "gfInverts", fn := fun _ => fun
  | [d] => { results := [.lit (.bool true)], args := [d] }
  | _ => none }
def gfInvertsRow : OpenClaim := { program := "ytfdmakihobhhnaa", sum := "3cd32b65100793117690c68d318eb64f4d18b2403b211ccff60bd0904760a124", func := "cofferdam/cofferdamlaw02.GfInverts", spec := "gfInverts", apart := false }
def GfInvertsSaid : Prop := gfInvertsRow.holds Try.pinned (OpenSpec.ofChange gfInvertsSpec)

/-- ITS FALSE NEIGHBOUR: 'it returns false'. Refute it at one input. -/
def gfInvertsWrong : ChangeSpec := { name := "gfInverts", fn := fun _ => fun
  | [d] => { results := [.lit (.bool false)], args := [d] }
  | _ => none }
def GfInvertsWrongFalsely : Prop := gfInvertsRow.holds Try.pinned (OpenSpec.ofChange gfInvertsWrong)

/-- 'cofferdamlaw02.GfField': WHATEVER THE INPUT: true; the input reads as it did. -/
def gfFieldSpec : ChangeSpec := { name := "gfField", fn := fun _ => fun
  | [d1, d2, d3] => { results := [.lit (.bool true)], args := [d1, d2, d3] }
  | _ => none }
def gfFieldRow : OpenClaim := { program := "ytfdmakihobhhnaa", sum := "3cd32b65100793117690c68d318eb64f4d18b2403b211ccff60bd0904760a124", func := "cofferdam/cofferdamlaw02.GfField", spec := "gfField", unfollowed := true, recurses := true, apart := false }
def GfFieldSaid : Prop := gfFieldRow.holds Try.pinned (OpenSpec.ofChange gfFieldSpec)

/-- ITS FALSE NEIGHBOUR: 'it returns false'. Refute it at one input. -/
def gfFieldWrong : ChangeSpec := { name := "gfField", fn := fun _ => fun
  | [d1, d2, d3] => { results := [.lit (.bool false)], args := [d1, d2, d3] }
  | _ => none }
def GfFieldWrongFalsely : Prop := gfFieldRow.holds Try.pinned (OpenSpec.ofChange gfFieldWrong)

/-- 'cofferdamlaw02.GfScales': WHATEVER THE INPUT: true; the input reads as it did. -/
def gfScalesSpec : ChangeSpec := { name := "gfScales", fn := fun _ => fun
  | [d1, d2] => { results := [.lit (.bool true)], args := [d1, d2] }
  | _ => none }
def gfScalesRow : OpenClaim := { program := "ytfdmakihobhhnaa", sum := "3cd32b65100793117690c68d318eb64f4d18b2403b211ccff60bd0904760a124", func := "cofferdam/cofferdamlaw02.GfScales", spec := "gfScales", apart := false }
def GfScalesSaid : Prop := gfScalesRow.holds Try.pinned (OpenSpec.ofChange gfScalesSpec)

/-- ITS FALSE NEIGHBOUR: 'it returns false'. Refute it at one input. -/
def gfScalesWrong : ChangeSpec := { name := "gfScales", fn := fun _ => fun
  | [d1, d2] => { results := [.lit (.bool false)], args := [d1, d2] }
  | _ => none }
def GfScalesWrongFalsely : Prop := gfScalesRow.holds Try.pinned (OpenSpec.ofChange gfScalesWrong)

/-- 'cofferdamlaw02.GfGenerates': WHATEVER THE INPUT: true; the input reads as it did. -/
def gfGeneratesSpec : ChangeSpec := { name := "gfGenerates", fn := fun _ => fun
  | [d] => { results := [.lit (.bool true)], args := [d] }
  | _ => none }
def gfGeneratesRow : OpenClaim := { program := "ytfdmakihobhhnaa", sum := "3cd32b65100793117690c68d318eb64f4d18b2403b211ccff60bd0904760a124", func := "cofferdam/cofferdamlaw02.GfGenerates", spec := "gfGenerates", apart := false }
def GfGeneratesSaid : Prop := gfGeneratesRow.holds Try.pinned (OpenSpec.ofChange gfGeneratesSpec)

/-- ITS FALSE NEIGHBOUR: 'it returns false'. Refute it at one input. -/
def gfGeneratesWrong : ChangeSpec := { name := "gfGenerates", fn := fun _ => fun
  | [d] => { results := [.lit (.bool false)], args := [d] }
  | _ => none }
def GfGeneratesWrongFalsely : Prop := gfGeneratesRow.holds Try.pinned (OpenSpec.ofChange gfGeneratesWrong)

/-- 'cofferdamlaw02.GfExponents': WHATEVER THE INPUT: true; the input reads as it did. -/
def gfExponentsSpec : ChangeSpec := { name := "gfExponents", fn := fun _ => fun
  | [d1, d2, d3] => { results := [.lit (.bool true)], args := [d1, d2, d3] }
  | _ => none }
def gfExponentsRow : OpenClaim := { program := "ytfdmakihobhhnaa", sum := "3cd32b65100793117690c68d318eb64f4d18b2403b211ccff60bd0904760a124", func := "cofferdam/cofferdamlaw02.GfExponents", spec := "gfExponents", apart := false }
def GfExponentsSaid : Prop := gfExponentsRow.holds Try.pinned (OpenSpec.ofChange gfExponentsSpec)

/-- ITS FALSE NEIGHBOUR: 'it returns false'. Refute it at one input. -/
def gfExponentsWrong : ChangeSpec := { name := "gfExponents", fn := fun _ => fun
  | [d1, d2, d3] => { results := [.lit (.bool false)], args := [d1, d2, d3] }
  | _ => none }
def GfExponentsWrongFalsely : Prop := gfExponentsRow.holds Try.pinned (OpenSpec.ofChange gfExponentsWrong)

/-- 'cofferdamlaw02.GfTables': WHATEVER THE INPUT: true; the input reads as it did. -/
def gfTablesSpec : ChangeSpec := { name := "gfTables", fn := fun _ => fun
  | [d1, d2, d3] => { results := [.lit (.bool true)], args := [d1, d2, d3] }
  | _ => none }
def gfTablesRow : OpenClaim := { program := "ytfdmakihobhhnaa", sum := "3cd32b65100793117690c68d318eb64f4d18b2403b211ccff60bd0904760a124", func := "cofferdam/cofferdamlaw02.GfTables", spec := "gfTables", apart := false }
def GfTablesSaid : Prop := gfTablesRow.holds Try.pinned (OpenSpec.ofChange gfTablesSpec)

/-- ITS FALSE NEIGHBOUR: 'it returns false'. Refute it at one input. -/
def gfTablesWrong : ChangeSpec := { name := "gfTables", fn := fun _ => fun
  | [d1, d2, d3] => { results := [.lit (.bool false)], args := [d1, d2, d3] }
  | _ => none }
def GfTablesWrongFalsely : Prop := gfTablesRow.holds Try.pinned (OpenSpec.ofChange gfTablesWrong)

/- THE SECOND FORM. 'bulk': how many values and letters a reading holds, each counted each time it is reached (what is shared counts as often as it is met; a slice's spare places count too). A statement '..UptoSaid' is the law's where the arguments, and the package variables that the reading takes, are together of bulk at most 1048576: NARROWER than '..Said'. Prove '..Said' where nothing that the law and all that it calls make is longer than what came in: it says more and counts as full. Else prove '..UptoSaid'. A law counts once. -/
mutual
def uptoBulk {H : Type} : DataW H → Nat
  | .lit (.string bytes) => bytes.length + 1
  | .lit _ => 1
  | .nil => 1
  | .ptr d => uptoBulk d + 1
  | .slice elems spare => uptoBulkAll elems + uptoBulkAll spare + 1
  | .agg parts => uptoBulkAll parts + 1
  | .iface _ d => uptoBulk d + 1
  | .map entries => uptoBulkEntries entries + 1
  | .held _ => 1
def uptoBulkAll {H : Type} : List (DataW H) → Nat
  | [] => 0
  | d :: r => uptoBulk d + uptoBulkAll r
def uptoBulkEntries {H : Type} : List (Lit × DataW H) → Nat
  | [] => 0
  | x :: r => uptoBulkEntry x + uptoBulkEntries r
def uptoBulkEntry {H : Type} : Lit × DataW H → Nat
  | (.string bytes, d) => bytes.length + uptoBulk d + 1
  | (_, d) => uptoBulk d + 1
 end
def uptoSmall : (H : Type) → List (DataW H) → Bool := fun _ ds => decide (uptoBulkAll ds ≤ 1048576)
def OpenSpec.upto (s : _root_.Go.ChangeSpec) : _root_.Go.OpenSpec := { _root_.Go.OpenSpec.ofChange s with cond := some uptoSmall }

/-- 'cofferdamlaw02.GfAdds', WHERE WHAT IT READS IS OF BULK AT MOST 1048576: true; the input reads as it did. -/
def gfAddsUptoRow : OpenClaim := { program := "ytfdmakihobhhnaa", sum := "3cd32b65100793117690c68d318eb64f4d18b2403b211ccff60bd0904760a124", func := "cofferdam/cofferdamlaw02.GfAdds", spec := "gfAdds", apart := false, narrowed := true }
def GfAddsUptoSaid : Prop := gfAddsUptoRow.holds Try.pinned (OpenSpec.upto gfAddsSpec)

/-- 'cofferdamlaw02.GfPowers', WHERE WHAT IT READS IS OF BULK AT MOST 1048576: true; the input reads as it did. -/
def gfPowersUptoRow : OpenClaim := { program := "ytfdmakihobhhnaa", sum := "3cd32b65100793117690c68d318eb64f4d18b2403b211ccff60bd0904760a124", func := "cofferdam/cofferdamlaw02.GfPowers", spec := "gfPowers", apart := false, narrowed := true }
def GfPowersUptoSaid : Prop := gfPowersUptoRow.holds Try.pinned (OpenSpec.upto gfPowersSpec)

/-- 'cofferdamlaw02.GfInverts', WHERE WHAT IT READS IS OF BULK AT MOST 1048576: true; the input reads as it did. -/
def gfInvertsUptoRow : OpenClaim := { program := "ytfdmakihobhhnaa", sum := "3cd32b65100793117690c68d318eb64f4d18b2403b211ccff60bd0904760a124", func := "cofferdam/cofferdamlaw02.GfInverts", spec := "gfInverts", apart := false, narrowed := true }
def GfInvertsUptoSaid : Prop := gfInvertsUptoRow.holds Try.pinned (OpenSpec.upto gfInvertsSpec)

/-- 'cofferdamlaw02.GfField', WHERE WHAT IT READS IS OF BULK AT MOST 1048576: true; the input reads as it did. -/
def gfFieldUptoRow : OpenClaim := { program := "ytfdmakihobhhnaa", sum := "3cd32b65100793117690c68d318eb64f4d18b2403b211ccff60bd0904760a124", func := "cofferdam/cofferdamlaw02.GfField", spec := "gfField", unfollowed := true, recurses := true, apart := false, narrowed := true }
def GfFieldUptoSaid : Prop := gfFieldUptoRow.holds Try.pinned (OpenSpec.upto gfFieldSpec)

/-- 'cofferdamlaw02.GfScales', WHERE WHAT IT READS IS OF BULK AT MOST 1048576: true; the input reads as it did. -/
def gfScalesUptoRow : OpenClaim := { program := "ytfdmakihobhhnaa", sum := "3cd32b65100793117690c68d318eb64f4d18b2403b211ccff60bd0904760a124", func := "cofferdam/cofferdamlaw02.GfScales", spec := "gfScales", apart := false, narrowed := true }
def GfScalesUptoSaid : Prop := gfScalesUptoRow.holds Try.pinned (OpenSpec.upto gfScalesSpec)

/-- 'cofferdamlaw02.GfGenerates', WHERE WHAT IT READS IS OF BULK AT MOST 1048576: true; the input reads as it did. -/
def gfGeneratesUptoRow : OpenClaim := { program := "ytfdmakihobhhnaa", sum := "3cd32b65100793117690c68d318eb64f4d18b2403b211ccff60bd0904760a124", func := "cofferdam/cofferdamlaw02.GfGenerates", spec := "gfGenerates", apart := false, narrowed := true }
def GfGeneratesUptoSaid : Prop := gfGeneratesUptoRow.holds Try.pinned (OpenSpec.upto gfGeneratesSpec)

/-- 'cofferdamlaw02.GfExponents', WHERE WHAT IT READS IS OF BULK AT MOST 1048576: true; the input reads as it did. -/
def gfExponentsUptoRow : OpenClaim := { program := "ytfdmakihobhhnaa", sum := "3cd32b65100793117690c68d318eb64f4d18b2403b211ccff60bd0904760a124", func := "cofferdam/cofferdamlaw02.GfExponents", spec := "gfExponents", apart := false, narrowed := true }
def GfExponentsUptoSaid : Prop := gfExponentsUptoRow.holds Try.pinned (OpenSpec.upto gfExponentsSpec)

/-- 'cofferdamlaw02.GfTables', WHERE WHAT IT READS IS OF BULK AT MOST 1048576: true; the input reads as it did. -/
def gfTablesUptoRow : OpenClaim := { program := "ytfdmakihobhhnaa", sum := "3cd32b65100793117690c68d318eb64f4d18b2403b211ccff60bd0904760a124", func := "cofferdam/cofferdamlaw02.GfTables", spec := "gfTables", apart := false, narrowed := true }
def GfTablesUptoSaid : Prop := gfTablesUptoRow.holds Try.pinned (OpenSpec.upto gfTablesSpec)

end Rows
end Go.Proofs.Ytfdmakihobhhnaa
