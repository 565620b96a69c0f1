/-
  No cell of these rows narrows 'for every input' (looked for: loops, veiled, ifaces, maps, wideKeys, modest, calm, conditions, laid).
  DERIVED. THE GIVEN ROWS OF THIS SEAT. 8 by the template 'for every input the law returns true; each argument reads behind the call as it read before'; 0 by the template 'total and deterministic' (their statements: YtdigooncdjnfbaaTotals.lean).
  GIVEN WITH THE SEED: the statements are not yours to turn. If you find one false, say at which input.
  Laid BY PROGRAM, IN A SANDBOX (cutbox-rows.mjs): the forced cells as the released guide's own fill.sh prints them over the translation 2340566b2d5dd67e… (all of the seat's roots in one cut). By AI agents, Wed Nov 11 2026. No macro, syntax, notation, axiom, sorry.
-/
import Derived.Test.YtdigooncdjnfbaaChecked
import GoSem.Claim
import GoSem.ClaimJoined
import GoSem.ClaimMapViews
import Derived.JoinedTies
import Derived.KernelRfl
namespace Go.Proofs.Ytdigooncdjnfbaa
/- THE CELL 'sum', in the pinned program and in every row, IS THE sha256 OF THE DUMP (.gsa) THAT YtdigooncdjnfbaaProg.lean LOADS. Nothing in Lean hashes anything: it is a label: what it is worth is what the hold of that sum in a sandbox is worth. -/
noncomputable def Try.pinned : Pinned := { name := "ytdigooncdjnfbaa", sum := "2340566b2d5dd67ec90ff69235021e5d863f3275506e35822e501a5d3a0a9e9d", checked := Try.checked }
namespace Rows
def none {H : Type} : Left H := { results := [], args := [] }

/-- 'dormouselaw01.OctetsGets': WHATEVER THE INPUT: true; the input reads as it did. -/
def octetsGetsSpec : ChangeSpec := { name := "octetsGets", fn := fun _ => fun
  | [d1, d2, d3] => { results := [.lit (.bool true)], args := [d1, d2, d3] }
  | _ => none }
def octetsGetsRow : OpenClaim := { program := "ytdigooncdjnfbaa", sum := "2340566b2d5dd67ec90ff69235021e5d863f3275506e35822e501a5d3a0a9e9d", func := "dormouse/dormouselaw01.OctetsGets", spec := "octetsGets", apart := false }
def OctetsGetsSaid : Prop := octetsGetsRow.holds Try.pinned (OpenSpec.ofChange octetsGetsSpec)

/-- ITS FALSE NEIGHBOUR: 'it returns false'. Refute it at one input. -/
def octetsGetsWrong : ChangeSpec := { name := "octetsGets", fn := fun _ => fun
  | [d1, d2, d3] => { results := [.lit (.bool false)], args := [d1, d2, d3] }
  | _ => none }
def OctetsGetsWrongFalsely : Prop := octetsGetsRow.holds Try.pinned (OpenSpec.ofChange octetsGetsWrong)

/-- 'dormouselaw01.OctetsSets': WHATEVER THE INPUT: true; the input reads as it did. -/
def octetsSetsSpec : ChangeSpec := { name := "octetsSets", fn := fun _ => fun
  | [d1, d2, d3, d4] => { results := [.lit (.bool true)], args := [d1, d2, d3, d4] }
  | _ => none }
def octetsSetsRow : OpenClaim := { program := "ytdigooncdjnfbaa", sum := "2340566b2d5dd67ec90ff69235021e5d863f3275506e35822e501a5d3a0a9e9d", func := "dormouse/dormouselaw01.OctetsSets", spec := "octetsSets", apart := false }
def OctetsSetsSaid : Prop := octetsSetsRow.holds Try.pinned (OpenSpec.ofChange octetsSetsSpec)

/-- ITS FALSE NEIGHBOUR: 'it returns false'. Refute it at one input. -/
def octetsSetsWrong : ChangeSpec := { name := "octetsSets", fn := fun _ => fun
  | [d1, d2, d3, d4] => { results := [.lit (.bool false)], args := [d1, d2, d3, d4] }
  | _ => none }
def OctetsSetsWrongFalsely : Prop := octetsSetsRow.holds Try.pinned (OpenSpec.ofChange octetsSetsWrong)

/-- 'dormouselaw01.OctetsCuts': WHATEVER THE INPUT: true; the input reads as it did. -/
def octetsCutsSpec : ChangeSpec := { name := "octetsCuts", fn := fun _ => fun
  | [d1, d2, d3] => { results := [.lit (.bool true)], args := [d1, d2, d3] }
  | _ => none }
def octetsCutsRow : OpenClaim := { program := "ytdigooncdjnfbaa", sum := "2340566b2d5dd67ec90ff69235021e5d863f3275506e35822e501a5d3a0a9e9d", func := "dormouse/dormouselaw01.OctetsCuts", spec := "octetsCuts", apart := false }
def OctetsCutsSaid : Prop := octetsCutsRow.holds Try.pinned (OpenSpec.ofChange octetsCutsSpec)

/-- ITS FALSE NEIGHBOUR: 'it returns false'. Refute it at one input. -/
def octetsCutsWrong : ChangeSpec := { name := "octetsCuts", fn := fun _ => fun
  | [d1, d2, d3] => { results := [.lit (.bool false)], args := [d1, d2, d3] }
  | _ => none }
def OctetsCutsWrongFalsely : Prop := octetsCutsRow.holds Try.pinned (OpenSpec.ofChange octetsCutsWrong)

/-- 'dormouselaw01.OctetsRounds': WHATEVER THE INPUT: true; the input reads as it did. -/
def octetsRoundsSpec : ChangeSpec := { name := "octetsRounds", fn := fun _ => fun
  | [d1, d2] => { results := [.lit (.bool true)], args := [d1, d2] }
  | _ => none }
def octetsRoundsRow : OpenClaim := { program := "ytdigooncdjnfbaa", sum := "2340566b2d5dd67ec90ff69235021e5d863f3275506e35822e501a5d3a0a9e9d", func := "dormouse/dormouselaw01.OctetsRounds", spec := "octetsRounds", apart := false }
def OctetsRoundsSaid : Prop := octetsRoundsRow.holds Try.pinned (OpenSpec.ofChange octetsRoundsSpec)

/-- ITS FALSE NEIGHBOUR: 'it returns false'. Refute it at one input. -/
def octetsRoundsWrong : ChangeSpec := { name := "octetsRounds", fn := fun _ => fun
  | [d1, d2] => { results := [.lit (.bool false)], args := [d1, d2] }
  | _ => none }
def OctetsRoundsWrongFalsely : Prop := octetsRoundsRow.holds Try.pinned (OpenSpec.ofChange octetsRoundsWrong)

/-- 'dormouselaw01.OctetsMeets': WHATEVER THE INPUT: true; the input reads as it did. -/
def octetsMeetsSpec : ChangeSpec := { name := "octetsMeets", fn := fun _ => fun
  | [d1, d2, d3, d4] => { results := [.lit (.bool true)], args := [d1, d2, d3, d4] }
  | _ => none }
def octetsMeetsRow : OpenClaim := { program := "ytdigooncdjnfbaa", sum := "2340566b2d5dd67ec90ff69235021e5d863f3275506e35822e501a5d3a0a9e9d", func := "dormouse/dormouselaw01.OctetsMeets", spec := "octetsMeets", apart := false }
def OctetsMeetsSaid : Prop := octetsMeetsRow.holds Try.pinned (OpenSpec.ofChange octetsMeetsSpec)

/-- ITS FALSE NEIGHBOUR: 'it returns false'. Refute it at one input. -/
def octetsMeetsWrong : ChangeSpec := { name := "octetsMeets", fn := fun _ => fun
  | [d1, d2, d3, d4] => { results := [.lit (.bool false)], args := [d1, d2, d3, d4] }
  | _ => none }
def OctetsMeetsWrongFalsely : Prop := octetsMeetsRow.holds Try.pinned (OpenSpec.ofChange octetsMeetsWrong)

/-- 'dormouselaw01.OctetsBack': WHATEVER THE INPUT: true; the input reads as it did. -/
def octetsBackSpec : ChangeSpec := { name := "octetsBack", fn := fun _ => fun
  | [d1, d2, d3, d4] => { results := [.lit (.bool true)], args := [d1, d2, d3, d4] }
  | _ => none }
def octetsBackRow : OpenClaim := { program := "ytdigooncdjnfbaa", sum := "2340566b2d5dd67ec90ff69235021e5d863f3275506e35822e501a5d3a0a9e9d", func := "dormouse/dormouselaw01.OctetsBack", spec := "octetsBack", apart := false }
def OctetsBackSaid : Prop := octetsBackRow.holds Try.pinned (OpenSpec.ofChange octetsBackSpec)

/-- ITS FALSE NEIGHBOUR: 'it returns false'. Refute it at one input. -/
def octetsBackWrong : ChangeSpec := { name := "octetsBack", fn := fun _ => fun
  | [d1, d2, d3, d4] => { results := [.lit (.bool false)], args := [d1, d2, d3, d4] }
  | _ => none }
def OctetsBackWrongFalsely : Prop := octetsBackRow.holds Try.pinned (OpenSpec.ofChange octetsBackWrong)

/-- 'dormouselaw01.OctetsParts': WHATEVER THE INPUT: true; the input reads as it did. -/
def octetsPartsSpec : ChangeSpec := { name := "octetsParts", fn := fun _ => fun
  | [d] => { results := [.lit (.bool true)], args := [d] }
  | _ => none }
def octetsPartsRow : OpenClaim := { program := "ytdigooncdjnfbaa", sum := "2340566b2d5dd67ec90ff69235021e5d863f3275506e35822e501a5d3a0a9e9d", func := "dormouse/dormouselaw01.OctetsParts", spec := "octetsParts", apart := false }
def OctetsPartsSaid : Prop := octetsPartsRow.holds Try.pinned (OpenSpec.ofChange octetsPartsSpec)

/-- ITS FALSE NEIGHBOUR: 'it returns false'. Refute it at one input. -/
def octetsPartsWrong : ChangeSpec := { name := "octetsParts", fn := fun _ => fun
  | [d] => { results := [.lit (.bool false)], args := [d] }
  | _ => none }
def OctetsPartsWrongFalsely : Prop := octetsPartsRow.holds Try.pinned (OpenSpec.ofChange octetsPartsWrong)

/-- 'dormouselaw01.OctetsEnds': WHATEVER THE INPUT: true; the input reads as it did. -/
def octetsEndsSpec : ChangeSpec := { name := "octetsEnds", fn := fun _ => fun
  | [d1, d2] => { results := [.lit (.bool true)], args := [d1, d2] }
  | _ => none }
def octetsEndsRow : OpenClaim := { program := "ytdigooncdjnfbaa", sum := "2340566b2d5dd67ec90ff69235021e5d863f3275506e35822e501a5d3a0a9e9d", func := "dormouse/dormouselaw01.OctetsEnds", spec := "octetsEnds", apart := false }
def OctetsEndsSaid : Prop := octetsEndsRow.holds Try.pinned (OpenSpec.ofChange octetsEndsSpec)

/-- ITS FALSE NEIGHBOUR: 'it returns false'. Refute it at one input. -/
def octetsEndsWrong : ChangeSpec := { name := "octetsEnds", fn := fun _ => fun
  | [d1, d2] => { results := [.lit (.bool false)], args := [d1, d2] }
  | _ => none }
def OctetsEndsWrongFalsely : Prop := octetsEndsRow.holds Try.pinned (OpenSpec.ofChange octetsEndsWrong)

/- THE SECOND FORM. 'bulk': how many values and letters a reading holds, each counted each time it is reached (what is shared counts as often as it is met; a slice's spare places count too). A statement '..UptoSaid' is the law's where the arguments, and the package variables that the reading takes, are together of bulk at most 1048576: NARROWER than '..Said'. Prove '..Said' where nothing that the law and all that it calls make is longer than what came in: it says more and counts as full. Else prove '..UptoSaid'. A law counts once. -/
mutual
def uptoBulk {H : Type} : DataW H → Nat
  | .lit (.string bytes) => bytes.length + 1
  | .lit _ => 1
  | .nil => 1
  | .ptr d => uptoBulk d + 1
  | .slice elems spare => uptoBulkAll elems + uptoBulkAll spare + 1
  | .agg parts => uptoBulkAll parts + 1
  | .iface _ d => uptoBulk d + 1
  | .map entries => uptoBulkEntries entries + 1
  | .held _ => 1
def uptoBulkAll {H : Type} : List (DataW H) → Nat
  | [] => 0
  | d :: r => uptoBulk d + uptoBulkAll r
def uptoBulkEntries {H : Type} : List (Lit × DataW H) → Nat
  | [] => 0
  | x :: r => uptoBulkEntry x + uptoBulkEntries r
def uptoBulkEntry {H : Type} : Lit × DataW H → Nat
  | (.string bytes, d) => bytes.length + uptoBulk d + 1
  | (_, d) => uptoBulk d + 1
 end
def uptoSmall : (H : Type) → List (DataW H) → Bool := fun _ ds => decide (uptoBulkAll ds ≤ 1048576)
def OpenSpec.upto (s : _root_.Go.ChangeSpec) : _root_.Go.OpenSpec := { _root_.Go.OpenSpec.ofChange s with cond := some uptoSmall }

/-- 'dormouselaw01.OctetsGets', WHERE WHAT IT READS IS OF BULK AT MOST 1048576: true; the input reads as it did. -/
def octetsGetsUptoRow : OpenClaim := { program := "ytdigooncdjnfbaa", sum := "2340566b2d5dd67ec90ff69235021e5d863f3275506e35822e501a5d3a0a9e9d", func := "dormouse/dormouselaw01.OctetsGets", spec := "octetsGets", apart := false, narrowed := true }
def OctetsGetsUptoSaid : Prop := octetsGetsUptoRow.holds Try.pinned (OpenSpec.upto octetsGetsSpec)

/-- 'dormouselaw01.OctetsSets', WHERE WHAT IT READS IS OF BULK AT MOST 1048576: true; the input reads as it did. -/
def octetsSetsUptoRow : OpenClaim := { program := "ytdigooncdjnfbaa", sum := "2340566b2d5dd67ec90ff69235021e5d863f3275506e35822e501a5d3a0a9e9d", func := "dormouse/dormouselaw01.OctetsSets", spec := "octetsSets", apart := false, narrowed := true }
def OctetsSetsUptoSaid : Prop := octetsSetsUptoRow.holds Try.pinned (OpenSpec.upto octetsSetsSpec)

/-- 'dormouselaw01.OctetsCuts', WHERE WHAT IT READS IS OF BULK AT MOST 1048576: true; the input reads as it did. -/
def octetsCutsUptoRow : OpenClaim := { program := "ytdigooncdjnfbaa", sum := "2340566b2d5dd67ec90ff69235021e5d863f3275506e35822e501a5d3a0a9e9d", func := "dormouse/dormouselaw01.OctetsCuts", spec := "octetsCuts", apart := false, narrowed := true }
def OctetsCutsUptoSaid : Prop := octetsCutsUptoRow.holds Try.pinned (OpenSpec.upto octetsCutsSpec)

/-- 'dormouselaw01.OctetsRounds', WHERE WHAT IT READS IS OF BULK AT MOST 1048576: true; the input reads as it did. -/
def octetsRoundsUptoRow : OpenClaim := { program := "ytdigooncdjnfbaa", sum := "2340566b2d5dd67ec90ff69235021e5d863f3275506e35822e501a5d3a0a9e9d", func := "dormouse/dormouselaw01.OctetsRounds", spec := "octetsRounds", apart := false, narrowed := true }
def OctetsRoundsUptoSaid : Prop := octetsRoundsUptoRow.holds Try.pinned (OpenSpec.upto octetsRoundsSpec)

/-- 'dormouselaw01.OctetsMeets', WHERE WHAT IT READS IS OF BULK AT MOST 1048576: true; the input reads as it did. -/
def octetsMeetsUptoRow : OpenClaim := { program := "ytdigooncdjnfbaa", sum := "2340566b2d5dd67ec90ff69235021e5d863f3275506e35822e501a5d3a0a9e9d", func := "dormouse/dormouselaw01.OctetsMeets", spec := "octetsMeets", apart := false, narrowed := true }
def OctetsMeetsUptoSaid : Prop := octetsMeetsUptoRow.holds Try.pinned (OpenSpec.upto octetsMeetsSpec)

/-- 'dormouselaw01.OctetsBack', WHERE WHAT IT READS IS OF BULK AT MOST 1048576: true; the input reads as it did. -/
def octetsBackUptoRow : OpenClaim := { program := "ytdigooncdjnfbaa", sum := "2340566b2d5dd67ec90ff69235021e5d863f3275506e35822e501a5d3a0a9e9d", func := "dormouse/dormouselaw01.OctetsBack", spec := "octetsBack", apart := false, narrowed := true }
def OctetsBackUptoSaid : Prop := octetsBackUptoRow.holds Try.pinned (OpenSpec.upto octetsBackSpec)

/-- 'dormouselaw01.OctetsParts', WHERE WHAT IT READS IS OF BULK AT MOST 1048576: true; the input reads as it did. -/
def octetsPartsUptoRow : OpenClaim := { program := "ytdigooncdjnfbaa", sum := "2340566b2d5dd67ec90ff69235021e5d863f3275506e35822e501a5d3a0a9e9d", func := "dormouse/dormouselaw01.OctetsParts", spec := "octetsParts", apart := false, narrowed := true }
def OctetsPartsUptoSaid : Prop := octetsPartsUptoRow.holds Try.pinned (OpenSpec.upto octetsPartsSpec)

/-- 'dormouselaw01.OctetsEnds', WHERE WHAT IT READS IS OF BULK AT MOST 1048576: true; the input reads as it did. -/
def octetsEndsUptoRow : OpenClaim := { program := "ytdigooncdjnfbaa", sum := "2340566b2d5dd67ec90ff69235021e5d863f3275506e35822e501a5d3a0a9e9d", func := "dormouse/dormouselaw01.OctetsEnds", spec := "octetsEnds", apart := false, narrowed := true }
def OctetsEndsUptoSaid : Prop := octetsEndsUptoRow.holds Try.pinned (OpenSpec.upto octetsEndsSpec)

end Rows
end Go.Proofs.Ytdigooncdjnfbaa
