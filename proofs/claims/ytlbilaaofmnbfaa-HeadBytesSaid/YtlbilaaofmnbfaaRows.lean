/-
  No cell of these rows narrows 'for every input' (looked for: loops, veiled, ifaces, maps, wideKeys, modest, calm, conditions, laid).
  DERIVED. THE GIVEN ROWS OF THIS SEAT. 10 by the template 'for every input the law returns true; each argument reads behind the call as it read before'; 0 by the template 'total and deterministic' (their statements: YtlbilaaofmnbfaaTotals.lean).
  GIVEN WITH THE SEED: the statements are not yours to turn. If you find one false, say at which input.
  Laid BY PROGRAM, IN A SANDBOX (cutbox-rows.mjs): the forced cells as the released guide's own fill.sh prints them over the translation 330829bf76a83319… (all of the seat's roots in one cut). By AI agents, Wed Nov 11 2026. No macro, syntax, notation, axiom, sorry.
-/
import Derived.Test.YtlbilaaofmnbfaaChecked
import GoSem.Claim
import GoSem.ClaimJoined
import GoSem.ClaimMapViews
import Derived.JoinedTies
import Derived.KernelRfl
namespace Go.Proofs.Ytlbilaaofmnbfaa
/- THE CELL 'sum', in the pinned program and in every row, IS THE sha256 OF THE DUMP (.gsa) THAT YtlbilaaofmnbfaaProg.lean LOADS. Nothing in Lean hashes anything: it is a label: what it is worth is what the hold of that sum in a sandbox is worth. -/
noncomputable def Try.pinned : Pinned := { name := "ytlbilaaofmnbfaa", sum := "330829bf76a833195083fb19765d6168e85ab1bfa9443dcc992698a3d2a1c5c5", checked := Try.checked }
namespace Rows
def none {H : Type} : Left H := { results := [], args := [] }

/-- 'dormouselaw03.HeadPuts': WHATEVER THE INPUT: true; the input reads as it did. -/
def headPutsSpec : ChangeSpec := { name := "headPuts", fn := fun _ => fun
  | [d1, d2, d3, d4] => { results := [.lit (.bool true)], args := [d1, d2, d3, d4] }
  | _ => none }
def headPutsRow : OpenClaim := { program := "ytlbilaaofmnbfaa", sum := "330829bf76a833195083fb19765d6168e85ab1bfa9443dcc992698a3d2a1c5c5", func := "dormouse/dormouselaw03.HeadPuts", spec := "headPuts", unfollowed := true, recurses := true, apart := false }
def HeadPutsSaid : Prop := headPutsRow.holds Try.pinned (OpenSpec.ofChange headPutsSpec)

/-- ITS FALSE NEIGHBOUR: 'it returns false'. Refute it at one input. -/
def headPutsWrong : ChangeSpec := { name := "headPuts", fn := fun _ => fun
  | [d1, d2, d3, d4] => { results := [.lit (.bool false)], args := [d1, d2, d3, d4] }
  | _ => none }
def HeadPutsWrongFalsely : Prop := headPutsRow.holds Try.pinned (OpenSpec.ofChange headPutsWrong)

/-- 'dormouselaw03.HeadGets': WHATEVER THE INPUT: true; the input reads as it did. -/
def headGetsSpec : ChangeSpec := { name := "headGets", fn := fun _ => fun
  | [d1, d2, d3, d4] => { results := [.lit (.bool true)], args := [d1, d2, d3, d4] }
  | _ => none }
def headGetsRow : OpenClaim := { program := "ytlbilaaofmnbfaa", sum := "330829bf76a833195083fb19765d6168e85ab1bfa9443dcc992698a3d2a1c5c5", func := "dormouse/dormouselaw03.HeadGets", spec := "headGets", unfollowed := true, recurses := true, apart := false }
def HeadGetsSaid : Prop := headGetsRow.holds Try.pinned (OpenSpec.ofChange headGetsSpec)

/-- ITS FALSE NEIGHBOUR: 'it returns false'. Refute it at one input. -/
def headGetsWrong : ChangeSpec := { name := "headGets", fn := fun _ => fun
  | [d1, d2, d3, d4] => { results := [.lit (.bool false)], args := [d1, d2, d3, d4] }
  | _ => none }
def HeadGetsWrongFalsely : Prop := headGetsRow.holds Try.pinned (OpenSpec.ofChange headGetsWrong)

/-- 'dormouselaw03.HeadBack': WHATEVER THE INPUT: true; the input reads as it did. -/
def headBackSpec : ChangeSpec := { name := "headBack", fn := fun _ => fun
  | [d1, d2, d3, d4, d5] => { results := [.lit (.bool true)], args := [d1, d2, d3, d4, d5] }
  | _ => none }
def headBackRow : OpenClaim := { program := "ytlbilaaofmnbfaa", sum := "330829bf76a833195083fb19765d6168e85ab1bfa9443dcc992698a3d2a1c5c5", func := "dormouse/dormouselaw03.HeadBack", spec := "headBack", unfollowed := true, recurses := true, apart := false }
def HeadBackSaid : Prop := headBackRow.holds Try.pinned (OpenSpec.ofChange headBackSpec)

/-- ITS FALSE NEIGHBOUR: 'it returns false'. Refute it at one input. -/
def headBackWrong : ChangeSpec := { name := "headBack", fn := fun _ => fun
  | [d1, d2, d3, d4, d5] => { results := [.lit (.bool false)], args := [d1, d2, d3, d4, d5] }
  | _ => none }
def HeadBackWrongFalsely : Prop := headBackRow.holds Try.pinned (OpenSpec.ofChange headBackWrong)

/-- 'dormouselaw03.HeadBytes': WHATEVER THE INPUT: true; the input reads as it did. -/
def headBytesSpec : ChangeSpec := { name := "headBytes", fn := fun _ => fun
  | [d1, d2, d3, d4, d5, d6] => { results := [.lit (.bool true)], args := [d1, d2, d3, d4, d5, d6] }
  | _ => none }
def headBytesRow : OpenClaim := { program := "ytlbilaaofmnbfaa", sum := "330829bf76a833195083fb19765d6168e85ab1bfa9443dcc992698a3d2a1c5c5", func := "dormouse/dormouselaw03.HeadBytes", spec := "headBytes", unfollowed := true, recurses := true, apart := false }
def HeadBytesSaid : Prop := headBytesRow.holds Try.pinned (OpenSpec.ofChange headBytesSpec)

/-- ITS FALSE NEIGHBOUR: 'it returns false'. Refute it at one input. -/
def headBytesWrong : ChangeSpec := { name := "headBytes", fn := fun _ => fun
  | [d1, d2, d3, d4, d5, d6] => { results := [.lit (.bool false)], args := [d1, d2, d3, d4, d5, d6] }
  | _ => none }
def HeadBytesWrongFalsely : Prop := headBytesRow.holds Try.pinned (OpenSpec.ofChange headBytesWrong)

/-- 'dormouselaw07.RelaPuts': WHATEVER THE INPUT: true; the input reads as it did. -/
def relaPutsSpec : ChangeSpec := { name := "relaPuts", fn := fun _ => fun
  | [d] => { results := [.lit (.bool true)], args := [d] }
  | _ => none }
def relaPutsRow : OpenClaim := { program := "ytlbilaaofmnbfaa", sum := "330829bf76a833195083fb19765d6168e85ab1bfa9443dcc992698a3d2a1c5c5", func := "dormouse/dormouselaw07.RelaPuts", spec := "relaPuts", apart := false }
def RelaPutsSaid : Prop := relaPutsRow.holds Try.pinned (OpenSpec.ofChange relaPutsSpec)

/-- ITS FALSE NEIGHBOUR: 'it returns false'. Refute it at one input. -/
def relaPutsWrong : ChangeSpec := { name := "relaPuts", fn := fun _ => fun
  | [d] => { results := [.lit (.bool false)], args := [d] }
  | _ => none }
def RelaPutsWrongFalsely : Prop := relaPutsRow.holds Try.pinned (OpenSpec.ofChange relaPutsWrong)

/-- 'dormouselaw07.RelaTables': WHATEVER THE INPUT: true; the input reads as it did. -/
def relaTablesSpec : ChangeSpec := { name := "relaTables", fn := fun _ => fun
  | [d] => { results := [.lit (.bool true)], args := [d] }
  | _ => none }
def relaTablesRow : OpenClaim := { program := "ytlbilaaofmnbfaa", sum := "330829bf76a833195083fb19765d6168e85ab1bfa9443dcc992698a3d2a1c5c5", func := "dormouse/dormouselaw07.RelaTables", spec := "relaTables", apart := false }
def RelaTablesSaid : Prop := relaTablesRow.holds Try.pinned (OpenSpec.ofChange relaTablesSpec)

/-- ITS FALSE NEIGHBOUR: 'it returns false'. Refute it at one input. -/
def relaTablesWrong : ChangeSpec := { name := "relaTables", fn := fun _ => fun
  | [d] => { results := [.lit (.bool false)], args := [d] }
  | _ => none }
def RelaTablesWrongFalsely : Prop := relaTablesRow.holds Try.pinned (OpenSpec.ofChange relaTablesWrong)

/-- 'dormouselaw07.RelaChecks': WHATEVER THE INPUT: true; the input reads as it did. -/
def relaChecksSpec : ChangeSpec := { name := "relaChecks", fn := fun _ => fun
  | [d1, d2] => { results := [.lit (.bool true)], args := [d1, d2] }
  | _ => none }
def relaChecksRow : OpenClaim := { program := "ytlbilaaofmnbfaa", sum := "330829bf76a833195083fb19765d6168e85ab1bfa9443dcc992698a3d2a1c5c5", func := "dormouse/dormouselaw07.RelaChecks", spec := "relaChecks", apart := false }
def RelaChecksSaid : Prop := relaChecksRow.holds Try.pinned (OpenSpec.ofChange relaChecksSpec)

/-- ITS FALSE NEIGHBOUR: 'it returns false'. Refute it at one input. -/
def relaChecksWrong : ChangeSpec := { name := "relaChecks", fn := fun _ => fun
  | [d1, d2] => { results := [.lit (.bool false)], args := [d1, d2] }
  | _ => none }
def RelaChecksWrongFalsely : Prop := relaChecksRow.holds Try.pinned (OpenSpec.ofChange relaChecksWrong)

/-- 'dormouselaw07.RelaValues': WHATEVER THE INPUT: true; the input reads as it did. -/
def relaValuesSpec : ChangeSpec := { name := "relaValues", fn := fun _ => fun
  | [d1, d2, d3, d4] => { results := [.lit (.bool true)], args := [d1, d2, d3, d4] }
  | _ => none }
def relaValuesRow : OpenClaim := { program := "ytlbilaaofmnbfaa", sum := "330829bf76a833195083fb19765d6168e85ab1bfa9443dcc992698a3d2a1c5c5", func := "dormouse/dormouselaw07.RelaValues", spec := "relaValues", apart := false }
def RelaValuesSaid : Prop := relaValuesRow.holds Try.pinned (OpenSpec.ofChange relaValuesSpec)

/-- ITS FALSE NEIGHBOUR: 'it returns false'. Refute it at one input. -/
def relaValuesWrong : ChangeSpec := { name := "relaValues", fn := fun _ => fun
  | [d1, d2, d3, d4] => { results := [.lit (.bool false)], args := [d1, d2, d3, d4] }
  | _ => none }
def RelaValuesWrongFalsely : Prop := relaValuesRow.holds Try.pinned (OpenSpec.ofChange relaValuesWrong)

/-- 'dormouselaw07.RelaShifts': WHATEVER THE INPUT: true; the input reads as it did. -/
def relaShiftsSpec : ChangeSpec := { name := "relaShifts", fn := fun _ => fun
  | [d1, d2, d3, d4, d5] => { results := [.lit (.bool true)], args := [d1, d2, d3, d4, d5] }
  | _ => none }
def relaShiftsRow : OpenClaim := { program := "ytlbilaaofmnbfaa", sum := "330829bf76a833195083fb19765d6168e85ab1bfa9443dcc992698a3d2a1c5c5", func := "dormouse/dormouselaw07.RelaShifts", spec := "relaShifts", apart := false }
def RelaShiftsSaid : Prop := relaShiftsRow.holds Try.pinned (OpenSpec.ofChange relaShiftsSpec)

/-- ITS FALSE NEIGHBOUR: 'it returns false'. Refute it at one input. -/
def relaShiftsWrong : ChangeSpec := { name := "relaShifts", fn := fun _ => fun
  | [d1, d2, d3, d4, d5] => { results := [.lit (.bool false)], args := [d1, d2, d3, d4, d5] }
  | _ => none }
def RelaShiftsWrongFalsely : Prop := relaShiftsRow.holds Try.pinned (OpenSpec.ofChange relaShiftsWrong)

/-- 'dormouselaw07.RelaOne': WHATEVER THE INPUT: true; the input reads as it did. -/
def relaOneSpec : ChangeSpec := { name := "relaOne", fn := fun _ => fun
  | [d1, d2] => { results := [.lit (.bool true)], args := [d1, d2] }
  | _ => none }
def relaOneRow : OpenClaim := { program := "ytlbilaaofmnbfaa", sum := "330829bf76a833195083fb19765d6168e85ab1bfa9443dcc992698a3d2a1c5c5", func := "dormouse/dormouselaw07.RelaOne", spec := "relaOne", apart := false }
def RelaOneSaid : Prop := relaOneRow.holds Try.pinned (OpenSpec.ofChange relaOneSpec)

/-- ITS FALSE NEIGHBOUR: 'it returns false'. Refute it at one input. -/
def relaOneWrong : ChangeSpec := { name := "relaOne", fn := fun _ => fun
  | [d1, d2] => { results := [.lit (.bool false)], args := [d1, d2] }
  | _ => none }
def RelaOneWrongFalsely : Prop := relaOneRow.holds Try.pinned (OpenSpec.ofChange relaOneWrong)

/- THE SECOND FORM. 'bulk': how many values and letters a reading holds, each counted each time it is reached (what is shared counts as often as it is met; a slice's spare places count too). A statement '..UptoSaid' is the law's where the arguments, and the package variables that the reading takes, are together of bulk at most 1048576: NARROWER than '..Said'. Prove '..Said' where nothing that the law and all that it calls make is longer than what came in: it says more and counts as full. Else prove '..UptoSaid'. A law counts once. -/
mutual
def uptoBulk {H : Type} : DataW H → Nat
  | .lit (.string bytes) => bytes.length + 1
  | .lit _ => 1
  | .nil => 1
  | .ptr d => uptoBulk d + 1
  | .slice elems spare => uptoBulkAll elems + uptoBulkAll spare + 1
  | .agg parts => uptoBulkAll parts + 1
  | .iface _ d => uptoBulk d + 1
  | .map entries => uptoBulkEntries entries + 1
  | .held _ => 1
def uptoBulkAll {H : Type} : List (DataW H) → Nat
  | [] => 0
  | d :: r => uptoBulk d + uptoBulkAll r
def uptoBulkEntries {H : Type} : List (Lit × DataW H) → Nat
  | [] => 0
  | x :: r => uptoBulkEntry x + uptoBulkEntries r
def uptoBulkEntry {H : Type} : Lit × DataW H → Nat
  | (.string bytes, d) => bytes.length + uptoBulk d + 1
  | (_, d) => uptoBulk d + 1
 end
def uptoSmall : (H : Type) → List (DataW H) → Bool := fun _ ds => decide (uptoBulkAll ds ≤ 1048576)
def OpenSpec.upto (s : _root_.Go.ChangeSpec) : _root_.Go.OpenSpec := { _root_.Go.OpenSpec.ofChange s with cond := some uptoSmall }

/-- 'dormouselaw03.HeadPuts', WHERE WHAT IT READS IS OF BULK AT MOST 1048576: true; the input reads as it did. -/
def headPutsUptoRow : OpenClaim := { program := "ytlbilaaofmnbfaa", sum := "330829bf76a833195083fb19765d6168e85ab1bfa9443dcc992698a3d2a1c5c5", func := "dormouse/dormouselaw03.HeadPuts", spec := "headPuts", unfollowed := true, recurses := true, apart := false, narrowed := true }
def HeadPutsUptoSaid : Prop := headPutsUptoRow.holds Try.pinned (OpenSpec.upto headPutsSpec)

/-- 'dormouselaw03.HeadGets', WHERE WHAT IT READS IS OF BULK AT MOST 1048576: true; the input reads as it did. -/
def headGetsUptoRow : OpenClaim := { program := "ytlbilaaofmnbfaa", sum := "330829bf76a833195083fb19765d6168e85ab1bfa9443dcc992698a3d2a1c5c5", func := "dormouse/dormouselaw03.HeadGets", spec := "headGets", unfollowed := true, recurses := true, apart := false, narrowed := true }
def HeadGetsUptoSaid : Prop := headGetsUptoRow.holds Try.pinned (OpenSpec.upto headGetsSpec)

/-- 'dormouselaw03.HeadBack', WHERE WHAT IT READS IS OF BULK AT MOST 1048576: true; the input reads as it did. -/
def headBackUptoRow : OpenClaim := { program := "ytlbilaaofmnbfaa", sum := "330829bf76a833195083fb19765d6168e85ab1bfa9443dcc992698a3d2a1c5c5", func := "dormouse/dormouselaw03.HeadBack", spec := "headBack", unfollowed := true, recurses := true, apart := false, narrowed := true }
def HeadBackUptoSaid : Prop := headBackUptoRow.holds Try.pinned (OpenSpec.upto headBackSpec)

/-- 'dormouselaw03.HeadBytes', WHERE WHAT IT READS IS OF BULK AT MOST 1048576: true; the input reads as it did. -/
def headBytesUptoRow : OpenClaim := { program := "ytlbilaaofmnbfaa", sum := "330829bf76a833195083fb19765d6168e85ab1bfa9443dcc992698a3d2a1c5c5", func := "dormouse/dormouselaw03.HeadBytes", spec := "headBytes", unfollowed := true, recurses := true, apart := false, narrowed := true }
def HeadBytesUptoSaid : Prop := headBytesUptoRow.holds Try.pinned (OpenSpec.upto headBytesSpec)

/-- 'dormouselaw07.RelaPuts', WHERE WHAT IT READS IS OF BULK AT MOST 1048576: true; the input reads as it did. -/
def relaPutsUptoRow : OpenClaim := { program := "ytlbilaaofmnbfaa", sum := "330829bf76a833195083fb19765d6168e85ab1bfa9443dcc992698a3d2a1c5c5", func := "dormouse/dormouselaw07.RelaPuts", spec := "relaPuts", apart := false, narrowed := true }
def RelaPutsUptoSaid : Prop := relaPutsUptoRow.holds Try.pinned (OpenSpec.upto relaPutsSpec)

/-- 'dormouselaw07.RelaTables', WHERE WHAT IT READS IS OF BULK AT MOST 1048576: true; the input reads as it did. -/
def relaTablesUptoRow : OpenClaim := { program := "ytlbilaaofmnbfaa", sum := "330829bf76a833195083fb19765d6168e85ab1bfa9443dcc992698a3d2a1c5c5", func := "dormouse/dormouselaw07.RelaTables", spec := "relaTables", apart := false, narrowed := true }
def RelaTablesUptoSaid : Prop := relaTablesUptoRow.holds Try.pinned (OpenSpec.upto relaTablesSpec)

/-- 'dormouselaw07.RelaChecks', WHERE WHAT IT READS IS OF BULK AT MOST 1048576: true; the input reads as it did. -/
def relaChecksUptoRow : OpenClaim := { program := "ytlbilaaofmnbfaa", sum := "330829bf76a833195083fb19765d6168e85ab1bfa9443dcc992698a3d2a1c5c5", func := "dormouse/dormouselaw07.RelaChecks", spec := "relaChecks", apart := false, narrowed := true }
def RelaChecksUptoSaid : Prop := relaChecksUptoRow.holds Try.pinned (OpenSpec.upto relaChecksSpec)

/-- 'dormouselaw07.RelaValues', WHERE WHAT IT READS IS OF BULK AT MOST 1048576: true; the input reads as it did. -/
def relaValuesUptoRow : OpenClaim := { program := "ytlbilaaofmnbfaa", sum := "330829bf76a833195083fb19765d6168e85ab1bfa9443dcc992698a3d2a1c5c5", func := "dormouse/dormouselaw07.RelaValues", spec := "relaValues", apart := false, narrowed := true }
def RelaValuesUptoSaid : Prop := relaValuesUptoRow.holds Try.pinned (OpenSpec.upto relaValuesSpec)

/-- 'dormouselaw07.RelaShifts', WHERE WHAT IT READS IS OF BULK AT MOST 1048576: true; the input reads as it did. -/
def relaShiftsUptoRow : OpenClaim := { program := "ytlbilaaofmnbfaa", sum := "330829bf76a833195083fb19765d6168e85ab1bfa9443dcc992698a3d2a1c5c5", func := "dormouse/dormouselaw07.RelaShifts", spec := "relaShifts", apart := false, narrowed := true }
def RelaShiftsUptoSaid : Prop := relaShiftsUptoRow.holds Try.pinned (OpenSpec.upto relaShiftsSpec)

/-- 'dormouselaw07.RelaOne', WHERE WHAT IT READS IS OF BULK AT MOST 1048576: true; the input reads as it did. -/
def relaOneUptoRow : OpenClaim := { program := "ytlbilaaofmnbfaa", sum := "330829bf76a833195083fb19765d6168e85ab1bfa9443dcc992698a3d2a1c5c5", func := "dormouse/dormouselaw07.RelaOne", spec := "relaOne", apart := false, narrowed := true }
def RelaOneUptoSaid : Prop := relaOneUptoRow.holds Try.pinned (OpenSpec.upto relaOneSpec)

end Rows
end Go.Proofs.Ytlbilaaofmnbfaa
