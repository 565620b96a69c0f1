/-
  No cell of these rows narrows 'for every input' (looked for: loops, veiled, ifaces, maps, wideKeys, modest, calm, conditions, laid).
  DERIVED. THE GIVEN ROWS OF THIS SEAT. 10 by the template 'for every input the law returns true; each argument reads behind the call as it read before'; 0 by the template 'total and deterministic' (their statements: YtmocofbneblccaaTotals.lean).
  GIVEN WITH THE SEED: the statements are not yours to turn. If you find one false, say at which input.
  Laid BY PROGRAM, IN A SANDBOX (cutbox-rows.mjs): the forced cells as the released guide's own fill.sh prints them over the translation 9abfe08f98bf7a26… (all of the seat's roots in one cut). By AI agents, Wed Nov 11 2026. No macro, syntax, notation, axiom, sorry.
-/
import Derived.Test.YtmocofbneblccaaChecked
import GoSem.Claim
import GoSem.ClaimJoined
import GoSem.ClaimMapViews
import Derived.JoinedTies
import Derived.KernelRfl
namespace Go.Proofs.Ytmocofbneblccaa
/- THE CELL 'sum', in the pinned program and in every row, IS THE sha256 OF THE DUMP (.gsa) THAT YtmocofbneblccaaProg.lean LOADS. Nothing in Lean hashes anything: it is a label: what it is worth is what the hold of that sum in a sandbox is worth. -/
noncomputable def Try.pinned : Pinned := { name := "ytmocofbneblccaa", sum := "9abfe08f98bf7a2612bf7af931eb7f09942b1a85032b86a6318271ac324f4cb3", checked := Try.checked }
namespace Rows
def none {H : Type} : Left H := { results := [], args := [] }

/-- 'dormouselaw21.DedupSums': WHATEVER THE INPUT: true; the input reads as it did. -/
def dedupSumsSpec : ChangeSpec := { name := "dedupSums", fn := fun _ => fun
  | [d1, d2, d3, d4] => { results := [.lit (.bool true)], args := [d1, d2, d3, d4] }
  | _ => none }
def dedupSumsRow : OpenClaim := { program := "ytmocofbneblccaa", sum := "9abfe08f98bf7a2612bf7af931eb7f09942b1a85032b86a6318271ac324f4cb3", func := "dormouse/dormouselaw21.DedupSums", spec := "dedupSums", unfollowed := true, recurses := true, apart := false }
def DedupSumsSaid : Prop := dedupSumsRow.holds Try.pinned (OpenSpec.ofChange dedupSumsSpec)

/-- ITS FALSE NEIGHBOUR: 'it returns false'. Refute it at one input. -/
def dedupSumsWrong : ChangeSpec := { name := "dedupSums", fn := fun _ => fun
  | [d1, d2, d3, d4] => { results := [.lit (.bool false)], args := [d1, d2, d3, d4] }
  | _ => none }
def DedupSumsWrongFalsely : Prop := dedupSumsRow.holds Try.pinned (OpenSpec.ofChange dedupSumsWrong)

/-- 'dormouselaw21.DedupSplits': WHATEVER THE INPUT: true; the input reads as it did. -/
def dedupSplitsSpec : ChangeSpec := { name := "dedupSplits", fn := fun _ => fun
  | [d1, d2] => { results := [.lit (.bool true)], args := [d1, d2] }
  | _ => none }
def dedupSplitsRow : OpenClaim := { program := "ytmocofbneblccaa", sum := "9abfe08f98bf7a2612bf7af931eb7f09942b1a85032b86a6318271ac324f4cb3", func := "dormouse/dormouselaw21.DedupSplits", spec := "dedupSplits", unfollowed := true, recurses := true, apart := false }
def DedupSplitsSaid : Prop := dedupSplitsRow.holds Try.pinned (OpenSpec.ofChange dedupSplitsSpec)

/-- ITS FALSE NEIGHBOUR: 'it returns false'. Refute it at one input. -/
def dedupSplitsWrong : ChangeSpec := { name := "dedupSplits", fn := fun _ => fun
  | [d1, d2] => { results := [.lit (.bool false)], args := [d1, d2] }
  | _ => none }
def DedupSplitsWrongFalsely : Prop := dedupSplitsRow.holds Try.pinned (OpenSpec.ofChange dedupSplitsWrong)

/-- 'dormouselaw21.DedupJoins': WHATEVER THE INPUT: true; the input reads as it did. -/
def dedupJoinsSpec : ChangeSpec := { name := "dedupJoins", fn := fun _ => fun
  | [d1, d2, d3] => { results := [.lit (.bool true)], args := [d1, d2, d3] }
  | _ => none }
def dedupJoinsRow : OpenClaim := { program := "ytmocofbneblccaa", sum := "9abfe08f98bf7a2612bf7af931eb7f09942b1a85032b86a6318271ac324f4cb3", func := "dormouse/dormouselaw21.DedupJoins", spec := "dedupJoins", unfollowed := true, recurses := true, apart := false }
def DedupJoinsSaid : Prop := dedupJoinsRow.holds Try.pinned (OpenSpec.ofChange dedupJoinsSpec)

/-- ITS FALSE NEIGHBOUR: 'it returns false'. Refute it at one input. -/
def dedupJoinsWrong : ChangeSpec := { name := "dedupJoins", fn := fun _ => fun
  | [d1, d2, d3] => { results := [.lit (.bool false)], args := [d1, d2, d3] }
  | _ => none }
def DedupJoinsWrongFalsely : Prop := dedupJoinsRow.holds Try.pinned (OpenSpec.ofChange dedupJoinsWrong)

/-- 'dormouselaw21.DedupBack': WHATEVER THE INPUT: true; the input reads as it did. -/
def dedupBackSpec : ChangeSpec := { name := "dedupBack", fn := fun _ => fun
  | [d1, d2] => { results := [.lit (.bool true)], args := [d1, d2] }
  | _ => none }
def dedupBackRow : OpenClaim := { program := "ytmocofbneblccaa", sum := "9abfe08f98bf7a2612bf7af931eb7f09942b1a85032b86a6318271ac324f4cb3", func := "dormouse/dormouselaw21.DedupBack", spec := "dedupBack", unfollowed := true, recurses := true, apart := false }
def DedupBackSaid : Prop := dedupBackRow.holds Try.pinned (OpenSpec.ofChange dedupBackSpec)

/-- ITS FALSE NEIGHBOUR: 'it returns false'. Refute it at one input. -/
def dedupBackWrong : ChangeSpec := { name := "dedupBack", fn := fun _ => fun
  | [d1, d2] => { results := [.lit (.bool false)], args := [d1, d2] }
  | _ => none }
def DedupBackWrongFalsely : Prop := dedupBackRow.holds Try.pinned (OpenSpec.ofChange dedupBackWrong)

/-- 'dormouselaw21.DedupOther': WHATEVER THE INPUT: true; the input reads as it did. -/
def dedupOtherSpec : ChangeSpec := { name := "dedupOther", fn := fun _ => fun
  | [d1, d2, d3, d4] => { results := [.lit (.bool true)], args := [d1, d2, d3, d4] }
  | _ => none }
def dedupOtherRow : OpenClaim := { program := "ytmocofbneblccaa", sum := "9abfe08f98bf7a2612bf7af931eb7f09942b1a85032b86a6318271ac324f4cb3", func := "dormouse/dormouselaw21.DedupOther", spec := "dedupOther", unfollowed := true, recurses := true, apart := false }
def DedupOtherSaid : Prop := dedupOtherRow.holds Try.pinned (OpenSpec.ofChange dedupOtherSpec)

/-- ITS FALSE NEIGHBOUR: 'it returns false'. Refute it at one input. -/
def dedupOtherWrong : ChangeSpec := { name := "dedupOther", fn := fun _ => fun
  | [d1, d2, d3, d4] => { results := [.lit (.bool false)], args := [d1, d2, d3, d4] }
  | _ => none }
def DedupOtherWrongFalsely : Prop := dedupOtherRow.holds Try.pinned (OpenSpec.ofChange dedupOtherWrong)

/-- 'dormouselaw06.SymbolsPuts': WHATEVER THE INPUT: true; the input reads as it did. -/
def symbolsPutsSpec : ChangeSpec := { name := "symbolsPuts", fn := fun _ => fun
  | [d] => { results := [.lit (.bool true)], args := [d] }
  | _ => none }
def symbolsPutsRow : OpenClaim := { program := "ytmocofbneblccaa", sum := "9abfe08f98bf7a2612bf7af931eb7f09942b1a85032b86a6318271ac324f4cb3", func := "dormouse/dormouselaw06.SymbolsPuts", spec := "symbolsPuts", unfollowed := true, recurses := true, apart := false }
def SymbolsPutsSaid : Prop := symbolsPutsRow.holds Try.pinned (OpenSpec.ofChange symbolsPutsSpec)

/-- ITS FALSE NEIGHBOUR: 'it returns false'. Refute it at one input. -/
def symbolsPutsWrong : ChangeSpec := { name := "symbolsPuts", fn := fun _ => fun
  | [d] => { results := [.lit (.bool false)], args := [d] }
  | _ => none }
def SymbolsPutsWrongFalsely : Prop := symbolsPutsRow.holds Try.pinned (OpenSpec.ofChange symbolsPutsWrong)

/-- 'dormouselaw06.SymbolsTables': WHATEVER THE INPUT: true; the input reads as it did. -/
def symbolsTablesSpec : ChangeSpec := { name := "symbolsTables", fn := fun _ => fun
  | [d] => { results := [.lit (.bool true)], args := [d] }
  | _ => none }
def symbolsTablesRow : OpenClaim := { program := "ytmocofbneblccaa", sum := "9abfe08f98bf7a2612bf7af931eb7f09942b1a85032b86a6318271ac324f4cb3", func := "dormouse/dormouselaw06.SymbolsTables", spec := "symbolsTables", unfollowed := true, recurses := true, apart := false }
def SymbolsTablesSaid : Prop := symbolsTablesRow.holds Try.pinned (OpenSpec.ofChange symbolsTablesSpec)

/-- ITS FALSE NEIGHBOUR: 'it returns false'. Refute it at one input. -/
def symbolsTablesWrong : ChangeSpec := { name := "symbolsTables", fn := fun _ => fun
  | [d] => { results := [.lit (.bool false)], args := [d] }
  | _ => none }
def SymbolsTablesWrongFalsely : Prop := symbolsTablesRow.holds Try.pinned (OpenSpec.ofChange symbolsTablesWrong)

/-- 'dormouselaw06.SymbolsChecks': WHATEVER THE INPUT: true; the input reads as it did. -/
def symbolsChecksSpec : ChangeSpec := { name := "symbolsChecks", fn := fun _ => fun
  | [d] => { results := [.lit (.bool true)], args := [d] }
  | _ => none }
def symbolsChecksRow : OpenClaim := { program := "ytmocofbneblccaa", sum := "9abfe08f98bf7a2612bf7af931eb7f09942b1a85032b86a6318271ac324f4cb3", func := "dormouse/dormouselaw06.SymbolsChecks", spec := "symbolsChecks", unfollowed := true, recurses := true, apart := false }
def SymbolsChecksSaid : Prop := symbolsChecksRow.holds Try.pinned (OpenSpec.ofChange symbolsChecksSpec)

/-- ITS FALSE NEIGHBOUR: 'it returns false'. Refute it at one input. -/
def symbolsChecksWrong : ChangeSpec := { name := "symbolsChecks", fn := fun _ => fun
  | [d] => { results := [.lit (.bool false)], args := [d] }
  | _ => none }
def SymbolsChecksWrongFalsely : Prop := symbolsChecksRow.holds Try.pinned (OpenSpec.ofChange symbolsChecksWrong)

/-- 'dormouselaw06.SymbolsBack': WHATEVER THE INPUT: true; the input reads as it did. -/
def symbolsBackSpec : ChangeSpec := { name := "symbolsBack", fn := fun _ => fun
  | [d] => { results := [.lit (.bool true)], args := [d] }
  | _ => none }
def symbolsBackRow : OpenClaim := { program := "ytmocofbneblccaa", sum := "9abfe08f98bf7a2612bf7af931eb7f09942b1a85032b86a6318271ac324f4cb3", func := "dormouse/dormouselaw06.SymbolsBack", spec := "symbolsBack", unfollowed := true, recurses := true, apart := false }
def SymbolsBackSaid : Prop := symbolsBackRow.holds Try.pinned (OpenSpec.ofChange symbolsBackSpec)

/-- ITS FALSE NEIGHBOUR: 'it returns false'. Refute it at one input. -/
def symbolsBackWrong : ChangeSpec := { name := "symbolsBack", fn := fun _ => fun
  | [d] => { results := [.lit (.bool false)], args := [d] }
  | _ => none }
def SymbolsBackWrongFalsely : Prop := symbolsBackRow.holds Try.pinned (OpenSpec.ofChange symbolsBackWrong)

/-- 'dormouselaw06.SymbolsOne': WHATEVER THE INPUT: true; the input reads as it did. -/
def symbolsOneSpec : ChangeSpec := { name := "symbolsOne", fn := fun _ => fun
  | [d] => { results := [.lit (.bool true)], args := [d] }
  | _ => none }
def symbolsOneRow : OpenClaim := { program := "ytmocofbneblccaa", sum := "9abfe08f98bf7a2612bf7af931eb7f09942b1a85032b86a6318271ac324f4cb3", func := "dormouse/dormouselaw06.SymbolsOne", spec := "symbolsOne", unfollowed := true, recurses := true, apart := false }
def SymbolsOneSaid : Prop := symbolsOneRow.holds Try.pinned (OpenSpec.ofChange symbolsOneSpec)

/-- ITS FALSE NEIGHBOUR: 'it returns false'. Refute it at one input. -/
def symbolsOneWrong : ChangeSpec := { name := "symbolsOne", fn := fun _ => fun
  | [d] => { results := [.lit (.bool false)], args := [d] }
  | _ => none }
def SymbolsOneWrongFalsely : Prop := symbolsOneRow.holds Try.pinned (OpenSpec.ofChange symbolsOneWrong)

/- THE SECOND FORM. 'bulk': how many values and letters a reading holds, each counted each time it is reached (what is shared counts as often as it is met; a slice's spare places count too). A statement '..UptoSaid' is the law's where the arguments, and the package variables that the reading takes, are together of bulk at most 1048576: NARROWER than '..Said'. Prove '..Said' where nothing that the law and all that it calls make is longer than what came in: it says more and counts as full. Else prove '..UptoSaid'. A law counts once. -/
mutual
def uptoBulk {H : Type} : DataW H → Nat
  | .lit (.string bytes) => bytes.length + 1
  | .lit _ => 1
  | .nil => 1
  | .ptr d => uptoBulk d + 1
  | .slice elems spare => uptoBulkAll elems + uptoBulkAll spare + 1
  | .agg parts => uptoBulkAll parts + 1
  | .iface _ d => uptoBulk d + 1
  | .map entries => uptoBulkEntries entries + 1
  | .held _ => 1
def uptoBulkAll {H : Type} : List (DataW H) → Nat
  | [] => 0
  | d :: r => uptoBulk d + uptoBulkAll r
def uptoBulkEntries {H : Type} : List (Lit × DataW H) → Nat
  | [] => 0
  | x :: r => uptoBulkEntry x + uptoBulkEntries r
def uptoBulkEntry {H : Type} : Lit × DataW H → Nat
  | (.string bytes, d) => bytes.length + uptoBulk d + 1
  | (_, d) => uptoBulk d + 1
 end
def uptoSmall : (H : Type) → List (DataW H) → Bool := fun _ ds => decide (uptoBulkAll ds ≤ 1048576)
def OpenSpec.upto (s : _root_.Go.ChangeSpec) : _root_.Go.OpenSpec := { _root_.Go.OpenSpec.ofChange s with cond := some uptoSmall }

/-- 'dormouselaw21.DedupSums', WHERE WHAT IT READS IS OF BULK AT MOST 1048576: true; the input reads as it did. -/
def dedupSumsUptoRow : OpenClaim := { program := "ytmocofbneblccaa", sum := "9abfe08f98bf7a2612bf7af931eb7f09942b1a85032b86a6318271ac324f4cb3", func := "dormouse/dormouselaw21.DedupSums", spec := "dedupSums", unfollowed := true, recurses := true, apart := false, narrowed := true }
def DedupSumsUptoSaid : Prop := dedupSumsUptoRow.holds Try.pinned (OpenSpec.upto dedupSumsSpec)

/-- 'dormouselaw21.DedupSplits', WHERE WHAT IT READS IS OF BULK AT MOST 1048576: true; the input reads as it did. -/
def dedupSplitsUptoRow : OpenClaim := { program := "ytmocofbneblccaa", sum := "9abfe08f98bf7a2612bf7af931eb7f09942b1a85032b86a6318271ac324f4cb3", func := "dormouse/dormouselaw21.DedupSplits", spec := "dedupSplits", unfollowed := true, recurses := true, apart := false, narrowed := true }
def DedupSplitsUptoSaid : Prop := dedupSplitsUptoRow.holds Try.pinned (OpenSpec.upto dedupSplitsSpec)

/-- 'dormouselaw21.DedupJoins', WHERE WHAT IT READS IS OF BULK AT MOST 1048576: true; the input reads as it did. -/
def dedupJoinsUptoRow : OpenClaim := { program := "ytmocofbneblccaa", sum := "9abfe08f98bf7a2612bf7af931eb7f09942b1a85032b86a6318271ac324f4cb3", func := "dormouse/dormouselaw21.DedupJoins", spec := "dedupJoins", unfollowed := true, recurses := true, apart := false, narrowed := true }
def DedupJoinsUptoSaid : Prop := dedupJoinsUptoRow.holds Try.pinned (OpenSpec.upto dedupJoinsSpec)

/-- 'dormouselaw21.DedupBack', WHERE WHAT IT READS IS OF BULK AT MOST 1048576: true; the input reads as it did. -/
def dedupBackUptoRow : OpenClaim := { program := "ytmocofbneblccaa", sum := "9abfe08f98bf7a2612bf7af931eb7f09942b1a85032b86a6318271ac324f4cb3", func := "dormouse/dormouselaw21.DedupBack", spec := "dedupBack", unfollowed := true, recurses := true, apart := false, narrowed := true }
def DedupBackUptoSaid : Prop := dedupBackUptoRow.holds Try.pinned (OpenSpec.upto dedupBackSpec)

/-- 'dormouselaw21.DedupOther', WHERE WHAT IT READS IS OF BULK AT MOST 1048576: true; the input reads as it did. -/
def dedupOtherUptoRow : OpenClaim := { program := "ytmocofbneblccaa", sum := "9abfe08f98bf7a2612bf7af931eb7f09942b1a85032b86a6318271ac324f4cb3", func := "dormouse/dormouselaw21.DedupOther", spec := "dedupOther", unfollowed := true, recurses := true, apart := false, narrowed := true }
def DedupOtherUptoSaid : Prop := dedupOtherUptoRow.holds Try.pinned (OpenSpec.upto dedupOtherSpec)

/-- 'dormouselaw06.SymbolsPuts', WHERE WHAT IT READS IS OF BULK AT MOST 1048576: true; the input reads as it did. -/
def symbolsPutsUptoRow : OpenClaim := { program := "ytmocofbneblccaa", sum := "9abfe08f98bf7a2612bf7af931eb7f09942b1a85032b86a6318271ac324f4cb3", func := "dormouse/dormouselaw06.SymbolsPuts", spec := "symbolsPuts", unfollowed := true, recurses := true, apart := false, narrowed := true }
def SymbolsPutsUptoSaid : Prop := symbolsPutsUptoRow.holds Try.pinned (OpenSpec.upto symbolsPutsSpec)

/-- 'dormouselaw06.SymbolsTables', WHERE WHAT IT READS IS OF BULK AT MOST 1048576: true; the input reads as it did. -/
def symbolsTablesUptoRow : OpenClaim := { program := "ytmocofbneblccaa", sum := "9abfe08f98bf7a2612bf7af931eb7f09942b1a85032b86a6318271ac324f4cb3", func := "dormouse/dormouselaw06.SymbolsTables", spec := "symbolsTables", unfollowed := true, recurses := true, apart := false, narrowed := true }
def SymbolsTablesUptoSaid : Prop := symbolsTablesUptoRow.holds Try.pinned (OpenSpec.upto symbolsTablesSpec)

/-- 'dormouselaw06.SymbolsChecks', WHERE WHAT IT READS IS OF BULK AT MOST 1048576: true; the input reads as it did. -/
def symbolsChecksUptoRow : OpenClaim := { program := "ytmocofbneblccaa", sum := "9abfe08f98bf7a2612bf7af931eb7f09942b1a85032b86a6318271ac324f4cb3", func := "dormouse/dormouselaw06.SymbolsChecks", spec := "symbolsChecks", unfollowed := true, recurses := true, apart := false, narrowed := true }
def SymbolsChecksUptoSaid : Prop := symbolsChecksUptoRow.holds Try.pinned (OpenSpec.upto symbolsChecksSpec)

/-- 'dormouselaw06.SymbolsBack', WHERE WHAT IT READS IS OF BULK AT MOST 1048576: true; the input reads as it did. -/
def symbolsBackUptoRow : OpenClaim := { program := "ytmocofbneblccaa", sum := "9abfe08f98bf7a2612bf7af931eb7f09942b1a85032b86a6318271ac324f4cb3", func := "dormouse/dormouselaw06.SymbolsBack", spec := "symbolsBack", unfollowed := true, recurses := true, apart := false, narrowed := true }
def SymbolsBackUptoSaid : Prop := symbolsBackUptoRow.holds Try.pinned (OpenSpec.upto symbolsBackSpec)

/-- 'dormouselaw06.SymbolsOne', WHERE WHAT IT READS IS OF BULK AT MOST 1048576: true; the input reads as it did. -/
def symbolsOneUptoRow : OpenClaim := { program := "ytmocofbneblccaa", sum := "9abfe08f98bf7a2612bf7af931eb7f09942b1a85032b86a6318271ac324f4cb3", func := "dormouse/dormouselaw06.SymbolsOne", spec := "symbolsOne", unfollowed := true, recurses := true, apart := false, narrowed := true }
def SymbolsOneUptoSaid : Prop := symbolsOneUptoRow.holds Try.pinned (OpenSpec.upto symbolsOneSpec)

end Rows
end Go.Proofs.Ytmocofbneblccaa
