/-
  No cell of these rows narrows 'for every input' (looked for: loops, veiled, ifaces, maps, wideKeys, modest, calm, conditions, laid).
  DERIVED. THE GIVEN ROWS OF THIS SEAT. 4 by the template 'for every input the law returns true; each argument reads behind the call as it read before'; 0 by the template 'total and deterministic' (their statements: YtdfjbnonibcmeaaGreatTotals.lean).
  GIVEN WITH THE SEED: the statements are not yours to turn. If you find one false, say at which input.
  Laid BY PROGRAM, IN A SANDBOX (cutbox-rows.mjs): the forced cells as the released guide's own fill.sh prints them over the translation ac34507ee721902e… (all of the seat's roots in one cut). By AI agents, Wed Nov 11 2026. No macro, syntax, notation, axiom, sorry.
-/
import Derived.Test.YtdfjbnonibcmeaaGreatChecked
import GoSem.Claim
import GoSem.ClaimJoined
import GoSem.ClaimMapViews
import Derived.JoinedTies
import Derived.KernelRfl
namespace Go.Proofs.YtdfjbnonibcmeaaGreat
/- THE CELL 'sum', in the pinned program and in every row, IS THE sha256 OF THE DUMP (.gsa) THAT YtdfjbnonibcmeaaGreatProg.lean LOADS. Nothing in Lean hashes anything: it is a label: what it is worth is what the hold of that sum in a sandbox is worth. -/
noncomputable def Tryz.pinned : Pinned := { name := "ytdfjbnonibcmeaagreat", sum := "ac34507ee721902ee68dc42572917120474e4f2633adf4edf60b00637ebd205a", checked := Tryz.checked }
namespace Rows
def none {H : Type} : Left H := { results := [], args := [] }

/-- 'dormouselaw09.ImageParses': WHATEVER THE INPUT: true; the input reads as it did. -/
def imageParsesSpec : ChangeSpec := { name := "imageParses", fn := fun _ => fun
  | [d] => { results := [.lit (.bool true)], args := [d] }
  | _ => none }
def imageParsesRow : OpenClaim := { program := "ytdfjbnonibcmeaagreat", sum := "ac34507ee721902ee68dc42572917120474e4f2633adf4edf60b00637ebd205a", func := "dormouse/dormouselaw09.ImageParses", spec := "imageParses", inPlace := ["internal/bytealg.IndexByteString", "internal/bytealg.IndexString"], unfollowed := true, recurses := true, named := ["internal/bytealg.MaxLen"], apart := false }
def ImageParsesSaid : Prop := imageParsesRow.holds Tryz.pinned (OpenSpec.ofChange imageParsesSpec)

/-- ITS FALSE NEIGHBOUR: 'it returns false'. Refute it at one input. -/
def imageParsesWrong : ChangeSpec := { name := "imageParses", fn := fun _ => fun
  | [d] => { results := [.lit (.bool false)], args := [d] }
  | _ => none }
def ImageParsesWrongFalsely : Prop := imageParsesRow.holds Tryz.pinned (OpenSpec.ofChange imageParsesWrong)

/-- 'dormouselaw09.ImageBuilds': WHATEVER THE INPUT: true; the input reads as it did. -/
def imageBuildsSpec : ChangeSpec := { name := "imageBuilds", fn := fun _ => fun
  | [d] => { results := [.lit (.bool true)], args := [d] }
  | _ => none }
def imageBuildsRow : OpenClaim := { program := "ytdfjbnonibcmeaagreat", sum := "ac34507ee721902ee68dc42572917120474e4f2633adf4edf60b00637ebd205a", func := "dormouse/dormouselaw09.ImageBuilds", spec := "imageBuilds", inPlace := ["internal/bytealg.IndexByteString", "internal/bytealg.IndexString"], unfollowed := true, recurses := true, named := ["internal/bytealg.MaxLen"], apart := false }
def ImageBuildsSaid : Prop := imageBuildsRow.holds Tryz.pinned (OpenSpec.ofChange imageBuildsSpec)

/-- ITS FALSE NEIGHBOUR: 'it returns false'. Refute it at one input. -/
def imageBuildsWrong : ChangeSpec := { name := "imageBuilds", fn := fun _ => fun
  | [d] => { results := [.lit (.bool false)], args := [d] }
  | _ => none }
def ImageBuildsWrongFalsely : Prop := imageBuildsRow.holds Tryz.pinned (OpenSpec.ofChange imageBuildsWrong)

/-- 'dormouselaw09.ImageTurned': WHATEVER THE INPUT: true; the input reads as it did. -/
def imageTurnedSpec : ChangeSpec := { name := "imageTurned", fn := fun _ => fun
  | [d1, d2, d3] => { results := [.lit (.bool true)], args := [d1, d2, d3] }
  | _ => none }
def imageTurnedRow : OpenClaim := { program := "ytdfjbnonibcmeaagreat", sum := "ac34507ee721902ee68dc42572917120474e4f2633adf4edf60b00637ebd205a", func := "dormouse/dormouselaw09.ImageTurned", spec := "imageTurned", inPlace := ["internal/bytealg.IndexByteString", "internal/bytealg.IndexString"], unfollowed := true, recurses := true, named := ["internal/bytealg.MaxLen"], apart := false }
def ImageTurnedSaid : Prop := imageTurnedRow.holds Tryz.pinned (OpenSpec.ofChange imageTurnedSpec)

/-- ITS FALSE NEIGHBOUR: 'it returns false'. Refute it at one input. -/
def imageTurnedWrong : ChangeSpec := { name := "imageTurned", fn := fun _ => fun
  | [d1, d2, d3] => { results := [.lit (.bool false)], args := [d1, d2, d3] }
  | _ => none }
def ImageTurnedWrongFalsely : Prop := imageTurnedRow.holds Tryz.pinned (OpenSpec.ofChange imageTurnedWrong)

/-- 'dormouselaw09.ImageTables': WHATEVER THE INPUT: true; the input reads as it did. -/
def imageTablesSpec : ChangeSpec := { name := "imageTables", fn := fun _ => fun
  | [d1, d2, d3, d4] => { results := [.lit (.bool true)], args := [d1, d2, d3, d4] }
  | _ => none }
def imageTablesRow : OpenClaim := { program := "ytdfjbnonibcmeaagreat", sum := "ac34507ee721902ee68dc42572917120474e4f2633adf4edf60b00637ebd205a", func := "dormouse/dormouselaw09.ImageTables", spec := "imageTables", inPlace := ["internal/bytealg.IndexByteString", "internal/bytealg.IndexString"], unfollowed := true, recurses := true, named := ["internal/bytealg.MaxLen"], apart := false }
def ImageTablesSaid : Prop := imageTablesRow.holds Tryz.pinned (OpenSpec.ofChange imageTablesSpec)

/-- ITS FALSE NEIGHBOUR: 'it returns false'. Refute it at one input. -/
def imageTablesWrong : ChangeSpec := { name := "imageTables", fn := fun _ => fun
  | [d1, d2, d3, d4] => { results := [.lit (.bool false)], args := [d1, d2, d3, d4] }
  | _ => none }
def ImageTablesWrongFalsely : Prop := imageTablesRow.holds Tryz.pinned (OpenSpec.ofChange imageTablesWrong)

/- THE SECOND FORM. 'bulk': how many values and letters a reading holds, each counted each time it is reached (what is shared counts as often as it is met; a slice's spare places count too). A statement '..UptoSaid' is the law's where the arguments, and the package variables that the reading takes, are together of bulk at most 1048576: NARROWER than '..Said'. Prove '..Said' where nothing that the law and all that it calls make is longer than what came in: it says more and counts as full. Else prove '..UptoSaid'. A law counts once. -/
mutual
def uptoBulk {H : Type} : DataW H → Nat
  | .lit (.string bytes) => bytes.length + 1
  | .lit _ => 1
  | .nil => 1
  | .ptr d => uptoBulk d + 1
  | .slice elems spare => uptoBulkAll elems + uptoBulkAll spare + 1
  | .agg parts => uptoBulkAll parts + 1
  | .iface _ d => uptoBulk d + 1
  | .map entries => uptoBulkEntries entries + 1
  | .held _ => 1
def uptoBulkAll {H : Type} : List (DataW H) → Nat
  | [] => 0
  | d :: r => uptoBulk d + uptoBulkAll r
def uptoBulkEntries {H : Type} : List (Lit × DataW H) → Nat
  | [] => 0
  | x :: r => uptoBulkEntry x + uptoBulkEntries r
def uptoBulkEntry {H : Type} : Lit × DataW H → Nat
  | (.string bytes, d) => bytes.length + uptoBulk d + 1
  | (_, d) => uptoBulk d + 1
 end
def uptoSmall : (H : Type) → List (DataW H) → Bool := fun _ ds => decide (uptoBulkAll ds ≤ 1048576)
def OpenSpec.upto (s : _root_.Go.ChangeSpec) : _root_.Go.OpenSpec := { _root_.Go.OpenSpec.ofChange s with cond := some uptoSmall }

/-- 'dormouselaw09.ImageParses', WHERE WHAT IT READS IS OF BULK AT MOST 1048576: true; the input reads as it did. -/
def imageParsesUptoRow : OpenClaim := { program := "ytdfjbnonibcmeaagreat", sum := "ac34507ee721902ee68dc42572917120474e4f2633adf4edf60b00637ebd205a", func := "dormouse/dormouselaw09.ImageParses", spec := "imageParses", inPlace := ["internal/bytealg.IndexByteString", "internal/bytealg.IndexString"], unfollowed := true, recurses := true, named := ["internal/bytealg.MaxLen"], apart := false, narrowed := true }
def ImageParsesUptoSaid : Prop := imageParsesUptoRow.holds Tryz.pinned (OpenSpec.upto imageParsesSpec)

/-- 'dormouselaw09.ImageBuilds', WHERE WHAT IT READS IS OF BULK AT MOST 1048576: true; the input reads as it did. -/
def imageBuildsUptoRow : OpenClaim := { program := "ytdfjbnonibcmeaagreat", sum := "ac34507ee721902ee68dc42572917120474e4f2633adf4edf60b00637ebd205a", func := "dormouse/dormouselaw09.ImageBuilds", spec := "imageBuilds", inPlace := ["internal/bytealg.IndexByteString", "internal/bytealg.IndexString"], unfollowed := true, recurses := true, named := ["internal/bytealg.MaxLen"], apart := false, narrowed := true }
def ImageBuildsUptoSaid : Prop := imageBuildsUptoRow.holds Tryz.pinned (OpenSpec.upto imageBuildsSpec)

/-- 'dormouselaw09.ImageTurned', WHERE WHAT IT READS IS OF BULK AT MOST 1048576: true; the input reads as it did. -/
def imageTurnedUptoRow : OpenClaim := { program := "ytdfjbnonibcmeaagreat", sum := "ac34507ee721902ee68dc42572917120474e4f2633adf4edf60b00637ebd205a", func := "dormouse/dormouselaw09.ImageTurned", spec := "imageTurned", inPlace := ["internal/bytealg.IndexByteString", "internal/bytealg.IndexString"], unfollowed := true, recurses := true, named := ["internal/bytealg.MaxLen"], apart := false, narrowed := true }
def ImageTurnedUptoSaid : Prop := imageTurnedUptoRow.holds Tryz.pinned (OpenSpec.upto imageTurnedSpec)

/-- 'dormouselaw09.ImageTables', WHERE WHAT IT READS IS OF BULK AT MOST 1048576: true; the input reads as it did. -/
def imageTablesUptoRow : OpenClaim := { program := "ytdfjbnonibcmeaagreat", sum := "ac34507ee721902ee68dc42572917120474e4f2633adf4edf60b00637ebd205a", func := "dormouse/dormouselaw09.ImageTables", spec := "imageTables", inPlace := ["internal/bytealg.IndexByteString", "internal/bytealg.IndexString"], unfollowed := true, recurses := true, named := ["internal/bytealg.MaxLen"], apart := false, narrowed := true }
def ImageTablesUptoSaid : Prop := imageTablesUptoRow.holds Tryz.pinned (OpenSpec.upto imageTablesSpec)

end Rows
end Go.Proofs.YtdfjbnonibcmeaaGreat
