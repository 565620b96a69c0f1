/-
  No cell of these rows narrows 'for every input' (looked for: loops, veiled, ifaces, maps, wideKeys, modest, calm, conditions, laid).
  DERIVED. THE GIVEN ROWS OF THIS SEAT. 12 by the template 'for every input the law returns true; each argument reads behind the call as it read before'; 0 by the template 'total and deterministic' (their statements: YtmlghbdlhjinaaaTotals.lean).
  GIVEN WITH THE SEED: the statements are not yours to turn. If you find one false, say at which input.
  Laid BY PROGRAM, IN A SANDBOX (cutbox-rows.mjs): the forced cells as the released guide's own fill.sh prints them over the translation 832e812868589f77… (all of the seat's roots in one cut). By AI agents, Wed Nov 11 2026. No macro, syntax, notation, axiom, sorry.
-/
import Derived.Test.YtmlghbdlhjinaaaChecked
import GoSem.Claim
import GoSem.ClaimJoined
import GoSem.ClaimMapViews
import Derived.JoinedTies
import Derived.KernelRfl
namespace Go.Proofs.Ytmlghbdlhjinaaa
/- THE CELL 'sum', in the pinned program and in every row, IS THE sha256 OF THE DUMP (.gsa) THAT YtmlghbdlhjinaaaProg.lean LOADS. Nothing in Lean hashes anything: it is a label: what it is worth is what the hold of that sum in a sandbox is worth. -/
noncomputable def Try.pinned : Pinned := { name := "ytmlghbdlhjinaaa", sum := "832e812868589f77e623def552966e6eccb7b249ff6f4d27ba91640d22b6e8fd", checked := Try.checked }
namespace Rows
def none {H : Type} : Left H := { results := [], args := [] }

/-- 'dormouselaw02.NamesReads': WHATEVER THE INPUT: true; the input reads as it did. -/
def namesReadsSpec : ChangeSpec := { name := "namesReads", fn := fun _ => fun
  | [d1, d2] => { results := [.lit (.bool true)], args := [d1, d2] }
  | _ => none }
def namesReadsRow : OpenClaim := { program := "ytmlghbdlhjinaaa", sum := "832e812868589f77e623def552966e6eccb7b249ff6f4d27ba91640d22b6e8fd", func := "dormouse/dormouselaw02.NamesReads", spec := "namesReads", inPlace := ["internal/bytealg.IndexByteString", "internal/bytealg.IndexString"], named := ["internal/bytealg.MaxLen"], apart := false }
def NamesReadsSaid : Prop := namesReadsRow.holds Try.pinned (OpenSpec.ofChange namesReadsSpec)

/-- ITS FALSE NEIGHBOUR: 'it returns false'. Refute it at one input. -/
def namesReadsWrong : ChangeSpec := { name := "namesReads", fn := fun _ => fun
  | [d1, d2] => { results := [.lit (.bool false)], args := [d1, d2] }
  | _ => none }
def NamesReadsWrongFalsely : Prop := namesReadsRow.holds Try.pinned (OpenSpec.ofChange namesReadsWrong)

/-- 'dormouselaw02.NamesBuilds': WHATEVER THE INPUT: true; the input reads as it did. -/
def namesBuildsSpec : ChangeSpec := { name := "namesBuilds", fn := fun _ => fun
  | [d] => { results := [.lit (.bool true)], args := [d] }
  | _ => none }
def namesBuildsRow : OpenClaim := { program := "ytmlghbdlhjinaaa", sum := "832e812868589f77e623def552966e6eccb7b249ff6f4d27ba91640d22b6e8fd", func := "dormouse/dormouselaw02.NamesBuilds", spec := "namesBuilds", inPlace := ["internal/bytealg.IndexByteString", "internal/bytealg.IndexString"], named := ["internal/bytealg.MaxLen"], apart := false }
def NamesBuildsSaid : Prop := namesBuildsRow.holds Try.pinned (OpenSpec.ofChange namesBuildsSpec)

/-- ITS FALSE NEIGHBOUR: 'it returns false'. Refute it at one input. -/
def namesBuildsWrong : ChangeSpec := { name := "namesBuilds", fn := fun _ => fun
  | [d] => { results := [.lit (.bool false)], args := [d] }
  | _ => none }
def NamesBuildsWrongFalsely : Prop := namesBuildsRow.holds Try.pinned (OpenSpec.ofChange namesBuildsWrong)

/-- 'dormouselaw02.NamesBack': WHATEVER THE INPUT: true; the input reads as it did. -/
def namesBackSpec : ChangeSpec := { name := "namesBack", fn := fun _ => fun
  | [d] => { results := [.lit (.bool true)], args := [d] }
  | _ => none }
def namesBackRow : OpenClaim := { program := "ytmlghbdlhjinaaa", sum := "832e812868589f77e623def552966e6eccb7b249ff6f4d27ba91640d22b6e8fd", func := "dormouse/dormouselaw02.NamesBack", spec := "namesBack", inPlace := ["internal/bytealg.IndexByteString", "internal/bytealg.IndexString"], named := ["internal/bytealg.MaxLen"], apart := false }
def NamesBackSaid : Prop := namesBackRow.holds Try.pinned (OpenSpec.ofChange namesBackSpec)

/-- ITS FALSE NEIGHBOUR: 'it returns false'. Refute it at one input. -/
def namesBackWrong : ChangeSpec := { name := "namesBack", fn := fun _ => fun
  | [d] => { results := [.lit (.bool false)], args := [d] }
  | _ => none }
def NamesBackWrongFalsely : Prop := namesBackRow.holds Try.pinned (OpenSpec.ofChange namesBackWrong)

/-- 'dormouselaw02.NamesGreat': WHATEVER THE INPUT: true; the input reads as it did. -/
def namesGreatSpec : ChangeSpec := { name := "namesGreat", fn := fun _ => fun
  | [d] => { results := [.lit (.bool true)], args := [d] }
  | _ => none }
def namesGreatRow : OpenClaim := { program := "ytmlghbdlhjinaaa", sum := "832e812868589f77e623def552966e6eccb7b249ff6f4d27ba91640d22b6e8fd", func := "dormouse/dormouselaw02.NamesGreat", spec := "namesGreat", inPlace := ["internal/bytealg.IndexByteString", "internal/bytealg.IndexString"], named := ["internal/bytealg.MaxLen"], apart := false }
def NamesGreatSaid : Prop := namesGreatRow.holds Try.pinned (OpenSpec.ofChange namesGreatSpec)

/-- ITS FALSE NEIGHBOUR: 'it returns false'. Refute it at one input. -/
def namesGreatWrong : ChangeSpec := { name := "namesGreat", fn := fun _ => fun
  | [d] => { results := [.lit (.bool false)], args := [d] }
  | _ => none }
def NamesGreatWrongFalsely : Prop := namesGreatRow.holds Try.pinned (OpenSpec.ofChange namesGreatWrong)

/-- 'dormouselaw02.NamesOne': WHATEVER THE INPUT: true; the input reads as it did. -/
def namesOneSpec : ChangeSpec := { name := "namesOne", fn := fun _ => fun
  | [d] => { results := [.lit (.bool true)], args := [d] }
  | _ => none }
def namesOneRow : OpenClaim := { program := "ytmlghbdlhjinaaa", sum := "832e812868589f77e623def552966e6eccb7b249ff6f4d27ba91640d22b6e8fd", func := "dormouse/dormouselaw02.NamesOne", spec := "namesOne", inPlace := ["internal/bytealg.IndexByteString", "internal/bytealg.IndexString"], named := ["internal/bytealg.MaxLen"], apart := false }
def NamesOneSaid : Prop := namesOneRow.holds Try.pinned (OpenSpec.ofChange namesOneSpec)

/-- ITS FALSE NEIGHBOUR: 'it returns false'. Refute it at one input. -/
def namesOneWrong : ChangeSpec := { name := "namesOne", fn := fun _ => fun
  | [d] => { results := [.lit (.bool false)], args := [d] }
  | _ => none }
def NamesOneWrongFalsely : Prop := namesOneRow.holds Try.pinned (OpenSpec.ofChange namesOneWrong)

/-- 'dormouselaw02.NamesTwice': WHATEVER THE INPUT: true; the input reads as it did. -/
def namesTwiceSpec : ChangeSpec := { name := "namesTwice", fn := fun _ => fun
  | [d] => { results := [.lit (.bool true)], args := [d] }
  | _ => none }
def namesTwiceRow : OpenClaim := { program := "ytmlghbdlhjinaaa", sum := "832e812868589f77e623def552966e6eccb7b249ff6f4d27ba91640d22b6e8fd", func := "dormouse/dormouselaw02.NamesTwice", spec := "namesTwice", inPlace := ["internal/bytealg.IndexByteString", "internal/bytealg.IndexString"], named := ["internal/bytealg.MaxLen"], apart := false }
def NamesTwiceSaid : Prop := namesTwiceRow.holds Try.pinned (OpenSpec.ofChange namesTwiceSpec)

/-- ITS FALSE NEIGHBOUR: 'it returns false'. Refute it at one input. -/
def namesTwiceWrong : ChangeSpec := { name := "namesTwice", fn := fun _ => fun
  | [d] => { results := [.lit (.bool false)], args := [d] }
  | _ => none }
def NamesTwiceWrongFalsely : Prop := namesTwiceRow.holds Try.pinned (OpenSpec.ofChange namesTwiceWrong)

/-- 'dormouselaw08.NotesPuts': WHATEVER THE INPUT: true; the input reads as it did. -/
def notesPutsSpec : ChangeSpec := { name := "notesPuts", fn := fun _ => fun
  | [d] => { results := [.lit (.bool true)], args := [d] }
  | _ => none }
def notesPutsRow : OpenClaim := { program := "ytmlghbdlhjinaaa", sum := "832e812868589f77e623def552966e6eccb7b249ff6f4d27ba91640d22b6e8fd", func := "dormouse/dormouselaw08.NotesPuts", spec := "notesPuts", inPlace := ["internal/bytealg.IndexByteString", "internal/bytealg.IndexString"], unfollowed := true, recurses := true, named := ["internal/bytealg.MaxLen"], apart := false }
def NotesPutsSaid : Prop := notesPutsRow.holds Try.pinned (OpenSpec.ofChange notesPutsSpec)

/-- ITS FALSE NEIGHBOUR: 'it returns false'. Refute it at one input. -/
def notesPutsWrong : ChangeSpec := { name := "notesPuts", fn := fun _ => fun
  | [d] => { results := [.lit (.bool false)], args := [d] }
  | _ => none }
def NotesPutsWrongFalsely : Prop := notesPutsRow.holds Try.pinned (OpenSpec.ofChange notesPutsWrong)

/-- 'dormouselaw08.NotesGets': WHATEVER THE INPUT: true; the input reads as it did. -/
def notesGetsSpec : ChangeSpec := { name := "notesGets", fn := fun _ => fun
  | [d] => { results := [.lit (.bool true)], args := [d] }
  | _ => none }
def notesGetsRow : OpenClaim := { program := "ytmlghbdlhjinaaa", sum := "832e812868589f77e623def552966e6eccb7b249ff6f4d27ba91640d22b6e8fd", func := "dormouse/dormouselaw08.NotesGets", spec := "notesGets", inPlace := ["internal/bytealg.IndexByteString", "internal/bytealg.IndexString"], unfollowed := true, recurses := true, named := ["internal/bytealg.MaxLen"], apart := false }
def NotesGetsSaid : Prop := notesGetsRow.holds Try.pinned (OpenSpec.ofChange notesGetsSpec)

/-- ITS FALSE NEIGHBOUR: 'it returns false'. Refute it at one input. -/
def notesGetsWrong : ChangeSpec := { name := "notesGets", fn := fun _ => fun
  | [d] => { results := [.lit (.bool false)], args := [d] }
  | _ => none }
def NotesGetsWrongFalsely : Prop := notesGetsRow.holds Try.pinned (OpenSpec.ofChange notesGetsWrong)

/-- 'dormouselaw08.NotesFinds': WHATEVER THE INPUT: true; the input reads as it did. -/
def notesFindsSpec : ChangeSpec := { name := "notesFinds", fn := fun _ => fun
  | [d1, d2, d3] => { results := [.lit (.bool true)], args := [d1, d2, d3] }
  | _ => none }
def notesFindsRow : OpenClaim := { program := "ytmlghbdlhjinaaa", sum := "832e812868589f77e623def552966e6eccb7b249ff6f4d27ba91640d22b6e8fd", func := "dormouse/dormouselaw08.NotesFinds", spec := "notesFinds", inPlace := ["internal/bytealg.IndexByteString", "internal/bytealg.IndexString"], unfollowed := true, recurses := true, named := ["internal/bytealg.MaxLen"], apart := false }
def NotesFindsSaid : Prop := notesFindsRow.holds Try.pinned (OpenSpec.ofChange notesFindsSpec)

/-- ITS FALSE NEIGHBOUR: 'it returns false'. Refute it at one input. -/
def notesFindsWrong : ChangeSpec := { name := "notesFinds", fn := fun _ => fun
  | [d1, d2, d3] => { results := [.lit (.bool false)], args := [d1, d2, d3] }
  | _ => none }
def NotesFindsWrongFalsely : Prop := notesFindsRow.holds Try.pinned (OpenSpec.ofChange notesFindsWrong)

/-- 'dormouselaw08.NotesBack': WHATEVER THE INPUT: true; the input reads as it did. -/
def notesBackSpec : ChangeSpec := { name := "notesBack", fn := fun _ => fun
  | [d1, d2] => { results := [.lit (.bool true)], args := [d1, d2] }
  | _ => none }
def notesBackRow : OpenClaim := { program := "ytmlghbdlhjinaaa", sum := "832e812868589f77e623def552966e6eccb7b249ff6f4d27ba91640d22b6e8fd", func := "dormouse/dormouselaw08.NotesBack", spec := "notesBack", inPlace := ["internal/bytealg.IndexByteString", "internal/bytealg.IndexString"], unfollowed := true, recurses := true, named := ["internal/bytealg.MaxLen"], apart := false }
def NotesBackSaid : Prop := notesBackRow.holds Try.pinned (OpenSpec.ofChange notesBackSpec)

/-- ITS FALSE NEIGHBOUR: 'it returns false'. Refute it at one input. -/
def notesBackWrong : ChangeSpec := { name := "notesBack", fn := fun _ => fun
  | [d1, d2] => { results := [.lit (.bool false)], args := [d1, d2] }
  | _ => none }
def NotesBackWrongFalsely : Prop := notesBackRow.holds Try.pinned (OpenSpec.ofChange notesBackWrong)

/-- 'dormouselaw08.NotesHeads': WHATEVER THE INPUT: true; the input reads as it did. -/
def notesHeadsSpec : ChangeSpec := { name := "notesHeads", fn := fun _ => fun
  | [d1, d2, d3, d4] => { results := [.lit (.bool true)], args := [d1, d2, d3, d4] }
  | _ => none }
def notesHeadsRow : OpenClaim := { program := "ytmlghbdlhjinaaa", sum := "832e812868589f77e623def552966e6eccb7b249ff6f4d27ba91640d22b6e8fd", func := "dormouse/dormouselaw08.NotesHeads", spec := "notesHeads", inPlace := ["internal/bytealg.IndexByteString", "internal/bytealg.IndexString"], unfollowed := true, recurses := true, named := ["internal/bytealg.MaxLen"], apart := false }
def NotesHeadsSaid : Prop := notesHeadsRow.holds Try.pinned (OpenSpec.ofChange notesHeadsSpec)

/-- ITS FALSE NEIGHBOUR: 'it returns false'. Refute it at one input. -/
def notesHeadsWrong : ChangeSpec := { name := "notesHeads", fn := fun _ => fun
  | [d1, d2, d3, d4] => { results := [.lit (.bool false)], args := [d1, d2, d3, d4] }
  | _ => none }
def NotesHeadsWrongFalsely : Prop := notesHeadsRow.holds Try.pinned (OpenSpec.ofChange notesHeadsWrong)

/-- 'dormouselaw08.NotesMany': WHATEVER THE INPUT: true; the input reads as it did. -/
def notesManySpec : ChangeSpec := { name := "notesMany", fn := fun _ => fun
  | [d] => { results := [.lit (.bool true)], args := [d] }
  | _ => none }
def notesManyRow : OpenClaim := { program := "ytmlghbdlhjinaaa", sum := "832e812868589f77e623def552966e6eccb7b249ff6f4d27ba91640d22b6e8fd", func := "dormouse/dormouselaw08.NotesMany", spec := "notesMany", inPlace := ["internal/bytealg.IndexByteString", "internal/bytealg.IndexString"], unfollowed := true, recurses := true, named := ["internal/bytealg.MaxLen"], apart := false }
def NotesManySaid : Prop := notesManyRow.holds Try.pinned (OpenSpec.ofChange notesManySpec)

/-- ITS FALSE NEIGHBOUR: 'it returns false'. Refute it at one input. -/
def notesManyWrong : ChangeSpec := { name := "notesMany", fn := fun _ => fun
  | [d] => { results := [.lit (.bool false)], args := [d] }
  | _ => none }
def NotesManyWrongFalsely : Prop := notesManyRow.holds Try.pinned (OpenSpec.ofChange notesManyWrong)

/- THE SECOND FORM. 'bulk': how many values and letters a reading holds, each counted each time it is reached (what is shared counts as often as it is met; a slice's spare places count too). A statement '..UptoSaid' is the law's where the arguments, and the package variables that the reading takes, are together of bulk at most 1048576: NARROWER than '..Said'. Prove '..Said' where nothing that the law and all that it calls make is longer than what came in: it says more and counts as full. Else prove '..UptoSaid'. A law counts once. -/
mutual
def uptoBulk {H : Type} : DataW H → Nat
  | .lit (.string bytes) => bytes.length + 1
  | .lit _ => 1
  | .nil => 1
  | .ptr d => uptoBulk d + 1
  | .slice elems spare => uptoBulkAll elems + uptoBulkAll spare + 1
  | .agg parts => uptoBulkAll parts + 1
  | .iface _ d => uptoBulk d + 1
  | .map entries => uptoBulkEntries entries + 1
  | .held _ => 1
def uptoBulkAll {H : Type} : List (DataW H) → Nat
  | [] => 0
  | d :: r => uptoBulk d + uptoBulkAll r
def uptoBulkEntries {H : Type} : List (Lit × DataW H) → Nat
  | [] => 0
  | x :: r => uptoBulkEntry x + uptoBulkEntries r
def uptoBulkEntry {H : Type} : Lit × DataW H → Nat
  | (.string bytes, d) => bytes.length + uptoBulk d + 1
  | (_, d) => uptoBulk d + 1
 end
def uptoSmall : (H : Type) → List (DataW H) → Bool := fun _ ds => decide (uptoBulkAll ds ≤ 1048576)
def OpenSpec.upto (s : _root_.Go.ChangeSpec) : _root_.Go.OpenSpec := { _root_.Go.OpenSpec.ofChange s with cond := some uptoSmall }

/-- 'dormouselaw02.NamesReads', WHERE WHAT IT READS IS OF BULK AT MOST 1048576: true; the input reads as it did. -/
def namesReadsUptoRow : OpenClaim := { program := "ytmlghbdlhjinaaa", sum := "832e812868589f77e623def552966e6eccb7b249ff6f4d27ba91640d22b6e8fd", func := "dormouse/dormouselaw02.NamesReads", spec := "namesReads", inPlace := ["internal/bytealg.IndexByteString", "internal/bytealg.IndexString"], named := ["internal/bytealg.MaxLen"], apart := false, narrowed := true }
def NamesReadsUptoSaid : Prop := namesReadsUptoRow.holds Try.pinned (OpenSpec.upto namesReadsSpec)

/-- 'dormouselaw02.NamesBuilds', WHERE WHAT IT READS IS OF BULK AT MOST 1048576: true; the input reads as it did. -/
def namesBuildsUptoRow : OpenClaim := { program := "ytmlghbdlhjinaaa", sum := "832e812868589f77e623def552966e6eccb7b249ff6f4d27ba91640d22b6e8fd", func := "dormouse/dormouselaw02.NamesBuilds", spec := "namesBuilds", inPlace := ["internal/bytealg.IndexByteString", "internal/bytealg.IndexString"], named := ["internal/bytealg.MaxLen"], apart := false, narrowed := true }
def NamesBuildsUptoSaid : Prop := namesBuildsUptoRow.holds Try.pinned (OpenSpec.upto namesBuildsSpec)

/-- 'dormouselaw02.NamesBack', WHERE WHAT IT READS IS OF BULK AT MOST 1048576: true; the input reads as it did. -/
def namesBackUptoRow : OpenClaim := { program := "ytmlghbdlhjinaaa", sum := "832e812868589f77e623def552966e6eccb7b249ff6f4d27ba91640d22b6e8fd", func := "dormouse/dormouselaw02.NamesBack", spec := "namesBack", inPlace := ["internal/bytealg.IndexByteString", "internal/bytealg.IndexString"], named := ["internal/bytealg.MaxLen"], apart := false, narrowed := true }
def NamesBackUptoSaid : Prop := namesBackUptoRow.holds Try.pinned (OpenSpec.upto namesBackSpec)

/-- 'dormouselaw02.NamesGreat', WHERE WHAT IT READS IS OF BULK AT MOST 1048576: true; the input reads as it did. -/
def namesGreatUptoRow : OpenClaim := { program := "ytmlghbdlhjinaaa", sum := "832e812868589f77e623def552966e6eccb7b249ff6f4d27ba91640d22b6e8fd", func := "dormouse/dormouselaw02.NamesGreat", spec := "namesGreat", inPlace := ["internal/bytealg.IndexByteString", "internal/bytealg.IndexString"], named := ["internal/bytealg.MaxLen"], apart := false, narrowed := true }
def NamesGreatUptoSaid : Prop := namesGreatUptoRow.holds Try.pinned (OpenSpec.upto namesGreatSpec)

/-- 'dormouselaw02.NamesOne', WHERE WHAT IT READS IS OF BULK AT MOST 1048576: true; the input reads as it did. -/
def namesOneUptoRow : OpenClaim := { program := "ytmlghbdlhjinaaa", sum := "832e812868589f77e623def552966e6eccb7b249ff6f4d27ba91640d22b6e8fd", func := "dormouse/dormouselaw02.NamesOne", spec := "namesOne", inPlace := ["internal/bytealg.IndexByteString", "internal/bytealg.IndexString"], named := ["internal/bytealg.MaxLen"], apart := false, narrowed := true }
def NamesOneUptoSaid : Prop := namesOneUptoRow.holds Try.pinned (OpenSpec.upto namesOneSpec)

/-- 'dormouselaw02.NamesTwice', WHERE WHAT IT READS IS OF BULK AT MOST 1048576: true; the input reads as it did. -/
def namesTwiceUptoRow : OpenClaim := { program := "ytmlghbdlhjinaaa", sum := "832e812868589f77e623def552966e6eccb7b249ff6f4d27ba91640d22b6e8fd", func := "dormouse/dormouselaw02.NamesTwice", spec := "namesTwice", inPlace := ["internal/bytealg.IndexByteString", "internal/bytealg.IndexString"], named := ["internal/bytealg.MaxLen"], apart := false, narrowed := true }
def NamesTwiceUptoSaid : Prop := namesTwiceUptoRow.holds Try.pinned (OpenSpec.upto namesTwiceSpec)

/-- 'dormouselaw08.NotesPuts', WHERE WHAT IT READS IS OF BULK AT MOST 1048576: true; the input reads as it did. -/
def notesPutsUptoRow : OpenClaim := { program := "ytmlghbdlhjinaaa", sum := "832e812868589f77e623def552966e6eccb7b249ff6f4d27ba91640d22b6e8fd", func := "dormouse/dormouselaw08.NotesPuts", spec := "notesPuts", inPlace := ["internal/bytealg.IndexByteString", "internal/bytealg.IndexString"], unfollowed := true, recurses := true, named := ["internal/bytealg.MaxLen"], apart := false, narrowed := true }
def NotesPutsUptoSaid : Prop := notesPutsUptoRow.holds Try.pinned (OpenSpec.upto notesPutsSpec)

/-- 'dormouselaw08.NotesGets', WHERE WHAT IT READS IS OF BULK AT MOST 1048576: true; the input reads as it did. -/
def notesGetsUptoRow : OpenClaim := { program := "ytmlghbdlhjinaaa", sum := "832e812868589f77e623def552966e6eccb7b249ff6f4d27ba91640d22b6e8fd", func := "dormouse/dormouselaw08.NotesGets", spec := "notesGets", inPlace := ["internal/bytealg.IndexByteString", "internal/bytealg.IndexString"], unfollowed := true, recurses := true, named := ["internal/bytealg.MaxLen"], apart := false, narrowed := true }
def NotesGetsUptoSaid : Prop := notesGetsUptoRow.holds Try.pinned (OpenSpec.upto notesGetsSpec)

/-- 'dormouselaw08.NotesFinds', WHERE WHAT IT READS IS OF BULK AT MOST 1048576: true; the input reads as it did. -/
def notesFindsUptoRow : OpenClaim := { program := "ytmlghbdlhjinaaa", sum := "832e812868589f77e623def552966e6eccb7b249ff6f4d27ba91640d22b6e8fd", func := "dormouse/dormouselaw08.NotesFinds", spec := "notesFinds", inPlace := ["internal/bytealg.IndexByteString", "internal/bytealg.IndexString"], unfollowed := true, recurses := true, named := ["internal/bytealg.MaxLen"], apart := false, narrowed := true }
def NotesFindsUptoSaid : Prop := notesFindsUptoRow.holds Try.pinned (OpenSpec.upto notesFindsSpec)

/-- 'dormouselaw08.NotesBack', WHERE WHAT IT READS IS OF BULK AT MOST 1048576: true; the input reads as it did. -/
def notesBackUptoRow : OpenClaim := { program := "ytmlghbdlhjinaaa", sum := "832e812868589f77e623def552966e6eccb7b249ff6f4d27ba91640d22b6e8fd", func := "dormouse/dormouselaw08.NotesBack", spec := "notesBack", inPlace := ["internal/bytealg.IndexByteString", "internal/bytealg.IndexString"], unfollowed := true, recurses := true, named := ["internal/bytealg.MaxLen"], apart := false, narrowed := true }
def NotesBackUptoSaid : Prop := notesBackUptoRow.holds Try.pinned (OpenSpec.upto notesBackSpec)

/-- 'dormouselaw08.NotesHeads', WHERE WHAT IT READS IS OF BULK AT MOST 1048576: true; the input reads as it did. -/
def notesHeadsUptoRow : OpenClaim := { program := "ytmlghbdlhjinaaa", sum := "832e812868589f77e623def552966e6eccb7b249ff6f4d27ba91640d22b6e8fd", func := "dormouse/dormouselaw08.NotesHeads", spec := "notesHeads", inPlace := ["internal/bytealg.IndexByteString", "internal/bytealg.IndexString"], unfollowed := true, recurses := true, named := ["internal/bytealg.MaxLen"], apart := false, narrowed := true }
def NotesHeadsUptoSaid : Prop := notesHeadsUptoRow.holds Try.pinned (OpenSpec.upto notesHeadsSpec)

/-- 'dormouselaw08.NotesMany', WHERE WHAT IT READS IS OF BULK AT MOST 1048576: true; the input reads as it did. -/
def notesManyUptoRow : OpenClaim := { program := "ytmlghbdlhjinaaa", sum := "832e812868589f77e623def552966e6eccb7b249ff6f4d27ba91640d22b6e8fd", func := "dormouse/dormouselaw08.NotesMany", spec := "notesMany", inPlace := ["internal/bytealg.IndexByteString", "internal/bytealg.IndexString"], unfollowed := true, recurses := true, named := ["internal/bytealg.MaxLen"], apart := false, narrowed := true }
def NotesManyUptoSaid : Prop := notesManyUptoRow.holds Try.pinned (OpenSpec.upto notesManySpec)

end Rows
end Go.Proofs.Ytmlghbdlhjinaaa
