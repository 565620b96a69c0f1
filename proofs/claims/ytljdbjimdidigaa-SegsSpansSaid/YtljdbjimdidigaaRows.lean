/-
  No cell of these rows narrows 'for every input' (looked for: loops, veiled, ifaces, maps, wideKeys, modest, calm, conditions, laid).
  DERIVED. THE GIVEN ROWS OF THIS SEAT. 8 by the template 'for every input the law returns true; each argument reads behind the call as it read before'; 0 by the template 'total and deterministic' (their statements: YtljdbjimdidigaaTotals.lean).
  GIVEN WITH THE SEED: the statements are not yours to turn. If you find one false, say at which input.
  Laid BY PROGRAM, IN A SANDBOX (cutbox-rows.mjs): the forced cells as the released guide's own fill.sh prints them over the translation dfa82c2aba89aca4… (all of the seat's roots in one cut). By AI agents, Wed Nov 11 2026. No macro, syntax, notation, axiom, sorry.
-/
import Derived.Test.YtljdbjimdidigaaChecked
import GoSem.Claim
import GoSem.ClaimJoined
import GoSem.ClaimMapViews
import Derived.JoinedTies
import Derived.KernelRfl
namespace Go.Proofs.Ytljdbjimdidigaa
/- THE CELL 'sum', in the pinned program and in every row, IS THE sha256 OF THE DUMP (.gsa) THAT YtljdbjimdidigaaProg.lean LOADS. Nothing in Lean hashes anything: it is a label: what it is worth is what the hold of that sum in a sandbox is worth. -/
noncomputable def Try.pinned : Pinned := { name := "ytljdbjimdidigaa", sum := "dfa82c2aba89aca463b104a5622ddf91989bda5cbd17f5eabb4289e72135a718", checked := Try.checked }
namespace Rows
def none {H : Type} : Left H := { results := [], args := [] }

/-- 'dormouselaw04.SegsPuts': WHATEVER THE INPUT: true; the input reads as it did. -/
def segsPutsSpec : ChangeSpec := { name := "segsPuts", fn := fun _ => fun
  | [d] => { results := [.lit (.bool true)], args := [d] }
  | _ => none }
def segsPutsRow : OpenClaim := { program := "ytljdbjimdidigaa", sum := "dfa82c2aba89aca463b104a5622ddf91989bda5cbd17f5eabb4289e72135a718", func := "dormouse/dormouselaw04.SegsPuts", spec := "segsPuts", unfollowed := true, recurses := true, apart := false }
def SegsPutsSaid : Prop := segsPutsRow.holds Try.pinned (OpenSpec.ofChange segsPutsSpec)

/-- ITS FALSE NEIGHBOUR: 'it returns false'. Refute it at one input. -/
def segsPutsWrong : ChangeSpec := { name := "segsPuts", fn := fun _ => fun
  | [d] => { results := [.lit (.bool false)], args := [d] }
  | _ => none }
def SegsPutsWrongFalsely : Prop := segsPutsRow.holds Try.pinned (OpenSpec.ofChange segsPutsWrong)

/-- 'dormouselaw04.SegsGets': WHATEVER THE INPUT: true; the input reads as it did. -/
def segsGetsSpec : ChangeSpec := { name := "segsGets", fn := fun _ => fun
  | [d1, d2, d3] => { results := [.lit (.bool true)], args := [d1, d2, d3] }
  | _ => none }
def segsGetsRow : OpenClaim := { program := "ytljdbjimdidigaa", sum := "dfa82c2aba89aca463b104a5622ddf91989bda5cbd17f5eabb4289e72135a718", func := "dormouse/dormouselaw04.SegsGets", spec := "segsGets", unfollowed := true, recurses := true, apart := false }
def SegsGetsSaid : Prop := segsGetsRow.holds Try.pinned (OpenSpec.ofChange segsGetsSpec)

/-- ITS FALSE NEIGHBOUR: 'it returns false'. Refute it at one input. -/
def segsGetsWrong : ChangeSpec := { name := "segsGets", fn := fun _ => fun
  | [d1, d2, d3] => { results := [.lit (.bool false)], args := [d1, d2, d3] }
  | _ => none }
def SegsGetsWrongFalsely : Prop := segsGetsRow.holds Try.pinned (OpenSpec.ofChange segsGetsWrong)

/-- 'dormouselaw04.SegsTables': WHATEVER THE INPUT: true; the input reads as it did. -/
def segsTablesSpec : ChangeSpec := { name := "segsTables", fn := fun _ => fun
  | [d1, d2] => { results := [.lit (.bool true)], args := [d1, d2] }
  | _ => none }
def segsTablesRow : OpenClaim := { program := "ytljdbjimdidigaa", sum := "dfa82c2aba89aca463b104a5622ddf91989bda5cbd17f5eabb4289e72135a718", func := "dormouse/dormouselaw04.SegsTables", spec := "segsTables", unfollowed := true, recurses := true, apart := false }
def SegsTablesSaid : Prop := segsTablesRow.holds Try.pinned (OpenSpec.ofChange segsTablesSpec)

/-- ITS FALSE NEIGHBOUR: 'it returns false'. Refute it at one input. -/
def segsTablesWrong : ChangeSpec := { name := "segsTables", fn := fun _ => fun
  | [d1, d2] => { results := [.lit (.bool false)], args := [d1, d2] }
  | _ => none }
def SegsTablesWrongFalsely : Prop := segsTablesRow.holds Try.pinned (OpenSpec.ofChange segsTablesWrong)

/-- 'dormouselaw04.SegsChecks': WHATEVER THE INPUT: true; the input reads as it did. -/
def segsChecksSpec : ChangeSpec := { name := "segsChecks", fn := fun _ => fun
  | [d1, d2] => { results := [.lit (.bool true)], args := [d1, d2] }
  | _ => none }
def segsChecksRow : OpenClaim := { program := "ytljdbjimdidigaa", sum := "dfa82c2aba89aca463b104a5622ddf91989bda5cbd17f5eabb4289e72135a718", func := "dormouse/dormouselaw04.SegsChecks", spec := "segsChecks", unfollowed := true, recurses := true, apart := false }
def SegsChecksSaid : Prop := segsChecksRow.holds Try.pinned (OpenSpec.ofChange segsChecksSpec)

/-- ITS FALSE NEIGHBOUR: 'it returns false'. Refute it at one input. -/
def segsChecksWrong : ChangeSpec := { name := "segsChecks", fn := fun _ => fun
  | [d1, d2] => { results := [.lit (.bool false)], args := [d1, d2] }
  | _ => none }
def SegsChecksWrongFalsely : Prop := segsChecksRow.holds Try.pinned (OpenSpec.ofChange segsChecksWrong)

/-- 'dormouselaw04.SegsPlaces': WHATEVER THE INPUT: true; the input reads as it did. -/
def segsPlacesSpec : ChangeSpec := { name := "segsPlaces", fn := fun _ => fun
  | [d1, d2, d3, d4] => { results := [.lit (.bool true)], args := [d1, d2, d3, d4] }
  | _ => none }
def segsPlacesRow : OpenClaim := { program := "ytljdbjimdidigaa", sum := "dfa82c2aba89aca463b104a5622ddf91989bda5cbd17f5eabb4289e72135a718", func := "dormouse/dormouselaw04.SegsPlaces", spec := "segsPlaces", unfollowed := true, recurses := true, apart := false }
def SegsPlacesSaid : Prop := segsPlacesRow.holds Try.pinned (OpenSpec.ofChange segsPlacesSpec)

/-- ITS FALSE NEIGHBOUR: 'it returns false'. Refute it at one input. -/
def segsPlacesWrong : ChangeSpec := { name := "segsPlaces", fn := fun _ => fun
  | [d1, d2, d3, d4] => { results := [.lit (.bool false)], args := [d1, d2, d3, d4] }
  | _ => none }
def SegsPlacesWrongFalsely : Prop := segsPlacesRow.holds Try.pinned (OpenSpec.ofChange segsPlacesWrong)

/-- 'dormouselaw04.SegsSpans': WHATEVER THE INPUT: true; the input reads as it did. -/
def segsSpansSpec : ChangeSpec := { name := "segsSpans", fn := fun _ => fun
  | [d1, d2, d3, d4] => { results := [.lit (.bool true)], args := [d1, d2, d3, d4] }
  | _ => none }
def segsSpansRow : OpenClaim := { program := "ytljdbjimdidigaa", sum := "dfa82c2aba89aca463b104a5622ddf91989bda5cbd17f5eabb4289e72135a718", func := "dormouse/dormouselaw04.SegsSpans", spec := "segsSpans", unfollowed := true, recurses := true, apart := false }
def SegsSpansSaid : Prop := segsSpansRow.holds Try.pinned (OpenSpec.ofChange segsSpansSpec)

/-- ITS FALSE NEIGHBOUR: 'it returns false'. Refute it at one input. -/
def segsSpansWrong : ChangeSpec := { name := "segsSpans", fn := fun _ => fun
  | [d1, d2, d3, d4] => { results := [.lit (.bool false)], args := [d1, d2, d3, d4] }
  | _ => none }
def SegsSpansWrongFalsely : Prop := segsSpansRow.holds Try.pinned (OpenSpec.ofChange segsSpansWrong)

/-- 'dormouselaw04.SegsOne': WHATEVER THE INPUT: true; the input reads as it did. -/
def segsOneSpec : ChangeSpec := { name := "segsOne", fn := fun _ => fun
  | [d1, d2] => { results := [.lit (.bool true)], args := [d1, d2] }
  | _ => none }
def segsOneRow : OpenClaim := { program := "ytljdbjimdidigaa", sum := "dfa82c2aba89aca463b104a5622ddf91989bda5cbd17f5eabb4289e72135a718", func := "dormouse/dormouselaw04.SegsOne", spec := "segsOne", unfollowed := true, recurses := true, apart := false }
def SegsOneSaid : Prop := segsOneRow.holds Try.pinned (OpenSpec.ofChange segsOneSpec)

/-- ITS FALSE NEIGHBOUR: 'it returns false'. Refute it at one input. -/
def segsOneWrong : ChangeSpec := { name := "segsOne", fn := fun _ => fun
  | [d1, d2] => { results := [.lit (.bool false)], args := [d1, d2] }
  | _ => none }
def SegsOneWrongFalsely : Prop := segsOneRow.holds Try.pinned (OpenSpec.ofChange segsOneWrong)

/-- 'dormouselaw04.SegsTwo': WHATEVER THE INPUT: true; the input reads as it did. -/
def segsTwoSpec : ChangeSpec := { name := "segsTwo", fn := fun _ => fun
  | [d1, d2, d3, d4, d5, d6, d7] => { results := [.lit (.bool true)], args := [d1, d2, d3, d4, d5, d6, d7] }
  | _ => none }
def segsTwoRow : OpenClaim := { program := "ytljdbjimdidigaa", sum := "dfa82c2aba89aca463b104a5622ddf91989bda5cbd17f5eabb4289e72135a718", func := "dormouse/dormouselaw04.SegsTwo", spec := "segsTwo", unfollowed := true, recurses := true, apart := false }
def SegsTwoSaid : Prop := segsTwoRow.holds Try.pinned (OpenSpec.ofChange segsTwoSpec)

/-- ITS FALSE NEIGHBOUR: 'it returns false'. Refute it at one input. -/
def segsTwoWrong : ChangeSpec := { name := "segsTwo", fn := fun _ => fun
  | [d1, d2, d3, d4, d5, d6, d7] => { results := [.lit (.bool false)], args := [d1, d2, d3, d4, d5, d6, d7] }
  | _ => none }
def SegsTwoWrongFalsely : Prop := segsTwoRow.holds Try.pinned (OpenSpec.ofChange segsTwoWrong)

/- THE SECOND FORM. 'bulk': how many values and letters a reading holds, each counted each time it is reached (what is shared counts as often as it is met; a slice's spare places count too). A statement '..UptoSaid' is the law's where the arguments, and the package variables that the reading takes, are together of bulk at most 1048576: NARROWER than '..Said'. Prove '..Said' where nothing that the law and all that it calls make is longer than what came in: it says more and counts as full. Else prove '..UptoSaid'. A law counts once. -/
mutual
def uptoBulk {H : Type} : DataW H → Nat
  | .lit (.string bytes) => bytes.length + 1
  | .lit _ => 1
  | .nil => 1
  | .ptr d => uptoBulk d + 1
  | .slice elems spare => uptoBulkAll elems + uptoBulkAll spare + 1
  | .agg parts => uptoBulkAll parts + 1
  | .iface _ d => uptoBulk d + 1
  | .map entries => uptoBulkEntries entries + 1
  | .held _ => 1
def uptoBulkAll {H : Type} : List (DataW H) → Nat
  | [] => 0
  | d :: r => uptoBulk d + uptoBulkAll r
def uptoBulkEntries {H : Type} : List (Lit × DataW H) → Nat
  | [] => 0
  | x :: r => uptoBulkEntry x + uptoBulkEntries r
def uptoBulkEntry {H : Type} : Lit × DataW H → Nat
  | (.string bytes, d) => bytes.length + uptoBulk d + 1
  | (_, d) => uptoBulk d + 1
 end
def uptoSmall : (H : Type) → List (DataW H) → Bool := fun _ ds => decide (uptoBulkAll ds ≤ 1048576)
def OpenSpec.upto (s : _root_.Go.ChangeSpec) : _root_.Go.OpenSpec := { _root_.Go.OpenSpec.ofChange s with cond := some uptoSmall }

/-- 'dormouselaw04.SegsPuts', WHERE WHAT IT READS IS OF BULK AT MOST 1048576: true; the input reads as it did. -/
def segsPutsUptoRow : OpenClaim := { program := "ytljdbjimdidigaa", sum := "dfa82c2aba89aca463b104a5622ddf91989bda5cbd17f5eabb4289e72135a718", func := "dormouse/dormouselaw04.SegsPuts", spec := "segsPuts", unfollowed := true, recurses := true, apart := false, narrowed := true }
def SegsPutsUptoSaid : Prop := segsPutsUptoRow.holds Try.pinned (OpenSpec.upto segsPutsSpec)

/-- 'dormouselaw04.SegsGets', WHERE WHAT IT READS IS OF BULK AT MOST 1048576: true; the input reads as it did. -/
def segsGetsUptoRow : OpenClaim := { program := "ytljdbjimdidigaa", sum := "dfa82c2aba89aca463b104a5622ddf91989bda5cbd17f5eabb4289e72135a718", func := "dormouse/dormouselaw04.SegsGets", spec := "segsGets", unfollowed := true, recurses := true, apart := false, narrowed := true }
def SegsGetsUptoSaid : Prop := segsGetsUptoRow.holds Try.pinned (OpenSpec.upto segsGetsSpec)

/-- 'dormouselaw04.SegsTables', WHERE WHAT IT READS IS OF BULK AT MOST 1048576: true; the input reads as it did. -/
def segsTablesUptoRow : OpenClaim := { program := "ytljdbjimdidigaa", sum := "dfa82c2aba89aca463b104a5622ddf91989bda5cbd17f5eabb4289e72135a718", func := "dormouse/dormouselaw04.SegsTables", spec := "segsTables", unfollowed := true, recurses := true, apart := false, narrowed := true }
def SegsTablesUptoSaid : Prop := segsTablesUptoRow.holds Try.pinned (OpenSpec.upto segsTablesSpec)

/-- 'dormouselaw04.SegsChecks', WHERE WHAT IT READS IS OF BULK AT MOST 1048576: true; the input reads as it did. -/
def segsChecksUptoRow : OpenClaim := { program := "ytljdbjimdidigaa", sum := "dfa82c2aba89aca463b104a5622ddf91989bda5cbd17f5eabb4289e72135a718", func := "dormouse/dormouselaw04.SegsChecks", spec := "segsChecks", unfollowed := true, recurses := true, apart := false, narrowed := true }
def SegsChecksUptoSaid : Prop := segsChecksUptoRow.holds Try.pinned (OpenSpec.upto segsChecksSpec)

/-- 'dormouselaw04.SegsPlaces', WHERE WHAT IT READS IS OF BULK AT MOST 1048576: true; the input reads as it did. -/
def segsPlacesUptoRow : OpenClaim := { program := "ytljdbjimdidigaa", sum := "dfa82c2aba89aca463b104a5622ddf91989bda5cbd17f5eabb4289e72135a718", func := "dormouse/dormouselaw04.SegsPlaces", spec := "segsPlaces", unfollowed := true, recurses := true, apart := false, narrowed := true }
def SegsPlacesUptoSaid : Prop := segsPlacesUptoRow.holds Try.pinned (OpenSpec.upto segsPlacesSpec)

/-- 'dormouselaw04.SegsSpans', WHERE WHAT IT READS IS OF BULK AT MOST 1048576: true; the input reads as it did. -/
def segsSpansUptoRow : OpenClaim := { program := "ytljdbjimdidigaa", sum := "dfa82c2aba89aca463b104a5622ddf91989bda5cbd17f5eabb4289e72135a718", func := "dormouse/dormouselaw04.SegsSpans", spec := "segsSpans", unfollowed := true, recurses := true, apart := false, narrowed := true }
def SegsSpansUptoSaid : Prop := segsSpansUptoRow.holds Try.pinned (OpenSpec.upto segsSpansSpec)

/-- 'dormouselaw04.SegsOne', WHERE WHAT IT READS IS OF BULK AT MOST 1048576: true; the input reads as it did. -/
def segsOneUptoRow : OpenClaim := { program := "ytljdbjimdidigaa", sum := "dfa82c2aba89aca463b104a5622ddf91989bda5cbd17f5eabb4289e72135a718", func := "dormouse/dormouselaw04.SegsOne", spec := "segsOne", unfollowed := true, recurses := true, apart := false, narrowed := true }
def SegsOneUptoSaid : Prop := segsOneUptoRow.holds Try.pinned (OpenSpec.upto segsOneSpec)

/-- 'dormouselaw04.SegsTwo', WHERE WHAT IT READS IS OF BULK AT MOST 1048576: true; the input reads as it did. -/
def segsTwoUptoRow : OpenClaim := { program := "ytljdbjimdidigaa", sum := "dfa82c2aba89aca463b104a5622ddf91989bda5cbd17f5eabb4289e72135a718", func := "dormouse/dormouselaw04.SegsTwo", spec := "segsTwo", unfollowed := true, recurses := true, apart := false, narrowed := true }
def SegsTwoUptoSaid : Prop := segsTwoUptoRow.holds Try.pinned (OpenSpec.upto segsTwoSpec)

end Rows
end Go.Proofs.Ytljdbjimdidigaa
