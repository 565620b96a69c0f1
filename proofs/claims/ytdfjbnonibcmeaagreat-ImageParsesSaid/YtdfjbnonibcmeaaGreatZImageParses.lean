/-
  ImageParses returns true for every input, and each argument reads behind the call as before it. No condition.
-/
import Derived.Test.YtdfjbnonibcmeaaGreatRows
import Derived.Test.YtdfjbnonibcmeaaGreatA5
namespace Go.Proofs.YtdfjbnonibcmeaaGreat.imageParses
open Go Go.ChangeShapes Go.WideShapes Go.ChangeAt Go.RowKit Dm

theorem own : ownKnob Tryz.prog.godebug = none := by kernel_rfl
theorem laidOut : laidOutB Tryz.prog = true := by kernel_rfl
theorem readable : (Tryz.f3.params.toList.all fun t => Tryz.prog.readableRec t && decide (t < Tryz.prog.types.size)) = true := by kernel_rfl
set_option maxRecDepth 100000 in
theorem contract (H : Type) (enc : TypeId × Value → H) (W : World) (base : Nat) (args : Array Value) (ds gs : List (DataW H)) (before : List MemPlace)
    (hval : ∀ (j : Nat) t v, Tryz.f3.params[j]? = some t → args[j]? = some v → Value.okWide Tryz.prog W .any base t v)
    (hW : DataW.Whole enc Tryz.prog Tryz.f3.params.toList Rows.imageParsesSpec.vars false W args.toList ds gs before) :
    Calls Tryz.prog 3 args W fun e W' => ∃ v, e = .returned v ∧ Rows.imageParsesSpec.post enc Tryz.prog Tryz.f3 false true false false W args v W' := by
  have hW' := hW
  obtain ⟨p, q, hA0, hV, rfl, hfz, hnd⟩ := hW
  have hA : DataW.TrodAll enc Tryz.prog W 0 (fun _ => true) true Tryz.f3.params.toList args.toList ds p := hA0
  rw [Tryz.params3] at hA hval
  obtain ⟨v0, vs0, d0, ds0, p0, q0, hargs, rfl, rfl, k0, r0⟩ := trodAll_cons hA
  obtain ⟨rfl, rfl, rfl⟩ := trodAll_nil r0
  obtain rfl : args = #[v0] := by cases args; simp_all
  obtain ⟨rfl, rfl⟩ := trodVars_none hV
  obtain ⟨x0, ao0, cp0, rfl, ro0, l0, in0⟩ := arg_sliceH (j := 0) hval rfl rfl (t := TC.ty (.i .u8)) Tryz.underlying22 (by kernel_rfl) (rd_int Tryz.underlying5) k0
  have hA : ArgsR (hp W) [.v false (.sl none (.i .u8))] (x0, ()) [.slice ao0 x0.length cp0] := ⟨_, _, rfl, ⟨rfl, _, ⟨ao0, cp0, rfl, ro0⟩, rfl, rfl⟩, rfl⟩
  have hS : ct_law09_ImageParses.S (x0, ()) = some true := ImageParses_true l0 in0
  refine (Holds.law (vs := [.slice ao0 x0.length cp0]) law09_ImageParses_ok hS hA).mono ?_
  rintro e W' ⟨v, he, hv, hx⟩
  subst hv
  exact ⟨_, he, law_post hW' laidOut rfl readable 4 rfl Tryz.underlying4 hx rfl rfl rfl⟩

set_option maxRecDepth 100000 in
theorem lifted (os : Os) (started : os.Started) (H : Type) (enc : TypeId × Value → H) :
    ReturnsInHanded {} Tryz.checked os 3 .any (Rows.imageParsesSpec.pre6 enc Tryz.prog Tryz.f3 Rows.imageParsesRow.domain false) (Rows.imageParsesSpec.post enc Tryz.prog Tryz.f3 false true false false) := by
  refine returnsInHanded_of_change (C := Tryz.checked) own started (by kernel_rfl) Tryz.func3
    (ChangeSpec.witness6 (enc := enc) (C := Tryz.checked) false ⟨#[], #[.slice none 0 0], []⟩ 8 (by kernel_rfl) (by kernel_rfl) (by kernel_rfl) (by kernel_rfl)) ?_
  intro W base args ds gs before hval hW _ _
  exact contract H enc W base args ds gs before hval hW

theorem proved : Rows.ImageParsesSaid :=
  OpenClaim.holds_of_wide 3 Tryz.f3 rfl rfl rfl rfl rfl rfl rfl ⟨rfl, rfl, rfl, rfl, rfl⟩ rfl rfl rfl rfl rfl (by kernel_rfl) Tryz.func3 (by kernel_rfl)
    (of_decide_eq_true (by kernel_rfl)) (by unfold Func.isWrapper; first | (rw [if_pos (by decide +kernel)]; kernel_rfl) | (rw [if_neg (by decide +kernel)]; exact ⟨rfl, rfl⟩))
    (fun os started H enc _ => lifted os started H enc)
end Go.Proofs.YtdfjbnonibcmeaaGreat.imageParses
