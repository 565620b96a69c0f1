/-
  ImageParts returns true for every input, and each argument reads behind the call as before it. No condition.
-/
import Derived.Test.YtdfjbnonibcmeaaRows
import Derived.Test.YtdfjbnonibcmeaaU4
namespace Go.Proofs.Ytdfjbnonibcmeaa.imageParts
open Go Go.ChangeShapes Go.WideShapes Go.ChangeAt Go.RowKit Dm

theorem own : ownKnob Try.prog.godebug = none := by kernel_rfl
theorem laidOut : laidOutB Try.prog = true := by kernel_rfl
theorem readable : (Try.f4.params.toList.all fun t => Try.prog.readableRec t && decide (t < Try.prog.types.size)) = true := by kernel_rfl
set_option maxRecDepth 100000 in
theorem contract (H : Type) (enc : TypeId × Value → H) (W : World) (base : Nat) (args : Array Value) (ds gs : List (DataW H)) (before : List MemPlace)
    (hval : ∀ (j : Nat) t v, Try.f4.params[j]? = some t → args[j]? = some v → Value.okWide Try.prog W .any base t v)
    (hW : DataW.Whole enc Try.prog Try.f4.params.toList Rows.imagePartsSpec.vars false W args.toList ds gs before) :
    Calls Try.prog 4 args W fun e W' => ∃ v, e = .returned v ∧ Rows.imagePartsSpec.post enc Try.prog Try.f4 false true false false W args v W' := by
  have hW' := hW
  obtain ⟨p, q, hA0, hV, rfl, hfz, hnd⟩ := hW
  have hA : DataW.TrodAll enc Try.prog W 0 (fun _ => true) true Try.f4.params.toList args.toList ds p := hA0
  rw [Try.params4] at hA hval
  obtain ⟨v0, vs0, d0, ds0, p0, q0, hargs, rfl, rfl, k0, r0⟩ := trodAll_cons hA
  obtain ⟨v1, vs1, d1, ds1, p1, q1, rfl, rfl, rfl, k1, r1⟩ := trodAll_cons r0
  obtain ⟨v2, vs2, d2, ds2, p2, q2, rfl, rfl, rfl, k2, r2⟩ := trodAll_cons r1
  obtain ⟨rfl, rfl, rfl⟩ := trodAll_nil r2
  obtain rfl : args = #[v0, v1, v2] := by cases args; simp_all
  obtain ⟨rfl, rfl⟩ := trodVars_none hV
  clear r0
  clear r1
  obtain ⟨x0, ao0, cp0, rfl, ro0, l0, in0⟩ := arg_sliceH (j := 0) hval rfl rfl (t := TC.ty (.i .u8)) Try.underlying24 (by kernel_rfl) (rd_int Try.underlying5) k0
  obtain ⟨x1, ao1, cp1, rfl, ro1, l1, in1⟩ := arg_sliceH (j := 1) hval rfl rfl (t := TC.ty (.i .u8)) Try.underlying24 (by kernel_rfl) (rd_int Try.underlying5) k1
  obtain ⟨x2, rfl, wf2⟩ := arg_intH (j := 2) hval rfl rfl Try.underlying45 k2
  have hA : ArgsR (hp W) [.v false (.sl none (.i .u8)), .v false (.sl none (.i .u8)), .v false (.i .u16)] (x0, x1, x2, ()) [.slice ao0 x0.length cp0, .slice ao1 x1.length cp1, .int .u16 x2] := ⟨_, _, rfl, ⟨rfl, _, ⟨ao0, cp0, rfl, ro0⟩, rfl, rfl⟩, ⟨_, _, rfl, ⟨rfl, _, ⟨ao1, cp1, rfl, ro1⟩, rfl, rfl⟩, ⟨_, _, rfl, ⟨rfl, [.int .u16 x2], rfl, rfl, rfl⟩, rfl⟩⟩⟩
  have hS : ct_law09_ImageParts.S (x0, x1, x2, ()) = some true := ImageParts_true l0 in0 l1 in1 wf2
  refine (Holds.law (vs := [.slice ao0 x0.length cp0, .slice ao1 x1.length cp1, .int .u16 x2]) law09_ImageParts_ok hS hA).mono ?_
  rintro e W' ⟨v, he, hv, hx⟩
  subst hv
  exact ⟨_, he, law_post hW' laidOut rfl readable 4 rfl Try.underlying4 hx rfl rfl rfl⟩

set_option maxRecDepth 100000 in
theorem lifted (os : Os) (started : os.Started) (H : Type) (enc : TypeId × Value → H) :
    ReturnsInHanded {} Try.checked os 4 .any (Rows.imagePartsSpec.pre6 enc Try.prog Try.f4 Rows.imagePartsRow.domain false) (Rows.imagePartsSpec.post enc Try.prog Try.f4 false true false false) := by
  refine returnsInHanded_of_change (C := Try.checked) own started (by kernel_rfl) Try.func4
    (ChangeSpec.witness6 (enc := enc) (C := Try.checked) false ⟨#[], #[.slice none 0 0, .slice none 0 0, .int .u16 0], []⟩ 8 (by kernel_rfl) (by kernel_rfl) (by kernel_rfl) (by kernel_rfl)) ?_
  intro W base args ds gs before hval hW _ _
  exact contract H enc W base args ds gs before hval hW

theorem proved : Rows.ImagePartsSaid :=
  OpenClaim.holds_of_wide 4 Try.f4 rfl rfl rfl rfl rfl rfl rfl ⟨rfl, rfl, rfl, rfl, rfl⟩ rfl rfl rfl rfl rfl (by kernel_rfl) Try.func4 (by kernel_rfl)
    (of_decide_eq_true (by kernel_rfl)) (by unfold Func.isWrapper; first | (rw [if_pos (by decide +kernel)]; kernel_rfl) | (rw [if_neg (by decide +kernel)]; exact ⟨rfl, rfl⟩))
    (fun os started H enc _ => lifted os started H enc)
end Go.Proofs.Ytdfjbnonibcmeaa.imageParts
