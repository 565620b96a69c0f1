/-
  NotesHeads returns true for every input, and each argument reads behind the call as before it. No condition.
-/
import Derived.Test.YtmlghbdlhjinaaaRows
import Derived.Test.YtmlghbdlhjinaaaLNotesHeads
import Derived.Test.YtmlghbdlhjinaaaArg
import Derived.Test.YtmlghbdlhjinaaaLaw08D
namespace Go.Proofs.Ytmlghbdlhjinaaa.notesHeads
open Go Go.ChangeShapes Go.WideShapes Go.ChangeAt Go.RowKit Dm

theorem own : ownKnob Try.prog.godebug = none := by kernel_rfl
theorem laidOut : laidOutB Try.prog = true := by kernel_rfl
theorem readable : (Try.f13.params.toList.all fun t => Try.prog.readableRec t && decide (t < Try.prog.types.size)) = true := by kernel_rfl
theorem contract (H : Type) (enc : TypeId × Value → H) (W : World) (base : Nat) (args : Array Value) (ds gs : List (DataW H)) (before : List MemPlace)
    (hval : ∀ (j : Nat) t v, Try.f13.params[j]? = some t → args[j]? = some v → Value.okWide Try.prog W .any base t v)
    (hW : DataW.Whole enc Try.prog Try.f13.params.toList Rows.notesHeadsSpec.vars false W args.toList ds gs before) :
    Calls Try.prog 13 args W fun e W' => ∃ v, e = .returned v ∧ Rows.notesHeadsSpec.post enc Try.prog Try.f13 false true false false W args v W' := by
  have hW' := hW
  obtain ⟨p, q, hA0, hV, rfl, hfz, hnd⟩ := hW
  have hA : DataW.TrodAll enc Try.prog W 0 (fun _ => true) true Try.f13.params.toList args.toList ds p := hA0
  rw [Try.params13] at hA hval
  obtain ⟨v0, vs0, d0, ds0, p0, q0, hargs, rfl, rfl, k0, r0⟩ := trodAll_cons hA
  obtain ⟨v1, vs1, d1, ds1, p1, q1, rfl, rfl, rfl, k1, r1⟩ := trodAll_cons r0
  obtain ⟨v2, vs2, d2, ds2, p2, q2, rfl, rfl, rfl, k2, r2⟩ := trodAll_cons r1
  obtain ⟨v3, vs3, d3, ds3, p3, q3, rfl, rfl, rfl, k3, r3⟩ := trodAll_cons r2
  obtain ⟨rfl, rfl, rfl⟩ := trodAll_nil r3
  obtain rfl : args = #[v0, v1, v2, v3] := by cases args; simp_all
  obtain ⟨rfl, rfl⟩ := trodVars_none hV
  obtain ⟨x0, rfl, rfl, rfl, wf0⟩ := open_int Try.underlying50 (hval 0 50 v0 rfl rfl) k0
  obtain ⟨x1, rfl, rfl, rfl, wf1⟩ := open_int Try.underlying50 (hval 1 50 v1 rfl rfl) k1
  obtain ⟨x2, rfl, rfl, rfl, wf2⟩ := open_int Try.underlying50 (hval 2 50 v2 rfl rfl) k2
  obtain ⟨x3, ao3_0, cp3_0, rfl, ro3_0, l3, in3⟩ := arg_slice Try.underlying22 (by kernel_rfl) (rd_int Try.underlying5) (hval 3 22 v3 rfl rfl) k3
  have hs := Sep.start W (hp W) (LeH.refl _)
  replace hs := hs.addRo ro3_0
  refine (law08_NotesHeads_ok (n := x0) (p_d := x1) (kind := x2) (b := x3)  (hs.enter [0] rfl rfl) (NotesHeads_true (inK_of wf0) (inK_of wf1) (inK_of wf2) l3 in3)).mono ?_
  rintro e W' ⟨v, he, F', hv, hr⟩
  subst hv
  exact ⟨_, he, law_post hW' laidOut rfl readable 4 rfl Try.underlying4 (hr.ex (pers_blks rfl)) rfl rfl rfl⟩

set_option maxRecDepth 100000 in
theorem lifted (os : Os) (started : os.Started) (H : Type) (enc : TypeId × Value → H) :
    ReturnsInHanded {} Try.checked os 13 .any (Rows.notesHeadsSpec.pre6 enc Try.prog Try.f13 Rows.notesHeadsRow.domain false) (Rows.notesHeadsSpec.post enc Try.prog Try.f13 false true false false) := by
  refine returnsInHanded_of_change (C := Try.checked) own started (by kernel_rfl) Try.func13
    (ChangeSpec.witness6 (enc := enc) (C := Try.checked) false ⟨#[], #[.int .u32 0, .int .u32 0, .int .u32 0, .slice none 0 0], []⟩ 8 (by kernel_rfl) (by kernel_rfl) (by kernel_rfl) (by kernel_rfl)) ?_
  intro W base args ds gs before hval hW _ _
  exact contract H enc W base args ds gs before hval hW

theorem proved : Rows.NotesHeadsSaid :=
  OpenClaim.holds_of_wide 13 Try.f13 rfl rfl rfl rfl rfl rfl rfl ⟨rfl, rfl, rfl, rfl, rfl⟩ rfl rfl rfl rfl rfl (by kernel_rfl) Try.func13 (by kernel_rfl)
    (of_decide_eq_true (by kernel_rfl)) (by unfold Func.isWrapper; first | (rw [if_pos (by decide +kernel)]; kernel_rfl) | (rw [if_neg (by decide +kernel)]; exact ⟨rfl, rfl⟩))
    (fun os started H enc _ => lifted os started H enc)
end Go.Proofs.Ytmlghbdlhjinaaa.notesHeads
