/-
  NotesBack returns true for every input, and each argument reads behind the call as before it. No condition.
-/
import Derived.Test.YtmlghbdlhjinaaaRows
import Derived.Test.YtmlghbdlhjinaaaLNotesBack
import Derived.Test.YtmlghbdlhjinaaaArg
import Derived.Test.YtmlghbdlhjinaaaLaw08D
namespace Go.Proofs.Ytmlghbdlhjinaaa.notesBack
open Go Go.ChangeShapes Go.WideShapes Go.ChangeAt Go.RowKit Dm

theorem rd54 {H : Type} {enc : TypeId × Value → H} {w : World} : Rd enc Try.prog w 54 ty53 (fun x => (x.1.length ≤ 9223372036854775807 ∧ InK .u32 x.2.1 ∧ (x.2.2.length ≤ 9223372036854775807 ∧ ∀ y0 ∈ x.2.2, InK .u8 y0))) := by
  intro fuel cs x h
  obtain ⟨xs, n, rfl, _, hl, hxl, hf⟩ := DataW.trod_struct Try.underlying54 h
  have hl : cs.length = 3 := hl.trans (by kernel_rfl : Try.prog.cellsOf 54 = 3)
  obtain ⟨y0, h0⟩ := rd_get hxl hf 0 _ rfl
  obtain ⟨a0, r0, w0⟩ := (rd_str Try.underlying9) _ _ _ h0
  have q0 : (cs.drop 0).take 1 = [strV a0] := (congrArg (fun s => (cs.drop 0).take s) (show Try.prog.cellsOf 9 = 1 from by kernel_rfl)).symm.trans r0
  have p0 : cs.drop 0 = [strV a0] ++ cs.drop 1 := pc q0 rfl
  obtain ⟨y1, h1⟩ := rd_get hxl hf 1 _ rfl
  obtain ⟨a1, r1, w1⟩ := (rd_int Try.underlying50) _ _ _ h1
  have q1 : (cs.drop 1).take 1 = [.int .u32 a1] := (congrArg (fun s => (cs.drop 1).take s) (show Try.prog.cellsOf 50 = 1 from by kernel_rfl)).symm.trans r1
  have p1 : cs.drop 1 = [.int .u32 a1] ++ cs.drop 2 := pc q1 rfl
  obtain ⟨y2, h2⟩ := rd_get hxl hf 2 _ rfl
  obtain ⟨a2, r2, w2⟩ := (rd_slice Try.underlying22 (by kernel_rfl) (rd_int Try.underlying5)) _ _ _ h2
  obtain ⟨ao1, cp1, r2, ro1⟩ := r2
  have q2 : (cs.drop 2).take 1 = [.slice ao1 a2.length cp1] := (congrArg (fun s => (cs.drop 2).take s) (show Try.prog.cellsOf 22 = 1 from by kernel_rfl)).symm.trans r2
  have p2 : cs.drop 2 = [.slice ao1 a2.length cp1] ++ cs.drop 3 := pc q2 rfl
  have qq : cs.drop 3 = [] := List.drop_of_length_le (by omega)
  have e := p0
  rw [p1, p2, qq] at e
  exact ⟨(a0, a1, a2), ⟨ao1, cp1, e, ro1⟩, ⟨w0, w1, w2⟩⟩
theorem own : ownKnob Try.prog.godebug = none := by kernel_rfl
theorem laidOut : laidOutB Try.prog = true := by kernel_rfl
theorem readable : (Try.f12.params.toList.all fun t => Try.prog.readableRec t && decide (t < Try.prog.types.size)) = true := by kernel_rfl
theorem contract (H : Type) (enc : TypeId × Value → H) (W : World) (base : Nat) (args : Array Value) (ds gs : List (DataW H)) (before : List MemPlace)
    (hval : ∀ (j : Nat) t v, Try.f12.params[j]? = some t → args[j]? = some v → Value.okWide Try.prog W .any base t v)
    (hW : DataW.Whole enc Try.prog Try.f12.params.toList Rows.notesBackSpec.vars false W args.toList ds gs before) :
    Calls Try.prog 12 args W fun e W' => ∃ v, e = .returned v ∧ Rows.notesBackSpec.post enc Try.prog Try.f12 false true false false W args v W' := by
  have hW' := hW
  obtain ⟨p, q, hA0, hV, rfl, hfz, hnd⟩ := hW
  have hA : DataW.TrodAll enc Try.prog W 0 (fun _ => true) true Try.f12.params.toList args.toList ds p := hA0
  rw [Try.params12] at hA hval
  obtain ⟨v0, vs0, d0, ds0, p0, q0, hargs, rfl, rfl, k0, r0⟩ := trodAll_cons hA
  obtain ⟨v1, vs1, d1, ds1, p1, q1, rfl, rfl, rfl, k1, r1⟩ := trodAll_cons r0
  obtain ⟨rfl, rfl, rfl⟩ := trodAll_nil r1
  obtain rfl : args = #[v0, v1] := by cases args; simp_all
  obtain ⟨rfl, rfl⟩ := trodVars_none hV
  obtain ⟨x0, ao0_0, cp0_0, rfl, ro0_0, l0, in0⟩ := arg_slice Try.underlying37 (by kernel_rfl) rd54 (hval 0 37 v0 rfl rfl) k0
  obtain ⟨x1, ao1_0, cp1_0, rfl, ro1_0, l1, in1⟩ := arg_slice Try.underlying22 (by kernel_rfl) (rd_int Try.underlying5) (hval 1 22 v1 rfl rfl) k1
  have hs := Sep.start W (hp W) (LeH.refl _)
  replace hs := hs.addRo ro1_0
  replace hs := hs.addRo ro0_0
  refine (law08_NotesBack_ok (p_l := x0) (b := x1)  (hs.enter [0, 1] rfl rfl) (NotesBack_true l0 in0 l1 in1)).mono ?_
  rintro e W' ⟨v, he, F', hv, hr⟩
  subst hv
  exact ⟨_, he, law_post hW' laidOut rfl readable 4 rfl Try.underlying4 (hr.ex (pers_blks rfl)) rfl rfl rfl⟩

set_option maxRecDepth 100000 in
theorem lifted (os : Os) (started : os.Started) (H : Type) (enc : TypeId × Value → H) :
    ReturnsInHanded {} Try.checked os 12 .any (Rows.notesBackSpec.pre6 enc Try.prog Try.f12 Rows.notesBackRow.domain false) (Rows.notesBackSpec.post enc Try.prog Try.f12 false true false false) := by
  refine returnsInHanded_of_change (C := Try.checked) own started (by kernel_rfl) Try.func12
    (ChangeSpec.witness6 (enc := enc) (C := Try.checked) false ⟨#[], #[.slice none 0 0, .slice none 0 0], []⟩ 8 (by kernel_rfl) (by kernel_rfl) (by kernel_rfl) (by kernel_rfl)) ?_
  intro W base args ds gs before hval hW _ _
  exact contract H enc W base args ds gs before hval hW

theorem proved : Rows.NotesBackSaid :=
  OpenClaim.holds_of_wide 12 Try.f12 rfl rfl rfl rfl rfl rfl rfl ⟨rfl, rfl, rfl, rfl, rfl⟩ rfl rfl rfl rfl rfl (by kernel_rfl) Try.func12 (by kernel_rfl)
    (of_decide_eq_true (by kernel_rfl)) (by unfold Func.isWrapper; first | (rw [if_pos (by decide +kernel)]; kernel_rfl) | (rw [if_neg (by decide +kernel)]; exact ⟨rfl, rfl⟩))
    (fun os started H enc _ => lifted os started H enc)
end Go.Proofs.Ytmlghbdlhjinaaa.notesBack
