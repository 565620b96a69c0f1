/-
  SymbolsBack returns true for every input, and each argument reads behind the call as before it. No condition.
-/
import Derived.Test.YtmocofbneblccaaRows
import Derived.Test.YtmocofbneblccaaLSymbolsBack
import Derived.Test.YtmocofbneblccaaArg
import Derived.Test.YtmocofbneblccaaLaw06B
namespace Go.Proofs.Ytmocofbneblccaa.symbolsBack
open Go Go.ChangeShapes Go.WideShapes Go.ChangeAt Go.RowKit Dm

theorem rd65 {H : Type} {enc : TypeId × Value → H} {w : World} : Rd enc Try.prog w 65 ty64 (fun x => (InK .u32 x.1 ∧ InK .u8 x.2.1 ∧ InK .u8 x.2.2.1 ∧ InK .u16 x.2.2.2.1 ∧ InK .u64 x.2.2.2.2.1 ∧ InK .u64 x.2.2.2.2.2)) := by
  intro fuel cs x h
  obtain ⟨xs, n, rfl, _, hl, hxl, hf⟩ := DataW.trod_struct Try.underlying65 h
  have hl : cs.length = 6 := hl.trans (by kernel_rfl : Try.prog.cellsOf 65 = 6)
  obtain ⟨y0, h0⟩ := rd_get hxl hf 0 _ rfl
  obtain ⟨a0, r0, w0⟩ := (rd_int Try.underlying31) _ _ _ h0
  have q0 : (cs.drop 0).take 1 = [.int .u32 a0] := (congrArg (fun s => (cs.drop 0).take s) (show Try.prog.cellsOf 31 = 1 from by kernel_rfl)).symm.trans r0
  have p0 : cs.drop 0 = [.int .u32 a0] ++ cs.drop 1 := pc q0 rfl
  obtain ⟨y1, h1⟩ := rd_get hxl hf 1 _ rfl
  obtain ⟨a1, r1, w1⟩ := (rd_int Try.underlying5) _ _ _ h1
  have q1 : (cs.drop 1).take 1 = [.int .u8 a1] := (congrArg (fun s => (cs.drop 1).take s) (show Try.prog.cellsOf 5 = 1 from by kernel_rfl)).symm.trans r1
  have p1 : cs.drop 1 = [.int .u8 a1] ++ cs.drop 2 := pc q1 rfl
  obtain ⟨y2, h2⟩ := rd_get hxl hf 2 _ rfl
  obtain ⟨a2, r2, w2⟩ := (rd_int Try.underlying5) _ _ _ h2
  have q2 : (cs.drop 2).take 1 = [.int .u8 a2] := (congrArg (fun s => (cs.drop 2).take s) (show Try.prog.cellsOf 5 = 1 from by kernel_rfl)).symm.trans r2
  have p2 : cs.drop 2 = [.int .u8 a2] ++ cs.drop 3 := pc q2 rfl
  obtain ⟨y3, h3⟩ := rd_get hxl hf 3 _ rfl
  obtain ⟨a3, r3, w3⟩ := (rd_int Try.underlying63) _ _ _ h3
  have q3 : (cs.drop 3).take 1 = [.int .u16 a3] := (congrArg (fun s => (cs.drop 3).take s) (show Try.prog.cellsOf 63 = 1 from by kernel_rfl)).symm.trans r3
  have p3 : cs.drop 3 = [.int .u16 a3] ++ cs.drop 4 := pc q3 rfl
  obtain ⟨y4, h4⟩ := rd_get hxl hf 4 _ rfl
  obtain ⟨a4, r4, w4⟩ := (rd_int Try.underlying23) _ _ _ h4
  have q4 : (cs.drop 4).take 1 = [.int .u64 a4] := (congrArg (fun s => (cs.drop 4).take s) (show Try.prog.cellsOf 23 = 1 from by kernel_rfl)).symm.trans r4
  have p4 : cs.drop 4 = [.int .u64 a4] ++ cs.drop 5 := pc q4 rfl
  obtain ⟨y5, h5⟩ := rd_get hxl hf 5 _ rfl
  obtain ⟨a5, r5, w5⟩ := (rd_int Try.underlying23) _ _ _ h5
  have q5 : (cs.drop 5).take 1 = [.int .u64 a5] := (congrArg (fun s => (cs.drop 5).take s) (show Try.prog.cellsOf 23 = 1 from by kernel_rfl)).symm.trans r5
  have p5 : cs.drop 5 = [.int .u64 a5] ++ cs.drop 6 := pc q5 rfl
  have qq : cs.drop 6 = [] := List.drop_of_length_le (by omega)
  have e := p0
  rw [p1, p2, p3, p4, p5, qq] at e
  exact ⟨(a0, a1, a2, a3, a4, a5), e, ⟨w0, w1, w2, w3, w4, w5⟩⟩
theorem own : ownKnob Try.prog.godebug = none := by kernel_rfl
theorem laidOut : laidOutB Try.prog = true := by kernel_rfl
theorem readable : (Try.f11.params.toList.all fun t => Try.prog.readableRec t && decide (t < Try.prog.types.size)) = true := by kernel_rfl
theorem contract (H : Type) (enc : TypeId × Value → H) (W : World) (base : Nat) (args : Array Value) (ds gs : List (DataW H)) (before : List MemPlace)
    (hval : ∀ (j : Nat) t v, Try.f11.params[j]? = some t → args[j]? = some v → Value.okWide Try.prog W .any base t v)
    (hW : DataW.Whole enc Try.prog Try.f11.params.toList Rows.symbolsBackSpec.vars false W args.toList ds gs before) :
    Calls Try.prog 11 args W fun e W' => ∃ v, e = .returned v ∧ Rows.symbolsBackSpec.post enc Try.prog Try.f11 false true false false W args v W' := by
  have hW' := hW
  obtain ⟨p, q, hA0, hV, rfl, hfz, hnd⟩ := hW
  have hA : DataW.TrodAll enc Try.prog W 0 (fun _ => true) true Try.f11.params.toList args.toList ds p := hA0
  rw [Try.params11] at hA hval
  obtain ⟨v0, vs0, d0, ds0, p0, q0, hargs, rfl, rfl, k0, r0⟩ := trodAll_cons hA
  obtain ⟨rfl, rfl, rfl⟩ := trodAll_nil r0
  obtain rfl : args = #[v0] := by cases args; simp_all
  obtain ⟨rfl, rfl⟩ := trodVars_none hV
  obtain ⟨x0, ao0_0, cp0_0, rfl, ro0_0, l0, in0⟩ := arg_slice Try.underlying69 (by kernel_rfl) rd65 (hval 0 69 v0 rfl rfl) k0
  have hs := Sep.start W (hp W) (LeH.refl _)
  replace hs := hs.addRo ro0_0
  refine (law06_SymbolsBack_ok (p_l := x0)  (hs.enter [0] rfl rfl) (SymbolsBack_true l0 in0)).mono ?_
  rintro e W' ⟨v, he, F', hv, hr⟩
  subst hv
  exact ⟨_, he, law_post hW' laidOut rfl readable 4 rfl Try.underlying4 (hr.ex (pers_blks rfl)) rfl rfl rfl⟩

set_option maxRecDepth 100000 in
theorem lifted (os : Os) (started : os.Started) (H : Type) (enc : TypeId × Value → H) :
    ReturnsInHanded {} Try.checked os 11 .any (Rows.symbolsBackSpec.pre6 enc Try.prog Try.f11 Rows.symbolsBackRow.domain false) (Rows.symbolsBackSpec.post enc Try.prog Try.f11 false true false false) := by
  refine returnsInHanded_of_change (C := Try.checked) own started (by kernel_rfl) Try.func11
    (ChangeSpec.witness6 (enc := enc) (C := Try.checked) false ⟨#[], #[.slice none 0 0], []⟩ 8 (by kernel_rfl) (by kernel_rfl) (by kernel_rfl) (by kernel_rfl)) ?_
  intro W base args ds gs before hval hW _ _
  exact contract H enc W base args ds gs before hval hW

theorem proved : Rows.SymbolsBackSaid :=
  OpenClaim.holds_of_wide 11 Try.f11 rfl rfl rfl rfl rfl rfl rfl ⟨rfl, rfl, rfl, rfl, rfl⟩ rfl rfl rfl rfl rfl (by kernel_rfl) Try.func11 (by kernel_rfl)
    (of_decide_eq_true (by kernel_rfl)) (by unfold Func.isWrapper; first | (rw [if_pos (by decide +kernel)]; kernel_rfl) | (rw [if_neg (by decide +kernel)]; exact ⟨rfl, rfl⟩))
    (fun os started H enc _ => lifted os started H enc)
end Go.Proofs.Ytmocofbneblccaa.symbolsBack
