/-
  From a law's walk to its row: arguments opened as lists, and read behind the call as before it. No condition.
-/
import Derived.Test.YtpgohbnaphkngaaDoorLib
import Derived.Test.YtpgohbnaphkngaaDoorPure
import Derived.ProofKit
import Derived.OpenShut
import Derived.Carry
import Derived.SizedLaws
namespace Dm
open Go Go.RowKit Go.ChangeShapes Go.WideShapes Go.ChangeAt

theorem inK_of {k : IntKind} {n : Int} (h : (Lit.int k n).wf = true) : InK k n := by
  simp only [Lit.wf, Bool.and_eq_true, decide_eq_true_eq] at h; exact h

section args
variable {H : Type} {enc : TypeId × Value → H} {P : Program} {W W' : World}
theorem keep_all (hlo : laidOutB P = true) (hb : Below W.heap.size W W') : ∀ {ts : List TypeId} {vs : List Value} {ds : List (DataW H)} {ps : List MemPlace},
    (ts.all fun t => P.readableRec t && decide (t < P.types.size)) = true → DataW.TrodAll enc P W 0 (fun _ => true) true ts vs ds ps → (∀ x ∈ ps, x.block < W.heap.size) →
    DataW.TrodAll enc P W' 0 (fun b => decide (b < W.heap.size)) true ts vs ds ps
  | [], vs, ds, ps, _, h, _ => by obtain ⟨rfl, rfl, rfl⟩ := trodAll_nil h; exact trodAll_mk0
  | t :: ts, vs, ds, ps, hr, h, hlt => by
    obtain ⟨v, vs', d, ds', p, q, rfl, rfl, rfl, h1, h2⟩ := trodAll_cons h
    simp only [List.all_cons, Bool.and_eq_true, decide_eq_true_eq] at hr
    exact trodAll_cons_mk (Below.trod hlo hr.1.1 hr.1.2 h1 hb fun x hx => hlt x (List.mem_append_left _ hx)) (keep_all hlo hb (by simpa using hr.2) h2 fun x hx => hlt x (List.mem_append_right _ hx))
theorem law_post {fn : Func} {s : ChangeSpec} {args : Array Value} {ds : List (DataW H)} {before : List MemPlace} (hW : DataW.Whole enc P fn.params.toList s.vars false W args.toList ds [] before) (hlo : laidOutB P = true) (hvars : s.vars = []) (hparams : (fn.params.toList.all fun t => P.readableRec t && decide (t < P.types.size)) = true)
    (tb : TypeId) (hres : fn.resultTypes = #[tb]) (hbool : P.underlying tb = some .bool) (hx : Below W.heap.size W W')
    (hr : (s.fn H (ds ++ [])).results = [.lit (.bool true)]) (ha : (s.fn H (ds ++ [])).args = ds) (hv : (s.fn H (ds ++ [])).vars = []) : s.post enc P fn false true false false W args (.bool true) W' := by
  have hW' := hW
  obtain ⟨p, q, hA, hV, rfl, hfz, hnd⟩ := hW
  rw [hvars] at hV
  obtain ⟨_, rfl⟩ := trodVars_none hV
  have hlt : ∀ x ∈ p, x.block < W.heap.size := fun x hx => hW'.lt x (by simpa using hx)
  refine ⟨ds, [], _, [] ++ [], p, [], hW', ?_, ?_, ?_, hx.frame _, fun h => by cases h⟩
  · rw [hr, hres]; exact trodAll_cons_mk (shut_bool hbool true) trodAll_mk0
  · rw [ha]; exact keep_all hlo hx hparams hA hlt
  · rw [hv, hvars]; exact rfl
theorem arg_ints {t e : TypeId} {k : IntKind} (hu : P.underlying t = some (.slice e)) (he : P.underlying e = some (.int k)) (hc : P.cellsOf e = 1) {base : Nat} {v : Value} (hv : Value.okWide P W .any base t v) {d : DataW H} {ps : List MemPlace}
    (h : DataW.Trod enc P W 0 (fun _ => true) true t v d ps) : ∃ xs : List Int, RO (hp W) (tI k) v xs ∧ (∀ n ∈ xs, InK k n) ∧ xs.length ≤ 9223372036854775807 := by
  obtain ⟨a0, len, cap, rfl⟩ := okWide_slice hu hv
  obtain ⟨fuel, hf⟩ := h
  rcases open_ints hu he hc hf with ⟨hcs, hx⟩ | ⟨a, len', cap', zs, hcs, _, hl, hm, hz, hx, hcell, hwz⟩
  · simp [Value.cells] at hcs
    obtain ⟨rfl, rfl, rfl⟩ := hcs
    exact ⟨[], RO.nil _ _, by simp, by simp⟩
  · simp [Value.cells] at hcs
    obtain ⟨rfl, rfl, rfl⟩ := hcs
    simp only [if_true] at hz
    have hlen : (zs.take len).length = len := by rw [List.length_take]; omega
    refine ⟨zs.take len, ⟨some a, cap, (zs.take len).flatMap (fun n => [Value.int k n]), by rw [hlen], by rw [hlen]; exact hl, reps_flat _, ?_⟩, fun n hn => inK_of (hwz n (List.mem_of_mem_take hn)), by rw [hlen]; unfold maxLen at hm; omega⟩
    intro j u hj
    · have hfm : (zs.take len).flatMap (fun n => [Value.int k n]) = (zs.take len).map (Value.int k) := by
        generalize zs.take len = l
        induction l with
        | nil => rfl
        | cons x xs ih => rw [List.flatMap_cons, ih]; rfl
      rw [hfm, List.getElem?_map] at hj
      have hj2 : j < len := by
        rcases Nat.lt_or_ge j len with h' | h'
        · exact h'
        · rw [List.getElem?_eq_none (by rw [hlen]; exact h')] at hj; cases hj
      have hcj := hcell j (by omega)
      rw [List.getElem?_take_of_lt hj2, List.getElem?_eq_getElem (show j < zs.length by omega)] at hj
      simp only [Option.map_some, Option.some.injEq] at hj
      rw [List.getD_eq_getElem?_getD, List.getElem?_eq_getElem (show j < zs.length by omega)] at hcj
      simp only [Option.getD_some, hj] at hcj
      have hs := World.cell?_spot (hcell 0 (by omega))
      obtain ⟨b, o, sp⟩ := a
      have hsp : sp = none := by simpa [Addr.add] using hs
      subst hsp
      refine ⟨b, o, rfl, ?_⟩
      rw [Addr.add_lit] at hcj
      exact cell_cellH rfl hcj
end args

end Dm
