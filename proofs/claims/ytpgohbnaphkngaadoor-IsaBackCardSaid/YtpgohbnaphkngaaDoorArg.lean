/-
  What a law is called with, read as plain data: numbers, texts, structs, arrays, slices of all these. No condition.
-/
import Derived.Test.YtpgohbnaphkngaaDoorFin
import Derived.Test.YtpgohbnaphkngaaDoorReg
import Derived.ChangeMaps5
namespace Dm
open Go Go.RowKit Go.ChangeShapes Go.WideShapes Go.ChangeAt Go.ChangeMaps

/-- whatever cells read as data of type T stand for something, of which wf is known -/
def Rd {H : Type} (enc : TypeId × Value → H) (P : Program) (w : World) (T : TypeId) {α : Type} (t : Ty α) (wf : α → Prop) : Prop :=
  ∀ (fuel : Nat) (cs : List Value) (x : DataW H × List MemPlace), DataW.trod enc P w 0 (fun _ => true) true fuel T cs = some x → ∃ a, t.rep (hp w) a cs ∧ wf a
section rd
variable {H : Type} {enc : TypeId × Value → H} {P : Program} {w : World} {T : TypeId}
theorem rd_int {k : IntKind} (hu : P.underlying T = some (.int k)) : Rd enc P w T (tI k) (fun n => InK k n) := by
  intro fuel cs x h
  obtain ⟨n, rfl, _, hw⟩ := DataW.trod_int hu h
  exact ⟨n, rfl, inK_of hw⟩
theorem rd_bool (hu : P.underlying T = some .bool) : Rd enc P w T tB (fun _ => True) := by
  intro fuel cs x h
  obtain ⟨b, rfl, _⟩ := DataW.trod_bool hu h
  exact ⟨b, rfl, trivial⟩
theorem rd_str (hu : P.underlying T = some .string) : Rd enc P w T tS (fun l => l.length ≤ 9223372036854775807) := by
  intro fuel cs x h
  obtain ⟨s, rfl, _, hs⟩ := DataW.trod_string hu h
  exact ⟨s.data.toList, rfl, by unfold maxLen at hs; simpa using hs⟩
theorem rd_slice {e : TypeId} (hu : P.underlying T = some (.slice e)) {α : Type} {t : Ty α} {wf : α → Prop} (hc : P.cellsOf e = t.size) (hr : Rd enc P w e t wf) : Rd enc P w T (tSl t) (fun xs => xs.length ≤ 9223372036854775807 ∧ ∀ x ∈ xs, wf x) := by
  intro fuel cs x h
  rcases DataW.trod_slice hu h with ⟨rfl, _⟩ | ⟨a, len, cap, elems, rest, n, _, rfl, _, _, hl, hm, hlen, hel, _, _⟩
  · exact ⟨[], ⟨none, 0, rfl, RO.nil _ _⟩, by simp⟩
  · have key : ∀ m, m ≤ len → ∃ (xs : List α) (cs : List Value), xs.length = m ∧ Reps t (hp w) xs cs ∧ (∀ j u, cs[j]? = some u → w.cell? (a.add j) = some u) ∧ ∀ x ∈ xs, wf x := by
      intro m
      induction m with
      | zero => exact fun _ => ⟨[], [], rfl, rfl, fun j u hj => by simp at hj, by simp⟩
      | succ m ih =>
        intro hle
        obtain ⟨xs, cs, h1, h2, h3, h4⟩ := ih (by omega)
        have h5 := hel m (by omega)
        have h6 : elems[m]? = some (elems[m]'(by omega)) := List.getElem?_eq_getElem _
        rw [h6] at h5
        obtain ⟨c, h7, h8⟩ := Option.bind_eq_some_iff.1 h5
        obtain ⟨x, hx, hw⟩ := hr _ _ _ h8
        obtain ⟨_, hcl, hcc⟩ := World.cells?_some h7
        have hlen2 := h2.length
        refine ⟨xs ++ [x], cs ++ c, by simp [h1], h2.append ⟨c, [], by simp, hx, rfl⟩, fun j u hj => ?_, fun y hy => ?_⟩
        · rcases Nat.lt_or_ge j cs.length with hj' | hj'
          · rw [List.getElem?_append_left hj'] at hj; exact h3 j u hj
          · rw [List.getElem?_append_right hj'] at hj
            have hjc : j - cs.length < c.length := by
              rcases Nat.lt_or_ge (j - cs.length) c.length with h' | h'
              · exact h'
              · rw [List.getElem?_eq_none h'] at hj; cases hj
            have h9 := hcc (j - cs.length) (by rw [hcl] at hjc; exact hjc)
            rw [hj] at h9
            have h10 : (a.add (m * P.cellsOf e)).add (j - cs.length) = a.add j := by
              have hml : m * P.cellsOf e = cs.length := by rw [hlen2, h1, hc]
              rw [hml]
              unfold Addr.add
              split <;> split <;> split <;> simp_all <;> omega
            rw [h10] at h9
            exact h9
        · rcases List.mem_append.1 hy with hy | hy
          · exact h4 y hy
          · have : y = x := by simpa using hy
            subst this; exact hw
    obtain ⟨xs, cs, h1, h2, h3, h4⟩ := key len (Nat.le_refl _)
    subst h1
    refine ⟨xs, ⟨some a, cap, rfl, ⟨some a, cap, cs, rfl, hl, h2, fun j u hj => ?_⟩⟩, by unfold maxLen at hm; omega, h4⟩
    have hs0 : a.spot = none := by
      cases cs with
      | nil => simp at hj
      | cons v r => exact World.cell?_spot (by have := h3 0 v rfl; simpa [Addr.add] using this)
    obtain ⟨b, o, sp⟩ := a
    have : sp = none := hs0
    subst this
    have h9 := h3 j u hj
    rw [Addr.add_lit] at h9
    exact ⟨b, o, rfl, cell_cellH rfl h9⟩
theorem pc {cs p : List Value} {o s : Nat} (h : (cs.drop o).take s = p) (hl : p.length = s) : cs.drop o = p ++ cs.drop (o + s) := by
  subst h
  rw [← List.drop_drop, List.take_append_drop]
theorem rd_get {fs : Array Field} {xs : List (DataW H × List MemPlace)} {F : Field → Option (DataW H × List MemPlace)} (hl : xs.length = fs.size) (h : ∀ (i : Nat) (f : Field), fs[i]? = some f → F f = xs[i]?) (i : Nat) (f : Field) (hf : fs[i]? = some f) : ∃ y, F f = some y := by
  have hi : i < fs.size := (Array.getElem?_eq_some_iff.1 hf).1
  exact ⟨xs[i]'(by omega), (h i f hf).trans (List.getElem?_eq_getElem _)⟩
/-- arguments -/
theorem arg_slice {e : TypeId} (hu : P.underlying T = some (.slice e)) {α : Type} {t : Ty α} {wf : α → Prop} (hc : P.cellsOf e = t.size) (hr : Rd enc P w e t wf) {base : Nat} {v : Value} (hv : Value.okWide P w .any base T v) {d : DataW H} {ps : List MemPlace} (h : DataW.Trod enc P w 0 (fun _ => true) true T v d ps) :
    ∃ (xs : List α) (ao : Option Addr) (cp : Nat), v = .slice ao xs.length cp ∧ RO (hp w) t (.slice ao xs.length cp) xs ∧ xs.length ≤ 9223372036854775807 ∧ ∀ x ∈ xs, wf x := by
  obtain ⟨a0, len, cap, rfl⟩ := okWide_slice hu hv
  obtain ⟨fuel, hf⟩ := h
  obtain ⟨xs, ⟨ao, cp, e1, hro⟩, h1, h2⟩ := rd_slice hu hc hr _ _ _ hf
  have e2 : Value.slice a0 len cap = .slice ao xs.length cp := by simpa [Value.cells] using e1
  exact ⟨xs, ao, cp, e2, hro, h1, h2⟩
theorem arg_struct {fs : Array Field} (hu : P.underlying T = some (.struct fs)) {α : Type} {t : Ty α} {wf : α → Prop} (hr : Rd enc P w T t wf) {base : Nat} {v : Value} (hv : Value.okWide P w .any base T v) {d : DataW H} {ps : List MemPlace} (h : DataW.Trod enc P w 0 (fun _ => true) true T v d ps) :
    ∃ (x : α) (c : List Value), v = .agg c.toArray ∧ t.rep (hp w) x c ∧ wf x := by
  obtain ⟨cs, rfl, _⟩ := okWide_struct hu hv
  obtain ⟨fuel, hf⟩ := h
  obtain ⟨x, h1, h2⟩ := hr _ _ _ hf
  exact ⟨x, cs.toList, by simp, h1, h2⟩
theorem arg_str (hu : P.underlying T = some .string) {base : Nat} {v : Value} (hv : Value.okWide P w .any base T v) {d : DataW H} {ps : List MemPlace} (h : DataW.Trod enc P w 0 (fun _ => true) true T v d ps) :
    ∃ l : List UInt8, v = strV l ∧ l.length ≤ 9223372036854775807 := by
  obtain ⟨s, rfl, _, _, hs⟩ := open_string hu hv h
  exact ⟨s.data.toList, rfl, by unfold maxLen at hs; simpa using hs⟩
theorem arg_arr {n : Nat} {e : TypeId} (hu : P.underlying T = some (.array n e)) {α : Type} {t : Ty α} {wf : α → Prop} (enc' : α → Value) (hrep : ∀ h x c, t.rep h x c → c = [enc' x]) (hc : P.cellsOf e = 1) (hT : P.cellsOf T = n) (hr : Rd enc P w e t wf) {base : Nat} {v : Value} (hv : Value.okWide P w .any base T v) {d : DataW H} {ps : List MemPlace} (h : DataW.Trod enc P w 0 (fun _ => true) true T v d ps) :
    ∃ xs : List α, v = .agg (List.map enc' xs).toArray ∧ xs.length = n ∧ ∀ x ∈ xs, wf x := by
  unfold Value.okWide at hv
  rw [hu] at hv
  obtain ⟨cs, rfl, hsz, _⟩ := hv
  obtain ⟨fuel, hf⟩ := h
  obtain ⟨xs, m, rfl, _, hl, hxl, hget⟩ := DataW.trod_array hu hf
  have hl' : cs.toList.length = n := by rw [← hT]; exact hl
  have key : ∀ k, k ≤ n → ∃ ys : List α, ys.length = k ∧ cs.toList.take k = List.map enc' ys ∧ ∀ x ∈ ys, wf x := by
    intro k
    induction k with
    | zero => exact fun _ => ⟨[], rfl, by simp, by simp⟩
    | succ k ih =>
      intro hk
      obtain ⟨ys, h1, h2, h3⟩ := ih (by omega)
      have h4 := hget k (by omega)
      rw [List.getElem?_eq_getElem (show k < xs.length by omega), hc, Nat.mul_one] at h4
      obtain ⟨x, hx, hw⟩ := hr _ _ _ h4
      have h5 := hrep _ _ _ hx
      refine ⟨ys ++ [x], by simp [h1], ?_, fun y hy => ?_⟩
      · rw [List.take_add_one, h2, List.map_append]
        congr 1
        have h6 : cs.toList[k]? = some (enc' x) := by
          have h7 := congrArg (fun l => l[0]?) h5
          simp only [List.getElem?_take_of_lt (show 0 < 1 by omega), List.getElem?_drop, Nat.add_zero] at h7
          exact h7
        rw [h6]; rfl
      · rcases List.mem_append.1 hy with hy | hy
        · exact h3 y hy
        · have : y = x := by simpa using hy
          subst this; exact hw
  obtain ⟨ys, h1, h2, h3⟩ := key n (Nat.le_refl _)
  rw [List.take_of_length_le (by omega)] at h2
  exact ⟨ys, by rw [← h2], h1, h3⟩
end rd
end Dm
