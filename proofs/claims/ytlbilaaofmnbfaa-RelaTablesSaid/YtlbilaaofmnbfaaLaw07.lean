/-
  The laws of layer 7 (relocations) over the shallow forms: each is true. Conditions: numbers are in their kinds' ranges, lengths at most 2^63 - 1.
-/
import Derived.Test.YtlbilaaofmnbfaaS
import Derived.Test.YtlbilaaofmnbfaaFun
import Derived.KernelRfl
namespace Dm
open Go

theorem law07_awake_true : law07_awake = some true := by kernel_rfl
def known07 (t : Int) : Bool := t == 0 || t == 1 || t == 6 || t == 7 || t == 8 || t == 16 || t == 17 || t == 18
theorem ref07_Known_eq (t : Int) : ref07_Known t = some (known07 t) := by
  unfold ref07_Known known07
  simp only [jn_eq]
  by_cases h0 : t = 0
  · simp [h0]
  by_cases h1 : t = 1
  · simp [h1]
  by_cases h6 : t = 6
  · simp [h6]
  by_cases h7 : t = 7
  · simp [h7]
  by_cases h8 : t = 8
  · simp [h8]
  by_cases h16 : t = 16
  · simp [h16]
  by_cases h17 : t = 17
  · simp [h17]
  by_cases h18 : t = 18
  · simp [h18]
  simp [h0, h1, h6, h7, h8, h16, h17, h18]
def valueS (t base symbol add : Int) : Int × Int :=
  if t = 0 then (0, 0) else if t = 8 then (IntKind.u64.wrap (base + IntKind.u64.wrap add), 0)
  else if t = 6 ∨ t = 7 ∨ t = 16 then (symbol, 0) else if t = 1 ∨ t = 17 ∨ t = 18 then (IntKind.u64.wrap (symbol + IntKind.u64.wrap add), 0) else (0, 33)
theorem rela_Value_eq (t b s a : Int) : rela_Value t b s a = some (valueS t b s a) := by
  unfold rela_Value valueS
  simp only [jn_eq]
  by_cases h0 : t = 0
  · simp [h0]
  by_cases h1 : t = 1
  · simp [h1]
  by_cases h6 : t = 6
  · simp [h6]
  by_cases h7 : t = 7
  · simp [h7]
  by_cases h8 : t = 8
  · simp [h8]
  by_cases h16 : t = 16
  · simp [h16]
  by_cases h17 : t = 17
  · simp [h17]
  by_cases h18 : t = 18
  · simp [h18]
  simp [h0, h1, h6, h7, h8, h16, h17, h18]
theorem ref07_Value_eq (t b s a : Int) : ref07_Value t b s a = some (valueS t b s a) := by
  unfold ref07_Value valueS
  rw [bd_eq (ref07_Known_eq t)]
  unfold known07
  simp only [jn_eq]
  by_cases h0 : t = 0
  · simp [h0]
  by_cases h1 : t = 1
  · simp [h1]
  by_cases h6 : t = 6
  · simp [h6]
  by_cases h7 : t = 7
  · simp [h7]
  by_cases h8 : t = 8
  · simp [h8]
  by_cases h16 : t = 16
  · simp [h16]
  by_cases h17 : t = 17
  · simp [h17]
  by_cases h18 : t = 18
  · simp [h18]
  simp [h0, h1, h6, h7, h8, h16, h17, h18]
theorem RelaValues_true {kind base symbol add : Int} (_ : InK .u32 kind) (_ : InK .u64 base) (_ : InK .u64 symbol) (_ : InK .i64 add) : law07_RelaValues kind base symbol add = some true := by
  unfold law07_RelaValues
  rw [bd_eq law07_awake_true]
  simp only [Bool.not_true, Bool.false_eq_true, if_false]
  rw [bd_eq (rela_Value_eq _ _ _ _), bd_eq (ref07_Value_eq _ _ _ _)]
  simp [jn_eq]
def errS (symbols : Int) (x : Int × Int × Int × Int) : Int :=
  if known07 x.2.1 = false then 33 else if x.2.2.1 > 0 ∧ x.2.2.1 ≥ symbols then 10 else if (x.2.1 = 0 ∨ x.2.1 = 8) ↔ x.2.2.1 = 0 then 0 else 11
theorem valueS_ok (t : Int) : ((valueS t 0 0 0).2 = 0 ↔ known07 t = true) ∧ ((valueS t 0 0 0).2 ≠ 0 → (valueS t 0 0 0).2 = 33) := by
  unfold valueS known07
  by_cases h0 : t = 0
  · simp [h0]
  by_cases h1 : t = 1
  · simp [h1]
  by_cases h6 : t = 6
  · simp [h6]
  by_cases h7 : t = 7
  · simp [h7]
  by_cases h8 : t = 8
  · simp [h8]
  by_cases h16 : t = 16
  · simp [h16]
  by_cases h17 : t = 17
  · simp [h17]
  by_cases h18 : t = 18
  · simp [h18]
  simp [h0, h1, h6, h7, h8, h16, h17, h18]
abbrev Wf07 (y : Int × Int × Int × Int) : Prop := InK .u64 y.1 ∧ InK .u32 y.2.1 ∧ InK .u32 y.2.2.1 ∧ InK .i64 y.2.2.2
theorem rela_Check_eq {l : List (Int × Int × Int × Int)} (hl : l.length ≤ 9223372036854775807) (hw : ∀ y ∈ l, Wf07 y) {symbols : Int} (hs : InK .i64 symbols) :
    rela_Check l symbols = some (firstE (errS symbols) l) := by
  unfold rela_Check
  rw [jn_eq]
  refine scan l hl (errS symbols) ?_ ?_
  · intro i rec hi
    have hx := hw _ (List.getElem_mem hi)
    rw [dif_lt hi, if_pos rfl, gd_pos (by omega), gt_nat hi, bd_eq (rela_Value_eq _ _ _ _), i64s (by omega)]
    generalize l[i] = x at hx ⊢
    have hS := inK_u32 hx.2.2.1
    have e : IntKind.i64.wrap x.2.2.1 = x.2.2.1 := i64w (by omega)
    have hv := valueS_ok x.2.1
    simp only [jn_eq, let1_eq, e]
    unfold errS
    cases hk : known07 x.2.1
    · have h1 : (valueS x.2.1 0 0 0).2 ≠ 0 := by rw [Ne, hv.1, hk]; simp
      simp [hv.2 h1]
    · have h1 : (valueS x.2.1 0 0 0).2 = 0 := hv.1.2 hk
      simp only [h1, bne_self_eq_false, Bool.false_eq_true, if_false, Bool.true_eq_false]
      by_cases hp : x.2.2.1 > 0 <;> by_cases hq : x.2.2.1 ≥ symbols <;> by_cases h0 : x.2.1 = 0 <;> by_cases h8 : x.2.1 = 8 <;> by_cases hz : x.2.2.1 = 0 <;>
        first | omega | simp [beqD, hp, hq, h0, h8, hz]
  · intro rec
    rw [dif_ge (Nat.le_refl _)]; rfl
theorem ref07_Check_eq {l : List (Int × Int × Int × Int)} (hl : l.length ≤ 9223372036854775807) (hw : ∀ y ∈ l, Wf07 y) {symbols : Int} (hs : InK .i64 symbols) :
    ref07_Check l symbols = some (firstE (errS symbols) l) := by
  unfold ref07_Check
  rw [jn_eq]
  refine scan l hl (errS symbols) ?_ ?_
  · intro i rec hi
    have hx := hw _ (List.getElem_mem hi)
    have hS' := inK_i64 hs
    have hg : (0 : Int) ≤ (i : Int) ∧ (i : Int) < ((l.length : Nat) : Int) := by omega
    rw [dif_lt hi, if_pos rfl, gd_pos hg, gt_nat hi, bd_eq (ref07_Known_eq _), i64s (by omega)]
    simp only [jn_eq, let1_eq, gd_pos hg]
    generalize l[i] = x at hx ⊢
    have hS := inK_u32 hx.2.2.1
    have e : IntKind.u64.wrap x.2.2.1 = x.2.2.1 := u64w (by omega)
    unfold errS
    rw [e]
    cases hk : known07 x.2.1
    · simp
    · simp only [Bool.not_true, Bool.false_eq_true, if_false, Bool.true_eq_false]
      by_cases hn : symbols < 0
      · have hq : x.2.2.1 ≥ symbols := by omega
        by_cases hp : x.2.2.1 > 0 <;> by_cases h0 : x.2.1 = 0 <;> by_cases h8 : x.2.1 = 8 <;> by_cases hz : x.2.2.1 = 0 <;>
          first | omega | simp [beqD, hn, hp, hq, h0, h8, hz]
      · have e2 : IntKind.u64.wrap symbols = symbols := u64w (by omega)
        rw [e2]
        by_cases hp : x.2.2.1 > 0 <;> by_cases hq : x.2.2.1 ≥ symbols <;> by_cases h0 : x.2.1 = 0 <;> by_cases h8 : x.2.1 = 8 <;> by_cases hz : x.2.2.1 = 0 <;>
          first | omega | simp [beqD, hn, hp, hq, h0, h8, hz]
  · intro rec
    rw [dif_ge (Nat.le_refl _)]; rfl
theorem RelaChecks_true {l : List (Int × Int × Int × Int)} (hl : l.length ≤ 9223372036854775807) (hw : ∀ y ∈ l, Wf07 y) {symbols : Int} (hs : InK .i64 symbols) : law07_RelaChecks l symbols = some true := by
  unfold law07_RelaChecks
  rw [bd_eq law07_awake_true]
  simp only [Bool.not_true, Bool.false_eq_true, if_false]
  split
  · rfl
  · rw [bd_eq (rela_Check_eq hl hw hs), bd_eq (ref07_Check_eq hl hw hs)]; simp

theorem shiftW (x y z : Int) : IntKind.u64.wrap (IntKind.u64.wrap (x + z) + y) = IntKind.u64.wrap (IntKind.u64.wrap (x + y) + z) := by simp only [wrap_u64]; omega
theorem RelaShifts_true {kind base symbol add by_ : Int} (_ : InK .u32 kind) (_ : InK .u64 base) (_ : InK .u64 symbol) (_ : InK .i64 add) (_ : InK .u64 by_) : law07_RelaShifts kind base symbol add by_ = some true := by
  unfold law07_RelaShifts
  rw [bd_eq law07_awake_true]
  simp only [Bool.not_true, Bool.false_eq_true, if_false]
  rw [bd_eq (rela_Value_eq _ _ _ _), bd_eq (rela_Value_eq _ _ _ _)]
  simp only [jn_eq]
  unfold valueS
  by_cases h0 : kind = 0
  · simp [h0]
  by_cases h8 : kind = 8
  · simp [h8, shiftW]
  by_cases h6 : kind = 6 ∨ kind = 7 ∨ kind = 16
  · simp [h0, h8, h6]
  by_cases h1 : kind = 1 ∨ kind = 17 ∨ kind = 18
  · simp [h0, h8, h6, h1, shiftW]
  simp [h0, h8, h6, h1]
theorem RelaOne_true {x : Int × Int × Int × Int} (hx : Wf07 x) {symbols : Int} (hs : InK .i64 symbols) : law07_RelaOne x symbols = some true := by
  unfold law07_RelaOne
  rw [bd_eq law07_awake_true]
  simp only [Bool.not_true, Bool.false_eq_true, if_false]
  rw [jn_eq]
  have hw : ∀ y ∈ [((0 : Int), (0 : Int), (0 : Int), (0 : Int)), (0, 8, 0, 0), (x.1, x.2.1, x.2.2.1, x.2.2.2)], Wf07 y := by
    intro y hy
    simp only [List.mem_cons, List.not_mem_nil, or_false] at hy
    rcases hy with rfl | rfl | rfl
    · exact ⟨by decide, by decide, by decide, by decide⟩
    · exact ⟨by decide, by decide, by decide, by decide⟩
    · exact hx
  have hw2 : ∀ y ∈ [(x.1, x.2.1, x.2.2.1, x.2.2.2)], Wf07 y := by
    intro y hy
    simp only [List.mem_cons, List.not_mem_nil, or_false] at hy
    subst hy; exact hx
  have ec : cutL [((0 : Int), (0 : Int), (0 : Int), (0 : Int)), (0, 8, 0, 0), (x.1, x.2.1, x.2.2.1, x.2.2.2)] 2 (([((0 : Int), (0 : Int), (0 : Int), (0 : Int)), (0, 8, 0, 0), (x.1, x.2.1, x.2.2.1, x.2.2.2)].length : Nat) : Int) = [(x.1, x.2.1, x.2.2.1, x.2.2.2)] := rfl
  rw [bd_eq (rela_Check_eq (by simp) hw hs), bd_eq (ref07_Check_eq (by simp) hw hs), ec]
  simp only [beq_self_eq_true, if_true]
  rw [gd_pos (by simp), bd_eq (rela_Check_eq (by simp) hw2 hs), gd_pos (by simp), bd_eq (ref07_Check_eq (by simp) hw2 hs)]
  simp

end Dm
