/-
  The laws of layer 1 over the shallow forms: each is true. Conditions: numbers and bytes are in their kinds' ranges, lengths at most 2^63 - 1.
-/
import Derived.Test.YtdigooncdjnfbaaOctB
import Derived.KernelRfl
namespace Dm
open Go

theorem law01_awake_true : law01_awake = some true := by kernel_rfl
theorem bytes_of {b : List Int} (h : ∀ n ∈ b, InK .u8 n) : Bytes b := fun x hx => inK_u8 (h x hx)
theorem OctetsGets_true {b : List Int} (hb : ∀ n ∈ b, InK .u8 n) (hl : b.length ≤ 9223372036854775807) {p : Int} (hp : InK .u64 p) {n : Int} (_hn : InK .i64 n) : law01_OctetsGets b p n = some true := by
  unfold law01_OctetsGets
  rw [bd_eq law01_awake_true]
  simp only [Bool.not_true, Bool.false_eq_true, if_false]
  rw [bd_eq (octets_Get_eq hl (bytes_of hb) (inK_u64 hp).1), bd_eq (ref01_Get_eq hl (bytes_of hb) (inK_u64 hp).1)]
  simp [jn_eq]
theorem setS_len {b : List Int} {p n x : Int} (hp : 0 ≤ p) : (setS b p n x).1.length ≤ b.length := by
  unfold setS
  cases hw : wOk n
  · simp
  cases hi : insB b.length p n
  · simp
  have hn := wOk_cases hw
  simp only [insB, Bool.and_eq_true, decide_eq_true_eq] at hi
  simp only [if_true]
  rw [mid_length (by omega)]
  exact Nat.le_refl _
theorem OctetsSets_true {b : List Int} (hb : ∀ n ∈ b, InK .u8 n) (hl : b.length ≤ 9223372036854775807) {p : Int} (hp : InK .u64 p) {n : Int} (_hn : InK .i64 n) {x : Int} (hx : InK .u64 x) : law01_OctetsSets b p n x = some true := by
  unfold law01_OctetsSets
  have hF := @lt_bigF
  generalize bigF = F at hF ⊢
  rw [bd_eq law01_awake_true]
  simp only [Bool.not_true, Bool.false_eq_true, if_false]
  by_cases h : (b.length : Int) > 2000
  · simp [h]
  have hp0 := (inK_u64 hp).1
  simp only [h, decide_false, Bool.false_eq_true, if_false, let1_eq]
  rw [bd_eq (octets_Set_eq (by omega) hp0), bd_eq (ref01_Set_eq (by omega) (bytes_of hb) hp0 (inK_u64 hx).1 (inK_u64 hx).2)]
  simp only [jn_eq, beq_self_eq_true, if_true]
  rw [flip_loop hF _ (Nat.le_trans (setS_len hp0) (by omega))]
theorem OctetsCuts_true {b : List Int} (_hb : ∀ n ∈ b, InK .u8 n) (hl : b.length ≤ 9223372036854775807) {p : Int} (hp : InK .u64 p) {n : Int} (hn : InK .u64 n) : law01_OctetsCuts b p n = some true := by
  unfold law01_OctetsCuts
  have hF := @lt_bigF
  generalize bigF = F at hF ⊢
  rw [bd_eq law01_awake_true]
  simp only [Bool.not_true, Bool.false_eq_true, if_false]
  by_cases h : (b.length : Int) > 2000
  · simp [h]
  have hp0 := (inK_u64 hp).1
  simp only [h, decide_false, Bool.false_eq_true, if_false, let1_eq]
  rw [bd_eq (octets_Cut_eq (by omega) hp0 (inK_u64 hn).1), bd_eq (ref01_Cut_eq (by omega) hp0 (inK_u64 hn).1)]
  simp only [jn_eq, beq_self_eq_true, if_true]
  rw [flip_loop hF]
  unfold cutS
  split
  · rw [List.length_take, List.length_drop]; omega
  · simp
theorem OctetsMeets_true {a : Int} (ha : InK .u64 a) {m : Int} (hm : InK .u64 m) {b : Int} (hb : InK .u64 b) {n : Int} (hn : InK .u64 n) : law01_OctetsMeets a m b n = some true := by
  unfold law01_OctetsMeets
  have ha := inK_u64 ha; have hb := inK_u64 hb; have hm := inK_u64 hm; have hn := inK_u64 hn
  rw [bd_eq law01_awake_true]
  simp only [Bool.not_true, Bool.false_eq_true, if_false]
  rw [bd_eq (ref_Meet_eq ha hb), jn_eq, bd_eq (Meet_eq ha hb), bd_eq (Meet_eq hb ha)]
  have e1 : (if a ≤ b then decide (n > 0) && decide (b - a < m) else decide (m > 0) && decide (a - b < n)) = (if m = 0 ∨ n = 0 then false else if a ≤ b then decide (b - a < m) else decide (a - b < n)) := by
    by_cases hm0 : m = 0
    · subst hm0; by_cases h : a ≤ b <;> simp [h] <;> omega
    by_cases hn0 : n = 0
    · subst hn0; by_cases h : a ≤ b <;> simp [h] <;> omega
    have hm1 : m > 0 := by omega
    have hn1 : n > 0 := by omega
    simp [hm0, hn0, hm1, hn1]
  have e2 : (if b ≤ a then decide (m > 0) && decide (a - b < n) else decide (n > 0) && decide (b - a < m)) = (if m = 0 ∨ n = 0 then false else if a ≤ b then decide (b - a < m) else decide (a - b < n)) := by
    by_cases hm0 : m = 0
    · subst hm0; by_cases h : b ≤ a <;> simp [h] <;> omega
    by_cases hn0 : n = 0
    · subst hn0; by_cases h : b ≤ a <;> simp [h] <;> omega
    have hm1 : m > 0 := by omega
    have hn1 : n > 0 := by omega
    by_cases h : b ≤ a
    · by_cases h2 : a ≤ b
      · have : a = b := by omega
        subst this
        simp [hm0, hn0, hm1, hn1]
      · simp [hm0, hn0, hm1, hn1, h, h2]
    · have h2 : a ≤ b := by omega
      simp [hm0, hn0, hm1, hn1, h, h2]
  rw [e1, e2]
  simp

end Dm
