/-
  slices.Equal of bytes over its shallow form: are the lists the same? Condition: lengths at most 2^63 - 1.
-/
import Derived.Test.YtmocofbneblccaaS
import Derived.Test.YtmocofbneblccaaFun
namespace Dm
open Go

theorem slices_Equal_eq {a b : List Int} (hl : a.length ≤ 9223372036854775807) : slices_Equal_byte_byte a b = some (decide (a = b)) := by
  unfold slices_Equal_byte_byte
  by_cases hlen : a.length = b.length
  · rw [if_neg (by simp; omega), jn_eq]
    refine loop_to (fun i => (i : Int)) (fun i => some (decide (a.drop i = b.drop i))) a.length rfl rfl hl ?_
    intro i rec hi hrec
    show _ = some (decide (a.drop i = b.drop i))
    by_cases hlt : i < a.length
    · have hlt2 : i < b.length := by omega
      rw [dif_lt hlt, if_pos rfl, gd_pos (by omega), gd_pos (by omega), gt_nat hlt, gt_nat hlt2, i64s (by omega), show a.drop i = _ from List.drop_eq_getElem_cons hlt, show b.drop i = _ from List.drop_eq_getElem_cons hlt2]
      by_cases he : a[i] = b[i]
      · rw [if_neg (by simp [he]), hrec hlt, he]; simp only [List.cons.injEq, true_and]
      · rw [if_pos (by simp [he])]; exact congrArg some (decide_eq_false (fun h => he (List.cons.inj h).1)).symm
    · obtain rfl : i = a.length := by omega
      rw [dif_ge (by omega), List.drop_length, hlen, List.drop_length]; simp
  · rw [if_pos (by simp; omega)]
    have : a ≠ b := fun h => hlen (by rw [h])
    simp [this]

end Dm
