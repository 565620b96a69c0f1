/-
  The laws of layer 1 over the shallow forms: each is true. Conditions: numbers and bytes are in their kinds' ranges, lengths at most 2^63 - 1.
-/
import Derived.Test.YtdigooncdjnfbaaOct
import Derived.KernelRfl
namespace Dm
open Go

theorem law01_awake_true : law01_awake = some true := by kernel_rfl
theorem bytes_of {b : List Int} (h : ∀ n ∈ b, InK .u8 n) : Bytes b := fun x hx => inK_u8 (h x hx)
theorem OctetsGets_true {b : List Int} (hb : ∀ n ∈ b, InK .u8 n) (hl : b.length ≤ 9223372036854775807) {p : Int} (hp : InK .u64 p) {n : Int} (_hn : InK .i64 n) : law01_OctetsGets b p n = some true := by
  unfold law01_OctetsGets
  rw [bd_eq law01_awake_true]
  simp only [Bool.not_true, Bool.false_eq_true, if_false]
  rw [bd_eq (octets_Get_eq hl (bytes_of hb) (inK_u64 hp).1), bd_eq (ref01_Get_eq hl (bytes_of hb) (inK_u64 hp).1)]
  simp [jn_eq]

end Dm
