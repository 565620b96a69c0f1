/-
  Law 12: any word as the number of an instruction. No condition.
-/
import Derived.Test.YtpgohbnaphkngaaDoorLaw12P
namespace Dm
open Go
def pre12 : List (List UInt8) := [[109, 111, 118, 105, 32, 49, 32], [106, 109, 112, 32], [106, 114, 32], [97, 100, 100, 105, 32, 49, 32, 50, 32], [109, 111, 118, 32, 51, 32]]
theorem pre_len : pre12.all (fun l => decide (l.length ≤ 9)) = true := by kernel_rfl
theorem num_tail (t : List UInt8) (htl : t.length ≤ 1000000) : ((isa_Parse t).bind fun z2 =>
      (ref12_Parse t).bind fun z3 =>
      jn (fun (s1 : Bool) =>
        some s1) (fun k1 =>
        (if (z2.2 == z3.2) = true then
        (law12_model (z2.1.1, z2.1.2.1, z2.1.2.2.1, z2.1.2.2.2.1, z2.1.2.2.2.2)).bind fun z4 =>
        k1 ((z4.1 == z3.1.1) && ((z4.2.1 == z3.1.2.1) && ((z4.2.2.1 == z3.1.2.2.1) && ((z4.2.2.2.1 == z3.1.2.2.2.1) && (z4.2.2.2.2 == z3.1.2.2.2.2)))))
        else
        k1 false))) = some true := by
  rw [parse_eq t htl, parse_prog t htl, some_bind, some_bind, jn_eq]
  have hr := parseW_range (wordsB 32 [] t)
  generalize parseW (wordsB 32 [] t) = p at hr ⊢
  rw [if_pos (by simp), show (p.1.1, p.1.2.1, p.1.2.2.1, p.1.2.2.2.1, p.1.2.2.2.2) = p.1 from rfl, model_eq p.1 hr, some_bind]
  simp
theorem IsaNumbers_true {s : List UInt8} {which : Int} (_ : s.length ≤ 9223372036854775807) (_ : InK .i64 which) : law12_IsaNumbers s which = some true := by
  unfold law12_IsaNumbers
  rw [awake12, some_bind]
  simp only [Bool.not_true, Bool.false_eq_true, if_false]
  by_cases hl : ((s.length : Nat) : Int) > 100
  · rw [if_pos (decide_eq_true hl)]
  · rw [if_neg (by simpa using hl)]
    have hidx : 0 ≤ Int.tmod (band .i64 which 255) 5 ∧ Int.tmod (band .i64 which 255) 5 < 5 := by
      have h0 : 0 ≤ band .i64 which 255 := by
        unfold band
        have h1 : (BitVec.ofInt IntKind.i64.bits which &&& BitVec.ofInt IntKind.i64.bits 255).toNat ≤ 255 := by
          rw [BitVec.toNat_and]
          have : (BitVec.ofInt IntKind.i64.bits 255).toNat = 255 := by decide
          rw [this]
          exact Nat.and_le_right
        rw [i64w (by omega)]
        omega
      rw [Int.tmod_eq_emod_of_nonneg h0]
      omega
    generalize Int.tmod (band .i64 which 255) 5 = q at hidx ⊢
    obtain ⟨k, rfl⟩ : ∃ k : Nat, q = k := ⟨q.toNat, by omega⟩
    have hk : k < pre12.length := by show k < 5; omega
    have hpl : (gt pre12 (k : Int)).length ≤ 9 := by
      rw [gt_nat hk]
      simpa using List.all_eq_true.1 pre_len _ (List.getElem_mem hk)
    rw [gd_pos ⟨by omega, by show (k : Int) < ((5 : Nat) : Int); omega⟩, gd_pos (by show (gt pre12 (k : Int)).length + s.length ≤ 9223372036854775807; omega), let1_eq]
    exact num_tail _ (by show (gt pre12 (k : Int) ++ s).length ≤ 1000000; rw [List.length_append]; omega)
end Dm
