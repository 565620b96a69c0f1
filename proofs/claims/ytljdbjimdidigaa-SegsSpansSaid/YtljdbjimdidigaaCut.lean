/-
  Cut of octets and its reference, over the shallow forms. Conditions: lengths at most 2^47.
-/
import Derived.Test.YtljdbjimdidigaaSet
namespace Dm
open Go

def cutP (b : List Int) (p n : Int) : List Int × Int := if insB b.length p n then ((b.drop p.toNat).take n.toNat, 0) else ([], 10)
theorem octets_Cut_eq {b : List Int} (hb : b.length ≤ 140737488355328) {p n : Int} (hp : 0 ≤ p) (hn : 0 ≤ n) : octets_Cut b p n = some (cutP b p n) := by
  unfold octets_Cut cutP
  rw [bd_eq (octets_has_eq (by omega) hp)]
  cases hi : insB b.length p n
  · simp
  simp only [insB, Bool.and_eq_true, decide_eq_true_eq] at hi
  simp only [Bool.not_true, Bool.false_eq_true, if_false, if_true]
  rw [u64w (by omega), gd_pos (by omega)]
  have e : cutL b p (p + n) = (b.drop p.toNat).take n.toNat := by
    unfold cutL
    rw [List.drop_take]
    congr 1
    omega
  have hc : slices_Clone_byte_byte (cutL b p (p + n)) = some (cutL b p (p + n)) := by
    unfold slices_Clone_byte_byte; exact gd_pos (by rw [e, List.length_take, List.length_drop]; omega)
  rw [bd_eq hc, e]
theorem ref01_Cut_eq {b : List Int} (hb : b.length ≤ 140737488355328) {p n : Int} (hp : 0 ≤ p) (hn : 0 ≤ n) : ref01_Cut b p n = some (cutP b p n) := by
  unfold ref01_Cut cutP
  have hF := @lt_bigF
  generalize bigF = F at hF ⊢
  rw [bd_eq (ref01_Inside_eq (by omega) hp)]
  cases hi : insB b.length p n
  · simp
  simp only [insB, Bool.and_eq_true, decide_eq_true_eq] at hi
  simp only [Bool.not_true, Bool.false_eq_true, if_false, if_true]
  rw [jn_eq]
  obtain ⟨q, rfl⟩ := Int.eq_ofNat_of_zero_le hp
  refine loop_run (fun s => 0 ≤ s.2 ∧ s.2 ≤ n ∧ s.1 = (b.drop q).take s.2.toNat) (fun s => (n - s.2).toNat) ?_ F ([], 0) ⟨by simp, by simp; omega, by simp⟩ (hF (by simp; omega))
  rintro ⟨s, i⟩ rec ⟨h0, h1, hx⟩ hrec
  simp only at h0 h1 hx hrec ⊢
  by_cases hlt : i < n
  · obtain ⟨j, rfl⟩ := Int.eq_ofNat_of_zero_le h0
    simp only [Int.toNat_natCast] at hx
    have hlen : s.length = j := by rw [hx, List.length_take, List.length_drop]; omega
    have e2 : IntKind.u64.wrap ((q : Int) + j) = ((q + j : Nat) : Int) := by rw [u64w (by omega)]; omega
    have e6 : IntKind.u64.wrap ((j : Int) + 1) = ((j + 1 : Nat) : Int) := by rw [u64w (by omega)]; omega
    simp only [e2, e6, hlt, decide_true, if_true, let1_eq]
    rw [gd_pos (by omega), gd_pos (by simp only [List.length_cons, List.length_nil]; omega)]
    refine hrec _ ⟨by simp only []; omega, by simp only []; omega, ?_⟩ (by simp only []; omega)
    simp only [Int.toNat_natCast]
    rw [take_snoc (by omega), hx, gt_eq, Int.toNat_natCast]
  · have : i = n := by omega
    subst this
    simp [hx]
theorem cutP_bytes {b : List Int} (hB : Bytes b) (p n : Int) : Bytes (cutP b p n).1 := by
  unfold cutP; split
  · exact (hB.drop _).take _
  · intro x hx; simp at hx
theorem cu_drop (b : List Int) (q p n : Nat) : cu (b.drop q) p n = cu b (q + p) n := by unfold cu; rw [List.drop_drop]
theorem cu_cu {b : List Int} {q m p n : Nat} (h : p + n ≤ m) : cu (cu b q m) p n = cu b (q + p) n := by
  unfold cu; rw [List.drop_take, List.take_take, List.drop_drop]; congr 1; omega
theorem cutL_cu (b : List Int) (p q : Nat) (n : Nat) (h : q = p + n) : cutL b (p : Int) (q : Int) = cu b p n := by
  subst h; unfold cutL cu; rw [Int.toNat_natCast, Int.toNat_natCast, List.drop_take]; congr 1; omega
/-- two numbers that stand side by side are one -/
theorem leB_two {m n : Nat} {a b : Int} (ha : 0 ≤ a) (ha1 : a < 256 ^ m) (hb : 0 ≤ b) (hb1 : b < 256 ^ n) : leB (m + n) (a + 256 ^ m * b) = leB m a ++ leB n b := by
  have h1 : le (leB m a ++ leB n b) = a + 256 ^ m * b := by rw [le_append, leB_length, le_leB ha ha1, le_leB hb hb1]
  have h2 : (leB m a ++ leB n b).length = m + n := by rw [List.length_append, leB_length, leB_length]
  rw [← h1, ← h2, leB_le ((leB_bytes _ _).append (leB_bytes _ _))]

end Dm
