/-
  The laws of layer 21 over the shallow forms: sums. Conditions: numbers and bytes are in their kinds' ranges, lengths at most 2^63 - 1.
-/
import Derived.Test.YtmocofbneblccaaLaw21
namespace Dm
open Go

abbrev Pg := Int × Int × Bool × List UInt8 × Int × List Int
def fewS (l : List Pg) (files : List File) : Bool :=
  decide (l.length ≤ 20) && (decide (files.length ≤ 10) && ((l.all fun p => decide (p.2.2.2.2.2.length ≤ 300)) && (files.all fun f => decide (f.2.length ≤ 3000))))
theorem all_drop {α : Type} (p : α → Bool) {l : List α} {i : Nat} (h : i < l.length) : (l.drop i).all p = (p l[i] && (l.drop (i + 1)).all p) := by
  rw [List.drop_eq_getElem_cons h, List.all_cons]
theorem law21_few_eq (l : List Pg) (files : List File) : law21_few l files = some (fewS l files) := by
  unfold law21_few fewS
  rw [jn_eq]
  by_cases h20 : l.length > 20
  · have : decide (l.length ≤ 20) = false := by simp; omega
    rw [if_pos (by simp; omega), this]; rfl
  by_cases h10 : files.length > 10
  · have e1 : decide (((files.length : Nat) : Int) > 10) = true := by simp; omega
    have e2 : decide (files.length ≤ 10) = false := by simp; omega
    have e3 : decide (l.length ≤ 20) = true := by simp; omega
    rw [if_neg (by simp; omega), e1, e2, e3]; rfl
  · have e1 : decide (((files.length : Nat) : Int) > 10) = false := by simp; omega
    have e2 : decide (files.length ≤ 10) = true := by simp; omega
    have e3 : decide (l.length ≤ 20) = true := by simp; omega
    rw [if_neg (by simp; omega), e1, e2, e3]
    dsimp only
    rw [if_neg (by simp), jn_eq, Bool.true_and, Bool.true_and]
    refine loop_to (fun i => (i : Int)) (fun i => some (((l.drop i).all fun p => decide (p.2.2.2.2.2.length ≤ 300)) && (files.all fun f => decide (f.2.length ≤ 3000)))) l.length rfl rfl (by omega) ?_
    intro i rec hi hrec
    by_cases hlt : i < l.length
    · rw [dif_lt hlt, if_pos rfl, gd_pos (by omega), gt_nat hlt, i64s (by omega), all_drop _ hlt]
      by_cases hp : l[i].2.2.2.2.2.length ≤ 300
      · have e4 : decide (l[i].2.2.2.2.2.length ≤ 300) = true := by simpa using hp
        rw [if_neg (by simp; omega), let1_eq, hrec hlt, e4, Bool.true_and]
      · have e4 : decide (l[i].2.2.2.2.2.length ≤ 300) = false := by simpa using hp
        rw [if_pos (by simp; omega), e4]; rfl
    · obtain rfl : i = l.length := by omega
      rw [dif_ge (Nat.le_refl _), if_neg (by simp), List.drop_length, jn_eq]
      show _ = some (true && _)
      rw [Bool.true_and]
      refine loop_to (fun i => (i : Int)) (fun i => some ((files.drop i).all fun f => decide (f.2.length ≤ 3000))) files.length rfl rfl (by omega) ?_
      intro i rec hi hrec
      by_cases hlt : i < files.length
      · rw [dif_lt hlt, if_pos rfl, gd_pos (by omega), gt_nat hlt, i64s (by omega), all_drop _ hlt]
        by_cases hp : files[i].2.length ≤ 3000
        · have e4 : decide (files[i].2.length ≤ 3000) = true := by simpa using hp
          rw [if_neg (by simp; omega), let1_eq, hrec hlt, e4, Bool.true_and]
        · have e4 : decide (files[i].2.length ≤ 3000) = false := by simpa using hp
          rw [if_pos (by simp; omega), e4]; rfl
      · obtain rfl : i = files.length := by omega
        rw [dif_ge (Nat.le_refl _), if_neg (by simp), List.drop_length]; rfl
theorem fewS_true {l : List Pg} {files : List File} (h : fewS l files = true) : l.length ≤ 20 ∧ files.length ≤ 10 ∧ (∀ p ∈ l, p.2.2.2.2.2.length ≤ 300) ∧ (∀ f ∈ files, f.2.length ≤ 3000) := by
  unfold fewS at h
  simp only [Bool.and_eq_true, decide_eq_true_eq, List.all_eq_true] at h
  exact h
theorem DedupSums_true {b : List Int} (hl : b.length ≤ 9223372036854775807) (hb : ∀ n ∈ b, InK .u8 n) {file : List UInt8} (_ : file.length ≤ 9223372036854775807) {off : Int} (ho : InK .u64 off)
    {files : List File} (_ : files.length ≤ 9223372036854775807) (_ : ∀ f ∈ files, WfF f) : law21_DedupSums b file off files = some true := by
  unfold law21_DedupSums
  rw [bd_eq law21_awake_true]
  simp only [Bool.not_true, Bool.false_eq_true, if_false]
  rw [bd_eq (law21_few_eq _ _), jn_eq]
  cases hf : fewS [] files
  · rfl
  · have hk := fewS_true hf
    rw [if_neg (by simp)]
    by_cases h5 : b.length > 5000
    · have : decide (((b.length : Nat) : Int) > 5000) = true := by simp; omega
      rw [this]; rfl
    · have : decide (((b.length : Nat) : Int) > 5000) = false := by simp; omega
      have hs : ∀ f ∈ files, f.2.length ≤ 140737488355328 := fun f h => by have := hk.2.2.2 f h; omega
      rw [this]
      dsimp only
      rw [if_neg (by simp), bd_eq (dedup_Origin_eq (by omega) hs file ho), bd_eq (ref21_Origin_eq (by omega) hs file ho), jn_eq, bd_eq (dedup_Sum_eq hl (bytes_of hb)), bd_eq (ref21_Sum_eq hl (bytes_of hb)), if_pos (by simp), if_pos (by simp)]
      simp

end Dm
