/-
  The law of layer 21 on files that are other ones: it is true. Conditions: bytes are from 0 to 255.
-/
import Derived.Test.YtmocofbneblccaaLaw21F
namespace Dm
open Go

theorem origin_one (o : List Int) : originS [102] 0 [([102], o)] = if 256 ≤ o.length then some (cu o 0 256) else none := by
  unfold originS
  rw [if_neg (by decide)]
  have : fI (fun f : File => f.1 == [102]) [([102], o)] = some 0 := rfl
  rw [this]
  show (if 256 ≤ o.length ∧ (0 : Int) ≤ (o.length : Int) - 256 then some (cu o 0 256) else none) = _
  by_cases h : 256 ≤ o.length
  · rw [if_pos h, if_pos ⟨h, by omega⟩]
  · rw [if_neg h, if_neg fun q => h q.1]
theorem cu_all {o : List Int} {n : Nat} (h : o.length = n) : cu o 0 n = o := by unfold cu; rw [List.drop_zero, List.take_of_length_le (by omega)]
def xO (b : List Int) : En := (256, 0, false, [102], 0, false, sumS b)
theorem join_one (b o : List Int) : joinR [([102], o)] [] [] [xO b] = if 256 ≤ o.length then (if sumS (cu o 0 256) ≠ sumS b then ([], 61) else ([pgOf (xO b) (cu o 0 256)], 0)) else ([], 61) := by
  rw [joinR, if_neg (by simp [xO]), show (xO b).2.2.2.1 = [102] from rfl, show (xO b).2.2.2.2.1 = 0 from rfl, origin_one]
  by_cases h : 256 ≤ o.length
  · rw [if_pos h, if_pos h]
    show (if sumS (cu o 0 256) ≠ sumS b then (([] : List Pg), (61 : Int)) else joinR [([102], o)] [] ([] ++ [pgOf (xO b) (cu o 0 256)]) []) = _
    by_cases hq : sumS (cu o 0 256) ≠ sumS b
    · rw [if_pos hq, if_pos hq]
    · rw [if_neg hq, if_neg hq, joinR]; rfl
  · rw [if_neg h, if_neg h]
theorem join_none (b : List Int) : joinR [] [] [] [xO b] = ([], 61) := by
  rw [joinR, if_neg (by simp [xO]), show (xO b).2.2.2.1 = [102] from rfl, show (xO b).2.2.2.2.1 = 0 from rfl]
  have : originS [102] 0 [] = none := by unfold originS; rw [if_neg (by decide)]; rfl
  rw [this]
theorem sum_kind {b : List Int} : InK .u32 (sumS b) := by
  have := sumP_bd (b := b) b.length (Nat.le_refl _)
  rw [List.take_of_length_le (Nat.le_refl _)] at this
  constructor
  · show 0 ≤ sumS b; unfold sumS; omega
  · show sumS b ≤ 4294967295; unfold sumS; omega
theorem DedupOther_true {b : List Int} (hl : b.length = 256) (hb : ∀ n ∈ b, InK .u8 n) {at_ c : Int} (h1 : InK .u8 at_) (h2 : InK .u8 c) {short : Bool} : law21_DedupOther b at_ c short = some true := by
  have h1 := inK_u8 h1
  have hcut : cutL b 0 ((b.length : Nat) : Int) = b := by unfold cutL; simp
  unfold law21_DedupOther
  rw [bd_eq law21_awake_true]
  simp only [Bool.not_true, Bool.false_eq_true, if_false, hcut, List.nil_append]
  rw [gd_pos (by omega), gd_pos (by omega)]
  have hwp : ∀ p ∈ [((256, 0, false, [102], 0, b) : Pg)], WfP p := by
    intro p hp
    simp only [List.mem_cons, List.not_mem_nil, or_false] at hp
    subst hp
    exact ⟨by show InK .u64 256; decide, by show InK .i64 0; decide, trivial, by simp, by show InK .u64 0; decide, by show b.length ≤ _; omega, hb⟩
  have hwf : ∀ o : List Int, o.length ≤ 256 → (∀ n ∈ o, InK .u8 n) → ∀ f ∈ [(([102], o) : File)], WfF f := by
    intro o ho hB f hf
    simp only [List.mem_cons, List.not_mem_nil, or_false] at hf
    subst hf; exact ⟨by simp, by show o.length ≤ _; omega, hB⟩
  have hsf : ∀ o : List Int, o.length ≤ 256 → ∀ f ∈ [(([102], o) : File)], f.2.length ≤ 3000 := by
    intro o ho f hf
    simp only [List.mem_cons, List.not_mem_nil, or_false] at hf
    subst hf; show o.length ≤ _; omega
  have hS := dedup_Split_eq (l := [(256, 0, false, [102], 0, b)]) (files := [([102], b)]) (by simp) (by intro p hp; simp only [List.mem_cons, List.not_mem_nil, or_false] at hp; subst hp; show b.length ≤ _; omega) hwp (by simp) (hsf b (by omega)) (hwf b (by omega) hb)
  have hhit : hitS [([102], b)] (256, 0, false, [102], 0, b) = true := by
    unfold hitS; rw [origin_one, if_pos (by omega), cu_all hl]; simp
  have e1 : [((256, 0, false, [102], 0, b) : Pg)].map (splE [([102], b)]) = [xO b] := by
    rw [List.map_cons, List.map_nil]; unfold splE; rw [hhit]; rfl
  have e2 : keptS [([102], b)] [(256, 0, false, [102], 0, b)] = [] := by
    unfold keptS; rw [List.map_cons, List.map_nil, hhit]; rfl
  rw [e1, e2] at hS
  rw [bd_eq hS, jn_eq, if_neg (by simp), if_neg (by simp), gd_pos (by simp)]
  dsimp only
  rw [show (gt [xO b] 0).2.2.2.2.2.1 = false from rfl, if_neg (by simp), gd_pos (by simp [hl]), gd_pos (by simp [hl]), gd_pos (by omega), jn_eq]
  have hx : ∀ x ∈ [xO b], WfE x := by
    intro x hx
    simp only [List.mem_cons, List.not_mem_nil, or_false] at hx
    subst hx
    exact ⟨by show InK .u64 256; decide, by show InK .i64 0; decide, trivial, by simp [xO], by show InK .u64 0; decide, trivial, sum_kind⟩
  have hoB : ∀ n ∈ b.set at_.toNat c, InK .u8 n := by
    intro n hn
    rcases List.mem_or_eq_of_mem_set hn with hn | rfl
    · exact hb n hn
    · exact h2
  have hoL : (b.set at_.toNat c).length = 256 := by rw [List.length_set, hl]
  generalize b.set at_.toNat c = o at hoB hoL ⊢
  have hJ0 := dedup_Join_eq (files := []) (by simp) (by simp) (by simp) (l := [xO b]) (by simp) hx (kept := []) (by simp)
  rw [join_none] at hJ0
  have hsum := dedup_Sum_eq (b := b) (by omega) (bytes_of hb)
  cases short
  · have hJ := dedup_Join_eq (files := [([102], o)]) (by simp) (hsf o (by omega)) (hwf o (by omega) hoB) (l := [xO b]) (by simp) hx (kept := []) (by simp)
    rw [join_one, if_pos (by omega), cu_all hoL] at hJ
    rw [if_neg (by simp)]
    dsimp only
    rw [bd_eq hJ, bd_eq hJ0, jn_eq, if_neg (by simp), bd_eq (dedup_Sum_eq (by omega) (bytes_of hoB)), gd_pos (by omega), bd_eq hsum]
    by_cases hq : sumS o ≠ sumS b
    · have hd : (sumS o != sumS b) = true := bne_iff_ne.2 hq
      rw [hd, if_pos hq]; rfl
    · have hd : (sumS o != sumS b) = false := by simpa using hq
      rw [hd, if_neg hq]
      dsimp only
      rw [if_neg (by simp), jn_eq, if_pos (by simp), if_pos (by simp), gd_pos (by simp), show (gt [pgOf (xO b) o] 0).2.2.2.2.2 = o from rfl]
      simp
  · have h5 : (o.take 255).length = 255 := by rw [List.length_take]; omega
    have hc : cutL o 0 255 = o.take 255 := by unfold cutL; rfl
    have hJ := dedup_Join_eq (files := [([102], o.take 255)]) (by simp) (hsf _ (by omega)) (hwf _ (by omega) fun n hn => hoB n (List.mem_of_mem_take hn)) (l := [xO b]) (by simp) hx (kept := []) (by simp)
    rw [join_one, if_neg (by omega)] at hJ
    rw [if_pos rfl, gd_pos (by omega), hc]
    dsimp only
    rw [bd_eq hJ, bd_eq hJ0, jn_eq, if_pos rfl]
    rfl

end Dm
