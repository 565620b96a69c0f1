/-
  The law of layer 21 on joins, over the shallow forms: it is true. Conditions: numbers and bytes are in their kinds' ranges, lengths at most 2^63 - 1.
-/
import Derived.Test.YtmocofbneblccaaLaw21C
namespace Dm
open Go

abbrev WfE (y : En) : Prop := InK .u64 y.1 ∧ InK .i64 y.2.1 ∧ True ∧ y.2.2.2.1.length ≤ 9223372036854775807 ∧ InK .u64 y.2.2.2.2.1 ∧ True ∧ InK .u32 y.2.2.2.2.2.2
def pgOf (x : En) (b : List Int) : Pg := (x.1, x.2.1, x.2.2.1, x.2.2.2.1, x.2.2.2.2.1, b)
def joinR (files : List File) : List Int → List Pg → List En → List Pg × Int
  | kept, acc, [] => if kept.length > 0 then ([], 60) else (acc, 0)
  | kept, acc, x :: l =>
    if x.2.2.2.2.2.1 = true then (if kept.length < 256 ∨ x.2.2.2.2.2.2 ≠ 0 then ([], 60) else joinR files (kept.drop 256) (acc ++ [pgOf x (kept.take 256)]) l)
    else match originS x.2.2.2.1 x.2.2.2.2.1 files with
      | none => ([], 61)
      | some b => if sumS b ≠ x.2.2.2.2.2.2 then ([], 61) else joinR files kept (acc ++ [pgOf x b]) l
/-- what one entry's bytes are -/
def joinB (files : List File) (kept : List Int) (x : En) : List Int × Int × List File × List Int :=
  if x.2.2.2.2.2.1 = true then (if kept.length < 256 ∨ x.2.2.2.2.2.2 ≠ 0 then ([], 60, files, kept) else (kept.take 256, 0, files, kept.drop 256))
  else match originS x.2.2.2.1 x.2.2.2.2.1 files with
    | none => ([], 61, files, kept)
    | some b => if sumS b ≠ x.2.2.2.2.2.2 then ([], 61, files, kept) else (b, 0, files, kept)
theorem Join_1_b_eq {files : List File} (hf : files.length ≤ 10) (hs : ∀ f ∈ files, f.2.length ≤ 3000) (hw : ∀ f ∈ files, WfF f) {kept : List Int} (hk : kept.length ≤ 6000) {x : En} (hx : WfE x) :
    dedup_Join_1_b x files kept = some (joinB files kept x) := by
  unfold dedup_Join_1_b joinB
  cases hwh : x.2.2.2.2.2.1
  · rw [if_pos (by simp), bd_eq (dedup_Origin_eq (by omega) (fun f h => by have := hs f h; omega) _ hx.2.2.2.2.1), jn_eq]
    simp only [Bool.false_eq_true, if_false]
    cases ho : originS x.2.2.2.1 x.2.2.2.2.1 files with
    | none => rfl
    | some b =>
      obtain ⟨hbB, hb256⟩ := originS_bytes hw ho
      have hsum : dedup_Sum ((some b).getD ([] : List Int), (some b).isSome).1 = some (sumS b) := dedup_Sum_eq (b := b) (by omega) hbB
      rw [if_neg (by simp), bd_eq hsum]
      by_cases hq : sumS b = x.2.2.2.2.2.2
      · have hb : (sumS b != x.2.2.2.2.2.2) = false := by simp [hq]
        rw [hb]
        simp only [hq, ne_eq, not_true_eq_false, if_false]; rfl
      · have hb : (sumS b != x.2.2.2.2.2.2) = true := by simp [hq]
        rw [hb]
        simp only [hq, ne_eq, not_false_eq_true, if_true]
  · rw [if_neg (by simp), jn_eq]
    simp only [if_true]
    by_cases h256 : kept.length < 256
    · rw [if_pos (by simp; omega), if_pos (Or.inl h256)]
    · rw [if_neg (by simp; omega)]
      by_cases hq : x.2.2.2.2.2.2 = 0
      · have hb : (x.2.2.2.2.2.2 != 0) = false := by simp [hq]
        have hc : cutL kept 0 256 = kept.take 256 := by unfold cutL; rfl
        have hd : cutL kept 256 ((kept.length : Nat) : Int) = kept.drop 256 := by unfold cutL; rw [Int.toNat_natCast, List.take_length]; rfl
        have hk2 : slices_Clone_byte_byte (kept.take 256) = some (kept.take 256) := by
          unfold slices_Clone_byte_byte; exact gd_pos (by rw [List.length_take]; omega)
        rw [hb]
        rw [if_neg (by simp), gd_pos (by omega), hc, bd_eq hk2, gd_pos (by omega), hd, if_neg (by simp [hq]; omega)]
      · have hb : (x.2.2.2.2.2.2 != 0) = true := by simp [hq]
        rw [hb, if_pos (Or.inr hq)]; rfl
theorem dedup_Join_eq {files : List File} (hf : files.length ≤ 10) (hs : ∀ f ∈ files, f.2.length ≤ 3000) (hw : ∀ f ∈ files, WfF f) {l : List En} (hl : l.length ≤ 20) (hx : ∀ x ∈ l, WfE x) {kept : List Int} (hk : kept.length ≤ 6000) :
    dedup_Join l kept files = some (joinR files kept [] l) := by
  unfold dedup_Join
  rw [jn_eq]
  have key : ∀ (F : Nat) (l' : List En) (i : Nat) (acc : List Pg) (kp : List Int), l.drop i = l' → i ≤ l.length → acc.length ≤ i → kp.length ≤ 6000 → l'.length < F →
    loopK (fun (s2 : (List (Int × Int × Bool × (List UInt8) × Int × (List Int))) × Int × (List ((List UInt8) × (List Int))) × (List Int)) rec1 =>
      (if (decide (s2.2.1 < ((l.length : Nat) : Int))) = true then
        gd ((0 : Int) ≤ s2.2.1 ∧ s2.2.1 < ((l.length : Nat) : Int)) <|
        (dedup_Join_1_b ((gt l s2.2.1).1, (gt l s2.2.1).2.1, (gt l s2.2.1).2.2.1, (gt l s2.2.1).2.2.2.1, (gt l s2.2.1).2.2.2.2.1, (gt l s2.2.1).2.2.2.2.2.1, (gt l s2.2.1).2.2.2.2.2.2) s2.2.2.1 s2.2.2.2).bind fun z1 =>
        (if (z1.2.1 != 0) = true then
          some ([], z1.2.1)
        else
          gd ((s2.1.length + ([((gt l s2.2.1).1, (gt l s2.2.1).2.1, (gt l s2.2.1).2.2.1, (gt l s2.2.1).2.2.2.1, (gt l s2.2.1).2.2.2.2.1, z1.1)] : List (Int × Int × Bool × (List UInt8) × Int × (List Int))).length) * 72 ≤ 140737488355328) <|
          rec1 ((s2.1 ++ ([((gt l s2.2.1).1, (gt l s2.2.1).2.1, (gt l s2.2.1).2.2.1, (gt l s2.2.1).2.2.2.1, (gt l s2.2.1).2.2.2.2.1, z1.1)] : List (Int × Int × Bool × (List UInt8) × Int × (List Int)))), IntKind.i64.wrap (s2.2.1 + 1), z1.2.2.1, z1.2.2.2))
      else
        (if (decide (((s2.2.2.2.length : Nat) : Int) > 0)) = true then
          some ([], 60)
        else
          some (s2.1, 0)))) F (acc, (i : Int), files, kp) = some (joinR files kp acc l') := by
    intro F
    induction F with
    | zero => intro l' i acc kp _ _ _ _ h; omega
    | succ F ih =>
      intro l' i acc kp hd hi ha hkp hF
      rw [loopK]
      dsimp only
      by_cases hlt : i < l.length
      · have hm := List.getElem_mem hlt
        have hwf := hx _ hm
        rw [List.drop_eq_getElem_cons hlt] at hd
        subst hd
        rw [dif_lt hlt, if_pos rfl, gd_pos (by omega), gt_nat hlt, i64s (by omega)]
        have hrec := fun acc' kp' h1 h2 => ih (l.drop (i + 1)) (i + 1) acc' kp' rfl (by omega) h1 h2 (by simp only [List.length_cons] at hF; omega)
        generalize l[i] = x at hwf ⊢
        rw [show (x.1, x.2.1, x.2.2.1, x.2.2.2.1, x.2.2.2.2.1, x.2.2.2.2.2.1, x.2.2.2.2.2.2) = x from rfl, bd_eq (Join_1_b_eq hf hs hw hkp hwf), joinR]
        by_cases hwh : x.2.2.2.2.2.1 = true
        · rw [if_pos hwh]
          by_cases hc : kp.length < 256 ∨ x.2.2.2.2.2.2 ≠ 0
          · have hJ : joinB files kp x = ([], 60, files, kp) := by unfold joinB; rw [if_pos hwh, if_pos hc]
            rw [hJ, if_pos hc]; rfl
          · have hJ : joinB files kp x = (kp.take 256, 0, files, kp.drop 256) := by unfold joinB; rw [if_pos hwh, if_neg hc]
            rw [hJ, if_neg hc]
            dsimp only
            rw [if_neg (by simp), gd_pos (by simp; omega)]
            exact hrec _ _ (by simp; omega) (by rw [List.length_drop]; omega)
        · rw [if_neg hwh]
          cases ho : originS x.2.2.2.1 x.2.2.2.2.1 files with
          | none =>
            have hJ : joinB files kp x = ([], 61, files, kp) := by unfold joinB; rw [if_neg hwh, ho]
            rw [hJ]; rfl
          | some b =>
            by_cases hq : sumS b ≠ x.2.2.2.2.2.2
            · have hJ : joinB files kp x = ([], 61, files, kp) := by unfold joinB; rw [if_neg hwh, ho]; exact if_pos hq
              rw [hJ]
              dsimp only
              rw [if_pos hq]; rfl
            · have hJ : joinB files kp x = (b, 0, files, kp) := by unfold joinB; rw [if_neg hwh, ho]; exact if_neg hq
              rw [hJ]
              dsimp only
              rw [if_neg (show ¬ ((0 : Int) != 0) = true by simp), if_neg hq, gd_pos (by simp; omega)]
              exact hrec _ _ (by simp; omega) hkp
      · obtain rfl : i = l.length := by omega
        rw [List.drop_length] at hd
        subst hd
        rw [dif_ge (Nat.le_refl _), if_neg (by simp), joinR]
        by_cases h0 : kp.length > 0
        · rw [if_pos (by rw [decide_eq_true_eq]; omega), if_pos h0]
        · rw [if_neg (by rw [decide_eq_true_eq]; omega), if_neg h0]
  exact key bigF l 0 [] kept rfl (by omega) (by simp) hk (lt_bigF (by omega))

end Dm
