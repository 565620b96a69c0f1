/-
  The laws of layer 2 on tables that are built, over the shallow forms: each is true. Conditions: lengths at most 2^63 - 1.
-/
import Derived.Test.YtmlghbdlhjinaaaLaw02
import Derived.Test.YtmlghbdlhjinaaaBst
namespace Dm
open Go

theorem jn_gen {σ ρ : Type} {k : σ → Option ρ} {b : (σ → Option ρ) → Option ρ} {r : Option ρ} (h : ∀ kk, kk = k → b kk = r) : jn k b = r := by rw [jn_eq]; exact h k rfl
theorem take_succ {α : Type} {l : List α} {i : Nat} (h : i < l.length) : l.take (i + 1) = l.take i ++ [l[i]] := List.take_succ_eq_append_getElem h
theorem tot_take {l : List Str} {i : Nat} (h : i < l.length) : tot (l.take i) + (l[i].length + 1) ≤ tot l := by
  have h1 : tot l = tot (l.take i) + tot (l.drop i) := by rw [← tot_append, List.take_append_drop]
  rw [List.drop_eq_getElem_cons h] at h1
  unfold tot at h1 ⊢
  rw [List.map_cons, List.sum_cons] at h1
  omega
theorem len_tot (l : List Str) : l.length ≤ tot l := by
  induction l with
  | nil => simp
  | cons s l ih => unfold tot at ih ⊢; rw [List.map_cons, List.sum_cons, List.length_cons]; omega
theorem ofStr_byte (s : Str) (i : Nat) : 0 ≤ (ofStr s).getD i 0 := by
  unfold ofStr
  rw [List.getD_eq_getElem?_getD, List.getElem?_map]
  cases s[i]? <;> simp
theorem hasZ_drop {l : List Str} {i : Nat} (h : i < l.length) : hasZ (l.drop i) = (hasB l[i] 0 || hasZ (l.drop (i + 1))) := by
  rw [List.drop_eq_getElem_cons h]; rfl
/-- the places of the names, by the loop of the program -/
theorem names_Build_eq {l : List Str} (hl : tot l ≤ 1000000) : names_Build l = some (buildS l) := by
  have hln := len_tot l
  unfold names_Build
  rw [jn_eq]
  refine loop_to (fun i => (i : Int)) (fun i => some (if hasZ (l.drop i) then ([], [], 1) else if (bfold l).1.length > 65536 then ([], [], 13) else ((bfold l).1, (bfold l).2.1, 0))) l.length rfl rfl (by omega) ?_
  intro i rec hi hrec
  show _ = some (if hasZ (l.drop i) then ([], [], 1) else if (bfold l).1.length > 65536 then ([], [], 13) else ((bfold l).1, (bfold l).2.1, 0))
  by_cases hlt : i < l.length
  · have hc : strings_Contains l[i] [0] = some (hasB l[i] 0) := rfl
    rw [dif_lt hlt, if_pos rfl, gd_pos (by omega), gt_nat hlt, let1_eq, bd_eq hc, hasZ_drop hlt, i64s (by omega)]
    cases hb : hasB l[i] 0
    · rw [if_neg (by simp), hrec hlt, Bool.false_or]
    · rw [if_pos rfl, Bool.true_or, if_pos rfl]
  · obtain rfl : i = l.length := by omega
    rw [dif_ge (by omega), if_neg (by simp), List.drop_length, if_neg (by simp [hasZ])]
    clear hrec hi hlt
    rw [jn_eq]
    generalize hR : (some (if (bfold l).1.length > 65536 then (([] : List Int), ([] : List Int), (13 : Int)) else ((bfold l).1, (bfold l).2.1, 0))) = R
    refine loop_to (fun i => ((bfold (l.take i)).1, (bfold (l.take i)).2.1, (i : Int), (bfold (l.take i)).2.2)) (fun i => if i < l.length then R else some ((bfold l).1, (bfold l).2.1, 0)) l.length rfl ?_ (by omega) ?_
    · show R = if 0 < l.length then R else some ((bfold l).1, (bfold l).2.1, 0)
      by_cases hn : 0 < l.length
      · rw [if_pos hn]
      · have : l = [] := List.length_eq_zero_iff.1 (by omega)
        rw [if_neg hn, ← hR]; subst this; rfl
    · intro i rec hi hrec
      simp only at hrec ⊢
      by_cases hlt : i < l.length
      · rw [dif_lt hlt, if_pos rfl, gd_pos (by omega), gt_nat hlt, let1_eq, let1_eq, let1_eq, jn_eq, if_pos hlt]
        have hI := BI.all (l.take i)
        have hN : bfold (l.take (i + 1)) = bst (bfold (l.take i)) l[i] := by rw [take_succ hlt, bfold_snoc]
        have hmono := bfold_mono l (i + 1)
        have ht := tot_take hlt
        have hrec := hrec hlt
        have hOl := hI.len
        have hTop := hI.top
        rw [List.length_take, Nat.min_eq_left (by omega)] at hOl
        rw [hN] at hrec hmono
        have hfin : ∀ S : BS, S = bst (bfold (l.take i)) l[i] → S.1.length ≤ 65536 → rec (S.1, S.2.1, ((i + 1 : Nat) : Int), S.2.2) = R := by
          intro S hS hle
          rw [← hS] at hrec
          by_cases h2 : i + 1 < l.length
          · rw [if_pos h2] at hrec; exact hrec
          · rw [if_neg h2] at hrec
            have : l.take (i + 1) = l := List.take_of_length_le (by omega)
            rw [this, ← hS] at hN
            rw [hrec, ← hR, if_neg (by rw [hN]; omega)]
        have hbig : (bst (bfold (l.take i)) l[i]).1.length > 65536 → some (([] : List Int), ([] : List Int), (13 : Int)) = R := by
          intro h; rw [← hR, if_pos (by omega)]
        generalize hB : bfold (l.take i) = S at hI hOl hTop hfin hbig
        obtain ⟨T, O, M⟩ := S
        simp only at hOl hTop ⊢
        unfold bst at hfin hbig
        cases hm : mpGet M l[i] with
        | some a =>
          simp only [hm] at hfin hbig
          rw [if_neg (by simp)]
          simp only [Option.getD_some]
          by_cases hT : T.length > 65536
          · rw [if_pos (by simp; omega)]; exact hbig hT
          · rw [if_neg (by simp; omega), gd_pos (by simp; omega), i64s (by omega)]
            exact hfin _ rfl (by simp only; omega)
        | none =>
          simp only [hm] at hfin hbig
          have hlo := ofStr_length l[i]
          rw [if_pos (by simp), let1_eq, u64w (by omega), gd_pos (by omega), gd_pos (by rw [List.length_append, hlo]; simp; omega)]
          by_cases hT : (T ++ ofStr l[i] ++ [0]).length > 65536
          · rw [if_pos (by simp at hT ⊢; omega)]; exact hbig hT
          · rw [if_neg (by simp at hT ⊢; omega), gd_pos (by simp; omega), i64s (by omega)]
            exact hfin _ rfl (by simp only; omega)
      · obtain rfl : i = l.length := by omega
        rw [dif_ge (by omega), if_neg (by simp), List.take_of_length_le (Nat.le_refl _), if_neg hlt]

theorem u8_zero (u : UInt8) : ((((u.toNat : Nat) : Int) == 0) = true) ↔ u = 0 := by
  rw [beq_iff_eq]
  constructor
  · intro h
    have h0 : u.toNat = 0 := by omega
    exact UInt8.toNat_inj.1 h0
  · intro h; subst h; rfl
theorem hasB_drop {s : Str} {i : Nat} (h : i < s.length) : hasB (s.drop i) 0 = (s[i] == 0 || hasB (s.drop (i + 1)) 0) := by
  rw [List.drop_eq_getElem_cons h]; rfl
theorem mem_len {l : List Str} {i : Nat} (h : i < l.length) : l[i].length ≤ tot l := by have := tot_take h; omega
theorem ref02_Build_eq {l : List Str} (hl : tot l ≤ 1000000) : ref02_Build l = some (buildS l) := by
  have hln := len_tot l
  unfold ref02_Build
  rw [jn_eq]
  refine loop_to (fun i => (i : Int)) (fun i => some (if hasZ (l.drop i) then ([], [], 1) else if (bfold l).1.length > 65536 then ([], [], 13) else ((bfold l).1, (bfold l).2.1, 0))) l.length rfl rfl (by omega) ?_
  intro i rec hi hrec
  show _ = some (if hasZ (l.drop i) then ([], [], 1) else if (bfold l).1.length > 65536 then ([], [], 13) else ((bfold l).1, (bfold l).2.1, 0))
  by_cases hlt : i < l.length
  · have hg : (0 : Int) ≤ (i : Int) ∧ (i : Int) < ((l.length : Nat) : Int) := by omega
    have hm := mem_len hlt
    rw [dif_lt hlt, if_pos rfl, jn_eq, jn_eq, hasZ_drop hlt]
    have hrec := hrec hlt
    simp only [gd_pos hg, gt_nat hlt, let1_eq, i64s (show i < 9223372036854775807 by omega), hrec]
    generalize hR : (if hasZ (l.drop (i + 1)) then (([] : List Int), ([] : List Int), (1 : Int)) else if (bfold l).1.length > 65536 then ([], [], 13) else ((bfold l).1, (bfold l).2.1, 0)) = R
    have hR' : (if (hasB l[i] 0 || hasZ (l.drop (i + 1))) = true then (([] : List Int), ([] : List Int), (1 : Int)) else if (bfold l).1.length > 65536 then ([], [], 13) else ((bfold l).1, (bfold l).2.1, 0)) = if hasB l[i] 0 = true then ([], [], 1) else R := by
      rw [← hR]; cases hasB l[i] 0 <;> simp
    rw [hR']
    refine loop_to (fun j => (j : Int)) (fun j => some (if hasB (l[i].drop j) 0 = true then ([], [], 1) else R)) l[i].length rfl rfl (by omega) ?_
    intro j rec2 hj hrec2
    show _ = some (if hasB (l[i].drop j) 0 = true then ([], [], 1) else R)
    by_cases hjl : j < l[i].length
    · have e : l[i].getD (Int.toNat (j : Int)) 0 = l[i][j] := by
        rw [Int.toNat_natCast, List.getD_eq_getElem?_getD, List.getElem?_eq_getElem hjl]; rfl
      rw [dif_lt hjl, if_pos rfl, gd_pos (by omega), hasB_drop hjl, e, i64s (by omega)]
      by_cases h0 : l[i][j] = 0
      · rw [if_pos ((u8_zero _).2 h0), h0]; rfl
      · rw [if_neg (fun h => h0 ((u8_zero _).1 h)), hrec2 hjl, beq_false_of_ne h0, Bool.false_or]
    · obtain rfl : j = l[i].length := by omega
      rw [dif_ge (by omega), if_neg (by simp), List.drop_length]; rfl
  · obtain rfl : i = l.length := by omega
    rw [dif_ge (by omega), if_neg (by simp), List.drop_length, if_neg (by simp [hasZ])]
    clear hrec hi hlt
    rw [jn_eq]
    refine loop_at (fun i => (((bfold (l.take i)).1.length : Int), (bfold (l.take i)).1, (bfold (l.take i)).2.1, (i : Int))) l.length rfl (by omega) ?_
    intro i rec hi hrec
    simp only at hrec ⊢
    by_cases hlt : i < l.length
    · have hg : (0 : Int) ≤ (i : Int) ∧ (i : Int) < ((l.length : Nat) : Int) := by omega
      rw [dif_lt hlt, if_pos rfl, jn_eq]
      simp only [gd_pos hg, gt_nat hlt, let1_eq, i64s (show i < 9223372036854775807 by omega)]
      have hI := BI.all (l.take i)
      have hN : bfold (l.take (i + 1)) = bst (bfold (l.take i)) l[i] := by rw [take_succ hlt, bfold_snoc]
      have ht := tot_take hlt
      have hrec := hrec hlt
      have hOl := hI.len
      have hTop := hI.top
      rw [List.length_take, Nat.min_eq_left (by omega)] at hOl
      rw [hN] at hrec
      have hlo := ofStr_length l[i]
      generalize hR : (some (if (bfold l).1.length > 65536 then (([] : List Int), ([] : List Int), (13 : Int)) else ((bfold l).1, (bfold l).2.1, 0))) = R at hrec ⊢
      generalize bfold (l.take i) = S at hI hOl hTop hrec
      obtain ⟨T, O, M⟩ := S
      simp only at hOl hTop ⊢
      have hmap := hI.map l[i]
      simp only at hmap
      unfold bst at hrec
      rw [jn_eq]
      by_cases hs : l[i] = []
      · rw [if_neg (by simp [hs])]
        dsimp only
        rw [gd_pos (by simp; omega)]
        rw [if_pos hs] at hmap
        simp only [hmap] at hrec
        exact hrec
      · rw [if_neg hs] at hmap
        rw [if_pos (by simp [hs]), u64w (by omega)]
        have key : ∀ (kk : Int → Option (List Int × List Int × Int)) (r : Option (List Int × List Int × Int)), kk ((mpGet ((l.take i).zip O) l[i]).getD (T.length : Int)) = r →
            loopK (fun (s11 : Int × Int) rec4 =>
              (if (decide (s11.2 < (i : Int))) = true then
                gd ((0 : Int) ≤ s11.2 ∧ s11.2 < ((l.length : Nat) : Int)) <|
                (if ((gt l s11.2) == l[i]) = true then
                  gd ((0 : Int) ≤ s11.2 ∧ s11.2 < ((O.length : Nat) : Int)) <|
                  kk (gt O s11.2)
                else
                  rec4 (s11.1, IntKind.i64.wrap (s11.2 + 1)))
              else
                kk s11.1)) bigF ((T.length : Int), 0) = r := by
          intro kk r hr
          refine loop_to (fun k => ((T.length : Int), (k : Int))) (fun k => kk ((mpGet (((l.take i).zip O).drop k) l[i]).getD (T.length : Int))) i rfl (by rw [List.drop_zero, hr]) (by omega) ?_
          intro k rec4 hk hrec4
          simp only at hrec4 ⊢
          by_cases hki : k < i
          · have hz : k < ((l.take i).zip O).length := by rw [List.length_zip, List.length_take]; omega
            have hz2 : ((l.take i).zip O)[k] = (l[k], O[k]) := by rw [List.getElem_zip, List.getElem_take]
            rw [dif_lt hki, if_pos rfl, gd_pos (by omega), gt_nat (show k < l.length by omega), List.drop_eq_getElem_cons hz, hz2, mpGet]
            by_cases he : l[k] = l[i]
            · rw [if_pos (by simp [he]), gd_pos (by omega), gt_nat (show k < O.length by omega), if_pos (by simp [he])]; rfl
            · rw [if_neg (by simp [he]), i64s (by omega), hrec4 hki, if_neg (by simp; exact fun e => he e.symm)]
          · obtain rfl : k = i := by omega
            rw [dif_ge (by omega), if_neg (by simp), List.drop_eq_nil_of_le (by rw [List.length_zip, List.length_take]; omega)]; rfl
        refine jn_gen fun kk hkk => key kk _ ?_
        rw [hkk]
        dsimp only
        rw [jn_eq, ← hmap]
        dsimp only
        cases hm : mpGet M l[i] with
        | some a =>
          have hv := hI.val _ _ hm
          simp only [hm] at hrec hv
          simp only [Option.getD_some]
          rw [if_neg (by simp; omega), gd_pos (by simp; omega)]
          exact hrec
        | none =>
          simp only [hm] at hrec
          simp only [Option.getD_none]
          rw [if_pos (by simp), gd_pos (by omega), gd_pos (by rw [List.length_append, hlo]; simp; omega), gd_pos (by simp; omega)]
          exact hrec
    · obtain rfl : i = l.length := by omega
      rw [dif_ge (by omega), if_neg (by simp), List.take_of_length_le (Nat.le_refl _)]
      by_cases hT : (bfold l).1.length > 65536
      · rw [if_pos (by simp; omega), if_pos hT]
      · rw [if_neg (by simp; omega), if_neg hT]

end Dm
