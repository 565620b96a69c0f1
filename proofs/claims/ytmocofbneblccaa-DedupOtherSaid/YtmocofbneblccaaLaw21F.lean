/-
  The law of layer 21 on what is split and joined: it is true. Conditions: numbers and bytes are in their kinds' ranges, lengths at most 2^63 - 1.
-/
import Derived.Test.YtmocofbneblccaaLaw21E
namespace Dm
open Go

theorem keptS_cons (files : List File) (p : Pg) (l : List Pg) : keptS files (p :: l) = (if hitS files p then [] else p.2.2.2.2.2) ++ keptS files l := by
  unfold keptS; rw [List.map_cons, List.flatten_cons]
theorem join_split (files : List File) : ∀ (l : List Pg) (acc : List Pg), (∀ p ∈ l, p.2.2.2.2.2.length = 256) → joinR files (keptS files l) acc (l.map (splE files)) = (acc ++ l, 0)
  | [], acc, _ => by simp [keptS, joinR]
  | p :: l, acc, h => by
    have hp := h p (by simp)
    have ih := fun acc' => join_split files l acc' fun q hq => h q (by simp [hq])
    rw [List.map_cons, keptS_cons, joinR]
    cases hh : hitS files p
    · have e : splE files p = (p.1, p.2.1, p.2.2.1, p.2.2.2.1, p.2.2.2.2.1, true, 0) := by unfold splE; rw [hh]; rfl
      rw [e]
      dsimp only
      have hn : ¬ (((if false = true then ([] : List Int) else p.2.2.2.2.2) ++ keptS files l).length < 256 ∨ (0 : Int) ≠ 0) := by
        simp; omega
      rw [if_pos rfl, if_neg hn]
      have e1 : ((if false = true then ([] : List Int) else p.2.2.2.2.2) ++ keptS files l).take 256 = p.2.2.2.2.2 := by
        rw [if_neg (by simp), List.take_append_of_le_length (by omega), List.take_of_length_le (by omega)]
      have e2 : ((if false = true then ([] : List Int) else p.2.2.2.2.2) ++ keptS files l).drop 256 = keptS files l := by
        rw [if_neg (by simp), ← hp, List.drop_left]
      rw [e1, e2, ih, List.append_assoc]; rfl
    · have e : splE files p = (p.1, p.2.1, p.2.2.1, p.2.2.2.1, p.2.2.2.2.1, false, sumS p.2.2.2.2.2) := by unfold splE; rw [hh]; rfl
      have ho : originS p.2.2.2.1 p.2.2.2.2.1 files = some p.2.2.2.2.2 := of_decide_eq_true hh
      rw [e]
      dsimp only
      rw [if_neg (by simp), if_pos rfl, List.nil_append, ho]
      dsimp only
      rw [if_neg (by simp), ih, List.append_assoc]; rfl
theorem DedupBack_true {l : List Pg} (_ : l.length ≤ 9223372036854775807) (hwp : ∀ p ∈ l, WfP p) {files : List File} (_ : files.length ≤ 9223372036854775807) (hw : ∀ f ∈ files, WfF f) : law21_DedupBack l files = some true := by
  unfold law21_DedupBack
  rw [bd_eq law21_awake_true]
  simp only [Bool.not_true, Bool.false_eq_true, if_false]
  rw [bd_eq (law21_few_eq _ _)]
  cases hf : fewS l files
  · rfl
  · obtain ⟨h1, h2, h3, h4⟩ := fewS_true hf
    rw [if_neg (by simp), jn_eq]
    refine loop_toP (fun i => (i : Int)) (fun _ => some true) (fun i => ∀ k (h : k < l.length), k < i → l[k].2.2.2.2.2.length = 256) l.length rfl (fun k _ h => by omega) rfl (by omega) ?_
    intro i rec hi hP hrec
    by_cases hlt : i < l.length
    · rw [dif_lt hlt, if_pos rfl, gd_pos (by omega), gt_nat hlt]
      by_cases h256 : l[i].2.2.2.2.2.length = 256
      · rw [if_neg (by simp; omega), let1_eq, i64s (by omega)]
        refine hrec hlt ?_
        intro k hk hki
        by_cases e : k = i
        · subst e; exact h256
        · exact hP k hk (by omega)
      · rw [if_pos (by simp; omega)]
    · obtain rfl : i = l.length := by omega
      have h256 : ∀ p ∈ l, p.2.2.2.2.2.length = 256 := by
        intro p hp
        obtain ⟨k, hk, rfl⟩ := List.mem_iff_getElem.1 hp
        exact hP k hk hk
      have hkl := keptS_len (files := files) h3
      have hwe : ∀ x ∈ l.map (splE files), WfE x := by
        intro x hx
        rw [List.mem_map] at hx
        obtain ⟨p, hp, rfl⟩ := hx
        have hq := hwp p hp
        have hsb : InK .u32 (sumS p.2.2.2.2.2) := by
          have := sumP_bd (b := p.2.2.2.2.2) p.2.2.2.2.2.length (Nat.le_refl _)
          rw [List.take_of_length_le (Nat.le_refl _)] at this
          constructor
          · show 0 ≤ sumS p.2.2.2.2.2; unfold sumS; omega
          · show sumS p.2.2.2.2.2 ≤ 4294967295; unfold sumS; omega
        unfold splE
        split
        · exact ⟨hq.1, hq.2.1, trivial, hq.2.2.2.1, hq.2.2.2.2.1, trivial, hsb⟩
        · exact ⟨hq.1, hq.2.1, trivial, hq.2.2.2.1, hq.2.2.2.2.1, trivial, by show InK .u32 0; decide⟩
      rw [dif_ge (Nat.le_refl _), if_neg (by simp), bd_eq (dedup_Split_eq h1 h3 hwp h2 h4 hw)]
      dsimp only
      rw [bd_eq (dedup_Join_eq h2 h4 hw (by rw [List.length_map]; omega) hwe (by omega)), join_split files l [] h256, List.nil_append, bd_eq (law21_pages_eq (by omega))]
      dsimp only
      rw [bd_eq (law21_pages_eq (by omega)), jn_eq, if_neg (by simp)]
      dsimp only
      rw [if_neg (by simp), jn_eq, List.length_map]
      clear hrec rec
      refine loop_at (fun i => (((keptS files (l.take i)).length : Int), (i : Int))) l.length rfl (by omega) ?_
      intro i rec hi hrec
      dsimp only at hrec ⊢
      by_cases hlt : i < l.length
      · have hm := List.getElem_mem hlt
        have hq := hwp _ hm
        have h56 := h256 _ hm
        have hg : (0 : Int) ≤ (i : Int) ∧ (i : Int) < ((l.length : Nat) : Int) := by omega
        have eg : gt (l.map pagT) (i : Int) = pagT l[i] := by rw [gt_nat (by rw [List.length_map]; exact hlt), List.getElem_map]
        have eg2 : gt (l.map (splE files)) (i : Int) = splE files l[i] := by rw [gt_nat (by rw [List.length_map]; exact hlt), List.getElem_map]
        have hrec := hrec hlt
        have hk2 := keptS_len (files := files) (l := l.take i) fun p hp => h3 p (List.mem_of_mem_take hp)
        rw [List.length_take] at hk2
        rw [List.take_succ_eq_append_getElem hlt, keptS_snoc] at hrec
        rw [dif_lt hlt, if_pos rfl, jn_eq, eg, eg2]
        simp only [gd_pos hg, List.length_map, let1_eq, i64s (show i < 9223372036854775807 by omega)]
        generalize l[i] = p at hq h56 hrec ⊢
        rw [if_neg (by simp), jn_eq]
        cases hh : hitS files p
        · have e : splE files p = (p.1, p.2.1, p.2.2.1, p.2.2.2.1, p.2.2.2.2.1, true, 0) := by unfold splE; rw [hh]; rfl
          rw [hh, if_neg (by simp), List.length_append, h56] at hrec
          rw [e, if_pos rfl, show (pagT p).2.2.2.1 = p.2.2.2.1 from rfl, show (pagT p).2.2.2.2.1 = p.2.2.2.2.1 from rfl, bd_eq (dedup_Origin_eq (by omega) (fun f h => by have := h4 f h; omega) _ hq.2.2.2.2.1), jn_eq]
          have ew : IntKind.i64.wrap (((keptS files (l.take i)).length : Int) + 256) = (((keptS files (l.take i)).length + 256 : Nat) : Int) := by rw [i64w (by omega)]; omega
          rw [ew]
          cases ho : originS p.2.2.2.1 p.2.2.2.2.1 files with
          | none => rw [if_neg (by simp)]; exact hrec
          | some b =>
            obtain ⟨hbB, hb256⟩ := originS_bytes hw ho
            have hne : b ≠ p.2.2.2.2.2 := by intro e; unfold hitS at hh; rw [ho, e] at hh; simp at hh
            have hB := bytes_of hq.2.2.2.2.2.2
            have hc : (toStr ((some b).getD ([] : List Int), (some b).isSome).1 == (pagT p).2.2.2.2.2) = false := by
              show (toStr b == toStr p.2.2.2.2.2) = false
              rw [toStr_beq hbB hB]; simpa using hne
            rw [if_pos (show ((some b).getD ([] : List Int), (some b).isSome).2 = true from rfl), hc]
            exact hrec
        · have e : splE files p = (p.1, p.2.1, p.2.2.1, p.2.2.2.1, p.2.2.2.2.1, false, sumS p.2.2.2.2.2) := by unfold splE; rw [hh]; rfl
          rw [hh, if_pos rfl, List.append_nil] at hrec
          rw [e, if_neg (by simp)]
          exact hrec
      · obtain rfl : i = l.length := by omega
        rw [dif_ge (Nat.le_refl _), if_neg (by simp), List.take_of_length_le (Nat.le_refl _)]
        simp

end Dm
