/-
  The law of layer 21 on joins, with its reference: it is true. Conditions: numbers and bytes are in their kinds' ranges, lengths at most 2^63 - 1.
-/
import Derived.Test.YtmocofbneblccaaLaw21D
namespace Dm
open Go

/-- a loop over a list that carries something on -/
theorem list_loop {σ ρ α τ : Type} {body : σ → (σ → Option ρ) → Option ρ} (l : List α) (hl : l.length ≤ 9223372036854775807) (st : Nat → τ → σ) (T : List α → τ → Option ρ) (P : Nat → τ → Prop)
    (h : ∀ i t rec, i ≤ l.length → P i t → (∀ t', i < l.length → P (i + 1) t' → rec (st (i + 1) t') = T (l.drop (i + 1)) t') → body (st i t) rec = T (l.drop i) t)
    {s0 : σ} {r : Option ρ} (t0 : τ) (h0 : s0 = st 0 t0) (hP : P 0 t0) (hr : r = T l t0) : loopK body bigF s0 = r := by
  have key : ∀ (F i : Nat) (t : τ), i ≤ l.length → P i t → l.length - i < F → loopK body F (st i t) = T (l.drop i) t := by
    intro F
    induction F with
    | zero => intro i t _ _ hm; omega
    | succ F ih => intro i t hi hp hm; exact h i t (loopK body F) hi hp fun t' hl' hp' => ih (i + 1) t' (by omega) hp' (by omega)
  rw [h0, hr, key bigF 0 t0 (Nat.zero_le _) hP (lt_bigF (by omega)), List.drop_zero]
def joinT (r : List Pg × Int) : List Pt × Int := (r.1.map pagT, r.2)
theorem toStr_take (b : List Int) (n : Nat) : toStr (b.take n) = (toStr b).take n := by unfold toStr; rw [List.map_take]
theorem toStr_drop (b : List Int) (n : Nat) : toStr (b.drop n) = (toStr b).drop n := by unfold toStr; rw [List.map_drop]
theorem ref21_Join_eq {files : List File} (hf : files.length ≤ 10) (hs : ∀ f ∈ files, f.2.length ≤ 3000) (hw : ∀ f ∈ files, WfF f) {l : List En} (hl : l.length ≤ 20) (hx : ∀ x ∈ l, WfE x) {kept : List Int} (hk : kept.length ≤ 6000) :
    ref21_Join (l.map entT) (toStr kept) files = some (joinT (joinR files kept [] l)) := by
  unfold ref21_Join
  rw [jn_eq, List.length_map]
  refine list_loop l (by omega) (fun i (t : List Int × List Pg) => (toStr t.1, t.2.map pagT, (i : Int))) (fun l' t => some (joinT (joinR files t.1 t.2 l'))) (fun i t => t.2.length ≤ i ∧ t.1.length ≤ 6000) ?_ (kept, []) rfl ⟨by simp, hk⟩ rfl
  rintro i ⟨kp, acc⟩ rec hi ⟨ha, hkp⟩ hrec
  dsimp only at ha hkp hrec ⊢
  have hkl := toStr_length kp
  by_cases hlt : i < l.length
  · have hm := List.getElem_mem hlt
    have hwf := hx _ hm
    have hg : (0 : Int) ≤ (i : Int) ∧ (i : Int) < ((l.length : Nat) : Int) := by omega
    have eg : gt (l.map entT) (i : Int) = entT l[i] := by rw [gt_nat (by rw [List.length_map]; exact hlt), List.getElem_map]
    rw [List.drop_eq_getElem_cons hlt, dif_lt hlt, if_pos rfl, eg]
    simp only [gd_pos hg, let1_eq, i64s (show i < 9223372036854775807 by omega)]
    generalize l[i] = x at hwf ⊢
    rw [show (entT x).1.2.2.2.1 = x.2.2.2.1 from rfl, show (entT x).1.2.2.2.2.1 = x.2.2.2.2.1 from rfl, show (entT x).1.1 = x.1 from rfl, show (entT x).1.2.1 = x.2.1 from rfl, show (entT x).1.2.2.1 = x.2.2.1 from rfl, show (entT x).2.1 = x.2.2.2.2.2.1 from rfl, show (entT x).2.2 = x.2.2.2.2.2.2 from rfl]
    rw [jn_eq, joinR]
    by_cases hwh : x.2.2.2.2.2.1 = true
    · rw [if_pos hwh, if_pos hwh, jn_eq]
      by_cases h256 : kp.length < 256
      · rw [if_pos (by rw [decide_eq_true_eq]; omega), if_pos (Or.inl h256)]; rfl
      · rw [if_neg (by rw [decide_eq_true_eq]; omega)]
        by_cases hq : x.2.2.2.2.2.2 = 0
        · have hb : (x.2.2.2.2.2.2 != 0) = false := by simp [hq]
          have hc : cutL (toStr kp) 0 256 = toStr (kp.take 256) := by rw [toStr_take]; unfold cutL; rfl
          have hd : cutL (toStr kp) 256 (((toStr kp).length : Nat) : Int) = toStr (kp.drop 256) := by rw [toStr_drop]; unfold cutL; rw [Int.toNat_natCast, List.take_length]; rfl
          have hn : ¬ (kp.length < 256 ∨ x.2.2.2.2.2.2 ≠ 0) := by simp [hq]; omega
          rw [hb, if_neg hn]
          dsimp only
          rw [if_neg (by simp), gd_pos (by omega), gd_pos (by omega), hd, hc, gd_pos (by simp; omega)]
          have := hrec (kp.drop 256, acc ++ [pgOf x (kp.take 256)]) hlt ⟨by simp; omega, by rw [List.length_drop]; omega⟩
          rw [List.map_append] at this
          exact this
        · have hb : (x.2.2.2.2.2.2 != 0) = true := by simp [hq]
          rw [hb, if_pos (Or.inr hq)]; rfl
    · rw [if_neg hwh, if_neg hwh, bd_eq (ref21_Origin_eq (by omega) (fun f h => by have := hs f h; omega) _ hwf.2.2.2.2.1), jn_eq]
      cases ho : originS x.2.2.2.1 x.2.2.2.2.1 files with
      | none => rfl
      | some b =>
        obtain ⟨hbB, hb256⟩ := originS_bytes hw ho
        have hsum : ref21_Sum (toStr ((some b).getD ([] : List Int)), (some b).isSome).1 = some (sumS b) := ref21_Sum_eq (b := b) (by omega) hbB
        rw [if_neg (show ¬ (!(toStr ((some b).getD ([] : List Int)), (some b).isSome).2) = true by simp), bd_eq hsum]
        dsimp only
        by_cases hq : sumS b ≠ x.2.2.2.2.2.2
        · have hb : (sumS b != x.2.2.2.2.2.2) = true := bne_iff_ne.2 hq
          rw [hb, if_pos hq]; rfl
        · have hb : (sumS b != x.2.2.2.2.2.2) = false := by simpa using hq
          rw [hb, if_neg hq, if_neg (by simp), gd_pos (by simp; omega)]
          have := hrec (kp, acc ++ [pgOf x b]) hlt ⟨by simp; omega, hkp⟩
          rw [List.map_append] at this
          exact this
  · obtain rfl : i = l.length := by omega
    rw [dif_ge (Nat.le_refl _), if_neg (by simp), List.drop_length, joinR]
    by_cases h0 : kp.length > 0
    · have hne : toStr kp ≠ [] := fun e => by rw [e] at hkl; simp at hkl; omega
      rw [if_pos (by simpa using hne), if_pos h0]; rfl
    · have he : toStr kp = [] := List.length_eq_zero_iff.1 (by omega)
      rw [if_neg (by simp [he]), if_neg h0]; rfl
theorem joinR_len (files : List File) : ∀ (l : List En) (kp : List Int) (acc : List Pg), (joinR files kp acc l).1.length ≤ acc.length + l.length
  | [], kp, acc => by rw [joinR]; split <;> simp
  | x :: l, kp, acc => by
    rw [joinR]
    split
    · split
      · simp
      · have := joinR_len files l (kp.drop 256) (acc ++ [pgOf x (kp.take 256)]); simp at this ⊢; omega
    · split
      · simp
      · rename_i b _
        split
        · simp
        · have := joinR_len files l kp (acc ++ [pgOf x b]); simp at this ⊢; omega
theorem DedupJoins_true {l : List En} (_ : l.length ≤ 9223372036854775807) (hx : ∀ x ∈ l, WfE x) {kept : List Int} (_ : kept.length ≤ 9223372036854775807) (_ : ∀ n ∈ kept, InK .u8 n) {files : List File} (_ : files.length ≤ 9223372036854775807) (hw : ∀ f ∈ files, WfF f) :
    law21_DedupJoins l kept files = some true := by
  unfold law21_DedupJoins
  rw [bd_eq law21_awake_true]
  simp only [Bool.not_true, Bool.false_eq_true, if_false]
  rw [bd_eq (law21_few_eq _ _), jn_eq]
  cases hf : fewS [] files
  · rfl
  · obtain ⟨_, h2, _, h4⟩ := fewS_true hf
    rw [if_neg (by simp)]
    by_cases h20 : l.length > 20
    · rw [if_pos (by rw [decide_eq_true_eq]; omega)]; rfl
    rw [if_neg (by rw [decide_eq_true_eq]; omega)]
    by_cases hk : kept.length > 6000
    · have : decide (((kept.length : Nat) : Int) > 6000) = true := by rw [decide_eq_true_eq]; omega
      rw [this]; rfl
    · have : decide (((kept.length : Nat) : Int) > 6000) = false := by rw [decide_eq_false_iff_not]; omega
      rw [this]
      dsimp only
      have hj := joinR_len files l kept []
      rw [if_neg (by simp), bd_eq (dedup_Join_eq h2 h4 hw (by omega) hx (by omega)), bd_eq (law21_entries_eq (by omega)), bd_eq (ref21_Join_eq h2 h4 hw (by omega) hx (by omega)), bd_eq (law21_pages_eq (by simp only [List.length_nil] at hj; omega)), jn_eq]
      unfold joinT
      generalize joinR files kept [] l = r at hj
      simp only [List.length_nil, Nat.zero_add] at hj
      rw [if_neg (by simp)]
      dsimp only
      have hL : (r.1.map pagT).length ≤ 20 := by rw [List.length_map]; omega
      generalize r.1.map pagT = q at hL
      rw [if_neg (by simp), jn_eq]
      refine loop_at (fun i => (i : Int)) q.length rfl (by omega) ?_
      intro i rec hi hrec
      by_cases hlt : i < q.length
      · rw [dif_lt hlt, if_pos rfl, gd_pos (by omega), gd_pos (by omega), i64s (by omega), if_neg (by simp), let1_eq, hrec hlt]
      · rw [dif_ge (by omega), if_neg (by simp)]

end Dm
