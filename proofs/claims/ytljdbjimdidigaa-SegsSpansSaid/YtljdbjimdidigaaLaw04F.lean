/-
  The law of layer 4 on spans, over the shallow forms: it is true. Conditions: numbers are in their kinds' ranges, lengths at most 2^63 - 1.
-/
import Derived.Test.YtljdbjimdidigaaLaw04E
namespace Dm
open Go

theorem ph1_zero {size : Int} {l : List Seg} : ∀ (n i : Nat), l.length - i = n → ph1 size (l.take i) (l.drop i) = 0 → ∀ k, i ≤ k → (h : k < l.length) → errS size (l.take k) l[k] = 0 := by
  intro n
  induction n with
  | zero => intro i hn _ k hk h; omega
  | succ n ih =>
    intro i hn hp k hk h
    have hi : i < l.length := by omega
    rw [ph1_drop size hi] at hp
    by_cases he : errS size (l.take i) l[i] = 0
    · rw [if_pos he] at hp
      by_cases e : k = i
      · subst e; exact he
      · exact ih (i + 1) (by omega) hp k (by omega) h
    · rw [if_neg he] at hp; exact absurd hp he
/-- what is known of segments that may be -/
structure Good (size : Int) (l : List Seg) : Prop where
  one : ∀ s ∈ l, oneS size s = 0
  asc : ∀ k (h : k < l.length), l[k].1 = 1 → hiS (l.take k) ≤ firstS l[k]
theorem good_of {size : Int} {l : List Seg} (h : checkSS size l = 0) : Good size l := by
  have hp : ph1 size [] l = 0 := by
    unfold checkSS at h
    by_cases hp : ph1 size [] l = 0
    · exact hp
    · rw [if_neg hp] at h; exact absurd h hp
  have hk := fun k (h : k < l.length) => ph1_zero (size := size) (l := l) _ 0 rfl hp k (Nat.zero_le _) h
  constructor
  · intro s hs
    obtain ⟨k, h, rfl⟩ := List.mem_iff_getElem.1 hs
    exact errS_one (hk k h)
  · intro k h h1
    have he := hk k h
    have ho := errS_one he
    unfold errS at he
    rw [if_neg (by simp [ho])] at he
    split at he
    · simp at he
    · split at he
      · simp at he
      · rename_i hc
        have : ¬ firstS l[k] < hiS (l.take k) := fun hf => hc ⟨h1, hf⟩
        omega
theorem behind_ge {size : Int} {s : Seg} (hx : Wf04 s) (ho : oneS size s = 0) (h1 : s.1 = 1) : firstS s ≤ behindS s ∧ s.2.2.2.1 + s.2.2.2.2.2.1 ≤ behindS s ∧ firstS s ≤ s.2.2.2.1 ∧ 0 ≤ firstS s ∧ firstS s % 256 = 0 ∧ behindS s % 256 = 0 := by
  have kz := oneS_zero ho (by omega)
  have h4 := inK_u64 hx.2.2.2.1
  have h6 := inK_u64 hx.2.2.2.2.2.1
  unfold firstS behindS
  omega
theorem hi_succ {size : Int} {l : List Seg} (hw : ∀ s ∈ l, Wf04 s) (hg : Good size l) {i : Nat} (h : i < l.length) : hiS (l.take i) ≤ hiS (l.take (i + 1)) := by
  rw [List.take_succ_eq_append_getElem h, hiS_snoc]
  have hm := List.getElem_mem h
  by_cases h1 : l[i].1 = 1
  · have := behind_ge (hw _ hm) (hg.one _ hm) h1
    have := hg.asc i h h1
    rw [if_pos h1]; omega
  · rw [if_neg h1]; exact Int.le_refl _
theorem hi_ge {size : Int} {l : List Seg} (hw : ∀ s ∈ l, Wf04 s) (hg : Good size l) {k : Nat} (hk : k < l.length) (h1 : l[k].1 = 1) : ∀ i, k < i → i ≤ l.length → behindS l[k] ≤ hiS (l.take i) := by
  intro i
  induction i with
  | zero => intro h; omega
  | succ i ih =>
    intro hki hi
    by_cases e : k = i
    · subst e; rw [List.take_succ_eq_append_getElem hk, hiS_snoc, if_pos h1]; exact Int.le_refl _
    · exact Int.le_trans (ih (by omega) (by omega)) (hi_succ hw hg (by omega))
def spanS (p : List Seg) : Int × Int × Bool := p.foldl (fun a s => if s.1 = 1 then ((if a.2.2 then a.1 else firstS s), behindS s, true) else a) (0, 0, false)
theorem spanS_snoc (p : List Seg) (s : Seg) : spanS (p ++ [s]) = if s.1 = 1 then ((if (spanS p).2.2 then (spanS p).1 else firstS s), behindS s, true) else spanS p := by unfold spanS; rw [List.foldl_append]; rfl
theorem span_facts {size : Int} {l : List Seg} (hw : ∀ s ∈ l, Wf04 s) (hg : Good size l) : ∀ i, i ≤ l.length → (spanS (l.take i)).2.1 = hiS (l.take i) ∧ 0 ≤ (spanS (l.take i)).1 ∧ (spanS (l.take i)).1 ≤ hiS (l.take i) ∧ (spanS (l.take i)).1 % 256 = 0 ∧ hiS (l.take i) % 256 = 0 := by
  intro i
  induction i with
  | zero => intro _; simp [spanS, hiS]
  | succ i ih =>
    intro hi
    have h := ih (by omega)
    have hlt : i < l.length := by omega
    have hm := List.getElem_mem hlt
    have hasc := hg.asc i hlt
    rw [List.take_succ_eq_append_getElem hlt, spanS_snoc, hiS_snoc]
    generalize spanS (l.take i) = a at h ⊢
    by_cases h1 : l[i].1 = 1
    · have hb := behind_ge (hw _ hm) (hg.one _ hm) h1
      have ha := hasc h1
      rw [if_pos h1, if_pos h1]
      dsimp only
      cases a.2.2
      · rw [if_neg (by simp)]; refine ⟨rfl, ?_⟩; omega
      · rw [if_pos rfl]; refine ⟨rfl, ?_⟩; omega
    · rw [if_neg h1, if_neg h1]; exact h
theorem ref04_Span_eq {size : Int} {l : List Seg} (hl : l.length ≤ 9223372036854775807) (hw : ∀ s ∈ l, Wf04 s) (hg : Good size l) : ref04_Span l = some ((spanS l).1, (spanS l).2.1) := by
  unfold ref04_Span
  rw [jn_eq]
  refine loop_at (fun i => ((spanS (l.take i)).1, (spanS (l.take i)).2.1, (spanS (l.take i)).2.2, (i : Int))) l.length rfl hl ?_
  intro i rec hi hrec
  dsimp only at hrec ⊢
  by_cases hlt : i < l.length
  · have hrec := hrec hlt
    have hm := List.getElem_mem hlt
    have hgi : (0 : Int) ≤ (i : Int) ∧ (i : Int) < ((l.length : Nat) : Int) := by omega
    have hx := hw _ hm
    have ho := hg.one _ hm
    rw [List.take_succ_eq_append_getElem hlt, spanS_snoc] at hrec
    rw [dif_lt hlt, if_pos rfl, i64s (by omega)]
    simp only [gd_pos hgi, gt_nat hlt, let1_eq, jn_eq]
    generalize l[i] = s at hx ho hrec ⊢
    generalize spanS (l.take i) = a at hrec ⊢
    by_cases h1 : s.1 = 1
    · have kz := oneS_zero ho (by omega)
      rw [if_pos h1] at hrec
      rw [if_neg (by simp [h1]), bd_eq (ref04_First_eq hx), bd_eq (ref04_Behind_eq hx kz.2.2.2.1 kz.2.2.2.2.1), bd_eq (ref04_Behind_eq hx kz.2.2.2.1 kz.2.2.2.2.1)]
      cases hq : a.2.2
      · rw [hq, if_neg (by simp)] at hrec
        rw [if_pos (by simp)]; exact hrec
      · rw [hq, if_pos rfl] at hrec
        rw [if_neg (by simp)]; exact hrec
    · rw [if_neg h1] at hrec
      rw [if_pos (by simp [h1])]; exact hrec
  · obtain rfl : i = l.length := by omega
    rw [dif_ge (Nat.le_refl _), if_neg (by simp), List.take_of_length_le (Nat.le_refl _)]
theorem segs_Span_eq {size : Int} {l : List Seg} (hl : l.length ≤ 9223372036854775807) (hw : ∀ s ∈ l, Wf04 s) (hg : Good size l) : segs_Span l = some ((spanS l).1, (spanS l).2.1) := by
  unfold segs_Span
  rw [jn_eq]
  refine loop_at (fun i => ((spanS (l.take i)).1, (spanS (l.take i)).2.1, (spanS (l.take i)).2.2, (i : Int))) l.length rfl hl ?_
  intro i rec hi hrec
  dsimp only at hrec ⊢
  by_cases hlt : i < l.length
  · have hrec := hrec hlt
    have hm := List.getElem_mem hlt
    have hgi : (0 : Int) ≤ (i : Int) ∧ (i : Int) < ((l.length : Nat) : Int) := by omega
    have hx := hw _ hm
    have ho := hg.one _ hm
    have hasc := hg.asc i hlt
    have hf := span_facts hw hg i (by omega)
    rw [List.take_succ_eq_append_getElem hlt, spanS_snoc] at hrec
    rw [dif_lt hlt, if_pos rfl, i64s (by omega)]
    simp only [gd_pos hgi, gt_nat hlt, let1_eq, jn_eq]
    generalize l[i] = s at hx ho hrec hasc ⊢
    generalize spanS (l.take i) = a at hrec hf ⊢
    generalize hiS (l.take i) = hh at hasc hf
    by_cases h1 : s.1 = 1
    · have kz := oneS_zero ho (by omega)
      have hb := behind_ge hx ho h1
      have ha := hasc h1
      rw [if_pos h1] at hrec
      have em : imax a.2.1 (behindS s) = behindS s := by unfold imax; split <;> omega
      rw [if_pos (by simp [h1]), show (s.1, s.2.1, s.2.2.1, s.2.2.2.1, s.2.2.2.2.1, s.2.2.2.2.2.1, s.2.2.2.2.2.2) = s from rfl, bd_eq (segs_pages_eq hx kz.2.2.2.1 kz.2.2.2.2.1)]
      dsimp only
      rw [em]
      cases hq : a.2.2
      · rw [hq, if_neg (by simp)] at hrec
        rw [if_pos (by simp), if_pos trivial]; exact hrec
      · rw [hq, if_pos rfl] at hrec
        have hd : decide (firstS s < a.1) = false := by simp; omega
        rw [if_neg (by simp), hd, if_neg (by simp)]; exact hrec
    · rw [if_neg h1] at hrec
      rw [if_neg (by simp [h1])]; exact hrec
  · obtain rfl : i = l.length := by omega
    rw [dif_ge (Nat.le_refl _), if_neg (by simp), List.take_of_length_le (Nat.le_refl _)]
theorem place_in {size : Int} {l : List Seg} (hw : ∀ s ∈ l, Wf04 s) (hg : Good size l) (hz : InK .u64 size) {addr n : Int} (h : (placeS l addr n).2 = 0) : (placeS l addr n).1 ≤ size ∧ n ≤ size - (placeS l addr n).1 ∧ 0 ≤ (placeS l addr n).1 := by
  unfold placeS at h ⊢
  cases hf : l.find? (atP addr n) with
  | none => rw [hf] at h; simp at h
  | some s =>
    have hm := List.mem_of_find?_eq_some hf
    have hp := List.find?_some hf
    have ho := hg.one _ hm
    have hx := hw _ hm
    have hz := inK_u64 hz
    have h3 := inK_u64 hx.2.2.1
    unfold atP at hp
    simp only [Bool.and_eq_true, decide_eq_true_eq, beq_iff_eq] at hp
    have kz := oneS_zero ho (by omega)
    simp only [Option.map_some, Option.getD_some]
    rw [u64w (by omega)]
    omega
theorem SegsSpans_true {l : List Seg} (hl : l.length ≤ 9223372036854775807) (hw : ∀ s ∈ l, Wf04 s) {size addr n : Int} (hz : InK .u64 size) (ha : InK .u64 addr) (hn : InK .u64 n) : law04_SegsSpans l size addr n = some true := by
  unfold law04_SegsSpans
  rw [bd_eq law04_awake_true]
  simp only [Bool.not_true, Bool.false_eq_true, if_false]
  rw [jn_eq]
  by_cases hc : l.length > 64
  · rw [if_pos (by simp; omega)]; rfl
  rw [if_neg (by simp; omega), bd_eq (segs_Check_eq hl hw hz)]
  by_cases h0 : checkSS size l = 0
  · have hg := good_of h0
    have hf := span_facts hw hg l.length (Nat.le_refl _)
    rw [List.take_of_length_le (Nat.le_refl _)] at hf
    have hd : (checkSS size l != 0) = false := by simp [h0]
    rw [hd]
    dsimp only
    rw [if_neg (by simp), bd_eq (segs_Span_eq hl hw hg), bd_eq (ref04_Span_eq hl hw hg), jn_eq, if_neg (by simp), if_neg (by simp)]
    have t1 : Int.tmod (spanS l).1 256 = (spanS l).1 % 256 := Int.tmod_eq_emod_of_nonneg (by omega)
    have t2 : Int.tmod (spanS l).2.1 256 = (spanS l).2.1 % 256 := Int.tmod_eq_emod_of_nonneg (by omega)
    dsimp only
    rw [t1, t2, if_neg (by simp; omega), if_neg (by simp; omega)]
    have hd2 : decide ((spanS l).1 > (spanS l).2.1) = false := by simp; omega
    rw [hd2, if_neg (by simp), jn_eq]
    refine loop_at (fun i => (i : Int)) l.length rfl hl ?_
    intro i rec hi hrec
    by_cases hlt : i < l.length
    · have hgi : (0 : Int) ≤ (i : Int) ∧ (i : Int) < ((l.length : Nat) : Int) := by omega
      rw [dif_lt hlt, if_pos rfl, jn_eq, jn_eq, let1_eq, i64s (by omega), hrec hlt]
      refine loop_at (fun k => (k : Int)) i rfl (by omega) ?_
      intro k rec2 hk hrec2
      by_cases hki : k < i
      · have hkl : k < l.length := by omega
        have hgk : (0 : Int) ≤ (k : Int) ∧ (k : Int) < ((l.length : Nat) : Int) := by omega
        rw [dif_lt hki, if_pos rfl]
        simp only [gd_pos hgi, gd_pos hgk, gt_nat hlt, gt_nat hkl, jn_eq, let1_eq]
        rw [i64s (by omega), hrec2 hki]
        by_cases h1 : l[i].1 = 1
        · by_cases h2 : l[k].1 = 1
          · have q1 := hi_ge hw hg hkl h2 i hki (by omega)
            have q2 := hg.asc i hlt h1
            have m1 := List.getElem_mem hkl
            have m2 := List.getElem_mem hlt
            have b1 := behind_ge (hw _ m1) (hg.one _ m1) h2
            have b2 := behind_ge (hw _ m2) (hg.one _ m2) h1
            have kz := oneS_zero (hg.one _ m1) (by omega)
            have x4 := inK_u64 (hw _ m1).2.2.2.1
            have x6 := inK_u64 (hw _ m1).2.2.2.2.2.1
            have e : IntKind.u64.wrap (l[k].2.2.2.1 + l[k].2.2.2.2.2.1) = l[k].2.2.2.1 + l[k].2.2.2.2.2.1 := u64w (by omega)
            rw [if_pos (by simp [h1]), if_pos (by simp [h2]), e, if_neg (by simp; omega)]
          · rw [if_pos (by simp [h1]), if_neg (by simp [h2]), if_neg (by simp)]
        · rw [if_neg (by simp [h1]), if_neg (by simp)]
      · obtain rfl : k = i := by omega
        rw [dif_ge (Nat.le_refl _), if_neg (by simp)]
    · obtain rfl : i = l.length := by omega
      rw [dif_ge (Nat.le_refl _), if_neg (by simp), bd_eq (segs_Place_eq hl hw ha hn), jn_eq]
      by_cases hp : (placeS l addr n).2 = 0
      · have hq := place_in hw hg hz hp
        have hz := inK_u64 hz
        have hd3 : decide (n ≤ IntKind.u64.wrap (size - (placeS l addr n).1)) = true := by rw [u64w (by omega)]; simp; omega
        rw [if_neg (by simp [hp]), if_pos (by simp; omega), hd3]
      · rw [if_pos (bne_iff_ne.2 hp)]
  · have hd : (checkSS size l != 0) = true := bne_iff_ne.2 h0
    rw [hd]; rfl

end Dm
