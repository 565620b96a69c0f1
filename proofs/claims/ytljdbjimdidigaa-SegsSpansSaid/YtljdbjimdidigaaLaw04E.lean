/-
  The laws of layer 4 on what tables of segments may be, over the shallow forms: each is true. Conditions: numbers are in their kinds' ranges, lengths at most 2^63 - 1.
-/
import Derived.Test.YtljdbjimdidigaaLaw04D
namespace Dm
open Go

def firstS (s : Seg) : Int := s.2.2.2.1 / 256 * 256
def behindS (s : Seg) : Int := (s.2.2.2.1 + s.2.2.2.2.2.1 + 255) / 256 * 256
/-- what a segment that may be is known to be -/
theorem oneS_zero {size : Int} {s : Seg} (h : oneS size s = 0) (ht : s.1 ≠ 0) : s.2.2.1 ≤ size ∧ s.2.2.2.2.1 ≤ size - s.2.2.1 ∧ s.2.2.2.2.1 ≤ s.2.2.2.2.2.1 ∧ s.2.2.2.1 ≤ 4294967296 ∧ s.2.2.2.2.2.1 ≤ 4294967296 - s.2.2.2.1 ∧ (s.1 = 1 → s.2.2.2.2.2.1 ≠ 0) := by
  unfold oneS at h
  split at h
  · simp at h
  · unfold restS at h
    rw [if_neg ht] at h
    split at h
    · simp at h
    · split at h
      · simp at h
      · split at h
        · simp at h
        · split at h
          · simp at h
          · omega
theorem segs_pages_eq {s : Seg} (hx : Wf04 s) (hv : s.2.2.2.1 ≤ 4294967296) (hm : s.2.2.2.2.2.1 ≤ 4294967296 - s.2.2.2.1) : segs_pages s = some (firstS s, behindS s) := by
  have h4 := inK_u64 hx.2.2.2.1
  have h6 := inK_u64 hx.2.2.2.2.2.1
  unfold segs_pages
  rw [bd_eq (down256 h4.1 h4.2), u64w (by omega), bd_eq (up256 (by omega) (by omega))]; rfl
theorem ref04_First_eq {s : Seg} (hx : Wf04 s) : ref04_First s = some (firstS s) := by
  have h4 := inK_u64 hx.2.2.2.1
  unfold ref04_First firstS
  rw [Int.tdiv_eq_ediv_of_nonneg h4.1, u64w (n := s.2.2.2.1 / 256) (by omega), u64w (by omega)]
theorem ref04_Behind_eq {s : Seg} (hx : Wf04 s) (hv : s.2.2.2.1 ≤ 4294967296) (hm : s.2.2.2.2.2.1 ≤ 4294967296 - s.2.2.2.1) : ref04_Behind s = some (behindS s) := by
  have h4 := inK_u64 hx.2.2.2.1
  have h6 := inK_u64 hx.2.2.2.2.2.1
  unfold ref04_Behind behindS
  rw [u64w (n := s.2.2.2.1 + s.2.2.2.2.2.1) (by omega), u64w (n := s.2.2.2.1 + s.2.2.2.2.2.1 + 255) (by omega), Int.tdiv_eq_ediv_of_nonneg (by omega), u64w (n := (s.2.2.2.1 + s.2.2.2.2.2.1 + 255) / 256) (by omega), u64w (by omega)]
def hiS (p : List Seg) : Int := p.foldl (fun h s => if s.1 = 1 then behindS s else h) 0
theorem hiS_snoc (p : List Seg) (s : Seg) : hiS (p ++ [s]) = if s.1 = 1 then behindS s else hiS p := by unfold hiS; rw [List.foldl_append]; rfl
def singS (t : Int) : Bool := t == 2 || t == 7
def errS (size : Int) (pre : List Seg) (s : Seg) : Int :=
  if oneS size s ≠ 0 then oneS size s else if singS s.1 = true ∧ (pre.any fun x => x.1 == s.1) = true then 12 else if s.1 = 1 ∧ firstS s < hiS pre then 12 else 0
def ph1 (size : Int) (pre : List Seg) : List Seg → Int
  | [] => 0
  | s :: l => if errS size pre s = 0 then ph1 size (pre ++ [s]) l else errS size pre s
theorem ph1_drop (size : Int) {l : List Seg} {i : Nat} (h : i < l.length) : ph1 size (l.take i) (l.drop i) = if errS size (l.take i) l[i] = 0 then ph1 size (l.take (i + 1)) (l.drop (i + 1)) else errS size (l.take i) l[i] := by
  rw [List.drop_eq_getElem_cons h, ph1, List.take_succ_eq_append_getElem h]
def winS (s x : Seg) : Bool :=
  x.1 == 1 && decide (s.2.2.1 ≥ x.2.2.1) && decide (s.2.2.1 + s.2.2.2.2.1 ≤ x.2.2.1 + x.2.2.2.2.1) && decide ((x.2.2.2.1 - x.2.2.1) % 18446744073709551616 = (s.2.2.2.1 - s.2.2.1) % 18446744073709551616)
def badS (l : List Seg) (s : Seg) : Int := if singS s.1 = true ∧ s.2.2.2.2.1 ≠ 0 ∧ l.any (winS s) = false then 11 else 0
def checkSS (size : Int) (l : List Seg) : Int := if ph1 size [] l = 0 then firstE (badS l) l else ph1 size [] l
def okP (size : Int) (l : List Seg) (i : Nat) : Prop := ∀ k (h : k < l.length), k < i → oneS size l[k] = 0
theorem errS_one {size : Int} {pre : List Seg} {s : Seg} (h : errS size pre s = 0) : oneS size s = 0 := by
  unfold errS at h
  by_cases ho : oneS size s = 0
  · exact ho
  · rw [if_pos ho] at h; exact absurd h ho
theorem okP_succ {size : Int} {l : List Seg} {i : Nat} (h : i < l.length) (hP : okP size l i) (h0 : oneS size l[i] = 0) : okP size l (i + 1) := by
  intro k hk hki
  by_cases e : k = i
  · subst e; exact h0
  · exact hP k hk (by omega)
theorem single_eq (s : Seg) : segs_single s = some (singS s.1) := by
  unfold segs_single singS
  rw [jn_eq]
  cases h : s.1 == 2 <;> simp
theorem within_1_eq {x s : Seg} (hx : Wf04 x) (hs : Wf04 s) {size : Int} (hz : InK .u64 size) (ox : oneS size x = 0) (os : oneS size s = 0) (hs0 : s.1 ≠ 0) : segs_within_1 x s = some (winS s x) := by
  unfold segs_within_1 winS
  rw [jn_eq]
  by_cases c1 : x.1 = 1
  · have kx := oneS_zero ox (by omega)
    have ks := oneS_zero os hs0
    have hz := inK_u64 hz
    have x3 := inK_u64 hx.2.2.1
    have x5 := inK_u64 hx.2.2.2.2.1
    have s3 := inK_u64 hs.2.2.1
    have s5 := inK_u64 hs.2.2.2.2.1
    simp only [wrap_u64 (x.2.2.2.1 - x.2.2.1), wrap_u64 (s.2.2.2.1 - s.2.2.1)]
    by_cases c2 : s.2.2.1 ≥ x.2.2.1
    · have e : IntKind.u64.wrap (s.2.2.1 - x.2.2.1) = s.2.2.1 - x.2.2.1 := u64w (by omega)
      rw [e]
      by_cases c3 : s.2.2.1 - x.2.2.1 ≤ x.2.2.2.2.1
      · have e2 : IntKind.u64.wrap (x.2.2.2.2.1 - (s.2.2.1 - x.2.2.1)) = x.2.2.2.2.1 - (s.2.2.1 - x.2.2.1) := u64w (by omega)
        rw [e2]
        by_cases c4 : s.2.2.2.2.1 ≤ x.2.2.2.2.1 - (s.2.2.1 - x.2.2.1)
        · have c5 : s.2.2.1 + s.2.2.2.2.1 ≤ x.2.2.1 + x.2.2.2.2.1 := by omega
          simp [c1, c2, c3, c4, c5, beqD]
        · have c5 : ¬ s.2.2.1 + s.2.2.2.2.1 ≤ x.2.2.1 + x.2.2.2.2.1 := by omega
          simp [c1, c2, c3, c4, c5]
      · have c5 : ¬ s.2.2.1 + s.2.2.2.2.1 ≤ x.2.2.1 + x.2.2.2.2.1 := by omega
        simp [c1, c2, c3, c5]
    · simp [c1, c2]
  · simp [c1]
theorem within_eq {l : List Seg} (hl : l.length ≤ 9223372036854775807) (hw : ∀ s ∈ l, Wf04 s) {size : Int} (hz : InK .u64 size) (ho : okP size l l.length) {s : Seg} (hs : s ∈ l) (hs0 : s.1 ≠ 0) :
    segs_within l s = some (s.2.2.2.2.1 == 0 || l.any (winS s)) := by
  have hall : ∀ x ∈ l, oneS size x = 0 := by
    intro x hx
    obtain ⟨k, hk, rfl⟩ := List.mem_iff_getElem.1 hx
    exact ho k hk hk
  have hI : slices_IndexFunc_api_Seg_api_Seg_within_1 l s = some (ixN 0 (fI (winS s) l)) := by
    unfold slices_IndexFunc_api_Seg_api_Seg_within_1
    rw [jn_eq]
    refine scan_ix l hl _ ?_ ?_
    · intro i rec hi
      have hm := List.getElem_mem hi
      rw [dif_lt hi, if_pos rfl, gd_pos (by omega), gt_nat hi, bd_eq (within_1_eq (hw _ hm) (hw _ hs) hz (hall _ hm) (hall _ hs) hs0), i64s (by omega)]
    · intro rec
      rw [dif_ge (Nat.le_refl _), if_neg (by simp)]
  unfold segs_within slices_ContainsFunc_api_Seg_api_Seg_within_1
  rw [jn_eq]
  by_cases h0 : s.2.2.2.2.1 = 0
  · rw [if_pos (by simp [h0])]; simp [h0]
  · rw [if_neg (by simp [h0]), show (s.1, s.2.1, s.2.2.1, s.2.2.2.1, s.2.2.2.2.1, s.2.2.2.2.2.1, s.2.2.2.2.2.2) = s from rfl, hI, some_bind, some_bind, ixN_ge, fI_isSome]
    simp [h0]
theorem sing_ne {t : Int} (h : singS t = true) : t ≠ 0 ∧ t ≠ 1 := by
  simp only [singS, Bool.or_eq_true, beq_iff_eq] at h; omega
theorem segs_Find_ex {l : List Seg} (hl : l.length ≤ 9223372036854775807) (kind : Int) : ∃ r, segs_Find l kind = some r ∧ r.2 = l.any fun x => x.1 == kind := by
  refine ⟨_, segs_Find_eq hl kind, ?_⟩
  rw [← fI_isSome]; unfold findS; cases fI (fun x => x.1 == kind) l <;> rfl
theorem segs_Check_eq {l : List Seg} (hl : l.length ≤ 9223372036854775807) (hw : ∀ s ∈ l, Wf04 s) {size : Int} (hz : InK .u64 size) : segs_Check l size = some (checkSS size l) := by
  unfold segs_Check
  rw [jn_eq]
  refine loop_toP (fun i => (hiS (l.take i), (i : Int))) (fun i => some (if ph1 size (l.take i) (l.drop i) = 0 then firstE (badS l) l else ph1 size (l.take i) (l.drop i))) (okP size l) l.length rfl (fun k _ h => by omega) rfl hl ?_
  intro i rec hi hP hrec
  dsimp only at hrec ⊢
  by_cases hlt : i < l.length
  · have hm := List.getElem_mem hlt
    have hx := hw _ hm
    rw [dif_lt hlt, if_pos rfl, jn_eq, gd_pos (by omega), gt_nat hlt, ph1_drop size hlt, i64s (by omega)]
    have hrec := hrec hlt
    rw [List.take_succ_eq_append_getElem hlt, hiS_snoc] at hrec
    rw [List.take_succ_eq_append_getElem hlt]
    have hok := okP_succ hlt hP
    generalize l[i] = s at hm hx hrec hok ⊢
    rw [show (s.1, s.2.1, s.2.2.1, s.2.2.2.1, s.2.2.2.2.1, s.2.2.2.2.2.1, s.2.2.2.2.2.2) = s from rfl, bd_eq (segs_one_eq hx hz)]
    by_cases ho : oneS size s = 0
    · have hrec := hrec (hok ho)
      have hE : errS size (l.take i) s = if singS s.1 = true ∧ ((l.take i).any fun x => x.1 == s.1) = true then 12 else if s.1 = 1 ∧ firstS s < hiS (l.take i) then 12 else 0 := by
        unfold errS; rw [if_neg (by simp [ho])]
      have hcut : cutL l 0 (i : Int) = l.take i := by unfold cutL; simp
      obtain ⟨r, hr1, hfd⟩ := segs_Find_ex (l := l.take i) (by rw [List.length_take]; omega) s.1
      rw [if_neg (by simp [ho]), gd_pos (by omega), hcut, bd_eq hr1, jn_eq, hfd, hE]
      generalize hA : ((l.take i).any fun x => x.1 == s.1) = A
      by_cases hdup : singS s.1 = true ∧ A = true
      · rw [if_pos hdup.2, bd_eq (single_eq s), if_pos hdup, hdup.1]; rfl
      · have key : ∀ b : Bool, b = false → ((fun (s4 : Bool) =>
              (if (s4) = true then
                some 12
              else
                jn (fun (s5 : Int) =>
                  (fun (s3 : Int) =>
          rec (s3, ((i + 1 : Nat) : Int))) s5) (fun k4 =>
                  (if ((s.1) == 1) = true then
                    (segs_pages s).bind fun z4 =>
                    (if (decide (z4.1 < hiS (l.take i))) = true then
                      some 12
                    else
                      k4 z4.2)
                  else
                    k4 (hiS (l.take i)))))) b) = some (if (if s.1 = 1 ∧ firstS s < hiS (l.take i) then (12 : Int) else 0) = 0 then (if ph1 size (l.take i ++ [s]) (l.drop (i + 1)) = 0 then firstE (badS l) l else ph1 size (l.take i ++ [s]) (l.drop (i + 1))) else 12) := by
          intro b hb
          subst hb
          dsimp only
          rw [if_neg (by simp), jn_eq]
          by_cases h1 : s.1 = 1
          · have kz := oneS_zero ho (by omega)
            rw [if_pos (by simp [h1]), bd_eq (segs_pages_eq hx kz.2.2.2.1 kz.2.2.2.2.1)]
            by_cases hf : firstS s < hiS (l.take i)
            · have e : (if s.1 = 1 ∧ firstS s < hiS (l.take i) then (12 : Int) else 0) = 12 := if_pos ⟨h1, hf⟩
              rw [if_pos (by simpa using hf), e, if_neg (by decide)]
            · have e : (if s.1 = 1 ∧ firstS s < hiS (l.take i) then (12 : Int) else 0) = 0 := if_neg fun h => hf h.2
              rw [if_neg (by simpa using hf), e, if_pos rfl]
              rw [if_pos h1] at hrec; exact hrec
          · have e : (if s.1 = 1 ∧ firstS s < hiS (l.take i) then (12 : Int) else 0) = 0 := if_neg fun h => h1 h.1
            rw [if_neg (by simp [h1]), e, if_pos rfl]
            rw [if_neg h1] at hrec; exact hrec
        rw [if_neg hdup]
        have fin : (some (if (if (if s.1 = 1 ∧ firstS s < hiS (l.take i) then (12 : Int) else 0) = 0 then ph1 size (l.take i ++ [s]) (l.drop (i + 1)) else (if s.1 = 1 ∧ firstS s < hiS (l.take i) then (12 : Int) else 0)) = 0 then firstE (badS l) l else (if (if s.1 = 1 ∧ firstS s < hiS (l.take i) then (12 : Int) else 0) = 0 then ph1 size (l.take i ++ [s]) (l.drop (i + 1)) else (if s.1 = 1 ∧ firstS s < hiS (l.take i) then (12 : Int) else 0))) : Option Int)
            = some (if (if s.1 = 1 ∧ firstS s < hiS (l.take i) then (12 : Int) else 0) = 0 then (if ph1 size (l.take i ++ [s]) (l.drop (i + 1)) = 0 then firstE (badS l) l else ph1 size (l.take i ++ [s]) (l.drop (i + 1))) else 12) := by
          by_cases hc : s.1 = 1 ∧ firstS s < hiS (l.take i)
          · rw [if_pos hc]; simp
          · rw [if_neg hc]; simp
        rw [fin]
        cases A
        · rw [if_neg (by simp)]; exact key false rfl
        · have hsg : singS s.1 = false := by
            cases hq : singS s.1
            · rfl
            · exact absurd ⟨hq, rfl⟩ hdup
          rw [if_pos rfl, bd_eq (single_eq s), hsg]; exact key false rfl
    · have hE : errS size (l.take i) s = oneS size s := by unfold errS; rw [if_pos ho]
      rw [if_pos (by simpa using ho), hE, if_neg ho, if_neg ho]
  · obtain rfl : i = l.length := by omega
    rw [dif_ge (Nat.le_refl _), if_neg (by simp), List.drop_length]
    rw [if_pos (show ph1 size (l.take l.length) [] = 0 from rfl), jn_eq]
    refine scan l hl (badS l) ?_ ?_
    · intro i rec hi
      have hm := List.getElem_mem hi
      rw [dif_lt hi, if_pos rfl, gd_pos (by omega), jn_eq, gt_nat hi, i64s (by omega)]
      generalize l[i] = s at hm ⊢
      rw [show (s.1, s.2.1, s.2.2.1, s.2.2.2.1, s.2.2.2.2.1, s.2.2.2.2.2.1, s.2.2.2.2.2.2) = s from rfl, bd_eq (single_eq s)]
      unfold badS
      cases hsg : singS s.1
      · simp
      · rw [if_pos rfl, bd_eq (within_eq hl hw hz hP hm (sing_ne hsg).1)]
        by_cases h0 : s.2.2.2.2.1 = 0
        · simp [h0]
        · cases hwn : l.any (winS s) <;> simp [h0]
    · intro rec
      rw [dif_ge (Nat.le_refl _), if_neg (by simp)]

/-- a loop that runs down through what stands ahead -/
theorem ref_inner {l : List Seg} (hl : l.length ≤ 9223372036854775807) (hw : ∀ s ∈ l, Wf04 s) {size : Int} {i : Nat} (hi : i < l.length) (hP : okP size l i) {kk : Unit → Option Int} {R : Option Int} (hR : kk () = R) :
    loopK (fun (s5 : Int) rec2 =>
                (if (decide (s5 ≥ 0)) = true then
                  jn (fun (s6 : Bool) =>
                    (if (s6) = true then
                      gd ((0 : Int) ≤ (i : Int) ∧ (i : Int) < ((l.length : Nat) : Int)) <|
                      (ref04_First (gt l (i : Int))).bind fun z2 =>
                      gd ((0 : Int) ≤ s5 ∧ s5 < ((l.length : Nat) : Int)) <|
                      (ref04_Behind (gt l s5)).bind fun z3 =>
                      (if (decide (z2 < z3)) = true then
                        some 12
                      else
                        kk ())
                    else
                      jn (fun (s7 : Bool) =>
                        (if (s7) = true then
                          some 12
                        else
                          let1 (IntKind.i64.wrap (s5 - 1)) fun k_2 =>
                          rec2 k_2)) (fun k5 =>
                        gd ((0 : Int) ≤ (i : Int) ∧ (i : Int) < ((l.length : Nat) : Int)) <|
                        gd ((0 : Int) ≤ s5 ∧ s5 < ((l.length : Nat) : Int)) <|
                        (if (((gt l (i : Int)).1) == ((gt l s5).1)) = true then
                        gd ((0 : Int) ≤ (i : Int) ∧ (i : Int) < ((l.length : Nat) : Int)) <|
                        (if (((gt l (i : Int)).1) == 2) = true then
                        k5 true
                        else
                        gd ((0 : Int) ≤ (i : Int) ∧ (i : Int) < ((l.length : Nat) : Int)) <|
                        k5 (((gt l (i : Int)).1) == 7))
                        else
                        k5 false)))) (fun k4 =>
                    gd ((0 : Int) ≤ (i : Int) ∧ (i : Int) < ((l.length : Nat) : Int)) <|
                    (if (((gt l (i : Int)).1) == 1) = true then
                    gd ((0 : Int) ≤ s5 ∧ s5 < ((l.length : Nat) : Int)) <|
                    k4 (((gt l s5).1) == 1)
                    else
                    k4 false))
                else
                  kk ())) bigF ((i : Int) - 1) = if (singS l[i].1 = true ∧ ((l.take i).any fun x => x.1 == l[i].1) = true) ∨ (l[i].1 = 1 ∧ firstS l[i] < hiS (l.take i)) then some 12 else R := by
  have hx := hw _ (List.getElem_mem hi)
  refine loop_to (fun j => (i : Int) - 1 - (j : Int)) (fun j => if (singS l[i].1 = true ∧ ((l.take (i - j)).any fun x => x.1 == l[i].1) = true) ∨ (l[i].1 = 1 ∧ firstS l[i] < hiS (l.take (i - j))) then some 12 else R) i (by simp) rfl (by omega) ?_
  intro j rec hj hrec
  by_cases hlt : j < i
  · have hrec := hrec hlt
    obtain ⟨k, hk⟩ : ∃ k : Nat, i - j = k + 1 := ⟨i - j - 1, by omega⟩
    have ek : (i : Int) - 1 - (j : Int) = (k : Int) := by omega
    have hkl : k < l.length := by omega
    have ek2 : IntKind.i64.wrap ((k : Int) - 1) = (i : Int) - 1 - ((j + 1 : Nat) : Int) := by rw [i64w (by omega)]; omega
    rw [hk, List.take_succ_eq_append_getElem hkl, List.any_append, hiS_snoc, ek]
    rw [show i - (j + 1) = k by omega] at hrec
    have hgi : (0 : Int) ≤ (i : Int) ∧ (i : Int) < ((l.length : Nat) : Int) := by omega
    have hgk : (0 : Int) ≤ (k : Int) ∧ (k : Int) < ((l.length : Nat) : Int) := by omega
    rw [if_pos (by simp)]
    simp only [gd_pos hgi, gd_pos hgk, gt_nat hi, gt_nat hkl, jn_eq, let1_eq, ek2]
    rw [hrec]
    have hxk := hw _ (List.getElem_mem hkl)
    have hok := hP k hkl (by omega)
    generalize l[i] = s at hx ⊢
    generalize l[k] = x at hxk hok ⊢
    rw [bd_eq (ref04_First_eq hx)]
    by_cases h1 : s.1 = 1
    · have hs : singS s.1 = false := by rw [h1]; rfl
      by_cases hx1 : x.1 = 1
      · have kz := oneS_zero hok (by omega)
        rw [if_pos (by simp [h1]), if_pos (by simp [hx1]), bd_eq (ref04_Behind_eq hxk kz.2.2.2.1 kz.2.2.2.2.1), hs, if_pos hx1]
        by_cases hf : firstS s < behindS x
        · rw [if_pos (by simpa using hf), if_pos (Or.inr ⟨h1, hf⟩)]
        · rw [if_neg (by simpa using hf), if_neg (by simp [hf]), hR]
      · rw [if_pos (by simp [h1]), if_neg (by simp [hx1]), if_neg (by simp [h1]; exact fun e => hx1 e.symm), if_neg (by simp), hs, if_neg hx1]
        simp
    · rw [if_neg (by simp [h1]), if_neg (by simp)]
      by_cases he : s.1 = x.1
      · rw [if_pos (by simp [he])]
        have hany : ((l.take k).any (fun y => y.1 == s.1) || [x].any fun y => y.1 == s.1) = true := by simp [he]
        rw [hany]
        by_cases hs : singS s.1 = true
        · have hc : (singS s.1 = true ∧ true = true) ∨ (s.1 = 1 ∧ firstS s < if x.1 = 1 then behindS x else hiS (l.take k)) := Or.inl ⟨hs, rfl⟩
          rw [if_pos hc]
          simp only [singS, Bool.or_eq_true, beq_iff_eq] at hs
          rcases hs with h | h
          · rw [if_pos (by simp [h])]; rfl
          · rw [if_neg (by simp [h]), if_pos (by simp [h])]
        · have hn : s.1 ≠ 2 ∧ s.1 ≠ 7 := by simp only [singS, Bool.or_eq_true, beq_iff_eq] at hs; omega
          rw [if_neg (by simp [hn.1]), if_neg (by simp [hn.2]), if_neg (by simp [hs, h1]), if_neg (by simp [hs, h1])]
      · have hb : (s.1 == x.1) = false := by simp [he]
        simp only [hb, Bool.false_eq_true, if_false]
        have hany : ((l.take k).any (fun y => y.1 == s.1) || [x].any fun y => y.1 == s.1) = (l.take k).any (fun y => y.1 == s.1) := by
          simp; exact fun e => absurd e.symm he
        rw [hany]
        by_cases hc : singS s.1 = true ∧ ((l.take k).any fun y => y.1 == s.1) = true
        · have q1 : (singS s.1 = true ∧ ((l.take k).any fun y => y.1 == s.1) = true) ∨ (s.1 = 1 ∧ firstS s < hiS (l.take k)) := Or.inl hc
          have q2 : (singS s.1 = true ∧ ((l.take k).any fun y => y.1 == s.1) = true) ∨ (s.1 = 1 ∧ firstS s < if x.1 = 1 then behindS x else hiS (l.take k)) := Or.inl hc
          rw [if_pos q1, if_pos q2]
        · have q1 : ¬ ((singS s.1 = true ∧ ((l.take k).any fun y => y.1 == s.1) = true) ∨ (s.1 = 1 ∧ firstS s < hiS (l.take k))) := by
            rintro (h | h)
            · exact hc h
            · exact h1 h.1
          have q2 : ¬ ((singS s.1 = true ∧ ((l.take k).any fun y => y.1 == s.1) = true) ∨ (s.1 = 1 ∧ firstS s < if x.1 = 1 then behindS x else hiS (l.take k))) := by
            rintro (h | h)
            · exact hc h
            · exact h1 h.1
          rw [if_neg q1, if_neg q2]
  · obtain rfl : j = i := by omega
    rw [if_neg (by simp; omega), hR, Nat.sub_self]
    rw [if_neg]
    rintro (⟨_, h⟩ | ⟨h1, h⟩)
    · simp at h
    · have h4 := inK_u64 hx.2.2.2.1
      have : hiS (l.take 0) = 0 := rfl
      rw [this] at h
      unfold firstS at h; omega

theorem ref04_Check_eq {l : List Seg} (hl : l.length ≤ 9223372036854775807) (hw : ∀ s ∈ l, Wf04 s) {size : Int} (hz : InK .u64 size) : ref04_Check l size = some (checkSS size l) := by
  unfold ref04_Check
  rw [jn_eq]
  refine loop_toP (fun i => (i : Int)) (fun i => some (if ph1 size (l.take i) (l.drop i) = 0 then firstE (badS l) l else ph1 size (l.take i) (l.drop i))) (okP size l) l.length rfl (fun k _ h => by omega) rfl hl ?_
  intro i rec hi hP hrec
  dsimp only at hrec ⊢
  by_cases hlt : i < l.length
  · have hm := List.getElem_mem hlt
    have hx := hw _ hm
    rw [dif_lt hlt, if_pos rfl, jn_eq, gd_pos (by omega), ph1_drop size hlt, i64s (by omega)]
    simp only [let1_eq]
    have hrec := hrec hlt
    have hok := okP_succ hlt hP
    rw [show gt l (i : Int) = l[i] from gt_nat hlt, bd_eq (ref04_alone_eq hx hz)]
    by_cases ho : oneS size l[i] = 0
    · have hrec := hrec (hok ho)
      have ew : IntKind.i64.wrap ((i : Int) - 1) = (i : Int) - 1 := i64w (by omega)
      have hE : errS size (l.take i) l[i] = if (singS l[i].1 = true ∧ ((l.take i).any fun x => x.1 == l[i].1) = true) ∨ (l[i].1 = 1 ∧ firstS l[i] < hiS (l.take i)) then 12 else 0 := by
        unfold errS; rw [if_neg (by simp [ho])]
        by_cases c1 : singS l[i].1 = true ∧ ((l.take i).any fun x => x.1 == l[i].1) = true
        · rw [if_pos c1, if_pos (Or.inl c1)]
        · rw [if_neg c1]
          by_cases c2 : l[i].1 = 1 ∧ firstS l[i] < hiS (l.take i)
          · rw [if_pos c2, if_pos (Or.inr c2)]
          · rw [if_neg c2, if_neg (by rintro (h | h); exact c1 h; exact c2 h)]
      rw [if_neg (by simp [ho]), ew]
      refine jn_gen fun kk hkk => ?_
      have hR : kk () = rec ((i + 1 : Nat) : Int) := by rw [hkk]
      have hin := ref_inner hl hw hlt hP hR
      rw [show gt l (i : Int) = l[i] from gt_nat hlt] at hin
      simp only [let1_eq] at hin
      rw [hin, hrec, hE]
      by_cases hc : (singS l[i].1 = true ∧ ((l.take i).any fun x => x.1 == l[i].1) = true) ∨ (l[i].1 = 1 ∧ firstS l[i] < hiS (l.take i))
      · rw [if_pos hc, if_pos hc]; rfl
      · rw [if_neg hc, if_neg hc]; rfl
    · have hE : errS size (l.take i) l[i] = oneS size l[i] := by unfold errS; rw [if_pos ho]
      rw [if_pos (by simpa using ho), hE, if_neg ho, if_neg ho]
  · obtain rfl : i = l.length := by omega
    rw [dif_ge (Nat.le_refl _), if_neg (by simp), List.drop_length]
    rw [if_pos (show ph1 size (l.take l.length) [] = 0 from rfl), jn_eq]
    refine scan l hl (badS l) ?_ ?_
    · intro i rec hi
      have hg : (0 : Int) ≤ (i : Int) ∧ (i : Int) < ((l.length : Nat) : Int) := by omega
      have hm := List.getElem_mem hi
      have hall : ∀ x ∈ l, oneS size x = 0 := by
        intro x hx
        obtain ⟨k, hk, rfl⟩ := List.mem_iff_getElem.1 hx
        exact hP k hk hk
      rw [dif_lt hi, if_pos rfl, jn_eq, jn_eq, i64s (by omega)]
      simp only [gd_pos hg, gt_nat hi, let1_eq]
      have hx := hw _ hm
      have ho := hall _ hm
      generalize l[i] = s at hm hx ho ⊢
      unfold badS
      by_cases hs : singS s.1 = true
      · have hs0 := (sing_ne hs).1
        have inner : ∀ (kk : Bool → Option Int) (R : Option Int), kk (l.any (winS s)) = R →
            loopK (fun (s13 : Bool × Int) rec4 =>
                    (if (decide (s13.2 < ((l.length : Nat) : Int))) = true then
                      jn (fun (s14 : Bool) =>
                        rec4 (s14, IntKind.i64.wrap (s13.2 + 1))) (fun k10 =>
                        jn (fun (s15 : Bool) =>
                          jn (fun (s16 : Bool) =>
                            k10 s16) (fun k12 =>
                            (if (s15) = true then
                              k12 true
                            else
                              k12 s13.1))) (fun k11 =>
                          gd ((0 : Int) ≤ s13.2 ∧ s13.2 < ((l.length : Nat) : Int)) <|
                          (if (((gt l s13.2).1) == 1) = true then
                          gd ((0 : Int) ≤ s13.2 ∧ s13.2 < ((l.length : Nat) : Int)) <|
                          (if (decide ((s.2.2.1) ≥ ((gt l s13.2).2.2.1))) = true then
                          gd ((0 : Int) ≤ s13.2 ∧ s13.2 < ((l.length : Nat) : Int)) <|
                          gd ((0 : Int) ≤ s13.2 ∧ s13.2 < ((l.length : Nat) : Int)) <|
                          (if (decide ((IntKind.u64.wrap ((s.2.2.1) + (s.2.2.2.2.1))) ≤ (IntKind.u64.wrap (((gt l s13.2).2.2.1) + ((gt l s13.2).2.2.2.2.1))))) = true then
                          gd ((0 : Int) ≤ s13.2 ∧ s13.2 < ((l.length : Nat) : Int)) <|
                          gd ((0 : Int) ≤ s13.2 ∧ s13.2 < ((l.length : Nat) : Int)) <|
                          k11 ((IntKind.u64.wrap ((s.2.2.2.1) + ((gt l s13.2).2.2.1))) == (IntKind.u64.wrap (((gt l s13.2).2.2.2.1) + (s.2.2.1))))
                          else
                          k11 false)
                          else
                          k11 false)
                          else
                          k11 false)))
                    else
                      kk s13.1)) bigF (false, 0) = R := by
          intro kk R hkk
          refine loop_at (fun k => ((l.take k).any (winS s), (k : Int))) l.length rfl hl ?_
          intro k rec4 hk hrec4
          dsimp only at hrec4 ⊢
          by_cases hkl : k < l.length
          · have hgk : (0 : Int) ≤ (k : Int) ∧ (k : Int) < ((l.length : Nat) : Int) := by omega
            have hrec4 := hrec4 hkl
            rw [List.take_succ_eq_append_getElem hkl, List.any_append] at hrec4
            rw [dif_lt hkl, if_pos rfl, i64s (by omega)]
            simp only [gd_pos hgk, gt_nat hkl, jn_eq]
            have hmk := List.getElem_mem hkl
            have hxk := hw _ hmk
            have hok := hall _ hmk
            generalize l[k] = x at hxk hok hrec4 ⊢
            simp only [List.any_cons, List.any_nil, Bool.or_false] at hrec4
            generalize (l.take k).any (winS s) = acc at hrec4 ⊢
            have hz := inK_u64 hz
            have ks := oneS_zero ho hs0
            have s3 := inK_u64 hx.2.2.1
            have s5 := inK_u64 hx.2.2.2.2.1
            have x3 := inK_u64 hxk.2.2.1
            have x5 := inK_u64 hxk.2.2.2.2.1
            have e1 : IntKind.u64.wrap (s.2.2.1 + s.2.2.2.2.1) = s.2.2.1 + s.2.2.2.2.1 := u64w (by omega)
            rw [e1]
            by_cases c1 : x.1 = 1
            · have kx := oneS_zero hok (by omega)
              have e2 : IntKind.u64.wrap (x.2.2.1 + x.2.2.2.2.1) = x.2.2.1 + x.2.2.2.2.1 := u64w (by omega)
              rw [e2]
              by_cases c2 : s.2.2.1 ≥ x.2.2.1
              · by_cases c3 : s.2.2.1 + s.2.2.2.2.1 ≤ x.2.2.1 + x.2.2.2.2.1
                · have e3 : ((IntKind.u64.wrap (s.2.2.2.1 + x.2.2.1)) == (IntKind.u64.wrap (x.2.2.2.1 + s.2.2.1))) = winS s x := by
                    unfold winS
                    rw [wrap_u64, wrap_u64, Bool.eq_iff_iff, beq_iff_eq]
                    simp only [c1, c2, c3, beq_self_eq_true, decide_true, Bool.true_and, decide_eq_true_eq]
                    omega
                  rw [if_pos (by simp [c1]), if_pos (by simpa using c2), if_pos (by simpa using c3), e3]
                  cases hwn : winS s x
                  · rw [hwn, Bool.or_false] at hrec4; rw [if_neg (by simp)]; exact hrec4
                  · rw [hwn, Bool.or_true] at hrec4; rw [if_pos rfl]; exact hrec4
                · have hwn : winS s x = false := by unfold winS; simp [c3]
                  rw [hwn, Bool.or_false] at hrec4
                  rw [if_pos (by simp [c1]), if_pos (by simpa using c2), if_neg (by simpa using c3), if_neg (by simp)]; exact hrec4
              · have hwn : winS s x = false := by unfold winS; simp [c2]
                rw [hwn, Bool.or_false] at hrec4
                rw [if_pos (by simp [c1]), if_neg (by simpa using c2), if_neg (by simp)]; exact hrec4
            · have hwn : winS s x = false := by unfold winS; simp [c1]
              rw [hwn, Bool.or_false] at hrec4
              rw [if_neg (by simp [c1]), if_neg (by simp)]; exact hrec4
          · obtain rfl : k = l.length := by omega
            rw [dif_ge (Nat.le_refl _), if_neg (by simp), List.take_of_length_le (Nat.le_refl _), hkk]
        have hbad : badS l s = if s.2.2.2.2.1 ≠ 0 ∧ l.any (winS s) = false then 11 else 0 := by
          unfold badS
          by_cases c : s.2.2.2.2.1 ≠ 0 ∧ l.any (winS s) = false
          · rw [if_pos c, if_pos ⟨hs, c⟩]
          · rw [if_neg c, if_neg fun h => c h.2]
        unfold badS at hbad
        rw [hbad]
        have fin0 : s.2.2.2.2.1 = 0 → rec ((i + 1 : Nat) : Int) = (if (if s.2.2.2.2.1 ≠ 0 ∧ l.any (winS s) = false then (11 : Int) else 0) = 0 then rec ((i + 1 : Nat) : Int) else some (if s.2.2.2.2.1 ≠ 0 ∧ l.any (winS s) = false then 11 else 0)) := by
          intro h0; simp [h0]
        have fin1 : s.2.2.2.2.1 ≠ 0 → (if (!l.any (winS s)) = true then some 11 else rec ((i + 1 : Nat) : Int)) = (if (if s.2.2.2.2.1 ≠ 0 ∧ l.any (winS s) = false then (11 : Int) else 0) = 0 then rec ((i + 1 : Nat) : Int) else some (if s.2.2.2.2.1 ≠ 0 ∧ l.any (winS s) = false then 11 else 0)) := by
          intro h0
          cases hwn : l.any (winS s) <;> simp [h0]
        have hs27 : s.1 = 2 ∨ s.1 = 7 := by simpa [singS] using hs
        rcases hs27 with h2 | h7
        · rw [if_neg (by simp [h2])]
          by_cases h0 : s.2.2.2.2.1 = 0
          · rw [if_pos (by simp [h0])]; exact fin0 h0
          · rw [if_neg (by simp [h0])]
            exact (jn_gen fun kk hkk => inner kk (if (!l.any (winS s)) = true then some 11 else rec ((i + 1 : Nat) : Int)) (by rw [hkk])).trans (fin1 h0)
        · rw [if_pos (by simp [h7]), if_neg (by simp [h7])]
          by_cases h0 : s.2.2.2.2.1 = 0
          · rw [if_pos (by simp [h0])]; exact fin0 h0
          · rw [if_neg (by simp [h0])]
            exact (jn_gen fun kk hkk => inner kk (if (!l.any (winS s)) = true then some 11 else rec ((i + 1 : Nat) : Int)) (by rw [hkk])).trans (fin1 h0)
      · have hn : s.1 ≠ 2 ∧ s.1 ≠ 7 := by simp only [singS, Bool.or_eq_true, beq_iff_eq] at hs; omega
        have hbad : badS l s = 0 := by unfold badS; rw [if_neg fun h => hs h.1]
        unfold badS at hbad
        rw [if_pos (bne_iff_ne.2 hn.1), if_pos (bne_iff_ne.2 hn.2), if_pos trivial, hbad, if_pos rfl]
    · intro rec
      rw [dif_ge (Nat.le_refl _), if_neg (by simp)]

theorem SegsChecks_true {l : List Seg} (hl : l.length ≤ 9223372036854775807) (hw : ∀ s ∈ l, Wf04 s) {size : Int} (hz : InK .u64 size) : law04_SegsChecks l size = some true := by
  unfold law04_SegsChecks
  rw [bd_eq law04_awake_true]
  simp only [Bool.not_true, Bool.false_eq_true, if_false]
  split
  · rfl
  · rw [bd_eq (segs_Check_eq hl hw hz), bd_eq (ref04_Check_eq hl hw hz)]; simp
theorem SegsOne_true {s : Seg} (hx : Wf04 s) {size : Int} (hz : InK .u64 size) : law04_SegsOne s size = some true := by
  unfold law04_SegsOne
  rw [bd_eq law04_awake_true]
  simp only [Bool.not_true, Bool.false_eq_true, if_false]
  have hw : ∀ y ∈ [(s.1, s.2.1, s.2.2.1, s.2.2.2.1, s.2.2.2.2.1, s.2.2.2.2.2.1, s.2.2.2.2.2.2)], Wf04 y := by
    intro y hy
    simp only [List.mem_cons, List.not_mem_nil, or_false] at hy
    subst hy; exact hx
  rw [bd_eq (segs_Check_eq (by simp) hw hz), bd_eq (ref04_Check_eq (by simp) hw hz)]; simp
theorem SegsTwo_true {a m b n kind off size : Int} (h1 : InK .u16 a) (h2 : InK .u16 m) (h3 : InK .u16 b) (h4 : InK .u16 n) (h5 : InK .u32 kind) (h6 : InK .u16 off) (h7 : InK .u16 size) : law04_SegsTwo a m b n kind off size = some true := by
  have W : ∀ x : Int, InK .u64 (IntKind.u64.wrap x) := fun x => by
    constructor
    · show 0 ≤ IntKind.u64.wrap x; rw [wrap_u64]; omega
    · show IntKind.u64.wrap x ≤ 18446744073709551615; rw [wrap_u64]; omega
  have hz : InK .u64 1048576 := by decide
  unfold law04_SegsTwo
  rw [bd_eq law04_awake_true]
  simp only [Bool.not_true, Bool.false_eq_true, if_false]
  rw [jn_eq]
  have d32 : InK .u32 1 := by decide
  have z32 : InK .u32 0 := by decide
  have z64 : InK .u64 0 := by decide
  have w1 : Wf04 (1, 0, IntKind.u64.wrap a, IntKind.u64.wrap a, IntKind.u64.wrap m, IntKind.u64.wrap (IntKind.u64.wrap m + 1), 0) := ⟨d32, z32, W _, W _, W _, W _, z64⟩
  have w2 : Wf04 (1, 0, IntKind.u64.wrap b, IntKind.u64.wrap b, IntKind.u64.wrap n, IntKind.u64.wrap (IntKind.u64.wrap n + 1), 0) := ⟨d32, z32, W _, W _, W _, W _, z64⟩
  have w3 : Wf04 (kind, 0, IntKind.u64.wrap off, IntKind.u64.wrap off, IntKind.u64.wrap size, IntKind.u64.wrap size, 0) := ⟨h5, z32, W _, W _, W _, W _, z64⟩
  generalize ((1, 0, IntKind.u64.wrap a, IntKind.u64.wrap a, IntKind.u64.wrap m, IntKind.u64.wrap (IntKind.u64.wrap m + 1), 0) : Seg) = s1 at w1 ⊢
  generalize ((1, 0, IntKind.u64.wrap b, IntKind.u64.wrap b, IntKind.u64.wrap n, IntKind.u64.wrap (IntKind.u64.wrap n + 1), 0) : Seg) = s2 at w2 ⊢
  generalize ((kind, 0, IntKind.u64.wrap off, IntKind.u64.wrap off, IntKind.u64.wrap size, IntKind.u64.wrap size, 0) : Seg) = s3 at w3 ⊢
  have hw : ∀ y ∈ [s1, s2, s3], Wf04 y := by
    intro y hy
    simp only [List.mem_cons, List.not_mem_nil, or_false] at hy
    rcases hy with rfl | rfl | rfl
    · exact w1
    · exact w2
    · exact w3
  have hw2 : ∀ y ∈ [s1, s2], Wf04 y := by
    intro y hy
    simp only [List.mem_cons, List.not_mem_nil, or_false] at hy
    rcases hy with rfl | rfl
    · exact w1
    · exact w2
  have ec : cutL [s1, s2, s3] 0 2 = [s1, s2] := rfl
  rw [bd_eq (segs_Check_eq (by simp) hw hz), bd_eq (ref04_Check_eq (by simp) hw hz), ec, if_pos (by simp), gd_pos (by simp), bd_eq (segs_Check_eq (by simp) hw2 hz), gd_pos (by simp), bd_eq (ref04_Check_eq (by simp) hw2 hz)]
  simp

end Dm
