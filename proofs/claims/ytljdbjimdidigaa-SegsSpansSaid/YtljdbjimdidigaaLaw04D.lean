/-
  The laws of layer 4 on what segments may be, over the shallow forms: each is true. Conditions: numbers are in their kinds' ranges, lengths at most 2^63 - 1.
-/
import Derived.Test.YtljdbjimdidigaaLaw04C
namespace Dm
open Go

def kindS (k : Int) : Bool := k == 0 || k == 1 || k == 2 || k == 4 || k == 7
theorem Index_u32_eq {l : List Int} (hl : l.length ≤ 9223372036854775807) (k : Int) : slices_Index_uint32_uint32 l k = some (ixN 0 (fI (fun x => k == x) l)) := by
  unfold slices_Index_uint32_uint32
  rw [jn_eq]
  refine scan_ix l hl _ ?_ ?_
  · intro i rec hi
    rw [dif_lt hi, if_pos rfl, gd_pos (by omega), gt_nat hi, i64s (by omega)]
  · intro rec
    rw [dif_ge (Nat.le_refl _), if_neg (by simp)]
theorem segs_kind_eq (k : Int) : segs_kind k = some (kindS k) := by
  unfold segs_kind slices_Contains_uint32_uint32
  rw [Index_u32_eq (by simp) k, some_bind, some_bind, ixN_ge, fI_isSome]
  simp [kindS, Bool.or_assoc]
def restS (s : Seg) (size : Int) : Int :=
  if s.1 = 0 then 0 else if s.2.2.1 > size ∨ s.2.2.2.2.1 > size - s.2.2.1 then 10 else if s.2.2.2.2.2.1 < s.2.2.2.2.1 then 11
  else if s.2.2.2.1 > 4294967296 ∨ s.2.2.2.2.2.1 > 4294967296 - s.2.2.2.1 then 13 else if s.1 = 1 ∧ (s.2.2.2.1 % 256 ≠ s.2.2.1 % 256 ∨ s.2.2.2.2.2.1 = 0) then 11 else 0
def oneS (size : Int) (s : Seg) : Int := if kindS s.1 = false ∨ s.2.1 > 7 then 11 else restS s size
theorem rest_eq {s : Seg} (hx : Wf04 s) {size : Int} (hs : InK .u64 size) :
      (if (s.1 == 0) = true then
        some 0
      else
        jn (fun (s2 : Bool) =>
          (if (s2) = true then
            some 10
          else
            (if (decide (s.2.2.2.2.2.1 < s.2.2.2.2.1)) = true then
              some 11
            else
              jn (fun (s3 : Bool) =>
                (if (s3) = true then
                  some 13
                else
                  jn (fun (s4 : Bool) =>
                    (if (s4) = true then
                      some 11
                    else
                      some 0)) (fun k4 =>
                    (if (s.1 == 1) = true then
                    (if ((Int.tmod s.2.2.2.1 256) != (Int.tmod s.2.2.1 256)) = true then
                    k4 true
                    else
                    k4 (s.2.2.2.2.2.1 == 0))
                    else
                    k4 false)))) (fun k3 =>
                (if (decide (s.2.2.2.1 > 4294967296)) = true then
                k3 true
                else
                k3 (decide (s.2.2.2.2.2.1 > (IntKind.u64.wrap (4294967296 - s.2.2.2.1))))))))) (fun k2 =>
          (if (decide (s.2.2.1 > size)) = true then
          k2 true
          else
          k2 (decide (s.2.2.2.2.1 > (IntKind.u64.wrap (size - s.2.2.1))))))) = some (restS s size) := by
  obtain ⟨t, fl, o, v, f, m, al⟩ := s
  obtain ⟨h1, h2, h3, h4, h5, h6, h7⟩ := hx
  have h3 := inK_u64 h3
  have h4 := inK_u64 h4
  have h5 := inK_u64 h5
  have h6 := inK_u64 h6
  have hs := inK_u64 hs
  simp only at h1 h2 h3 h4 h5 h6 h7
  unfold restS
  have e1 : Int.tmod v 256 = v % 256 := Int.tmod_eq_emod_of_nonneg h4.1
  have e2 : Int.tmod o 256 = o % 256 := Int.tmod_eq_emod_of_nonneg h3.1
  simp only [jn_eq, e1, e2]
  by_cases c0 : t = 0
  · simp [c0]
  by_cases c1 : o > size
  · simp [c0, c1]
  have e3 : IntKind.u64.wrap (size - o) = size - o := u64w (by omega)
  rw [e3]
  by_cases c2 : f > size - o
  · simp [c0, c1, c2]
  by_cases c3 : m < f
  · simp [c0, c1, c2, c3]
  by_cases c4 : v > 4294967296
  · simp [c0, c1, c2, c3, c4]
  have e4 : IntKind.u64.wrap (4294967296 - v) = 4294967296 - v := u64w (by omega)
  rw [e4]
  by_cases c5 : m > 4294967296 - v
  · simp [c0, c1, c2, c3, c4, c5]
  by_cases c6 : t = 1
  · by_cases c7 : v % 256 = o % 256
    · by_cases c8 : m = 0
      · subst c8; simp [c1, c2, c3, c4, c5, c6, c7]
      · simp [c1, c2, c3, c4, c5, c6, c7, c8]
    · simp [c1, c2, c3, c4, c5, c6, c7]
  · simp [c0, c1, c2, c3, c4, c5, c6]
theorem segs_one_eq {s : Seg} (hx : Wf04 s) {size : Int} (hs : InK .u64 size) : segs_one s size = some (oneS size s) := by
  unfold segs_one oneS
  have hr := rest_eq hx hs
  rw [jn_eq, bd_eq (segs_kind_eq _)]
  cases hk : kindS s.1
  · simp
  · by_cases h7 : s.2.1 > 7
    · simp [h7]
    · have hd : decide (s.2.1 > 7) = false := by simpa using h7
      have hneg : ¬ (true = false ∨ s.2.1 > 7) := by simp [h7]
      rw [if_neg (c := (!true) = true) (by simp), hd, if_neg hneg]
      dsimp only
      rw [if_neg (by simp)]
      exact hr
theorem ref04_alone_eq {s : Seg} (hx : Wf04 s) {size : Int} (hs : InK .u64 size) : ref04_alone s size = some (oneS size s) := by
  unfold ref04_alone oneS
  have hr := rest_eq hx hs
  rw [jn_eq]
  by_cases h7 : s.2.1 > 7
  · have hd : decide (s.2.1 > 7) = true := by simpa using h7
    rw [hd, if_pos (Or.inr h7)]
    dsimp only
    simp
  · have hd : decide (s.2.1 > 7) = false := by simpa using h7
    rw [hd]
    cases hk : kindS s.1
    · have : s.1 ≠ 0 ∧ s.1 ≠ 1 ∧ s.1 ≠ 2 ∧ s.1 ≠ 4 ∧ s.1 ≠ 7 := by
        simp only [kindS, Bool.or_eq_false_iff, beq_eq_false_iff_ne] at hk; omega
      rw [if_pos (bne_iff_ne.2 this.1), if_pos (bne_iff_ne.2 this.2.1), if_pos (bne_iff_ne.2 this.2.2.1), if_pos (bne_iff_ne.2 this.2.2.2.1), if_pos (bne_iff_ne.2 this.2.2.2.2), if_pos (Or.inl rfl)]
      rfl
    · have hneg : ¬ (true = false ∨ s.2.1 > 7) := by simp [h7]
      rw [if_neg hneg]
      dsimp only
      simp only [Bool.false_eq_true, if_false]
      simp only [if_true]
      rw [hr]
      have : s.1 = 0 ∨ s.1 = 1 ∨ s.1 = 2 ∨ s.1 = 4 ∨ s.1 = 7 := by
        simp only [kindS, Bool.or_eq_true, beq_iff_eq] at hk; omega
      rcases this with h | h | h | h | h <;> simp [h]

end Dm
