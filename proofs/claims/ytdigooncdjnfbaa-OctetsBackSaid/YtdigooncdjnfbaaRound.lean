/-
  Up and Down of octets and its reference, over the shallow forms: powers of two, multiples. Conditions: numbers in their kinds' ranges.
-/
import Derived.Test.YtdigooncdjnfbaaOctB
namespace Dm
open Go

def pw2 (n : Nat) : Bool := decide (n ≠ 0) && (n &&& (n - 1)) == 0
theorem and_pred_even {m : Nat} (hm : 0 < m) : (2 * m) &&& (2 * m - 1) = 2 * (m &&& (m - 1)) := by
  apply Nat.eq_of_testBit_eq
  intro i
  cases i with
  | zero => simp [Nat.testBit_zero]
  | succ i =>
    have e1 : (2 * m - 1) / 2 = m - 1 := by omega
    have e2 : 2 * m / 2 = m := by omega
    have e3 : 2 * (m &&& (m - 1)) / 2 = m &&& (m - 1) := by omega
    rw [Nat.testBit_and, Nat.testBit_succ, Nat.testBit_succ, Nat.testBit_succ, e1, e2, e3, Nat.testBit_and]
theorem and_pred_odd (m : Nat) : (2 * m + 1) &&& (2 * m + 1 - 1) = 2 * m := by
  apply Nat.eq_of_testBit_eq
  intro i
  cases i with
  | zero => simp [Nat.testBit_zero]
  | succ i =>
    have e1 : (2 * m + 1 - 1) / 2 = m := by omega
    have e2 : (2 * m + 1) / 2 = m := by omega
    have e3 : 2 * m / 2 = m := by omega
    rw [Nat.testBit_and, Nat.testBit_succ, Nat.testBit_succ, Nat.testBit_succ, e1, e2, e3, Bool.and_self]
theorem pw2_even {m : Nat} (hm : 0 < m) : pw2 (2 * m) = pw2 m := by
  unfold pw2
  rw [and_pred_even hm]
  have h1 : decide (2 * m ≠ 0) = true := by simp; omega
  have h2 : decide (m ≠ 0) = true := by simp; omega
  rw [h1, h2]
  cases h : (m &&& (m - 1)) == 0 with
  | true => simp at h; simp [h]
  | false => generalize (m &&& (m - 1)) = z at h ⊢; simp at h ⊢; omega
theorem pw2_odd {m : Nat} (hm : 0 < m) : pw2 (2 * m + 1) = false := by
  unfold pw2
  rw [and_pred_odd]
  have : (2 * m == 0) = false := by simp; omega
  rw [this, Bool.and_false]
theorem pw2_pow : ∀ (n : Nat), pw2 n = true → ∃ k, n = 2 ^ k := by
  intro n
  induction n using Nat.strongRecOn with
  | ind n ih =>
    intro h
    by_cases h0 : n = 0
    · subst h0; simp [pw2] at h
    by_cases h1 : n = 1
    · exact ⟨0, h1⟩
    rcases Nat.mod_two_eq_zero_or_one n with hm | hm
    · have e : n = 2 * (n / 2) := by omega
      rw [e, pw2_even (by omega)] at h
      obtain ⟨k, hk⟩ := ih (n / 2) (by omega) h
      exact ⟨k + 1, by rw [Nat.pow_succ]; omega⟩
    · have e : n = 2 * (n / 2) + 1 := by omega
      rw [e, pw2_odd (by omega)] at h
      cases h
theorem power_eq {a : Int} (h0 : 0 ≤ a) (h1 : a ≤ 18446744073709551615) : ref01_power a = some (pw2 a.toNat) := by
  unfold ref01_power
  have hF : 18446744073709551615 < bigF := by show 18446744073709551615 < 18446744073709551616; omega
  generalize bigF = F at hF ⊢
  obtain ⟨A, rfl⟩ := Int.eq_ofNat_of_zero_le h0
  rw [jn_eq, Int.toNat_natCast]
  refine loop_run (fun (s : Int) => ∃ m : Nat, s = (m : Int) ∧ m ≤ 18446744073709551615 ∧ pw2 m = pw2 A) (fun s => s.toNat) ?_ F (A : Int) ⟨A, rfl, by omega, rfl⟩ (by simp only [Int.toNat_natCast]; omega)
  rintro s rec ⟨m, rfl, hm, hp⟩ hrec
  simp only [jn_eq]
  have e0 : Int.tmod (m : Int) 2 = ((m % 2 : Nat) : Int) := by rw [Int.tmod_eq_emod_of_nonneg (by omega)]; omega
  have e1 : Int.tdiv (m : Int) 2 = ((m / 2 : Nat) : Int) := by rw [Int.tdiv_eq_ediv_of_nonneg (by omega)]; omega
  rw [e0, e1]
  by_cases hgt : (m : Int) > 1
  · rcases Nat.mod_two_eq_zero_or_one m with h2 | h2
    · have e : m = 2 * (m / 2) := by omega
      have hw : IntKind.u64.wrap ((m / 2 : Nat) : Int) = ((m / 2 : Nat) : Int) := u64w (by omega)
      simp only [hgt, decide_true, if_true, h2, let1_eq, hw]
      refine hrec _ ⟨m / 2, rfl, by omega, ?_⟩ ?_
      · rw [← hp]; conv => rhs; rw [e]
        rw [pw2_even (by omega)]
      · simp only [Int.toNat_natCast]; omega
    · have e : m = 2 * (m / 2) + 1 := by omega
      simp only [hgt, decide_true, if_true, h2]
      have : pw2 m = false := by rw [e]; exact pw2_odd (by omega)
      rw [← hp, this]
      have : ((m : Int) == 1) = false := by simp; omega
      simp [this]
  · simp only [hgt, decide_false, Bool.false_eq_true, if_false]
    have : m = 0 ∨ m = 1 := by omega
    rcases this with rfl | rfl
    · rw [← hp]; rfl
    · rw [← hp]; rfl
theorem bandn_pow {x k : Nat} (hx : x < 2 ^ 64) (hk : k < 64) : bandn .u64 (x : Int) (((2 ^ k - 1 : Nat)) : Int) = ((x / 2 ^ k * 2 ^ k : Nat) : Int) := by
  have hpk : (2 : Nat) ^ k < 2 ^ 64 := Nat.pow_lt_pow_right (by omega) hk
  have h64 : (2 : Nat) ^ 64 = 18446744073709551616 := by decide
  have e : ((BitVec.ofInt 64 (x : Int) &&& ~~~(BitVec.ofInt 64 ((2 ^ k - 1 : Nat) : Int))).toNat) = x / 2 ^ k * 2 ^ k := by
    apply Nat.eq_of_testBit_eq
    intro i
    rw [BitVec.testBit_toNat, BitVec.getLsbD_and, BitVec.getLsbD_not, BitVec.getLsbD, BitVec.getLsbD, ofInt_toNat (by omega) (by omega), ofInt_toNat (by omega) (by omega), Int.toNat_natCast, Int.toNat_natCast, Nat.testBit_two_pow_sub_one, Nat.testBit_mul_two_pow, Nat.testBit_div_two_pow]
    by_cases h : k ≤ i
    · have h2 : ¬ i < k := by omega
      have h3 : i - k + k = i := by omega
      by_cases h4 : i < 64
      · simp [h, h2, h3, h4]
      · have : x.testBit i = false := Nat.testBit_lt_two_pow (Nat.lt_of_lt_of_le hx (Nat.pow_le_pow_right (by omega) (by omega)))
        simp [h, h2, h3, this]
    · have h2 : i < k := by omega
      simp [h, h2]
  unfold bandn
  have hb : IntKind.u64.bits = 64 := rfl
  rw [hb, e, u64w]
  have := Nat.div_mul_le_self x (2 ^ k)
  omega
def downS (x a : Int) : Int × Int := if pw2 a.toNat then (x / a * a, 0) else (0, 1)
def upS (x a : Int) : Int × Int := if pw2 a.toNat then (if x % a = 0 then (x, 0) else if x / a = 18446744073709551615 / a then (0, 10) else ((x / a + 1) * a, 0)) else (0, 1)
theorem pw2_facts {a : Int} (h0 : 0 ≤ a) (h1 : a ≤ 18446744073709551615) (h : pw2 a.toNat = true) : ∃ k : Nat, k < 64 ∧ a = ((2 ^ k : Nat) : Int) := by
  obtain ⟨k, hk⟩ := pw2_pow _ h
  have h64 : (2 : Nat) ^ 64 = 18446744073709551616 := by decide
  refine ⟨k, ?_, by omega⟩
  by_cases hlt : k < 64
  · exact hlt
  · have := Nat.pow_le_pow_right (n := 2) (by omega) (show 64 ≤ k by omega)
    omega
theorem octets_Down_eq {x a : Int} (hx0 : 0 ≤ x) (hx1 : x ≤ 18446744073709551615) (h0 : 0 ≤ a) (h1 : a ≤ 18446744073709551615) : octets_Down x a = some (downS x a) := by
  unfold octets_Down downS
  simp only [jn_eq]
  by_cases hz : a = 0
  · subst hz; simp [pw2]
  have hz2 : (a == 0) = false := by simp [hz]
  have e1 : IntKind.u64.wrap (a - 1) = a - 1 := u64w (by omega)
  have e2 : band .u64 a (a - 1) = ((a.toNat &&& (a.toNat - 1) : Nat) : Int) := by
    rw [band_nat .u64 rfl h0 (by simp [IntKind.bits]; omega) (by omega) (by simp [IntKind.bits]; omega)]
    congr 2
    omega
  rw [hz2, e1, e2]
  simp only [Bool.false_eq_true, if_false]
  cases hp : pw2 a.toNat
  · have h2 : (a.toNat &&& (a.toNat - 1)) ≠ 0 := by
      intro h3
      have : decide (a.toNat ≠ 0) = true := by simp; omega
      simp only [pw2, h3, this] at hp
      simp at hp
    have : ((((a.toNat &&& (a.toNat - 1) : Nat)) : Int) != 0) = true := by simp only [bne_iff_ne, ne_eq]; omega
    simp [this]
  · have h2 : (a.toNat &&& (a.toNat - 1)) = 0 := by
      simp only [pw2, Bool.and_eq_true, beq_iff_eq] at hp
      exact hp.2
    rw [h2]
    obtain ⟨k, hk, rfl⟩ := pw2_facts h0 h1 hp
    obtain ⟨X, rfl⟩ := Int.eq_ofNat_of_zero_le hx0
    have h64 : (2 : Nat) ^ 64 = 18446744073709551616 := by decide
    have e3 : ((2 ^ k : Nat) : Int) - 1 = ((2 ^ k - 1 : Nat) : Int) := by have := Nat.two_pow_pos k; omega
    rw [e3, bandn_pow (by omega) hk]
    simp only [Int.natCast_zero, bne_self_eq_false, Bool.false_eq_true, if_false, if_true]
    rw [Int.natCast_mul, Int.natCast_ediv]
theorem ref01_Down_eq {x a : Int} (hx0 : 0 ≤ x) (hx1 : x ≤ 18446744073709551615) (h0 : 0 ≤ a) (h1 : a ≤ 18446744073709551615) : ref01_Down x a = some (downS x a) := by
  unfold ref01_Down downS
  rw [bd_eq (power_eq h0 h1)]
  cases hp : pw2 a.toNat
  · simp
  obtain ⟨k, hk, rfl⟩ := pw2_facts h0 h1 hp
  have hpos := Nat.two_pow_pos k
  simp only [Bool.not_true, Bool.false_eq_true, if_false, if_true]
  rw [gd_pos (by omega), Int.tdiv_eq_ediv_of_nonneg hx0]
  have hq := Int.ediv_nonneg hx0 (show (0 : Int) ≤ ((2 ^ k : Nat) : Int) by omega)
  have hle : x / ((2 ^ k : Nat) : Int) * ((2 ^ k : Nat) : Int) ≤ x := Int.ediv_mul_le x (by omega)
  have hle2 := Int.ediv_le_self ((2 ^ k : Nat) : Int) hx0
  rw [u64w (n := x / ((2 ^ k : Nat) : Int)) (by omega), u64w ⟨Int.mul_nonneg hq (by omega), by omega⟩]
theorem pow_split {k : Nat} (hk : k < 64) : ∃ B : Nat, 2 ^ k * B = 18446744073709551616 := by
  refine ⟨2 ^ (64 - k), ?_⟩
  rw [← Nat.pow_add, show k + (64 - k) = 64 by omega]
theorem octets_Up_eq {x a : Int} (hx0 : 0 ≤ x) (hx1 : x ≤ 18446744073709551615) (h0 : 0 ≤ a) (h1 : a ≤ 18446744073709551615) : octets_Up x a = some (upS x a) := by
  unfold octets_Up
  rw [bd_eq (octets_Down_eq hx0 hx1 h0 h1)]
  unfold upS downS
  simp only [jn_eq]
  cases hp : pw2 a.toNat
  · simp
  obtain ⟨k, hk, rfl⟩ := pw2_facts h0 h1 hp
  obtain ⟨X, rfl⟩ := Int.eq_ofNat_of_zero_le hx0
  have hpos := Nat.two_pow_pos k
  obtain ⟨B, hB⟩ := pow_split hk
  generalize (2 : Nat) ^ k = A at *
  simp only [if_true, bne_self_eq_false, Bool.false_eq_true, if_false]
  have hX := Nat.div_add_mod X A
  have hr := Nat.mod_lt X hpos
  have e1 : ((X : Int) / (A : Int)) = ((X / A : Nat) : Int) := (Int.natCast_ediv X A).symm
  have e2 : ((X : Int) % (A : Int)) = ((X % A : Nat) : Int) := (Int.natCast_emod X A).symm
  have e3 : (18446744073709551615 : Int) / (A : Int) = ((B - 1 : Nat) : Int) := by
    have hB0 : 0 < B := Nat.pos_of_ne_zero (by rintro rfl; omega)
    have : 18446744073709551615 / A = B - 1 := by
      apply Nat.div_eq_of_lt_le
      · rw [Nat.sub_mul, Nat.mul_comm B A]; omega
      · rw [Nat.sub_add_cancel hB0, Nat.mul_comm B A]; omega
    rw [← this]; exact (Int.natCast_ediv 18446744073709551615 A).symm
  rw [e1, e2, e3]
  generalize X / A = q at *
  generalize X % A = r at *
  have hqB : q < B := by
    apply Nat.lt_of_mul_lt_mul_left (a := A)
    omega
  have e4 : (((q : Int) * (A : Int)) : Int) = ((A * q : Nat) : Int) := by rw [Int.natCast_mul, Int.mul_comm]
  have e5 : ((((q : Int) + 1) * (A : Int)) : Int) = ((A * q + A : Nat) : Int) := by rw [Int.natCast_add, Int.natCast_mul, Int.add_mul, Int.mul_comm (q : Int), Int.one_mul]
  rw [e4, e5]
  have hle : A * q + A ≤ A * B := by rw [← Nat.mul_succ]; exact Nat.mul_le_mul_left _ hqB
  by_cases hr0 : r = 0
  · subst hr0
    have : ((A * q : Nat) : Int) = (X : Int) := by omega
    simp [this]
  · have h1 : (((A * q : Nat) : Int) == (X : Int)) = false := by simp only [beq_eq_false_iff_ne, ne_eq]; omega
    have h2 : ¬ ((r : Int) = 0) := by omega
    rw [h1, if_neg h2]
    simp only [Bool.false_eq_true, if_false]
    by_cases hqq : q = B - 1
    · have : A * q + A = 18446744073709551616 := by
        rw [← hB, ← Nat.mul_succ]; congr 1; omega
      have h3 : IntKind.u64.wrap (((A * q : Nat) : Int) + (A : Int)) = 0 := by rw [wrap_u64]; omega
      rw [h3, if_pos (show (q : Int) = ((B - 1 : Nat) : Int) by omega)]
      simp
    · have : A * q + A < 18446744073709551616 := by
        rw [← hB, ← Nat.mul_succ]; exact Nat.mul_lt_mul_of_pos_left (by omega) hpos
      have h3 : IntKind.u64.wrap (((A * q : Nat) : Int) + (A : Int)) = ((A * q + A : Nat) : Int) := by rw [u64w (by omega)]; omega
      have h4 : ((((A * q + A : Nat)) : Int) == 0) = false := by simp only [beq_eq_false_iff_ne, ne_eq]; omega
      rw [h3, h4, if_neg (show ¬ (q : Int) = ((B - 1 : Nat) : Int) by omega)]
      simp
theorem ref01_Up_eq {x a : Int} (hx0 : 0 ≤ x) (hx1 : x ≤ 18446744073709551615) (h0 : 0 ≤ a) (h1 : a ≤ 18446744073709551615) : ref01_Up x a = some (upS x a) := by
  unfold ref01_Up upS
  rw [bd_eq (power_eq h0 h1)]
  cases hp : pw2 a.toNat
  · simp
  obtain ⟨k, hk, rfl⟩ := pw2_facts h0 h1 hp
  have hpos := Nat.two_pow_pos k
  generalize (2 : Nat) ^ k = A at *
  simp only [Bool.not_true, Bool.false_eq_true, if_false, if_true]
  rw [gd_pos (by omega), gd_pos (by omega), gd_pos (by omega), gd_pos (by omega), Int.tdiv_eq_ediv_of_nonneg hx0, Int.tmod_eq_emod_of_nonneg hx0, Int.tdiv_eq_ediv_of_nonneg (by omega)]
  have hq := Int.ediv_nonneg hx0 (show (0 : Int) ≤ (A : Int) by omega)
  have hle : x / (A : Int) * (A : Int) ≤ x := Int.ediv_mul_le x (by omega)
  have hle2 := Int.ediv_le_self (A : Int) hx0
  have hle3 := Int.ediv_le_self (A : Int) (show (0 : Int) ≤ 18446744073709551615 by omega)
  have hq3 := Int.ediv_nonneg (show (0 : Int) ≤ 18446744073709551615 by omega) (show (0 : Int) ≤ (A : Int) by omega)
  have hmono : x / (A : Int) ≤ 18446744073709551615 / (A : Int) := Int.ediv_le_ediv (by omega) hx1
  have hle4 : 18446744073709551615 / (A : Int) * (A : Int) ≤ 18446744073709551615 := Int.ediv_mul_le _ (by omega)
  rw [u64w (n := x / (A : Int)) (by omega), u64w (n := 18446744073709551615 / (A : Int)) (by omega)]
  by_cases h : x % (A : Int) = 0
  · simp [h]
  by_cases hh : x / (A : Int) = 18446744073709551615 / (A : Int)
  · simp [h, hh]
  · have hlt : x / (A : Int) + 1 ≤ 18446744073709551615 / (A : Int) := by omega
    have h5 : (x / (A : Int) + 1) * (A : Int) ≤ 18446744073709551615 / (A : Int) * (A : Int) := Int.mul_le_mul_of_nonneg_right hlt (by omega)
    have h6 : 0 ≤ (x / (A : Int) + 1) * (A : Int) := Int.mul_nonneg (by omega) (by omega)
    rw [u64w (n := x / (A : Int) + 1) (by omega), u64w (n := (x / (A : Int) + 1) * (A : Int)) (by omega)]
    simp [h, hh]

end Dm
