/-
  Down and Up to pages of 256 bytes over the shallow forms. Conditions: numbers below 2^64 - 256.
-/
import Derived.Test.YtljdbjimdidigaaS
import Derived.Test.YtljdbjimdidigaaFun
namespace Dm
open Go

theorem bandn_pow {x k : Nat} (hx : x < 2 ^ 64) (hk : k < 64) : bandn .u64 (x : Int) (((2 ^ k - 1 : Nat)) : Int) = ((x / 2 ^ k * 2 ^ k : Nat) : Int) := by
  have hpk : (2 : Nat) ^ k < 2 ^ 64 := Nat.pow_lt_pow_right (by omega) hk
  have h64 : (2 : Nat) ^ 64 = 18446744073709551616 := by decide
  have e : ((BitVec.ofInt 64 (x : Int) &&& ~~~(BitVec.ofInt 64 ((2 ^ k - 1 : Nat) : Int))).toNat) = x / 2 ^ k * 2 ^ k := by
    apply Nat.eq_of_testBit_eq
    intro i
    rw [BitVec.testBit_toNat, BitVec.getLsbD_and, BitVec.getLsbD_not, BitVec.getLsbD, BitVec.getLsbD, ofInt_toNat (by omega) (by omega), ofInt_toNat (by omega) (by omega), Int.toNat_natCast, Int.toNat_natCast, Nat.testBit_two_pow_sub_one, Nat.testBit_mul_two_pow, Nat.testBit_div_two_pow]
    by_cases h : k ≤ i
    · have h2 : ¬ i < k := by omega
      have h3 : i - k + k = i := by omega
      by_cases h4 : i < 64
      · simp [h, h2, h3, h4]
      · have : x.testBit i = false := Nat.testBit_lt_two_pow (Nat.lt_of_lt_of_le hx (Nat.pow_le_pow_right (by omega) (by omega)))
        simp [h, h2, h3, this]
    · have h2 : i < k := by omega
      simp [h, h2]
  unfold bandn
  have hb : IntKind.u64.bits = 64 := rfl
  rw [hb, e, u64w]
  have := Nat.div_mul_le_self x (2 ^ k)
  omega
theorem down256 {x : Int} (h0 : 0 ≤ x) (h1 : x ≤ 18446744073709551615) : octets_Down x 256 = some (x / 256 * 256, 0) := by
  unfold octets_Down
  rw [jn_eq, if_neg (by decide)]
  have e : (band .u64 256 (IntKind.u64.wrap (256 - 1)) != 0) = false := by decide
  rw [e]
  obtain ⟨n, rfl⟩ := Int.eq_ofNat_of_zero_le h0
  have hb := bandn_pow (x := n) (k := 8) (by omega) (by omega)
  have e2 : IntKind.u64.wrap (256 - 1) = ((2 ^ 8 - 1 : Nat) : Int) := by rw [u64w (by omega)]; rfl
  rw [e2, hb]
  dsimp only
  rw [if_neg (by simp)]
  congr 2
theorem up256 {x : Int} (h0 : 0 ≤ x) (h1 : x ≤ 18446744073709551000) : octets_Up x 256 = some ((x + 255) / 256 * 256, 0) := by
  unfold octets_Up
  rw [bd_eq (down256 h0 (by omega)), jn_eq, if_neg (by simp)]
  dsimp only
  by_cases he : x / 256 * 256 = x
  · rw [if_pos (by simpa using he)]
    congr 2; omega
  · have e : IntKind.u64.wrap (x / 256 * 256 + 256) = x / 256 * 256 + 256 := u64w (by omega)
    rw [if_neg (by simpa using he), e, if_neg (by simp; omega)]
    congr 2; omega

end Dm
