/-
  Plain facts on the words of the shallow forms: wraps, bits, loops. No condition; no program.
-/
import Derived.Test.YtpgohbnaphkngaaDoorPre
namespace Dm
open Go

theorem gd_pos {ρ : Type} {c : Prop} [Decidable c] {k : Option ρ} (h : c) : gd c k = k := by unfold gd; rw [if_pos h]
theorem let1_eq {α ρ : Type} (e : α) (f : α → Option ρ) : let1 e f = f e := by cases h : f e <;> (unfold let1; exact h)
theorem jn_eq {σ ρ : Type} (k : σ → Option ρ) (b : (σ → Option ρ) → Option ρ) : jn k b = b k := by cases h : b k <;> (unfold jn; exact h)
theorem bd_eq {α ρ : Type} {m : Option α} {x : α} {f : α → Option ρ} (h : m = some x) : m.bind f = f x := by rw [h]; rfl
/-- a loop ends with r, where each round does or hands on to a smaller state that does -/
theorem loop_run {σ ρ : Type} {body : σ → (σ → Option ρ) → Option ρ} {r : Option ρ} (Inv : σ → Prop) (m : σ → Nat)
    (h : ∀ s rec, Inv s → (∀ s', Inv s' → m s' < m s → rec s' = r) → body s rec = r) : ∀ (n : Nat) (s : σ), Inv s → m s < n → loopK body n s = r := by
  intro n
  induction n with
  | zero => intro s _ hm; omega
  | succ n ih => intro s hs hm; exact h s (loopK body n) hs fun s' hs' hm' => ih s' hs' (by omega)
theorem lt_bigF {n : Nat} (h : n ≤ 9223372036854775808) : n < bigF := by
  have : bigF = 18446744073709551616 := rfl
  omega

/-! wraps -/
theorem wrap_u8 (n : Int) : IntKind.u8.wrap n = n % 256 := by simp [IntKind.wrap, IntKind.bits, IntKind.signed]
theorem wrap_u16 (n : Int) : IntKind.u16.wrap n = n % 65536 := by simp [IntKind.wrap, IntKind.bits, IntKind.signed]
theorem wrap_u32 (n : Int) : IntKind.u32.wrap n = n % 4294967296 := by simp [IntKind.wrap, IntKind.bits, IntKind.signed]
theorem wrap_u64 (n : Int) : IntKind.u64.wrap n = n % 18446744073709551616 := by simp [IntKind.wrap, IntKind.bits, IntKind.signed]
theorem wrap_i64 (n : Int) : IntKind.i64.wrap n = if 9223372036854775808 ≤ n % 18446744073709551616 then n % 18446744073709551616 - 18446744073709551616 else n % 18446744073709551616 := by
  simp [IntKind.wrap, IntKind.bits, IntKind.signed]
theorem wrap_i32 (n : Int) : IntKind.i32.wrap n = if 2147483648 ≤ n % 4294967296 then n % 4294967296 - 4294967296 else n % 4294967296 := by
  simp [IntKind.wrap, IntKind.bits, IntKind.signed]
theorem u8w {n : Int} (h : 0 ≤ n ∧ n < 256) : IntKind.u8.wrap n = n := by rw [wrap_u8]; omega
theorem u16w {n : Int} (h : 0 ≤ n ∧ n < 65536) : IntKind.u16.wrap n = n := by rw [wrap_u16]; omega
theorem u32w {n : Int} (h : 0 ≤ n ∧ n < 4294967296) : IntKind.u32.wrap n = n := by rw [wrap_u32]; omega
theorem u64w {n : Int} (h : 0 ≤ n ∧ n < 18446744073709551616) : IntKind.u64.wrap n = n := by rw [wrap_u64]; omega
theorem i64w {n : Int} (h : -9223372036854775808 ≤ n ∧ n < 9223372036854775808) : IntKind.i64.wrap n = n := by rw [wrap_i64]; split <;> omega
theorem i32w {n : Int} (h : -2147483648 ≤ n ∧ n < 2147483648) : IntKind.i32.wrap n = n := by rw [wrap_i32]; split <;> omega

/-- a number that its kind holds -/
def InK (k : IntKind) (n : Int) : Prop := k.min ≤ n ∧ n ≤ k.max
theorem inK_u8 {n : Int} (h : InK .u8 n) : 0 ≤ n ∧ n ≤ 255 := h
theorem inK_u16 {n : Int} (h : InK .u16 n) : 0 ≤ n ∧ n ≤ 65535 := h
theorem inK_u32 {n : Int} (h : InK .u32 n) : 0 ≤ n ∧ n ≤ 4294967295 := h
theorem inK_u64 {n : Int} (h : InK .u64 n) : 0 ≤ n ∧ n ≤ 18446744073709551615 := h
theorem inK_i64 {n : Int} (h : InK .i64 n) : -9223372036854775808 ≤ n ∧ n ≤ 9223372036854775807 := h
theorem inK_i32 {n : Int} (h : InK .i32 n) : -2147483648 ≤ n ∧ n ≤ 2147483647 := h

/-! bits -/
theorem ofInt_toNat {w : Nat} {x : Int} (h0 : 0 ≤ x) (h1 : x < (2 ^ w : Nat)) : (BitVec.ofInt w x).toNat = x.toNat := by
  rw [BitVec.toNat_ofInt]
  rw [Int.emod_eq_of_lt h0 h1]
theorem band_nat (k : IntKind) (hk : k.signed = false) {x y : Int} (hx0 : 0 ≤ x) (hx : x < (2 ^ k.bits : Nat)) (hy0 : 0 ≤ y) (hy : y < (2 ^ k.bits : Nat)) : band k x y = ((x.toNat &&& y.toNat : Nat) : Int) := by
  unfold band
  rw [BitVec.toNat_and, ofInt_toNat hx0 hx, ofInt_toNat hy0 hy]
  unfold IntKind.wrap
  have h1 : x.toNat &&& y.toNat ≤ x.toNat := Nat.and_le_left
  have h2 : (((x.toNat &&& y.toNat : Nat) : Int)) % (2 ^ k.bits : Int) = ((x.toNat &&& y.toNat : Nat) : Int) := Int.emod_eq_of_lt (by omega) (by push_cast at hx; omega)
  simp only [h2, hk, Bool.false_and, Bool.false_eq_true, if_false]
theorem bor_nat (k : IntKind) (hk : k.signed = false) {x y : Int} (hx0 : 0 ≤ x) (hx : x < (2 ^ k.bits : Nat)) (hy0 : 0 ≤ y) (hy : y < (2 ^ k.bits : Nat)) : bor k x y = ((x.toNat ||| y.toNat : Nat) : Int) := by
  unfold bor
  rw [BitVec.toNat_or, ofInt_toNat hx0 hx, ofInt_toNat hy0 hy]
  unfold IntKind.wrap
  have h1 : x.toNat ||| y.toNat < 2 ^ k.bits := Nat.or_lt_two_pow (by omega) (by omega)
  have h2 : (((x.toNat ||| y.toNat : Nat) : Int)) % (2 ^ k.bits : Int) = ((x.toNat ||| y.toNat : Nat) : Int) := Int.emod_eq_of_lt (by omega) (by
    have : (((x.toNat ||| y.toNat : Nat)) : Int) < ((2 ^ k.bits : Nat) : Int) := by exact_mod_cast h1
    push_cast at this; exact this)
  simp only [h2, hk, Bool.false_and, Bool.false_eq_true, if_false]
/-- the next byte above those that are there -/
theorem bor_shl {x c : Int} {i : Nat} (hi : i < 8) (hx0 : 0 ≤ x) (hx : x < 256 ^ i) (hc0 : 0 ≤ c) (hc : c < 256) : bor .u64 x (shl .u64 c (8 * i)) = x + c * 256 ^ i := by
  have h256 : (256 : Int) ^ i = ((2 ^ (8 * i) : Nat) : Int) := by
    rw [Nat.pow_mul, Int.natCast_pow]; rfl
  have e1 : ((8 * (i : Int)).toNat) = 8 * i := by omega
  have hle : (2 : Nat) ^ (8 * i) * 256 ≤ 2 ^ 64 := by
    have : (2 : Nat) ^ (8 * i) * 256 = 2 ^ (8 * i + 8) := by rw [Nat.pow_add]
    rw [this]; exact Nat.pow_le_pow_right (by omega) (by omega)
  have hpos : 0 < (2 : Nat) ^ (8 * i) := Nat.two_pow_pos _
  obtain ⟨a, rfl⟩ := Int.eq_ofNat_of_zero_le hx0
  obtain ⟨b, rfl⟩ := Int.eq_ofNat_of_zero_le hc0
  rw [h256] at hx ⊢
  have ha : a < 2 ^ (8 * i) := by exact_mod_cast hx
  have hb : b < 256 := by omega
  have hmul : b * 2 ^ (8 * i) ≤ 255 * 2 ^ (8 * i) := Nat.mul_le_mul_right _ (by omega)
  have hs : shl .u64 (b : Int) (8 * (i : Int)) = ((b * 2 ^ (8 * i) : Nat) : Int) := by
    unfold shl
    rw [e1, Nat.min_eq_left (by simp [IntKind.bits]; omega)]
    have : ((b : Int) * 2 ^ (8 * i)) = ((b * 2 ^ (8 * i) : Nat) : Int) := by rw [Int.natCast_mul, Int.natCast_pow]; rfl
    rw [this, u64w]
    constructor
    · omega
    · have h3 : (2 : Nat) ^ 64 = 18446744073709551616 := by decide
      omega
  rw [hs, bor_nat .u64 rfl (by omega) (by simp [IntKind.bits]; omega) (by omega) (by simp only [IntKind.bits]; omega)]
  simp only [Int.toNat_natCast]
  rw [Nat.or_comm, ← Nat.shiftLeft_eq, ← Nat.shiftLeft_add_eq_or_of_lt ha, Nat.shiftLeft_eq]
  rw [Int.natCast_add, Int.natCast_mul]; omega

end Dm
