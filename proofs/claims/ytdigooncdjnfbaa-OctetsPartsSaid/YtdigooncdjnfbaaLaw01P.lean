/-
  OctetsParts over the shallow forms: a number of eight bytes is those of its halves, of its quarters, of its bytes. Conditions: eight bytes, each from 0 to 255.
-/
import Derived.Test.YtdigooncdjnfbaaSet
import Derived.KernelRfl
namespace Dm
open Go

theorem law01_awake_true : law01_awake = some true := by kernel_rfl
theorem part {b : List Int} (hB : Bytes b) (hn : b.length = 8) {p m : Nat} (h : p + m ≤ 8) (hm : 0 < m) {s : Int} (hs : s = ((8 * p : Nat) : Int)) :
    IntKind.u64.wrap (le (cu b 0 p) + shl .u64 (le (cu b p m)) s) = le (cu b 0 (p + m)) := by
  have h1 := le_cu_add (b := b) (p := 0) (m := p) (n := m) (by omega)
  have b0 := cu_bd (n := p) hB (show 0 + p ≤ b.length by omega)
  have b1 := cu_bd (n := m) hB (show p + m ≤ b.length by omega)
  have b2 := cu_bd (n := p + m) hB (show 0 + (p + m) ≤ b.length by omega)
  have h2 := p256 (p + m) h
  rw [Nat.zero_add] at h1
  have hp : (2 : Int) ^ (min s.toNat IntKind.u64.bits) = 256 ^ p := by
    rw [hs, Int.toNat_natCast, Nat.min_eq_left (by simp [IntKind.bits]; omega), Int.pow_mul]; rfl
  have h0 : 0 ≤ (256 : Int) ^ p * le (cu b p m) := Int.mul_nonneg (Int.pow_nonneg (by omega)) b1.1
  unfold shl
  rw [hp, Int.mul_comm]
  generalize (256 : Int) ^ p * le (cu b p m) = y at h0 h1
  generalize (256 : Int) ^ (p + m) = z at h2 b2
  have e : IntKind.u64.wrap y = y := u64w (by omega)
  rw [e, u64w (by omega)]
  omega
theorem OctetsParts_true {b : List Int} (hn : b.length = 8) (hb : ∀ n ∈ b, InK .u8 n) : law01_OctetsParts b = some true := by
  have hB := bytes_of hb
  have hc : cutL b 0 ((8 : Nat) : Int) = b := by unfold cutL; rw [Int.toNat_natCast, ← hn, List.take_length]; rfl
  unfold law01_OctetsParts
  rw [bd_eq law01_awake_true]
  simp only [Bool.not_true, Bool.false_eq_true, if_false, hn]
  rw [gd_pos (by omega), hc, bd_eq (show octets_Get b 0 8 = _ from get8 (p := 0) (by omega) hB (by omega)), jn_eq]
  refine loop_at (fun i => (le (cu b 0 (4 * min i 2)), le (cu b 0 (2 * min i 4)), le (cu b 0 i), (i : Int))) 8 rfl (by omega) ?_
  intro i rec hi hrec
  dsimp only at hrec ⊢
  by_cases hlt : i < 8
  · have hrec := hrec hlt
    have w1 : IntKind.u64.wrap (i : Int) = ((i : Nat) : Int) := u64w (by omega)
    have w2 : IntKind.u64.wrap (IntKind.i64.wrap (2 * (i : Int))) = ((2 * i : Nat) : Int) := by rw [i64w (by omega), u64w (by omega)]; omega
    have w4 : IntKind.u64.wrap (IntKind.i64.wrap (4 * (i : Int))) = ((4 * i : Nat) : Int) := by rw [i64w (by omega), u64w (by omega)]; omega
    have v1 : IntKind.u64.wrap (IntKind.i64.wrap (8 * (i : Int))) = ((8 * i : Nat) : Int) := by rw [i64w (by omega), u64w (by omega)]; omega
    have v2 : IntKind.u64.wrap (IntKind.i64.wrap (16 * (i : Int))) = ((8 * (2 * i) : Nat) : Int) := by rw [i64w (by omega), u64w (by omega)]; omega
    have v4 : IntKind.u64.wrap (IntKind.i64.wrap (32 * (i : Int))) = ((8 * (4 * i) : Nat) : Int) := by rw [i64w (by omega), u64w (by omega)]; omega
    have r1 := part hB hn (p := i) (m := 1) (by omega) (by omega) (s := ((8 * i : Nat) : Int)) rfl
    have g1 := get1 (by omega) hB (p := i) (by omega)
    have tail : ∀ Y Z : Int, Y = le (cu b 0 (4 * min (i + 1) 2)) → Z = le (cu b 0 (2 * min (i + 1) 4)) →
        (gd ((0 : Int) ≤ 0 ∧ (0 : Int) ≤ ((8 : Nat) : Int) ∧ ((8 : Nat) : Int) ≤ ((8 : Nat) : Int)) <|
              (octets_Get b (IntKind.u64.wrap (i : Int)) 1).bind fun z5 =>
              gd ((0 : Int) ≤ (IntKind.u64.wrap (IntKind.i64.wrap (8 * (i : Int))))) <|
              let1 (IntKind.u64.wrap (le (cu b 0 i) + (shl .u64 z5.1 (IntKind.u64.wrap (IntKind.i64.wrap (8 * (i : Int))))))) fun w_1 =>
              let1 (IntKind.i64.wrap ((i : Int) + 1)) fun i_1 =>
              rec (Y, Z, w_1, i_1)) = some true := by
      rintro Y Z rfl rfl
      rw [gd_pos (by omega), w1, bd_eq g1, v1, gd_pos (by omega)]
      dsimp only
      rw [r1, let1_eq, let1_eq, i64s (by omega)]
      exact hrec
    rw [if_pos (by rw [decide_eq_true_eq]; omega), jn_eq]
    have mid : ∀ Y : Int, Y = le (cu b 0 (4 * min (i + 1) 2)) →
        (jn (fun (s4 : Int) =>
              gd ((0 : Int) ≤ 0 ∧ (0 : Int) ≤ ((8 : Nat) : Int) ∧ ((8 : Nat) : Int) ≤ ((8 : Nat) : Int)) <|
              (octets_Get b (IntKind.u64.wrap (i : Int)) 1).bind fun z5 =>
              gd ((0 : Int) ≤ (IntKind.u64.wrap (IntKind.i64.wrap (8 * (i : Int))))) <|
              let1 (IntKind.u64.wrap (le (cu b 0 i) + (shl .u64 z5.1 (IntKind.u64.wrap (IntKind.i64.wrap (8 * (i : Int))))))) fun w_1 =>
              let1 (IntKind.i64.wrap ((i : Int) + 1)) fun i_1 =>
              rec (Y, s4, w_1, i_1)) (fun k3 =>
              (if (decide ((i : Int) < 4)) = true then
                gd ((0 : Int) ≤ 0 ∧ (0 : Int) ≤ ((8 : Nat) : Int) ∧ ((8 : Nat) : Int) ≤ ((8 : Nat) : Int)) <|
                (octets_Get b (IntKind.u64.wrap (IntKind.i64.wrap (2 * (i : Int)))) 2).bind fun z4 =>
                gd ((0 : Int) ≤ (IntKind.u64.wrap (IntKind.i64.wrap (16 * (i : Int))))) <|
                let1 (IntKind.u64.wrap (le (cu b 0 (2 * min i 4)) + (shl .u64 z4.1 (IntKind.u64.wrap (IntKind.i64.wrap (16 * (i : Int))))))) fun z_1 =>
                k3 z_1
              else
                k3 (le (cu b 0 (2 * min i 4)))))) = some true := by
      intro Y hY
      rw [jn_eq]
      by_cases h4 : i < 4
      · have r2 := part hB hn (p := 2 * i) (m := 2) (by omega) (by omega) (s := ((8 * (2 * i) : Nat) : Int)) rfl
        have g2 := get2 (by omega) hB (p := 2 * i) (by omega)
        rw [if_pos (by rw [decide_eq_true_eq]; omega), gd_pos (by omega), w2, bd_eq g2, v2, gd_pos (by omega), Nat.min_eq_left (by omega)]
        dsimp only
        rw [r2, let1_eq]
        exact tail _ _ hY (by rw [show 2 * min (i + 1) 4 = 2 * i + 2 by omega])
      · rw [if_neg (by rw [decide_eq_true_eq]; omega)]
        exact tail _ _ hY (by rw [show 2 * min (i + 1) 4 = 2 * min i 4 by omega])
    by_cases h2 : i < 2
    · have r4 := part hB hn (p := 4 * i) (m := 4) (by omega) (by omega) (s := ((8 * (4 * i) : Nat) : Int)) rfl
      have g4 := get4 (by omega) hB (p := 4 * i) (by omega)
      rw [if_pos (by rw [decide_eq_true_eq]; omega), gd_pos (by omega), w4, bd_eq g4, v4, gd_pos (by omega), Nat.min_eq_left (show i ≤ 2 by omega)]
      dsimp only
      rw [r4, let1_eq]
      exact mid _ (by rw [show 4 * min (i + 1) 2 = 4 * i + 4 by omega])
    · rw [if_neg (by rw [decide_eq_true_eq]; omega)]
      exact mid _ (by rw [show 4 * min (i + 1) 2 = 4 * min i 2 by omega])
  · obtain rfl : i = 8 := by omega
    rw [if_neg (by simp), jn_eq]
    simp

end Dm
