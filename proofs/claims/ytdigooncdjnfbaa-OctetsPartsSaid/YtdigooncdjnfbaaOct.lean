/-
  What the shallow forms of octets and its reference come to: numbers of bytes, the lowest first; spans; multiples. Conditions: bytes are from 0 to 255, places below 2^64, lengths at most 2^63 - 1.
-/
import Derived.Test.YtdigooncdjnfbaaS
import Derived.Test.YtdigooncdjnfbaaPure
namespace Dm
open Go

def wOk (n : Int) : Bool := n == 1 || n == 2 || n == 4 || n == 8
theorem wOk_cases {n : Int} (h : wOk n = true) : n = 1 ∨ n = 2 ∨ n = 4 ∨ n = 8 := by simp [wOk] at h; omega
def insB (len : Nat) (p size : Int) : Bool := decide (p ≤ len) && decide (size ≤ len - p)
theorem octets_width_eq (n : Int) : octets_width n = some (wOk n) := by
  unfold octets_width jn wOk
  cases h1 : n == 1 <;> cases h2 : n == 2 <;> cases h4 : n == 4 <;> simp
theorem ref01_width_eq (n : Int) : ref01_width n = some (wOk n) := octets_width_eq n
theorem octets_has_eq {len : Nat} (hl : len ≤ 9223372036854775807) {p size : Int} (hp : 0 ≤ p) : octets_has len p size = some (insB len p size) := by
  unfold octets_has jn let1 insB
  rw [u64w (by omega)]
  dsimp only
  by_cases h : p ≤ len
  · rw [u64w (by omega)]; simp [h]
  · simp [h]
theorem ref01_Inside_eq {len : Nat} (hl : len ≤ 9223372036854775807) {p size : Int} (hp : 0 ≤ p) : ref01_Inside len p size = some (insB len p size) := by
  unfold ref01_Inside insB
  rw [u64w (by omega)]
  by_cases h : p ≤ len
  · have h2 : ¬ (len : Int) < p := by omega
    rw [u64w (by omega)]; simp [h, h2]
  · have h2 : p > len := by omega
    simp [h, h2]

/-- a number of bytes, the lowest first -/
def le : List Int → Int
  | [] => 0
  | x :: xs => x + 256 * le xs
def Bytes (b : List Int) : Prop := ∀ x ∈ b, 0 ≤ x ∧ x ≤ 255
theorem Bytes.take {b : List Int} (h : Bytes b) (n : Nat) : Bytes (b.take n) := fun x hx => h x (List.mem_of_mem_take hx)
theorem Bytes.drop {b : List Int} (h : Bytes b) (n : Nat) : Bytes (b.drop n) := fun x hx => h x (List.mem_of_mem_drop hx)
theorem le_snoc : ∀ (l : List Int) (c : Int), le (l ++ [c]) = le l + c * 256 ^ l.length
  | [], c => by simp [le]
  | x :: xs, c => by
    rw [List.cons_append, le, le, le_snoc xs c, List.length_cons, Int.pow_succ, Int.mul_add, Int.add_assoc]
    congr 2
    rw [Int.mul_comm (256 ^ xs.length) 256, ← Int.mul_assoc, ← Int.mul_assoc, Int.mul_comm 256 c]
theorem le_bd : ∀ {l : List Int}, Bytes l → 0 ≤ le l ∧ le l < 256 ^ l.length
  | [], _ => by simp [le]
  | x :: xs, h => by
    have h1 := h x (by simp)
    have h2 := le_bd (l := xs) fun y hy => h y (by simp [hy])
    rw [le, List.length_cons, Int.pow_succ]
    omega
theorem take_snoc {b : List Int} {p i : Nat} (h : p + i < b.length) : (b.drop p).take (i + 1) = (b.drop p).take i ++ [b.getD (p + i) 0] := by
  rw [List.take_succ_eq_append_getElem (by rw [List.length_drop]; omega)]
  congr 2
  rw [List.getElem_drop, List.getD_eq_getElem?_getD, List.getElem?_eq_getElem h]; rfl
theorem gt_eq (b : List Int) (n : Int) : gt b n = b.getD n.toNat 0 := rfl
theorem getD_byte {b : List Int} (h : Bytes b) (i : Nat) : 0 ≤ b.getD i 0 ∧ b.getD i 0 ≤ 255 := by
  rw [List.getD_eq_getElem?_getD]
  cases e : b[i]? with
  | none => simp
  | some x => exact h x (List.mem_of_getElem? e)

def getS (b : List Int) (p n : Int) : Int × Int :=
  if wOk n then (if insB b.length p n then (le ((b.drop p.toNat).take n.toNat), 0) else (0, 10)) else (0, 1)
theorem octets_fits_eq {b : List Int} (hb : b.length ≤ 9223372036854775807) {p n : Int} (hp : 0 ≤ p) : octets_fits b p n = some (if wOk n then (if insB b.length p n then 0 else 10) else 1) := by
  unfold octets_fits
  rw [bd_eq (octets_width_eq n)]
  cases hw : wOk n
  · simp
  · have := wOk_cases hw
    rw [u64w (by omega), bd_eq (octets_has_eq hb hp)]
    cases insB b.length p n <;> simp
theorem octets_Get_eq {b : List Int} (hb : b.length ≤ 9223372036854775807) (hB : Bytes b) {p n : Int} (hp : 0 ≤ p) : octets_Get b p n = some (getS b p n) := by
  unfold octets_Get getS
  rw [bd_eq (octets_fits_eq hb hp)]
  cases hw : wOk n
  · simp
  cases hi : insB b.length p n
  · simp
  have hn := wOk_cases hw
  simp only [insB, Bool.and_eq_true, decide_eq_true_eq] at hi
  simp only [if_true, bne_self_eq_false, Bool.false_eq_true, if_false, jn_eq]
  refine loop_run (fun s => 0 ≤ s.2 ∧ s.2 ≤ n ∧ s.1 = le ((b.drop p.toNat).take s.2.toNat)) (fun s => (n - s.2).toNat) ?_ bigF (0, 0) ⟨by simp, by simp; omega, by simp [le]⟩ (lt_bigF (by simp; omega))
  rintro ⟨x, i⟩ rec ⟨h0, h1, hx⟩ hrec
  simp only at h0 h1 hx hrec ⊢
  by_cases hlt : i < n
  · obtain ⟨j, rfl⟩ := Int.eq_ofNat_of_zero_le h0
    obtain ⟨q, rfl⟩ := Int.eq_ofNat_of_zero_le hp
    have e1 : IntKind.i64.wrap ((q : Int) : Int) = q := i64w (by omega)
    have e2 : IntKind.i64.wrap ((q : Int) + j) = ((q + j : Nat) : Int) := by rw [i64w (by omega)]; omega
    have e3 : IntKind.i64.wrap (8 * (j : Int)) = 8 * j := i64w (by omega)
    have e4 : IntKind.u64.wrap (8 * (j : Int)) = 8 * j := u64w (by omega)
    simp only [e1, e2, e3, e4, hlt, decide_true, if_true, let1_eq]
    rw [gd_pos (by omega), gd_pos (by omega)]
    have hgt := getD_byte hB (q + j)
    simp only [gt_eq, Int.toNat_natCast]
    have e5 : IntKind.u64.wrap (b.getD (q + j) 0) = b.getD (q + j) 0 := u64w (by omega)
    rw [e5]
    have hlb := le_bd ((hB.drop q).take j)
    have hlen : ((b.drop q).take j).length = j := by rw [List.length_take, List.length_drop]; omega
    simp only [Int.toNat_natCast] at hx
    rw [hlen] at hlb
    rw [hx, bor_shl (by omega) hlb.1 hlb.2 hgt.1 (by omega)]
    have e6 : IntKind.i64.wrap ((j : Int) + 1) = ((j + 1 : Nat) : Int) := by rw [i64w (by omega)]; omega
    rw [e6]
    refine hrec _ ⟨by simp; omega, by simp; omega, ?_⟩ (by simp; omega)
    simp only [Int.toNat_natCast]
    rw [take_snoc (by omega), le_snoc, hlen]
  · have : i = n := by omega
    subst this
    simp [hx]
theorem p256 (m : Nat) (hm : m ≤ 8) : (256 : Int) ^ m ≤ 18446744073709551616 := by
  have h2 : ((256 ^ m : Nat) : Int) = (256 : Int) ^ m := Int.natCast_pow 256 m
  have h1 : (256 : Nat) ^ m ≤ 256 ^ 8 := Nat.pow_le_pow_right (by omega) hm
  have h3 : (256 : Nat) ^ 8 = 18446744073709551616 := rfl
  rw [h3] at h1
  rw [← h2]
  exact Int.ofNat_le.2 h1
theorem ref01_Get_eq {b : List Int} (hb : b.length ≤ 9223372036854775807) (hB : Bytes b) {p n : Int} (hp : 0 ≤ p) : ref01_Get b p n = some (getS b p n) := by
  unfold ref01_Get getS
  rw [bd_eq (ref01_width_eq n)]
  cases hw : wOk n
  · simp
  have hn := wOk_cases hw
  simp only [Bool.not_true, Bool.false_eq_true, if_false, if_true]
  rw [u64w (by omega), bd_eq (ref01_Inside_eq hb hp)]
  cases hi : insB b.length p n
  · simp
  simp only [insB, Bool.and_eq_true, decide_eq_true_eq] at hi
  simp only [Bool.not_true, Bool.false_eq_true, if_false, if_true, let1_eq, jn_eq]
  have e0 : IntKind.i64.wrap (n - 1) = n - 1 := i64w (by omega)
  rw [e0]
  refine loop_run (fun s => -1 ≤ s.2 ∧ s.2 < n ∧ s.1 = le ((b.drop (p.toNat + (s.2 + 1).toNat)).take (n - 1 - s.2).toNat)) (fun s => (s.2 + 1).toNat) ?_ bigF (0, n - 1) ⟨by simp; omega, by simp; omega, by simp [le]⟩ (lt_bigF (by simp; omega))
  rintro ⟨x, i⟩ rec ⟨h0, h1, hx⟩ hrec
  simp only at h0 h1 hx hrec ⊢
  by_cases hge : 0 ≤ i
  · obtain ⟨j, rfl⟩ := Int.eq_ofNat_of_zero_le hge
    obtain ⟨q, rfl⟩ := Int.eq_ofNat_of_zero_le hp
    have e1 : IntKind.i64.wrap ((q : Int) : Int) = q := i64w (by omega)
    have e2 : IntKind.i64.wrap ((q : Int) + j) = ((q + j : Nat) : Int) := by rw [i64w (by omega)]; omega
    simp only [e1, e2, ge_iff_le, hge, decide_true, if_true]
    rw [gd_pos (by omega)]
    have hgt := getD_byte hB (q + j)
    simp only [gt_eq, Int.toNat_natCast]
    have e5 : IntKind.u64.wrap (b.getD (q + j) 0) = b.getD (q + j) 0 := u64w (by omega)
    have e6 : IntKind.i64.wrap ((j : Int) - 1) = (j : Int) - 1 := i64w (by omega)
    rw [e5, e6]
    have et : ((j : Int) + 1).toNat = j + 1 := by omega
    rw [et] at hx
    simp only [Int.toNat_natCast] at hx
    have hlb := le_bd ((hB.drop (q + (j + 1))).take (n - 1 - (j : Int)).toNat)
    have hlen : ((b.drop (q + (j + 1))).take (n - 1 - (j : Int)).toNat).length = (n - 1 - (j : Int)).toNat := by rw [List.length_take, List.length_drop]; omega
    rw [hlen, ← hx] at hlb
    have h9 := p256 ((n - 1 - (j : Int)).toNat + 1) (by omega)
    rw [Int.pow_succ] at h9
    have e9 : IntKind.u64.wrap (x * 256) = x * 256 := u64w (by omega)
    have e10 : IntKind.u64.wrap (x * 256 + b.getD (q + j) 0) = x * 256 + b.getD (q + j) 0 := u64w (by omega)
    rw [e9, e10]
    refine hrec _ ⟨by simp only []; omega, by simp only []; omega, ?_⟩ (by simp only []; omega)
    simp only [Int.toNat_natCast]
    have e7 : ((j : Int) - 1 + 1).toNat = j := by omega
    have e8 : (n - 1 - ((j : Int) - 1)).toNat = (n - 1 - (j : Int)).toNat + 1 := by omega
    rw [e7, e8, List.drop_eq_getElem_cons (by omega), List.take_succ_cons, le, hx]
    rw [List.getD_eq_getElem?_getD, List.getElem?_eq_getElem (by omega)]
    simp only [Option.getD_some, Nat.add_assoc]
    omega
  · have : i = -1 := by omega
    subst this
    simp [hx]

end Dm
