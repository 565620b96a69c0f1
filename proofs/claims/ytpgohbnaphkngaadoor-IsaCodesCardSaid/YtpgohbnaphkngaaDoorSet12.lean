/-
  A number set as a whole into a row of zeros. No condition.
-/
import Derived.Test.YtpgohbnaphkngaaDoorS
import Derived.Test.YtpgohbnaphkngaaDoorFun
namespace Dm
open Go

def wOk (n : Int) : Bool := n == 1 || n == 2 || n == 4 || n == 8
theorem wOk_cases {n : Int} (h : wOk n = true) : n = 1 ∨ n = 2 ∨ n = 4 ∨ n = 8 := by simp [wOk] at h; omega
def insB (len : Nat) (p size : Int) : Bool := decide (p ≤ len) && decide (size ≤ len - p)
theorem octets_width_eq (n : Int) : octets_width n = some (wOk n) := by
  unfold octets_width jn wOk
  cases h1 : n == 1 <;> cases h2 : n == 2 <;> cases h4 : n == 4 <;> simp
theorem octets_has_eq {len : Nat} (hl : len ≤ 9223372036854775807) {p size : Int} (hp : 0 ≤ p) : octets_has len p size = some (insB len p size) := by
  unfold octets_has jn let1 insB
  rw [u64w (by omega)]
  dsimp only
  by_cases h : p ≤ len
  · rw [u64w (by omega)]; simp [h]
  · simp [h]
def Bytes (b : List Int) : Prop := ∀ x ∈ b, 0 ≤ x ∧ x ≤ 255
theorem octets_fits_eq {b : List Int} (hb : b.length ≤ 9223372036854775807) {p n : Int} (hp : 0 ≤ p) : octets_fits b p n = some (if wOk n then (if insB b.length p n then 0 else 10) else 1) := by
  unfold octets_fits
  rw [bd_eq (octets_width_eq n)]
  cases hw : wOk n
  · simp
  · have := wOk_cases hw
    rw [u64w (by omega), bd_eq (octets_has_eq hb hp)]
    cases insB b.length p n <;> simp
/-- the bytes of a number, the lowest first -/
def leB : Nat → Int → List Int
  | 0, _ => []
  | n + 1, x => x % 256 :: leB n (x / 256)
theorem leB_length : ∀ (n : Nat) (x : Int), (leB n x).length = n
  | 0, _ => rfl
  | n + 1, x => by rw [leB, List.length_cons, leB_length n]
theorem leB_snoc : ∀ (n : Nat) (x : Int), leB (n + 1) x = leB n x ++ [x / 256 ^ n % 256]
  | 0, x => by simp [leB]
  | n + 1, x => by
    rw [leB, leB_snoc n, leB, List.cons_append]
    congr 3
    rw [Int.pow_succ, Int.mul_comm, ← Int.ediv_ediv_of_nonneg (by omega)]
theorem leB_bytes : ∀ (n : Nat) (x : Int), Bytes (leB n x)
  | 0, _ => by simp [leB, Bytes]
  | n + 1, x => by
    intro y hy
    rw [leB, List.mem_cons] at hy
    rcases hy with rfl | hy
    · omega
    · exact leB_bytes n _ y hy
theorem Bytes.append {a b : List Int} (ha : Bytes a) (hb : Bytes b) : Bytes (a ++ b) := fun x hx => by
  rw [List.mem_append] at hx; rcases hx with h | h
  · exact ha x h
  · exact hb x h
theorem shr_byte {x : Int} {j : Nat} (hj : j < 8) : IntKind.u8.wrap (shr .u64 x (8 * (j : Int))) = x / 256 ^ j % 256 := by
  unfold shr
  have e1 : ((8 * (j : Int)).toNat) = 8 * j := by omega
  rw [e1, Nat.min_eq_left (by simp [IntKind.bits]; omega), Int.fdiv_eq_ediv_of_nonneg _ (Int.pow_nonneg (by omega)), wrap_u8, Int.pow_mul]
  rfl
theorem set_mid (l r : List Int) (y v : Int) (n : Nat) (h : l.length = n) : (l ++ y :: r).set n v = l ++ v :: r := by
  subst h
  rw [List.set_append_right _ _ (Nat.le_refl _), Nat.sub_self, List.set_cons_zero]
theorem set_next {b : List Int} {p j : Nat} {x : Int} (h : p + j < b.length) : (b.take p ++ leB j x ++ b.drop (p + j)).set (p + j) (x / 256 ^ j % 256) = b.take p ++ leB (j + 1) x ++ b.drop (p + (j + 1)) := by
  rw [List.drop_eq_getElem_cons h, set_mid _ _ _ _ _ (by rw [List.length_append, List.length_take, leB_length]; omega), leB_snoc, List.append_assoc, List.append_assoc, List.append_assoc]
  rfl
theorem mid_length {b : List Int} {p j : Nat} {x : Int} (h : p + j ≤ b.length) : (b.take p ++ leB j x ++ b.drop (p + j)).length = b.length := by
  rw [List.length_append, List.length_append, List.length_take, List.length_drop, leB_length]; omega
def setS (b : List Int) (p n x : Int) : List Int × Int :=
  if wOk n then (if insB b.length p n then (b.take p.toNat ++ leB n.toNat x ++ b.drop (p.toNat + n.toNat), 0) else ([], 10)) else ([], 1)
theorem octets_Set_eq {b : List Int} (hb : b.length ≤ 140737488355328) {p n x : Int} (hp : 0 ≤ p) : octets_Set b p n x = some (setS b p n x) := by
  unfold octets_Set setS
  have hF := @lt_bigF
  generalize bigF = F at hF ⊢
  rw [bd_eq (octets_fits_eq (by omega) hp)]
  cases hw : wOk n
  · simp
  cases hi : insB b.length p n
  · simp
  have hn := wOk_cases hw
  simp only [insB, Bool.and_eq_true, decide_eq_true_eq] at hi
  simp only [if_true, bne_self_eq_false, Bool.false_eq_true, if_false]
  have hc : slices_Clone_byte_byte b = some b := by unfold slices_Clone_byte_byte; exact gd_pos (by omega)
  rw [bd_eq hc, jn_eq]
  obtain ⟨q, rfl⟩ := Int.eq_ofNat_of_zero_le hp
  refine loop_run (fun s => 0 ≤ s.1 ∧ s.1 ≤ n ∧ s.2 = b.take q ++ leB s.1.toNat x ++ b.drop (q + s.1.toNat)) (fun s => (n - s.1).toNat) ?_ F (0, b) ⟨by simp, by simp; omega, by simp [leB]⟩ (hF (by simp; omega))
  rintro ⟨i, s⟩ rec ⟨h0, h1, hx⟩ hrec
  simp only at h0 h1 hx hrec ⊢
  by_cases hlt : i < n
  · obtain ⟨j, rfl⟩ := Int.eq_ofNat_of_zero_le h0
    simp only [Int.toNat_natCast] at hx
    have hlen := mid_length (b := b) (p := q) (j := j) (x := x) (by omega)
    rw [← hx] at hlen
    have e1 : IntKind.i64.wrap ((q : Int) : Int) = q := i64w (by omega)
    have e2 : IntKind.i64.wrap ((q : Int) + j) = ((q + j : Nat) : Int) := by rw [i64w (by omega)]; omega
    have e3 : IntKind.i64.wrap (8 * (j : Int)) = 8 * j := i64w (by omega)
    have e4 : IntKind.u64.wrap (8 * (j : Int)) = 8 * j := u64w (by omega)
    have e6 : IntKind.i64.wrap ((j : Int) + 1) = ((j + 1 : Nat) : Int) := by rw [i64w (by omega)]; omega
    simp only [e1, e2, e3, e4, e6, hlt, decide_true, if_true]
    rw [gd_pos (by omega), gd_pos (by omega), shr_byte (by omega), Int.toNat_natCast, hx, set_next (by omega)]
    exact hrec _ ⟨by simp only []; omega, by simp only []; omega, by simp only [Int.toNat_natCast]⟩ (by simp only []; omega)
  · have : i = n := by omega
    subst this
    simp [hx]
theorem wOk_nat {n : Nat} (h : n = 1 ∨ n = 2 ∨ n = 4 ∨ n = 8) : wOk (n : Int) = true := by rcases h with rfl | rfl | rfl | rfl <;> rfl
/-- a row of zeros, set as a whole -/
theorem set_whole {n : Nat} (h : n = 1 ∨ n = 2 ∨ n = 4 ∨ n = 8) (x : Int) : octets_Set (List.replicate n 0) 0 (n : Int) x = some (leB n x, 0) := by
  rw [octets_Set_eq (by simp; omega) (by omega)]
  unfold setS
  rw [wOk_nat h]
  have : insB (List.replicate n (0 : Int)).length 0 (n : Int) = true := by simp [insB]
  rw [this]
  simp
end Dm
