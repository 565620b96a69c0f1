/-
  Set, Cut, Meet of octets and its reference, over the shallow forms. Conditions: bytes from 0 to 255, numbers in their kinds' ranges, lengths at most 2^47.
-/
import Derived.Test.YtdigooncdjnfbaaOct
namespace Dm
open Go

/-- the bytes of a number, the lowest first -/
def leB : Nat → Int → List Int
  | 0, _ => []
  | n + 1, x => x % 256 :: leB n (x / 256)
theorem leB_length : ∀ (n : Nat) (x : Int), (leB n x).length = n
  | 0, _ => rfl
  | n + 1, x => by rw [leB, List.length_cons, leB_length n]
theorem leB_snoc : ∀ (n : Nat) (x : Int), leB (n + 1) x = leB n x ++ [x / 256 ^ n % 256]
  | 0, x => by simp [leB]
  | n + 1, x => by
    rw [leB, leB_snoc n, leB, List.cons_append]
    congr 3
    rw [Int.pow_succ, Int.mul_comm, ← Int.ediv_ediv_of_nonneg (by omega)]
theorem leB_bytes : ∀ (n : Nat) (x : Int), Bytes (leB n x)
  | 0, _ => by simp [leB, Bytes]
  | n + 1, x => by
    intro y hy
    rw [leB, List.mem_cons] at hy
    rcases hy with rfl | hy
    · omega
    · exact leB_bytes n _ y hy
theorem Bytes.append {a b : List Int} (ha : Bytes a) (hb : Bytes b) : Bytes (a ++ b) := fun x hx => by
  rw [List.mem_append] at hx; rcases hx with h | h
  · exact ha x h
  · exact hb x h
theorem shr_byte {x : Int} {j : Nat} (hj : j < 8) : IntKind.u8.wrap (shr .u64 x (8 * (j : Int))) = x / 256 ^ j % 256 := by
  unfold shr
  have e1 : ((8 * (j : Int)).toNat) = 8 * j := by omega
  rw [e1, Nat.min_eq_left (by simp [IntKind.bits]; omega), Int.fdiv_eq_ediv_of_nonneg _ (Int.pow_nonneg (by omega)), wrap_u8, Int.pow_mul]
  rfl
theorem set_mid (l r : List Int) (y v : Int) (n : Nat) (h : l.length = n) : (l ++ y :: r).set n v = l ++ v :: r := by
  subst h
  rw [List.set_append_right _ _ (Nat.le_refl _), Nat.sub_self, List.set_cons_zero]
theorem set_next {b : List Int} {p j : Nat} {x : Int} (h : p + j < b.length) : (b.take p ++ leB j x ++ b.drop (p + j)).set (p + j) (x / 256 ^ j % 256) = b.take p ++ leB (j + 1) x ++ b.drop (p + (j + 1)) := by
  rw [List.drop_eq_getElem_cons h, set_mid _ _ _ _ _ (by rw [List.length_append, List.length_take, leB_length]; omega), leB_snoc, List.append_assoc, List.append_assoc, List.append_assoc]
  rfl
theorem mid_length {b : List Int} {p j : Nat} {x : Int} (h : p + j ≤ b.length) : (b.take p ++ leB j x ++ b.drop (p + j)).length = b.length := by
  rw [List.length_append, List.length_append, List.length_take, List.length_drop, leB_length]; omega
def setS (b : List Int) (p n x : Int) : List Int × Int :=
  if wOk n then (if insB b.length p n then (b.take p.toNat ++ leB n.toNat x ++ b.drop (p.toNat + n.toNat), 0) else ([], 10)) else ([], 1)
theorem octets_Set_eq {b : List Int} (hb : b.length ≤ 140737488355328) {p n x : Int} (hp : 0 ≤ p) : octets_Set b p n x = some (setS b p n x) := by
  unfold octets_Set setS
  have hF := @lt_bigF
  generalize bigF = F at hF ⊢
  rw [bd_eq (octets_fits_eq (by omega) hp)]
  cases hw : wOk n
  · simp
  cases hi : insB b.length p n
  · simp
  have hn := wOk_cases hw
  simp only [insB, Bool.and_eq_true, decide_eq_true_eq] at hi
  simp only [if_true, bne_self_eq_false, Bool.false_eq_true, if_false]
  have hc : slices_Clone_byte_byte b = some b := by unfold slices_Clone_byte_byte; exact gd_pos (by omega)
  rw [bd_eq hc, jn_eq]
  obtain ⟨q, rfl⟩ := Int.eq_ofNat_of_zero_le hp
  refine loop_run (fun s => 0 ≤ s.2 ∧ s.2 ≤ n ∧ s.1 = b.take q ++ leB s.2.toNat x ++ b.drop (q + s.2.toNat)) (fun s => (n - s.2).toNat) ?_ F (b, 0) ⟨by simp, by simp; omega, by simp [leB]⟩ (hF (by simp; omega))
  rintro ⟨s, i⟩ rec ⟨h0, h1, hx⟩ hrec
  simp only at h0 h1 hx hrec ⊢
  by_cases hlt : i < n
  · obtain ⟨j, rfl⟩ := Int.eq_ofNat_of_zero_le h0
    simp only [Int.toNat_natCast] at hx
    have hlen := mid_length (b := b) (p := q) (j := j) (x := x) (by omega)
    rw [← hx] at hlen
    have e1 : IntKind.i64.wrap ((q : Int) : Int) = q := i64w (by omega)
    have e2 : IntKind.i64.wrap ((q : Int) + j) = ((q + j : Nat) : Int) := by rw [i64w (by omega)]; omega
    have e3 : IntKind.i64.wrap (8 * (j : Int)) = 8 * j := i64w (by omega)
    have e4 : IntKind.u64.wrap (8 * (j : Int)) = 8 * j := u64w (by omega)
    have e6 : IntKind.i64.wrap ((j : Int) + 1) = ((j + 1 : Nat) : Int) := by rw [i64w (by omega)]; omega
    simp only [e1, e2, e3, e4, e6, hlt, decide_true, if_true]
    rw [gd_pos (by omega), gd_pos (by omega), shr_byte (by omega), Int.toNat_natCast, hx, set_next (by omega)]
    exact hrec _ ⟨by simp only []; omega, by simp only []; omega, by simp only [Int.toNat_natCast]⟩ (by simp only []; omega)
  · have : i = n := by omega
    subst this
    simp [hx]
theorem div_pow_succ (x : Int) (j : Nat) : x / 256 ^ (j + 1) = x / 256 ^ j / 256 := by
  rw [Int.pow_succ, ← Int.ediv_ediv_of_nonneg (Int.pow_nonneg (by omega))]
theorem ref01_Set_eq {b : List Int} (hb : b.length ≤ 140737488355328) (hB : Bytes b) {p n x : Int} (hp : 0 ≤ p) (hx0 : 0 ≤ x) (hx1 : x ≤ 18446744073709551615) : ref01_Set b p n x = some (setS b p n x) := by
  unfold ref01_Set setS
  have hF := @lt_bigF
  generalize bigF = F at hF ⊢
  rw [bd_eq (ref01_Get_eq (by omega) hB hp)]
  unfold getS
  cases hw : wOk n
  · simp
  cases hi : insB b.length p n
  · simp
  have hn := wOk_cases hw
  simp only [insB, Bool.and_eq_true, decide_eq_true_eq] at hi
  simp only [if_true, bne_self_eq_false, Bool.false_eq_true, if_false]
  rw [gd_pos (by simp; omega), let1_eq, jn_eq, List.nil_append]
  obtain ⟨q, rfl⟩ := Int.eq_ofNat_of_zero_le hp
  refine loop_run (fun s => 0 ≤ s.2.2 ∧ s.2.2 ≤ n ∧ s.1 = x / 256 ^ s.2.2.toNat ∧ s.2.1 = b.take q ++ leB s.2.2.toNat x ++ b.drop (q + s.2.2.toNat)) (fun s => (n - s.2.2).toNat) ?_ F (x, b, 0) ⟨by simp, by simp; omega, by simp, by simp [leB]⟩ (hF (by simp; omega))
  rintro ⟨y, s, i⟩ rec ⟨h0, h1, hy, hx⟩ hrec
  simp only at h0 h1 hx hy hrec ⊢
  by_cases hlt : i < n
  · obtain ⟨j, rfl⟩ := Int.eq_ofNat_of_zero_le h0
    simp only [Int.toNat_natCast] at hx hy
    have hlen := mid_length (b := b) (p := q) (j := j) (x := x) (by omega)
    rw [← hx] at hlen
    have hy0 : 0 ≤ y := by rw [hy]; exact Int.ediv_nonneg hx0 (Int.pow_nonneg (by omega))
    have hy1 : y ≤ x := by rw [hy]; exact Int.ediv_le_self _ hx0
    have e1 : IntKind.i64.wrap ((q : Int) : Int) = q := i64w (by omega)
    have e2 : IntKind.i64.wrap ((q : Int) + j) = ((q + j : Nat) : Int) := by rw [i64w (by omega)]; omega
    have e6 : IntKind.i64.wrap ((j : Int) + 1) = ((j + 1 : Nat) : Int) := by rw [i64w (by omega)]; omega
    have e7 : Int.tdiv y 256 = y / 256 := Int.tdiv_eq_ediv_of_nonneg hy0
    have e8 : Int.tmod y 256 = y % 256 := Int.tmod_eq_emod_of_nonneg hy0
    have e9 : IntKind.u64.wrap (y / 256) = y / 256 := u64w (by omega)
    have e10 : IntKind.u8.wrap (y % 256) = y % 256 := u8w (by omega)
    simp only [e1, e2, e6, e7, e8, e9, e10, hlt, decide_true, if_true, let1_eq]
    rw [gd_pos (by omega), Int.toNat_natCast]
    refine hrec _ ⟨by simp only []; omega, by simp only []; omega, ?_, ?_⟩ (by simp only []; omega)
    · simp only [Int.toNat_natCast]; rw [div_pow_succ, hy]
    · simp only [Int.toNat_natCast]; rw [hx, hy, set_next (by omega)]
  · have : i = n := by omega
    subst this
    simp [hx]
def cutS (b : List Int) (p n : Int) : List Int × Int := if insB b.length p n then ((b.drop p.toNat).take n.toNat, 0) else ([], 10)
theorem octets_Cut_eq {b : List Int} (hb : b.length ≤ 140737488355328) {p n : Int} (hp : 0 ≤ p) (hn : 0 ≤ n) : octets_Cut b p n = some (cutS b p n) := by
  unfold octets_Cut cutS
  rw [bd_eq (octets_has_eq (by omega) hp)]
  cases hi : insB b.length p n
  · simp
  simp only [insB, Bool.and_eq_true, decide_eq_true_eq] at hi
  simp only [Bool.not_true, Bool.false_eq_true, if_false, if_true]
  rw [u64w (by omega), gd_pos (by omega)]
  have e : cutL b p (p + n) = (b.drop p.toNat).take n.toNat := by
    unfold cutL
    rw [List.drop_take]
    congr 1
    omega
  have hc : slices_Clone_byte_byte (cutL b p (p + n)) = some (cutL b p (p + n)) := by
    unfold slices_Clone_byte_byte; exact gd_pos (by rw [e, List.length_take, List.length_drop]; omega)
  rw [bd_eq hc, e]
theorem ref01_Cut_eq {b : List Int} (hb : b.length ≤ 140737488355328) {p n : Int} (hp : 0 ≤ p) (hn : 0 ≤ n) : ref01_Cut b p n = some (cutS b p n) := by
  unfold ref01_Cut cutS
  have hF := @lt_bigF
  generalize bigF = F at hF ⊢
  rw [bd_eq (ref01_Inside_eq (by omega) hp)]
  cases hi : insB b.length p n
  · simp
  simp only [insB, Bool.and_eq_true, decide_eq_true_eq] at hi
  simp only [Bool.not_true, Bool.false_eq_true, if_false, if_true]
  rw [jn_eq]
  obtain ⟨q, rfl⟩ := Int.eq_ofNat_of_zero_le hp
  refine loop_run (fun s => 0 ≤ s.2 ∧ s.2 ≤ n ∧ s.1 = (b.drop q).take s.2.toNat) (fun s => (n - s.2).toNat) ?_ F ([], 0) ⟨by simp, by simp; omega, by simp⟩ (hF (by simp; omega))
  rintro ⟨s, i⟩ rec ⟨h0, h1, hx⟩ hrec
  simp only at h0 h1 hx hrec ⊢
  by_cases hlt : i < n
  · obtain ⟨j, rfl⟩ := Int.eq_ofNat_of_zero_le h0
    simp only [Int.toNat_natCast] at hx
    have hlen : s.length = j := by rw [hx, List.length_take, List.length_drop]; omega
    have e2 : IntKind.u64.wrap ((q : Int) + j) = ((q + j : Nat) : Int) := by rw [u64w (by omega)]; omega
    have e6 : IntKind.u64.wrap ((j : Int) + 1) = ((j + 1 : Nat) : Int) := by rw [u64w (by omega)]; omega
    simp only [e2, e6, hlt, decide_true, if_true, let1_eq]
    rw [gd_pos (by omega), gd_pos (by simp only [List.length_cons, List.length_nil]; omega)]
    refine hrec _ ⟨by simp only []; omega, by simp only []; omega, ?_⟩ (by simp only []; omega)
    simp only [Int.toNat_natCast]
    rw [take_snoc (by omega), hx, gt_eq, Int.toNat_natCast]
  · have : i = n := by omega
    subst this
    simp [hx]
/-- a loop that turns each byte and forgets them -/
theorem flip_loop {ρ : Type} {r : Option ρ} {F : Nat} (hF : ∀ {n : Nat}, n ≤ 9223372036854775808 → n < F) (c : List Int) (hc : c.length ≤ 140737488355328) :
    loopK (fun (s3 : (List Int) × Int) rec1 =>
      (if (decide (s3.2 < ((s3.1.length : Nat) : Int))) = true then
        gd (0 ≤ s3.2 ∧ s3.2 < ((s3.1.length : Nat) : Int)) <|
        gd (0 ≤ s3.2 ∧ s3.2 < ((s3.1.length : Nat) : Int)) <|
        rec1 ((s3.1.set (s3.2).toNat (bxor .u8 (gt s3.1 s3.2) 255)), IntKind.i64.wrap (s3.2 + 1))
      else r)) F (c, 0) = r := by
  refine loop_run (fun s => 0 ≤ s.2 ∧ s.1.length = c.length) (fun s => ((c.length : Int) - s.2).toNat) ?_ F (c, 0) ⟨by simp, rfl⟩ (hF (by simp; omega))
  rintro ⟨s, i⟩ rec ⟨h0, hl⟩ hrec
  simp only at h0 hl hrec ⊢
  by_cases hlt : i < s.length
  · have e : IntKind.i64.wrap (i + 1) = i + 1 := i64w (by omega)
    simp only [decide_eq_true hlt, if_true]
    rw [gd_pos ⟨h0, hlt⟩, gd_pos ⟨h0, hlt⟩, e]
    exact hrec _ ⟨by simp only []; omega, by simp only [List.length_set]; exact hl⟩ (by simp only []; omega)
  · simp [hlt]
theorem Meet_eq {a m b n : Int} (ha : 0 ≤ a ∧ a ≤ 18446744073709551615) (hb : 0 ≤ b ∧ b ≤ 18446744073709551615) :
    octets_Meet a m b n = some (if a ≤ b then decide (n > 0) && decide (b - a < m) else decide (m > 0) && decide (a - b < n)) := by
  unfold octets_Meet
  simp only [jn_eq]
  by_cases h : a ≤ b
  · have h2 : ¬ a > b := by omega
    have e : IntKind.u64.wrap (b - a) = b - a := u64w (by omega)
    by_cases hn : n > 0 <;> simp [h, h2, hn, e]
  · have h2 : a > b := by omega
    have e : IntKind.u64.wrap (a - b) = a - b := u64w (by omega)
    by_cases hm : m > 0 <;> simp [h, h2, hm, e]
theorem ref_Meet_eq {a m b n : Int} (ha : 0 ≤ a ∧ a ≤ 18446744073709551615) (hb : 0 ≤ b ∧ b ≤ 18446744073709551615) :
    ref01_Meet a m b n = some (if m = 0 ∨ n = 0 then false else if a ≤ b then decide (b - a < m) else decide (a - b < n)) := by
  unfold ref01_Meet
  simp only [jn_eq]
  by_cases hm : m = 0
  · simp [hm]
  by_cases hn : n = 0
  · simp [hn]
  by_cases h : a ≤ b
  · have e : IntKind.u64.wrap (b - a) = b - a := u64w (by omega)
    simp [hm, hn, h, e]
  · have e : IntKind.u64.wrap (a - b) = a - b := u64w (by omega)
    simp [hm, hn, h, e]

end Dm
