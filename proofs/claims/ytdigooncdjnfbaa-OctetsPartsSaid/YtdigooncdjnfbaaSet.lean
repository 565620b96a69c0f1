/-
  Set of octets over the shallow form; numbers of bytes cut and joined. Conditions: bytes from 0 to 255, lengths at most 2^47.
-/
import Derived.Test.YtdigooncdjnfbaaOct
import Derived.Test.YtdigooncdjnfbaaFun
namespace Dm
open Go

/-- the bytes of a number, the lowest first -/
def leB : Nat → Int → List Int
  | 0, _ => []
  | n + 1, x => x % 256 :: leB n (x / 256)
theorem leB_length : ∀ (n : Nat) (x : Int), (leB n x).length = n
  | 0, _ => rfl
  | n + 1, x => by rw [leB, List.length_cons, leB_length n]
theorem leB_snoc : ∀ (n : Nat) (x : Int), leB (n + 1) x = leB n x ++ [x / 256 ^ n % 256]
  | 0, x => by simp [leB]
  | n + 1, x => by
    rw [leB, leB_snoc n, leB, List.cons_append]
    congr 3
    rw [Int.pow_succ, Int.mul_comm, ← Int.ediv_ediv_of_nonneg (by omega)]
theorem leB_bytes : ∀ (n : Nat) (x : Int), Bytes (leB n x)
  | 0, _ => by simp [leB, Bytes]
  | n + 1, x => by
    intro y hy
    rw [leB, List.mem_cons] at hy
    rcases hy with rfl | hy
    · omega
    · exact leB_bytes n _ y hy
theorem Bytes.append {a b : List Int} (ha : Bytes a) (hb : Bytes b) : Bytes (a ++ b) := fun x hx => by
  rw [List.mem_append] at hx; rcases hx with h | h
  · exact ha x h
  · exact hb x h
theorem bytes_of {b : List Int} (h : ∀ n ∈ b, InK .u8 n) : Bytes b := fun x hx => inK_u8 (h x hx)
theorem shr_byte {x : Int} {j : Nat} (hj : j < 8) : IntKind.u8.wrap (shr .u64 x (8 * (j : Int))) = x / 256 ^ j % 256 := by
  unfold shr
  have e1 : ((8 * (j : Int)).toNat) = 8 * j := by omega
  rw [e1, Nat.min_eq_left (by simp [IntKind.bits]; omega), Int.fdiv_eq_ediv_of_nonneg _ (Int.pow_nonneg (by omega)), wrap_u8, Int.pow_mul]
  rfl
theorem set_mid (l r : List Int) (y v : Int) (n : Nat) (h : l.length = n) : (l ++ y :: r).set n v = l ++ v :: r := by
  subst h
  rw [List.set_append_right _ _ (Nat.le_refl _), Nat.sub_self, List.set_cons_zero]
theorem set_next {b : List Int} {p j : Nat} {x : Int} (h : p + j < b.length) : (b.take p ++ leB j x ++ b.drop (p + j)).set (p + j) (x / 256 ^ j % 256) = b.take p ++ leB (j + 1) x ++ b.drop (p + (j + 1)) := by
  rw [List.drop_eq_getElem_cons h, set_mid _ _ _ _ _ (by rw [List.length_append, List.length_take, leB_length]; omega), leB_snoc, List.append_assoc, List.append_assoc, List.append_assoc]
  rfl
theorem mid_length {b : List Int} {p j : Nat} {x : Int} (h : p + j ≤ b.length) : (b.take p ++ leB j x ++ b.drop (p + j)).length = b.length := by
  rw [List.length_append, List.length_append, List.length_take, List.length_drop, leB_length]; omega
def setS (b : List Int) (p n x : Int) : List Int × Int :=
  if wOk n then (if insB b.length p n then (b.take p.toNat ++ leB n.toNat x ++ b.drop (p.toNat + n.toNat), 0) else ([], 10)) else ([], 1)
theorem octets_Set_eq {b : List Int} (hb : b.length ≤ 140737488355328) {p n x : Int} (hp : 0 ≤ p) : octets_Set b p n x = some (setS b p n x) := by
  unfold octets_Set setS
  have hF := @lt_bigF
  generalize bigF = F at hF ⊢
  rw [bd_eq (octets_fits_eq (by omega) hp)]
  cases hw : wOk n
  · simp
  cases hi : insB b.length p n
  · simp
  have hn := wOk_cases hw
  simp only [insB, Bool.and_eq_true, decide_eq_true_eq] at hi
  simp only [if_true, bne_self_eq_false, Bool.false_eq_true, if_false]
  have hc : slices_Clone_byte_byte b = some b := by unfold slices_Clone_byte_byte; exact gd_pos (by omega)
  rw [bd_eq hc, jn_eq]
  obtain ⟨q, rfl⟩ := Int.eq_ofNat_of_zero_le hp
  refine loop_run (fun s => 0 ≤ s.1 ∧ s.1 ≤ n ∧ s.2 = b.take q ++ leB s.1.toNat x ++ b.drop (q + s.1.toNat)) (fun s => (n - s.1).toNat) ?_ F (0, b) ⟨by simp, by simp; omega, by simp [leB]⟩ (hF (by simp; omega))
  rintro ⟨i, s⟩ rec ⟨h0, h1, hx⟩ hrec
  simp only at h0 h1 hx hrec ⊢
  by_cases hlt : i < n
  · obtain ⟨j, rfl⟩ := Int.eq_ofNat_of_zero_le h0
    simp only [Int.toNat_natCast] at hx
    have hlen := mid_length (b := b) (p := q) (j := j) (x := x) (by omega)
    rw [← hx] at hlen
    have e1 : IntKind.i64.wrap ((q : Int) : Int) = q := i64w (by omega)
    have e2 : IntKind.i64.wrap ((q : Int) + j) = ((q + j : Nat) : Int) := by rw [i64w (by omega)]; omega
    have e3 : IntKind.i64.wrap (8 * (j : Int)) = 8 * j := i64w (by omega)
    have e4 : IntKind.u64.wrap (8 * (j : Int)) = 8 * j := u64w (by omega)
    have e6 : IntKind.i64.wrap ((j : Int) + 1) = ((j + 1 : Nat) : Int) := by rw [i64w (by omega)]; omega
    simp only [e1, e2, e3, e4, e6, hlt, decide_true, if_true]
    rw [gd_pos (by omega), gd_pos (by omega), shr_byte (by omega), Int.toNat_natCast, hx, set_next (by omega)]
    exact hrec _ ⟨by simp only []; omega, by simp only []; omega, by simp only [Int.toNat_natCast]⟩ (by simp only []; omega)
  · have : i = n := by omega
    subst this
    simp [hx]
theorem wOk_nat {n : Nat} (h : n = 1 ∨ n = 2 ∨ n = 4 ∨ n = 8) : wOk (n : Int) = true := by rcases h with rfl | rfl | rfl | rfl <;> rfl
/-- a row of zeros, set as a whole -/
theorem set_whole {n : Nat} (h : n = 1 ∨ n = 2 ∨ n = 4 ∨ n = 8) (x : Int) : octets_Set (List.replicate n 0) 0 (n : Int) x = some (leB n x, 0) := by
  rw [octets_Set_eq (by simp; omega) (by omega)]
  unfold setS
  rw [wOk_nat h]
  have : insB (List.replicate n (0 : Int)).length 0 (n : Int) = true := by simp [insB]
  rw [this]
  simp
/-! bytes cut and joined -/
def cu (b : List Int) (p n : Nat) : List Int := (b.drop p).take n
theorem Bytes.cu {b : List Int} (h : Bytes b) (p n : Nat) : Bytes (cu b p n) := (h.drop p).take n
theorem cu_length {b : List Int} {p n : Nat} (h : p + n ≤ b.length) : (cu b p n).length = n := by
  unfold cu; rw [List.length_take, List.length_drop]; omega
theorem cu_bd {b : List Int} (h : Bytes b) {p n : Nat} (hn : p + n ≤ b.length) : 0 ≤ le (cu b p n) ∧ le (cu b p n) < 256 ^ n := by
  have := le_bd (h.cu p n); rwa [cu_length hn] at this
theorem le_append : ∀ (a b : List Int), le (a ++ b) = le a + 256 ^ a.length * le b
  | [], b => by simp [le]
  | x :: xs, b => by
    rw [List.cons_append, le, le, le_append xs b, List.length_cons, Int.pow_succ, Int.mul_add, Int.add_assoc, Int.mul_comm (256 ^ xs.length) 256, Int.mul_assoc]
theorem cu_add (b : List Int) (p m n : Nat) : cu b p (m + n) = cu b p m ++ cu b (p + m) n := by
  unfold cu; rw [List.take_add, List.drop_drop]
theorem le_cu_add {b : List Int} {p m n : Nat} (h : p + m ≤ b.length) : le (cu b p (m + n)) = le (cu b p m) + 256 ^ m * le (cu b (p + m) n) := by
  rw [cu_add, le_append, cu_length h]
theorem get_cu {b : List Int} (hb : b.length ≤ 9223372036854775807) (hB : Bytes b) {p n : Nat} (hn : n = 1 ∨ n = 2 ∨ n = 4 ∨ n = 8) (h : p + n ≤ b.length) : octets_Get b (p : Int) (n : Int) = some (le (cu b p n), 0) := by
  rw [octets_Get_eq hb hB (by omega)]
  unfold getS
  have hi : insB b.length (p : Int) (n : Int) = true := by simp [insB]; omega
  rw [wOk_nat hn, hi]; rfl
theorem rget_cu {b : List Int} (hb : b.length ≤ 9223372036854775807) (hB : Bytes b) {p n : Nat} (hn : n = 1 ∨ n = 2 ∨ n = 4 ∨ n = 8) (h : p + n ≤ b.length) : ref01_Get b (p : Int) (n : Int) = some (le (cu b p n), 0) := by
  rw [ref01_Get_eq hb hB (by omega)]
  unfold getS
  have hi : insB b.length (p : Int) (n : Int) = true := by simp [insB]; omega
  rw [wOk_nat hn, hi]; rfl
theorem get1 {b : List Int} (hb : b.length ≤ 9223372036854775807) (hB : Bytes b) {p : Nat} (h : p + 1 ≤ b.length) : octets_Get b (p : Int) 1 = some (le (cu b p 1), 0) := get_cu (n := 1) hb hB (by omega) h
theorem rget1 {b : List Int} (hb : b.length ≤ 9223372036854775807) (hB : Bytes b) {p : Nat} (h : p + 1 ≤ b.length) : ref01_Get b (p : Int) 1 = some (le (cu b p 1), 0) := rget_cu (n := 1) hb hB (by omega) h
theorem set1 (x : Int) : octets_Set (List.replicate (Int.toNat 1) (0 : Int)) 0 1 x = some (leB 1 x, 0) := set_whole (n := 1) (by omega) x
theorem get2 {b : List Int} (hb : b.length ≤ 9223372036854775807) (hB : Bytes b) {p : Nat} (h : p + 2 ≤ b.length) : octets_Get b (p : Int) 2 = some (le (cu b p 2), 0) := get_cu (n := 2) hb hB (by omega) h
theorem rget2 {b : List Int} (hb : b.length ≤ 9223372036854775807) (hB : Bytes b) {p : Nat} (h : p + 2 ≤ b.length) : ref01_Get b (p : Int) 2 = some (le (cu b p 2), 0) := rget_cu (n := 2) hb hB (by omega) h
theorem set2 (x : Int) : octets_Set (List.replicate (Int.toNat 2) (0 : Int)) 0 2 x = some (leB 2 x, 0) := set_whole (n := 2) (by omega) x
theorem get4 {b : List Int} (hb : b.length ≤ 9223372036854775807) (hB : Bytes b) {p : Nat} (h : p + 4 ≤ b.length) : octets_Get b (p : Int) 4 = some (le (cu b p 4), 0) := get_cu (n := 4) hb hB (by omega) h
theorem rget4 {b : List Int} (hb : b.length ≤ 9223372036854775807) (hB : Bytes b) {p : Nat} (h : p + 4 ≤ b.length) : ref01_Get b (p : Int) 4 = some (le (cu b p 4), 0) := rget_cu (n := 4) hb hB (by omega) h
theorem set4 (x : Int) : octets_Set (List.replicate (Int.toNat 4) (0 : Int)) 0 4 x = some (leB 4 x, 0) := set_whole (n := 4) (by omega) x
theorem get8 {b : List Int} (hb : b.length ≤ 9223372036854775807) (hB : Bytes b) {p : Nat} (h : p + 8 ≤ b.length) : octets_Get b (p : Int) 8 = some (le (cu b p 8), 0) := get_cu (n := 8) hb hB (by omega) h
theorem rget8 {b : List Int} (hb : b.length ≤ 9223372036854775807) (hB : Bytes b) {p : Nat} (h : p + 8 ≤ b.length) : ref01_Get b (p : Int) 8 = some (le (cu b p 8), 0) := rget_cu (n := 8) hb hB (by omega) h
theorem set8 (x : Int) : octets_Set (List.replicate (Int.toNat 8) (0 : Int)) 0 8 x = some (leB 8 x, 0) := set_whole (n := 8) (by omega) x
theorem flat_len (n : Nat) : ∀ l : List Int, ((l.map (leB n)).flatten).length = n * l.length
  | [] => rfl
  | x :: xs => by rw [List.map_cons, List.flatten_cons, List.length_append, leB_length, flat_len n xs, List.length_cons, Nat.mul_succ, Nat.add_comm]
theorem cu_left {a c : List Int} {p n : Nat} (h : p + n ≤ a.length) : cu (a ++ c) p n = cu a p n := by
  unfold cu; rw [List.drop_append_of_le_length (by omega), List.take_append_of_le_length (by rw [List.length_drop]; omega)]
theorem cu_right {a c : List Int} {p n : Nat} (h : p = a.length) : cu (a ++ c) p n = c.take n := by
  subst h; unfold cu; rw [List.drop_left]
theorem cu_right' {a c : List Int} {p n : Nat} (h : a.length ≤ p) : cu (a ++ c) p n = cu c (p - a.length) n := by
  unfold cu; rw [List.drop_append, List.drop_eq_nil_of_le h, List.nil_append]
theorem le_leB : ∀ {n : Nat} {x : Int}, 0 ≤ x → x < 256 ^ n → le (leB n x) = x
  | 0, x, h0, h1 => by simp only [Int.pow_zero] at h1; simp only [leB, le]; omega
  | n + 1, x, h0, h1 => by
    rw [Int.pow_succ] at h1
    rw [leB, le, le_leB (by omega) (by omega)]; omega
theorem leB_le : ∀ {b : List Int}, Bytes b → leB b.length (le b) = b
  | [], _ => rfl
  | x :: xs, h => by
    have hx := h x (by simp)
    rw [List.length_cons, leB, le]
    have e1 : (x + 256 * le xs) % 256 = x := by omega
    have e2 : (x + 256 * le xs) / 256 = le xs := by omega
    rw [e1, e2, leB_le fun y hy => h y (by simp [hy])]
theorem toStr_inj {a b : List Int} (h : toStr a = toStr b) (ha : Bytes a) (hb : Bytes b) : a = b := by
  have key : ∀ {l : List Int}, Bytes l → (toStr l).map (fun u => (u.toNat : Int)) = l := by
    intro l hl
    unfold toStr
    rw [List.map_map]
    conv => rhs; rw [← List.map_id l]
    apply List.map_congr_left
    intro x hx
    have := hl x hx
    simp only [Function.comp, id, UInt8.toNat_ofNat']
    omega
  rw [← key ha, ← key hb, h]
theorem toStr_beq {a b : List Int} (ha : Bytes a) (hb : Bytes b) : (toStr a == toStr b) = decide (a = b) := by
  rw [Bool.eq_iff_iff, beq_iff_eq, decide_eq_true_eq]
  exact ⟨fun h => toStr_inj h ha hb, fun h => by rw [h]⟩
/-- two numbers side by side -/
theorem bor_two {x c : Int} {k : Nat} (hk : k ≤ 64) (hx0 : 0 ≤ x) (hx : x < 2 ^ k) (hc0 : 0 ≤ c) (hc : c < 2 ^ (64 - k)) : bor .u64 x (shl .u64 c (k : Int)) = x + c * 2 ^ k := by
  obtain ⟨a, rfl⟩ := Int.eq_ofNat_of_zero_le hx0
  obtain ⟨b, rfl⟩ := Int.eq_ofNat_of_zero_le hc0
  have ha : a < 2 ^ k := by exact_mod_cast hx
  have hb : b < 2 ^ (64 - k) := by exact_mod_cast hc
  have hmul : b * 2 ^ k + 2 ^ k ≤ 2 ^ 64 := by
    have h1 : (b + 1) * 2 ^ k ≤ 2 ^ (64 - k) * 2 ^ k := Nat.mul_le_mul_right _ hb
    rw [← Nat.pow_add, Nat.sub_add_cancel hk, Nat.add_mul, Nat.one_mul] at h1
    exact h1
  have hpos : 0 < (2 : Nat) ^ k := Nat.two_pow_pos _
  have h64 : (2 : Nat) ^ 64 = 18446744073709551616 := rfl
  have hs : shl .u64 (b : Int) (k : Int) = ((b * 2 ^ k : Nat) : Int) := by
    unfold shl
    rw [Int.toNat_natCast, Nat.min_eq_left (show k ≤ IntKind.u64.bits from hk)]
    have : ((b : Int) * 2 ^ k) = ((b * 2 ^ k : Nat) : Int) := by rw [Int.natCast_mul, Int.natCast_pow]; rfl
    rw [this, u64w]
    constructor
    · omega
    · omega
  rw [hs, bor_nat .u64 rfl (by omega) (by simp [IntKind.bits]; omega) (by omega) (by simp only [IntKind.bits]; omega)]
  simp only [Int.toNat_natCast]
  rw [Nat.or_comm, ← Nat.shiftLeft_eq, ← Nat.shiftLeft_add_eq_or_of_lt ha, Nat.shiftLeft_eq]
  rw [Int.natCast_add, Int.natCast_mul, Int.natCast_pow]
  exact Int.add_comm _ _

end Dm
