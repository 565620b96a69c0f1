/-
  What the shallow forms of notes and of its reference come to. Conditions: bytes from 0 to 255, numbers that fit, lengths that the laws allow.
-/
import Derived.Test.YtmlghbdlhjinaaaNot
import Derived.Test.YtmlghbdlhjinaaaFunB
import Derived.KernelRfl
namespace Dm
open Go

theorem law08_awake_true : law08_awake = some true := by kernel_rfl
theorem bandn_pow {x k : Nat} (hx : x < 2 ^ 64) (hk : k < 64) : bandn .u64 (x : Int) (((2 ^ k - 1 : Nat)) : Int) = ((x / 2 ^ k * 2 ^ k : Nat) : Int) := by
  have hpk : (2 : Nat) ^ k < 2 ^ 64 := Nat.pow_lt_pow_right (by omega) hk
  have h64 : (2 : Nat) ^ 64 = 18446744073709551616 := by decide
  have e : ((BitVec.ofInt 64 (x : Int) &&& ~~~(BitVec.ofInt 64 ((2 ^ k - 1 : Nat) : Int))).toNat) = x / 2 ^ k * 2 ^ k := by
    apply Nat.eq_of_testBit_eq
    intro i
    rw [BitVec.testBit_toNat, BitVec.getLsbD_and, BitVec.getLsbD_not, BitVec.getLsbD, BitVec.getLsbD, ofInt_toNat (by omega) (by omega), ofInt_toNat (by omega) (by omega), Int.toNat_natCast, Int.toNat_natCast, Nat.testBit_two_pow_sub_one, Nat.testBit_mul_two_pow, Nat.testBit_div_two_pow]
    by_cases h : k ≤ i
    · have h2 : ¬ i < k := by omega
      have h3 : i - k + k = i := by omega
      by_cases h4 : i < 64
      · simp [h, h2, h3, h4]
      · have : x.testBit i = false := Nat.testBit_lt_two_pow (Nat.lt_of_lt_of_le hx (Nat.pow_le_pow_right (by omega) (by omega)))
        simp [h, h2, h3, this]
    · have h2 : i < k := by omega
      simp [h, h2]
  unfold bandn
  have hb : IntKind.u64.bits = 64 := rfl
  rw [hb, e, u64w]
  have := Nat.div_mul_le_self x (2 ^ k)
  omega
theorem bandn3 {n : Nat} (h : n ≤ 9223372036854775807) : bandn .u64 (IntKind.u64.wrap ((n : Int) + 3)) 3 = ((upN n : Nat) : Int) := by
  rw [u64w (by omega)]
  have := bandn_pow (x := n + 3) (k := 2) (by omega) (by omega)
  rw [show ((n : Int) + 3) = ((n + 3 : Nat) : Int) by omega]
  exact this
theorem band_low (x : Int) (n : Nat) (m : Int) (hn : n ≤ 8) (hm : m = ((2 ^ n - 1 : Nat) : Int)) : band .i64 x m = x % ((2 ^ n : Nat) : Int) := by
  have hp : (2 : Nat) ^ n ≤ 256 := Nat.pow_le_pow_right (n := 2) (by omega) hn
  have hp0 : 0 < (2 : Nat) ^ n := Nat.two_pow_pos _
  have hm2 : (BitVec.ofInt IntKind.i64.bits m).toNat = 2 ^ n - 1 := by
    rw [ofInt_toNat (by omega) (by simp only [IntKind.bits]; omega), hm, Int.toNat_natCast]
  have hd : ((2 ^ n : Nat) : Int) ∣ (18446744073709551616 : Int) := by
    refine ⟨((2 ^ (64 - n) : Nat) : Int), ?_⟩
    rw [← Int.natCast_mul, ← Nat.pow_add, show n + (64 - n) = 64 by omega]; rfl
  have hmod : (x % 18446744073709551616) % ((2 ^ n : Nat) : Int) = x % ((2 ^ n : Nat) : Int) := Int.emod_emod_of_dvd x hd
  unfold band
  rw [BitVec.toNat_and, hm2, Nat.and_two_pow_sub_one_eq_mod, BitVec.toNat_ofInt]
  have h64 : ((2 ^ IntKind.i64.bits : Nat) : Int) = 18446744073709551616 := rfl
  rw [h64]
  have hx0 : 0 ≤ x % 18446744073709551616 := by omega
  have e : (((x % 18446744073709551616).toNat % 2 ^ n : Nat) : Int) = x % ((2 ^ n : Nat) : Int) := by
    rw [Int.natCast_emod, Int.toNat_of_nonneg hx0, hmod]
  rw [e]
  have h1 : 0 ≤ x % ((2 ^ n : Nat) : Int) := Int.emod_nonneg _ (by omega)
  have h2 : x % ((2 ^ n : Nat) : Int) < ((2 ^ n : Nat) : Int) := Int.emod_lt_of_pos _ (by omega)
  exact i64w (by omega)
theorem notes_four_eq {x : Int} (h : 0 ≤ x ∧ x < 18446744073709551616) : notes_four x = some (leB 4 x) := by
  unfold notes_four
  rw [gd_pos (by omega), u64w h, bd_eq (set4 x)]
theorem notes_fill_eq {n : Nat} (h : n ≤ 1000000) : notes_fill (n : Int) = some (zs n) := by
  have e : band .i64 (IntKind.i64.wrap (0 - (n : Int))) 3 = ((upN n - n : Nat) : Int) := by
    rw [i64w (by omega), band_low _ 2 3 (by omega) rfl]; unfold upN; omega
  unfold notes_fill
  rw [e, gd_pos (by have := upN_lt n; omega), Int.toNat_natCast]; rfl
/-! loops -/
theorem scan_any {α ρ : Type} (l : List α) (hl : l.length ≤ 9223372036854775807) (p : α → Bool) (r0 R : Option ρ) {body : Int → (Int → Option ρ) → Option ρ}
    (h : ∀ (i : Nat) rec (hi : i < l.length), body (i : Int) rec = if p l[i] then r0 else rec ((i + 1 : Nat) : Int))
    (h1 : ∀ rec, body (l.length : Int) rec = R) : loopK body bigF 0 = if l.any p then r0 else R := by
  refine loop_to (fun i => (i : Int)) (fun i => if (l.drop i).any p then r0 else R) l.length rfl rfl hl ?_
  intro i rec hi hrec
  by_cases hlt : i < l.length
  · rw [h i rec hlt, List.drop_eq_getElem_cons hlt, List.any_cons]
    cases hp : p l[i]
    · simpa using hrec hlt
    · simp
  · obtain rfl : i = l.length := by omega
    rw [h1, List.drop_length]; rfl
theorem scan_rng {ρ : Type} (lo n : Nat) (hn : lo + n ≤ 9223372036854775807) (bad : Nat → Bool) (r0 R : Option ρ) {body : Int → (Int → Option ρ) → Option ρ}
    (h : ∀ (i : Nat) rec, i < n → body ((lo + i : Nat) : Int) rec = if bad i then r0 else rec ((lo + (i + 1) : Nat) : Int))
    (h1 : ∀ rec, body ((lo + n : Nat) : Int) rec = R) : loopK body bigF (lo : Int) = if (List.range n).any bad then r0 else R := by
  refine loop_to (fun i => ((lo + i : Nat) : Int)) (fun i => if ((List.range n).drop i).any bad then r0 else R) n rfl rfl (by omega) ?_
  intro i rec hi hrec
  by_cases hlt : i < n
  · have hl : i < (List.range n).length := by rw [List.length_range]; exact hlt
    rw [h i rec hlt, List.drop_eq_getElem_cons hl, List.any_cons, List.getElem_range]
    cases hp : bad i
    · simpa using hrec hlt
    · simp
  · obtain rfl : i = n := by omega
    rw [h1, List.drop_eq_nil_of_le (by rw [List.length_range]; omega)]; rfl
theorem flatten_take_le {rows : List (List Int)} (j : Nat) : ((rows.take j).flatten).length ≤ rows.flatten.length := by
  conv => rhs; rw [← List.take_append_drop j rows]
  rw [List.flatten_append, List.length_append]; omega
theorem flatten_take_succ {rows : List (List Int)} {j : Nat} (h : j < rows.length) : (rows.take (j + 1)).flatten = (rows.take j).flatten ++ rows[j] := by
  rw [List.take_succ_eq_append_getElem h, List.flatten_append]; simp
/-- a loop that puts rows behind one another -/
theorem cat_loop {ρ : Type} (rows : List (List Int)) (a : List Int) (hr : rows.length ≤ 9223372036854775807) (hb : a.length + rows.flatten.length ≤ 140737488355328) {R : Option ρ} {body : (List Int) × Int → ((List Int) × Int → Option ρ) → Option ρ}
    (h : ∀ (j : Nat) (s : List Int) rec (hj : j < rows.length), s.length + rows[j].length ≤ 140737488355328 → body (s, (j : Int)) rec = rec (s ++ rows[j], ((j + 1 : Nat) : Int)))
    (h1 : ∀ rec, body (a ++ rows.flatten, (rows.length : Int)) rec = R) : loopK body bigF (a, 0) = R := by
  refine loop_at (fun j => (a ++ (rows.take j).flatten, (j : Int))) rows.length (by simp) hr ?_
  intro j rec hj hrec
  by_cases hlt : j < rows.length
  · have hs := flatten_take_succ hlt
    have hle := flatten_take_le (rows := rows) (j + 1)
    rw [hs, List.length_append] at hle
    have hrec := hrec hlt
    rw [hs, ← List.append_assoc] at hrec
    rw [h j _ rec hlt (by rw [List.length_append]; omega)]
    exact hrec
  · obtain rfl : j = rows.length := by omega
    rw [List.take_of_length_le (Nat.le_refl _)]
    exact h1 rec
/-! put -/
def putR (l : List Note) : List Int × Int := if l.any (fun x => hasB x.1 0) then ([], 1) else if ((l.map nput).flatten).length > 65536 then ([], 13) else ((l.map nput).flatten, 0)
theorem nputs_take_succ {l : List Note} {i : Nat} (h : i < l.length) : ((l.take (i + 1)).map nput).flatten = ((l.take i).map nput).flatten ++ nput l[i] := by
  rw [List.take_succ_eq_append_getElem h, List.map_append, List.flatten_append]; simp
theorem nputs_take_le (l : List Note) (i : Nat) : (((l.take i).map nput).flatten).length ≤ ((l.map nput).flatten).length := by
  rw [List.map_take]; exact flatten_take_le i
def SzN (m : Nat) (x : Note) : Prop := x.1.length ≤ m ∧ x.2.2.length ≤ m ∧ 0 ≤ x.2.1 ∧ x.2.1 < 4294967296
theorem nput_rows (x : Note) : nput x = [leB 4 ((x.1.length + 1 : Nat) : Int), leB 4 (x.2.2.length : Int), leB 4 x.2.1, ofStr x.1 ++ [0], zs (x.1.length + 1), x.2.2, zs x.2.2.length].flatten := by
  unfold nput; simp
theorem notes_Put_eq {l : List Note} (hl : l.length ≤ 1000000) (hw : ∀ x ∈ l, SzN 70000 x) : notes_Put l = some (putR l) := by
  unfold notes_Put putR
  rw [jn_eq]
  rw [scan_any l (by omega) (fun x => hasB x.1 0) (some ([], 1)) (some (if ((l.map nput).flatten).length > 65536 then ([], 13) else ((l.map nput).flatten, 0))) ?_ ?_]
  · split <;> rfl
  · intro i rec hi
    rw [dif_lt hi, if_pos rfl, gd_pos (by omega), gt_nat hi, i64s (by omega), bd_eq (show strings_Contains l[i].1 [0] = some (hasB l[i].1 0) from rfl)]
  · intro rec
    rw [dif_ge (Nat.le_refl _), if_neg (by simp), jn_eq]
    refine loop_toP (fun i => (((l.take i).map nput).flatten, (i : Int))) (fun _ => _) (fun i => (((l.take i).map nput).flatten).length ≤ 65536) l.length rfl (by simp) rfl (by omega) ?_
    intro i rec hi hP hrec
    dsimp only at hrec ⊢
    by_cases hlt : i < l.length
    · obtain ⟨s1, s2, s3, s4⟩ := hw _ (List.getElem_mem hlt)
      have hn := nput_length l[i]
      have u1 := upN_lt (l[i].1.length + 1)
      have u2 := upN_lt l[i].2.2.length
      have hts := nputs_take_succ hlt
      have htl := nputs_take_le l (i + 1)
      have e4 : IntKind.i64.wrap l[i].2.1 = l[i].2.1 := i64w (by omega)
      have el : ((ofStr l[i].1 ++ ([0] : List Int)).length) = l[i].1.length + 1 := by rw [List.length_append, ofStr_length]; rfl
      rw [dif_lt hlt, if_pos rfl, jn_eq, gd_pos (by omega), gt_nat hlt, gd_pos (by omega), gd_pos (by rw [ofStr_length]; simp; omega), el, e4, bd_eq (notes_four_eq (by omega)), bd_eq (notes_four_eq (by omega)), bd_eq (notes_four_eq (by omega)), bd_eq (notes_fill_eq (by omega)), bd_eq (notes_fill_eq (by omega)), jn_eq, i64s (by omega)]
      have hr := nput_rows l[i]
      generalize hrows : [leB 4 ((l[i].1.length + 1 : Nat) : Int), leB 4 (l[i].2.2.length : Int), leB 4 l[i].2.1, ofStr l[i].1 ++ [0], zs (l[i].1.length + 1), l[i].2.2, zs l[i].2.2.length] = rows at hr
      have h7 : rows.length = 7 := by rw [← hrows]; rfl
      refine cat_loop rows _ (by omega) (by rw [← hr]; omega) ?_ ?_
      · intro j s rec2 hj hb
        dsimp only
        rw [dif_lt hj, if_pos rfl, gd_pos (by omega), gt_nat hj, gd_pos (by omega), i64s (by omega)]
      · intro rec2
        dsimp only
        rw [dif_ge (Nat.le_refl _), if_neg (by simp), ← hr, ← hts]
        by_cases h6 : (((l.take (i + 1)).map nput).flatten).length > 65536
        · rw [if_pos (by rw [decide_eq_true_eq]; omega), if_pos (by omega)]
        · rw [if_neg (by rw [decide_eq_true_eq]; omega)]
          exact hrec hlt (by omega)
    · obtain rfl : i = l.length := by omega
      rw [dif_ge (by omega), if_neg (by simp), List.take_of_length_le (Nat.le_refl _)]
      rw [List.take_of_length_le (Nat.le_refl _)] at hP
      rw [if_neg (by omega)]

theorem ref08_four_eq {b : List Int} (hb : b.length ≤ 1000000) {x : Int} (hx : 0 ≤ x) (hx1 : x ≤ 18446744073709551615) : ref08_four b x = some (b ++ leB 4 x) := by
  unfold ref08_four
  rw [jn_eq]
  refine loop_at (fun i => (b ++ leB i x, x / 256 ^ i, (i : Int))) 4 (by simp [leB]) (by omega) ?_
  intro i rec hi hrec
  by_cases hlt : i < 4
  · have hc : decide ((i : Int) < 4) = true := by simp; omega
    simp only [hc, if_true, let1_eq]
    have h0 : 0 ≤ x / 256 ^ i := Int.ediv_nonneg hx (Int.pow_nonneg (by omega))
    have h1 : x / 256 ^ i ≤ x := Int.ediv_le_self _ hx
    generalize hy : x / 256 ^ i = y at h0 h1
    have e7 : Int.tdiv y 256 = y / 256 := Int.tdiv_eq_ediv_of_nonneg h0
    have e8 : Int.tmod y 256 = y % 256 := Int.tmod_eq_emod_of_nonneg h0
    have e9 : IntKind.u64.wrap (y / 256) = y / 256 := u64w (by omega)
    have e10 : IntKind.u8.wrap (y % 256) = y % 256 := u8w (by omega)
    rw [gd_pos (by simp only [List.length_append, leB_length, List.length_cons, List.length_nil]; omega), e7, e8, e9, e10, i64s (by omega)]
    have := hrec hlt
    rw [leB_snoc, Int.pow_succ, ← Int.ediv_ediv_of_nonneg (Int.pow_nonneg (by omega)), hy] at this
    rw [List.append_assoc]; exact this
  · obtain rfl : i = 4 := by omega
    simp
theorem upN_mod (n : Nat) : upN n % 4 = 0 := by unfold upN; omega
theorem ref08_padded_eq {b : List Int} (hb : b.length ≤ 1000000) : ref08_padded b = some (b ++ zs b.length) := by
  have u1 := upN_lt b.length
  have u2 := upN_le b.length
  have u3 := upN_mod b.length
  unfold ref08_padded
  rw [jn_eq]
  refine loop_at (fun i => b ++ List.replicate i 0) (upN b.length - b.length) (by simp) (by omega) ?_
  intro i rec hi hrec
  dsimp only at hrec ⊢
  have hl : (b ++ List.replicate i (0 : Int)).length = b.length + i := by rw [List.length_append, List.length_replicate]
  rw [hl, show Int.tmod ((b.length + i : Nat) : Int) 4 = (((b.length + i) % 4 : Nat) : Int) by rw [Int.tmod_eq_emod_of_nonneg (by omega)]; omega]
  by_cases hlt : i < upN b.length - b.length
  · have h4 : (b.length + i) % 4 ≠ 0 := by unfold upN at hlt; omega
    have hrec := hrec hlt
    rw [List.replicate_succ', ← List.append_assoc] at hrec
    rw [if_pos (by rw [bne_iff_ne]; omega), gd_pos (by simp; omega)]
    exact hrec
  · obtain rfl : i = upN b.length - b.length := by omega
    rw [if_neg (by rw [bne_iff_ne]; omega)]; rfl
theorem nputs_mod : ∀ l : List Note, ((l.map nput).flatten).length % 4 = 0
  | [] => rfl
  | x :: l => by
    have h1 := nputs_mod l
    have h2 := nput_length x
    have h3 := upN_mod (x.1.length + 1)
    have h4 := upN_mod x.2.2.length
    rw [List.map_cons, List.flatten_cons, List.length_append]; omega
theorem nputs_len_le {m : Nat} : ∀ l : List Note, (∀ x ∈ l, SzN m x) → ((l.map nput).flatten).length ≤ (2 * m + 20) * l.length
  | [], _ => by simp
  | x :: l, h => by
    have h1 := nputs_len_le l fun y hy => h y (by simp [hy])
    have h2 := nput_length x
    have h3 := upN_lt (x.1.length + 1)
    have h4 := upN_lt x.2.2.length
    obtain ⟨s1, s2, _⟩ := h x (by simp)
    rw [List.map_cons, List.flatten_cons, List.length_append, List.length_cons, Nat.mul_succ]; omega
theorem zs_mod {a n : Nat} (h : a % 4 = 0) : zs (a + n) = zs n := by
  unfold zs upN
  congr 1; omega
theorem ref08_Put_eq {l : List Note} (hl : l.length ≤ 20) (hw : ∀ x ∈ l, SzN 500 x) : ref08_Put l = some (putR l) := by
  have hall := nputs_len_le l hw
  have hall2 : (2 * 500 + 20) * l.length ≤ 20400 := Nat.mul_le_mul_left 1020 hl
  unfold ref08_Put putR
  rw [jn_eq]
  rw [scan_any l (by omega) (fun x => hasB x.1 0) (some ([], 1)) (some (if ((l.map nput).flatten).length > 65536 then ([], 13) else ((l.map nput).flatten, 0))) ?_ ?_]
  · split <;> rfl
  · intro i rec hi
    obtain ⟨s1, s2, s3, s4⟩ := hw _ (List.getElem_mem hi)
    rw [dif_lt hi, if_pos rfl, jn_eq, jn_eq, gt_nat hi, i64s (by omega)]
    refine scan_any l[i].1 (by omega) (fun c => c == 0) (some ([], 1)) _ ?_ ?_
    · intro j rec2 hj
      have e : ((((l[i].1).getD (Int.toNat (j : Int)) 0).toNat : Int) == 0) = (l[i].1[j] == 0) := by
        rw [Int.toNat_natCast, List.getD_eq_getElem?_getD, List.getElem?_eq_getElem hj]
        show (((l[i].1[j]).toNat : Int) == 0) = _
        rw [Bool.eq_iff_iff, beq_iff_eq, beq_iff_eq, ← UInt8.toNat_inj]
        show _ ↔ _ = 0
        omega
      rw [gd_pos (by omega), dif_lt hj, if_pos rfl, gd_pos (by omega), gd_pos (by omega), e, let1_eq, i64s (by omega)]
    · intro rec2
      rw [gd_pos (by omega), dif_ge (Nat.le_refl _), if_neg (by simp), let1_eq]
  · intro rec
    rw [dif_ge (Nat.le_refl _), if_neg (by simp), jn_eq]
    refine loop_at (fun i => (((l.take i).map nput).flatten, (i : Int))) l.length (by simp) (by omega) ?_
    intro i rec hi hrec
    dsimp only at hrec ⊢
    by_cases hlt : i < l.length
    · obtain ⟨s1, s2, s3, s4⟩ := hw _ (List.getElem_mem hlt)
      have hts := nputs_take_succ hlt
      have htl := nputs_take_le l (i + 1)
      have hm := nputs_mod (l.take i)
      have hn := nput_length l[i]
      have u1 := upN_lt (l[i].1.length + 1)
      have u2 := upN_lt l[i].2.2.length
      have u3 := upN_mod (l[i].1.length + 1)
      have u4 := upN_le (l[i].1.length + 1)
      have hrec := hrec hlt
      rw [hts] at hrec htl
      rw [List.length_append] at htl
      generalize ((l.take i).map nput).flatten = a at hm hrec htl
      have e1 : IntKind.u64.wrap (IntKind.i64.wrap (((l[i].1.length : Nat) : Int) + 1)) = ((l[i].1.length + 1 : Nat) : Int) := by rw [i64w (by omega), u64w (by omega)]; omega
      have e2 : IntKind.u64.wrap ((l[i].2.2.length : Nat) : Int) = ((l[i].2.2.length : Nat) : Int) := u64w (by omega)
      have e3 : IntKind.u64.wrap l[i].2.1 = l[i].2.1 := u64w (by omega)
      rw [dif_lt hlt, if_pos rfl, gd_pos (by omega), gt_nat hlt, e1, e2, e3, bd_eq (ref08_four_eq (by omega) (by omega) (by omega)), gd_pos (by omega),
        bd_eq (ref08_four_eq (by rw [List.length_append, leB_length]; omega) (by omega) (by omega)), gd_pos (by omega), bd_eq (ref08_four_eq (by simp only [List.length_append, leB_length]; omega) (by omega) (by omega)), gd_pos (by omega),
        gd_pos (by simp only [List.length_append, leB_length]; omega), gd_pos (by simp only [List.length_append, leB_length, ofStr_length, List.length_cons, List.length_nil]; omega),
        bd_eq (ref08_padded_eq (by simp only [List.length_append, leB_length, ofStr_length, List.length_cons, List.length_nil]; omega))]
      have z1 : zs (a ++ leB 4 ((l[i].1.length + 1 : Nat) : Int) ++ leB 4 ((l[i].2.2.length : Nat) : Int) ++ leB 4 l[i].2.1 ++ ofStr l[i].1 ++ ([0] : List Int)).length = zs (l[i].1.length + 1) := by
        simp only [List.length_append, leB_length, ofStr_length, List.length_cons, List.length_nil]
        rw [show a.length + 4 + 4 + 4 + l[i].1.length + (0 + 1) = (a.length + 12) + (l[i].1.length + 1) by omega, zs_mod (by omega)]
      rw [z1]
      rw [gd_pos (by omega), gd_pos (by simp only [List.length_append, leB_length, ofStr_length, List.length_cons, List.length_nil, zs_length]; omega),
        bd_eq (ref08_padded_eq (by simp only [List.length_append, leB_length, ofStr_length, List.length_cons, List.length_nil, zs_length]; omega)), let1_eq, i64s (by omega)]
      have z2 : zs (a ++ leB 4 ((l[i].1.length + 1 : Nat) : Int) ++ leB 4 ((l[i].2.2.length : Nat) : Int) ++ leB 4 l[i].2.1 ++ ofStr l[i].1 ++ ([0] : List Int) ++ zs (l[i].1.length + 1) ++ l[i].2.2).length = zs l[i].2.2.length := by
        simp only [List.length_append, leB_length, ofStr_length, List.length_cons, List.length_nil, zs_length]
        rw [show a.length + 4 + 4 + 4 + l[i].1.length + (0 + 1) + (upN (l[i].1.length + 1) - (l[i].1.length + 1)) + l[i].2.2.length = (a.length + 12 + upN (l[i].1.length + 1)) + l[i].2.2.length by omega, zs_mod (by omega)]
      rw [z2]
      have e9 : a ++ leB 4 ((l[i].1.length + 1 : Nat) : Int) ++ leB 4 ((l[i].2.2.length : Nat) : Int) ++ leB 4 l[i].2.1 ++ ofStr l[i].1 ++ ([0] : List Int) ++ zs (l[i].1.length + 1) ++ l[i].2.2 ++ zs l[i].2.2.length = a ++ nput l[i] := by
        unfold nput; simp only [List.append_assoc]
      rw [e9]
      exact hrec
    · obtain rfl : i = l.length := by omega
      rw [dif_ge (by omega), if_neg (by simp), List.take_of_length_le (Nat.le_refl _), if_neg (by rw [decide_eq_true_eq]; omega), if_neg (by omega)]
/-! what the laws use -/
def bigN (x : Note) : Bool := decide (x.1.length > 500) || decide (x.2.2.length > 500)
theorem few_eq {l : List Note} (hl : l.length ≤ 9223372036854775807) (_ : ∀ x ∈ l, x.1.length ≤ 9223372036854775807 ∧ x.2.2.length ≤ 9223372036854775807) : law08_few l = some (if l.length > 20 then false else !(l.any bigN)) := by
  unfold law08_few
  by_cases h : l.length > 20
  · rw [if_pos (by rw [decide_eq_true_eq]; omega), if_pos h]
  rw [if_neg (by rw [decide_eq_true_eq]; omega), if_neg h, jn_eq]
  rw [scan_any l (by omega) bigN (some false) (some true) ?_ ?_]
  · cases l.any bigN <;> rfl
  · intro i rec hi
    have d1 : decide (((l[i].1.length : Nat) : Int) > 500) = decide (l[i].1.length > 500) := decide_eq_decide.2 (by omega)
    have d2 : decide (((l[i].2.2.length : Nat) : Int) > 500) = decide (l[i].2.2.length > 500) := decide_eq_decide.2 (by omega)
    rw [dif_lt hi, if_pos rfl, jn_eq, gd_pos (by omega), gt_nat hi, d1, d2, gd_pos (by omega), let1_eq, i64s (by omega)]
    unfold bigN
    cases decide (l[i].1.length > 500) <;> cases decide (l[i].2.2.length > 500) <;> rfl
  · intro rec
    rw [dif_ge (Nat.le_refl _), if_neg (by simp)]
theorem few_size {l : List Note} (_ : ¬ l.length > 20) (h2 : l.any bigN = false) (hk : ∀ x ∈ l, InK .u32 x.2.1) : ∀ x ∈ l, SzN 500 x := by
  intro x hx
  rw [List.any_eq_false] at h2
  have h3 := h2 x hx
  have h4 := inK_u32 (hk x hx)
  unfold bigN at h3
  simp only [Bool.or_eq_true, decide_eq_true_eq, not_or] at h3
  exact ⟨by omega, by omega, by omega, by omega⟩
theorem model_eq {l : List Note} (hl : l.length ≤ 1000000) : law08_model l = some l := by
  unfold law08_model
  rw [jn_eq]
  refine loop_at (fun i => (l.take i, (i : Int))) l.length (by simp) (by omega) ?_
  intro i rec hi hrec
  dsimp only at hrec ⊢
  by_cases hlt : i < l.length
  · have hrec := hrec hlt
    rw [List.take_succ_eq_append_getElem hlt] at hrec
    rw [dif_lt hlt, if_pos rfl, gd_pos (by omega), gd_pos (by omega), gd_pos (by omega), gd_pos (by rw [List.length_take]; simp only [List.length_cons, List.length_nil]; omega), gt_nat hlt, let1_eq, i64s (by omega)]
    exact hrec
  · obtain rfl : i = l.length := by omega
    rw [dif_ge (by omega), if_neg (by simp), List.take_of_length_le (Nat.le_refl _)]
theorem same_eq {l : List Note} (hl : l.length ≤ 1000000) : law08_same l l = some true := by
  unfold law08_same
  rw [if_neg (by simp), jn_eq]
  refine loop_at (fun i => (i : Int)) l.length rfl (by omega) ?_
  intro i rec hi hrec
  by_cases hlt : i < l.length
  · rw [dif_lt hlt, if_pos rfl, jn_eq, gd_pos (by omega), gd_pos (by omega), if_neg (by simp), gd_pos (by omega), gd_pos (by omega), if_neg (by simp), gd_pos (by omega), gd_pos (by omega)]
    dsimp only
    rw [if_neg (by simp), let1_eq, i64s (by omega), hrec hlt]
  · rw [dif_ge (by omega), if_neg (by simp)]

end Dm
