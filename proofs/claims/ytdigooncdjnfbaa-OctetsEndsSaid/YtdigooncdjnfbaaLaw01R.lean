/-
  The laws OctetsRounds, OctetsEnds and OctetsBack over the shallow forms: each is true. Conditions: numbers and bytes are in their kinds' ranges.
-/
import Derived.Test.YtdigooncdjnfbaaRound
import Derived.Test.YtdigooncdjnfbaaLaw01
namespace Dm
open Go

theorem OctetsRounds_true {x : Int} (hx : InK .u64 x) {a : Int} (ha : InK .u64 a) : law01_OctetsRounds x a = some true := by
  unfold law01_OctetsRounds
  have hx := inK_u64 hx; have ha := inK_u64 ha
  rw [bd_eq law01_awake_true]
  simp only [Bool.not_true, Bool.false_eq_true, if_false]
  rw [bd_eq (octets_Up_eq hx.1 hx.2 ha.1 ha.2), bd_eq (ref01_Up_eq hx.1 hx.2 ha.1 ha.2), bd_eq (octets_Down_eq hx.1 hx.2 ha.1 ha.2), bd_eq (ref01_Down_eq hx.1 hx.2 ha.1 ha.2)]
  simp [jn_eq]
theorem band_i64 {x y : Int} (hy0 : 0 ≤ y) (hy : y < 9223372036854775808) : 0 ≤ band .i64 x y ∧ band .i64 x y ≤ y := by
  unfold band
  have hb : IntKind.i64.bits = 64 := rfl
  rw [hb, BitVec.toNat_and, ofInt_toNat (x := y) hy0 (by omega)]
  have h : (BitVec.ofInt 64 x).toNat &&& y.toNat ≤ y.toNat := Nat.and_le_right
  rw [i64w (by omega)]
  omega
theorem four {x : Int} : ∃ n : Int, gt ([1, 2, 4, 8] : List Int) (band .i64 x 3) = n ∧ (n = 1 ∨ n = 2 ∨ n = 4 ∨ n = 8) ∧ (0 ≤ band .i64 x 3 ∧ band .i64 x 3 < ((([1, 2, 4, 8] : List Int).length : Nat) : Int)) := by
  have h := band_i64 (x := x) (y := 3) (by omega) (by omega)
  generalize band .i64 x 3 = w at *
  have : w = 0 ∨ w = 1 ∨ w = 2 ∨ w = 3 := by omega
  rcases this with rfl | rfl | rfl | rfl
  · exact ⟨1, rfl, by omega, by decide⟩
  · exact ⟨2, rfl, by omega, by decide⟩
  · exact ⟨4, rfl, by omega, by decide⟩
  · exact ⟨8, rfl, by omega, by decide⟩
theorem bytes_zero (n : Nat) : Bytes (List.replicate n (0 : Int)) := fun x hx => by
  rw [List.mem_replicate] at hx; omega
theorem OctetsEnds_true {n : Int} (hn : InK .i64 n) {w : Int} (hw : InK .i64 w) : law01_OctetsEnds n w = some true := by
  unfold law01_OctetsEnds
  rw [bd_eq law01_awake_true]
  simp only [Bool.not_true, Bool.false_eq_true, if_false]
  obtain ⟨k, hk, hk4, hg⟩ := four (x := w)
  have hm := band_i64 (x := n) (y := 255) (by omega) (by omega)
  rw [hk]
  generalize band .i64 w 3 = w3 at *
  generalize band .i64 n 255 = m at *
  have e1 : IntKind.i64.wrap (k + m) = k + m := i64w (by omega)
  rw [gd_pos hg, let1_eq, e1, gd_pos (by omega), let1_eq]
  have hl : (((List.replicate (k + m).toNat (0 : Int)).length : Nat) : Int) = k + m := by rw [List.length_replicate]; omega
  have hB := bytes_zero (k + m).toNat
  generalize List.replicate (k + m).toNat (0 : Int) = b at *
  rw [hl, let1_eq]
  have e2 : IntKind.u64.wrap (IntKind.i64.wrap (k + m - k)) = m := by rw [i64w (by omega), u64w (by omega)]; omega
  have e3 : IntKind.u64.wrap (m + 1) = m + 1 := u64w (by omega)
  have e4 : IntKind.u64.wrap (k + m) = k + m := u64w (by omega)
  have e5 : IntKind.u64.wrap (k + m + 1) = k + m + 1 := u64w (by omega)
  rw [e2, e3, e4, e5]
  rw [bd_eq (octets_Get_eq (by omega) hB (by omega)), bd_eq (octets_Get_eq (by omega) hB (by omega)), bd_eq (octets_Cut_eq (by omega) (by omega) (by omega)), bd_eq (octets_Cut_eq (by omega) (by omega) (by omega)), bd_eq (octets_Cut_eq (by omega) (by omega) (by omega)), bd_eq (octets_Cut_eq (by omega) (by omega) (by omega))]
  have hwk : wOk k = true := by unfold wOk; rcases hk4 with rfl | rfl | rfl | rfl <;> rfl
  have i1 : insB b.length m k = true := by unfold insB; rw [hl]; simp only [Bool.and_eq_true, decide_eq_true_eq]; omega
  have i2 : insB b.length (m + 1) k = false := by unfold insB; rw [hl]; simp only [Bool.and_eq_false_iff, decide_eq_false_iff_not]; omega
  have i3 : insB b.length (k + m) 0 = true := by unfold insB; rw [hl]; simp only [Bool.and_eq_true, decide_eq_true_eq]; omega
  have i4 : insB b.length (k + m) 1 = false := by unfold insB; rw [hl]; simp only [Bool.and_eq_false_iff, decide_eq_false_iff_not]; omega
  have i5 : insB b.length (k + m + 1) 0 = false := by unfold insB; rw [hl]; simp only [Bool.and_eq_false_iff, decide_eq_false_iff_not]; omega
  have i6 : insB b.length 18446744073709551615 2 = false := by unfold insB; rw [hl]; simp only [Bool.and_eq_false_iff, decide_eq_false_iff_not]; omega
  simp [getS, cutS, hwk, i1, i2, i3, i4, i5, i6, jn_eq]
theorem le_leB : ∀ (n : Nat) (x : Int), le (leB n x) = x % 256 ^ n
  | 0, x => by simp [leB, le, Int.emod_one]
  | n + 1, x => by
    rw [leB, le, le_leB n, Int.pow_succ, Int.mul_comm (256 ^ n) 256]
    have hm : (0 : Int) < 256 ^ n := Int.pow_pos (by omega)
    generalize (256 : Int) ^ n = m at *
    have h1 := Int.emod_add_mul_ediv x 256
    have hr0 := Int.emod_nonneg x (show (256 : Int) ≠ 0 by omega)
    have hr1 := Int.emod_lt_of_pos x (show (0 : Int) < 256 by omega)
    generalize x / 256 = q at *
    generalize x % 256 = r at *
    have h2 := Int.emod_add_mul_ediv q m
    have h3 := Int.emod_nonneg q (show m ≠ 0 by omega)
    have h4 := Int.emod_lt_of_pos q hm
    generalize q % m = s at *
    generalize q / m = t at *
    have e : x = (r + 256 * s) + (256 * m) * t := by
      rw [Int.mul_assoc]; omega
    rw [e, Int.add_mul_emod_self_left, Int.emod_eq_of_lt (by omega) (by omega)]
theorem shl_byte {c : Int} {i : Nat} (hi : i < 8) (hc0 : 0 ≤ c) (hc : c < 256) : shl .u64 c (8 * i) = c * 256 ^ i := by
  have h256 : (256 : Int) ^ i = ((2 ^ (8 * i) : Nat) : Int) := by
    rw [Nat.pow_mul, Int.natCast_pow]; rfl
  have e1 : ((8 * (i : Int)).toNat) = 8 * i := by omega
  have hle : (2 : Nat) ^ (8 * i) * 256 ≤ 2 ^ 64 := by
    have : (2 : Nat) ^ (8 * i) * 256 = 2 ^ (8 * i + 8) := by rw [Nat.pow_add]
    rw [this]; exact Nat.pow_le_pow_right (by omega) (by omega)
  have hpos : 0 < (2 : Nat) ^ (8 * i) := Nat.two_pow_pos _
  obtain ⟨b, rfl⟩ := Int.eq_ofNat_of_zero_le hc0
  rw [h256]
  have hmul : b * 2 ^ (8 * i) ≤ 255 * 2 ^ (8 * i) := Nat.mul_le_mul_right _ (by omega)
  unfold shl
  rw [e1, Nat.min_eq_left (by simp [IntKind.bits]; omega)]
  have : ((b : Int) * 2 ^ (8 * i)) = ((b * 2 ^ (8 * i) : Nat) : Int) := by rw [Int.natCast_mul, Int.natCast_pow]; rfl
  rw [this, u64w, Int.natCast_mul]
  constructor
  · omega
  · have h3 : (2 : Nat) ^ 64 = 18446744073709551616 := by decide
    omega
theorem take_one {b : List Int} {i : Nat} (h : i < b.length) : b.take (i + 1) = b.take i ++ [b.getD i 0] := by
  rw [List.take_succ_eq_append_getElem h, List.getD_eq_getElem?_getD, List.getElem?_eq_getElem h]; rfl
/-- bytes, summed up again -/
theorem sum_loop {ρ : Type} {r : Option ρ} {F : Nat} (hF : ∀ {n : Nat}, n ≤ 9223372036854775808 → n < F) {c : List Int} (hc : Bytes c) {n : Int} (hn : (c.length : Int) = n) (hn8 : n ≤ 8) {k : Int → Option ρ} (hk : k (le c) = r) :
    loopK (fun (s7 : Int × Int) rec2 =>
      (if (decide (s7.2 < n)) = true then
        gd (0 ≤ s7.2 ∧ s7.2 < ((c.length : Nat) : Int)) <|
        gd (0 ≤ (IntKind.u64.wrap (IntKind.i64.wrap (8 * s7.2)))) <|
        let1 (IntKind.u64.wrap (s7.1 + (shl .u64 (IntKind.u64.wrap (gt c s7.2)) (IntKind.u64.wrap (IntKind.i64.wrap (8 * s7.2)))))) fun z_1 =>
        let1 (IntKind.i64.wrap (s7.2 + 1)) fun i_2 =>
        rec2 (z_1, i_2)
      else
        k s7.1)) F (0, 0) = r := by
  refine loop_run (fun s => 0 ≤ s.2 ∧ s.2 ≤ n ∧ s.1 = le (c.take s.2.toNat)) (fun s => (n - s.2).toNat) ?_ F (0, 0) ⟨by simp, by simp; omega, by simp [le]⟩ (hF (by simp; omega))
  rintro ⟨x, i⟩ rec ⟨h0, h1, hx⟩ hrec
  simp only at h0 h1 hx hrec ⊢
  by_cases hlt : i < n
  · obtain ⟨j, rfl⟩ := Int.eq_ofNat_of_zero_le h0
    simp only [Int.toNat_natCast] at hx
    have e3 : IntKind.i64.wrap (8 * (j : Int)) = 8 * j := i64w (by omega)
    have e4 : IntKind.u64.wrap (8 * (j : Int)) = 8 * j := u64w (by omega)
    have e6 : IntKind.i64.wrap ((j : Int) + 1) = ((j + 1 : Nat) : Int) := by rw [i64w (by omega)]; omega
    have hgt := getD_byte hc j
    have e5 : IntKind.u64.wrap (gt c j) = c.getD j 0 := by rw [gt_eq, Int.toNat_natCast, u64w (by omega)]
    simp only [e3, e4, e5, e6, hlt, decide_true, if_true, let1_eq]
    rw [gd_pos (by omega), gd_pos (by omega), shl_byte (by omega) hgt.1 (by omega)]
    have hlb := le_bd (hc.take (j + 1))
    have hlen : (c.take (j + 1)).length = j + 1 := by rw [List.length_take]; omega
    have hlen2 : (c.take j).length = j := by rw [List.length_take]; omega
    have e : x + c.getD j 0 * 256 ^ j = le (c.take (j + 1)) := by rw [take_one (by omega), le_snoc, hlen2, hx]
    rw [hlen] at hlb
    have hp := p256 (j + 1) (by omega)
    rw [e, u64w (by omega)]
    exact hrec _ ⟨by simp only []; omega, by simp only []; omega, by simp only [Int.toNat_natCast]⟩ (by simp only []; omega)
  · have : c.take i.toNat = c := List.take_of_length_le (by omega)
    simp only [hlt, decide_false, Bool.false_eq_true, if_false]
    rw [hx, this]; exact hk
theorem get_out {b : List Int} {p n j : Nat} {l : List Int} (hl : l.length = n) (h : p + n ≤ b.length) (hj : j < p ∨ p + n ≤ j) : (b.take p ++ l ++ b.drop (p + n)).getD j 0 = b.getD j 0 := by
  rw [List.getD_eq_getElem?_getD, List.getD_eq_getElem?_getD]
  congr 1
  have h1 : (b.take p).length = p := by rw [List.length_take]; omega
  rcases hj with hj | hj
  · rw [List.append_assoc, List.getElem?_append_left (by omega), List.getElem?_take_of_lt hj]
  · rw [List.getElem?_append_right (by rw [List.length_append]; omega), List.length_append, h1, hl, List.getElem?_drop]
    congr 1; omega
theorem mid_out {b : List Int} {p n : Nat} {l : List Int} (hl : l.length = n) (h : p + n ≤ b.length) : ((b.take p ++ l ++ b.drop (p + n)).drop p).take n = l := by
  have h1 : (b.take p).length = p := by rw [List.length_take]; omega
  rw [List.append_assoc, List.drop_left' h1, List.take_left' hl]
theorem rest_loop {ρ : Type} {r q z : Option ρ} {F : Nat} (hF : ∀ {n : Nat}, n ≤ 9223372036854775808 → n < F) {b d : List Int} (hd : d.length = b.length) (hb : b.length ≤ 9223372036854775807) {k m : Int}
    (h : ∀ j : Nat, (j : Int) < k ∨ m ≤ (j : Int) → d.getD j 0 = b.getD j 0) (hq : q = r) :
    loopK (fun (s4 : Int) rec1 =>
      (if (decide (s4 < ((b.length : Nat) : Int))) = true then
        jn (fun (s5 : Bool) =>
          (if (s5) = true then
            z
          else
            let1 (IntKind.i64.wrap (s4 + 1)) fun i_1 =>
            rec1 i_1)) (fun k4 =>
          (if (decide (s4 < k)) = true then
          gd (0 ≤ s4 ∧ s4 < ((d.length : Nat) : Int)) <|
          gd (0 ≤ s4 ∧ s4 < ((b.length : Nat) : Int)) <|
          k4 ((gt d s4) != (gt b s4))
          else
          (if (decide (s4 ≥ m)) = true then
          gd (0 ≤ s4 ∧ s4 < ((d.length : Nat) : Int)) <|
          gd (0 ≤ s4 ∧ s4 < ((b.length : Nat) : Int)) <|
          k4 ((gt d s4) != (gt b s4))
          else
          k4 false)))
      else
        q)) F 0 = r := by
  refine loop_run (fun (s : Int) => 0 ≤ s) (fun s => ((b.length : Int) - s).toNat) ?_ F 0 (by simp) (hF (by omega))
  rintro i rec h0 hrec
  by_cases hlt : i < b.length
  · obtain ⟨j, rfl⟩ := Int.eq_ofNat_of_zero_le h0
    have e : IntKind.i64.wrap ((j : Int) + 1) = (j : Int) + 1 := i64w (by omega)
    have hg : (0 ≤ (j : Int) ∧ (j : Int) < ((d.length : Nat) : Int)) := by omega
    have hg2 : (0 ≤ (j : Int) ∧ (j : Int) < ((b.length : Nat) : Int)) := by omega
    simp only [decide_eq_true hlt, if_true, jn_eq, gd_pos hg, gd_pos hg2, e, let1_eq, gt_eq, Int.toNat_natCast]
    have hr : rec ((j : Int) + 1) = r := hrec _ (by omega) (by omega)
    by_cases h1 : (j : Int) < k
    · have := h j (Or.inl h1)
      simp only [decide_eq_true h1, if_true, this, bne_self_eq_false, Bool.false_eq_true, if_false]
      exact hr
    · by_cases h2 : (j : Int) ≥ m
      · have := h j (Or.inr h2)
        simp only [decide_eq_false h1, decide_eq_true h2, if_true, this, bne_self_eq_false, Bool.false_eq_true, if_false]
        exact hr
      · simp only [decide_eq_false h1, decide_eq_false h2, Bool.false_eq_true, if_false]
        exact hr
  · simp only [decide_eq_false hlt, Bool.false_eq_true, if_false]
    exact hq

theorem mask_byte {x n : Int} (hx0 : 0 ≤ x) (hx1 : x ≤ 18446744073709551615) (hn : n = 1 ∨ n = 2 ∨ n = 4) : band .u64 x (IntKind.u64.wrap ((shl .u64 1 (IntKind.u64.wrap (IntKind.i64.wrap (8 * n)))) - 1)) = x % 256 ^ n.toNat := by
  have h : ∀ k : Nat, k < 64 → band .u64 x (((2 ^ k - 1 : Nat)) : Int) = x % ((2 ^ k : Nat) : Int) := by
    intro k hk
    have hpk : (2 : Nat) ^ k < 2 ^ 64 := Nat.pow_lt_pow_right (by omega) hk
    rw [band_nat .u64 rfl hx0 (by simp only [IntKind.bits]; omega) (by omega) (by simp only [IntKind.bits]; omega), Int.toNat_natCast, Nat.and_two_pow_sub_one_eq_mod]
    obtain ⟨X, rfl⟩ := Int.eq_ofNat_of_zero_le hx0
    exact Int.natCast_emod _ _
  rcases hn with rfl | rfl | rfl
  · have := h 8 (by omega); exact this
  · have := h 16 (by omega); exact this
  · have := h 32 (by omega); exact this
theorem OctetsBack_true {b : List Int} (hb : ∀ n ∈ b, InK .u8 n) (hl : b.length ≤ 9223372036854775807) {p : Int} (_hp : InK .i64 p) {w : Int} (_hw : InK .i64 w) {x : Int} (hx : InK .u64 x) : law01_OctetsBack b p w x = some true := by
  unfold law01_OctetsBack
  have hF := @lt_bigF
  generalize bigF = F at hF ⊢
  have hx := inK_u64 hx
  rw [bd_eq law01_awake_true]
  simp only [Bool.not_true, Bool.false_eq_true, if_false, jn_eq]
  by_cases hs : (b.length : Int) < 8
  · simp [hs]
  by_cases hs2 : (b.length : Int) > 2000
  · simp only [decide_eq_false hs, decide_eq_true hs2, Bool.false_eq_true, if_false, if_true]
  simp only [decide_eq_false hs, decide_eq_false hs2, Bool.false_eq_true, if_false]
  obtain ⟨n, hn, hn4, hg⟩ := four (x := w)
  have hm := band_i64 (x := p) (y := 16777215) (by omega) (by omega)
  rw [gd_pos hg, hn, let1_eq]
  generalize band .i64 p 16777215 = m at *
  have e1 : IntKind.i64.wrap (((b.length : Nat) : Int) - n) = (b.length : Int) - n := i64w (by omega)
  have e2 : IntKind.i64.wrap ((b.length : Int) - n + 1) = (b.length : Int) - n + 1 := i64w (by omega)
  rw [e1, e2, gd_pos (by omega), let1_eq, Int.tmod_eq_emod_of_nonneg hm.1]
  have hk0 := Int.emod_nonneg m (show ((b.length : Int) - n + 1) ≠ 0 by omega)
  have hk1 := Int.emod_lt_of_pos m (show 0 < ((b.length : Int) - n + 1) by omega)
  generalize m % ((b.length : Int) - n + 1) = k at *
  have hwk : wOk n = true := by unfold wOk; rcases hn4 with rfl | rfl | rfl | rfl <;> rfl
  have e3 : IntKind.u64.wrap k = k := u64w (by omega)
  have e4 : IntKind.u64.wrap n = n := u64w (by omega)
  have i1 : insB b.length k n = true := by unfold insB; simp only [Bool.and_eq_true, decide_eq_true_eq]; omega
  rw [e3, e4, bd_eq (octets_Set_eq (by omega) (by omega))]
  have es : setS b k n x = (b.take k.toNat ++ leB n.toNat x ++ b.drop (k.toNat + n.toNat), 0) := by simp [setS, hwk, i1]
  rw [es]
  dsimp only
  have hdl := mid_length (b := b) (p := k.toNat) (j := n.toNat) (x := x) (by omega)
  have hmid := mid_out (b := b) (p := k.toNat) (n := n.toNat) (leB_length n.toNat x) (by omega)
  have hout := fun j hj => get_out (b := b) (p := k.toNat) (n := n.toNat) (j := j) (leB_length n.toNat x) (by omega) hj
  have hdB : Bytes (b.take k.toNat ++ leB n.toNat x ++ b.drop (k.toNat + n.toNat)) := ((bytes_of hb).take _ |>.append (leB_bytes _ _)).append ((bytes_of hb).drop _)
  generalize b.take k.toNat ++ leB n.toNat x ++ b.drop (k.toNat + n.toNat) = d at *
  have i2 : insB d.length k n = true := by rw [hdl]; exact i1
  rw [bd_eq (octets_Get_eq (by omega) hdB (by omega)), bd_eq (octets_Cut_eq (by omega) (by omega) (by omega))]
  have eg : getS d k n = (le (leB n.toNat x), 0) := by simp [getS, hwk, i2, hmid]
  have ec : cutS d k n = (leB n.toNat x, 0) := by simp [cutS, i2, hmid]
  rw [eg, ec]
  dsimp only
  have hll : (((leB n.toNat x).length : Nat) : Int) = n := by rw [leB_length]; omega
  have e5 : ((((leB n.toNat x).length : Nat) : Int) != n) = false := by rw [hll]; simp
  have e7 : (((d.length : Nat) : Int) != ((b.length : Nat) : Int)) = false := by rw [hdl]; simp
  have e6 : IntKind.i64.wrap (k + n) = k + n := i64w (by omega)
  simp only [bne_self_eq_false, Bool.false_eq_true, if_false, e5, e7, e6]
  refine rest_loop hF hdl (by omega) (fun j hj => hout j (by omega)) ?_
  refine sum_loop hF (leB_bytes n.toNat x) hll (by omega) (k := fun z => if (le (leB n.toNat x) == z) = true then
      (if (n == 8) = true then
        (if (le (leB n.toNat x) == x) = true then some true
        else
          (if decide (n < 8) = true then
            gd (0 ≤ IntKind.u64.wrap (IntKind.i64.wrap (8 * n))) (some (le (leB n.toNat x) == band IntKind.u64 x (IntKind.u64.wrap (shl IntKind.u64 1 (IntKind.u64.wrap (IntKind.i64.wrap (8 * n))) - 1))))
          else some false))
      else
        (if decide (n < 8) = true then
          gd (0 ≤ IntKind.u64.wrap (IntKind.i64.wrap (8 * n))) (some (le (leB n.toNat x) == band IntKind.u64 x (IntKind.u64.wrap (shl IntKind.u64 1 (IntKind.u64.wrap (IntKind.i64.wrap (8 * n))) - 1))))
        else some false))
    else some false) ?_
  simp only [le_leB, beq_self_eq_true, if_true]
  rcases hn4 with h | h | h | h
  · have h8 : ¬ n = 8 := by omega
    have h9 : n < 8 := by omega
    have hmb := mask_byte hx.1 hx.2 (show n = 1 ∨ n = 2 ∨ n = 4 by omega)
    simp only [beq_eq_false_iff_ne.2 h8, decide_eq_true h9, Bool.false_eq_true, if_false, if_true, hmb, beq_self_eq_true]
    exact gd_pos (by subst h; decide)
  · have h8 : ¬ n = 8 := by omega
    have h9 : n < 8 := by omega
    have hmb := mask_byte hx.1 hx.2 (show n = 1 ∨ n = 2 ∨ n = 4 by omega)
    simp only [beq_eq_false_iff_ne.2 h8, decide_eq_true h9, Bool.false_eq_true, if_false, if_true, hmb, beq_self_eq_true]
    exact gd_pos (by subst h; decide)
  · have h8 : ¬ n = 8 := by omega
    have h9 : n < 8 := by omega
    have hmb := mask_byte hx.1 hx.2 (show n = 1 ∨ n = 2 ∨ n = 4 by omega)
    simp only [beq_eq_false_iff_ne.2 h8, decide_eq_true h9, Bool.false_eq_true, if_false, if_true, hmb, beq_self_eq_true]
    exact gd_pos (by subst h; decide)
  · subst h
    have e8 : x % 256 ^ Int.toNat 8 = x := Int.emod_eq_of_lt hx.1 (by show x < 18446744073709551616; omega)
    simp only [beq_self_eq_true, if_true, e8]

end Dm
