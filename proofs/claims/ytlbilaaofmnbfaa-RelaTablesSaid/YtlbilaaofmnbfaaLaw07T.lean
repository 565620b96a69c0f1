/-
  The laws of layer 7 on bytes and tables, over the shallow forms: each is true. Conditions: numbers are in their kinds' ranges, lengths at most 2^63 - 1.
-/
import Derived.Test.YtlbilaaofmnbfaaLaw07
import Derived.Test.YtlbilaaofmnbfaaSet
namespace Dm
open Go

/-- a relocation's bytes -/
def rput (x : Int × Int × Int × Int) : List Int := leB 8 x.1 ++ leB 8 (x.2.1 + x.2.2.1 * 2 ^ 32) ++ leB 8 (IntKind.u64.wrap x.2.2.2)
theorem rput_length (x : Int × Int × Int × Int) : (rput x).length = 24 := by simp only [rput, List.length_append, leB_length]
theorem rput_bytes (x : Int × Int × Int × Int) : Bytes (rput x) := ((leB_bytes _ _).append (leB_bytes _ _)).append (leB_bytes _ _)
theorem rela_Put_eq {x : Int × Int × Int × Int} (hx : Wf07 x) : rela_Put x = some (rput x) := by
  obtain ⟨a, b, c, d⟩ := x
  have h2 := inK_u32 hx.2.1
  have h3 := inK_u32 hx.2.2.1
  simp only at h2 h3
  have e2 : IntKind.u64.wrap b = b := u64w (by omega)
  have e3 : IntKind.u64.wrap c = c := u64w (by omega)
  have eb : bor .u64 b (shl .u64 c 32) = b + c * 2 ^ 32 := bor_two (k := 32) (by omega) (by omega) (by omega) (by omega) (by omega)
  unfold rela_Put rput
  rw [jn_eq]
  simp only [e2, e3, eb]
  generalize hw : ([a, b + c * 2 ^ 32, IntKind.u64.wrap d] : List Int) = ws
  have hl : ws.length = 3 := by subst hw; rfl
  have hr : leB 8 a ++ leB 8 (b + c * 2 ^ 32) ++ leB 8 (IntKind.u64.wrap d) = (ws.map (leB 8)).flatten := by
    subst hw; simp only [List.map_cons, List.map_nil, List.flatten_cons, List.flatten_nil, List.append_nil, List.append_assoc]
  rw [hr]
  refine loop_at (fun i => (((ws.take i).map (leB 8)).flatten, (i : Int))) 3 rfl (by omega) ?_
  intro i rec hi hrec
  by_cases hlt : i < 3
  · have hc : decide ((i : Int) < 3) = true := by simp; omega
    simp only [hc, if_true, let1_eq]
    have hlen : (((ws.take i).map (leB 8)).flatten).length ≤ 24 := by
      rw [flat_len, List.length_take]; omega
    rw [gd_pos (by omega), gd_pos (by omega)]
    rw [bd_eq (set8 _)]
    simp only
    rw [gd_pos (by rw [leB_length]; omega), i64s (by omega), gt_nat (by omega)]
    have := hrec hlt
    rw [List.take_succ_eq_append_getElem (by omega), List.map_append, List.flatten_append] at this
    simpa using this
  · obtain rfl : i = 3 := by omega
    have ht : ws.take 3 = ws := List.take_of_length_le (by omega)
    simp [ht]
theorem ref07_eight_eq {b : List Int} (hb : b.length ≤ 100000) {x : Int} (hx : 0 ≤ x) (hx1 : x ≤ 18446744073709551615) : ref07_eight b x = some (b ++ leB 8 x) := by
  unfold ref07_eight
  rw [jn_eq]
  refine loop_at (fun i => (b ++ leB i x, x / 256 ^ i, (i : Int))) 8 (by simp [leB]) (by omega) ?_
  intro i rec hi hrec
  by_cases hlt : i < 8
  · have hc : decide ((i : Int) < 8) = true := by simp; omega
    simp only [hc, if_true, let1_eq]
    have h0 : 0 ≤ x / 256 ^ i := Int.ediv_nonneg hx (Int.pow_nonneg (by omega))
    have h1 : x / 256 ^ i ≤ x := Int.ediv_le_self _ hx
    generalize hy : x / 256 ^ i = y at h0 h1
    have e7 : Int.tdiv y 256 = y / 256 := Int.tdiv_eq_ediv_of_nonneg h0
    have e8 : Int.tmod y 256 = y % 256 := Int.tmod_eq_emod_of_nonneg h0
    have e9 : IntKind.u64.wrap (y / 256) = y / 256 := u64w (by omega)
    have e10 : IntKind.u8.wrap (y % 256) = y % 256 := u8w (by omega)
    rw [gd_pos (by simp only [List.length_append, leB_length, List.length_cons, List.length_nil]; omega), e7, e8, e9, e10, i64s (by omega)]
    have := hrec hlt
    rw [leB_snoc, Int.pow_succ, ← Int.ediv_ediv_of_nonneg (Int.pow_nonneg (by omega)), hy] at this
    rw [List.append_assoc]; exact this
  · obtain rfl : i = 8 := by omega
    simp
theorem ref07_Put_eq {x : Int × Int × Int × Int} (hx : Wf07 x) : ref07_Put x = some (rput x) := by
  obtain ⟨a, b, c, d⟩ := x
  have h1 := inK_u64 hx.1
  have h2 := inK_u32 hx.2.1
  have h3 := inK_u32 hx.2.2.1
  simp only at h1 h2 h3
  have e2 : IntKind.u64.wrap b = b := u64w (by omega)
  have e3 : IntKind.u64.wrap c = c := u64w (by omega)
  have e4 : IntKind.u64.wrap (c * 4294967296) = c * 4294967296 := u64w (by omega)
  have e5 : IntKind.u64.wrap (b + c * 4294967296) = b + c * 2 ^ 32 := by rw [u64w (by omega)]; rfl
  have e6 := wrap_u64 d
  unfold ref07_Put rput
  simp only [e2, e3, e4, e5]
  rw [bd_eq (ref07_eight_eq (by simp) h1.1 h1.2), List.nil_append, bd_eq (ref07_eight_eq (by rw [leB_length]; omega) (by omega) (by omega)), bd_eq (ref07_eight_eq (by rw [List.length_append, leB_length, leB_length]; omega) (by omega) (by omega))]
/-- the relocation at a place -/
def rel (b : List Int) (p : Nat) : Int × Int × Int × Int := (le (cu b p 8), le (cu b (p + 8) 4), le (cu b (p + 12) 4), IntKind.i64.wrap (le (cu b (p + 16) 8)))
def tabS (b : List Int) : List (Int × Int × Int × Int) := (List.range (b.length / 24)).map fun k => rel b (24 * k)
theorem tmod24 (n : Nat) : Int.tmod (n : Int) 24 = ((n % 24 : Nat) : Int) := by rw [Int.tmod_eq_emod_of_nonneg (by omega)]; omega
theorem rela_Table_eq {b : List Int} (hb : b.length ≤ 100000) (hB : Bytes b) : rela_Table b = some (if b.length % 24 = 0 then (tabS b, 0) else ([], 10)) := by
  unfold rela_Table tabS
  rw [tmod24]
  by_cases hm : b.length % 24 = 0
  · simp only [hm, Int.ofNat_zero, bne_self_eq_false, Bool.false_eq_true, if_false, if_true, jn_eq]
    refine loop_at (fun i => (((List.range i).map fun k => rel b (24 * k)), ((24 * i : Nat) : Int))) (b.length / 24) (by simp) (by omega) ?_
    intro i rec hi hrec
    have eL : IntKind.u64.wrap (b.length : Int) = b.length := u64w (by omega)
    simp only [eL]
    by_cases hlt : i < b.length / 24
    · have hp : 24 * i + 24 ≤ b.length := by omega
      have e8 : IntKind.u64.wrap (((24 * i : Nat) : Int) + 8) = ((24 * i + 8 : Nat) : Int) := by rw [u64w (by omega)]; omega
      have e12 : IntKind.u64.wrap (((24 * i : Nat) : Int) + 12) = ((24 * i + 12 : Nat) : Int) := by rw [u64w (by omega)]; omega
      have e16 : IntKind.u64.wrap (((24 * i : Nat) : Int) + 16) = ((24 * i + 16 : Nat) : Int) := by rw [u64w (by omega)]; omega
      have e24 : IntKind.u64.wrap (((24 * i : Nat) : Int) + 24) = ((24 * (i + 1) : Nat) : Int) := by rw [u64w (by omega)]; omega
      rw [dif_lt (by omega), if_pos rfl, e8, e12, e16, e24]
      rw [bd_eq (get8 (by omega) hB (by omega)), bd_eq (get4 (by omega) hB (by omega)), bd_eq (get4 (by omega) hB (by omega)), bd_eq (get8 (by omega) hB (by omega))]
      have b1 := cu_bd (n := 4) hB (show 24 * i + 8 + 4 ≤ b.length by omega)
      have b2 := cu_bd (n := 4) hB (show 24 * i + 12 + 4 ≤ b.length by omega)
      simp only [let1_eq]
      rw [gd_pos (by simp; omega), u32w (by omega), u32w (by omega)]
      have := hrec hlt
      rw [List.range_succ, List.map_append] at this
      exact this
    · obtain rfl : i = b.length / 24 := by omega
      rw [dif_ge (by omega)]
      simp
  · have h1 : ((b.length % 24 : Nat) : Int) ≠ 0 := by omega
    rw [if_pos (bne_iff_ne.2 h1), if_neg hm]
theorem ref07_Table_eq {b : List Int} (hb : b.length ≤ 100000) (hB : Bytes b) : ref07_Table b = some (if b.length % 24 = 0 then (tabS b, 0) else ([], 10)) := by
  unfold ref07_Table tabS
  rw [tmod24]
  by_cases hm : b.length % 24 = 0
  · simp only [hm, Int.ofNat_zero, bne_self_eq_false, Bool.false_eq_true, if_false, if_true, jn_eq]
    refine loop_at (fun i => (((List.range i).map fun k => rel b (24 * k)), ((24 * i : Nat) : Int))) (b.length / 24) (by simp) (by omega) ?_
    intro i rec hi hrec
    simp only []
    by_cases hlt : i < b.length / 24
    · have hp : 24 * i + 24 ≤ b.length := by omega
      have e0 : IntKind.u64.wrap ((24 * i : Nat) : Int) = ((24 * i : Nat) : Int) := by rw [u64w (by omega)]
      have e8 : IntKind.u64.wrap (IntKind.i64.wrap (((24 * i : Nat) : Int) + 8)) = ((24 * i + 8 : Nat) : Int) := by rw [i64w (by omega), u64w (by omega)]; omega
      have e16 : IntKind.u64.wrap (IntKind.i64.wrap (((24 * i : Nat) : Int) + 16)) = ((24 * i + 16 : Nat) : Int) := by rw [i64w (by omega), u64w (by omega)]; omega
      have e24 : IntKind.i64.wrap (((24 * i : Nat) : Int) + 24) = ((24 * (i + 1) : Nat) : Int) := by rw [i64w (by omega)]; omega
      rw [dif_lt (by omega), if_pos rfl, e0, e8, e16, e24]
      rw [bd_eq (rget8 (by omega) hB (by omega)), bd_eq (rget8 (by omega) hB (by omega)), bd_eq (rget8 (by omega) hB (by omega))]
      have b1 := cu_bd (n := 4) hB (show 24 * i + 8 + 4 ≤ b.length by omega)
      have b2 := cu_bd (n := 4) hB (show 24 * i + 12 + 4 ≤ b.length by omega)
      have ea : le (cu b (24 * i + 8) 8) = le (cu b (24 * i + 8) 4) + 4294967296 * le (cu b (24 * i + 12) 4) := le_cu_add (m := 4) (n := 4) (by omega)
      simp only [let1_eq]
      generalize h1 : le (cu b (24 * i + 8) 4) = u at b1 ea
      generalize h2 : le (cu b (24 * i + 12) 4) = v at b2 ea
      rw [ea]
      have f1 : Int.tmod (u + 4294967296 * v) 4294967296 = u := by rw [Int.tmod_eq_emod_of_nonneg (by omega)]; omega
      have f2 : Int.tdiv (u + 4294967296 * v) 4294967296 = v := by rw [Int.tdiv_eq_ediv_of_nonneg (by omega)]; omega
      rw [f1, f2, gd_pos (by simp; omega), u32w (by omega), u64w (by omega), u32w (by omega)]
      have := hrec hlt
      rw [List.range_succ, List.map_append] at this
      have er : rel b (24 * i) = (le (cu b (24 * i) 8), u, v, IntKind.i64.wrap (le (cu b (24 * i + 16) 8))) := by unfold rel; rw [h1, h2]
      rw [List.map_singleton, er] at this
      exact this
    · obtain rfl : i = b.length / 24 := by omega
      rw [dif_ge (by omega)]
      simp
  · have h1 : ((b.length % 24 : Nat) : Int) ≠ 0 := by omega
    rw [if_pos (bne_iff_ne.2 h1), if_neg hm]
theorem RelaTables_true {b : List Int} (hl : b.length ≤ 9223372036854775807) (hb : ∀ n ∈ b, InK .u8 n) : law07_RelaTables b = some true := by
  unfold law07_RelaTables
  rw [bd_eq law07_awake_true]
  simp only [Bool.not_true, Bool.false_eq_true, if_false]
  by_cases hc : b.length ≤ 4000
  · rw [if_neg (by simp; omega), bd_eq (rela_Table_eq (by omega) (bytes_of hb)), bd_eq (ref07_Table_eq (by omega) (bytes_of hb))]
    have hL : (if b.length % 24 = 0 then (tabS b, (0 : Int)) else ([], 10)).1.length ≤ 9223372036854775807 := by
      unfold tabS; split <;> simp; omega
    generalize (if b.length % 24 = 0 then (tabS b, (0 : Int)) else ([], 10)) = r at hL ⊢
    simp only [jn_eq, bne_self_eq_false, Bool.false_eq_true, if_false]
    refine loop_at (fun i => (i : Int)) r.1.length rfl hL ?_
    intro i rec hi hrec
    by_cases hlt : i < r.1.length
    · rw [dif_lt hlt, if_pos rfl, gd_pos (by omega), gd_pos (by omega), i64s (by omega)]
      simp only [beq_self_eq_true, Bool.and_self, Bool.not_true, Bool.false_eq_true, if_false, let1_eq]
      exact hrec hlt
    · rw [dif_ge (by omega)]; simp
  · rw [if_pos (by simp; omega)]
theorem wrap_back {n : Int} (h : InK .i64 n) : IntKind.i64.wrap (IntKind.u64.wrap n) = n := by
  have := inK_i64 h
  rw [wrap_i64, wrap_u64]; split <;> omega
theorem rel_rput {x : Int × Int × Int × Int} (hx : Wf07 x) : tabS (rput x) = [x] := by
  obtain ⟨a, b, c, d⟩ := x
  have h1 := inK_u64 hx.1
  have h2 := inK_u32 hx.2.1
  have h3 := inK_u32 hx.2.2.1
  have h4 := hx.2.2.2
  simp only at h1 h2 h3 h4
  unfold tabS
  rw [rput_length]
  show [rel (rput (a, b, c, d)) 0] = _
  have e64 := wrap_u64 d
  have s0 : cu (rput (a, b, c, d)) 0 8 = leB 8 a := by
    unfold rput; rw [cu_left (by simp [leB_length]), cu_left (by simp [leB_length])]; unfold cu; rw [List.drop_zero, List.take_of_length_le (by rw [leB_length]; omega)]
  have s8 : cu (rput (a, b, c, d)) 8 8 = leB 8 (b + c * 2 ^ 32) := by
    unfold rput; rw [cu_left (by simp [leB_length]), cu_right (by simp [leB_length]), List.take_of_length_le (by rw [leB_length]; omega)]
  have s16 : cu (rput (a, b, c, d)) 16 8 = leB 8 (IntKind.u64.wrap d) := by
    unfold rput; rw [cu_right (by simp [leB_length]), List.take_of_length_le (by rw [leB_length]; omega)]
  have hB := rput_bytes (a, b, c, d)
  have hL := rput_length (a, b, c, d)
  have b1 := cu_bd (n := 4) hB (show 8 + 4 ≤ (rput (a, b, c, d)).length by omega)
  have b2 := cu_bd (n := 4) hB (show 12 + 4 ≤ (rput (a, b, c, d)).length by omega)
  have ea : le (cu (rput (a, b, c, d)) 8 8) = le (cu (rput (a, b, c, d)) 8 4) + 4294967296 * le (cu (rput (a, b, c, d)) 12 4) := le_cu_add (m := 4) (n := 4) (by omega)
  rw [s8, le_leB (by omega) (by omega)] at ea
  unfold rel
  rw [s0, s16, le_leB (by omega) (by omega), le_leB (by omega) (by omega), wrap_back h4]
  have q1 : le (cu (rput (a, b, c, d)) 8 4) = b := by omega
  have q2 : le (cu (rput (a, b, c, d)) 12 4) = c := by omega
  simp only [Nat.zero_add, q1, q2]
theorem RelaPuts_true {x : Int × Int × Int × Int} (hx : Wf07 x) : law07_RelaPuts x = some true := by
  unfold law07_RelaPuts
  rw [bd_eq law07_awake_true]
  simp only [Bool.not_true, Bool.false_eq_true, if_false]
  rw [bd_eq (rela_Put_eq hx), bd_eq (rela_Table_eq (by rw [rput_length]; omega) (rput_bytes x)), jn_eq, bd_eq (ref07_Put_eq hx), rput_length]
  simp only [rel_rput hx, if_true]
  simp [gt, gd]

end Dm
