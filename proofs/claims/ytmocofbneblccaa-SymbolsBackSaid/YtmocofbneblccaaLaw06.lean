/-
  The laws of layer 6 (symbols) over the shallow forms: bytes and tables. Conditions: numbers and bytes are in their kinds' ranges, lengths at most 2^63 - 1.
-/
import Derived.Test.YtmocofbneblccaaSet
import Derived.Test.YtmocofbneblccaaFunB
import Derived.KernelRfl
namespace Dm
open Go

theorem law06_awake_true : law06_awake = some true := by kernel_rfl
abbrev Sym := Int × Int × Int × Int × Int × Int
abbrev Wf06 (y : Sym) : Prop := InK .u32 y.1 ∧ InK .u8 y.2.1 ∧ InK .u8 y.2.2.1 ∧ InK .u16 y.2.2.2.1 ∧ InK .u64 y.2.2.2.2.1 ∧ InK .u64 y.2.2.2.2.2
def yput (s : Sym) : List Int := leB 4 s.1 ++ (leB 1 s.2.1 ++ (leB 1 s.2.2.1 ++ (leB 2 s.2.2.2.1 ++ (leB 8 s.2.2.2.2.1 ++ leB 8 s.2.2.2.2.2))))
theorem yput_length (s : Sym) : (yput s).length = 24 := by simp only [yput, List.length_append, leB_length]
theorem yput_bytes (s : Sym) : Bytes (yput s) := (leB_bytes _ _).append ((leB_bytes _ _).append ((leB_bytes _ _).append ((leB_bytes _ _).append ((leB_bytes _ _).append (leB_bytes _ _)))))
theorem Put_1_eq {x : Int} {n : Nat} (hn : n = 1 ∨ n = 2 ∨ n = 4 ∨ n = 8) {q : List Int} (hq : q.length ≤ 1000) : symbols_Put_1 x (n : Int) q = some (q ++ leB n x) := by
  unfold symbols_Put_1
  rw [gd_pos (by omega), Int.toNat_natCast, bd_eq (set_whole hn x)]
  dsimp only
  rw [gd_pos (by rw [leB_length]; omega)]
theorem symbols_Put_eq {s : Sym} (hx : Wf06 s) : symbols_Put s = some (yput s) := by
  obtain ⟨a, b, c, d, e, f⟩ := s
  have h1 := inK_u32 hx.1
  have h2 := inK_u8 hx.2.1
  have h3 := inK_u8 hx.2.2.1
  have h4 := inK_u16 hx.2.2.2.1
  simp only at h1 h2 h3 h4
  have e1 : IntKind.u64.wrap a = a := u64w (by omega)
  have e2 : IntKind.u64.wrap b = b := u64w (by omega)
  have e3 : IntKind.u64.wrap c = c := u64w (by omega)
  have e4 : IntKind.u64.wrap d = d := u64w (by omega)
  have P : ∀ (n : Nat) (x : Int) (q : List Int), n = 1 ∨ n = 2 ∨ n = 4 ∨ n = 8 → q.length ≤ 1000 → symbols_Put_1 x (n : Int) q = some (q ++ leB n x) := fun n x q h1 h2 => Put_1_eq h1 h2
  unfold symbols_Put yput
  simp only [e1, e2, e3, e4]
  rw [bd_eq (show symbols_Put_1 a 4 [] = _ from P 4 a [] (by omega) (by simp))]
  rw [bd_eq (show symbols_Put_1 b 1 _ = _ from P 1 b _ (by omega) (by simp [leB_length]))]
  rw [bd_eq (show symbols_Put_1 c 1 _ = _ from P 1 c _ (by omega) (by simp [leB_length]))]
  rw [bd_eq (show symbols_Put_1 d 2 _ = _ from P 2 d _ (by omega) (by simp [leB_length]))]
  rw [bd_eq (show symbols_Put_1 e 8 _ = _ from P 8 e _ (by omega) (by simp [leB_length]))]
  rw [bd_eq (show symbols_Put_1 f 8 _ = _ from P 8 f _ (by omega) (by simp [leB_length]))]
  simp only [List.nil_append, List.append_assoc]
theorem ref06_number_eq {b : List Int} (hb : b.length ≤ 100000) {x : Int} (hx : 0 ≤ x) (hx1 : x ≤ 18446744073709551615) (n : Nat) (hn : n ≤ 8) : ref06_number b x (n : Int) = some (b ++ leB n x) := by
  unfold ref06_number
  rw [jn_eq]
  refine loop_at (fun i => (b ++ leB i x, x / 256 ^ i, (i : Int))) n (by simp [leB]) (by omega) ?_
  intro i rec hi hrec
  by_cases hlt : i < n
  · have hc : decide ((i : Int) < n) = true := by simp; omega
    simp only [hc, if_true, let1_eq]
    have h0 : 0 ≤ x / 256 ^ i := Int.ediv_nonneg hx (Int.pow_nonneg (by omega))
    have h1 : x / 256 ^ i ≤ x := Int.ediv_le_self _ hx
    generalize hy : x / 256 ^ i = y at h0 h1
    have e7 : Int.tdiv y 256 = y / 256 := Int.tdiv_eq_ediv_of_nonneg h0
    have e8 : Int.tmod y 256 = y % 256 := Int.tmod_eq_emod_of_nonneg h0
    have e9 : IntKind.u64.wrap (y / 256) = y / 256 := u64w (by omega)
    have e10 : IntKind.u8.wrap (y % 256) = y % 256 := u8w (by omega)
    rw [gd_pos (by simp only [List.length_append, leB_length, List.length_cons, List.length_nil]; omega), e7, e8, e9, e10, i64s (by omega)]
    have := hrec hlt
    rw [leB_snoc, Int.pow_succ, ← Int.ediv_ediv_of_nonneg (Int.pow_nonneg (by omega)), hy] at this
    rw [List.append_assoc]; exact this
  · obtain rfl : i = n := by omega
    simp
theorem leB_one {x : Int} (h : 0 ≤ x ∧ x ≤ 255) : leB 1 x = [x] := by
  unfold leB leB; rw [Int.emod_eq_of_lt h.1 (by omega)]
theorem ref06_Put_eq {s : Sym} (hx : Wf06 s) : ref06_Put s = some (yput s) := by
  obtain ⟨a, b, c, d, e, f⟩ := s
  obtain ⟨h1, h2, h3, h4, h5, h6⟩ := hx
  have h1 := inK_u32 h1
  have h2 := inK_u8 h2
  have h3 := inK_u8 h3
  have h4 := inK_u16 h4
  have h5 := inK_u64 h5
  have h6 := inK_u64 h6
  simp only at h1 h2 h3 h4 h5 h6
  have e1 : IntKind.u64.wrap a = a := u64w (by omega)
  have e4 : IntKind.u64.wrap d = d := u64w (by omega)
  have N : ∀ (n : Nat) (x : Int) (q : List Int), n ≤ 8 → q.length ≤ 1000 → 0 ≤ x → x ≤ 18446744073709551615 → ref06_number q x (n : Int) = some (q ++ leB n x) := fun n x q h h' h'' h''' => ref06_number_eq (by omega) h'' h''' n h
  unfold ref06_Put yput
  simp only [e1, e4]
  rw [bd_eq (show ref06_number [] a 4 = _ from N 4 a [] (by omega) (by simp) (by omega) (by omega)), gd_pos (by simp [leB_length])]
  rw [bd_eq (show ref06_number _ d 2 = _ from N 2 d _ (by omega) (by simp [leB_length]) (by omega) (by omega))]
  rw [bd_eq (show ref06_number _ e 8 = _ from N 8 e _ (by omega) (by simp [leB_length]) (by omega) (by omega))]
  rw [bd_eq (show ref06_number _ f 8 = _ from N 8 f _ (by omega) (by simp [leB_length]) (by omega) (by omega))]
  rw [leB_one h2, leB_one h3]
  simp only [List.nil_append, List.append_assoc, List.cons_append]
theorem Bind_eq {s : Sym} (h : InK .u8 s.2.1) : symbols_Bind s = some (s.2.1 / 16) := by
  have h := inK_u8 h
  have e : shr .u8 s.2.1 4 = s.2.1 / 16 := by
    unfold shr; rw [Int.fdiv_eq_ediv_of_nonneg _ (Int.pow_nonneg (by omega))]; rfl
  unfold symbols_Bind
  rw [e, i64w (by omega)]
theorem Kind_eq {s : Sym} (h : InK .u8 s.2.1) : symbols_Kind s = some (s.2.1 % 16) := by
  have h := inK_u8 h
  have e : band .u8 s.2.1 15 = s.2.1 % 16 := by
    obtain ⟨n, hn⟩ := Int.eq_ofNat_of_zero_le h.1
    rw [hn, band_nat .u8 rfl (by omega) (by simp [IntKind.bits]; omega) (by omega) (by simp [IntKind.bits])]
    have : n &&& 15 = n % 16 := Nat.and_two_pow_sub_one_eq_mod n 4
    rw [Int.toNat_natCast, show (15 : Int).toNat = 15 from rfl, this]; omega
  unfold symbols_Kind
  rw [e, i64w (by omega)]
theorem SymbolsPuts_true {s : Sym} (hx : Wf06 s) : law06_SymbolsPuts s = some true := by
  have h2 := inK_u8 hx.2.1
  have h4 := inK_u16 hx.2.2.2.1
  have ew : IntKind.i64.wrap s.2.1 = s.2.1 := i64w (by omega)
  have ed : Int.tdiv s.2.1 16 = s.2.1 / 16 := Int.tdiv_eq_ediv_of_nonneg h2.1
  have em : Int.tmod s.2.1 16 = s.2.1 % 16 := Int.tmod_eq_emod_of_nonneg h2.1
  have ew2 : IntKind.i64.wrap (s.2.1 / 16) = s.2.1 / 16 := i64w (by omega)
  unfold law06_SymbolsPuts
  rw [bd_eq law06_awake_true]
  simp only [Bool.not_true, Bool.false_eq_true, if_false]
  rw [jn_eq, show (s.1, s.2.1, s.2.2.1, s.2.2.2.1, s.2.2.2.2.1, s.2.2.2.2.2) = s from rfl, bd_eq (symbols_Put_eq hx), bd_eq (ref06_Put_eq hx), if_pos (by simp), bd_eq (Bind_eq hx.2.1), ew, ed, em, ew2, if_pos (by simp), bd_eq (Kind_eq hx.2.1), if_pos (by simp), bd_eq (show symbols_Defined s = some (s.2.2.2.1 != 0) from rfl)]
  by_cases h : s.2.2.2.1 = 0
  · simp [h]
  · have : s.2.2.2.1 > 0 := by omega
    simp [h, this]
/-- the symbol at a place -/
def sym (b : List Int) (p : Nat) : Sym := (le (cu b p 4), le (cu b (p + 4) 1), le (cu b (p + 5) 1), le (cu b (p + 6) 2), le (cu b (p + 8) 8), le (cu b (p + 16) 8))
def tabY (b : List Int) : List Sym := (List.range (b.length / 24)).map fun k => sym b (24 * k)
theorem tmod24y (n : Nat) : Int.tmod (n : Int) 24 = ((n % 24 : Nat) : Int) := by rw [Int.tmod_eq_emod_of_nonneg (by omega)]; omega
theorem cu_drop (b : List Int) (q p n : Nat) : cu (b.drop q) p n = cu b (q + p) n := by unfold cu; rw [List.drop_drop]
theorem cu_take {b : List Int} {m p n : Nat} (h : p + n ≤ m) : cu (b.take m) p n = cu b p n := by
  unfold cu; rw [List.drop_take, List.take_take]; congr 1; omega
theorem symbols_one_eq {b : List Int} (hb : b.length ≤ 9223372036854775807) (hB : Bytes b) (h : 24 ≤ b.length) : symbols_one b = some (sym b 0) := by
  have G : ∀ (p n : Nat), n = 1 ∨ n = 2 ∨ n = 4 ∨ n = 8 → p + n ≤ b.length → symbols_one_1 (p : Int) (n : Int) b = some (le (cu b p n)) := fun p n hn hp => by
    unfold symbols_one_1; rw [bd_eq (get_cu hb hB hn hp)]
  have b0 := cu_bd (n := 4) hB (show 0 + 4 ≤ b.length by omega)
  have b1 := cu_bd (n := 1) hB (show 4 + 1 ≤ b.length by omega)
  have b2 := cu_bd (n := 1) hB (show 5 + 1 ≤ b.length by omega)
  have b3 := cu_bd (n := 2) hB (show 6 + 2 ≤ b.length by omega)
  unfold symbols_one
  rw [bd_eq (show symbols_one_1 0 4 b = _ from G 0 4 (by omega) (by omega)), bd_eq (show symbols_one_1 4 1 b = _ from G 4 1 (by omega) (by omega)), bd_eq (show symbols_one_1 5 1 b = _ from G 5 1 (by omega) (by omega)),
    bd_eq (show symbols_one_1 6 2 b = _ from G 6 2 (by omega) (by omega)), bd_eq (show symbols_one_1 8 8 b = _ from G 8 8 (by omega) (by omega)), bd_eq (show symbols_one_1 16 8 b = _ from G 16 8 (by omega) (by omega)), u32w (by omega), u8w (by omega), u8w (by omega), u16w (by omega)]
  rfl
theorem symbols_Table_eq {b : List Int} (hb : b.length ≤ 100000) (hB : Bytes b) : symbols_Table b = some (if b.length % 24 = 0 then (tabY b, 0) else ([], 10)) := by
  unfold symbols_Table tabY
  rw [tmod24y]
  by_cases hm : b.length % 24 = 0
  · rw [hm, if_neg (by simp), if_pos rfl, jn_eq]
    refine loop_at (fun i => (b.drop (24 * i), (List.range i).map fun k => sym b (24 * k))) (b.length / 24) (by simp) (by omega) ?_
    intro i rec hi hrec
    dsimp only at hrec ⊢
    have hdl : (b.drop (24 * i)).length = b.length - 24 * i := List.length_drop
    by_cases hlt : i < b.length / 24
    · have hrec := hrec hlt
      have h24 : 24 * i + 24 ≤ b.length := by omega
      have hc : cutL (b.drop (24 * i)) 0 24 = (b.drop (24 * i)).take 24 := by unfold cutL; rfl
      have hd : cutL (b.drop (24 * i)) 24 (((b.drop (24 * i)).length : Nat) : Int) = b.drop (24 * (i + 1)) := by
        unfold cutL; rw [Int.toNat_natCast, List.take_length, show (24 : Int).toNat = 24 from rfl, List.drop_drop]; rfl
      have hl : ((b.drop (24 * i)).take 24).length = 24 := by rw [List.length_take]; omega
      have hs : sym ((b.drop (24 * i)).take 24) 0 = sym b (24 * i) := by
        unfold sym
        rw [cu_take (by omega), cu_take (by omega), cu_take (by omega), cu_take (by omega), cu_take (by omega), cu_take (by omega), cu_drop, cu_drop, cu_drop, cu_drop, cu_drop, cu_drop]; rfl
      rw [List.range_succ, List.map_append] at hrec
      rw [if_pos (by rw [decide_eq_true_eq]; omega), gd_pos (by omega), hc, bd_eq (symbols_one_eq (by omega) ((hB.drop _).take _) (by omega)), hs, gd_pos (by simp; omega), gd_pos (by omega), hd]
      exact hrec
    · obtain rfl : i = b.length / 24 := by omega
      rw [if_neg (by rw [decide_eq_true_eq]; omega)]
  · have h1 : ((b.length % 24 : Nat) : Int) ≠ 0 := by omega
    rw [if_pos (bne_iff_ne.2 h1), if_neg hm]
theorem le_one {b : List Int} {p : Nat} (h : p < b.length) : le (cu b p 1) = b[p] := by
  unfold cu; rw [List.drop_eq_getElem_cons h, List.take_succ_cons, List.take_zero]; simp [le]
theorem ref06_Table_eq {b : List Int} (hb : b.length ≤ 100000) (hB : Bytes b) : ref06_Table b = some (if b.length % 24 = 0 then (tabY b, 0) else ([], 10)) := by
  unfold ref06_Table tabY
  rw [tmod24y]
  by_cases hm : b.length % 24 = 0
  · rw [hm, if_neg (by simp), if_pos rfl, jn_eq]
    refine loop_at (fun i => (((List.range i).map fun k => sym b (24 * k)), ((24 * i : Nat) : Int))) (b.length / 24) (by simp) (by omega) ?_
    intro i rec hi hrec
    dsimp only at hrec ⊢
    by_cases hlt : i < b.length / 24
    · have hrec := hrec hlt
      have h24 : 24 * i + 24 ≤ b.length := by omega
      have e0 : IntKind.u64.wrap ((24 * i : Nat) : Int) = ((24 * i : Nat) : Int) := by rw [u64w (by omega)]
      have w4 : IntKind.i64.wrap (((24 * i : Nat) : Int) + 4) = ((24 * i + 4 : Nat) : Int) := by rw [i64w (by omega)]; omega
      have w5 : IntKind.i64.wrap (((24 * i : Nat) : Int) + 5) = ((24 * i + 5 : Nat) : Int) := by rw [i64w (by omega)]; omega
      have e6 : IntKind.u64.wrap (IntKind.i64.wrap (((24 * i : Nat) : Int) + 6)) = ((24 * i + 6 : Nat) : Int) := by rw [i64w (by omega), u64w (by omega)]; omega
      have e8 : IntKind.u64.wrap (IntKind.i64.wrap (((24 * i : Nat) : Int) + 8)) = ((24 * i + 8 : Nat) : Int) := by rw [i64w (by omega), u64w (by omega)]; omega
      have e16 : IntKind.u64.wrap (IntKind.i64.wrap (((24 * i : Nat) : Int) + 16)) = ((24 * i + 16 : Nat) : Int) := by rw [i64w (by omega), u64w (by omega)]; omega
      have e24 : IntKind.i64.wrap (((24 * i : Nat) : Int) + 24) = ((24 * (i + 1) : Nat) : Int) := by rw [i64w (by omega)]; omega
      have b0 := cu_bd (n := 4) hB (show 24 * i + 4 ≤ b.length by omega)
      have b3 := cu_bd (n := 2) hB (show 24 * i + 6 + 2 ≤ b.length by omega)
      rw [List.range_succ, List.map_append] at hrec
      rw [dif_lt (by omega), if_pos rfl, e0, w4, w5, e6, e8, e16, e24]
      rw [bd_eq (rget4 (by omega) hB (by omega)), bd_eq (rget2 (by omega) hB (by omega)), bd_eq (rget8 (by omega) hB (by omega)), bd_eq (rget8 (by omega) hB (by omega)), gd_pos (by omega), gd_pos (by omega), gd_pos (by simp; omega), let1_eq, gt_nat (show 24 * i + 4 < b.length by omega), gt_nat (show 24 * i + 5 < b.length by omega), ← le_one, ← le_one, u32w (by omega), u16w (by omega)]
      exact hrec
    · obtain rfl : i = b.length / 24 := by omega
      rw [dif_ge (by omega), if_neg (by simp)]
  · have h1 : ((b.length % 24 : Nat) : Int) ≠ 0 := by omega
    rw [if_pos (bne_iff_ne.2 h1), if_neg hm]
theorem SymbolsTables_true {b : List Int} (_ : b.length ≤ 9223372036854775807) (hb : ∀ n ∈ b, InK .u8 n) : law06_SymbolsTables b = some true := by
  unfold law06_SymbolsTables
  rw [bd_eq law06_awake_true]
  simp only [Bool.not_true, Bool.false_eq_true, if_false]
  by_cases hc : b.length ≤ 4000
  · rw [if_neg (by simp; omega), bd_eq (symbols_Table_eq (by omega) (bytes_of hb)), bd_eq (ref06_Table_eq (by omega) (bytes_of hb))]
    have hL : (if b.length % 24 = 0 then (tabY b, (0 : Int)) else ([], 10)).1.length ≤ 9223372036854775807 := by
      unfold tabY; split <;> simp; omega
    generalize (if b.length % 24 = 0 then (tabY b, (0 : Int)) else ([], 10)) = r at hL ⊢
    rw [jn_eq, if_neg (by simp)]
    dsimp only
    rw [if_neg (by simp), jn_eq]
    refine loop_at (fun i => (i : Int)) r.1.length rfl hL ?_
    intro i rec hi hrec
    by_cases hlt : i < r.1.length
    · rw [dif_lt hlt, if_pos rfl, gd_pos (by omega), gd_pos (by omega), i64s (by omega), if_neg (by simp), let1_eq, hrec hlt]
    · rw [dif_ge (by omega), if_neg (by simp)]
  · rw [if_pos (by simp; omega)]

end Dm
