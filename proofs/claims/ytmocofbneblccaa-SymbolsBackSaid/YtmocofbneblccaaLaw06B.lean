/-
  The laws of layer 6 (symbols) over the shallow forms: what is put is read; what tables may be. Conditions: numbers are in their kinds' ranges, lengths at most 2^63 - 1.
-/
import Derived.Test.YtmocofbneblccaaLaw06
namespace Dm
open Go

theorem sym_yput {s : Sym} (hx : Wf06 s) {pre post : List Int} {p : Nat} (hp : p = pre.length) : sym (pre ++ (yput s ++ post)) p = s := by
  obtain ⟨a, b, c, d, e, f⟩ := s
  obtain ⟨h1, h2, h3, h4, h5, h6⟩ := hx
  have h1 := inK_u32 h1
  have h2 := inK_u8 h2
  have h3 := inK_u8 h3
  have h4 := inK_u16 h4
  have h5 := inK_u64 h5
  have h6 := inK_u64 h6
  simp only at h1 h2 h3 h4 h5 h6
  have hL := yput_length (a, b, c, d, e, f)
  have hcu : ∀ q n, q + n ≤ 24 → cu (pre ++ (yput (a, b, c, d, e, f) ++ post)) (p + q) n = cu (yput (a, b, c, d, e, f)) q n := by
    intro q n h
    rw [cu_right' (by omega), show p + q - pre.length = q by omega, cu_left (by omega)]
  have c0 : cu (yput (a, b, c, d, e, f)) 0 4 = leB 4 a := rfl
  have c4 : cu (yput (a, b, c, d, e, f)) 4 1 = leB 1 b := rfl
  have c5 : cu (yput (a, b, c, d, e, f)) 5 1 = leB 1 c := rfl
  have c6 : cu (yput (a, b, c, d, e, f)) 6 2 = leB 2 d := rfl
  have c8 : cu (yput (a, b, c, d, e, f)) 8 8 = leB 8 e := rfl
  have c16 : cu (yput (a, b, c, d, e, f)) 16 8 = leB 8 f := rfl
  unfold sym
  rw [show cu (pre ++ (yput (a, b, c, d, e, f) ++ post)) p 4 = _ from hcu 0 4 (by omega), hcu 4 1 (by omega), hcu 5 1 (by omega), hcu 6 2 (by omega), hcu 8 8 (by omega), hcu 16 8 (by omega), c0, c4, c5, c6, c8, c16]
  rw [le_leB (by omega) (by omega), le_leB (by omega) (by omega), le_leB (by omega) (by omega), le_leB (by omega) (by omega), le_leB (by omega) (by omega), le_leB (by omega) (by omega)]
theorem yputs_len : ∀ l : List Sym, ((l.map yput).flatten).length = 24 * l.length
  | [] => rfl
  | s :: l => by rw [List.map_cons, List.flatten_cons, List.length_append, yput_length, yputs_len l, List.length_cons]; omega
theorem yputs_bytes (l : List Sym) : Bytes ((l.map yput).flatten) := by
  intro x hx
  rw [List.mem_flatten] at hx
  obtain ⟨m, hm, hx⟩ := hx
  rw [List.mem_map] at hm
  obtain ⟨s, _, rfl⟩ := hm
  exact yput_bytes s x hx
theorem sym_yputs {l : List Sym} (hw : ∀ s ∈ l, Wf06 s) {i : Nat} (h : i < l.length) : sym ((l.map yput).flatten) (24 * i) = l[i] := by
  have e : (l.map yput).flatten = ((l.take i).map yput).flatten ++ (yput l[i] ++ ((l.drop (i + 1)).map yput).flatten) := by
    have : l = l.take i ++ l[i] :: l.drop (i + 1) := by rw [← List.drop_eq_getElem_cons h, List.take_append_drop]
    conv => lhs; rw [this]
    rw [List.map_append, List.flatten_append, List.map_cons, List.flatten_cons]
  rw [e]
  refine sym_yput (hw _ (List.getElem_mem h)) ?_
  rw [yputs_len, List.length_take]; omega
theorem tabY_yputs {l : List Sym} (hw : ∀ s ∈ l, Wf06 s) : tabY ((l.map yput).flatten) = l := by
  unfold tabY
  rw [yputs_len, Nat.mul_div_cancel_left _ (by omega)]
  apply List.ext_getElem (by rw [List.length_map, List.length_range])
  intro i h1 h2
  rw [List.getElem_map, List.getElem_range]
  exact sym_yputs hw h2

theorem cutL_all1 {α : Type} (x : α) (l : List α) : cutL (x :: l) 1 (((x :: l).length : Nat) : Int) = l := by
  unfold cutL; rw [Int.toNat_natCast, List.take_length]; rfl
def kOk (k : Int) : Bool := k == 0 || (k == 1 || (k == 2 || k == 6))
def free06 (s : Sym) : Bool := s.2.2.2.1 != 0 || (s.2.2.2.2.1 == 0 && (s.2.2.2.2.2 == 0 && s.2.1 / 16 != 0))
/-- may an entry but the first one be? -/
def mayY (s : Sym) : Bool := decide (s.2.1 / 16 ≤ 2) && (kOk (s.2.1 % 16) && (s.2.2.1 == 0 && (decide (s.2.2.2.1 ≤ 1) && (s.1 != 0 && free06 s))))
def nilY (s : Sym) : Bool := s.1 == 0 && (s.2.1 == 0 && (s.2.2.1 == 0 && (s.2.2.2.1 == 0 && (s.2.2.2.2.1 == 0 && s.2.2.2.2.2 == 0))))
def errY (s : Sym) : Int := if mayY s then 0 else 11
def chkY : List Sym → Int
  | [] => 0
  | s :: l => if nilY s then firstE errY l else 11
theorem Contains4 (k : Int) : slices_Contains_int_int ([0, 1, 2, 6] : List Int) k = some (kOk k) := by
  have h : slices_Index_int_int ([0, 1, 2, 6] : List Int) k = some (ixN 0 (fI (fun x => k == x) [0, 1, 2, 6])) := by
    unfold slices_Index_int_int
    rw [jn_eq]
    refine scan_ix _ (by simp) _ ?_ ?_
    · intro i rec hi
      rw [dif_lt hi, if_pos rfl, gd_pos (by omega), gt_nat hi, i64s (by simp at hi; omega)]
    · intro rec
      rw [dif_ge (Nat.le_refl _), if_neg (by simp)]
  unfold slices_Contains_int_int
  rw [h, some_bind, ixN_ge, fI_isSome]
  simp [kOk]
theorem symbols_may_eq {s : Sym} (hx : Wf06 s) : symbols_may s = some (mayY s) := by
  obtain ⟨a, b, c, d, e, f⟩ := s
  have hb : symbols_Bind (a, b, c, d, e, f) = some (b / 16) := Bind_eq hx.2.1
  have hk : symbols_Kind (a, b, c, d, e, f) = some (b % 16) := Kind_eq hx.2.1
  have hd : symbols_Defined (a, b, c, d, e, f) = some (d != 0) := rfl
  unfold symbols_may mayY free06
  simp only [jn_eq, let1_eq, hb, hk, hd, some_bind, Contains4]
  cases decide (b / 16 ≤ 2) <;> cases kOk (b % 16) <;> cases (c == 0) <;> cases decide (d ≤ 1) <;> cases (a != 0) <;> cases (d != 0) <;> cases (e == 0) <;> cases (f == 0) <;> rfl
theorem kchain {ρ : Type} (k : Int) (A B : ρ) : (if (k != 0) = true then (if (k != 1) = true then (if (k != 2) = true then (if (k != 6) = true then A else B) else B) else B) else B) = if kOk k then B else A := by
  unfold kOk bne
  cases (k == 0) <;> cases (k == 1) <;> cases (k == 2) <;> cases (k == 6) <;> rfl
theorem chkY_loop (l : List Sym) (hl : l.length ≤ 9223372036854775807) {body : Int → (Int → Option Int) → Option Int}
    (h : ∀ (i : Nat) rec (hi : i < l.length), body (i : Int) rec = if (if i = 0 then nilY l[i] else mayY l[i]) then rec ((i + 1 : Nat) : Int) else some 11)
    (h1 : ∀ rec, body (l.length : Int) rec = some 0) : loopK body bigF 0 = some (chkY l) := by
  refine loop_to (fun i => (i : Int)) (fun i => some (if i = 0 then chkY l else firstE errY (l.drop i))) l.length rfl rfl hl ?_
  intro i rec hi hrec
  by_cases hlt : i < l.length
  · rw [h i rec hlt]
    by_cases h0 : i = 0
    · subst h0
      rw [if_pos rfl, if_pos rfl]
      cases l with
      | nil => simp at hlt
      | cons x xs =>
        rw [if_neg (by omega)] at hrec
        have hr : rec ((0 + 1 : Nat) : Int) = some (firstE errY xs) := hrec hlt
        rw [hr]
        show (if nilY x = true then some (firstE errY xs) else some 11) = some (if nilY x = true then firstE errY xs else 11)
        cases nilY x <;> rfl
    · rw [if_neg h0, if_neg h0, firstE_drop errY l hlt, errY]
      rw [if_neg (by omega)] at hrec
      cases hm : mayY l[i]
      · simp
      · rw [if_pos rfl, if_pos rfl, if_pos rfl]; exact hrec hlt
  · obtain rfl : i = l.length := by omega
    rw [h1]
    by_cases h0 : l.length = 0
    · obtain rfl := List.length_eq_zero_iff.1 h0; rfl
    · rw [if_neg h0, List.drop_length]; rfl
theorem symbols_Check_eq {l : List Sym} (hl : l.length ≤ 1000000) (hw : ∀ s ∈ l, Wf06 s) : symbols_Check l = some (chkY l) := by
  unfold symbols_Check
  rw [jn_eq]
  refine chkY_loop l (by omega) ?_ ?_
  · intro i rec hi
    rw [dif_lt hi, if_pos rfl, gd_pos (by omega), jn_eq, gt_nat hi, i64s (by omega)]
    have hm := symbols_may_eq (hw _ (List.getElem_mem hi))
    by_cases h0 : i = 0
    · subst h0
      rw [if_pos (c := (((0 : Nat) : Int) == 0) = true) rfl, if_pos (c := (0 : Nat) = 0) rfl]
      unfold nilY
      generalize (l[0].1 == 0 && (l[0].2.1 == 0 && (l[0].2.2.1 == 0 && (l[0].2.2.2.1 == 0 && (l[0].2.2.2.2.1 == 0 && l[0].2.2.2.2.2 == 0))))) = x
      cases x <;> rfl
    · have e0 : ((i : Int) == 0) = false := by simp; omega
      have e1 : decide ((i : Int) > 0) = true := by simp; omega
      rw [e0, e1, if_neg (c := (false = true)) (by simp), if_pos (c := (true = true)) rfl, if_neg (c := i = 0) h0, hm, some_bind]
      cases mayY l[i] <;> rfl
  · intro rec
    rw [dif_ge (Nat.le_refl _), if_neg (by simp)]
theorem ref06_Check_eq {l : List Sym} (hl : l.length ≤ 1000000) (hw : ∀ s ∈ l, Wf06 s) : ref06_Check l = some (chkY l) := by
  unfold ref06_Check
  rw [jn_eq]
  refine chkY_loop l (by omega) ?_ ?_
  · intro i rec hi
    have hx := hw _ (List.getElem_mem hi)
    rw [dif_lt hi, if_pos rfl, jn_eq, gd_pos (by omega), gt_nat hi, i64s (by omega)]
    generalize l[i] = s at hx
    obtain ⟨a, b, c, d, e, f⟩ := s
    have h2 := inK_u8 hx.2.1
    simp only at h2
    by_cases h0 : i = 0
    · subst h0
      rw [if_pos (c := (((0 : Nat) : Int) == 0) = true) rfl, if_pos (c := (0 : Nat) = 0) rfl]
      unfold nilY bne
      simp only [jn_eq, let1_eq]
      cases (a == 0) <;> cases (b == 0) <;> cases (c == 0) <;> cases (d == 0) <;> cases (e == 0) <;> cases (f == 0) <;> rfl
    · have e0 : ((i : Int) == 0) = false := by simp; omega
      have ed : IntKind.u8.wrap (Int.tdiv b 16) = b / 16 := by rw [Int.tdiv_eq_ediv_of_nonneg h2.1, u8w (by omega)]
      have em : Int.tmod b 16 = b % 16 := Int.tmod_eq_emod_of_nonneg h2.1
      have n1 : decide (b / 16 > 2) = !decide (b / 16 ≤ 2) := by
        by_cases h : b / 16 ≤ 2
        · simp [h]
        · simp [h]; omega
      have n2 : decide (d > 1) = !decide (d ≤ 1) := by
        by_cases h : d ≤ 1
        · simp [h]
        · simp [h]; omega
      rw [e0, if_neg (c := (false = true)) (by simp), if_neg (c := i = 0) h0]
      simp only [jn_eq, let1_eq, ed, em, kchain, n1, n2]
      unfold mayY free06 bne
      dsimp only
      cases decide (b / 16 ≤ 2)
      · rfl
      cases kOk (b % 16)
      · rfl
      cases (c == 0)
      · rfl
      cases decide (d ≤ 1)
      · rfl
      cases (a == 0)
      · cases (d == 0)
        · rfl
        · cases (e == 0) <;> cases (f == 0) <;> cases (b / 16 == 0) <;> rfl
      · rfl
  · intro rec
    rw [dif_ge (Nat.le_refl _), if_neg (by simp)]
theorem SymbolsChecks_true {l : List Sym} (_ : l.length ≤ 9223372036854775807) (hw : ∀ s ∈ l, Wf06 s) : law06_SymbolsChecks l = some true := by
  unfold law06_SymbolsChecks
  rw [bd_eq law06_awake_true]
  simp only [Bool.not_true, Bool.false_eq_true, if_false]
  by_cases hc : l.length ≤ 200
  · rw [if_neg (by simp; omega), bd_eq (symbols_Check_eq (by omega) hw), bd_eq (ref06_Check_eq (by omega) hw)]; simp
  · rw [if_pos (by simp; omega)]
theorem Wf06_zero : Wf06 ((0, 0, 0, 0, 0, 0) : Sym) := by decide
theorem SymbolsOne_true {s : Sym} (hx : Wf06 s) : law06_SymbolsOne s = some true := by
  have hw : ∀ y ∈ ([(0, 0, 0, 0, 0, 0), s] : List Sym), Wf06 y := by
    intro y hy
    rcases List.mem_cons.1 hy with rfl | hy
    · exact Wf06_zero
    · rw [List.mem_singleton.1 hy]; exact hx
  have hw1 : ∀ y ∈ ([s] : List Sym), Wf06 y := by
    intro y hy; rw [List.mem_singleton.1 hy]; exact hx
  unfold law06_SymbolsOne
  rw [bd_eq law06_awake_true]
  simp only [Bool.not_true, Bool.false_eq_true, if_false]
  rw [jn_eq, show (s.1, s.2.1, s.2.2.1, s.2.2.2.1, s.2.2.2.2.1, s.2.2.2.2.2) = s from rfl, bd_eq (symbols_Check_eq (by simp) hw), bd_eq (ref06_Check_eq (by simp) hw), if_pos (by simp), gd_pos (by simp), cutL_all1,
    bd_eq (symbols_Check_eq (by simp) hw1), gd_pos (by simp), bd_eq (ref06_Check_eq (by simp) hw1)]
  simp
theorem SymbolsBack_true {l : List Sym} (_ : l.length ≤ 9223372036854775807) (hw : ∀ s ∈ l, Wf06 s) : law06_SymbolsBack l = some true := by
  unfold law06_SymbolsBack
  rw [bd_eq law06_awake_true]
  simp only [Bool.not_true, Bool.false_eq_true, if_false]
  by_cases hc : l.length ≤ 200
  · rw [if_neg (by simp; omega), jn_eq]
    refine loop_at (fun i => (((l.take i).map yput).flatten, (i : Int))) l.length (by simp) (by omega) ?_
    intro i rec hi hrec
    dsimp only at hrec ⊢
    by_cases hlt : i < l.length
    · have hrec := hrec hlt
      have hl1 : (((l.take i).map yput).flatten).length ≤ 24 * 200 := by rw [yputs_len, List.length_take]; omega
      rw [List.take_succ_eq_append_getElem hlt, List.map_append, List.flatten_append] at hrec
      simp only [List.map_cons, List.map_nil, List.flatten_cons, List.flatten_nil, List.append_nil] at hrec
      rw [dif_lt hlt, if_pos rfl, gd_pos (by omega), gt_nat hlt, bd_eq (symbols_Put_eq (hw _ (List.getElem_mem hlt))), gd_pos (by rw [yput_length]; omega), let1_eq, i64s (by omega)]
      exact hrec
    · obtain rfl : i = l.length := by omega
      rw [dif_ge (by omega), if_neg (by simp), List.take_of_length_le (Nat.le_refl _)]
      clear hrec
      have hL := yputs_len l
      have hT : symbols_Table ((l.map yput).flatten) = some (l, 0) := by
        rw [symbols_Table_eq (by omega) (yputs_bytes l), if_pos (by omega), tabY_yputs hw]
      have hT2 : symbols_Table ((l.map yput).flatten ++ ([0] : List Int)) = some ([], 10) := by
        rw [symbols_Table_eq (by rw [List.length_append, hL]; simp only [List.length_cons, List.length_nil]; omega) ((yputs_bytes l).append (by intro x hx; simp at hx; omega)), if_neg (by rw [List.length_append, hL]; simp only [List.length_cons, List.length_nil]; omega)]
      rw [bd_eq hT, jn_eq, if_neg (by simp)]
      dsimp only
      rw [if_neg (by simp), jn_eq]
      refine loop_at (fun i => (i : Int)) l.length rfl (by omega) ?_
      intro i rec hi hrec
      by_cases hlt : i < l.length
      · rw [dif_lt hlt, if_pos rfl, gd_pos (by omega), gd_pos (by omega), i64s (by omega), if_neg (by simp), let1_eq, hrec hlt]
      · rw [dif_ge (by omega), if_neg (by simp), gd_pos (by rw [hL]; simp only [List.length_cons, List.length_nil]; omega), bd_eq hT2]; rfl
  · rw [if_pos (by simp; omega)]

end Dm
