/-
  What reading notes comes to, over the shallow forms of notes and of its reference. Conditions: bytes from 0 to 255.
-/
import Derived.Test.YtmlghbdlhjinaaaLaw08
namespace Dm
open Go

theorem take1_eq {n : Nat} {b : List Int} (hb : b.length ≤ 1000000) : notes_Get_1 (n : Int) b = some (if n > b.length then ([], 10, b) else (b.take n, 0, b.drop n)) := by
  have e : IntKind.u64.wrap ((b.length : Nat) : Int) = b.length := u64w (by omega)
  unfold notes_Get_1
  rw [e]
  by_cases h : n > b.length
  · rw [if_pos (by rw [decide_eq_true_eq]; omega), if_pos h]
  · have hc : cutL b 0 (n : Int) = b.take n := by unfold cutL; rw [Int.toNat_natCast]; rfl
    have hd : cutL b (n : Int) ((b.length : Nat) : Int) = b.drop n := by unfold cutL; rw [Int.toNat_natCast, Int.toNat_natCast, List.take_length]
    have hk : slices_Clone_byte_byte (b.take n) = some (b.take n) := by
      unfold slices_Clone_byte_byte; exact gd_pos (by rw [List.length_take]; omega)
    rw [if_neg (by rw [decide_eq_true_eq]; omega), if_neg h, gd_pos (by omega), hc, bd_eq hk, gd_pos (by omega), hd]
theorem any_not_all (l : List Int) : l.any (fun x => x != 0) = !l.all (· == 0) := by
  induction l with
  | nil => rfl
  | cons x xs ih => rw [List.any_cons, List.all_cons, ih]; cases h : x == 0 <;> simp [bne, h]
theorem zeros_eq {b : List Int} (hb : b.length ≤ 1000000) : notes_zeros b = some (b.all (· == 0)) := by
  have h : slices_IndexFunc_byte_byte_zeros_1 b = some (ixN 0 (fI (fun x => x != 0) b)) := by
    unfold slices_IndexFunc_byte_byte_zeros_1
    rw [jn_eq]
    refine scan_ix b (by omega) _ ?_ ?_
    · intro i rec hi
      rw [dif_lt hi, if_pos rfl, gd_pos (by omega), gt_nat hi, i64s (by omega), bd_eq (show notes_zeros_1 b[i] = some (b[i] != 0) from rfl)]
    · intro rec
      rw [dif_ge (Nat.le_refl _), if_neg (by simp)]
  have h2 : slices_ContainsFunc_byte_byte_zeros_1 b = some (b.any (fun x => x != 0)) := by
    unfold slices_ContainsFunc_byte_byte_zeros_1
    rw [bd_eq h, ixN_ge, fI_isSome]
  unfold notes_zeros
  rw [bd_eq h2, any_not_all, Bool.not_not]
theorem padded_eq {n : Nat} (hn : n ≤ 4294967295) {b : List Int} (hb : b.length ≤ 1000000) : notes_Get_2_Get_1 (n : Int) b =
    some (if upN n > b.length then ([], 10, b) else if (cu b n (upN n - n)).all (· == 0) then (b.take n, 0, b.drop (upN n)) else ([], 11, b.drop (upN n))) := by
  have u1 := upN_le n
  unfold notes_Get_2_Get_1
  rw [bandn3 (by omega), bd_eq (take1_eq hb)]
  by_cases h : upN n > b.length
  · rw [if_pos h, if_pos (by simp), if_pos h]
  · rw [if_neg h, if_neg (by simp), if_neg h]
    have hl : (b.take (upN n)).length = upN n := by rw [List.length_take]; omega
    have hc : cutL (b.take (upN n)) (n : Int) ((upN n : Nat) : Int) = cu b n (upN n - n) := by
      unfold cutL cu; rw [Int.toNat_natCast, Int.toNat_natCast, List.take_take, Nat.min_self, List.drop_take]
    have hc2 : cutL (b.take (upN n)) 0 (n : Int) = b.take n := by
      unfold cutL; rw [Int.toNat_natCast, List.take_take, Nat.min_eq_left u1]; rfl
    have hcl : (cu b n (upN n - n)).length = upN n - n := cu_length (by omega)
    dsimp only
    rw [hl, gd_pos (by omega), hc, bd_eq (zeros_eq (by omega))]
    cases (cu b n (upN n - n)).all (· == 0)
    · rfl
    · rw [if_neg (by simp), gd_pos (by omega), hc2]; rfl
theorem fI_app {α : Type} (p : α → Bool) : ∀ (a : List α) (z : α), ixN 0 (fI p (a ++ [z])) = if a.any p then ixN 0 (fI p a) else if p z then (a.length : Int) else -1
  | [], z => by
    simp only [List.nil_append, fI]
    cases p z <;> rfl
  | x :: xs, z => by
    rw [List.cons_append, fI, fI, List.any_cons]
    cases hx : p x
    · have ih := fI_app p xs z
      simp only [Bool.false_eq_true, if_false, Bool.false_or]
      rw [ixN_succ]
      have sh : ∀ o : Option Nat, ixN 1 o = if o.isSome then ixN 0 o + 1 else -1 := by
        intro o; cases o with
        | none => rfl
        | some k => simp only [ixN, Option.isSome, if_true]; omega
      rw [sh, fI_isSome, ih, List.any_append]
      by_cases ha : xs.any p = true
      · rw [ha]
        simp only [Bool.true_or, if_true]
        rw [ixN_succ, sh, fI_isSome, ha, if_pos rfl]
      · have ha : xs.any p = false := by simpa using ha
        rw [ha]
        cases hz : p z
        · simp [hz]
        · simp [hz]
    · simp
theorem Index0_eq {l : List Int} (hl : l.length ≤ 9223372036854775807) : slices_Index_byte_byte l 0 = some (ixN 0 (fI (fun x => 0 == x) l)) := by
  unfold slices_Index_byte_byte
  rw [jn_eq]
  refine scan_ix l hl _ ?_ ?_
  · intro i rec hi
    rw [dif_lt hi, if_pos rfl, gd_pos (by omega), gt_nat hi, i64s (by omega)]
  · intro rec
    rw [dif_ge (Nat.le_refl _), if_neg (by simp)]
theorem ixN_lt {o : Option Nat} {n : Nat} (h : ∀ k, o = some k → k < n) : ixN 0 o < n := by
  cases o with
  | none => simp only [ixN]; omega
  | some k => have := h k rfl; simp only [ixN]; omega
/-- the first 0 is the last byte -/
theorem last_zero (a : List Int) (z : Int) : (ixN 0 (fI (fun x => 0 == x) (a ++ [z])) != (a.length : Int)) = !(a.all (· != 0) && z == 0) := by
  rw [fI_app]
  have ha : a.any (fun x => 0 == x) = !a.all (· != 0) := by
    induction a with
    | nil => rfl
    | cons x xs ih => rw [List.any_cons, List.all_cons, ih]; cases h : (0 == x) <;> cases h2 : (x == 0) <;> simp_all [bne]
  rw [ha]
  cases h : a.all (· != 0)
  · have hany : a.any (fun x => 0 == x) = true := by rw [ha, h]; rfl
    have hlt := ixN_lt (o := fI (fun x => 0 == x) a) (n := a.length) fun k hk => (fI_some hk).1
    simp only [Bool.not_false, if_true, Bool.false_and]
    rw [bne_iff_ne]; omega
  · simp only [Bool.not_true, Bool.false_eq_true, if_false, Bool.true_and]
    by_cases hz : z = 0
    · subst hz; simp
    · have h1 : (0 == z) = false := by simpa using fun e => hz e.symm
      have h2 : (z == 0) = false := by simpa using hz
      rw [h1, h2]
      simp only [Bool.false_eq_true, if_false, Bool.not_false]
      rw [bne_iff_ne]; omega
theorem nameOk_parts {b : List Int} (h0 : nN b ≠ 0) (h : 12 + upN (nN b) ≤ b.length) : nameOk b = ((cu b 12 (nN b - 1)).all (· != 0) && (b.getD (12 + (nN b - 1)) 0 == 0 && (cu b (12 + nN b) (upN (nN b) - nN b)).all (· == 0))) := by
  have u := upN_le (nN b)
  unfold nameOk
  have e : cu b (12 + (nN b - 1)) (upN (nN b) - (nN b - 1)) = b.getD (12 + (nN b - 1)) 0 :: cu b (12 + nN b) (upN (nN b) - nN b) := by
    have hlt : 12 + (nN b - 1) < b.length := by omega
    unfold cu
    rw [List.drop_eq_getElem_cons hlt, show upN (nN b) - (nN b - 1) = (upN (nN b) - nN b) + 1 by omega, List.take_succ_cons, List.getD_eq_getElem?_getD, List.getElem?_eq_getElem hlt, show 12 + (nN b - 1) + 1 = 12 + nN b by omega]; rfl
  rw [e, List.all_cons]
theorem cu_snoc {b : List Int} {p n : Nat} (h : p + n < b.length) : cu b p (n + 1) = cu b p n ++ [b.getD (p + n) 0] := take_snoc h

/-- the three numbers of a note's head -/
def heads (b : List Int) : List Int := [le (cu b 0 4), le (cu b 4 4), le (cu b 8 4)]
theorem cu_take0 {b : List Int} {m p n : Nat} (h : p + n ≤ m) : cu (b.take m) p n = cu b p n := by
  unfold cu; rw [List.drop_take, List.take_take]; congr 1; omega
theorem head_loop {ρ : Type} {b : List Int} (hb : b.length ≤ 1000000) (hB : Bytes b) (h12 : 12 ≤ b.length) {R : Option ρ} (k4 : List Int → Option ρ) (hk : k4 (heads b) = R) :
    loopK (fun (s6 : Int × (List Int)) rec2 =>
      (if (decide (s6.1 < 3)) = true then
        (octets_Get (b.take 12) (IntKind.u64.wrap (IntKind.i64.wrap (4 * s6.1))) 4).bind fun z2 =>
        gd ((0 : Int) ≤ s6.1 ∧ s6.1 < ((3 : Nat) : Int)) <|
        rec2 (IntKind.i64.wrap (s6.1 + 1), (s6.2.set (Int.toNat s6.1) z2.1))
      else
        k4 s6.2)) bigF (0, (List.replicate 3 0 : List Int)) = R := by
  have hl : (b.take 12).length = 12 := by rw [List.length_take]; omega
  have G : ∀ p : Nat, p + 4 ≤ 12 → octets_Get (b.take 12) (p : Int) 4 = some (le (cu b p 4), 0) := by
    intro p hp
    rw [get4 (by omega) (hB.take 12) (by omega), cu_take0 hp]
  have S : ∀ i : Nat, i < 3 → ((heads b).take i ++ List.replicate (3 - i) 0).set i ((heads b).getD i 0) = (heads b).take (i + 1) ++ List.replicate (3 - (i + 1)) 0 := by
    intro i hi
    have : i = 0 ∨ i = 1 ∨ i = 2 := by omega
    rcases this with rfl | rfl | rfl <;> rfl
  have D : ∀ i : Nat, i < 3 → (heads b).getD i 0 = le (cu b (4 * i) 4) := by
    intro i hi
    have : i = 0 ∨ i = 1 ∨ i = 2 := by omega
    rcases this with rfl | rfl | rfl <;> rfl
  refine loop_at (fun i => ((i : Int), (heads b).take i ++ List.replicate (3 - i) 0)) 3 rfl (by omega) ?_
  intro i rec hi hrec
  dsimp only at hrec ⊢
  by_cases hlt : i < 3
  · have e1 : IntKind.u64.wrap (IntKind.i64.wrap (4 * (i : Int))) = ((4 * i : Nat) : Int) := by rw [i64w (by omega), u64w (by omega)]; omega
    have hrec := hrec hlt
    rw [← S i hlt, D i hlt] at hrec
    rw [if_pos (by rw [decide_eq_true_eq]; omega), e1, bd_eq (G (4 * i) (by omega)), gd_pos (by omega), i64s (by omega), Int.toNat_natCast]
    exact hrec
  · obtain rfl : i = 3 := by omega
    rw [if_neg (by simp)]
    exact hk
theorem wrap32 {x : Int} (h : 0 ≤ x ∧ x < 256 ^ 4) : IntKind.u32.wrap x = x := u32w (by omega)
/-- one note is read -/
def oneR {ρ : Type} (b : List Int) (acc : List Note) (err : Int → Option ρ) (k : List Note → List Int → Option ρ) : Option ρ :=
  if noteE b ≠ 0 then err (noteE b) else k (acc ++ [noteV b]) (b.drop (noteK b))
theorem notes_Get_eq {b : List Int} (hb : b.length ≤ 9223372036854775807) (hB : Bytes b) : notes_Get b = some (if b.length > 65536 then ([], 13) else getT b []) := by
  unfold notes_Get
  by_cases h6 : b.length > 65536
  · rw [if_pos (by rw [decide_eq_true_eq]; omega), if_pos h6]
  rw [if_neg (by rw [decide_eq_true_eq]; omega), if_neg h6, jn_eq]
  refine loop_run (fun s => Bytes s.2 ∧ s.2.length ≤ 65536 ∧ s.1.length + s.2.length ≤ 65536 ∧ getT s.2 s.1 = getT b []) (fun s => s.2.length) ?_ bigF ([], b) ⟨hB, by simp only []; omega, by simp only [List.length_nil]; omega, rfl⟩ (lt_bigF (by simp only []; omega))
  rintro ⟨acc, c⟩ rec ⟨hc, hc1, hc2, hg⟩ hrec
  simp only at hc hc1 hc2 hg hrec ⊢
  rw [← hg]
  by_cases h0 : c.length = 0
  · obtain rfl := List.length_eq_zero_iff.1 h0
    rw [if_neg (by simp), getT_nil]
  rw [if_pos (by rw [decide_eq_true_eq]; omega), jn_eq, bd_eq (show notes_Get_1 12 c = _ from take1_eq (n := 12) (by omega))]
  by_cases a1 : c.length < 12
  · have hE : noteE c = 10 := by unfold noteE; rw [if_pos a1]
    rw [if_pos (c := 12 > c.length) a1, if_pos (by simp), getT_err h0 (by rw [hE]; omega), hE]
  rw [if_neg (c := 12 > c.length) a1]
  dsimp only
  rw [if_neg (by simp)]
  refine jn_gen fun k4 hk4 => ?_
  refine head_loop (by omega) hc (by omega) k4 ?_
  rw [hk4]
  clear hk4
  have b0 := cu_bd (n := 4) hc (show 0 + 4 ≤ c.length by omega)
  have b4 := cu_bd (n := 4) hc (show 4 + 4 ≤ c.length by omega)
  have b8 := cu_bd (n := 4) hc (show 8 + 4 ≤ c.length by omega)
  have g0 : gt (heads c) 0 = ((nN c : Nat) : Int) := by show le (cu c 0 4) = _; unfold nN; omega
  have g1 : gt (heads c) 1 = ((nD c : Nat) : Int) := by show le (cu c 4 4) = _; unfold nD; omega
  have g2 : gt (heads c) 2 = nT c := rfl
  have n0 : nN c ≤ 4294967295 := by unfold nN; omega
  have n1 : nD c ≤ 4294967295 := by unfold nD; omega
  have uN := upN_le (nN c)
  have uD := upN_le (nD c)
  have e2 : IntKind.u32.wrap (nT c) = nT c := wrap32 b8
  dsimp only
  rw [gd_pos (by omega), g0, g1, g2]
  by_cases a2 : nN c = 0
  · have hE : noteE c = 11 := by unfold noteE; rw [if_neg a1, if_pos a2]
    rw [if_pos (by rw [a2]; rfl), getT_err h0 (by rw [hE]; omega), hE]
  have dl : (c.drop 12).length = c.length - 12 := List.length_drop
  rw [if_neg (by rw [beq_iff_eq]; omega), gd_pos (by omega), bd_eq (padded_eq n0 (by omega))]
  by_cases a3 : c.length < 12 + upN (nN c)
  · have hE : noteE c = 10 := by unfold noteE; rw [if_neg a1, if_neg a2, if_pos a3]
    rw [if_pos (c := upN (nN c) > (c.drop 12).length) (by omega), if_pos (by simp), getT_err h0 (by rw [hE]; omega), hE]
  rw [if_neg (c := upN (nN c) > (c.drop 12).length) (by omega), cu_drop]
  have hnp := nameOk_parts a2 (by omega)
  cases q1 : (cu c (12 + nN c) (upN (nN c) - nN c)).all (· == 0)
  · have hE : noteE c = 11 := by unfold noteE; rw [if_neg a1, if_neg a2, if_neg a3, if_pos (by rw [hnp, q1]; simp)]
    rw [if_neg (c := false = true) (by simp), if_pos (by simp), getT_err h0 (by rw [hE]; omega), hE]
  rw [if_pos (c := true = true) rfl]
  dsimp only
  have hx : (c.drop 12).take (nN c) = cu c 12 (nN c - 1) ++ [c.getD (12 + (nN c - 1)) 0] := by
    have := cu_snoc (b := c) (p := 12) (n := nN c - 1) (by omega)
    rw [Nat.sub_add_cancel (by omega)] at this
    exact this
  have l1 : (cu c 12 (nN c - 1)).length = nN c - 1 := cu_length (by omega)
  have l2 : ((c.drop 12).take (nN c)).length = nN c := by rw [List.length_take]; omega
  have e3 : IntKind.i64.wrap ((nN c : Int) - 1) = ((nN c - 1 : Nat) : Int) := by rw [i64w (by omega)]; omega
  have lz := last_zero (cu c 12 (nN c - 1)) (c.getD (12 + (nN c - 1)) 0)
  rw [l1] at lz
  rw [if_neg (by simp), l2, e3, hx, bd_eq (Index0_eq (by rw [← hx]; omega)), lz]
  cases q2 : ((cu c 12 (nN c - 1)).all (· != 0) && c.getD (12 + (nN c - 1)) 0 == 0)
  · have hE : noteE c = 11 := by
      unfold noteE
      rw [if_neg a1, if_neg a2, if_neg a3, if_pos]
      rw [hnp, ← Bool.and_assoc, q2]; rfl
    rw [if_pos (by simp), getT_err h0 (by rw [hE]; omega), hE]
  have hok : nameOk c = true := by rw [hnp, ← Bool.and_assoc, q2, q1]; rfl
  have dl2 : ((c.drop 12).drop (upN (nN c))).length = c.length - 12 - upN (nN c) := by rw [List.length_drop, dl]
  rw [if_neg (c := (!true) = true) (by simp), gd_pos (by omega), bd_eq (padded_eq n1 (by omega))]
  by_cases a5 : c.length < 12 + upN (nN c) + upN (nD c)
  · have hE : noteE c = 10 := by unfold noteE; rw [if_neg a1, if_neg a2, if_neg a3, if_neg (by rw [hok]; simp), if_pos a5]
    rw [if_pos (c := upN (nD c) > ((c.drop 12).drop (upN (nN c))).length) (by omega), if_pos (by simp), getT_err h0 (by rw [hE]; omega), hE]
  rw [if_neg (c := upN (nD c) > ((c.drop 12).drop (upN (nN c))).length) (by omega), List.drop_drop, List.drop_drop, cu_drop]
  cases q3 : descOk c
  · have hE : noteE c = 11 := by unfold noteE; rw [if_neg a1, if_neg a2, if_neg a3, if_neg (by rw [hok]; simp), if_neg a5, if_pos q3]
    unfold descOk at q3
    rw [q3, if_neg (c := false = true) (by simp), if_pos (by simp), getT_err h0 (by rw [hE]; omega), hE]
  have hE : noteE c = 0 := by unfold noteE; rw [if_neg a1, if_neg a2, if_neg a3, if_neg (by rw [hok]; simp), if_neg a5, if_neg (by rw [q3]; simp)]
  unfold descOk at q3
  rw [q3, if_pos (c := true = true) rfl]
  dsimp only
  have hcut : cutL (cu c 12 (nN c - 1) ++ [c.getD (12 + (nN c - 1)) 0]) 0 ((nN c - 1 : Nat) : Int) = cu c 12 (nN c - 1) := by
    unfold cutL
    rw [Int.toNat_natCast, List.take_left' l1]; rfl
  have hk : 12 + upN (nN c) + upN (nD c) = noteK c := rfl
  rw [if_neg (by simp), gd_pos (by omega), gd_pos (by omega), gd_pos (by simp only [List.length_cons, List.length_nil]; omega), hcut, e2, hg, hk]
  have hkl : (c.drop (noteK c)).length = c.length - noteK c := List.length_drop
  have hk12 : 12 ≤ noteK c := by unfold noteK; omega
  exact hrec (acc ++ [noteV c], c.drop (noteK c)) ⟨hc.drop _, by simp only []; omega, by simp only [List.length_append, List.length_cons, List.length_nil]; omega, by rw [← hg, getT_step h0 hE]⟩ (by simp only []; omega)

end Dm
