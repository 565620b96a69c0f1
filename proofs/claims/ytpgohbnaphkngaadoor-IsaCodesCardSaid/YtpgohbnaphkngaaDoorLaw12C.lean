/-
  Law 12: lines as words, in the program and in the reference. No condition.
-/
import Derived.Test.YtpgohbnaphkngaaDoorLaw12P
import Derived.Test.YtpgohbnaphkngaaDoorSet12
namespace Dm
open Go

def skip12 (l : List UInt8) : Bool := match wordsB 32 [] l with
  | [] => true
  | w :: _ => w.head? == some 35
def codeL : List (List UInt8) → Int → List Int → List Int × Int × Int
  | [], _, acc => (acc, 0, 0)
  | l :: ls, n, acc => if skip12 l then codeL ls (n + 1) acc else if (parseW (wordsB 32 [] l)).2 = 0 then codeL ls (n + 1) (acc ++ leB 8 (enc12 (parseW (wordsB 32 [] l)).1)) else ([], (parseW (wordsB 32 [] l)).2, n)
theorem endP_ok (r : Option Ins12) (h : (endP r).2 = 0) : ok12 (endP r).1 = true := by
  unfold endP at *
  cases r with
  | none => cases h
  | some i =>
    dsimp only at *
    cases hk : ok12 i with
    | true => rw [if_pos rfl]; exact hk
    | false => rw [hk] at h; cases h
theorem parseW_ok (ws : List (List UInt8)) (h : (parseW ws).2 = 0) : ok12 (parseW ws).1 = true := by
  cases ws with
  | nil => cases h
  | cons w0 args =>
    simp only [parseW] at h ⊢
    cases ho : opW w0 with
    | none => rw [ho] at h; cases h
    | some o =>
      rw [ho] at h
      dsimp only at h ⊢
      split
      · rename_i hl
        rw [if_pos hl] at h
        exact endP_ok _ h
      · rename_i hl
        rw [if_neg hl] at h
        cases h

/-! what is cut off -/
theorem dropWhile_head {α : Type} (p : α → Bool) : ∀ l : List α, (l.dropWhile p).head? = l.find? (fun x => !p x)
  | [] => rfl
  | x :: xs => by
    rw [List.dropWhile_cons, List.find?_cons]
    cases h : p x
    · simp
    · simp [dropWhile_head p xs]
theorem trimC_head (l : List UInt8) (c : UInt8) : (trimC l c).head? = l.find? (fun x => !(x == c)) := by
  unfold trimC
  rw [dropWhile_head]
  have h : l = (l.reverse.dropWhile (· == c)).reverse ++ (l.reverse.takeWhile (· == c)).reverse := by
    rw [← List.reverse_append, List.takeWhile_append_dropWhile, List.reverse_reverse]
  conv => rhs; rw [h]
  rw [List.find?_append]
  have h2 : (l.reverse.takeWhile (· == c)).reverse.find? (fun x => !(x == c)) = none := by
    rw [List.find?_eq_none]
    intro x hx
    rw [List.mem_reverse] at hx
    have : (x == c) = true := (List.all_eq_true.1 List.all_takeWhile) x hx
    rw [this]; simp
  rw [h2, Option.or_none]
theorem words_head (c : UInt8) : ∀ (l cur : List UInt8), (wordsB c cur l).head?.bind List.head? = (if cur.isEmpty then l.find? (fun x => !(x == c)) else cur.head?)
  | [], cur => by
    rw [wordsB]
    cases cur <;> rfl
  | b :: l, cur => by
    rw [wordsB, List.find?_cons]
    cases hb : (b == c) with
    | true =>
      rw [if_pos rfl]
      cases cur with
      | nil =>
        simp only [List.isEmpty_nil, if_true, Bool.not_true]
        rw [words_head c l []]
        rfl
      | cons x m => rfl
    | false =>
      rw [if_neg (by simp), words_head c l (cur ++ [b])]
      cases cur <;> rfl
theorem trim_head (l : List UInt8) : (trimC l 32).head? = (wordsB 32 [] l).head?.bind List.head? := by
  rw [trimC_head, words_head]; rfl
theorem trim_skip (l : List UInt8) : (trimC l 32 = [] ∧ skip12 l = true) ∨ (∃ b m, trimC l 32 = b :: m ∧ skip12 l = (b == 35)) := by
  have h := trim_head l
  have hm := fun w hw => wordsB_mem 32 l [] w hw
  unfold skip12
  cases hw : wordsB 32 [] l with
  | nil =>
    rw [hw] at h
    cases ht : trimC l 32 with
    | nil => exact .inl ⟨rfl, rfl⟩
    | cons b m => rw [ht] at h; cases h
  | cons w ws =>
    rw [hw] at h
    have hne := (hm w (by rw [hw]; simp)).1
    cases w with
    | nil => exact absurd rfl hne
    | cons x y =>
      cases ht : trimC l 32 with
      | nil => rw [ht] at h; cases h
      | cons b m =>
        rw [ht] at h
        have : b = x := by simpa using h
        subst this
        refine .inr ⟨b, m, rfl, ?_⟩
        simp
theorem linesB_mem (c : UInt8) : ∀ (l cur w : List UInt8), w ∈ linesB c cur l → w.length ≤ cur.length + l.length
  | [], cur, w, h => by
    rw [linesB] at h
    simp at h; subst h; simp
  | b :: l, cur, w, h => by
    rw [linesB] at h
    split at h
    · rcases List.mem_cons.1 h with rfl | h
      · simp
      · have := linesB_mem c l [] w h
        simp only [List.length_nil, List.length_cons] at this ⊢; omega
    · have := linesB_mem c l (cur ++ [b]) w h
      simp only [List.length_append, List.length_cons, List.length_nil] at this ⊢; omega
theorem linesB_count (c : UInt8) : ∀ (l cur : List UInt8), (linesB c cur l).length ≤ l.length + 1
  | [], cur => by rw [linesB]; simp
  | b :: l, cur => by
    rw [linesB]
    have h1 := linesB_count c l []
    have h2 := linesB_count c l (cur ++ [b])
    split <;> simp only [List.length_cons] <;> omega

/-! the program -/
theorem code_prog (text : List UInt8) (hl : text.length ≤ 10000) : isa_Code text = some (codeL (linesB 10 [] text) 1 []) := by
  unfold isa_Code
  rw [if_neg (show ¬ decide (((text.length : Nat) : Int) > 65536) = true by simp; omega)]
  have hsp : strings_Split text [10] = some (linesB 10 [] text) := by
    unfold strings_Split
    exact gd_pos (by omega)
  rw [hsp, some_bind]
  have hc := linesB_count 10 text []
  have hmem := fun w hw => linesB_mem 10 text [] w hw
  generalize linesB 10 [] text = z at hc hmem ⊢
  refine jn_gen fun k1 hk1 => ?_
  refine loop_run (fun p => ∃ (k : Nat), p.2 = (k : Int) ∧ k ≤ z.length ∧ p.1.length ≤ 8 * k ∧ codeL (z.drop k) ((k : Int) + 1) p.1 = codeL z 1 []) (fun p => z.length - p.2.toNat) ?_ bigF _ ⟨0, rfl, Nat.zero_le _, Nat.le_refl _, rfl⟩ (lt_bigF (by omega))
  rintro ⟨out, kk⟩ rec ⟨k, hkk, hk, hol, hinv⟩ hrec
  dsimp only at hkk hol hinv
  subst hkk
  dsimp only
  by_cases hlt : k < z.length
  · rw [if_pos (dif_lt hlt)]
    simp only [jn_eq]
    rw [gd_pos ⟨by omega, by omega⟩, let1_eq, gt_nat hlt]
    have hll := hmem z[k] (List.getElem_mem hlt)
    simp only [List.length_nil, Nat.zero_add] at hll
    rw [List.drop_eq_getElem_cons hlt, codeL] at hinv
    generalize z[k] = line at hll hinv ⊢
    have htr : strings_Trim line [32] = some (trimC line 32) := by
      unfold strings_Trim
      exact gd_pos ⟨by omega, by decide⟩
    rw [htr, some_bind, i64s (by omega)]
    have hm : ∀ o : List Int, z.length - ((o, ((k + 1 : Nat) : Int)) : List Int × Int).2.toNat < z.length - ((out, (k : Int)) : List Int × Int).2.toNat := fun o => by
      show z.length - (((k + 1 : Nat) : Int)).toNat < z.length - ((k : Int)).toNat
      omega
    have hnum : ((k : Int) + 1) + 1 = ((k + 1 : Nat) : Int) + 1 := by omega
    have hskip : skip12 line = true → rec (out, ((k + 1 : Nat) : Int)) = some (codeL z 1 []) := fun hs => by
      rw [if_pos hs, hnum] at hinv
      exact hrec _ ⟨k + 1, rfl, by omega, by dsimp only; omega, hinv⟩ (hm _)
    have hgo : skip12 line = false → ((isa_Parse line).bind fun z3 =>
                (if (z3.2 != 0) = true then
                  some (([], z3.2, ((k + 1 : Nat) : Int)) : List Int × Int × Int)
                else
                  (isa_Encode (z3.1.1, z3.1.2.1, z3.1.2.2.1, z3.1.2.2.2.1, z3.1.2.2.2.2)).bind fun z4 =>
                  gd ((0 : Int) ≤ 8 ∧ 8 * ((1 : Nat) : Int) ≤ 281474976710656) <|
                  (octets_Set (List.replicate (Int.toNat 8) (0 : Int)) 0 8 z4.1).bind fun z5 =>
                  gd ((out.length + z5.1.length) * 1 ≤ 140737488355328) <|
                  rec (out ++ z5.1, ((k + 1 : Nat) : Int)))) = some (codeL z 1 []) := fun hs => by
      rw [if_neg (by simp [hs])] at hinv
      rw [parse_prog line (by omega), some_bind]
      have hr := parseW_range (wordsB 32 [] line)
      have hok := parseW_ok (wordsB 32 [] line)
      generalize parseW (wordsB 32 [] line) = p at hr hok hinv ⊢
      by_cases hp : p.2 = 0
      · rw [if_pos hp, hnum] at hinv
        rw [if_neg (by simp [hp]), show (p.1.1, p.1.2.1, p.1.2.2.1, p.1.2.2.2.1, p.1.2.2.2.2) = p.1 from rfl, enc_eq p.1 hr, hok hp, some_bind, gd_pos ⟨by omega, by omega⟩]
        have h8 := set_whole (n := 8) (by omega) (enc12 p.1)
        simp only [if_true]
        rw [show octets_Set (List.replicate (Int.toNat 8) (0 : Int)) 0 8 (enc12 p.1) = some (leB 8 (enc12 p.1), 0) from h8, some_bind]
        have h8l := leB_length 8 (enc12 p.1)
        rw [gd_pos (by dsimp only; omega)]
        refine hrec _ ⟨k + 1, rfl, by omega, ?_, hinv⟩ (hm _)
        dsimp only
        rw [List.length_append, h8l]; omega
      · rw [if_neg hp] at hinv
        rw [if_pos (by simpa using hp), ← hinv]
        rfl
    rcases trim_skip line with ⟨h1, h2⟩ | ⟨b, m, h1, h2⟩
    · rw [h1]
      simp only [beq_self_eq_true, if_true]
      exact hskip h2
    · rw [h1, if_neg (by simp), gd_pos ⟨by omega, by simp⟩]
      have hb : ((((b :: m).getD (Int.toNat 0) 0).toNat : Int) == 35) = (b == 35) := byte_beq b 35 (by omega)
      rw [hb, ← h2]
      cases hs : skip12 line with
      | true => rw [if_pos rfl]; exact hskip hs
      | false => rw [if_neg (by simp)]; exact hgo hs
  · obtain rfl : k = z.length := by omega
    rw [if_neg (by simp), hk1]
    rw [List.drop_length, codeL] at hinv
    rw [← hinv]

/-! the reference -/
theorem le8_loop (out : List Int) (x : Int) (h0 : 0 ≤ x) (h1 : x < 18446744073709551616) (hol : out.length ≤ 1000000) {k5 : List Int → Option (List Int × Int × Int)} : loopK (fun (s7 : (List Int) × Int × Int) rec2 =>
                          (if (decide (s7.2.2 < 8)) = true then
                            gd ((s7.1.length + ([IntKind.u8.wrap (Int.tmod s7.2.1 256)] : List Int).length) * 1 ≤ 140737488355328) <|
                            let1 (IntKind.u64.wrap (Int.tdiv s7.2.1 256)) fun n_1 =>
                            let1 (IntKind.i64.wrap (s7.2.2 + 1)) fun k_1 =>
                            rec2 ((s7.1 ++ ([IntKind.u8.wrap (Int.tmod s7.2.1 256)] : List Int)), n_1, k_1)
                          else
                            k5 s7.1)) bigF (out, x, 0) = k5 (out ++ leB 8 x) := by
  refine loop_at (fun k => (out ++ leB k x, x / 256 ^ k, (k : Int))) 8 (by simp [leB]) (by decide) ?_
  intro k rec hk hrec
  by_cases h8 : k < 8
  · have hr := hrec h8
    have hd : 0 ≤ x / 256 ^ k := Int.ediv_nonneg h0 (Int.le_of_lt (Int.pow_pos (by decide)))
    have hd2 : x / 256 ^ k ≤ x := Int.ediv_le_self _ h0
    have hll := leB_length k x
    rw [if_pos (show decide ((k : Int) < 8) = true by simp; omega)]
    dsimp only
    rw [gd_pos (by simp only [List.length_append, List.length_cons, List.length_nil]; omega), let1_eq, let1_eq, i64s (by omega), Int.tdiv_eq_ediv_of_nonneg hd, Int.tmod_eq_emod_of_nonneg hd, u64w (by omega), u8w (by omega)]
    rw [leB_snoc, ← List.append_assoc, Int.pow_succ, ← Int.ediv_ediv_of_nonneg (Int.le_of_lt (Int.pow_pos (by decide)))] at hr
    exact hr
  · obtain rfl : k = 8 := by omega
    rw [if_neg (by simp)]
theorem enc_bounds (i : Ins12) (h : ok12 i = true) : 0 ≤ enc12 i ∧ enc12 i < 18446744073709551616 := by
  obtain ⟨b0, b1, b2, b3⟩ := ok_bounds h
  unfold enc12
  omega
theorem code_ref (text : List UInt8) (hl : text.length ≤ 10000) : ref12_Code text = some (codeL (linesB 10 [] text) 1 []) := by
  unfold ref12_Code
  rw [if_neg (show ¬ decide (((text.length : Nat) : Int) > 65536) = true by simp; omega)]
  refine jn_gen fun k1 hk1 => ?_
  refine loop_run (fun p => ∃ (f ln j : Nat), p.2 = ((f : Int), (ln : Int), (j : Int)) ∧ ln ≤ j ∧ p.1.length ≤ 8 * ln ∧ ((j ≤ text.length ∧ f ≤ j ∧ codeL (linesB 10 ((text.take j).drop f) (text.drop j)) ((ln : Int) + 1) p.1 = codeL (linesB 10 [] text) 1 []) ∨ (j = text.length + 1 ∧ (p.1, (0 : Int), (0 : Int)) = codeL (linesB 10 [] text) 1 []))) (fun p => text.length + 1 - p.2.2.2.toNat) ?_ bigF _ ⟨0, 0, 0, rfl, Nat.le_refl _, Nat.le_refl _, .inl ⟨Nat.zero_le _, Nat.le_refl _, rfl⟩⟩ (lt_bigF (by omega))
  rintro ⟨out, q⟩ rec ⟨f, ln, j, hq, hln, hol, hor⟩ hrec
  dsimp only at hq hol hor
  subst hq
  dsimp only
  rcases hor with ⟨hj, hf, hinv⟩ | ⟨rfl, hout⟩
  · rw [if_pos (show decide ((j : Int) ≤ ((text.length : Nat) : Int)) = true by simp; omega)]
    simp only [jn_eq, let1_eq]
    rw [i64s (i := j) (by omega), i64s (i := ln) (by omega)]
    have hm : ∀ (o : List Int) (a b : Int), text.length + 1 - ((o, a, b, ((j + 1 : Nat) : Int)) : List Int × Int × Int × Int).2.2.2.toNat < text.length + 1 - ((out, (f : Int), (ln : Int), (j : Int)) : List Int × Int × Int × Int).2.2.2.toNat := fun o a b => by
      show text.length + 1 - (((j + 1 : Nat) : Int)).toNat < text.length + 1 - ((j : Int)).toNat
      omega
    have hcut : cutL text (f : Int) (j : Int) = (text.take j).drop f := by unfold cutL; simp
    have hsl : ((text.take j).drop f).length ≤ 10000 := by simp; omega
    -- the end of a line
    have hline : (j = text.length ∨ ∃ h : j < text.length, text[j] = 10) → gd ((0 : Int) ≤ (f : Int) ∧ ((f : Int) : Int) ≤ (j : Int) ∧ (j : Int) ≤ ((text.length : Nat) : Int)) ((ref12_Split (cutL text (f : Int) (j : Int))).bind fun z1 =>
                (if (((z1.length : Nat) : Int) == 0) = true then
                  (if (true : Bool) = true then rec (out, ((j + 1 : Nat) : Int), ((ln + 1 : Nat) : Int), ((j + 1 : Nat) : Int)) else
                    (ref12_Parse (cutL text (f : Int) (j : Int))).bind fun z2 =>
                    (if (z2.2 != 0) = true then
                      some ([], z2.2, ((ln + 1 : Nat) : Int))
                    else
                      (ref12_Encode (z2.1.1, z2.1.2.1, z2.1.2.2.1, z2.1.2.2.2.1, z2.1.2.2.2.2)).bind fun z3 =>
                        loopK (fun (s7 : (List Int) × Int × Int) rec2 =>
                          (if (decide (s7.2.2 < 8)) = true then
                            gd ((s7.1.length + ([IntKind.u8.wrap (Int.tmod s7.2.1 256)] : List Int).length) * 1 ≤ 140737488355328) <|
                            let1 (IntKind.u64.wrap (Int.tdiv s7.2.1 256)) fun n_1 =>
                            let1 (IntKind.i64.wrap (s7.2.2 + 1)) fun k_1 =>
                            rec2 ((s7.1 ++ ([IntKind.u8.wrap (Int.tmod s7.2.1 256)] : List Int)), n_1, k_1)
                          else
                            rec (s7.1, ((j + 1 : Nat) : Int), ((ln + 1 : Nat) : Int), ((j + 1 : Nat) : Int)))) bigF (out, z3.1, 0)))
                else
                  gd ((0 : Int) ≤ 0 ∧ 0 < ((z1.length : Nat) : Int)) <|
                  gd ((0 : Int) ≤ 0 ∧ 0 < (((gt z1 0).length : Nat) : Int)) <|
                  (if ((((gt z1 0).getD (Int.toNat 0) 0).toNat : Int) == 35) = true then rec (out, ((j + 1 : Nat) : Int), ((ln + 1 : Nat) : Int), ((j + 1 : Nat) : Int)) else
                    (ref12_Parse (cutL text (f : Int) (j : Int))).bind fun z2 =>
                    (if (z2.2 != 0) = true then
                      some ([], z2.2, ((ln + 1 : Nat) : Int))
                    else
                      (ref12_Encode (z2.1.1, z2.1.2.1, z2.1.2.2.1, z2.1.2.2.2.1, z2.1.2.2.2.2)).bind fun z3 =>
                        loopK (fun (s7 : (List Int) × Int × Int) rec2 =>
                          (if (decide (s7.2.2 < 8)) = true then
                            gd ((s7.1.length + ([IntKind.u8.wrap (Int.tmod s7.2.1 256)] : List Int).length) * 1 ≤ 140737488355328) <|
                            let1 (IntKind.u64.wrap (Int.tdiv s7.2.1 256)) fun n_1 =>
                            let1 (IntKind.i64.wrap (s7.2.2 + 1)) fun k_1 =>
                            rec2 ((s7.1 ++ ([IntKind.u8.wrap (Int.tmod s7.2.1 256)] : List Int)), n_1, k_1)
                          else
                            rec (s7.1, ((j + 1 : Nat) : Int), ((ln + 1 : Nat) : Int), ((j + 1 : Nat) : Int)))) bigF (out, z3.1, 0))))) = some (codeL (linesB 10 [] text) 1 []) := fun hend => by
      rw [gd_pos ⟨by omega, by omega, by omega⟩, hcut]
      generalize hw : (text.take j).drop f = w at hsl hinv ⊢
      have hsplit : linesB 10 w (text.drop j) = w :: (if j = text.length then [] else linesB 10 [] (text.drop (j + 1))) := by
        rcases hend with h1 | ⟨h1, h2⟩
        · rw [h1, List.drop_length, linesB, if_pos rfl]
        · rw [List.drop_eq_getElem_cons h1, linesB, h2, if_pos (by decide), if_neg (by omega)]
      rw [hsplit, codeL] at hinv
      have hnum : ((ln : Int) + 1) + 1 = ((ln + 1 : Nat) : Int) + 1 := by omega
      have hnext : ∀ o2 : List Int, o2.length ≤ 8 * (ln + 1) → codeL (if j = text.length then [] else linesB 10 [] (text.drop (j + 1))) (((ln + 1 : Nat) : Int) + 1) o2 = codeL (linesB 10 [] text) 1 [] → rec (o2, ((j + 1 : Nat) : Int), ((ln + 1 : Nat) : Int), ((j + 1 : Nat) : Int)) = some (codeL (linesB 10 [] text) 1 []) := fun o2 ho2 hc2 => by
        refine hrec _ ⟨j + 1, ln + 1, j + 1, rfl, by omega, ho2, ?_⟩ (hm _ _ _)
        by_cases hje : j = text.length
        · rw [if_pos hje, codeL] at hc2
          exact .inr ⟨by omega, hc2⟩
        · rw [if_neg hje] at hc2
          refine .inl ⟨by omega, Nat.le_refl _, ?_⟩
          rw [show (text.take (j + 1)).drop (j + 1) = [] by simp]
          exact hc2
      have hskip : skip12 w = true → rec (out, ((j + 1 : Nat) : Int), ((ln + 1 : Nat) : Int), ((j + 1 : Nat) : Int)) = some (codeL (linesB 10 [] text) 1 []) := fun hs => by
        rw [if_pos hs, hnum] at hinv
        exact hnext out (by omega) hinv
      rw [split_eq w (by omega), some_bind]
      have hmem := fun x hx => wordsB_mem 32 w [] x hx
      have hparse : ref12_Parse w = some (parseW (wordsB 32 [] w)) := by rw [parse_eq w (by omega), parse_prog w (by omega)]
      have hr := parseW_range (wordsB 32 [] w)
      have hok := parseW_ok (wordsB 32 [] w)
      cases hz : wordsB 32 [] w with
      | nil =>
        have hsk : skip12 w = true := by unfold skip12; rw [hz]
        exact hskip hsk
      | cons w0 ws =>
        rw [hz] at hinv hparse hr hok
        have hne := (hmem w0 (by rw [hz]; simp)).1
        rw [if_neg (by simp; omega), gd_pos ⟨by omega, by simp only [List.length_cons]; omega⟩]
        cases w0 with
        | nil => exact absurd rfl hne
        | cons b m =>
          rw [show gt ((b :: m) :: ws) 0 = b :: m from rfl, gd_pos ⟨by omega, by simp only [List.length_cons]; omega⟩]
          have hb : ((((b :: m).getD (Int.toNat 0) 0).toNat : Int) == 35) = (b == 35) := byte_beq b 35 (by omega)
          have hb2 : skip12 w = (b == 35) := by unfold skip12; rw [hz]; simp
          rw [hb]
          rw [hb2] at hskip hinv
          cases hs : (b == 35) with
          | true => rw [if_pos rfl]; exact hskip hs
          | false =>
            rw [hs, if_neg (by simp)] at hinv
            rw [if_neg (by simp), hparse, some_bind]
            generalize parseW ((b :: m) :: ws) = p at hr hok hinv ⊢
            by_cases hp : p.2 = 0
            · rw [if_pos hp, hnum] at hinv
              have hr2 := inK_i32 hr
              have hrg : range12 p.1.2.2.2.2 = true := by simp [range12]; omega
              have hbd := enc_bounds p.1 (hok hp)
              rw [if_neg (by simp [hp]), show (p.1.1, p.1.2.1, p.1.2.2.1, p.1.2.2.2.1, p.1.2.2.2.2) = p.1 from rfl, refEnc_eq p.1, hok hp, hrg, some_bind]
              simp only [Bool.and_self, if_true]
              rw [le8_loop out (enc12 p.1) hbd.1 hbd.2 (by omega) (k5 := fun o => rec (o, ((j + 1 : Nat) : Int), ((ln + 1 : Nat) : Int), ((j + 1 : Nat) : Int)))]
              exact hnext _ (by rw [List.length_append, leB_length]; omega) hinv
            · rw [if_neg hp] at hinv
              rw [if_pos (by simpa using hp), ← hinv]
              rfl
    by_cases hje : j = text.length
    · rw [if_neg (show ¬ decide ((j : Int) < ((text.length : Nat) : Int)) = true by simp; omega)]
      exact hline (.inl hje)
    · have hlt : j < text.length := by omega
      rw [if_pos (dif_lt hlt), gd_pos ⟨by omega, by omega⟩, getD_b12 text hlt]
      have hb : (((text[j].toNat : Int)) == 10) = (text[j] == 10) := byte_beq _ 10 (by omega)
      have hb2 : (((text[j].toNat : Int)) != 10) = !(text[j] == 10) := by rw [← hb]; rfl
      rw [hb2]
      cases hs : (text[j] == 10) with
      | true => exact hline (.inr ⟨hlt, eq_of_beq hs⟩)
      | false =>
        rw [List.drop_eq_getElem_cons hlt, linesB, hs, if_neg (by simp)] at hinv
        rw [if_pos (by rfl)]
        refine hrec _ ⟨f, ln, j + 1, rfl, by omega, hol, .inl ⟨by omega, by omega, ?_⟩⟩ (hm _ _ _)
        rw [List.take_succ_eq_append_getElem hlt, List.drop_append_of_le_length (by simp; omega)]
        exact hinv
  · rw [if_neg (by simp; omega), hk1, ← hout]
theorem IsaCodes_true {text : List UInt8} (_ : text.length ≤ 9223372036854775807) : law12_IsaCodes text = some true := by
  unfold law12_IsaCodes
  rw [awake12, some_bind]
  simp only [Bool.not_true, Bool.false_eq_true, if_false]
  by_cases hl : ((text.length : Nat) : Int) > 3000
  · rw [if_pos (decide_eq_true hl)]
  · rw [if_neg (by simpa using hl), code_prog text (by omega), code_ref text (by omega), some_bind, some_bind, jn_eq]
    simp
end Dm
