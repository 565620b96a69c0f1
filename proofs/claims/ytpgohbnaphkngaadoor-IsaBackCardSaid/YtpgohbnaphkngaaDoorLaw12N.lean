/-
  Law 12: what a word is as a number, in the program and in the reference; the words of a text. No condition.
-/
import Derived.Test.YtpgohbnaphkngaaDoorLaw12T
namespace Dm
open Go

def digB (b : UInt8) : Bool := decide (48 ≤ b.toNat) && decide (b.toNat ≤ 57)
/-- the value of digits behind the value v -/
def digV : List UInt8 → Nat → Option Nat
  | [], v => some v
  | b :: l, v => if digB b then digV l (10 * v + (b.toNat - 48)) else none
def negS (s : List UInt8) : Bool := s.head? == some 45
def digsOf (s : List UInt8) : List UInt8 := if negS s then s.tail else s
def sgn (n : Bool) (v : Int) : Int := if n then -v else v
/-- the number that a word is, if it is one of 32 bits, as it is told -/
def numP (s : List UInt8) : Option Int := match digV (digsOf s) 0 with
  | some v => if itoaD (sgn (negS s) v) = s ∧ -2147483648 ≤ sgn (negS s) v ∧ sgn (negS s) v < 2147483648 then some (sgn (negS s) v) else none
  | none => none
theorem cutPre_eq (s : List UInt8) : cutPre s [45] = digsOf s := by
  unfold cutPre digsOf negS
  cases s with
  | nil => rfl
  | cons b l =>
    by_cases h : b = 45
    · subst h; simp
    · have h2 : (45 : UInt8) ≠ b := fun e => h e.symm
      simp [h, h2]
theorem digsOf_len (s : List UInt8) : (digsOf s).length ≤ s.length := by
  unfold digsOf; split <;> simp
theorem eq_digsOf (s : List UInt8) : (s == digsOf s) = !negS s := by
  unfold digsOf
  cases h : negS s with
  | false => simp
  | true =>
    cases s with
    | nil => cases h
    | cons b l =>
      have : (b :: l) ≠ l := fun e => by have := congrArg List.length e; simp at this
      simp [this]
theorem imin_eq (a b : Int) : imin a b = min a b := by unfold imin; split <;> omega
theorem gt_ofStr (l : List UInt8) {k : Nat} (h : k < l.length) : gt (ofStr l) (k : Int) = (l[k].toNat : Int) := by
  rw [gt_nat (by simpa [ofStr] using h)]; simp [ofStr]
theorem digB_dec (b : UInt8) : digB b = (!decide ((b.toNat : Int) < 48) && !decide ((b.toNat : Int) > 57)) := by
  unfold digB
  rw [Bool.eq_iff_iff]; simp; omega
def big40 : Int := 1099511627776
theorem number_prog (s : List UInt8) (hl : s.length ≤ 140737488355328) : isa_number s = some (match digV (digsOf s) 0 with
    | some v => (sgn (negS s) (min v big40), itoaD (sgn (negS s) (min v big40)) == s && (decide (sgn (negS s) (min v big40) ≥ -2147483648) && decide (sgn (negS s) (min v big40) < 2147483648)))
    | none => (0, false)) := by
  unfold isa_number
  unfold strings_TrimPrefix
  have hdl := digsOf_len s
  rw [some_bind, cutPre_eq, gd_pos (by omega)]
  refine jn_gen fun k1 hk1 => ?_
  have hol : (ofStr (digsOf s)).length = (digsOf s).length := by simp [ofStr]
  refine loop_run (fun p => ∃ (v k : Nat), p = (min (v : Int) big40, (k : Int)) ∧ k ≤ (digsOf s).length ∧ digV ((digsOf s).drop k) v = digV (digsOf s) 0) (fun p => (digsOf s).length - p.2.toNat) ?_ bigF _ ⟨0, 0, rfl, Nat.zero_le _, rfl⟩ (lt_bigF (by omega))
  rintro p rec ⟨v, k, rfl, hk, hd⟩ hrec
  by_cases hlt : k < (digsOf s).length
  · rw [if_pos (show decide ((k : Int) < (((ofStr (digsOf s)).length : Nat) : Int)) = true by simp [hol]; omega), gd_pos ⟨by omega, by show (k : Int) < (((ofStr (digsOf s)).length : Nat) : Int); omega⟩, let1_eq, jn_eq, gt_ofStr _ hlt]
    rw [List.drop_eq_getElem_cons hlt, digV, digB_dec] at hd
    have hc := (digsOf s)[k].toNat_lt
    generalize (digsOf s)[k] = c at hd hc ⊢
    by_cases h0 : (c.toNat : Int) < 48
    · simp only [decide_eq_true h0, Bool.not_true, Bool.false_and, Bool.false_eq_true, if_false, if_true] at hd ⊢
      rw [← hd]
    · by_cases h1 : (c.toNat : Int) > 57
      · simp only [decide_eq_true h1, decide_eq_false h0, Bool.not_true, Bool.and_false, Bool.false_eq_true, if_false, if_true] at hd ⊢
        rw [← hd]
      · simp only [decide_eq_false h1, decide_eq_false h0, Bool.not_false, Bool.and_self, Bool.false_eq_true, if_false, if_true, let1_eq] at hd ⊢
        have hb : min (v : Int) big40 ≤ 1099511627776 := by unfold big40; omega
        have hb0 : 0 ≤ min (v : Int) big40 := by unfold big40; omega
        refine hrec _ ⟨10 * v + (c.toNat - 48), k + 1, ?_, by omega, hd⟩ ?_
        · rw [u8w (by omega), i64w (n := 10 * _) (by omega), i64w (n := (c.toNat : Int) - 48) (by omega), i64w (by omega), imin_eq, i64s (by omega)]
          unfold big40
          congr 1
          omega
        · show (digsOf s).length - (IntKind.i64.wrap ((k : Int) + 1)).toNat < (digsOf s).length - (k : Int).toNat
          rw [i64s (by omega)]; omega
  · obtain rfl : k = (digsOf s).length := by omega
    rw [if_neg (by simp [hol]), hk1]
    rw [List.drop_length, digV] at hd
    rw [← hd]
    dsimp only
    have hb : min (v : Int) big40 ≤ 1099511627776 := by unfold big40; omega
    have hb0 : 0 ≤ min (v : Int) big40 := by unfold big40; omega
    generalize min (v : Int) big40 = m at hb hb0 ⊢
    rw [jn_eq, eq_digsOf, Bool.not_not]
    have key : ∀ x : Int, x = sgn (negS s) m → (jn (fun (s5 : Int × Bool) =>
        some (s5.1, s5.2)) (fun k4 =>
        (strconv_FormatInt x 10).bind fun z2 =>
        (if (z2 == s) = true then
        (if (decide (x ≥ (-2147483648))) = true then
        k4 (x, decide (x < 2147483648))
        else
        k4 (x, false))
        else
        k4 (x, false)))) = some (sgn (negS s) m, itoaD (sgn (negS s) m) == s && (decide (sgn (negS s) m ≥ -2147483648) && decide (sgn (negS s) m < 2147483648))) := fun x hx => by
      subst hx
      have hx2 : -9223372036854775808 ≤ sgn (negS s) m ∧ sgn (negS s) m ≤ 9223372036854775807 := by unfold sgn; split <;> omega
      generalize sgn (negS s) m = x at hx2 ⊢
      unfold strconv_FormatInt
      rw [jn_eq, gd_pos ⟨rfl, hx2.1, hx2.2⟩, some_bind]
      cases itoaD x == s <;> cases decide (x ≥ -2147483648) <;> rfl
    cases hn : negS s with
    | false =>
      rw [hn] at key
      exact key m rfl
    | true =>
      rw [hn] at key
      rw [if_pos rfl, let1_eq, i64w (by omega)]
      exact key _ (by unfold sgn; simp)
theorem number_num (s : List UInt8) (hl : s.length ≤ 140737488355328) : ∃ x b, isa_number s = some (x, b) ∧ (numP s = if b then some x else none) := by
  refine ⟨_, _, (number_prog s hl).trans (congrArg some (Prod.eta _).symm), ?_⟩
  unfold numP
  cases digV (digsOf s) 0 with
  | none => rfl
  | some v =>
    simp only []
    by_cases hv : (v : Int) ≤ big40
    · rw [show min (v : Int) big40 = v by omega]
      generalize sgn (negS s) (v : Int) = x
      by_cases h1 : itoaD x = s
      · by_cases h2 : -2147483648 ≤ x
        · by_cases h3 : x < 2147483648
          · simp [h1, h2, h3]
          · simp [h1, h3]
        · simp [h1, h2]
      · simp [h1]
    · rw [show min (v : Int) big40 = big40 by omega]
      have hb : big40 = 1099511627776 := rfl
      rw [if_neg (fun h => by unfold sgn at h; split at h <;> omega), if_neg (fun h => by
        simp only [Bool.and_eq_true, decide_eq_true_eq] at h
        unfold sgn at h; split at h <;> omega)]

/-! the reference's -/
def rdV : List UInt8 → Nat → Option Nat
  | [], v => some v
  | b :: l, v => if digB b && decide (v ≤ 1000000000000) then rdV l (10 * v + (b.toNat - 48)) else none
theorem rdV_some : ∀ {l : List UInt8} {v u : Nat}, rdV l v = some u → digV l v = some u ∧ v ≤ u ∧ (u ≤ 10000000000009 ∨ u = v)
  | [], v, u, h => by
    obtain rfl := Option.some.inj h
    exact ⟨rfl, Nat.le_refl _, .inr rfl⟩
  | b :: l, v, u, h => by
    rw [rdV] at h
    by_cases hb : digB b = true
    · by_cases hv : v ≤ 1000000000000
      · rw [hb, decide_eq_true hv, Bool.true_and, if_pos rfl] at h
        obtain ⟨h1, h2, h3⟩ := rdV_some h
        have hb2 : b.toNat ≤ 57 := by simp [digB] at hb; exact hb.2
        refine ⟨by rw [digV, if_pos hb]; exact h1, by omega, .inl (by omega)⟩
      · rw [decide_eq_false hv, Bool.and_false] at h
        cases h
    · rw [if_neg (by simp [hb])] at h
      cases h
theorem digV_ge : ∀ {l : List UInt8} {v u : Nat}, digV l v = some u → v ≤ u
  | [], v, u, h => by
    obtain rfl := Option.some.inj h
    exact Nat.le_refl _
  | b :: l, v, u, h => by
    rw [digV] at h
    split at h
    · have := digV_ge h; omega
    · cases h
theorem rdV_none : ∀ {l : List UInt8} {v u : Nat}, rdV l v = none → digV l v = some u → 1000000000000 < u
  | [], v, u, h, _ => by cases h
  | b :: l, v, u, h, h2 => by
    rw [rdV] at h
    rw [digV] at h2
    split at h2
    · rename_i hb
      by_cases hv : v ≤ 1000000000000
      · rw [hb, decide_eq_true hv, Bool.true_and, if_pos rfl] at h
        exact rdV_none h h2
      · have := digV_ge h2; omega
    · cases h2
def readP (s : List UInt8) : Int := match rdV (digsOf s) 0 with
  | some v => if itoaD (sgn (negS s) v) = s then sgn (negS s) v else 1000000000000
  | none => 1000000000000
theorem getD_b12 (s : List UInt8) {i : Nat} (h : i < s.length) : ((s.getD (Int.toNat (i : Int)) 0).toNat : Int) = (s[i].toNat : Int) := by
  rw [Int.toNat_natCast, List.getD_eq_getElem?_getD, List.getElem?_eq_getElem h]; rfl
theorem read_eq (s : List UInt8) (hl : s.length ≤ 140737488355328) : ref12_read s = some (readP s) := by
  unfold ref12_read
  refine jn_gen fun k1 hk1 => ?_
  have hc : (if (decide (((s.length : Nat) : Int) > 0)) = true then
    gd ((0 : Int) ≤ 0 ∧ 0 < ((s.length : Nat) : Int)) <|
    k1 (((s.getD (Int.toNat 0) 0).toNat : Int) == 45)
    else
    k1 false) = k1 (negS s) := by
    cases s with
    | nil => rfl
    | cons b l =>
      rw [if_pos (by simp), gd_pos ⟨by omega, by simp⟩]
      congr 1
      unfold negS
      show (((b.toNat : Int)) == 45) = (some b == some 45)
      rw [Bool.eq_iff_iff, beq_iff_eq, beq_iff_eq, Option.some.injEq]
      constructor
      · intro e
        exact UInt8.toNat_inj.1 (by have : b.toNat = 45 := by omega
                                    rw [this]; rfl)
      · intro e
        subst e; rfl
  rw [hc, hk1]
  dsimp only
  refine jn_gen fun k2 hk2 => ?_
  have main : ∀ (fr : Nat) (nb : Bool), nb = negS s → fr = (if nb then 1 else 0) → k2 (fr : Int) = some (readP s) := fun fr nb hnb hfr => by
    rw [hk2]
    dsimp only
    have hdrop : s.drop fr = digsOf s := by
      unfold digsOf
      rw [← hnb, hfr]
      cases nb with
      | false => rfl
      | true => simp
    have hfl : fr ≤ s.length := by
      rw [hfr]
      cases hn : nb with
      | false => exact Nat.zero_le _
      | true =>
        rw [hn] at hnb
        cases s with
        | nil => cases hnb
        | cons => simp
    refine jn_gen fun k3 hk3 => ?_
    refine loop_run (fun p => ∃ (v i : Nat), p = ((v : Int), (i : Int)) ∧ i ≤ s.length ∧ v ≤ 10000000000009 ∧ rdV (s.drop i) v = rdV (digsOf s) 0) (fun p => s.length - p.2.toNat) ?_ bigF _ ⟨0, fr, rfl, hfl, by omega, by rw [hdrop]⟩ (lt_bigF (by omega))
    rintro p rec ⟨v, i, rfl, hi, hv, hd⟩ hrec
    by_cases hlt : i < s.length
    · rw [if_pos (dif_lt hlt), jn_eq]
      have hg : (0 : Int) ≤ (i : Int) ∧ (i : Int) < ((s.length : Nat) : Int) := ⟨by omega, by omega⟩
      simp only [gd_pos hg, getD_b12 s hlt]
      rw [List.drop_eq_getElem_cons hlt, rdV, digB_dec] at hd
      have hc := s[i].toNat_lt
      generalize s[i] = c at hd hc ⊢
      by_cases h0 : (c.toNat : Int) < 48
      · simp only [decide_eq_true h0, Bool.not_true, Bool.false_and, Bool.false_eq_true, if_false, if_true] at hd ⊢
        unfold readP
        rw [← hd]
      · by_cases h1 : (c.toNat : Int) > 57
        · simp only [decide_eq_true h1, decide_eq_false h0, Bool.not_true, Bool.and_false, Bool.false_and, Bool.false_eq_true, if_false, if_true] at hd ⊢
          unfold readP
          rw [← hd]
        · simp only [decide_eq_false h1, decide_eq_false h0, Bool.not_false, Bool.and_self, Bool.true_and, Bool.false_eq_true, if_false, let1_eq] at hd ⊢
          by_cases h2 : v ≤ 1000000000000
          · rw [if_neg (show ¬ decide ((v : Int) > 1000000000000) = true by simp; omega)]
            rw [if_pos (decide_eq_true h2)] at hd
            refine hrec _ ⟨10 * v + (c.toNat - 48), i + 1, ?_, by omega, by omega, hd⟩ ?_
            · rw [i64w (n := (v : Int) * 10) (by omega), i64w (n := (c.toNat : Int)) (by omega), i64w (n := (v : Int) * 10 + c.toNat) (by omega), i64w (by omega), i64s (by omega)]
              congr 1
              omega
            · show s.length - (IntKind.i64.wrap ((i : Int) + 1)).toNat < s.length - (i : Int).toNat
              rw [i64s (by omega)]; omega
          · rw [if_pos (show decide ((v : Int) > 1000000000000) = true by simp; omega)]
            rw [if_neg (by simpa using h2)] at hd
            unfold readP
            rw [← hd]
    · obtain rfl : i = s.length := by omega
      rw [if_neg (by simp), hk3]
      rw [List.drop_length, rdV] at hd
      dsimp only
      rw [jn_eq]
      have key : ∀ x : Int, x = sgn nb v → ((ref12_Number x).bind fun z1 =>
          (if (!(z1 == s)) = true then
            some 1000000000000
          else
            some x)) = some (readP s) := fun x hx => by
        have hx2 : -9223372036854775808 < x ∧ x < 9223372036854775808 := by subst hx; unfold sgn; split <;> omega
        rw [number_eq hx2.1 hx2.2, some_bind]
        unfold readP
        rw [← hd, ← hnb]
        dsimp only
        rw [← hx]
        by_cases he : itoaD x = s
        · simp [he]
        · simp [he]
      cases hn : nb with
      | false =>
        rw [hn] at hfr key
        subst hfr
        exact key _ rfl
      | true =>
        rw [hn] at hfr key
        subst hfr
        rw [if_pos rfl, let1_eq, i64w (by omega)]
        exact key _ (by unfold sgn; simp)
  cases hn : negS s with
  | false => exact main 0 false hn.symm rfl
  | true => exact main 1 true hn.symm rfl
/-- the two of them: the same number, or none of 32 bits -/
theorem read_num (s : List UInt8) : (numP s = some (readP s)) ∨ (numP s = none ∧ (readP s < -2147483648 ∨ 2147483648 ≤ readP s)) := by
  unfold numP readP
  cases hd : digV (digsOf s) 0 with
  | none =>
    refine .inr ⟨rfl, ?_⟩
    cases hr : rdV (digsOf s) 0 with
    | none => simp
    | some v => rw [(rdV_some hr).1] at hd; cases hd
  | some u =>
    simp only []
    cases hr : rdV (digsOf s) 0 with
    | none =>
      have := rdV_none hr hd
      refine .inr ⟨if_neg fun h => ?_, by simp⟩
      unfold sgn at h; split at h <;> omega
    | some v =>
      have hv := (rdV_some hr).1
      rw [hd] at hv
      obtain rfl := Option.some.inj hv
      simp only []
      generalize sgn (negS s) (u : Int) = x
      by_cases h1 : itoaD x = s
      · rw [if_pos h1]
        by_cases h2 : -2147483648 ≤ x ∧ x < 2147483648
        · exact .inl (if_pos ⟨h1, h2⟩)
        · exact .inr ⟨if_neg fun h => h2 h.2, by omega⟩
      · rw [if_neg h1]
        exact .inr ⟨if_neg fun h => h1 h.1, by simp⟩
theorem numP_range {s : List UInt8} {x : Int} (h : numP s = some x) : -2147483648 ≤ x ∧ x < 2147483648 := by
  unfold numP at h
  split at h
  · split at h
    · rename_i hc
      obtain rfl := Option.some.inj h
      exact hc.2
    · cases h
  · cases h

/-! words -/
theorem split_eq (s : List UInt8) (hl : s.length ≤ 1000000) : ref12_Split s = some (wordsB 32 [] s) := by
  unfold ref12_Split
  rw [jn_eq]
  refine loop_run (fun p => ∃ (f j : Nat), p.2 = ((f : Int), (j : Int)) ∧ p.1.length ≤ j ∧ ((j ≤ s.length ∧ f ≤ j ∧ p.1 ++ wordsB 32 ((s.take j).drop f) (s.drop j) = wordsB 32 [] s) ∨ (j = s.length + 1 ∧ p.1 = wordsB 32 [] s))) (fun p => s.length + 1 - p.2.2.toNat) ?_ bigF _ ⟨0, 0, rfl, Nat.le_refl _, .inl ⟨Nat.zero_le _, Nat.le_refl _, rfl⟩⟩ (lt_bigF (by omega))
  rintro ⟨out, fj⟩ rec ⟨f, j, hfj, hol, hor⟩ hrec
  simp only at hfj hol hor
  subst hfj
  simp only []
  rcases hor with ⟨hj, hf, hinv⟩ | ⟨rfl, hout⟩
  · rw [if_pos (show decide ((j : Int) ≤ ((s.length : Nat) : Int)) = true by simp; omega)]
    simp only [jn_eq, let1_eq]
    rw [i64s (by omega)]
    have hm : ∀ (a b : Nat) (o : List (List UInt8)), s.length + 1 - ((o, (b : Int), ((j + 1 : Nat) : Int)) : List (List UInt8) × Int × Int).2.2.toNat < s.length + 1 - ((out, (f : Int), (j : Int)) : List (List UInt8) × Int × Int).2.2.toNat := fun a b o => by
      show s.length + 1 - (((j + 1 : Nat) : Int)).toNat < s.length + 1 - ((j : Int)).toNat
      omega
    have hcut : cutL s (f : Int) (j : Int) = (s.take j).drop f := by unfold cutL; simp
    have hsep : ∀ (o2 : List (List UInt8)), o2.length ≤ j + 1 → ((j < s.length → o2 ++ wordsB 32 [] (s.drop (j + 1)) = wordsB 32 [] s) ∧ (j = s.length → o2 = wordsB 32 [] s)) → rec (o2, ((j + 1 : Nat) : Int), ((j + 1 : Nat) : Int)) = some (wordsB 32 [] s) := fun o2 ho2 hh => by
      refine hrec _ ⟨j + 1, j + 1, rfl, ho2, ?_⟩ (hm 0 _ _)
      by_cases hje : j = s.length
      · exact .inr ⟨by omega, hh.2 hje⟩
      · refine .inl ⟨by omega, Nat.le_refl _, ?_⟩
        rw [show (s.take (j + 1)).drop (j + 1) = [] by simp]
        exact hh.1 (by omega)
    have hend : ∀ c : Bool, ((j = s.length ∧ c = true) ∨ (∃ h : j < s.length, c = (s[j] == 32))) → (if c = true then
        (if (decide ((j : Int) > (f : Int))) = true then
          gd ((0 : Int) ≤ (f : Int) ∧ ((f : Int) : Int) ≤ (j : Int) ∧ (j : Int) ≤ ((s.length : Nat) : Int)) <|
          gd ((out.length + ([(cutL s (f : Int) (j : Int))] : List (List UInt8)).length) * 16 ≤ 140737488355328) <|
          rec (out ++ ([(cutL s (f : Int) (j : Int))] : List (List UInt8)), ((j + 1 : Nat) : Int), ((j + 1 : Nat) : Int))
        else
          rec (out, ((j + 1 : Nat) : Int), ((j + 1 : Nat) : Int)))
      else rec (out, (f : Int), ((j + 1 : Nat) : Int))) = some (wordsB 32 [] s) := fun c hc => by
      cases c with
      | true =>
        rw [if_pos rfl]
        have hdrop : (j = s.length ∧ s.drop j = []) ∨ (∃ h : j < s.length, s.drop j = 32 :: s.drop (j + 1)) := by
          rcases hc with ⟨h1, _⟩ | ⟨h1, h2⟩
          · exact .inl ⟨h1, by rw [h1]; simp⟩
          · refine .inr ⟨h1, ?_⟩
            rw [List.drop_eq_getElem_cons h1]
            congr 1
            exact eq_of_beq h2.symm
        by_cases hfj : (j : Int) > (f : Int)
        · rw [if_pos (decide_eq_true hfj), gd_pos ⟨by omega, by omega, by omega⟩, gd_pos (by simp only [List.length_cons, List.length_nil]; omega), hcut]
          have hne : ((s.take j).drop f).isEmpty = false := by
            have : 0 < ((s.take j).drop f).length := by simp; omega
            cases h : (s.take j).drop f with
            | nil => rw [h] at this; simp at this
            | cons => rfl
          refine hsep _ (by simp; omega) ⟨fun hlt => ?_, fun heq => ?_⟩
          · rcases hdrop with ⟨h1, _⟩ | ⟨_, h2⟩
            · omega
            · rw [h2, wordsB] at hinv
              simp only [beq_self_eq_true, if_true, hne, Bool.false_eq_true, if_false] at hinv
              rw [← hinv]; simp
          · rcases hdrop with ⟨_, h2⟩ | ⟨h1, _⟩
            · rw [h2, wordsB] at hinv
              simp only [hne, Bool.false_eq_true, if_false] at hinv
              exact hinv
            · omega
        · rw [if_neg (by simpa using hfj)]
          have hfe : f = j := by omega
          subst hfe
          have hem : (s.take f).drop f = [] := by simp
          rw [hem] at hinv
          refine hsep _ (by omega) ⟨fun hlt => ?_, fun heq => ?_⟩
          · rcases hdrop with ⟨h1, _⟩ | ⟨_, h2⟩
            · omega
            · rw [h2, wordsB] at hinv
              simpa using hinv
          · rcases hdrop with ⟨_, h2⟩ | ⟨h1, _⟩
            · rw [h2, wordsB] at hinv
              simpa using hinv
            · omega
      | false =>
        rw [if_neg (by simp)]
        rcases hc with ⟨_, h2⟩ | ⟨h1, h2⟩
        · cases h2
        · refine hrec _ ⟨f, j + 1, rfl, by simp only []; omega, .inl ⟨by omega, by omega, ?_⟩⟩ (hm 0 _ _)
          rw [List.drop_eq_getElem_cons h1, wordsB, ← h2] at hinv
          simp only [Bool.false_eq_true, if_false] at hinv
          rw [← hinv, List.take_succ_eq_append_getElem h1, List.drop_append_of_le_length (by simp; omega)]
    by_cases hje : j = s.length
    · rw [if_pos (show ((j : Int) == ((s.length : Nat) : Int)) = true by simp [hje])]
      exact hend true (.inl ⟨hje, rfl⟩)
    · have hlt : j < s.length := by omega
      rw [if_neg (show ¬ ((j : Int) == ((s.length : Nat) : Int)) = true by simp; omega), gd_pos ⟨by omega, by omega⟩, getD_b12 s hlt]
      refine hend _ (.inr ⟨hlt, ?_⟩)
      rw [Bool.eq_iff_iff, beq_iff_eq, beq_iff_eq]
      constructor
      · intro e
        exact UInt8.toNat_inj.1 (by have : s[j].toNat = 32 := by omega
                                    rw [this]; rfl)
      · intro e
        rw [e]; rfl
  · rw [if_neg (by simp; omega)]
    rw [hout]
end Dm
