/-
  Law 12: what is encoded is decoded; what is told as a text is read. No condition.
-/
import Derived.Test.YtpgohbnaphkngaaDoorLaw12P
namespace Dm
open Go

/-! words there and back -/
theorem dec_enc (i : Ins12) (h : ok12 i = true) (hm : InK .i32 i.2.2.2.2) : dec12 (enc12 i) = i := by
  obtain ⟨b0, b1, b2, b3⟩ := ok_bounds h
  have hm2 := inK_i32 hm
  obtain ⟨op, a, b, c, m⟩ := i
  dsimp only at b0 b1 b2 b3 hm2
  unfold dec12 enc12
  dsimp only
  refine Prod.ext (by dsimp only; omega) (Prod.ext (by dsimp only; omega) (Prod.ext (by dsimp only; omega) (Prod.ext (by dsimp only; omega) ?_)))
  dsimp only
  split <;> omega
theorem enc_inK (i : Ins12) (h : ok12 i = true) : InK .u64 (enc12 i) := by
  obtain ⟨b0, b1, b2, b3⟩ := ok_bounds h
  unfold enc12
  exact ⟨by show (0 : Int) ≤ _; omega, by show _ ≤ (18446744073709551615 : Int); omega⟩
theorem decP_enc (i : Ins12) (h : ok12 i = true) (hm : InK .i32 i.2.2.2.2) : decP (enc12 i) = (i, 0) := by
  unfold decP
  rw [dec_enc i h hm, if_pos ⟨h, rfl⟩]

/-! digits there and back -/
theorem digV_app : ∀ (l : List UInt8) (b : UInt8) (v : Nat), digV (l ++ [b]) v = (digV l v).bind fun t => if digB b then some (10 * t + (b.toNat - 48)) else none
  | [], b, v => by
    rw [List.nil_append, digV, digV]
    cases digB b <;> rfl
  | x :: l, b, v => by
    rw [List.cons_append, digV, digV]
    cases digB x
    · rfl
    · exact digV_app l b _
theorem digit_nat (u : Nat) (h : u < 10) : digB (UInt8.ofNat (48 + u)) = true ∧ (UInt8.ofNat (48 + u)).toNat - 48 = u := by
  have e : (UInt8.ofNat (48 + u)).toNat = 48 + u := UInt8.toNat_ofNat_of_lt' (by show 48 + u < 256; omega)
  unfold digB
  rw [e]
  exact ⟨by simp; omega, by omega⟩
theorem digV_digs : ∀ (f u : Nat), u < 10 ^ (f + 1) → digV (digs (f + 1) u) 0 = some u
  | 0, u, h => by
    have h1 : u < 10 := by simpa using h
    obtain ⟨d1, d2⟩ := digit_nat u h1
    rw [digs_small 0 u h1, digV, d1, if_pos rfl, digV, d2]; simp
  | f + 1, u, h => by
    rw [digs]
    by_cases h1 : u < 10
    · obtain ⟨d1, d2⟩ := digit_nat u h1
      rw [if_pos h1, digV, d1, if_pos rfl, digV, d2]; simp
    · have h2 : u / 10 < 10 ^ (f + 1) := by
        rw [Nat.div_lt_iff_lt_mul (by decide)]
        rw [Nat.pow_succ] at h
        exact h
      obtain ⟨d1, d2⟩ := digit_nat (u % 10) (by omega)
      rw [if_neg h1, digV_app, digV_digs f (u / 10) h2, Option.bind_some, d1, if_pos rfl, d2]
      congr 1; omega
theorem digs_all : ∀ (f u : Nat), (digs f u).all digB = true
  | 0, _ => rfl
  | f + 1, u => by
    rw [digs]
    split
    · rename_i h1
      rw [List.all_cons, (digit_nat u h1).1]; rfl
    · rw [List.all_append, digs_all f, List.all_cons, (digit_nat (u % 10) (by omega)).1]; rfl
theorem digs_ne (f u : Nat) : digs (f + 1) u ≠ [] := by
  rw [digs]; split <;> simp
theorem neg_digs {l : List UInt8} (h : l.all digB = true) : negS l = false := by
  unfold negS
  cases l with
  | nil => rfl
  | cons b m =>
    simp only [List.all_cons, Bool.and_eq_true] at h
    simp only [List.head?_cons]
    rw [beq_eq_false_iff_ne]
    intro e
    have e2 : b = 45 := by simpa using e
    rw [e2] at h
    exact absurd h.1 (by decide)
theorem numP_itoa {x : Int} (h0 : -2147483648 ≤ x) (h1 : x < 2147483648) : numP (itoaD x) = some x := by
  unfold numP
  by_cases hx : x < 0
  · have e : itoaD x = 45 :: digs 20 x.natAbs := by unfold itoaD; rw [if_pos hx]
    have hn : negS (itoaD x) = true := by rw [e]; rfl
    have hd : digsOf (itoaD x) = digs 20 x.natAbs := by unfold digsOf; rw [hn, if_pos rfl, e]; rfl
    rw [hd, digV_digs 19 _ (by omega), hn]
    have hs : sgn true ((x.natAbs : Nat) : Int) = x := by unfold sgn; rw [if_pos rfl]; omega
    dsimp only
    rw [hs, if_pos ⟨rfl, h0, h1⟩]
  · have e : itoaD x = digs 20 x.toNat := by unfold itoaD; rw [if_neg hx]
    have hn : negS (itoaD x) = false := by rw [e]; exact neg_digs (digs_all _ _)
    have hd : digsOf (itoaD x) = digs 20 x.toNat := by unfold digsOf; rw [hn, if_neg (by simp), e]
    rw [hd, digV_digs 19 _ (by omega), hn]
    have hs : sgn false ((x.toNat : Nat) : Int) = x := by unfold sgn; rw [if_neg (by simp)]; omega
    dsimp only
    rw [hs, if_pos ⟨rfl, h0, h1⟩]
theorem itoa_plain (x : Int) : itoaD x ≠ [] ∧ ∀ b ∈ itoaD x, b ≠ 32 := by
  have hd : ∀ f u, ∀ b ∈ digs f u, b ≠ 32 := fun f u b hb e => by
    have := List.all_eq_true.1 (digs_all f u) b hb
    rw [e] at this
    exact absurd this (by decide)
  unfold itoaD
  split
  · refine ⟨by simp, fun b hb => ?_⟩
    rcases List.mem_cons.1 hb with rfl | hb
    · decide
    · exact hd _ _ b hb
  · exact ⟨digs_ne _ _, hd _ _⟩

/-! texts there and back -/
theorem wordsB_sep (c : UInt8) : ∀ (l cur m : List UInt8), wordsB c cur (l ++ c :: m) = wordsB c cur l ++ wordsB c [] m
  | [], cur, m => by
    rw [List.nil_append, wordsB, wordsB, if_pos (by simp)]
    cases cur <;> rfl
  | b :: l, cur, m => by
    rw [List.cons_append, wordsB, wordsB]
    cases hb : (b == c) with
    | true =>
      rw [if_pos rfl, if_pos rfl, wordsB_sep c l [] m]
      cases cur <;> rfl
    | false =>
      rw [if_neg (by simp), if_neg (by simp), wordsB_sep c l _ m]
theorem wordsB_one (c : UInt8) : ∀ (l cur : List UInt8), (∀ b ∈ l, b ≠ c) → cur ++ l ≠ [] → wordsB c cur l = [cur ++ l]
  | [], cur, _, hn => by
    rw [List.append_nil] at hn ⊢
    rw [wordsB]
    cases cur with
    | nil => exact absurd rfl hn
    | cons => rfl
  | b :: l, cur, h, _ => by
    have hb : (b == c) = false := by simpa using h b (by simp)
    rw [wordsB, hb, if_neg (by simp), wordsB_one c l (cur ++ [b]) (fun x hx => h x (by simp [hx])) (by simp)]
    simp
def argsT (fs : List UInt8) (i : Ins12) (k : Nat) : List (List UInt8) := ([0, 1, 2, 3].drop k).filterMap fun j => if has12 fs j then some (itoaD (arg12 i j)) else none
def argsL (fs : List UInt8) (i : Ins12) (k : Nat) : List (List UInt8) := ([0, 1, 2, 3].take k).filterMap fun j => if has12 fs j then some (itoaD (arg12 i j)) else none
theorem text_words (fs : List UInt8) (i : Ins12) (wd : List UInt8) (hw : wd ≠ [] ∧ ∀ b ∈ wd, b ≠ 32) : ∀ k, k ≤ 4 → wordsB 32 [] (textT fs i wd k) = wd :: argsL fs i k
  | 0, _ => by
    show wordsB 32 [] wd = [wd]
    have := wordsB_one 32 wd [] hw.2 (by simpa using hw.1)
    simpa using this
  | k + 1, hk => by
    have ih := text_words fs i wd hw k (by omega)
    have hp := itoa_plain (arg12 i k)
    have hlast : argsL fs i (k + 1) = argsL fs i k ++ (if has12 fs k then [itoaD (arg12 i k)] else []) := by
      have h4 : k < 4 := by omega
      have ht : ([0, 1, 2, 3] : List Nat).take (k + 1) = ([0, 1, 2, 3] : List Nat).take k ++ [k] := by
        match k, h4 with
        | 0, _ => rfl
        | 1, _ => rfl
        | 2, _ => rfl
        | 3, _ => rfl
      unfold argsL
      rw [ht, List.filterMap_append]
      congr 1
      cases h : has12 fs k <;> simp [h]
    rw [textT_succ fs i wd k (by omega), hlast]
    unfold stepT
    cases has12 fs k with
    | false => simpa using ih
    | true =>
      rw [if_pos rfl, if_pos rfl, show ([32] : List UInt8) ++ itoaD (arg12 i k) = 32 :: itoaD (arg12 i k) from rfl, wordsB_sep, ih, wordsB_one 32 _ [] hp.2 (by simpa using hp.1)]
      rfl
theorem word_facts : gx0.all (fun o => !o.2.1.isEmpty && (!o.2.1.contains 32 && opW o.2.1 == some o)) = true := by kernel_rfl
/-- the fields below k -/
def part (i : Ins12) (k : Nat) : Ins12 := (i.1, if 0 < k then i.2.1 else 0, if 1 < k then i.2.2.1 else 0, if 2 < k then i.2.2.2.1 else 0, if 3 < k then i.2.2.2.2 else 0)
theorem part_set (i : Ins12) (k : Nat) (hk : k < 4) : setF (fld k) (arg12 i k) (part i k) = part i (k + 1) := by
  match k, hk with
  | 0, _ => rfl
  | 1, _ => rfl
  | 2, _ => rfl
  | 3, _ => rfl
theorem part_same (i : Ins12) (k : Nat) (hk : k < 4) (h : arg12 i k = 0) : part i k = part i (k + 1) := by
  match k, hk with
  | 0, _ => unfold part; simp [arg12] at h; simp [h]
  | 1, _ => unfold part; simp [arg12] at h; simp [h]
  | 2, _ => unfold part; simp [arg12] at h; simp [h]
  | 3, _ => unfold part; simp [arg12] at h; simp [h]
theorem fill_back (o : Op12) (ho : o ∈ gx0) (i : Ins12) (hv : okV o.2.2 i = true) (hm : -2147483648 ≤ i.2.2.2.2 ∧ i.2.2.2.2 ≤ 2147483647) : ∀ n k, k + n = 4 → fillP (remF o.2.2 k) (argsT o.2.2 i k) (part i k) = some (part i 4) ∧ (argsT o.2.2 i k).length = (remF o.2.2 k).length
  | 0, k, hk => by
    obtain rfl : k = 4 := by omega
    have hrem := List.all_eq_true.1 rem_facts o ho
    simp only [Bool.and_eq_true] at hrem
    rw [eq_of_beq hrem.2.1]
    exact ⟨rfl, rfl⟩
  | n + 1, k, hk => by
    have h4 : k < 4 := by omega
    obtain ⟨ih1, ih2⟩ := fill_back o ho i hv hm n (k + 1) (by omega)
    have hrem := List.all_eq_true.1 rem_facts o ho
    simp only [Bool.and_eq_true] at hrem
    have hk2 : remF o.2.2 k = (if has12 o.2.2 k then fld k :: remF o.2.2 (k + 1) else remF o.2.2 (k + 1)) := by
      have := List.all_eq_true.1 hrem.2.2 k (by
        match k, h4 with
        | 0, _ => simp
        | 1, _ => simp
        | 2, _ => simp
        | 3, _ => simp)
      exact eq_of_beq this
    have ha : argsT o.2.2 i k = (if has12 o.2.2 k then itoaD (arg12 i k) :: argsT o.2.2 i (k + 1) else argsT o.2.2 i (k + 1)) := by
      match k, h4 with
      | 0, _ => unfold argsT; cases h : has12 o.2.2 0 <;> simp [h]
      | 1, _ => unfold argsT; cases h : has12 o.2.2 1 <;> simp [h]
      | 2, _ => unfold argsT; cases h : has12 o.2.2 2 <;> simp [h]
      | 3, _ => unfold argsT; cases h : has12 o.2.2 3 <;> simp [h]
    have hr := okV_args hv hm k
    rw [hk2, ha]
    cases hh : has12 o.2.2 k with
    | true =>
      rw [if_pos rfl, if_pos rfl, fillP, numP_itoa hr.1 (by omega)]
      dsimp only
      rw [part_set i k h4]
      exact ⟨ih1, by simp [ih2]⟩
    | false =>
      rw [if_neg (by simp), if_neg (by simp)]
      have h0 : arg12 i k = 0 := by
        unfold okV at hv
        have : bad12 o.2.2 i k = false := by
          have h5 : ([0, 1, 2, 3] : List Nat).any (bad12 o.2.2 i) = false := by simpa using hv
          rw [List.any_eq_false] at h5
          have := h5 k (by
            match k, h4 with
            | 0, _ => simp
            | 1, _ => simp
            | 2, _ => simp
            | 3, _ => simp)
          simpa using this
        unfold bad12 at this
        rw [hh] at this
        simp at this
        exact this.1
      rw [part_same i k h4 h0]
      exact ⟨ih1, ih2⟩
theorem parse_text (i : Ins12) (h : ok12 i = true) (hm : InK .i32 i.2.2.2.2) : isa_Parse (textP i).1 = some (i, 0) ∧ (textP i).2 = 0 := by
  have hm2 := inK_i32 hm
  unfold textP
  have h' := h
  unfold ok12 at h
  cases ho : opN i.1 with
  | none => rw [ho] at h; cases h
  | some o =>
    rw [ho] at h
    dsimp only at h ⊢
    rw [if_pos h]
    have hom := opN_mem ho
    have hw := List.all_eq_true.1 word_facts o hom.1
    simp only [Bool.and_eq_true, Bool.not_eq_true'] at hw
    have hwl := opN_len ho
    have hl := textT_len o.2.2 i o.2.1 4 (Nat.le_refl _)
    have hwd : o.2.1 ≠ [] ∧ ∀ b ∈ o.2.1, b ≠ 32 := by
      refine ⟨fun e => by rw [e] at hw; exact absurd hw.1 (by simp), fun b hb e => ?_⟩
      have := hw.2.1
      rw [e] at hb
      rw [List.contains_iff_mem.2 hb] at this
      cases this
    refine ⟨?_, rfl⟩
    rw [parse_prog _ (by dsimp only; omega)]
    dsimp only
    rw [text_words o.2.2 i o.2.1 hwd 4 (Nat.le_refl _)]
    simp only [parseW]
    rw [eq_of_beq hw.2.2]
    dsimp only
    obtain ⟨hf1, hf2⟩ := fill_back o hom.1 i h hm2 4 0 rfl
    have hrem := List.all_eq_true.1 rem_facts o hom.1
    simp only [Bool.and_eq_true] at hrem
    rw [eq_of_beq hrem.1] at hf1 hf2
    have e1 : argsL o.2.2 i 4 = argsT o.2.2 i 0 := rfl
    have e2 : part i 0 = (o.1, 0, 0, 0, 0) := by unfold part; rw [hom.2]; rfl
    have e3 : part i 4 = i := rfl
    rw [e2, e3] at hf1
    rw [e1, if_pos hf2, hf1]
    unfold endP
    dsimp only
    rw [h', if_pos rfl]
theorem IsaBack_true {op a b c imm w : Int} (_ : InK .i64 op) (_ : InK .i64 a) (_ : InK .i64 b) (_ : InK .i64 c) (hm : InK .i32 imm) (hw : InK .u64 w) : law12_IsaBack op a b c imm w = some true := by
  unfold law12_IsaBack
  rw [awake12, some_bind]
  simp only [Bool.not_true, Bool.false_eq_true, if_false]
  rw [enc_eq (op, a, b, c, imm) hm, some_bind, text_eq (op, a, b, c, imm) hm, some_bind]
  have hback : ∀ k1 : Unit → Option Bool, k1 = (fun (_ : Unit) =>
        (isa_Decode w).bind fun z6 =>
        (if (z6.2 != 0) = true then
          some ((z6.1.1 == 0) && ((z6.1.2.1 == 0) && ((z6.1.2.2.1 == 0) && ((z6.1.2.2.2.1 == 0) && (z6.1.2.2.2.2 == 0)))))
        else
          (isa_Encode (z6.1.1, z6.1.2.1, z6.1.2.2.1, z6.1.2.2.2.1, z6.1.2.2.2.2)).bind fun z7 =>
          jn (fun (s3 : Bool) =>
            some s3) (fun k3 =>
            (if (z7.2 == 0) = true then
            k3 (z7.1 == w)
            else
            k3 false)))) → k1 () = some true := fun k1 hk1 => by
    rw [hk1]
    dsimp only
    rw [dec_eq w hw, some_bind]
    unfold decP
    by_cases hd : ok12 (dec12 w) = true ∧ enc12 (dec12 w) = w
    · rw [if_pos hd]
      rw [if_neg (by simp), show ((dec12 w).1, (dec12 w).2.1, (dec12 w).2.2.1, (dec12 w).2.2.2.1, (dec12 w).2.2.2.2) = dec12 w from rfl, enc_eq _ (dec_range w hw), hd.1, some_bind, jn_eq]
      simp [hd.2]
    · rw [if_neg hd]
      rfl
  cases hk : ok12 (op, a, b, c, imm) with
  | false =>
    have ht : textP (op, a, b, c, imm) = ([], 42) := by
      unfold textP
      unfold ok12 at hk
      dsimp only at hk ⊢
      cases ho : opN op with
      | none => rfl
      | some o =>
        rw [ho] at hk
        dsimp only at hk ⊢
        rw [hk]; rfl
    rw [ht]
    simp only [Bool.false_eq_true, if_false]
    rw [if_neg (by simp)]
    refine jn_gen fun k1 hk1 => ?_
    rw [if_neg (by simp)]
    exact hback k1 hk1
  | true =>
    obtain ⟨hp1, hp2⟩ := parse_text (op, a, b, c, imm) hk hm
    simp only [if_true]
    rw [hp2, if_neg (by simp)]
    refine jn_gen fun k1 hk1 => ?_
    rw [if_pos (by simp), dec_eq _ (enc_inK _ hk), decP_enc _ hk hm, some_bind, hp1, some_bind, jn_eq]
    simp only [bne_self_eq_false, Bool.false_eq_true, if_false, beq_self_eq_true, Bool.and_self, Bool.not_true]
    exact hback k1 hk1
end Dm
