/-
  Law 12: instructions as texts: numbers' digits, words and fields. No condition.
-/
import Derived.Test.YtpgohbnaphkngaaDoorLaw12
import Derived.Test.YtpgohbnaphkngaaDoorPreT
namespace Dm
open Go

theorem digs_len : ∀ (f u : Nat), (digs f u).length ≤ f
  | 0, _ => Nat.le_refl _
  | f + 1, u => by
    rw [digs]
    split
    · simp
    · have := digs_len f (u / 10)
      simp only [List.length_append, List.length_cons, List.length_nil]; omega
theorem itoaD_len (n : Int) : (itoaD n).length ≤ 21 := by
  unfold itoaD
  split
  · have := digs_len 20 n.natAbs
    simp only [List.length_cons]; omega
  · have := digs_len 20 n.toNat
    omega
theorem digs_small (f u : Nat) (h : u < 10) : digs (f + 1) u = [UInt8.ofNat (48 + u)] := by rw [digs, if_pos h]
theorem num_digit (n : Nat) (h : n < 10) : cutL ([48, 49, 50, 51, 52, 53, 54, 55, 56, 57] : List UInt8) (n : Int) ((n + 1 : Nat) : Int) = [UInt8.ofNat (48 + n)] := by
  have h2 : ∀ k : Fin 10, cutL ([48, 49, 50, 51, 52, 53, 54, 55, 56, 57] : List UInt8) ((k.1 : Nat) : Int) ((k.1 + 1 : Nat) : Int) = [UInt8.ofNat (48 + k.1)] := by decide
  exact h2 ⟨n, h⟩
theorem num_small (fu n : Nat) (h : n < 10) : ref12_Number_f (fu + 1) (n : Int) = some [UInt8.ofNat (48 + n)] := by
  rw [ref12_Number_f]
  rw [if_neg (by simp), if_pos (by simp; omega), i64s (by omega), gd_pos ⟨by omega, by omega, by show ((n + 1 : Nat) : Int) ≤ ((10 : Nat) : Int); omega⟩, num_digit n h]
theorem num_digs : ∀ (f fu u : Nat), u < 10 ^ (f + 1) → f ≤ 30 → u < 9223372036854775808 → ref12_Number_f (fu + f + 1) (u : Int) = some (digs (f + 1) u)
  | 0, fu, u, h, _, _ => by
    have h1 : u < 10 := by simpa using h
    rw [digs_small 0 u h1]
    exact num_small fu u h1
  | f + 1, fu, u, h, hf, hb => by
    by_cases h1 : u < 10
    · rw [digs_small (f + 1) u h1]
      exact num_small (fu + (f + 1)) u h1
    · have h2 : u / 10 < 10 ^ (f + 1) := by
        rw [Nat.div_lt_iff_lt_mul (by decide)]
        rw [Nat.pow_succ] at h
        exact h
      have e1 : IntKind.i64.wrap (Int.tdiv (u : Int) 10) = ((u / 10 : Nat) : Int) := by
        rw [Int.tdiv_eq_ediv_of_nonneg (by omega), i64w (by omega)]; omega
      have e2 : Int.tmod (u : Int) 10 = ((u % 10 : Nat) : Int) := by
        rw [Int.tmod_eq_emod_of_nonneg (by omega)]; omega
      have hl := digs_len (f + 1) (u / 10)
      rw [show fu + (f + 1) + 1 = (fu + f + 1) + 1 by omega, ref12_Number_f]
      rw [if_neg (by simp), if_neg (by simp; omega), e1, num_digs f fu (u / 10) h2 (by omega) (by omega), some_bind, e2, num_small (fu + f) (u % 10) (by omega), some_bind, gd_pos (by simp only [List.length_cons, List.length_nil]; omega)]
      conv => rhs; rw [digs, if_neg h1]
theorem number_eq {n : Int} (h0 : -9223372036854775808 < n) (h1 : n < 9223372036854775808) : ref12_Number n = some (itoaD n) := by
  unfold ref12_Number itoaD
  by_cases hn : n < 0
  · rw [ref12_Number_f, if_pos (decide_eq_true hn), if_pos hn]
    have e : IntKind.i64.wrap (0 - n) = ((n.natAbs : Nat) : Int) := by rw [i64w (by omega)]; omega
    have hl := digs_len (19 + 1) n.natAbs
    rw [e, num_digs 19 79 n.natAbs (by omega) (by omega) (by omega), some_bind, gd_pos (by simp only [List.length_cons, List.length_nil]; omega)]
    rfl
  · obtain ⟨u, rfl⟩ : ∃ u : Nat, n = u := ⟨n.toNat, by omega⟩
    rw [if_neg hn, num_digs 19 80 u (by omega) (by omega) (by omega)]
    rfl

def stepT (fs : List UInt8) (i : Ins12) (acc : List UInt8) (k : Nat) : List UInt8 := if has12 fs k then acc ++ ([32] ++ itoaD (arg12 i k)) else acc
def textT (fs : List UInt8) (i : Ins12) (wd : List UInt8) (k : Nat) : List UInt8 := ([0, 1, 2, 3].take k).foldl (stepT fs i) wd
theorem textT_succ (fs : List UInt8) (i : Ins12) (wd : List UInt8) (k : Nat) (hk : k < 4) : textT fs i wd (k + 1) = stepT fs i (textT fs i wd k) k := by
  match k, hk with
  | 0, _ => rfl
  | 1, _ => rfl
  | 2, _ => rfl
  | 3, _ => rfl
theorem textT_len (fs : List UInt8) (i : Ins12) (wd : List UInt8) : ∀ k, k ≤ 4 → (textT fs i wd k).length ≤ wd.length + 22 * k
  | 0, _ => by simp [textT]
  | k + 1, hk => by
    have ih := textT_len fs i wd k (by omega)
    rw [textT_succ fs i wd k (by omega)]
    unfold stepT
    have := itoaD_len (arg12 i k)
    split
    · simp only [List.length_append, List.length_cons, List.length_nil]; omega
    · omega
def textP (i : Ins12) : List UInt8 × Int := match opN i.1 with
  | some o => if okV o.2.2 i then (textT o.2.2 i o.2.1 4, 0) else ([], 42)
  | none => ([], 42)
theorem word_len : gx0.all (fun o => decide (o.2.1.length ≤ 5)) = true := by kernel_rfl
theorem opN_mem {n : Int} {o : Op12} (h : opN n = some o) : o ∈ gx0 ∧ o.1 = n := ⟨List.mem_of_find?_eq_some h, by simpa using List.find?_some h⟩
theorem opN_len {n : Int} {o : Op12} (h : opN n = some o) : o.2.1.length ≤ 5 := by simpa using List.all_eq_true.1 word_len o (opN_mem h).1
theorem okV_args {fs : List UInt8} {i : Ins12} (h : okV fs i = true) (hm : -2147483648 ≤ i.2.2.2.2 ∧ i.2.2.2.2 ≤ 2147483647) (k : Nat) : -2147483648 ≤ arg12 i k ∧ arg12 i k ≤ 2147483647 := by
  unfold okV at h
  match k with
  | 0 => simp [bad12, arg12] at h ⊢; omega
  | 1 => simp [bad12, arg12] at h ⊢; omega
  | 2 => simp [bad12, arg12] at h ⊢; omega
  | k + 3 => exact hm
theorem text_eq (i : Ins12) (hm : InK .i32 i.2.2.2.2) : isa_Text i = some (textP i) := by
  unfold isa_Text textP
  rw [show (i.1, i.2.1, i.2.2.1, i.2.2.2.1, i.2.2.2.2) = i from rfl, may_eq i hm, some_bind]
  have hm2 := inK_i32 hm
  have hw : IntKind.i64.wrap i.2.2.2.2 = i.2.2.2.2 := i64w (by omega)
  cases ho : opN i.1 with
  | none => rfl
  | some o =>
    simp only []
    cases hk : okV o.2.2 i with
    | false => rfl
    | true =>
      simp only [Bool.not_true, Bool.false_eq_true, if_false, if_true]
      rw [jn_eq]
      have hwl := opN_len ho
      refine loop_at (fun k => (textT o.2.2 i o.2.1 k, (k : Int))) 4 rfl (by decide) ?_
      intro k rec hk4 hrec
      by_cases h4 : k < 4
      · have hr := hrec h4
        have hx : gt ([i.2.1, i.2.2.1, i.2.2.2.1, IntKind.i64.wrap i.2.2.2.2] : List Int) (k : Int) = arg12 i k := by
          rw [hw]
          match k, h4 with
          | 0, _ => rfl
          | 1, _ => rfl
          | 2, _ => rfl
          | 3, _ => rfl
        have hb := okV_args hk hm2 k
        have hl := textT_len o.2.2 i o.2.1 k hk4
        have hil := itoaD_len (arg12 i k)
        rw [if_pos (show decide ((k : Int) < 4) = true by simp; omega), jn_eq, gd_pos ⟨by omega, by omega⟩, let1_eq, i64s (by omega), gd_pos ⟨by omega, by omega, by show ((k + 1 : Nat) : Int) ≤ ((4 : Nat) : Int); omega⟩, cont12 _ _ h4, some_bind, jn_eq, hx]
        rw [textT_succ _ _ _ _ h4] at hr
        unfold stepT at hr
        unfold strconv_Itoa
        cases hh : has12 o.2.2 k with
        | false =>
          rw [hh] at hr
          exact hr
        | true =>
          rw [hh] at hr
          simp only [if_true]
          rw [gd_pos ⟨by omega, by omega⟩, some_bind, gd_pos (by simp only [List.length_cons, List.length_nil]; omega), gd_pos (by simp only [List.length_append, List.length_cons, List.length_nil]; omega), let1_eq]
          exact hr
      · obtain rfl : k = 4 := by omega
        rfl
theorem refText_eq (i : Ins12) (hm : InK .i32 i.2.2.2.2) : ref12_Text i = some (textP i) := by
  unfold ref12_Text textP
  have hm2 := inK_i32 hm
  have hrg : range12 i.2.2.2.2 = true := by simp [range12]; omega
  rw [show (i.1, i.2.1, i.2.2.1, i.2.2.2.1, i.2.2.2.2) = i from rfl, refMay_eq, hrg, Bool.and_true, some_bind]
  have ht := tab12 i.1
  unfold ok12
  cases ho : opN i.1 with
  | none => rfl
  | some o =>
    rw [ho] at ht
    obtain ⟨_, hwd, _, hhas⟩ := ht
    rcases Bool.eq_false_or_eq_true (okV o.2.2 i) with hk | hk
    rotate_left
    · simp only [hk, Bool.not_false, if_true, Bool.false_eq_true, if_false]
    · simp only [hk, Bool.not_true, Bool.false_eq_true, if_false, if_true]
      rw [word_eq, some_bind, hhas, some_bind, jn_eq, ← hwd]
      have hwl := opN_len ho
      refine loop_at (fun k => (textT o.2.2 i o.2.1 k, bits12 o.2.2 k, (k : Int))) 4 rfl (by decide) ?_
      intro k rec hk4 hrec
      by_cases h4 : k < 4
      · have hr := hrec h4
        obtain ⟨_, b2, b3⟩ := bits_step o.2.2 k h4
        have hx : gt ([i.2.1, i.2.2.1, i.2.2.2.1, i.2.2.2.2] : List Int) (k : Int) = arg12 i k := by
          match k, h4 with
          | 0, _ => rfl
          | 1, _ => rfl
          | 2, _ => rfl
          | 3, _ => rfl
        have hb := okV_args hk hm2 k
        have hl := textT_len o.2.2 i o.2.1 k hk4
        have hil := itoaD_len (arg12 i k)
        rw [textT_succ _ _ _ _ h4] at hr
        unfold stepT at hr
        rw [if_pos (show decide ((k : Int) < 4) = true by simp; omega), jn_eq]
        simp only [b2, b3, let1_eq]
        rw [i64s (by omega)]
        cases hh : has12 o.2.2 k with
        | false =>
          rw [hh] at hr
          exact hr
        | true =>
          rw [hh] at hr
          simp only [if_true]
          rw [gd_pos ⟨by omega, by show (k : Int) < ((4 : Nat) : Int); omega⟩, hx, number_eq (by omega) (by omega), some_bind, gd_pos (by simp only [List.length_cons, List.length_nil]; omega), gd_pos (by simp only [List.length_append, List.length_cons, List.length_nil]; omega)]
          exact hr
      · obtain rfl : k = 4 := by omega
        rfl
theorem IsaEncodes_true {op a b c imm : Int} (_ : InK .i64 op) (_ : InK .i64 a) (_ : InK .i64 b) (_ : InK .i64 c) (hm : InK .i32 imm) : law12_IsaEncodes op a b c imm = some true := by
  unfold law12_IsaEncodes
  have hm2 := inK_i32 hm
  have hrg : range12 imm = true := by simp [range12]; omega
  have e1 := enc_eq (op, a, b, c, imm) hm
  have e2 := refEnc_eq (op, a, b, c, imm)
  simp only [hrg, Bool.and_true] at e2
  rw [awake12, some_bind]
  simp only [Bool.not_true, Bool.false_eq_true, if_false]
  rw [e1, some_bind, model_eq (op, a, b, c, imm) hm, some_bind, e2, some_bind, text_eq (op, a, b, c, imm) hm, some_bind, some_bind, refText_eq (op, a, b, c, imm) hm, some_bind, jn_eq]
  simp
end Dm
