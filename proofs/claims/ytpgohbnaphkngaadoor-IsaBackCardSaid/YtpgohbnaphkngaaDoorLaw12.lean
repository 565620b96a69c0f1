/-
  Law 12, in plain Lean: which instructions may be, their words as numbers, there and back. No program in sight but the shallow forms. No condition.
-/
import Derived.Test.YtpgohbnaphkngaaDoorFunB
import Derived.Test.YtpgohbnaphkngaaDoorS
import Derived.KernelRfl
namespace Dm
open Go

abbrev Op12 := Int × List UInt8 × List UInt8
abbrev Ins12 := Int × Int × Int × Int × Int
/-- the operation of a number -/
def opN (n : Int) : Option Op12 := gx0.find? fun o => o.1 == n
def fld : Nat → UInt8
  | 0 => 97
  | 1 => 98
  | 2 => 99
  | _ => 105
def has12 (fs : List UInt8) (k : Nat) : Bool := hasB fs (fld k)
def arg12 (i : Ins12) : Nat → Int
  | 0 => i.2.1
  | 1 => i.2.2.1
  | 2 => i.2.2.2.1
  | _ => i.2.2.2.2
/-- what is wrong with the field k -/
def bad12 (fs : List UInt8) (i : Ins12) (k : Nat) : Bool := (!has12 fs k && arg12 i k != 0) || (decide (k < 3) && (decide (arg12 i k < 0) || decide (arg12 i k > 31)))
def okV (fs : List UInt8) (i : Ins12) : Bool := ![0, 1, 2, 3].any (bad12 fs i)
def ok12 (i : Ins12) : Bool := match opN i.1 with
  | some o => okV o.2.2 i
  | none => false
def zero12 : Op12 := (0, [], [])

theorem find_fI {α : Type} (p : α → Bool) : ∀ l : List α, l.find? p = (fI p l).bind fun k => l[k]?
  | [] => rfl
  | x :: xs => by
    rw [List.find?_cons, fI]
    cases hx : p x
    · simp only [Bool.false_eq_true, if_false, find_fI p xs]
      cases fI p xs <;> rfl
    · rfl
theorem gx0_len : gx0.length = 38 := rfl
theorem ixf_may (i : Ins12) (l : List Op12) (hl : l.length ≤ 9223372036854775806) : slices_IndexFunc_isa_op_isa_op_may_1 l i = some (ixN 0 (fI (fun o => o.1 == i.1) l)) := by
  unfold slices_IndexFunc_isa_op_isa_op_may_1
  rw [jn_eq]
  refine scan_ix l (by omega) (fun o => o.1 == i.1) (fun k rec hk => ?_) (fun rec => ?_)
  · rw [dif_lt hk, if_pos rfl, gd_pos ⟨by omega, by omega⟩, gt_nat hk]
    unfold isa_may_1
    rw [some_bind, i64s (by omega)]
  · rw [dif_ge (Nat.le_refl _)]
    rfl
theorem find_end (l : List Op12) (p : Op12 → Bool) (f : Option (Op12 × Bool) → Option (Op12 × Bool)) (hf : f = id) :
    (if (decide (ixN 0 (fI p l) < 0)) = true then some ((0, [], []), false) else
      gd ((0 : Int) ≤ ixN 0 (fI p l) ∧ ixN 0 (fI p l) < ((l.length : Nat) : Int)) <| some (((gt l (ixN 0 (fI p l))).1, (gt l (ixN 0 (fI p l))).2.1, (gt l (ixN 0 (fI p l))).2.2), true)) = f (some (match l.find? p with
      | some o => (o, true)
      | none => (zero12, false))) := by
  subst hf
  rw [find_fI]
  cases h : fI p l with
  | none => rfl
  | some k =>
    obtain ⟨hk, _⟩ := fI_some h
    simp only [ixN, Nat.zero_add, Option.bind_some, List.getElem?_eq_getElem hk]
    rw [if_neg (by simp), gd_pos ⟨by omega, by omega⟩, gt_nat hk]
    rfl
theorem find_may (i : Ins12) : isa_find_may_1 i = some (match opN i.1 with
    | some o => (o, true)
    | none => (zero12, false)) := by
  unfold isa_find_may_1
  rw [ixf_may i gx0 (by rw [gx0_len]; decide), some_bind]
  exact find_end gx0 _ id rfl
theorem cont12 (fs : List UInt8) (k : Nat) (hk : k < 4) : strings_Contains fs (cutL ([97, 98, 99, 105] : List UInt8) (k : Int) ((k + 1 : Nat) : Int)) = some (has12 fs k) := by
  match k, hk with
  | 0, _ => rfl
  | 1, _ => rfl
  | 2, _ => rfl
  | 3, _ => rfl
theorem may_eq (i : Ins12) (hm : InK .i32 i.2.2.2.2) : isa_may i = some (match opN i.1 with
    | some o => if okV o.2.2 i then (o, true) else (zero12, false)
    | none => (zero12, false)) := by
  unfold isa_may
  rw [find_may, some_bind]
  have hw : IntKind.i64.wrap i.2.2.2.2 = i.2.2.2.2 := i64w (by have := inK_i32 hm; omega)
  cases opN i.1 with
  | none => rfl
  | some o =>
    simp only [Bool.not_true, Bool.false_eq_true, if_false]
    rw [jn_eq]
    have h := scan_o ([0, 1, 2, 3] : List Nat) (by decide) (bad12 o.2.2 i) (fun _ => (zero12, false)) (o, true) (body := fun (s2 : Int) rec1 =>
        (if (decide (s2 < 4)) = true then
          gd ((0 : Int) ≤ s2 ∧ s2 < ((4 : Nat) : Int)) <|
          let1 (gt ([i.2.1, i.2.2.1, i.2.2.2.1, IntKind.i64.wrap i.2.2.2.2] : List Int) s2) fun x_1 =>
          gd ((0 : Int) ≤ s2 ∧ (s2 : Int) ≤ (IntKind.i64.wrap (s2 + 1)) ∧ (IntKind.i64.wrap (s2 + 1)) ≤ ((([97, 98, 99, 105] : List UInt8).length : Nat) : Int)) <|
          (strings_Contains o.2.2 (cutL ([97, 98, 99, 105] : List UInt8) s2 (IntKind.i64.wrap (s2 + 1)))).bind fun z2 =>
          jn (fun (s3 : Bool) =>
            (if (s3) = true then
              some ((0, [], []), false)
            else
              rec1 (IntKind.i64.wrap (s2 + 1)))) (fun k2 =>
            (if (!z2) = true then
            (if (x_1 != 0) = true then
            k2 true
            else
            (if (decide (s2 < 3)) = true then
            (if (decide (x_1 < 0)) = true then
            k2 true
            else
            k2 (decide (x_1 > 31)))
            else
            k2 false))
            else
            (if (decide (s2 < 3)) = true then
            (if (decide (x_1 < 0)) = true then
            k2 true
            else
            k2 (decide (x_1 > 31)))
            else
            k2 false)))
        else
          some ((o.1, o.2.1, o.2.2), true))) (fun k rec hk => ?_) (fun rec => ?_)
    · refine h.trans (congrArg some ?_)
      unfold okV
      cases h2 : ([0, 1, 2, 3] : List Nat).find? (bad12 o.2.2 i) with
      | none =>
        have : ([0, 1, 2, 3] : List Nat).any (bad12 o.2.2 i) = false := by
          rw [List.any_eq_false]
          intro x hx hb
          exact absurd hb (by simpa using List.find?_eq_none.1 h2 x hx)
        rw [this]; rfl
      | some x =>
        have : ([0, 1, 2, 3] : List Nat).any (bad12 o.2.2 i) = true := List.any_eq_true.2 ⟨x, List.mem_of_find?_eq_some h2, List.find?_some h2⟩
        rw [this]; rfl
    · have hk4 : k < 4 := hk
      have hkk : ([0, 1, 2, 3] : List Nat)[k] = k := by
        match k, hk4 with
        | 0, _ => rfl
        | 1, _ => rfl
        | 2, _ => rfl
        | 3, _ => rfl
      have hx : gt ([i.2.1, i.2.2.1, i.2.2.2.1, IntKind.i64.wrap i.2.2.2.2] : List Int) (k : Int) = arg12 i k := by
        rw [hw]
        match k, hk4 with
        | 0, _ => rfl
        | 1, _ => rfl
        | 2, _ => rfl
        | 3, _ => rfl
      rw [hkk, i64s (by omega)]
      rw [if_pos (show decide ((k : Int) < 4) = true by simp; omega), gd_pos ⟨by omega, by omega⟩, let1_eq, gd_pos ⟨by omega, by omega, by show ((k + 1 : Nat) : Int) ≤ ((4 : Nat) : Int); omega⟩, cont12 _ _ hk4, some_bind, jn_eq, hx]
      unfold bad12
      have h3 : decide ((k : Int) < 3) = decide (k < 3) := decide_eq_decide.2 (by omega)
      rw [h3]
      generalize has12 o.2.2 k = hh
      generalize arg12 i k = x
      cases hh <;> cases decide (k < 3) <;> cases hx0 : (x != 0) <;> cases hx1 : decide (x < 0) <;> cases hx2 : decide (x > 31) <;> simp [zero12]
    · rfl
theorem may_ok (i : Ins12) (hm : InK .i32 i.2.2.2.2) : ∃ o, isa_may i = some (o, ok12 i) ∧ (ok12 i = true → opN i.1 = some o) := by
  rw [may_eq i hm]
  unfold ok12
  cases opN i.1 with
  | none => exact ⟨_, rfl, fun h => by cases h⟩
  | some o =>
    simp only []
    cases h : okV o.2.2 i
    · exact ⟨_, rfl, fun h => by cases h⟩
    · exact ⟨_, rfl, fun _ => rfl⟩

/-! the reference -/
def wl12 : List (List UInt8) := [[], [110, 111, 112], [109, 111, 118], [97, 100, 100], [115, 117, 98], [109, 117, 108], [100, 105, 118], [114, 101, 109], [97, 110, 100], [111, 114], [120, 111, 114], [115, 104, 108], [115, 104, 114], [115, 97, 114], [115, 108, 116], [115, 108, 116, 117], [97, 100, 100, 105], [109, 111, 118, 105], [109, 111, 118, 104, 105], [], [108, 100, 49], [108, 100, 50], [108, 100, 52], [108, 100, 56], [115, 116, 49], [115, 116, 50], [115, 116, 52], [115, 116, 56], [], [], [98, 101, 113], [98, 110, 101], [98, 108, 116], [98, 108, 116, 117], [106, 109, 112], [99, 97, 108, 108], [106, 114], [99, 97, 108, 108, 114], [108, 101, 97], [116, 108, 115], [115, 121, 115], [116, 114, 97, 112]]
def word12 (op : Int) : List UInt8 := if op < 0 ∨ 42 ≤ op then [] else gt wl12 op
theorem word_gen (l : List (List UInt8)) (op : Int) (hl : l.length = 42) : jn (fun (s1 : Bool) =>
    (if (s1) = true then
      some []
    else
      gd ((0 : Int) ≤ op ∧ op < ((l.length : Nat) : Int)) <|
      some (gt l op))) (fun k1 =>
    (if (decide (op < 0)) = true then
    k1 true
    else
    k1 (decide (op ≥ ((l.length : Nat) : Int))))) = some (if op < 0 ∨ 42 ≤ op then [] else gt l op) := by
  rw [jn_eq, hl]
  by_cases h0 : op < 0
  · rw [if_pos (decide_eq_true h0)]
    simp [h0]
  · rw [if_neg (by simpa using h0)]
    by_cases h1 : 42 ≤ op
    · simp [h1]
    · dsimp only
      rw [if_neg (show ¬ decide (op ≥ ((42 : Nat) : Int)) = true by simp; omega), if_neg (by omega)]
      exact gd_pos ⟨by omega, by omega⟩
theorem word_eq (op : Int) : ref12_Word op = some (word12 op) := word_gen wl12 op rfl
def bit12 (b : Bool) (n : Int) : Int := if b then n else 0
def mask12 (fs : List UInt8) : Int := bit12 (has12 fs 0) 1 + bit12 (has12 fs 1) 2 + bit12 (has12 fs 2) 4 + bit12 (has12 fs 3) 8
def tabB (n : Nat) : Bool := match opN n with
  | none => word12 n == []
  | some o => o.1 == (n : Int) && o.2.1 == word12 n && word12 n != [] && ref12_has n == some (mask12 o.2.2)
theorem tab_all : (List.range 42).all tabB = true := by kernel_rfl
theorem op_range : gx0.all (fun o => decide (0 ≤ o.1) && decide (o.1 < 42)) = true := by kernel_rfl
theorem opN_out {n : Int} (h : n < 0 ∨ 42 ≤ n) : opN n = none := by
  refine List.find?_eq_none.2 fun o ho => ?_
  have := List.all_eq_true.1 op_range o ho
  simp only [Bool.and_eq_true, decide_eq_true_eq] at this
  simp only [beq_iff_eq]
  omega
theorem tab12 (n : Int) : match opN n with
    | none => word12 n = []
    | some o => o.1 = n ∧ o.2.1 = word12 n ∧ word12 n ≠ [] ∧ ref12_has n = some (mask12 o.2.2) := by
  by_cases h : n < 0 ∨ 42 ≤ n
  · rw [opN_out h]
    exact if_pos h
  · obtain ⟨k, rfl⟩ : ∃ k : Nat, n = k := ⟨n.toNat, by omega⟩
    have := List.all_eq_true.1 tab_all k (List.mem_range.2 (by omega))
    unfold tabB at this
    cases h2 : opN (k : Int) with
    | none => rw [h2] at this; exact eq_of_beq this
    | some o =>
      rw [h2] at this
      simp only [Bool.and_eq_true] at this
      obtain ⟨⟨⟨q1, q2⟩, q3⟩, q4⟩ := this
      exact ⟨eq_of_beq q1, eq_of_beq q2, bne_iff_ne.1 q3, eq_of_beq q4⟩
theorem loopK_s {σ ρ : Type} {f : σ → (σ → Option ρ) → Option ρ} {s : σ} {r : Option ρ} {n : Nat} (h : f s (loopK f n) = r) : loopK f (n + 1) s = r := h
theorem bigF_5 : bigF = (bigF - 5) + 1 + 1 + 1 + 1 + 1 := by
  have : bigF = 18446744073709551616 := rfl
  omega
def range12 (m : Int) : Bool := decide (-2147483648 ≤ m) && decide (m ≤ 2147483647)
def bits12 (fs : List UInt8) : Nat → Int
  | 0 => mask12 fs
  | k + 1 => Int.tdiv (bits12 fs k) 2
theorem bits_step (fs : List UInt8) (k : Nat) (hk : k < 4) : (Int.tmod (bits12 fs k) 2 == 0) = !has12 fs k ∧ (Int.tmod (bits12 fs k) 2 == 1) = has12 fs k ∧ IntKind.i64.wrap (Int.tdiv (bits12 fs k) 2) = bits12 fs (k + 1) := by
  match k, hk with
  | 0, _ => unfold bits12 bits12 mask12; cases has12 fs 0 <;> cases has12 fs 1 <;> cases has12 fs 2 <;> cases has12 fs 3 <;> exact ⟨rfl, rfl, rfl⟩
  | 1, _ => unfold bits12 bits12 bits12 mask12; cases has12 fs 0 <;> cases has12 fs 1 <;> cases has12 fs 2 <;> cases has12 fs 3 <;> exact ⟨rfl, rfl, rfl⟩
  | 2, _ => unfold bits12 bits12 bits12 bits12 mask12; cases has12 fs 0 <;> cases has12 fs 1 <;> cases has12 fs 2 <;> cases has12 fs 3 <;> exact ⟨rfl, rfl, rfl⟩
  | 3, _ => unfold bits12 bits12 bits12 bits12 bits12 mask12; cases has12 fs 0 <;> cases has12 fs 1 <;> cases has12 fs 2 <;> cases has12 fs 3 <;> exact ⟨rfl, rfl, rfl⟩
theorem any4 (p : Nat → Bool) (k : Nat) : ([0, 1, 2, 3].drop k).any p = if k < 4 then (p k || ([0, 1, 2, 3].drop (k + 1)).any p) else false := by
  match k with
  | 0 => rfl
  | 1 => rfl
  | 2 => rfl
  | 3 => rfl
  | k + 4 => rw [if_neg (by omega)]; simp
theorem refMay_eq (i : Ins12) : ref12_May i = some (ok12 i && range12 i.2.2.2.2) := by
  unfold ref12_May
  rw [word_eq, some_bind]
  have ht := tab12 i.1
  unfold ok12
  cases ho : opN i.1 with
  | none =>
    rw [ho] at ht
    rw [if_pos (by simpa using ht)]; rfl
  | some o =>
    rw [ho] at ht
    obtain ⟨_, _, hne, hhas⟩ := ht
    rw [if_neg (by simpa using hne), hhas, some_bind, jn_eq]
    refine loop_to (fun k => (bits12 o.2.2 k, (k : Int))) (fun k => some (!([0, 1, 2, 3].drop k).any (bad12 o.2.2 i) && range12 i.2.2.2.2)) 4 rfl rfl (by decide) ?_
    intro k rec hk hrec
    by_cases h4 : k < 4
    · obtain ⟨b1, _, b3⟩ := bits_step o.2.2 k h4
      have hr := hrec h4
      have hx : gt ([i.2.1, i.2.2.1, i.2.2.2.1, i.2.2.2.2] : List Int) (k : Int) = arg12 i k := by
        match k, h4 with
        | 0, _ => rfl
        | 1, _ => rfl
        | 2, _ => rfl
        | 3, _ => rfl
      have h3 : decide ((k : Int) < 3) = decide (k < 3) := decide_eq_decide.2 (by omega)
      have hg : ((0 : Int) ≤ (k : Int) ∧ (k : Int) < ((([i.2.1, i.2.2.1, i.2.2.2.1, i.2.2.2.2] : List Int).length : Nat) : Int)) := ⟨by omega, by show (k : Int) < ((4 : Nat) : Int); omega⟩
      simp only [jn_eq, let1_eq, gd_pos hg, hx, h3, b1, b3]
      rw [if_pos (show decide ((k : Int) < 4) = true by simp; omega), i64s (by omega), any4, if_pos h4]
      rw [show (bits12 o.2.2 (k + 1), ((k + 1 : Nat) : Int)) = (fun k => (bits12 o.2.2 k, (k : Int))) (k + 1) from rfl, hr]
      unfold bad12
      generalize has12 o.2.2 k = hh
      generalize arg12 i k = x
      cases hh <;> cases decide (k < 3) <;> cases hx0 : (x != 0) <;> cases hx1 : decide (x < 0) <;> cases hx2 : decide (x > 31) <;> simp
    · obtain rfl : k = 4 := by omega
      simp only [jn_eq]
      rw [if_neg (by simp)]
      unfold range12
      by_cases hq : -2147483648 ≤ i.2.2.2.2
      · rw [if_pos (decide_eq_true hq), decide_eq_true hq]; simp
      · rw [if_neg (by simpa using hq), decide_eq_false hq]; simp

/-! words as numbers -/
def enc12 (i : Ins12) : Int := i.1 + 256 * i.2.1 + 8192 * i.2.2.1 + 262144 * i.2.2.2.1 + 4294967296 * (i.2.2.2.2 % 4294967296)
theorem bor_add {x c : Int} (s : Nat) (hs : s < 64) (hx0 : 0 ≤ x) (hx : x < 2 ^ s) (hc0 : 0 ≤ c) (hc : c * 2 ^ s + x < 18446744073709551616) : bor .u64 x (shl .u64 c s) = x + c * 2 ^ s := by
  obtain ⟨a, rfl⟩ := Int.eq_ofNat_of_zero_le hx0
  obtain ⟨b, rfl⟩ := Int.eq_ofNat_of_zero_le hc0
  have ep : (2 : Int) ^ s = ((2 ^ s : Nat) : Int) := by rw [Int.natCast_pow]; rfl
  rw [ep] at hx hc ⊢
  have ha : a < 2 ^ s := by omega
  have hb : b * 2 ^ s + a < 18446744073709551616 := by
    have hm : ((b * 2 ^ s : Nat) : Int) = (b : Int) * ((2 ^ s : Nat) : Int) := Int.natCast_mul b (2 ^ s)
    omega
  have hsh : shl .u64 (b : Int) (s : Int) = ((b * 2 ^ s : Nat) : Int) := by
    unfold shl
    rw [show ((s : Int)).toNat = s by omega, Nat.min_eq_left (show s ≤ IntKind.u64.bits from Nat.le_of_lt hs)]
    have : ((b : Int) * 2 ^ s) = ((b * 2 ^ s : Nat) : Int) := by rw [Int.natCast_mul, Int.natCast_pow]; rfl
    rw [this, u64w ⟨by omega, by omega⟩]
  rw [hsh, bor_nat .u64 rfl (by omega) (by simp only [IntKind.bits]; omega) (by omega) (by simp only [IntKind.bits]; omega)]
  simp only [Int.toNat_natCast]
  rw [Nat.or_comm, ← Nat.shiftLeft_eq, ← Nat.shiftLeft_add_eq_or_of_lt ha, Nat.shiftLeft_eq]
  rw [Int.natCast_add, Int.natCast_mul]; omega
theorem ok_bounds {i : Ins12} (h : ok12 i = true) : (0 ≤ i.1 ∧ i.1 < 42) ∧ (0 ≤ i.2.1 ∧ i.2.1 ≤ 31) ∧ (0 ≤ i.2.2.1 ∧ i.2.2.1 ≤ 31) ∧ (0 ≤ i.2.2.2.1 ∧ i.2.2.2.1 ≤ 31) := by
  have h0 : ¬ (i.1 < 0 ∨ 42 ≤ i.1) := fun hn => by
    unfold ok12 at h
    rw [opN_out hn] at h
    cases h
  unfold ok12 at h
  cases ho : opN i.1 with
  | none => rw [ho] at h; cases h
  | some o =>
    rw [ho] at h
    unfold okV at h
    simp [bad12, arg12] at h
    omega
theorem enc_eq (i : Ins12) (hm : InK .i32 i.2.2.2.2) : isa_Encode i = some (if ok12 i then (enc12 i, 0) else (0, 42)) := by
  obtain ⟨o, h1, _⟩ := may_ok i hm
  unfold isa_Encode
  rw [show (i.1, i.2.1, i.2.2.1, i.2.2.2.1, i.2.2.2.2) = i from rfl, h1, some_bind]
  cases hk : ok12 i with
  | false => rfl
  | true =>
    obtain ⟨b0, b1, b2, b3⟩ := ok_bounds hk
    simp only [Bool.not_true, Bool.false_eq_true, if_false, if_true]
    congr 2
    have hm2 := inK_i32 hm
    rw [u64w (n := i.1) (by omega), u64w (n := i.2.1) (by omega), u64w (n := i.2.2.1) (by omega), u64w (n := i.2.2.2.1) (by omega), wrap_u32, u64w (n := i.2.2.2.2 % 4294967296) (by omega)]
    have e1 : bor .u64 i.1 (shl .u64 i.2.1 8) = i.1 + i.2.1 * 2 ^ 8 := bor_add (x := i.1) (c := i.2.1) 8 (by omega) (by omega) (by omega) (by omega) (by omega)
    have e2 : bor .u64 (i.1 + i.2.1 * 2 ^ 8) (shl .u64 i.2.2.1 13) = i.1 + i.2.1 * 2 ^ 8 + i.2.2.1 * 2 ^ 13 := bor_add (x := i.1 + i.2.1 * 2 ^ 8) (c := i.2.2.1) 13 (by omega) (by omega) (by omega) (by omega) (by omega)
    have e3 : bor .u64 (i.1 + i.2.1 * 2 ^ 8 + i.2.2.1 * 2 ^ 13) (shl .u64 i.2.2.2.1 18) = i.1 + i.2.1 * 2 ^ 8 + i.2.2.1 * 2 ^ 13 + i.2.2.2.1 * 2 ^ 18 := bor_add (x := i.1 + i.2.1 * 2 ^ 8 + i.2.2.1 * 2 ^ 13) (c := i.2.2.2.1) 18 (by omega) (by omega) (by omega) (by omega) (by omega)
    have e4 : bor .u64 (i.1 + i.2.1 * 2 ^ 8 + i.2.2.1 * 2 ^ 13 + i.2.2.2.1 * 2 ^ 18) (shl .u64 (i.2.2.2.2 % 4294967296) 32) = i.1 + i.2.1 * 2 ^ 8 + i.2.2.1 * 2 ^ 13 + i.2.2.2.1 * 2 ^ 18 + i.2.2.2.2 % 4294967296 * 2 ^ 32 := bor_add (x := i.1 + i.2.1 * 2 ^ 8 + i.2.2.1 * 2 ^ 13 + i.2.2.2.1 * 2 ^ 18) (c := i.2.2.2.2 % 4294967296) 32 (by omega) (by omega) (by omega) (by omega) (by omega)
    rw [e1, e2, e3, e4]
    unfold enc12
    omega
theorem refEnc_eq (i : Ins12) : ref12_Encode i = some (if ok12 i && range12 i.2.2.2.2 then (enc12 i, 0) else (0, 42)) := by
  unfold ref12_Encode
  rw [show (i.1, i.2.1, i.2.2.1, i.2.2.2.1, i.2.2.2.2) = i from rfl, refMay_eq, some_bind]
  cases hk : ok12 i && range12 i.2.2.2.2 with
  | false => rfl
  | true =>
    rw [Bool.and_eq_true] at hk
    obtain ⟨b0, b1, b2, b3⟩ := ok_bounds hk.1
    have hr : -2147483648 ≤ i.2.2.2.2 ∧ i.2.2.2.2 ≤ 2147483647 := by simpa [range12] using hk.2
    simp only [Bool.not_true, Bool.false_eq_true, if_false, if_true]
    rw [jn_eq]
    have key : ∀ m : Int, m = i.2.2.2.2 % 4294967296 → IntKind.u64.wrap ((IntKind.u64.wrap ((IntKind.u64.wrap ((IntKind.u64.wrap ((IntKind.u64.wrap i.1) + (IntKind.u64.wrap (256 * (IntKind.u64.wrap i.2.1))))) + (IntKind.u64.wrap (8192 * (IntKind.u64.wrap i.2.2.1))))) + (IntKind.u64.wrap (262144 * (IntKind.u64.wrap i.2.2.2.1))))) + (IntKind.u64.wrap (4294967296 * (IntKind.u64.wrap m)))) = enc12 i := fun m hm => by
      unfold enc12
      simp only [wrap_u64]
      omega
    by_cases h0 : i.2.2.2.2 < 0
    · rw [if_pos (decide_eq_true h0), let1_eq, i64w (by omega)]
      dsimp only
      rw [key _ (by omega)]
    · rw [if_neg (by simpa using h0)]
      dsimp only
      rw [key _ (by omega)]
def dec12 (w : Int) : Ins12 := (w % 256, w / 256 % 32, w / 8192 % 32, w / 262144 % 32, if 2147483648 ≤ w / 4294967296 then w / 4294967296 - 4294967296 else w / 4294967296)
def decP (w : Int) : Ins12 × Int := if ok12 (dec12 w) = true ∧ enc12 (dec12 w) = w then (dec12 w, 0) else ((0, 0, 0, 0, 0), 42)
theorem band_low {x : Int} (k : Nat) (hk : k < 64) (h0 : 0 ≤ x) (h1 : x < 18446744073709551616) : band .u64 x ((2 : Int) ^ k - 1) = x % 2 ^ k := by
  obtain ⟨a, rfl⟩ := Int.eq_ofNat_of_zero_le h0
  have hp : 0 < (2 : Nat) ^ k := Nat.two_pow_pos _
  have ep : (2 : Int) ^ k - 1 = ((2 ^ k - 1 : Nat) : Int) := by
    have : (2 : Int) ^ k = ((2 ^ k : Nat) : Int) := by rw [Int.natCast_pow]; rfl
    omega
  have hlt : (2 : Nat) ^ k < 2 ^ 64 := Nat.pow_lt_pow_right (by omega) hk
  rw [ep, band_nat .u64 rfl (by omega) (by simp only [IntKind.bits]; omega) (by omega) (by simp only [IntKind.bits]; omega)]
  simp only [Int.toNat_natCast]
  rw [Nat.and_two_pow_sub_one_eq_mod, Int.natCast_emod, Int.natCast_pow]
  rfl
theorem shr_div {x : Int} (k : Nat) (hk : k < 64) : shr .u64 x k = x / 2 ^ k := by
  unfold shr
  rw [show ((k : Int)).toNat = k by omega, Nat.min_eq_left (show k ≤ IntKind.u64.bits from Nat.le_of_lt hk)]
  rw [Int.fdiv_eq_ediv_of_nonneg _ (Int.le_of_lt (Int.pow_pos (by decide)))]
theorem inK_mk32 {n : Int} (h0 : -2147483648 ≤ n) (h1 : n ≤ 2147483647) : InK .i32 n := ⟨h0, h1⟩
theorem dec_range (w : Int) (h : InK .u64 w) : InK .i32 (dec12 w).2.2.2.2 := by
  have := inK_u64 h
  show InK .i32 (if 2147483648 ≤ w / 4294967296 then w / 4294967296 - 4294967296 else w / 4294967296)
  refine inK_mk32 ?_ ?_ <;> split <;> omega
theorem dec_fields (w : Int) (h : InK .u64 w) : (IntKind.i64.wrap (band .u64 w 255), IntKind.i64.wrap (band .u64 (shr .u64 w 8) 31), IntKind.i64.wrap (band .u64 (shr .u64 w 13) 31), IntKind.i64.wrap (band .u64 (shr .u64 w 18) 31), IntKind.i32.wrap (shr .u64 w 32)) = dec12 w := by
  have hw := inK_u64 h
  have a1 := band_low (x := w) 8 (by omega) (by omega) (by omega)
  have s1 : shr .u64 w 8 = w / 2 ^ 8 := shr_div (x := w) 8 (by omega)
  have s2 : shr .u64 w 13 = w / 2 ^ 13 := shr_div (x := w) 13 (by omega)
  have s3 : shr .u64 w 18 = w / 2 ^ 18 := shr_div (x := w) 18 (by omega)
  have s4 : shr .u64 w 32 = w / 2 ^ 32 := shr_div (x := w) 32 (by omega)
  have b1 := band_low (x := w / 2 ^ 8) 5 (by omega) (by omega) (by omega)
  have b2 := band_low (x := w / 2 ^ 13) 5 (by omega) (by omega) (by omega)
  have b3 := band_low (x := w / 2 ^ 18) 5 (by omega) (by omega) (by omega)
  rw [s1, s2, s3, s4]
  rw [show (255 : Int) = 2 ^ 8 - 1 by decide, show (31 : Int) = 2 ^ 5 - 1 by decide, a1, b1, b2, b3]
  unfold dec12
  rw [i64w (by omega), i64w (by omega), i64w (by omega), i64w (by omega), wrap_i32]
  refine Prod.ext (by simp) (Prod.ext (by simp) (Prod.ext (by simp) (Prod.ext (by simp) ?_)))
  show (if (2147483648 : Int) ≤ w / 2 ^ 32 % 4294967296 then w / 2 ^ 32 % 4294967296 - 4294967296 else w / 2 ^ 32 % 4294967296) = if 2147483648 ≤ w / 4294967296 then w / 4294967296 - 4294967296 else w / 4294967296
  have e : w / 2 ^ 32 % 4294967296 = w / 4294967296 := by omega
  rw [e]
theorem decEnd (w : Int) (p : Int × Int) (hp : p = if ok12 (dec12 w) then (enc12 (dec12 w), 0) else (0, 42)) :
    (if (p.2 != 0) = true then (if (true : Bool) = true then some (((0, 0, 0, 0, 0), 42) : Ins12 × Int) else some (dec12 w, 0))
      else (if (p.1 != w) = true then some ((0, 0, 0, 0, 0), 42) else some (dec12 w, 0))) = some (decP w) := by
  subst hp
  unfold decP
  cases hk : ok12 (dec12 w) with
  | false => simp
  | true =>
    by_cases he : enc12 (dec12 w) = w
    · simp [he]
    · simp [he]
theorem dec_eq (w : Int) (h : InK .u64 w) : isa_Decode w = some (decP w) := by
  unfold isa_Decode
  rw [dec_fields w h, enc_eq _ (dec_range w h), some_bind, jn_eq]
  exact decEnd w _ rfl
theorem refDec_eq (w : Int) (h : InK .u64 w) : ref12_Decode w = some (decP w) := by
  have hw := inK_u64 h
  have hr := dec_range w h
  have hrg : range12 (dec12 w).2.2.2.2 = true := by have := inK_i32 hr; simp [range12]; omega
  unfold ref12_Decode
  rw [let1_eq]
  have em : IntKind.i64.wrap (IntKind.u64.wrap (Int.tdiv w 4294967296)) = w / 4294967296 := by
    rw [Int.tdiv_eq_ediv_of_nonneg (by omega), u64w (by omega), i64w (by omega)]
  have e0 : IntKind.i64.wrap (Int.tmod w 256) = w % 256 := by rw [Int.tmod_eq_emod_of_nonneg (by omega), i64w (by omega)]
  have e1 : ∀ d : Int, 0 < d → d ≤ 262144 → IntKind.i64.wrap (Int.tmod (IntKind.u64.wrap (Int.tdiv w d)) 32) = w / d % 32 := fun d hd hd2 => by
    have h1 : 0 ≤ w / d := Int.ediv_nonneg (by omega) (by omega)
    have h2 : w / d ≤ w := Int.ediv_le_self _ (by omega)
    rw [Int.tdiv_eq_ediv_of_nonneg (by omega), u64w (by omega), Int.tmod_eq_emod_of_nonneg h1, i64w (by omega)]
  rw [em, jn_eq]
  have key : ∀ m : Int, m = (dec12 w).2.2.2.2 → (ref12_Encode (IntKind.i64.wrap (Int.tmod w 256), IntKind.i64.wrap (Int.tmod (IntKind.u64.wrap (Int.tdiv w 256)) 32), IntKind.i64.wrap (Int.tmod (IntKind.u64.wrap (Int.tdiv w 8192)) 32), IntKind.i64.wrap (Int.tmod (IntKind.u64.wrap (Int.tdiv w 262144)) 32), m)).bind (fun z1 =>
    jn (fun (s2 : Bool) =>
      (if (s2) = true then
        some (((0, 0, 0, 0, 0), 42) : Ins12 × Int)
      else
        some ((IntKind.i64.wrap (Int.tmod w 256), IntKind.i64.wrap (Int.tmod (IntKind.u64.wrap (Int.tdiv w 256)) 32), IntKind.i64.wrap (Int.tmod (IntKind.u64.wrap (Int.tdiv w 8192)) 32), IntKind.i64.wrap (Int.tmod (IntKind.u64.wrap (Int.tdiv w 262144)) 32), m), 0))) (fun k2 =>
      (if (z1.2 != 0) = true then
      k2 true
      else
      k2 (z1.1 != w)))) = some (decP w) := fun m hm => by
    rw [e0, e1 256 (by omega) (by omega), e1 8192 (by omega) (by omega), e1 262144 (by omega) (by omega)]
    have hd : (w % 256, w / 256 % 32, w / 8192 % 32, w / 262144 % 32, m) = dec12 w := by rw [hm]; rfl
    rw [hd, refEnc_eq, hrg, Bool.and_true, some_bind, jn_eq]
    exact decEnd w _ rfl
  by_cases hb : w / 4294967296 ≥ 2147483648
  · rw [if_pos (decide_eq_true hb), let1_eq]
    exact key _ (by rw [i64w (by omega)]; exact (if_pos hb).symm)
  · rw [if_neg (by simpa using hb)]
    exact key _ ((if_neg hb).symm)
theorem awake12 : law12_awake = some true := by kernel_rfl
theorem model_eq (i : Ins12) (hm : InK .i32 i.2.2.2.2) : law12_model i = some i := by
  unfold law12_model
  rw [i64w (by have := inK_i32 hm; omega)]
theorem decP_range (w : Int) (h : InK .u64 w) : InK .i32 (decP w).1.2.2.2.2 := by
  unfold decP
  split
  · exact dec_range w h
  · exact inK_mk32 (by decide) (by decide)
theorem law_dec (w : Int) (h : InK .u64 w) : ((isa_Decode w).bind fun z2 =>
    (ref12_Decode w).bind fun z3 =>
    jn (fun (s1 : Bool) =>
      some s1) (fun k1 =>
      (law12_model (z2.1.1, z2.1.2.1, z2.1.2.2.1, z2.1.2.2.2.1, z2.1.2.2.2.2)).bind fun z4 =>
      (if ((z4.1 == z3.1.1) && ((z4.2.1 == z3.1.2.1) && ((z4.2.2.1 == z3.1.2.2.1) && ((z4.2.2.2.1 == z3.1.2.2.2.1) && (z4.2.2.2.2 == z3.1.2.2.2.2))))) = true then
      k1 (z2.2 == z3.2)
      else
      k1 false))) = some true := by
  rw [dec_eq w h, refDec_eq w h, some_bind, some_bind, jn_eq]
  have : ((decP w).1.1, (decP w).1.2.1, (decP w).1.2.2.1, (decP w).1.2.2.2.1, (decP w).1.2.2.2.2) = (decP w).1 := rfl
  rw [this, model_eq _ (decP_range w h), some_bind]
  simp
theorem IsaDecodes_true {w : Int} (h : InK .u64 w) : law12_IsaDecodes w = some true := by
  unfold law12_IsaDecodes
  rw [awake12, some_bind]
  exact law_dec w h
end Dm
