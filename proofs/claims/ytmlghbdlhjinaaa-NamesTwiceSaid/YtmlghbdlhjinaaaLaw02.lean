/-
  The laws of layer 2 (names) over the shallow forms: reading; the table that is built, as one function. Conditions: bytes from 0 to 255, lengths at most 2^63 - 1.
-/
import Derived.Test.YtmlghbdlhjinaaaS
import Derived.Test.YtmlghbdlhjinaaaFun
import Derived.KernelRfl
namespace Dm
open Go

theorem law02_awake_true : law02_awake = some true := by kernel_rfl
/-- where the first zero stands -/
def fz : List Int → Option Nat
  | [] => none
  | x :: xs => if x = 0 then some 0 else (fz xs).map (· + 1)
def ixOf (i : Nat) : Option Nat → Int
  | none => -1
  | some k => ((i + k : Nat) : Int)
theorem ixOf_succ (i : Nat) (o : Option Nat) : ixOf i (o.map (· + 1)) = ixOf (i + 1) o := by
  cases o with
  | none => rfl
  | some k => simp only [Option.map, ixOf]; omega
theorem fz_drop {l : List Int} {i : Nat} (h : i < l.length) : fz (l.drop i) = if l[i] = 0 then some 0 else (fz (l.drop (i + 1))).map (· + 1) := by
  rw [List.drop_eq_getElem_cons h, fz]
theorem slices_Index_eq {l : List Int} (hl : l.length ≤ 9223372036854775807) : slices_Index_byte_byte l 0 = some (ixOf 0 (fz l)) := by
  unfold slices_Index_byte_byte
  rw [jn_eq]
  refine loop_to (fun i => (i : Int)) (fun i => some (ixOf i (fz (l.drop i)))) l.length rfl rfl hl ?_
  intro i rec hi hrec
  show _ = some (ixOf i (fz (l.drop i)))
  by_cases hlt : i < l.length
  · rw [dif_lt hlt, if_pos rfl, gd_pos (by omega), gt_nat hlt, i64s (by omega), fz_drop hlt]
    by_cases h0 : l[i] = 0
    · rw [if_pos h0, if_pos (by simp [h0])]; rfl
    · rw [if_neg h0, if_neg (by simp; omega), hrec hlt, ixOf_succ]
  · obtain rfl : i = l.length := by omega
    rw [dif_ge (by omega), List.drop_length]; rfl
theorem fz_lt : ∀ {l : List Int} {k : Nat}, fz l = some k → k < l.length
  | [], k, h => by simp [fz] at h
  | x :: xs, k, h => by
    rw [fz] at h
    split at h
    · obtain rfl := Option.some.inj h; simp
    · rw [Option.map_eq_some_iff] at h
      obtain ⟨j, hj, rfl⟩ := h
      have := fz_lt hj
      simp; omega
def atR (t : List Int) : Option Nat → List UInt8 × Int
  | none => ([], 11)
  | some k => (toStr (t.take k), 0)
def atS (t : List Int) (p : Int) : List UInt8 × Int := if p ≥ t.length then ([], 10) else atR (t.drop p.toNat) (fz (t.drop p.toNat))
theorem cutL_end {α : Type} (t : List α) (p : Int) : cutL t p ((t.length : Nat) : Int) = t.drop p.toNat := by
  unfold cutL; rw [Int.toNat_natCast, List.take_length]
theorem names_At_eq {t : List Int} (hl : t.length ≤ 9223372036854775807) {p : Int} (hp : 0 ≤ p) : names_At t p = some (atS t p) := by
  unfold names_At atS
  rw [u64w (by omega)]
  by_cases h : p ≥ t.length
  · rw [if_pos (by simpa using h), if_pos h]
  · rw [if_neg (by simp; omega), if_neg h, gd_pos (by omega), cutL_end, bd_eq (slices_Index_eq (by rw [List.length_drop]; omega))]
    cases hf : fz (t.drop p.toNat) with
    | none => rfl
    | some k =>
      have hk := fz_lt hf
      have e : ixOf 0 (some k) = (k : Int) := by simp [ixOf]
      rw [e, if_neg (by simp), gd_pos (by omega)]
      unfold cutL atR
      simp
theorem ref02_At_eq {t : List Int} (hl : t.length ≤ 9223372036854775807) {p : Int} (hp : 0 ≤ p) : ref02_At t p = some (atS t p) := by
  unfold ref02_At atS
  rw [u64w (by omega)]
  by_cases h : p ≥ t.length
  · rw [if_pos (by simpa using h), if_pos h]
  · rw [if_neg (by simp; omega), if_neg h, let1_eq, jn_eq, i64w (by omega)]
    obtain ⟨q, rfl⟩ := Int.eq_ofNat_of_zero_le hp
    rw [Int.toNat_natCast]
    refine loop_to (fun j => ((q + j : Nat) : Int)) (fun j => some (atR (t.drop q) ((fz (t.drop (q + j))).map (· + j)))) (t.length - q) rfl (by simp) (by omega) ?_
    intro j rec hj hrec
    show _ = some (atR (t.drop q) ((fz (t.drop (q + j))).map (· + j)))
    by_cases hlt : q + j < t.length
    · rw [dif_lt hlt, if_pos rfl, gd_pos (by omega), gt_nat hlt, i64s (by omega), fz_drop hlt]
      by_cases h0 : t[q + j] = 0
      · rw [if_pos h0, if_pos (by simp [h0]), gd_pos (by omega)]
        have e : cutL t (q : Int) ((q + j : Nat) : Int) = (t.drop q).take j := by
          unfold cutL; rw [Int.toNat_natCast, Int.toNat_natCast, List.drop_take]; congr 1; omega
        rw [e]; simp [atR]
      · rw [if_neg h0, if_neg (by simp; omega), let1_eq, show q + j + 1 = q + (j + 1) by omega, hrec (by omega), Option.map_map]
        congr 3
        funext x; simp only [Function.comp]; omega
    · have hq : q + j = t.length := by omega
      rw [dif_ge (by omega), if_neg (by simp), hq, List.drop_length]; rfl
def checkS (t : List Int) : Int := if t.length = 0 then 11 else if t.getD 0 0 ≠ 0 then 11 else if t.getD (t.length - 1) 0 ≠ 0 then 11 else 0
theorem names_Check_eq {t : List Int} (hl : t.length ≤ 9223372036854775807) : names_Check t = some (checkS t) := by
  unfold names_Check checkS
  rw [let1_eq, jn_eq]
  by_cases h0 : t.length = 0
  · rw [if_pos (by simp; exact List.length_eq_zero_iff.1 h0), if_pos h0]; rfl
  · have e : IntKind.i64.wrap ((t.length : Int) - 1) = ((t.length - 1 : Nat) : Int) := by rw [i64w (by omega)]; omega
    rw [if_neg (by simp; intro h; exact h0 (by rw [h]; rfl)), if_neg h0, gd_pos (by omega), e, gd_pos (by omega)]
    have g0 : gt t 0 = t.getD 0 0 := rfl
    have g1 : gt t ((t.length - 1 : Nat) : Int) = t.getD (t.length - 1) 0 := by unfold gt; rw [Int.toNat_natCast]; rfl
    rw [g0, g1]
    by_cases ha : t.getD 0 0 = 0
    · rw [if_neg (by simp only [ha]; decide), if_neg (by simp only [ha]; decide)]
      show (if (t.getD (t.length - 1) 0 != 0) = true then some (11 : Int) else some 0) = _
      by_cases hb : t.getD (t.length - 1) 0 = 0
      · rw [if_neg (by simp only [hb]; decide), if_neg (by simp only [hb]; decide)]
      · rw [if_pos (bne_iff_ne.2 hb), if_pos hb]
    · rw [if_pos (bne_iff_ne.2 ha), if_pos ha]; rfl
theorem ref02_Check_eq {t : List Int} (hl : t.length ≤ 9223372036854775807) : ref02_Check t = some (checkS t) := by
  rw [← names_Check_eq hl]; rfl
theorem NamesReads_true {t : List Int} (hl : t.length ≤ 9223372036854775807) (_ : ∀ n ∈ t, InK .u8 n) {p : Int} (hp : InK .u64 p) : law02_NamesReads t p = some true := by
  have hp := inK_u64 hp
  unfold law02_NamesReads
  rw [bd_eq law02_awake_true]
  simp only [Bool.not_true, Bool.false_eq_true, if_false]
  rw [bd_eq (names_At_eq hl hp.1), bd_eq (ref02_At_eq hl hp.1), jn_eq, if_pos (by simp), if_pos (by simp), bd_eq (names_Check_eq hl), bd_eq (ref02_Check_eq hl)]
  simp

end Dm
