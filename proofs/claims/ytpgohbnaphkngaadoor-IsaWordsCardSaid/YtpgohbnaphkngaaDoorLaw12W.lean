/-
  Law 12: any operation's number with any fields, as a word. No condition.
-/
import Derived.Test.YtpgohbnaphkngaaDoorLaw12
namespace Dm
open Go
theorem jn_P {σ ρ : Type} {k : σ → Option ρ} {b : (σ → Option ρ) → Option ρ} (P : σ → Prop) {r : Option ρ} (hk : ∀ s, P s → k s = r) (hb : ∀ kk, (∀ s, P s → kk s = r) → b kk = r) : jn k b = r := by rw [jn_eq]; exact hb k hk
theorem inK_wrap (n : Int) : InK .u64 (IntKind.u64.wrap n) := by
  rw [wrap_u64]
  exact ⟨by show (0 : Int) ≤ _; omega, by show _ ≤ (18446744073709551615 : Int); omega⟩
theorem inK_bor (a b : Int) : InK .u64 (bor .u64 a b) := inK_wrap _
theorem inK_mod {n : Int} (h : InK .u64 n) : InK .u64 (Int.tmod n 4294967296) := by
  have := inK_u64 h
  rw [Int.tmod_eq_emod_of_nonneg (by omega)]
  exact ⟨by show (0 : Int) ≤ _; omega, by show _ ≤ (18446744073709551615 : Int); omega⟩
theorem pick_P {P : Int → Prop} {r : Option Bool} {kk : Int → Option Bool} (hk : ∀ s, P s → kk s = r) {c : Bool} {e s : Int} (he : P e) (hs : P s) : (if c = true then let1 e fun w => kk w else kk s) = r := by
  cases c
  · exact hk s hs
  · rw [if_pos rfl, let1_eq]; exact hk e he
theorem IsaWords_true {op fields rest imm p_which : Int} (_ : InK .u8 op) (_ : InK .u16 fields) (_ : InK .u16 rest) (_ : InK .u32 imm) (_ : InK .u8 p_which) : law12_IsaWords op fields rest imm p_which = some true := by
  unfold law12_IsaWords
  rw [awake12, some_bind]
  simp only [Bool.not_true, Bool.false_eq_true, if_false]
  rw [let1_eq]
  refine jn_P (InK .u64) (fun s1 h1 => ?_) (fun kk hk => pick_P hk (inK_wrap _) (inK_bor _ _))
  refine jn_P (InK .u64) (fun s2 h2 => ?_) (fun kk hk => pick_P hk (inK_wrap _) h1)
  refine jn_P (InK .u64) (fun s3 h3 => ?_) (fun kk hk => pick_P hk (inK_wrap _) h2)
  refine jn_P (InK .u64) (fun s4 h4 => ?_) (fun kk hk => pick_P hk (inK_wrap _) h3)
  exact jn_P (InK .u64) (fun s5 h5 => law_dec s5 h5) (fun kk hk => pick_P hk (inK_mod h4) h4)
end Dm
