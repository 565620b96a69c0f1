/-
  Plain facts on loops that count up: what a loop comes to, state by state; the first error of a list. No condition; no program.
-/
import Derived.Test.YtpgohbnaphkngaaDoorPure
namespace Dm
open Go

instance (k : IntKind) (n : Int) : Decidable (InK k n) := inferInstanceAs (Decidable (_ ∧ _))
/-- a loop whose states are numbered: from each it comes to what is said for it -/
theorem loop_T {σ ρ : Type} {body : σ → (σ → Option ρ) → Option ρ} (st : Nat → σ) (T : Nat → Option ρ) (n : Nat)
    (h : ∀ i rec, i ≤ n → (i < n → rec (st (i + 1)) = T (i + 1)) → body (st i) rec = T i) : ∀ (F i : Nat), i ≤ n → n - i < F → loopK body F (st i) = T i := by
  intro F
  induction F with
  | zero => intro i _ hm; omega
  | succ F ih => intro i hi hm; exact h i (loopK body F) hi fun hl => ih (i + 1) (by omega) (by omega)
theorem loop_at {σ ρ : Type} {body : σ → (σ → Option ρ) → Option ρ} {r : Option ρ} {s0 : σ} (st : Nat → σ) (n : Nat) (h0 : s0 = st 0) (hn : n ≤ 9223372036854775807)
    (h : ∀ i rec, i ≤ n → (i < n → rec (st (i + 1)) = r) → body (st i) rec = r) : loopK body bigF s0 = r := by
  rw [h0]; exact loop_T st (fun _ => r) n h bigF 0 (Nat.zero_le _) (lt_bigF (by omega))
theorem loop_to {σ ρ : Type} {body : σ → (σ → Option ρ) → Option ρ} {r : Option ρ} {s0 : σ} (st : Nat → σ) (T : Nat → Option ρ) (n : Nat) (h0 : s0 = st 0) (hr : r = T 0) (hn : n ≤ 9223372036854775807)
    (h : ∀ i rec, i ≤ n → (i < n → rec (st (i + 1)) = T (i + 1)) → body (st i) rec = T i) : loopK body bigF s0 = r := by
  rw [h0, hr]; exact loop_T st T n h bigF 0 (Nat.zero_le _) (lt_bigF (by omega))
theorem i64s {i : Nat} (h : i < 9223372036854775807) : IntKind.i64.wrap ((i : Int) + 1) = ((i + 1 : Nat) : Int) := by rw [i64w (by omega)]; omega
theorem gt_nat {α : Type} [Inhabited α] {l : List α} {i : Nat} (h : i < l.length) : gt l (i : Int) = l[i] := by
  show l.getD i default = _
  rw [List.getD_eq_getElem?_getD, List.getElem?_eq_getElem h]; rfl
theorem some_bind {α ρ : Type} (x : α) (f : α → Option ρ) : (some x).bind f = f x := rfl
/-- the first number of a list's that is not zero -/
def firstE {α : Type} (f : α → Int) : List α → Int
  | [] => 0
  | x :: xs => if f x = 0 then firstE f xs else f x
theorem firstE_drop {α : Type} (f : α → Int) (l : List α) {i : Nat} (h : i < l.length) : firstE f (l.drop i) = if f l[i] = 0 then firstE f (l.drop (i + 1)) else f l[i] := by
  rw [List.drop_eq_getElem_cons h, firstE]
/-- a loop that goes through a list up to its first error -/
theorem scan {α : Type} (l : List α) (hl : l.length ≤ 9223372036854775807) (f : α → Int) {body : Int → (Int → Option Int) → Option Int}
    (h : ∀ (i : Nat) rec (hi : i < l.length), body (i : Int) rec = if f l[i] = 0 then rec ((i + 1 : Nat) : Int) else some (f l[i]))
    (h1 : ∀ rec, body (l.length : Int) rec = some 0) : loopK body bigF 0 = some (firstE f l) := by
  refine loop_to (fun i => (i : Int)) (fun i => some (firstE f (l.drop i))) l.length rfl rfl hl ?_
  intro i rec hi hrec
  by_cases hlt : i < l.length
  · rw [h i rec hlt, firstE_drop f l hlt]
    split
    · exact hrec hlt
    · rfl
  · obtain rfl : i = l.length := by omega
    rw [h1, List.drop_length]; rfl
theorem beqD (a b : Int) : (a == b) = decide (a = b) := rfl
theorem dif_lt {a b : Nat} (h : a < b) : decide ((a : Int) < (b : Int)) = true := by simp; omega
theorem dif_ge {a b : Nat} (h : b ≤ a) : decide ((a : Int) < (b : Int)) = false := by simp; omega

end Dm
