/-
  More on loops: with what is known of the states that are reached; the first of a list that does. No condition; no program.
-/
import Derived.Test.YtpgohbnaphkngaaDoorFun
namespace Dm
open Go

theorem loop_TP {σ ρ : Type} {body : σ → (σ → Option ρ) → Option ρ} (st : Nat → σ) (T : Nat → Option ρ) (P : Nat → Prop) (n : Nat)
    (h : ∀ i rec, i ≤ n → P i → (i < n → P (i + 1) → rec (st (i + 1)) = T (i + 1)) → body (st i) rec = T i) : ∀ (F i : Nat), i ≤ n → P i → n - i < F → loopK body F (st i) = T i := by
  intro F
  induction F with
  | zero => intro i _ _ hm; omega
  | succ F ih => intro i hi hP hm; exact h i (loopK body F) hi hP fun hl hP' => ih (i + 1) (by omega) hP' (by omega)
theorem loop_toP {σ ρ : Type} {body : σ → (σ → Option ρ) → Option ρ} {r : Option ρ} {s0 : σ} (st : Nat → σ) (T : Nat → Option ρ) (P : Nat → Prop) (n : Nat) (h0 : s0 = st 0) (hP : P 0) (hr : r = T 0) (hn : n ≤ 9223372036854775807)
    (h : ∀ i rec, i ≤ n → P i → (i < n → P (i + 1) → rec (st (i + 1)) = T (i + 1)) → body (st i) rec = T i) : loopK body bigF s0 = r := by
  rw [h0, hr]; exact loop_TP st T P n h bigF 0 (Nat.zero_le _) hP (lt_bigF (by omega))
theorem jn_gen {σ ρ : Type} {k : σ → Option ρ} {b : (σ → Option ρ) → Option ρ} {r : Option ρ} (h : ∀ kk, kk = k → b kk = r) : jn k b = r := by rw [jn_eq]; exact h k rfl
/-- the first of a list that does -/
def fI {α : Type} (p : α → Bool) : List α → Option Nat
  | [] => none
  | x :: xs => if p x then some 0 else (fI p xs).map (· + 1)
def ixN (i : Nat) : Option Nat → Int
  | none => -1
  | some k => ((i + k : Nat) : Int)
theorem ixN_succ (i : Nat) (o : Option Nat) : ixN i (o.map (· + 1)) = ixN (i + 1) o := by
  cases o with
  | none => rfl
  | some k => simp only [Option.map, ixN]; omega
theorem fI_drop {α : Type} (p : α → Bool) {l : List α} {i : Nat} (h : i < l.length) : fI p (l.drop i) = if p l[i] then some 0 else (fI p (l.drop (i + 1))).map (· + 1) := by
  rw [List.drop_eq_getElem_cons h, fI]
theorem fI_some {α : Type} {p : α → Bool} : ∀ {l : List α} {k : Nat}, fI p l = some k → ∃ h : k < l.length, p l[k] = true
  | [], k, h => by simp [fI] at h
  | x :: xs, k, h => by
    rw [fI] at h
    by_cases hx : p x = true
    · rw [if_pos hx] at h
      obtain rfl := Option.some.inj h
      exact ⟨by simp, hx⟩
    · rw [if_neg hx, Option.map_eq_some_iff] at h
      obtain ⟨j, hj, rfl⟩ := h
      obtain ⟨h1, h2⟩ := fI_some hj
      exact ⟨by simp; omega, h2⟩
theorem fI_isSome {α : Type} (p : α → Bool) : ∀ l : List α, (fI p l).isSome = l.any p
  | [] => rfl
  | x :: xs => by
    rw [fI, List.any_cons]
    cases hx : p x
    · simp [fI_isSome p xs]
    · simp
theorem ixN_ge {o : Option Nat} : decide (ixN 0 o ≥ 0) = o.isSome := by cases o <;> simp [ixN]
/-- a loop that looks for the first that does -/
theorem scan_ix {α : Type} (l : List α) (hl : l.length ≤ 9223372036854775807) (p : α → Bool) {body : Int → (Int → Option Int) → Option Int}
    (h : ∀ (i : Nat) rec (hi : i < l.length), body (i : Int) rec = if p l[i] then some (i : Int) else rec ((i + 1 : Nat) : Int))
    (h1 : ∀ rec, body (l.length : Int) rec = some (-1)) : loopK body bigF 0 = some (ixN 0 (fI p l)) := by
  refine loop_to (fun i => (i : Int)) (fun i => some (ixN i (fI p (l.drop i)))) l.length rfl rfl hl ?_
  intro i rec hi hrec
  by_cases hlt : i < l.length
  · rw [h i rec hlt, fI_drop p hlt]
    by_cases hp : p l[i] = true
    · rw [if_pos hp, if_pos hp]; rfl
    · rw [if_neg hp, if_neg hp, hrec hlt, ixN_succ]
  · obtain rfl : i = l.length := by omega
    rw [h1, List.drop_length]; rfl
/-- a loop that goes up to the first that gives something -/
theorem scan_o {α ρ : Type} (l : List α) (hl : l.length ≤ 9223372036854775807) (p : α → Bool) (f : α → ρ) (r0 : ρ) {body : Int → (Int → Option ρ) → Option ρ}
    (h : ∀ (i : Nat) rec (hi : i < l.length), body (i : Int) rec = if p l[i] then some (f l[i]) else rec ((i + 1 : Nat) : Int))
    (h1 : ∀ rec, body (l.length : Int) rec = some r0) : loopK body bigF 0 = some (((l.find? p).map f).getD r0) := by
  refine loop_to (fun i => (i : Int)) (fun i => some ((((l.drop i).find? p).map f).getD r0)) l.length rfl rfl hl ?_
  intro i rec hi hrec
  by_cases hlt : i < l.length
  · have e : (l.drop i).find? p = if p l[i] then some l[i] else (l.drop (i + 1)).find? p := by
      rw [List.drop_eq_getElem_cons hlt, List.find?_cons]; cases p l[i] <;> rfl
    rw [h i rec hlt, e]
    by_cases hp : p l[i] = true
    · rw [if_pos hp, if_pos hp]; rfl
    · rw [if_neg hp, if_neg hp, hrec hlt]
  · obtain rfl : i = l.length := by omega
    rw [h1, List.drop_length]; rfl

end Dm
