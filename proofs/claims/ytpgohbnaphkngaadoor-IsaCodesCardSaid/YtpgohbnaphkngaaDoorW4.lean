/-
  The walks: a call of each Go function gives what its shallow form gives, where that form gives something; printed by a program of this repo. No condition.
-/
import Derived.Test.YtpgohbnaphkngaaDoorWT
namespace Dm
open Go Go.RowKit Go.Proofs

set_option maxHeartbeats 4000000 in
theorem ref12_Number_f_ok (fu : Nat) : ∀ {w : World} {F : SH} {n : Int} (_hs : Sep w F (blks []) w F []) {r : List UInt8} (_hS : ref12_Number_f fu n = some r), Calls Tryd.prog 28 [.int .i64 n].toArray w (Gives (fun u w' => ∃ (F' : SH), u = strV r ∧ Sep w F (blks []) w' F' [])) := by
  induction fu with
  | zero =>
    intro w F n hs r hS
    unfold ref12_Number_f at hS
    cases hS
  | succ fu ih =>
    intro w F n hs r hS
    generalize (blks []) = R at hs ⊢
    unfold ref12_Number_f at hS
    refine fn_ok (vs := [.int .i64 n]) Tryd.func28 rfl 22 Tryd.ntmps28 (Nat.le_of_ble_eq_true rfl) ?_
    intro a hf
    replace hf := Fr.cast (L' := [(0, .int .i64 n)]) hf (by kernel_rfl)
    refine sq ?_
    refine reg ?_
    refine st tbOk 1 [0] hf rfl ?_
    clear hf a; intro a hf
    refine wpList_nil ?_
    refine sq ?_
    refine sq ?_
    refine reg ?_
    refine st tbOk 2 [0, 4] hf rfl ?_
    clear hf a; intro a hf
    refine wpList_nil ?_
    refine cnd (b := decide (n < 0)) hf (by kernel_rfl) (fun hb1 => ?_) (fun hb1 => ?_)
    · replace hS := of_t hb1 hS
      refine sq ?_
      refine reg ?_
      refine st tbOk 2 [6] hf rfl ?_
      clear hf a; intro a hf
      have hT := of_bd hS; clear hS; obtain ⟨z1, hz1, hS⟩ := hT
      refine clV ent28 (vs := [.int .i64 (IntKind.i64.wrap (0 - n))]) (caps := []) hf (by kernel_rfl) (by kernel_rfl) (by kernel_rfl) (by kernel_rfl) (ih (n := IntKind.i64.wrap (0 - n)) (hs.enter [] rfl rfl) hz1) ?_
      clear hf; clear a; intro v w1 a hT hf; obtain ⟨F1, rfl, hr⟩ := hT
      replace hs := (hs.back [] [] rfl rfl rfl rfl hr).nf rfl
      clear hr
      replace hf := hf.keep (ks := [7]) rfl
      have hT := of_gd hS; clear hS; obtain ⟨hc1, hS⟩ := hT
      refine addS hc1 hf (by kernel_rfl) (by kernel_rfl) (by kernel_rfl) (by kernel_rfl) ?_
      clear hf a; intro a hf
      replace hf := hf.keep (ks := [8]) rfl
      refine st tbOk 1 [2] hf rfl ?_
      clear hf a; intro a hf
      refine wpList_nil ?_
      have hr := Option.some.inj hS; subst hr
      refine wp_ret ?_
      exact ret_ok hf (vs := [strV (([45] : List UInt8) ++ z1)]) (by kernel_rfl) ⟨_, rfl, hs.sel [] rfl rfl⟩
    replace hS := of_f hb1 hS
    refine wp_skip ?_
    refine sq ?_
    refine sq ?_
    refine reg ?_
    refine st tbOk 2 [0, 10] hf rfl ?_
    clear hf a; intro a hf
    refine wpList_nil ?_
    refine cnd (b := decide (n < 10)) hf (by kernel_rfl) (fun hb2 => ?_) (fun hb2 => ?_)
    · replace hS := of_t hb2 hS
      refine sq ?_
      refine reg ?_
      refine st tbOk 3 [11, 13] hf rfl ?_
      clear hf a; intro a hf
      have hT := of_gd hS; clear hS; obtain ⟨hc2, hS⟩ := hT
      refine cutS tbOk u9 (p := ([48, 49, 50, 51, 52, 53, 54, 55, 56, 57] : List UInt8)) (lo := n) (hi := IntKind.i64.wrap (n + 1)) hc2 (.inr ⟨_, .i64, rfl, by kernel_rfl⟩) (.inr ⟨_, .i64, rfl, by kernel_rfl⟩) hf (by kernel_rfl) (by kernel_rfl) (by kernel_rfl) ?_
      clear hf a; intro a hf
      replace hf := hf.keep (ks := [14]) rfl
      refine st tbOk 1 [2] hf rfl ?_
      clear hf a; intro a hf
      refine wpList_nil ?_
      have hr := Option.some.inj hS; subst hr
      refine wp_ret ?_
      exact ret_ok hf (vs := [strV (cutL ([48, 49, 50, 51, 52, 53, 54, 55, 56, 57] : List UInt8) n (IntKind.i64.wrap (n + 1)))]) (by kernel_rfl) ⟨_, rfl, hs.sel [] rfl rfl⟩
    replace hS := of_f hb2 hS
    refine wp_skip ?_
    refine sq ?_
    refine reg ?_
    refine st tbOk 2 [0, 16] hf rfl ?_
    clear hf a; intro a hf
    have hT := of_bd hS; clear hS; obtain ⟨z2, hz2, hS⟩ := hT
    refine clV ent28 (vs := [.int .i64 (IntKind.i64.wrap (Int.tdiv n 10))]) (caps := []) hf (by kernel_rfl) (by kernel_rfl) (by kernel_rfl) (by kernel_rfl) (ih (n := IntKind.i64.wrap (Int.tdiv n 10)) (hs.enter [] rfl rfl) hz2) ?_
    clear hf; clear a; intro v w2 a hT hf; obtain ⟨F2, rfl, hr⟩ := hT
    replace hs := (hs.back [] [] rfl rfl rfl rfl hr).nf rfl
    clear hr
    replace hf := hf.keep (ks := [0, 17]) rfl
    refine st tbOk 2 [17, 19] hf rfl ?_
    clear hf a; intro a hf
    have hT := of_bd hS; clear hS; obtain ⟨z3, hz3, hS⟩ := hT
    refine clV ent28 (vs := [.int .i64 (Int.tmod n 10)]) (caps := []) hf (by kernel_rfl) (by kernel_rfl) (by kernel_rfl) (by kernel_rfl) (ih (n := Int.tmod n 10) (hs.enter [] rfl rfl) hz3) ?_
    clear hf; clear a; intro v w3 a hT hf; obtain ⟨F3, rfl, hr⟩ := hT
    replace hs := (hs.back [] [] rfl rfl rfl rfl hr).nf rfl
    clear hr
    replace hf := hf.keep (ks := [17, 20]) rfl
    have hT := of_gd hS; clear hS; obtain ⟨hc3, hS⟩ := hT
    refine addS hc3 hf (by kernel_rfl) (by kernel_rfl) (by kernel_rfl) (by kernel_rfl) ?_
    clear hf a; intro a hf
    replace hf := hf.keep (ks := [21]) rfl
    refine st tbOk 1 [2] hf rfl ?_
    clear hf a; intro a hf
    refine wpList_nil ?_
    have hr := Option.some.inj hS; subst hr
    refine wp_ret ?_
    exact ret_ok hf (vs := [strV (z2 ++ z3)]) (by kernel_rfl) ⟨_, rfl, hs.sel [] rfl rfl⟩

theorem ref12_Number_ok {w : World} {F : SH} {n : Int} (hs : Sep w F (blks []) w F []) {r : List UInt8} (hS : ref12_Number n = some r) :
    Calls Tryd.prog 28 [.int .i64 n].toArray w (Gives (fun u w' => ∃ (F' : SH), u = strV r ∧ Sep w F (blks []) w' F' [])) := ref12_Number_f_ok 100 hs hS

end Dm
