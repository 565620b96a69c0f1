/-
  The walk of the law SymbolsChecks; printed by a program of this repo. No condition.
-/
import Derived.Test.YtmocofbneblccaaWT
import Derived.Test.YtmocofbneblccaaW10
import Derived.Test.YtmocofbneblccaaW13
namespace Dm
open Go Go.RowKit Go.Proofs

set_option maxHeartbeats 4000000 in
theorem law06_SymbolsChecks_ok {w : World} {F : SH} {p_l : List (Int × Int × Int × Int × Int × Int)} {ao1 : Option Addr} {cp1 : Nat} (hs : Sep w F (blks [.ro ty64 (.slice ao1 p_l.length cp1) p_l]) w F [.ro ty64 (.slice ao1 p_l.length cp1) p_l]) {r : Bool} (hS : law06_SymbolsChecks p_l = some r) :
    Calls Try.prog 10 [.slice ao1 p_l.length cp1].toArray w (Gives (fun u w' => ∃ (F' : SH), u = .bool r ∧ Sep w F (blks [.ro ty64 (.slice ao1 p_l.length cp1) p_l]) w' F' [])) := by
  generalize (blks [.ro ty64 (.slice ao1 p_l.length cp1) p_l]) = R at hs ⊢
  unfold law06_SymbolsChecks at hS
  refine fn_ok (vs := [.slice ao1 p_l.length cp1]) Try.func10 rfl 15 Try.ntmps10 (Nat.le_of_ble_eq_true rfl) ?_
  intro a hf
  replace hf := Fr.cast (L' := [(0, .slice ao1 p_l.length cp1)]) hf (by kernel_rfl)
  refine sq ?_
  refine reg ?_
  refine st tbOk 1 [0] (L' := [(0, .slice ao1 p_l.length cp1)]) hf (by kernel_rfl) ?_
  clear hf; clear a; intro a hf
  refine wpList_nil ?_
  refine sq ?_
  refine reg ?_
  have hT := of_bd hS; clear hS; obtain ⟨z1, hz1, hS⟩ := hT
  refine clV ent25 (vs := []) (caps := []) hf (by kernel_rfl) (by kernel_rfl) (by kernel_rfl) (by kernel_rfl) (law06_awake_ok (hs.enter [] rfl rfl) hz1) ?_
  clear hf; clear a; intro v w1 a hT hf; obtain ⟨F1, rfl, hr⟩ := hT
  replace hs : Sep w F R w1 F1 [.ro ty64 (.slice ao1 p_l.length cp1) p_l] := hs.back [] [0] rfl rfl rfl rfl hr
  clear hr
  replace hf := Fr.keep (ks := [0, 4]) (L' := [(0, .slice ao1 p_l.length cp1), (4, .bool z1)]) hf (by kernel_rfl)
  refine st tbOk 1 [0, 3] (L' := [(0, .slice ao1 p_l.length cp1), (3, .bool z1)]) hf (by kernel_rfl) ?_
  clear hf; clear a; intro a hf
  refine wpList_nil ?_
  refine sq ?_
  refine sq ?_
  refine reg ?_
  refine st tbOk 2 [0, 6] (L' := [(0, .slice ao1 p_l.length cp1), (6, .bool (!z1))]) hf (by kernel_rfl) ?_
  clear hf; clear a; intro a hf
  refine wpList_nil ?_
  refine cnd (b := !z1) hf (by kernel_rfl) (fun hb1 => ?_) (fun hb1 => ?_)
  · replace hS := of_t hb1 hS
    refine sq ?_
    refine reg ?_
    refine st tbOk 1 [2] (L' := [(2, .bool false)]) hf (by kernel_rfl) ?_
    clear hf; clear a; intro a hf
    refine wpList_nil ?_
    have hr := Option.some.inj hS; subst hr
    refine wp_ret ?_
    exact ret_ok hf (vs := [.bool false]) (by kernel_rfl) ⟨_, rfl, hs.sel [] rfl rfl⟩
  · replace hS := of_f hb1 hS
    refine wp_skip ?_
    refine sq ?_
    refine sq ?_
    refine reg ?_
    refine st tbOk 3 [0, 9] (L' := [(0, .slice ao1 p_l.length cp1), (9, .bool (decide (((p_l.length : Nat) : Int) > 200)))]) hf (by kernel_rfl) ?_
    clear hf; clear a; intro a hf
    refine wpList_nil ?_
    refine cnd (b := decide (((p_l.length : Nat) : Int) > 200)) hf (by kernel_rfl) (fun hb2 => ?_) (fun hb2 => ?_)
    · replace hS := of_t hb2 hS
      refine sq ?_
      refine reg ?_
      refine st tbOk 1 [2] (L' := [(2, .bool true)]) hf (by kernel_rfl) ?_
      clear hf; clear a; intro a hf
      refine wpList_nil ?_
      have hr := Option.some.inj hS; subst hr
      refine wp_ret ?_
      exact ret_ok hf (vs := [.bool true]) (by kernel_rfl) ⟨_, rfl, hs.sel [] rfl rfl⟩
    · replace hS := of_f hb2 hS
      refine wp_skip ?_
      refine sq ?_
      refine reg ?_
      refine st tbOk 1 [0, 10] (L' := [(0, .slice ao1 p_l.length cp1), (10, .slice ao1 p_l.length cp1)]) hf (by kernel_rfl) ?_
      clear hf; clear a; intro a hf
      have hT := of_bd hS; clear hS; obtain ⟨z2, hz2, hS⟩ := hT
      refine clV ent33 (vs := [.slice ao1 p_l.length cp1]) (caps := []) hf (by kernel_rfl) (by kernel_rfl) (by kernel_rfl) (by kernel_rfl) (symbols_Check_ok (p_l := p_l) (hs.enter [0] rfl rfl) hz2) ?_
      clear hf; clear a; intro v w2 a hT hf; obtain ⟨F2, rfl, hr⟩ := hT
      replace hs : Sep w F R w2 F2 [.ro ty64 (.slice ao1 p_l.length cp1) p_l] := hs.back [0] [0] rfl rfl rfl rfl hr
      clear hr
      replace hf := Fr.keep (ks := [0, 11]) (L' := [(0, .slice ao1 p_l.length cp1), (11, .int .i64 z2)]) hf (by kernel_rfl)
      refine st tbOk 1 [11, 12] (L' := [(11, .int .i64 z2), (12, .slice ao1 p_l.length cp1)]) hf (by kernel_rfl) ?_
      clear hf; clear a; intro a hf
      have hT := of_bd hS; clear hS; obtain ⟨z3, hz3, hS⟩ := hT
      refine clV ent34 (vs := [.slice ao1 p_l.length cp1]) (caps := []) hf (by kernel_rfl) (by kernel_rfl) (by kernel_rfl) (by kernel_rfl) (ref06_Check_ok (p_l := p_l) (hs.enter [0] rfl rfl) hz3) ?_
      clear hf; clear a; intro v w3 a hT hf; obtain ⟨F3, rfl, hr⟩ := hT
      replace hs : Sep w F R w3 F3 [.ro ty64 (.slice ao1 p_l.length cp1) p_l] := hs.back [0] [0] rfl rfl rfl rfl hr
      clear hr
      replace hs : Sep w F R w3 F3 [] := hs.sel [] rfl rfl
      replace hf := Fr.keep (ks := [11, 13]) (L' := [(11, .int .i64 z2), (13, .int .i64 z3)]) hf (by kernel_rfl)
      refine st tbOk 2 [2] (L' := [(2, .bool (z2 == z3))]) hf (by kernel_rfl) ?_
      clear hf; clear a; intro a hf
      refine wpList_nil ?_
      have hr := Option.some.inj hS; subst hr
      refine wp_ret ?_
      exact ret_ok hf (vs := [.bool (z2 == z3)]) (by kernel_rfl) ⟨_, rfl, hs.sel [] rfl rfl⟩

end Dm
