/-
  The walk of the law SegsChecks; printed by a program of this repo. No condition.
-/
import Derived.Test.YtljdbjimdidigaaWT
import Derived.Test.YtljdbjimdidigaaW1
import Derived.Test.YtljdbjimdidigaaW6
namespace Dm
open Go Go.RowKit Go.Proofs

set_option maxHeartbeats 4000000 in
theorem law04_SegsChecks_ok {w : World} {F : SH} {p_l : List (Int × Int × Int × Int × Int × Int × Int)} {size : Int} {ao1 : Option Addr} {cp1 : Nat} (hs : Sep w F (blks [.ro ty24 (.slice ao1 p_l.length cp1) p_l]) w F [.ro ty24 (.slice ao1 p_l.length cp1) p_l]) {r : Bool} (hS : law04_SegsChecks p_l size = some r) :
    Calls Try.prog 6 [.slice ao1 p_l.length cp1, .int .u64 size].toArray w (Gives (fun u w' => ∃ (F' : SH), u = .bool r ∧ Sep w F (blks [.ro ty24 (.slice ao1 p_l.length cp1) p_l]) w' F' [])) := by
  generalize (blks [.ro ty24 (.slice ao1 p_l.length cp1) p_l]) = R at hs ⊢
  unfold law04_SegsChecks at hS
  refine fn_ok (vs := [.slice ao1 p_l.length cp1, .int .u64 size]) Try.func6 rfl 19 Try.ntmps6 (Nat.le_of_ble_eq_true rfl) ?_
  intro a hf
  replace hf := Fr.cast (L' := [(0, .slice ao1 p_l.length cp1), (1, .int .u64 size)]) hf (by kernel_rfl)
  refine sq ?_
  refine reg ?_
  refine st tbOk 1 [0, 1] (L' := [(0, .slice ao1 p_l.length cp1), (1, .int .u64 size)]) hf (by kernel_rfl) ?_
  clear hf; clear a; intro a hf
  refine wpList_nil ?_
  refine sq ?_
  refine reg ?_
  have hT := of_bd hS; clear hS; obtain ⟨z1, hz1, hS⟩ := hT
  refine clV ent11 (vs := []) (caps := []) hf (by kernel_rfl) (by kernel_rfl) (by kernel_rfl) (by kernel_rfl) (law04_awake_ok (hs.enter [] rfl rfl) hz1) ?_
  clear hf; clear a; intro v w1 a hT hf; obtain ⟨F1, rfl, hr⟩ := hT
  replace hs : Sep w F R w1 F1 [.ro ty24 (.slice ao1 p_l.length cp1) p_l] := hs.back [] [0] rfl rfl rfl rfl hr
  clear hr
  replace hf := Fr.keep (ks := [0, 1, 6]) (L' := [(0, .slice ao1 p_l.length cp1), (1, .int .u64 size), (6, .bool z1)]) hf (by kernel_rfl)
  refine st tbOk 1 [0, 1, 5] (L' := [(0, .slice ao1 p_l.length cp1), (1, .int .u64 size), (5, .bool z1)]) hf (by kernel_rfl) ?_
  clear hf; clear a; intro a hf
  refine wpList_nil ?_
  refine sq ?_
  refine sq ?_
  refine reg ?_
  refine st tbOk 2 [0, 1, 8] (L' := [(0, .slice ao1 p_l.length cp1), (1, .int .u64 size), (8, .bool (!z1))]) hf (by kernel_rfl) ?_
  clear hf; clear a; intro a hf
  refine wpList_nil ?_
  refine cnd (b := !z1) hf (by kernel_rfl) (fun hb1 => ?_) (fun hb1 => ?_)
  · replace hS := of_t hb1 hS
    refine sq ?_
    refine reg ?_
    refine st tbOk 1 [4] (L' := [(4, .bool false)]) hf (by kernel_rfl) ?_
    clear hf; clear a; intro a hf
    refine wpList_nil ?_
    have hr := Option.some.inj hS; subst hr
    refine wp_ret ?_
    exact ret_ok hf (vs := [.bool false]) (by kernel_rfl) ⟨_, rfl, hs.sel [] rfl rfl⟩
  · replace hS := of_f hb1 hS
    refine wp_skip ?_
    refine sq ?_
    refine sq ?_
    refine reg ?_
    refine st tbOk 3 [0, 1, 11] (L' := [(0, .slice ao1 p_l.length cp1), (1, .int .u64 size), (11, .bool (decide (((p_l.length : Nat) : Int) > 64)))]) hf (by kernel_rfl) ?_
    clear hf; clear a; intro a hf
    refine wpList_nil ?_
    refine cnd (b := decide (((p_l.length : Nat) : Int) > 64)) hf (by kernel_rfl) (fun hb2 => ?_) (fun hb2 => ?_)
    · replace hS := of_t hb2 hS
      refine sq ?_
      refine reg ?_
      refine st tbOk 1 [4] (L' := [(4, .bool true)]) hf (by kernel_rfl) ?_
      clear hf; clear a; intro a hf
      refine wpList_nil ?_
      have hr := Option.some.inj hS; subst hr
      refine wp_ret ?_
      exact ret_ok hf (vs := [.bool true]) (by kernel_rfl) ⟨_, rfl, hs.sel [] rfl rfl⟩
    · replace hS := of_f hb2 hS
      refine wp_skip ?_
      refine sq ?_
      refine reg ?_
      refine st tbOk 2 [0, 1, 12, 13] (L' := [(0, .slice ao1 p_l.length cp1), (1, .int .u64 size), (12, .slice ao1 p_l.length cp1), (13, .int .u64 size)]) hf (by kernel_rfl) ?_
      clear hf; clear a; intro a hf
      have hT := of_bd hS; clear hS; obtain ⟨z2, hz2, hS⟩ := hT
      refine clV ent18 (vs := [.slice ao1 p_l.length cp1, .int .u64 size]) (caps := []) hf (by kernel_rfl) (by kernel_rfl) (by kernel_rfl) (by kernel_rfl) (segs_Check_ok (p_l := p_l) (size := size) (hs.enter [0] rfl rfl) hz2) ?_
      clear hf; clear a; intro v w2 a hT hf; obtain ⟨F2, rfl, hr⟩ := hT
      replace hs : Sep w F R w2 F2 [.ro ty24 (.slice ao1 p_l.length cp1) p_l] := hs.back [0] [0] rfl rfl rfl rfl hr
      clear hr
      replace hf := Fr.keep (ks := [0, 1, 14]) (L' := [(0, .slice ao1 p_l.length cp1), (1, .int .u64 size), (14, .int .i64 z2)]) hf (by kernel_rfl)
      refine st tbOk 2 [14, 15, 16] (L' := [(14, .int .i64 z2), (15, .slice ao1 p_l.length cp1), (16, .int .u64 size)]) hf (by kernel_rfl) ?_
      clear hf; clear a; intro a hf
      have hT := of_bd hS; clear hS; obtain ⟨z3, hz3, hS⟩ := hT
      refine clV ent19 (vs := [.slice ao1 p_l.length cp1, .int .u64 size]) (caps := []) hf (by kernel_rfl) (by kernel_rfl) (by kernel_rfl) (by kernel_rfl) (ref04_Check_ok (p_l := p_l) (size := size) (hs.enter [0] rfl rfl) hz3) ?_
      clear hf; clear a; intro v w3 a hT hf; obtain ⟨F3, rfl, hr⟩ := hT
      replace hs : Sep w F R w3 F3 [.ro ty24 (.slice ao1 p_l.length cp1) p_l] := hs.back [0] [0] rfl rfl rfl rfl hr
      clear hr
      replace hs : Sep w F R w3 F3 [] := hs.sel [] rfl rfl
      replace hf := Fr.keep (ks := [14, 17]) (L' := [(14, .int .i64 z2), (17, .int .i64 z3)]) hf (by kernel_rfl)
      refine st tbOk 2 [4] (L' := [(4, .bool (z2 == z3))]) hf (by kernel_rfl) ?_
      clear hf; clear a; intro a hf
      refine wpList_nil ?_
      have hr := Option.some.inj hS; subst hr
      refine wp_ret ?_
      exact ret_ok hf (vs := [.bool (z2 == z3)]) (by kernel_rfl) ⟨_, rfl, hs.sel [] rfl rfl⟩

end Dm
