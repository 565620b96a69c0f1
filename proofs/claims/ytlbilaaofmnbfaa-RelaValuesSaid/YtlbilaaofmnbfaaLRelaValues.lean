/-
  The walk of the law RelaValues; printed by a program of this repo. No condition.
-/
import Derived.Test.YtlbilaaofmnbfaaWT
import Derived.Test.YtlbilaaofmnbfaaW5
import Derived.Test.YtlbilaaofmnbfaaW10
namespace Dm
open Go Go.RowKit Go.Proofs

set_option maxHeartbeats 4000000 in
theorem law07_RelaValues_ok {w : World} {F : SH} {kind : Int} {base : Int} {symbol : Int} {add : Int}  (hs : Sep w F (blks []) w F []) {r : Bool} (hS : law07_RelaValues kind base symbol add = some r) :
    Calls Try.prog 10 [.int .u32 kind, .int .u64 base, .int .u64 symbol, .int .i64 add].toArray w (Gives (fun u w' => ∃ (F' : SH), u = .bool r ∧ Sep w F (blks []) w' F' [])) := by
  generalize (blks []) = R at hs ⊢
  unfold law07_RelaValues at hS
  refine fn_ok (vs := [.int .u32 kind, .int .u64 base, .int .u64 symbol, .int .i64 add]) Try.func10 rfl 41 Try.ntmps10 (Nat.le_of_ble_eq_true rfl) ?_
  intro a hf
  replace hf := Fr.cast (L' := [(0, .int .u32 kind), (1, .int .u64 base), (2, .int .u64 symbol), (3, .int .i64 add)]) hf (by kernel_rfl)
  refine sq ?_
  refine reg ?_
  refine st tbOk 1 [0, 1, 2, 3] (L' := [(0, .int .u32 kind), (1, .int .u64 base), (2, .int .u64 symbol), (3, .int .i64 add)]) hf (by kernel_rfl) ?_
  clear hf; clear a; intro a hf
  refine wpList_nil ?_
  refine sq ?_
  refine reg ?_
  have hT := of_bd hS; clear hS; obtain ⟨z1, hz1, hS⟩ := hT
  refine clV ent19 (vs := []) (caps := []) hf (by kernel_rfl) (by kernel_rfl) (by kernel_rfl) (by kernel_rfl) (law07_awake_ok (hs.enter [] rfl rfl) hz1) ?_
  clear hf; clear a; intro v w1 a hT hf; obtain ⟨F1, rfl, hr⟩ := hT
  replace hs : Sep w F R w1 F1 [] := hs.back [] [] rfl rfl rfl rfl hr
  clear hr
  replace hf := Fr.keep (ks := [0, 1, 2, 3, 14]) (L' := [(0, .int .u32 kind), (1, .int .u64 base), (2, .int .u64 symbol), (3, .int .i64 add), (14, .bool z1)]) hf (by kernel_rfl)
  refine st tbOk 1 [0, 1, 2, 3, 9] (L' := [(0, .int .u32 kind), (1, .int .u64 base), (2, .int .u64 symbol), (3, .int .i64 add), (9, .bool z1)]) hf (by kernel_rfl) ?_
  clear hf; clear a; intro a hf
  refine wpList_nil ?_
  refine sq ?_
  refine sq ?_
  refine reg ?_
  refine st tbOk 2 [0, 1, 2, 3, 16] (L' := [(0, .int .u32 kind), (1, .int .u64 base), (2, .int .u64 symbol), (3, .int .i64 add), (16, .bool (!z1))]) hf (by kernel_rfl) ?_
  clear hf; clear a; intro a hf
  refine wpList_nil ?_
  refine cnd (b := !z1) hf (by kernel_rfl) (fun hb1 => ?_) (fun hb1 => ?_)
  · replace hS := of_t hb1 hS
    refine sq ?_
    refine reg ?_
    refine st tbOk 1 [8] (L' := [(8, .bool false)]) hf (by kernel_rfl) ?_
    clear hf; clear a; intro a hf
    refine wpList_nil ?_
    have hr := Option.some.inj hS; subst hr
    refine wp_ret ?_
    exact ret_ok hf (vs := [.bool false]) (by kernel_rfl) ⟨_, rfl, hs.sel [] rfl rfl⟩
  · replace hS := of_f hb1 hS
    refine wp_skip ?_
    refine sq ?_
    refine reg ?_
    refine st tbOk 4 [0, 1, 2, 3, 18, 19, 20, 21] (L' := [(0, .int .u32 kind), (1, .int .u64 base), (2, .int .u64 symbol), (3, .int .i64 add), (18, .int .u32 kind), (19, .int .u64 base), (20, .int .u64 symbol), (21, .int .i64 add)]) hf (by kernel_rfl) ?_
    clear hf; clear a; intro a hf
    have hT := of_bd hS; clear hS; obtain ⟨z2, hz2, hS⟩ := hT
    refine clV ent26 (vs := [.int .u32 kind, .int .u64 base, .int .u64 symbol, .int .i64 add]) (caps := []) hf (by kernel_rfl) (by kernel_rfl) (by kernel_rfl) (by kernel_rfl) (rela_Value_ok (kind := kind) (base := base) (symbol := symbol) (add := add) (hs.enter [] rfl rfl) hz2) ?_
    clear hf; clear a; intro v w2 a hT hf; obtain ⟨F2, rfl, hr⟩ := hT
    replace hs : Sep w F R w2 F2 [] := hs.back [] [] rfl rfl rfl rfl hr
    clear hr
    replace hf := Fr.keep (ks := [0, 1, 2, 3, 22]) (L' := [(0, .int .u32 kind), (1, .int .u64 base), (2, .int .u64 symbol), (3, .int .i64 add), (22, .tuple #[.int .u64 z2.1, .int .i64 z2.2])]) hf (by kernel_rfl)
    refine st tbOk 5 [0, 1, 2, 3, 10, 11] (L' := [(0, .int .u32 kind), (1, .int .u64 base), (2, .int .u64 symbol), (3, .int .i64 add), (10, .int .u64 z2.1), (11, .int .i64 z2.2)]) hf (by kernel_rfl) ?_
    clear hf; clear a; intro a hf
    refine wpList_nil ?_
    refine sq ?_
    refine reg ?_
    refine st tbOk 4 [10, 11, 26, 27, 28, 29] (L' := [(10, .int .u64 z2.1), (11, .int .i64 z2.2), (26, .int .u32 kind), (27, .int .u64 base), (28, .int .u64 symbol), (29, .int .i64 add)]) hf (by kernel_rfl) ?_
    clear hf; clear a; intro a hf
    have hT := of_bd hS; clear hS; obtain ⟨z3, hz3, hS⟩ := hT
    refine clV ent27 (vs := [.int .u32 kind, .int .u64 base, .int .u64 symbol, .int .i64 add]) (caps := []) hf (by kernel_rfl) (by kernel_rfl) (by kernel_rfl) (by kernel_rfl) (ref07_Value_ok (p_t := kind) (base := base) (symbol := symbol) (add := add) (hs.enter [] rfl rfl) hz3) ?_
    clear hf; clear a; intro v w3 a hT hf; obtain ⟨F3, rfl, hr⟩ := hT
    replace hs : Sep w F R w3 F3 [] := hs.back [] [] rfl rfl rfl rfl hr
    clear hr
    replace hf := Fr.keep (ks := [10, 11, 30]) (L' := [(10, .int .u64 z2.1), (11, .int .i64 z2.2), (30, .tuple #[.int .u64 z3.1, .int .i64 z3.2])]) hf (by kernel_rfl)
    refine st tbOk 5 [10, 11, 12, 13] (L' := [(10, .int .u64 z2.1), (11, .int .i64 z2.2), (12, .int .u64 z3.1), (13, .int .i64 z3.2)]) hf (by kernel_rfl) ?_
    clear hf; clear a; intro a hf
    refine wpList_nil ?_
    refine sq ?_
    refine ctj (fun (s1 : Bool) (a : Act) (w' : World) => ∃ (F4 : SH), Sep w F R w' F4 [] ∧ Fr 41 [(8, .bool s1)] a) hS ?_ ?_
    · clear hS hf hs; clear a; intro s1 a w4 hM hS
      obtain ⟨F4, hs, hf⟩ := hM
      have hr := Option.some.inj hS; subst hr
      refine wp_ret ?_
      exact ret_ok hf (vs := [.bool s1]) (by kernel_rfl) ⟨_, rfl, hs.sel [] rfl rfl⟩
    · clear hS; intro KK1 k1 hK1 hS
      refine reg ?_
      refine st tbOk 4 [11, 13, 36] (L' := [(11, .int .i64 z2.2), (13, .int .i64 z3.2), (36, .bool (z2.1 == z3.1))]) hf (by kernel_rfl) ?_
      clear hf; clear a; intro a hf
      rcases Bool.eq_false_or_eq_true (z2.1 == z3.1) with hb2 | hb2
      · replace hS := of_t hb2 hS
        replace hf := Fr.cast (L' := [(11, .int .i64 z2.2), (13, .int .i64 z3.2), (36, .bool true)]) hf (by rw [hb2])
        refine st tbOk 5 [8] (L' := [(8, .bool (z2.2 == z3.2))]) hf (by kernel_rfl) ?_
        clear hf; clear a; intro a hf
        refine wpList_nil ?_
        exact hK1 (z2.2 == z3.2) _ _ ⟨_, hs.sel [] rfl rfl, hf.keep (ks := [8]) (by kernel_rfl)⟩ hS
      · replace hS := of_f hb2 hS
        replace hf := Fr.cast (L' := [(11, .int .i64 z2.2), (13, .int .i64 z3.2), (36, .bool false)]) hf (by rw [hb2])
        refine st tbOk 5 [8] (L' := [(8, .bool false)]) hf (by kernel_rfl) ?_
        clear hf; clear a; intro a hf
        refine wpList_nil ?_
        exact hK1 false _ _ ⟨_, hs.sel [] rfl rfl, hf.keep (ks := [8]) (by kernel_rfl)⟩ hS

end Dm
