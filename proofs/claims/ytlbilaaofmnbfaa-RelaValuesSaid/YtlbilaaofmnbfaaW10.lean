/-
  The walks: a call of each Go function gives what its shallow form gives, where that form gives something; printed by a program of this repo. No condition.
-/
import Derived.Test.YtlbilaaofmnbfaaWT
import Derived.Test.YtlbilaaofmnbfaaW8
namespace Dm
open Go Go.RowKit Go.Proofs

set_option maxHeartbeats 4000000 in
theorem ref07_Value_ok {w : World} {F : SH} {p_t : Int} {base : Int} {symbol : Int} {add : Int}  (hs : Sep w F (blks []) w F []) {r : Int × Int} (hS : ref07_Value p_t base symbol add = some r) :
    Calls Try.prog 27 [.int .u32 p_t, .int .u64 base, .int .u64 symbol, .int .i64 add].toArray w (Gives (fun u w' => ∃ (F' : SH), u = .tuple #[.int .u64 r.1, .int .i64 r.2] ∧ Sep w F (blks []) w' F' [])) := by
  generalize (blks []) = R at hs ⊢
  unfold ref07_Value at hS
  refine fn_ok (vs := [.int .u32 p_t, .int .u64 base, .int .u64 symbol, .int .i64 add]) Try.func27 rfl 38 Try.ntmps27 (Nat.le_of_ble_eq_true rfl) ?_
  intro a hf
  replace hf := Fr.cast (L' := [(0, .int .u32 p_t), (1, .int .u64 base), (2, .int .u64 symbol), (3, .int .i64 add)]) hf (by kernel_rfl)
  refine sq ?_
  refine reg ?_
  refine st tbOk 2 [0, 1, 2, 3] (L' := [(0, .int .u32 p_t), (1, .int .u64 base), (2, .int .u64 symbol), (3, .int .i64 add)]) hf (by kernel_rfl) ?_
  clear hf; clear a; intro a hf
  refine wpList_nil ?_
  refine sq ?_
  refine reg ?_
  refine st tbOk 1 [0, 1, 2, 3, 11] (L' := [(0, .int .u32 p_t), (1, .int .u64 base), (2, .int .u64 symbol), (3, .int .i64 add), (11, .int .u32 p_t)]) hf (by kernel_rfl) ?_
  clear hf; clear a; intro a hf
  have hT := of_bd hS; clear hS; obtain ⟨z1, hz1, hS⟩ := hT
  refine clV ent36 (vs := [.int .u32 p_t]) (caps := []) hf (by kernel_rfl) (by kernel_rfl) (by kernel_rfl) (by kernel_rfl) (ref07_Known_ok (p_t := p_t) (hs.enter [] rfl rfl) hz1) ?_
  clear hf; clear a; intro v w1 a hT hf; obtain ⟨F1, rfl, hr⟩ := hT
  replace hs : Sep w F R w1 F1 [] := hs.back [] [] rfl rfl rfl rfl hr
  clear hr
  replace hf := Fr.keep (ks := [0, 1, 2, 3, 12]) (L' := [(0, .int .u32 p_t), (1, .int .u64 base), (2, .int .u64 symbol), (3, .int .i64 add), (12, .bool z1)]) hf (by kernel_rfl)
  refine st tbOk 1 [0, 1, 2, 3, 10] (L' := [(0, .int .u32 p_t), (1, .int .u64 base), (2, .int .u64 symbol), (3, .int .i64 add), (10, .bool z1)]) hf (by kernel_rfl) ?_
  clear hf; clear a; intro a hf
  refine wpList_nil ?_
  refine sq ?_
  refine sq ?_
  refine reg ?_
  refine st tbOk 2 [0, 1, 2, 3, 14] (L' := [(0, .int .u32 p_t), (1, .int .u64 base), (2, .int .u64 symbol), (3, .int .i64 add), (14, .bool (!z1))]) hf (by kernel_rfl) ?_
  clear hf; clear a; intro a hf
  refine wpList_nil ?_
  refine cnd (b := !z1) hf (by kernel_rfl) (fun hb1 => ?_) (fun hb1 => ?_)
  · replace hS := of_t hb1 hS
    refine sq ?_
    refine reg ?_
    refine st tbOk 2 [8, 9] (L' := [(8, .int .u64 0), (9, .int .i64 33)]) hf (by kernel_rfl) ?_
    clear hf; clear a; intro a hf
    refine wpList_nil ?_
    have hr := Option.some.inj hS; subst hr
    refine wp_ret ?_
    exact ret_ok hf (vs := [.int .u64 0, .int .i64 33]) (by kernel_rfl) ⟨_, rfl, hs.sel [] rfl rfl⟩
  · replace hS := of_f hb1 hS
    refine wp_skip ?_
    refine sq ?_
    refine sq ?_
    refine reg ?_
    refine st tbOk 2 [0, 1, 2, 3, 16] (L' := [(0, .int .u32 p_t), (1, .int .u64 base), (2, .int .u64 symbol), (3, .int .i64 add), (16, .bool (p_t == 0))]) hf (by kernel_rfl) ?_
    clear hf; clear a; intro a hf
    refine wpList_nil ?_
    refine cnd (b := p_t == 0) hf (by kernel_rfl) (fun hb2 => ?_) (fun hb2 => ?_)
    · replace hS := of_t hb2 hS
      refine sq ?_
      refine reg ?_
      refine st tbOk 2 [8, 9] (L' := [(8, .int .u64 0), (9, .int .i64 0)]) hf (by kernel_rfl) ?_
      clear hf; clear a; intro a hf
      refine wpList_nil ?_
      have hr := Option.some.inj hS; subst hr
      refine wp_ret ?_
      exact ret_ok hf (vs := [.int .u64 0, .int .i64 0]) (by kernel_rfl) ⟨_, rfl, hs.sel [] rfl rfl⟩
    · replace hS := of_f hb2 hS
      refine wp_skip ?_
      refine sq ?_
      refine sq ?_
      refine reg ?_
      refine st tbOk 2 [0, 1, 2, 3, 18] (L' := [(0, .int .u32 p_t), (1, .int .u64 base), (2, .int .u64 symbol), (3, .int .i64 add), (18, .bool (p_t == 8))]) hf (by kernel_rfl) ?_
      clear hf; clear a; intro a hf
      refine wpList_nil ?_
      refine cnd (b := p_t == 8) hf (by kernel_rfl) (fun hb3 => ?_) (fun hb3 => ?_)
      · replace hS := of_t hb3 hS
        refine sq ?_
        refine reg ?_
        refine st tbOk 6 [8, 9] (L' := [(8, .int .u64 (IntKind.u64.wrap (base + (IntKind.u64.wrap add)))), (9, .int .i64 0)]) hf (by kernel_rfl) ?_
        clear hf; clear a; intro a hf
        refine wpList_nil ?_
        have hr := Option.some.inj hS; subst hr
        refine wp_ret ?_
        exact ret_ok hf (vs := [.int .u64 (IntKind.u64.wrap (base + (IntKind.u64.wrap add))), .int .i64 0]) (by kernel_rfl) ⟨_, rfl, hs.sel [] rfl rfl⟩
      · replace hS := of_f hb3 hS
        refine wp_skip ?_
        refine sq ?_
        refine sq ?_
        refine ctj (fun (s1 : Bool) (a : Act) (w' : World) => ∃ (F2 : SH), Sep w F R w' F2 [] ∧ Fr 38 [(2, .int .u64 symbol), (3, .int .i64 add), (32, .bool s1)] a) hS ?_ ?_
        · clear hS hf hs; clear a; intro s1 a w2 hM hS
          obtain ⟨F2, hs, hf⟩ := hM
          refine cnd (b := s1) hf (by kernel_rfl) (fun hb6 => ?_) (fun hb6 => ?_)
          · replace hS := of_t hb6 hS
            refine sq ?_
            refine reg ?_
            refine st tbOk 3 [8, 9] (L' := [(8, .int .u64 symbol), (9, .int .i64 0)]) hf (by kernel_rfl) ?_
            clear hf; clear a; intro a hf
            refine wpList_nil ?_
            have hr := Option.some.inj hS; subst hr
            refine wp_ret ?_
            exact ret_ok hf (vs := [.int .u64 symbol, .int .i64 0]) (by kernel_rfl) ⟨_, rfl, hs.sel [] rfl rfl⟩
          · replace hS := of_f hb6 hS
            refine wp_skip ?_
            refine sq ?_
            refine reg ?_
            refine st tbOk 6 [8, 9] (L' := [(8, .int .u64 (IntKind.u64.wrap (symbol + (IntKind.u64.wrap add)))), (9, .int .i64 0)]) hf (by kernel_rfl) ?_
            clear hf; clear a; intro a hf
            refine wpList_nil ?_
            have hr := Option.some.inj hS; subst hr
            refine wp_ret ?_
            exact ret_ok hf (vs := [.int .u64 (IntKind.u64.wrap (symbol + (IntKind.u64.wrap add))), .int .i64 0]) (by kernel_rfl) ⟨_, rfl, hs.sel [] rfl rfl⟩
        · clear hS; intro KK1 k1 hK1 hS
          refine reg ?_
          refine st tbOk 3 [0, 2, 3, 25] (L' := [(0, .int .u32 p_t), (2, .int .u64 symbol), (3, .int .i64 add), (25, .bool (p_t == 6))]) hf (by kernel_rfl) ?_
          clear hf; clear a; intro a hf
          rcases Bool.eq_false_or_eq_true (p_t == 6) with hb4 | hb4
          · replace hS := of_t hb4 hS
            replace hf := Fr.cast (L' := [(0, .int .u32 p_t), (2, .int .u64 symbol), (3, .int .i64 add), (25, .bool true)]) hf (by rw [hb4])
            refine st tbOk 7 [2, 3, 32] (L' := [(2, .int .u64 symbol), (3, .int .i64 add), (32, .bool true)]) hf (by kernel_rfl) ?_
            clear hf; clear a; intro a hf
            refine wpList_nil ?_
            exact hK1 true _ _ ⟨_, hs.sel [] rfl rfl, hf.keep (ks := [2, 3, 32]) (by kernel_rfl)⟩ hS
          · replace hS := of_f hb4 hS
            replace hf := Fr.cast (L' := [(0, .int .u32 p_t), (2, .int .u64 symbol), (3, .int .i64 add), (25, .bool false)]) hf (by rw [hb4])
            refine st tbOk 4 [0, 2, 3, 29] (L' := [(0, .int .u32 p_t), (2, .int .u64 symbol), (3, .int .i64 add), (29, .bool (p_t == 7))]) hf (by kernel_rfl) ?_
            clear hf; clear a; intro a hf
            rcases Bool.eq_false_or_eq_true (p_t == 7) with hb5 | hb5
            · replace hS := of_t hb5 hS
              replace hf := Fr.cast (L' := [(0, .int .u32 p_t), (2, .int .u64 symbol), (3, .int .i64 add), (29, .bool true)]) hf (by rw [hb5])
              refine st tbOk 3 [2, 3, 32] (L' := [(2, .int .u64 symbol), (3, .int .i64 add), (32, .bool true)]) hf (by kernel_rfl) ?_
              clear hf; clear a; intro a hf
              refine wpList_nil ?_
              exact hK1 true _ _ ⟨_, hs.sel [] rfl rfl, hf.keep (ks := [2, 3, 32]) (by kernel_rfl)⟩ hS
            · replace hS := of_f hb5 hS
              replace hf := Fr.cast (L' := [(0, .int .u32 p_t), (2, .int .u64 symbol), (3, .int .i64 add), (29, .bool false)]) hf (by rw [hb5])
              refine st tbOk 3 [2, 3, 32] (L' := [(2, .int .u64 symbol), (3, .int .i64 add), (32, .bool (p_t == 16))]) hf (by kernel_rfl) ?_
              clear hf; clear a; intro a hf
              refine wpList_nil ?_
              exact hK1 (p_t == 16) _ _ ⟨_, hs.sel [] rfl rfl, hf.keep (ks := [2, 3, 32]) (by kernel_rfl)⟩ hS

end Dm
