/-
  The walk of the law RelaShifts; printed by a program of this repo. No condition.
-/
import Derived.Test.YtlbilaaofmnbfaaWT
import Derived.Test.YtlbilaaofmnbfaaW5
namespace Dm
open Go Go.RowKit Go.Proofs

set_option maxHeartbeats 4000000 in
theorem law07_RelaShifts_ok {w : World} {F : SH} {kind : Int} {base : Int} {symbol : Int} {add : Int} {p_by : Int}  (hs : Sep w F (blks []) w F []) {r : Bool} (hS : law07_RelaShifts kind base symbol add p_by = some r) :
    Calls Try.prog 11 [.int .u32 kind, .int .u64 base, .int .u64 symbol, .int .i64 add, .int .u64 p_by].toArray w (Gives (fun u w' => ∃ (F' : SH), u = .bool r ∧ Sep w F (blks []) w' F' [])) := by
  generalize (blks []) = R at hs ⊢
  unfold law07_RelaShifts at hS
  refine fn_ok (vs := [.int .u32 kind, .int .u64 base, .int .u64 symbol, .int .i64 add, .int .u64 p_by]) Try.func11 rfl 64 Try.ntmps11 (Nat.le_of_ble_eq_true rfl) ?_
  intro a hf
  replace hf := Fr.cast (L' := [(0, .int .u32 kind), (1, .int .u64 base), (2, .int .u64 symbol), (3, .int .i64 add), (4, .int .u64 p_by)]) hf (by kernel_rfl)
  refine sq ?_
  refine reg ?_
  refine st tbOk 1 [0, 1, 2, 3, 4] (L' := [(0, .int .u32 kind), (1, .int .u64 base), (2, .int .u64 symbol), (3, .int .i64 add), (4, .int .u64 p_by)]) hf (by kernel_rfl) ?_
  clear hf; clear a; intro a hf
  refine wpList_nil ?_
  refine sq ?_
  refine reg ?_
  have hT := of_bd hS; clear hS; obtain ⟨z1, hz1, hS⟩ := hT
  refine clV ent19 (vs := []) (caps := []) hf (by kernel_rfl) (by kernel_rfl) (by kernel_rfl) (by kernel_rfl) (law07_awake_ok (hs.enter [] rfl rfl) hz1) ?_
  clear hf; clear a; intro v w1 a hT hf; obtain ⟨F1, rfl, hr⟩ := hT
  replace hs : Sep w F R w1 F1 [] := hs.back [] [] rfl rfl rfl rfl hr
  clear hr
  replace hf := Fr.keep (ks := [0, 1, 2, 3, 4, 16]) (L' := [(0, .int .u32 kind), (1, .int .u64 base), (2, .int .u64 symbol), (3, .int .i64 add), (4, .int .u64 p_by), (16, .bool z1)]) hf (by kernel_rfl)
  refine st tbOk 1 [0, 1, 2, 3, 4, 11] (L' := [(0, .int .u32 kind), (1, .int .u64 base), (2, .int .u64 symbol), (3, .int .i64 add), (4, .int .u64 p_by), (11, .bool z1)]) hf (by kernel_rfl) ?_
  clear hf; clear a; intro a hf
  refine wpList_nil ?_
  refine sq ?_
  refine sq ?_
  refine reg ?_
  refine st tbOk 2 [0, 1, 2, 3, 4, 18] (L' := [(0, .int .u32 kind), (1, .int .u64 base), (2, .int .u64 symbol), (3, .int .i64 add), (4, .int .u64 p_by), (18, .bool (!z1))]) hf (by kernel_rfl) ?_
  clear hf; clear a; intro a hf
  refine wpList_nil ?_
  refine cnd (b := !z1) hf (by kernel_rfl) (fun hb1 => ?_) (fun hb1 => ?_)
  · replace hS := of_t hb1 hS
    refine sq ?_
    refine reg ?_
    refine st tbOk 1 [10] (L' := [(10, .bool false)]) hf (by kernel_rfl) ?_
    clear hf; clear a; intro a hf
    refine wpList_nil ?_
    have hr := Option.some.inj hS; subst hr
    refine wp_ret ?_
    exact ret_ok hf (vs := [.bool false]) (by kernel_rfl) ⟨_, rfl, hs.sel [] rfl rfl⟩
  · replace hS := of_f hb1 hS
    refine wp_skip ?_
    refine sq ?_
    refine reg ?_
    refine st tbOk 4 [0, 1, 2, 3, 4, 20, 21, 22, 23] (L' := [(0, .int .u32 kind), (1, .int .u64 base), (2, .int .u64 symbol), (3, .int .i64 add), (4, .int .u64 p_by), (20, .int .u32 kind), (21, .int .u64 base), (22, .int .u64 symbol), (23, .int .i64 add)]) hf (by kernel_rfl) ?_
    clear hf; clear a; intro a hf
    have hT := of_bd hS; clear hS; obtain ⟨z2, hz2, hS⟩ := hT
    refine clV ent26 (vs := [.int .u32 kind, .int .u64 base, .int .u64 symbol, .int .i64 add]) (caps := []) hf (by kernel_rfl) (by kernel_rfl) (by kernel_rfl) (by kernel_rfl) (rela_Value_ok (kind := kind) (base := base) (symbol := symbol) (add := add) (hs.enter [] rfl rfl) hz2) ?_
    clear hf; clear a; intro v w2 a hT hf; obtain ⟨F2, rfl, hr⟩ := hT
    replace hs : Sep w F R w2 F2 [] := hs.back [] [] rfl rfl rfl rfl hr
    clear hr
    replace hf := Fr.keep (ks := [0, 1, 2, 3, 4, 24]) (L' := [(0, .int .u32 kind), (1, .int .u64 base), (2, .int .u64 symbol), (3, .int .i64 add), (4, .int .u64 p_by), (24, .tuple #[.int .u64 z2.1, .int .i64 z2.2])]) hf (by kernel_rfl)
    refine st tbOk 5 [0, 1, 2, 3, 4, 12, 13] (L' := [(0, .int .u32 kind), (1, .int .u64 base), (2, .int .u64 symbol), (3, .int .i64 add), (4, .int .u64 p_by), (12, .int .u64 z2.1), (13, .int .i64 z2.2)]) hf (by kernel_rfl) ?_
    clear hf; clear a; intro a hf
    refine wpList_nil ?_
    refine sq ?_
    refine reg ?_
    refine st tbOk 8 [0, 4, 12, 13, 28, 31, 34, 35] (L' := [(0, .int .u32 kind), (4, .int .u64 p_by), (12, .int .u64 z2.1), (13, .int .i64 z2.2), (28, .int .u32 kind), (31, .int .u64 (IntKind.u64.wrap (base + p_by))), (34, .int .u64 (IntKind.u64.wrap (symbol + p_by))), (35, .int .i64 add)]) hf (by kernel_rfl) ?_
    clear hf; clear a; intro a hf
    have hT := of_bd hS; clear hS; obtain ⟨z3, hz3, hS⟩ := hT
    refine clV ent26 (vs := [.int .u32 kind, .int .u64 (IntKind.u64.wrap (base + p_by)), .int .u64 (IntKind.u64.wrap (symbol + p_by)), .int .i64 add]) (caps := []) hf (by kernel_rfl) (by kernel_rfl) (by kernel_rfl) (by kernel_rfl) (rela_Value_ok (kind := kind) (base := IntKind.u64.wrap (base + p_by)) (symbol := IntKind.u64.wrap (symbol + p_by)) (add := add) (hs.enter [] rfl rfl) hz3) ?_
    clear hf; clear a; intro v w3 a hT hf; obtain ⟨F3, rfl, hr⟩ := hT
    replace hs : Sep w F R w3 F3 [] := hs.back [] [] rfl rfl rfl rfl hr
    clear hr
    replace hf := Fr.keep (ks := [0, 4, 12, 13, 36]) (L' := [(0, .int .u32 kind), (4, .int .u64 p_by), (12, .int .u64 z2.1), (13, .int .i64 z2.2), (36, .tuple #[.int .u64 z3.1, .int .i64 z3.2])]) hf (by kernel_rfl)
    refine st tbOk 5 [0, 4, 12, 13, 14, 15] (L' := [(0, .int .u32 kind), (4, .int .u64 p_by), (12, .int .u64 z2.1), (13, .int .i64 z2.2), (14, .int .u64 z3.1), (15, .int .i64 z3.2)]) hf (by kernel_rfl) ?_
    clear hf; clear a; intro a hf
    refine wpList_nil ?_
    refine sq ?_
    refine sq ?_
    refine reg ?_
    refine st tbOk 3 [0, 4, 12, 13, 14, 41] (L' := [(0, .int .u32 kind), (4, .int .u64 p_by), (12, .int .u64 z2.1), (13, .int .i64 z2.2), (14, .int .u64 z3.1), (41, .bool (z2.2 != z3.2))]) hf (by kernel_rfl) ?_
    clear hf; clear a; intro a hf
    refine wpList_nil ?_
    refine cnd (b := z2.2 != z3.2) hf (by kernel_rfl) (fun hb2 => ?_) (fun hb2 => ?_)
    · replace hS := of_t hb2 hS
      refine sq ?_
      refine reg ?_
      refine st tbOk 1 [10] (L' := [(10, .bool false)]) hf (by kernel_rfl) ?_
      clear hf; clear a; intro a hf
      refine wpList_nil ?_
      have hr := Option.some.inj hS; subst hr
      refine wp_ret ?_
      exact ret_ok hf (vs := [.bool false]) (by kernel_rfl) ⟨_, rfl, hs.sel [] rfl rfl⟩
    · replace hS := of_f hb2 hS
      refine wp_skip ?_
      refine sq ?_
      refine ctj (fun (s1 : Bool) (a : Act) (w' : World) => ∃ (F4 : SH), Sep w F R w' F4 [] ∧ Fr 64 [(10, .bool s1)] a) hS ?_ ?_
      · clear hS hf hs; clear a; intro s1 a w4 hM hS
        obtain ⟨F4, hs, hf⟩ := hM
        have hr := Option.some.inj hS; subst hr
        refine wp_ret ?_
        exact ret_ok hf (vs := [.bool s1]) (by kernel_rfl) ⟨_, rfl, hs.sel [] rfl rfl⟩
      · clear hS; intro KK1 k1 hK1 hS
        refine reg ?_
        refine st tbOk 3 [0, 4, 12, 14, 44] (L' := [(0, .int .u32 kind), (4, .int .u64 p_by), (12, .int .u64 z2.1), (14, .int .u64 z3.1), (44, .bool (z2.2 != 0))]) hf (by kernel_rfl) ?_
        clear hf; clear a; intro a hf
        rcases Bool.eq_false_or_eq_true (z2.2 != 0) with hb3 | hb3
        · replace hS := of_t hb3 hS
          replace hf := Fr.cast (L' := [(0, .int .u32 kind), (4, .int .u64 p_by), (12, .int .u64 z2.1), (14, .int .u64 z3.1), (44, .bool true)]) hf (by rw [hb3])
          refine st tbOk 20 [10] (L' := [(10, .bool true)]) hf (by kernel_rfl) ?_
          clear hf; clear a; intro a hf
          refine wpList_nil ?_
          exact hK1 true _ _ ⟨_, hs.sel [] rfl rfl, hf.keep (ks := [10]) (by kernel_rfl)⟩ hS
        · replace hS := of_f hb3 hS
          replace hf := Fr.cast (L' := [(0, .int .u32 kind), (4, .int .u64 p_by), (12, .int .u64 z2.1), (14, .int .u64 z3.1), (44, .bool false)]) hf (by rw [hb3])
          refine st tbOk 3 [0, 4, 12, 14, 44, 47] (L' := [(0, .int .u32 kind), (4, .int .u64 p_by), (12, .int .u64 z2.1), (14, .int .u64 z3.1), (44, .bool false), (47, .bool (kind == 0))]) hf (by kernel_rfl) ?_
          clear hf; clear a; intro a hf
          rcases Bool.eq_false_or_eq_true (kind == 0) with hb4 | hb4
          · replace hS := of_t hb4 hS
            replace hf := Fr.cast (L' := [(0, .int .u32 kind), (4, .int .u64 p_by), (12, .int .u64 z2.1), (14, .int .u64 z3.1), (44, .bool false), (47, .bool true)]) hf (by rw [hb4])
            refine st tbOk 6 [0, 4, 12, 14, 53] (L' := [(0, .int .u32 kind), (4, .int .u64 p_by), (12, .int .u64 z2.1), (14, .int .u64 z3.1), (53, .bool (z2.1 == z3.1))]) hf (by kernel_rfl) ?_
            clear hf; clear a; intro a hf
            rcases Bool.eq_false_or_eq_true (z2.1 == z3.1) with hb5 | hb5
            · replace hS := of_t hb5 hS
              replace hf := Fr.cast (L' := [(0, .int .u32 kind), (4, .int .u64 p_by), (12, .int .u64 z2.1), (14, .int .u64 z3.1), (53, .bool true)]) hf (by rw [hb5])
              refine st tbOk 11 [10] (L' := [(10, .bool true)]) hf (by kernel_rfl) ?_
              clear hf; clear a; intro a hf
              refine wpList_nil ?_
              exact hK1 true _ _ ⟨_, hs.sel [] rfl rfl, hf.keep (ks := [10]) (by kernel_rfl)⟩ hS
            · replace hS := of_f hb5 hS
              replace hf := Fr.cast (L' := [(0, .int .u32 kind), (4, .int .u64 p_by), (12, .int .u64 z2.1), (14, .int .u64 z3.1), (53, .bool false)]) hf (by rw [hb5])
              refine st tbOk 3 [4, 12, 14, 53, 56] (L' := [(4, .int .u64 p_by), (12, .int .u64 z2.1), (14, .int .u64 z3.1), (53, .bool false), (56, .bool (kind != 0))]) hf (by kernel_rfl) ?_
              clear hf; clear a; intro a hf
              rcases Bool.eq_false_or_eq_true (kind != 0) with hb6 | hb6
              · replace hS := of_t hb6 hS
                replace hf := Fr.cast (L' := [(4, .int .u64 p_by), (12, .int .u64 z2.1), (14, .int .u64 z3.1), (53, .bool false), (56, .bool true)]) hf (by rw [hb6])
                refine st tbOk 8 [10] (L' := [(10, .bool (z3.1 == (IntKind.u64.wrap (z2.1 + p_by))))]) hf (by kernel_rfl) ?_
                clear hf; clear a; intro a hf
                refine wpList_nil ?_
                exact hK1 (z3.1 == (IntKind.u64.wrap (z2.1 + p_by))) _ _ ⟨_, hs.sel [] rfl rfl, hf.keep (ks := [10]) (by kernel_rfl)⟩ hS
              · replace hS := of_f hb6 hS
                replace hf := Fr.cast (L' := [(4, .int .u64 p_by), (12, .int .u64 z2.1), (14, .int .u64 z3.1), (53, .bool false), (56, .bool false)]) hf (by rw [hb6])
                refine st tbOk 8 [10] (L' := [(10, .bool false)]) hf (by kernel_rfl) ?_
                clear hf; clear a; intro a hf
                refine wpList_nil ?_
                exact hK1 false _ _ ⟨_, hs.sel [] rfl rfl, hf.keep (ks := [10]) (by kernel_rfl)⟩ hS
          · replace hS := of_f hb4 hS
            replace hf := Fr.cast (L' := [(0, .int .u32 kind), (4, .int .u64 p_by), (12, .int .u64 z2.1), (14, .int .u64 z3.1), (44, .bool false), (47, .bool false)]) hf (by rw [hb4])
            refine st tbOk 9 [4, 12, 14, 53, 56] (L' := [(4, .int .u64 p_by), (12, .int .u64 z2.1), (14, .int .u64 z3.1), (53, .bool false), (56, .bool (kind != 0))]) hf (by kernel_rfl) ?_
            clear hf; clear a; intro a hf
            rcases Bool.eq_false_or_eq_true (kind != 0) with hb7 | hb7
            · replace hS := of_t hb7 hS
              replace hf := Fr.cast (L' := [(4, .int .u64 p_by), (12, .int .u64 z2.1), (14, .int .u64 z3.1), (53, .bool false), (56, .bool true)]) hf (by rw [hb7])
              refine st tbOk 8 [10] (L' := [(10, .bool (z3.1 == (IntKind.u64.wrap (z2.1 + p_by))))]) hf (by kernel_rfl) ?_
              clear hf; clear a; intro a hf
              refine wpList_nil ?_
              exact hK1 (z3.1 == (IntKind.u64.wrap (z2.1 + p_by))) _ _ ⟨_, hs.sel [] rfl rfl, hf.keep (ks := [10]) (by kernel_rfl)⟩ hS
            · replace hS := of_f hb7 hS
              replace hf := Fr.cast (L' := [(4, .int .u64 p_by), (12, .int .u64 z2.1), (14, .int .u64 z3.1), (53, .bool false), (56, .bool false)]) hf (by rw [hb7])
              refine st tbOk 8 [10] (L' := [(10, .bool false)]) hf (by kernel_rfl) ?_
              clear hf; clear a; intro a hf
              refine wpList_nil ?_
              exact hK1 false _ _ ⟨_, hs.sel [] rfl rfl, hf.keep (ks := [10]) (by kernel_rfl)⟩ hS

end Dm
