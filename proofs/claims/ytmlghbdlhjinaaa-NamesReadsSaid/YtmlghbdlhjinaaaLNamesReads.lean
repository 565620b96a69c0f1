/-
  The walk of the law NamesReads; printed by a program of this repo. No condition.
-/
import Derived.Test.YtmlghbdlhjinaaaWT
import Derived.Test.YtmlghbdlhjinaaaW1
import Derived.Test.YtmlghbdlhjinaaaW2
namespace Dm
open Go Go.RowKit Go.Proofs

set_option maxHeartbeats 4000000 in
theorem law02_NamesReads_ok {w : World} {F : SH} {table : List Int} {p_at : Int} {ao1 : Option Addr} {cp1 : Nat} (hs : Sep w F (blks [.ro (tI .u8) (.slice ao1 table.length cp1) table]) w F [.ro (tI .u8) (.slice ao1 table.length cp1) table]) {r : Bool} (hS : law02_NamesReads table p_at = some r) :
    Calls Try.prog 3 [.slice ao1 table.length cp1, .int .u64 p_at].toArray w (Gives (fun u w' => ∃ (F' : SH), u = .bool r ∧ Sep w F (blks [.ro (tI .u8) (.slice ao1 table.length cp1) table]) w' F' [])) := by
  generalize (blks [.ro (tI .u8) (.slice ao1 table.length cp1) table]) = R at hs ⊢
  unfold law02_NamesReads at hS
  refine fn_ok (vs := [.slice ao1 table.length cp1, .int .u64 p_at]) Try.func3 rfl 40 Try.ntmps3 (Nat.le_of_ble_eq_true rfl) ?_
  intro a hf
  replace hf := Fr.cast (L' := [(0, .slice ao1 table.length cp1), (1, .int .u64 p_at)]) hf (by kernel_rfl)
  refine sq ?_
  refine reg ?_
  refine st tbOk 1 [0, 1] (L' := [(0, .slice ao1 table.length cp1), (1, .int .u64 p_at)]) hf (by kernel_rfl) ?_
  clear hf; clear a; intro a hf
  refine wpList_nil ?_
  refine sq ?_
  refine reg ?_
  have hT := of_bd hS; clear hS; obtain ⟨z1, hz1, hS⟩ := hT
  refine clV ent15 (vs := []) (caps := []) hf (by kernel_rfl) (by kernel_rfl) (by kernel_rfl) (by kernel_rfl) (law02_awake_ok (hs.enter [] rfl rfl) hz1) ?_
  clear hf; clear a; intro v w1 a hT hf; obtain ⟨F1, rfl, hr⟩ := hT
  replace hs : Sep w F R w1 F1 [.ro (tI .u8) (.slice ao1 table.length cp1) table] := hs.back [] [0] rfl rfl rfl rfl hr
  clear hr
  replace hf := Fr.keep (ks := [0, 1, 10]) (L' := [(0, .slice ao1 table.length cp1), (1, .int .u64 p_at), (10, .bool z1)]) hf (by kernel_rfl)
  refine st tbOk 1 [0, 1, 5] (L' := [(0, .slice ao1 table.length cp1), (1, .int .u64 p_at), (5, .bool z1)]) hf (by kernel_rfl) ?_
  clear hf; clear a; intro a hf
  refine wpList_nil ?_
  refine sq ?_
  refine sq ?_
  refine reg ?_
  refine st tbOk 2 [0, 1, 12] (L' := [(0, .slice ao1 table.length cp1), (1, .int .u64 p_at), (12, .bool (!z1))]) hf (by kernel_rfl) ?_
  clear hf; clear a; intro a hf
  refine wpList_nil ?_
  refine cnd (b := !z1) hf (by kernel_rfl) (fun hb1 => ?_) (fun hb1 => ?_)
  · replace hS := of_t hb1 hS
    refine sq ?_
    refine reg ?_
    refine st tbOk 1 [4] (L' := [(4, .bool false)]) hf (by kernel_rfl) ?_
    clear hf; clear a; intro a hf
    refine wpList_nil ?_
    have hr := Option.some.inj hS; subst hr
    refine wp_ret ?_
    exact ret_ok hf (vs := [.bool false]) (by kernel_rfl) ⟨_, rfl, hs.sel [] rfl rfl⟩
  · replace hS := of_f hb1 hS
    refine wp_skip ?_
    refine sq ?_
    refine reg ?_
    refine st tbOk 2 [0, 1, 14, 15] (L' := [(0, .slice ao1 table.length cp1), (1, .int .u64 p_at), (14, .slice ao1 table.length cp1), (15, .int .u64 p_at)]) hf (by kernel_rfl) ?_
    clear hf; clear a; intro a hf
    have hT := of_bd hS; clear hS; obtain ⟨z2, hz2, hS⟩ := hT
    refine clV ent16 (vs := [.slice ao1 table.length cp1, .int .u64 p_at]) (caps := []) hf (by kernel_rfl) (by kernel_rfl) (by kernel_rfl) (by kernel_rfl) (names_At_ok (table := table) (p_at := p_at) (hs.enter [0] rfl rfl) hz2) ?_
    clear hf; clear a; intro v w2 a hT hf; obtain ⟨F2, rfl, hr⟩ := hT
    replace hs : Sep w F R w2 F2 [.ro (tI .u8) (.slice ao1 table.length cp1) table] := hs.back [0] [0] rfl rfl rfl rfl hr
    clear hr
    replace hf := Fr.keep (ks := [0, 1, 16]) (L' := [(0, .slice ao1 table.length cp1), (1, .int .u64 p_at), (16, .tuple #[strV z2.1, .int .i64 z2.2])]) hf (by kernel_rfl)
    refine st tbOk 5 [0, 1, 6, 7] (L' := [(0, .slice ao1 table.length cp1), (1, .int .u64 p_at), (6, strV z2.1), (7, .int .i64 z2.2)]) hf (by kernel_rfl) ?_
    clear hf; clear a; intro a hf
    refine wpList_nil ?_
    refine sq ?_
    refine reg ?_
    refine st tbOk 2 [0, 6, 7, 20, 21] (L' := [(0, .slice ao1 table.length cp1), (6, strV z2.1), (7, .int .i64 z2.2), (20, .slice ao1 table.length cp1), (21, .int .u64 p_at)]) hf (by kernel_rfl) ?_
    clear hf; clear a; intro a hf
    have hT := of_bd hS; clear hS; obtain ⟨z3, hz3, hS⟩ := hT
    refine clV ent17 (vs := [.slice ao1 table.length cp1, .int .u64 p_at]) (caps := []) hf (by kernel_rfl) (by kernel_rfl) (by kernel_rfl) (by kernel_rfl) (ref02_At_ok (table := table) (p_at := p_at) (hs.enter [0] rfl rfl) hz3) ?_
    clear hf; clear a; intro v w3 a hT hf; obtain ⟨F3, rfl, hr⟩ := hT
    replace hs : Sep w F R w3 F3 [.ro (tI .u8) (.slice ao1 table.length cp1) table] := hs.back [0] [0] rfl rfl rfl rfl hr
    clear hr
    replace hf := Fr.keep (ks := [0, 6, 7, 22]) (L' := [(0, .slice ao1 table.length cp1), (6, strV z2.1), (7, .int .i64 z2.2), (22, .tuple #[strV z3.1, .int .i64 z3.2])]) hf (by kernel_rfl)
    refine st tbOk 5 [0, 6, 7, 8, 9] (L' := [(0, .slice ao1 table.length cp1), (6, strV z2.1), (7, .int .i64 z2.2), (8, strV z3.1), (9, .int .i64 z3.2)]) hf (by kernel_rfl) ?_
    clear hf; clear a; intro a hf
    refine wpList_nil ?_
    refine sq ?_
    refine ctj (fun (s1 : Bool) (a : Act) (w' : World) => ∃ (F4 : SH), Sep w F R w' F4 [] ∧ Fr 40 [(4, .bool s1)] a) hS ?_ ?_
    · clear hS hf hs; clear a; intro s1 a w6 hM hS
      obtain ⟨F4, hs, hf⟩ := hM
      have hr := Option.some.inj hS; subst hr
      refine wp_ret ?_
      exact ret_ok hf (vs := [.bool s1]) (by kernel_rfl) ⟨_, rfl, hs.sel [] rfl rfl⟩
    · clear hS; intro KK1 k1 hK1 hS
      refine reg ?_
      refine st tbOk 4 [0, 7, 9, 28] (L' := [(0, .slice ao1 table.length cp1), (7, .int .i64 z2.2), (9, .int .i64 z3.2), (28, .bool (z2.1 == z3.1))]) hf (by kernel_rfl) ?_
      clear hf; clear a; intro a hf
      rcases Bool.eq_false_or_eq_true (z2.1 == z3.1) with hb2 | hb2
      · replace hS := of_t hb2 hS
        replace hf := Fr.cast (L' := [(0, .slice ao1 table.length cp1), (7, .int .i64 z2.2), (9, .int .i64 z3.2), (28, .bool true)]) hf (by rw [hb2])
        refine st tbOk 5 [0, 33] (L' := [(0, .slice ao1 table.length cp1), (33, .bool (z2.2 == z3.2))]) hf (by kernel_rfl) ?_
        clear hf; clear a; intro a hf
        rcases Bool.eq_false_or_eq_true (z2.2 == z3.2) with hb3 | hb3
        · replace hS := of_t hb3 hS
          replace hf := Fr.cast (L' := [(0, .slice ao1 table.length cp1), (33, .bool true)]) hf (by rw [hb3])
          refine st tbOk 1 [0, 33, 34] (L' := [(0, .slice ao1 table.length cp1), (33, .bool true), (34, .slice ao1 table.length cp1)]) hf (by kernel_rfl) ?_
          clear hf; clear a; intro a hf
          have hT := of_bd hS; clear hS; obtain ⟨z4, hz4, hS⟩ := hT
          refine clV ent18 (vs := [.slice ao1 table.length cp1]) (caps := []) hf (by kernel_rfl) (by kernel_rfl) (by kernel_rfl) (by kernel_rfl) (names_Check_ok (table := table) (hs.enter [0] rfl rfl) hz4) ?_
          clear hf; clear a; intro v w4 a hT hf; obtain ⟨F5, rfl, hr⟩ := hT
          replace hs : Sep w F R w4 F5 [.ro (tI .u8) (.slice ao1 table.length cp1) table] := hs.back [0] [0] rfl rfl rfl rfl hr
          clear hr
          replace hf := Fr.keep (ks := [0, 33, 35]) (L' := [(0, .slice ao1 table.length cp1), (33, .bool true), (35, .int .i64 z4)]) hf (by kernel_rfl)
          refine st tbOk 1 [33, 35, 36] (L' := [(33, .bool true), (35, .int .i64 z4), (36, .slice ao1 table.length cp1)]) hf (by kernel_rfl) ?_
          clear hf; clear a; intro a hf
          have hT := of_bd hS; clear hS; obtain ⟨z5, hz5, hS⟩ := hT
          refine clV ent19 (vs := [.slice ao1 table.length cp1]) (caps := []) hf (by kernel_rfl) (by kernel_rfl) (by kernel_rfl) (by kernel_rfl) (ref02_Check_ok (table := table) (hs.enter [0] rfl rfl) hz5) ?_
          clear hf; clear a; intro v w5 a hT hf; obtain ⟨F6, rfl, hr⟩ := hT
          replace hs : Sep w F R w5 F6 [.ro (tI .u8) (.slice ao1 table.length cp1) table] := hs.back [0] [0] rfl rfl rfl rfl hr
          clear hr
          replace hs : Sep w F R w5 F6 [] := hs.sel [] rfl rfl
          replace hf := Fr.keep (ks := [33, 35, 37]) (L' := [(33, .bool true), (35, .int .i64 z4), (37, .int .i64 z5)]) hf (by kernel_rfl)
          refine st tbOk 3 [4] (L' := [(4, .bool (z4 == z5))]) hf (by kernel_rfl) ?_
          clear hf; clear a; intro a hf
          refine wpList_nil ?_
          exact hK1 (z4 == z5) _ _ ⟨_, hs.sel [] rfl rfl, hf.keep (ks := [4]) (by kernel_rfl)⟩ hS
        · replace hS := of_f hb3 hS
          replace hf := Fr.cast (L' := [(0, .slice ao1 table.length cp1), (33, .bool false)]) hf (by rw [hb3])
          refine st tbOk 7 [4] (L' := [(4, .bool false)]) hf (by kernel_rfl) ?_
          clear hf; clear a; intro a hf
          refine wpList_nil ?_
          exact hK1 false _ _ ⟨_, hs.sel [] rfl rfl, hf.keep (ks := [4]) (by kernel_rfl)⟩ hS
      · replace hS := of_f hb2 hS
        replace hf := Fr.cast (L' := [(0, .slice ao1 table.length cp1), (7, .int .i64 z2.2), (9, .int .i64 z3.2), (28, .bool false)]) hf (by rw [hb2])
        refine st tbOk 12 [4] (L' := [(4, .bool false)]) hf (by kernel_rfl) ?_
        clear hf; clear a; intro a hf
        refine wpList_nil ?_
        exact hK1 false _ _ ⟨_, hs.sel [] rfl rfl, hf.keep (ks := [4]) (by kernel_rfl)⟩ hS

end Dm
