/-
  The walk of the law OctetsMeets; printed by a program of this repo. No condition.
-/
import Derived.Test.YtdigooncdjnfbaaW
namespace Dm
open Go Go.RowKit Go.Proofs

theorem law01_OctetsMeets_ok {w : World} {p_a : Int} {m : Int} {b : Int} {n : Int}  {r : Bool} (hS : law01_OctetsMeets p_a m b n = some r) :
    Calls Try.prog 7 #[.int .u64 p_a, .int .u64 m, .int .u64 b, .int .u64 n] w (Gives (fun u w' => u = .bool r ∧ Ext w w')) := by
  unfold law01_OctetsMeets at hS
  refine fn_ok (vs := [.int .u64 p_a, .int .u64 m, .int .u64 b, .int .u64 n]) Try.func7 rfl 35 Try.ntmps7 (Nat.le_of_ble_eq_true rfl) ?_
  intro a hf
  replace hf := Fr.cast (L' := [(0, .int .u64 p_a), (1, .int .u64 m), (2, .int .u64 b), (3, .int .u64 n)]) hf (by kernel_rfl)
  have hE := Ext.rfl' w
  refine sq ?_
  refine reg ?_
  refine st tbOk 1 [0, 1, 2, 3] (L' := [(0, .int .u64 p_a), (1, .int .u64 m), (2, .int .u64 b), (3, .int .u64 n)]) hf (by kernel_rfl) ?_
  clear hf; clear a; intro a hf
  refine wpList_nil ?_
  refine sq ?_
  refine reg ?_
  have hT := of_bd hS; clear hS; obtain ⟨z1, hz1, hS⟩ := hT
  refine cl ent11 (vs := []) hf (by kernel_rfl) (by kernel_rfl) (by kernel_rfl) (law01_awake_ok  hz1) ?_
  clear hf; clear a; intro v w1 a hT hf; obtain ⟨rfl, hx⟩ := hT
  replace hE := hE.tr hx
  replace hf := Fr.keep (ks := [0, 1, 2, 3, 11]) (L' := [(0, .int .u64 p_a), (1, .int .u64 m), (2, .int .u64 b), (3, .int .u64 n), (11, .bool z1)]) hf (by kernel_rfl)
  refine st tbOk 1 [0, 1, 2, 3, 9] (L' := [(0, .int .u64 p_a), (1, .int .u64 m), (2, .int .u64 b), (3, .int .u64 n), (9, .bool z1)]) hf (by kernel_rfl) ?_
  clear hf; clear a; intro a hf
  refine wpList_nil ?_
  refine sq ?_
  refine sq ?_
  refine reg ?_
  refine st tbOk 2 [0, 1, 2, 3, 13] (L' := [(0, .int .u64 p_a), (1, .int .u64 m), (2, .int .u64 b), (3, .int .u64 n), (13, .bool (!z1))]) hf (by kernel_rfl) ?_
  clear hf; clear a; intro a hf
  refine wpList_nil ?_
  refine cnd (b := !z1) hf (by kernel_rfl) (fun hb1 => ?_) (fun hb1 => ?_)
  · replace hS := of_t hb1 hS
    refine sq ?_
    refine reg ?_
    refine st tbOk 1 [8] (L' := [(8, .bool false)]) hf (by kernel_rfl) ?_
    clear hf; clear a; intro a hf
    refine wpList_nil ?_
    have hr := Option.some.inj hS; subst hr
    refine wp_ret ?_
    exact ret_ok hf (vs := [.bool false]) (by kernel_rfl) ⟨rfl, hE⟩
  · replace hS := of_f hb1 hS
    refine wp_skip ?_
    refine sq ?_
    refine reg ?_
    refine st tbOk 4 [0, 1, 2, 3, 14, 15, 16, 17] (L' := [(0, .int .u64 p_a), (1, .int .u64 m), (2, .int .u64 b), (3, .int .u64 n), (14, .int .u64 p_a), (15, .int .u64 m), (16, .int .u64 b), (17, .int .u64 n)]) hf (by kernel_rfl) ?_
    clear hf; clear a; intro a hf
    have hT := of_bd hS; clear hS; obtain ⟨z2, hz2, hS⟩ := hT
    refine cl ent22 (vs := [.int .u64 p_a, .int .u64 m, .int .u64 b, .int .u64 n]) hf (by kernel_rfl) (by kernel_rfl) (by kernel_rfl) (ref01_Meet_ok  hz2) ?_
    clear hf; clear a; intro v w2 a hT hf; obtain ⟨rfl, hx⟩ := hT
    replace hE := hE.tr hx
    replace hf := Fr.keep (ks := [0, 1, 2, 3, 18]) (L' := [(0, .int .u64 p_a), (1, .int .u64 m), (2, .int .u64 b), (3, .int .u64 n), (18, .bool z2)]) hf (by kernel_rfl)
    refine st tbOk 1 [0, 1, 2, 3, 10] (L' := [(0, .int .u64 p_a), (1, .int .u64 m), (2, .int .u64 b), (3, .int .u64 n), (10, .bool z2)]) hf (by kernel_rfl) ?_
    clear hf; clear a; intro a hf
    refine wpList_nil ?_
    refine sq ?_
    refine ctj (fun (s1 : Bool) (a : Act) (w' : World) => Ext w w' ∧ Fr 35 [(8, .bool s1)] a) hS ?_ ?_
    · clear hS hf; clear a; clear hE; intro s1 a w5 hM hS
      obtain ⟨hE, hf⟩ := hM
      have hr := Option.some.inj hS; subst hr
      refine wp_ret ?_
      exact ret_ok hf (vs := [.bool s1]) (by kernel_rfl) ⟨rfl, hE⟩
    · clear hS; intro KK1 k1 hK1 hS
      refine reg ?_
      refine st tbOk 4 [0, 1, 2, 3, 10, 19, 20, 21, 22] (L' := [(0, .int .u64 p_a), (1, .int .u64 m), (2, .int .u64 b), (3, .int .u64 n), (10, .bool z2), (19, .int .u64 p_a), (20, .int .u64 m), (21, .int .u64 b), (22, .int .u64 n)]) hf (by kernel_rfl) ?_
      clear hf; clear a; intro a hf
      have hT := of_bd hS; clear hS; obtain ⟨z3, hz3, hS⟩ := hT
      refine cl ent23 (vs := [.int .u64 p_a, .int .u64 m, .int .u64 b, .int .u64 n]) hf (by kernel_rfl) (by kernel_rfl) (by kernel_rfl) (octets_Meet_ok  hz3) ?_
      clear hf; clear a; intro v w3 a hT hf; obtain ⟨rfl, hx⟩ := hT
      replace hE := hE.tr hx
      replace hf := Fr.keep (ks := [0, 1, 2, 3, 10, 23]) (L' := [(0, .int .u64 p_a), (1, .int .u64 m), (2, .int .u64 b), (3, .int .u64 n), (10, .bool z2), (23, .bool z3)]) hf (by kernel_rfl)
      refine st tbOk 3 [0, 1, 2, 3, 10, 26] (L' := [(0, .int .u64 p_a), (1, .int .u64 m), (2, .int .u64 b), (3, .int .u64 n), (10, .bool z2), (26, .bool (z3 == z2))]) hf (by kernel_rfl) ?_
      clear hf; clear a; intro a hf
      rcases Bool.eq_false_or_eq_true (z3 == z2) with hb2 | hb2
      · replace hS := of_t hb2 hS
        replace hf := Fr.cast (L' := [(0, .int .u64 p_a), (1, .int .u64 m), (2, .int .u64 b), (3, .int .u64 n), (10, .bool z2), (26, .bool true)]) hf (by rw [hb2])
        refine st tbOk 4 [10, 26, 27, 28, 29, 30] (L' := [(10, .bool z2), (26, .bool true), (27, .int .u64 b), (28, .int .u64 n), (29, .int .u64 p_a), (30, .int .u64 m)]) hf (by kernel_rfl) ?_
        clear hf; clear a; intro a hf
        have hT := of_bd hS; clear hS; obtain ⟨z4, hz4, hS⟩ := hT
        refine cl ent23 (vs := [.int .u64 b, .int .u64 n, .int .u64 p_a, .int .u64 m]) hf (by kernel_rfl) (by kernel_rfl) (by kernel_rfl) (octets_Meet_ok  hz4) ?_
        clear hf; clear a; intro v w4 a hT hf; obtain ⟨rfl, hx⟩ := hT
        replace hE := hE.tr hx
        replace hf := Fr.keep (ks := [10, 26, 31]) (L' := [(10, .bool z2), (26, .bool true), (31, .bool z4)]) hf (by kernel_rfl)
        refine st tbOk 4 [8] (L' := [(8, .bool (z4 == z2))]) hf (by kernel_rfl) ?_
        clear hf; clear a; intro a hf
        refine wpList_nil ?_
        exact hK1 (z4 == z2) _ _ ⟨hE, hf.keep (ks := [8]) (by kernel_rfl)⟩ hS
      · replace hS := of_f hb2 hS
        replace hf := Fr.cast (L' := [(0, .int .u64 p_a), (1, .int .u64 m), (2, .int .u64 b), (3, .int .u64 n), (10, .bool z2), (26, .bool false)]) hf (by rw [hb2])
        refine st tbOk 9 [8] (L' := [(8, .bool false)]) hf (by kernel_rfl) ?_
        clear hf; clear a; intro a hf
        refine wpList_nil ?_
        exact hK1 false _ _ ⟨hE, hf.keep (ks := [8]) (by kernel_rfl)⟩ hS

end Dm
