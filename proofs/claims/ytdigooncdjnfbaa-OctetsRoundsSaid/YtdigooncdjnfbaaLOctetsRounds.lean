/-
  The walk of the law OctetsRounds; printed by a program of this repo. No condition.
-/
import Derived.Test.YtdigooncdjnfbaaW
namespace Dm
open Go Go.RowKit Go.Proofs

theorem law01_OctetsRounds_ok {w : World} {p_x : Int} {p_a : Int}  {r : Bool} (hS : law01_OctetsRounds p_x p_a = some r) :
    Calls Try.prog 6 #[.int .u64 p_x, .int .u64 p_a] w (Gives (fun u w' => u = .bool r ∧ Ext w w')) := by
  unfold law01_OctetsRounds at hS
  refine fn_ok (vs := [.int .u64 p_x, .int .u64 p_a]) Try.func6 rfl 59 Try.ntmps6 (Nat.le_of_ble_eq_true rfl) ?_
  intro a hf
  replace hf := Fr.cast (L' := [(0, .int .u64 p_x), (1, .int .u64 p_a)]) hf (by kernel_rfl)
  have hE := Ext.rfl' w
  refine sq ?_
  refine reg ?_
  refine st tbOk 1 [0, 1] (L' := [(0, .int .u64 p_x), (1, .int .u64 p_a)]) hf (by kernel_rfl) ?_
  clear hf; clear a; intro a hf
  refine wpList_nil ?_
  refine sq ?_
  refine reg ?_
  have hT := of_bd hS; clear hS; obtain ⟨z1, hz1, hS⟩ := hT
  refine cl ent11 (vs := []) hf (by kernel_rfl) (by kernel_rfl) (by kernel_rfl) (law01_awake_ok  hz1) ?_
  clear hf; clear a; intro v w1 a hT hf; obtain ⟨rfl, hx⟩ := hT
  replace hE := hE.tr hx
  replace hf := Fr.keep (ks := [0, 1, 14]) (L' := [(0, .int .u64 p_x), (1, .int .u64 p_a), (14, .bool z1)]) hf (by kernel_rfl)
  refine st tbOk 1 [0, 1, 5] (L' := [(0, .int .u64 p_x), (1, .int .u64 p_a), (5, .bool z1)]) hf (by kernel_rfl) ?_
  clear hf; clear a; intro a hf
  refine wpList_nil ?_
  refine sq ?_
  refine sq ?_
  refine reg ?_
  refine st tbOk 2 [0, 1, 16] (L' := [(0, .int .u64 p_x), (1, .int .u64 p_a), (16, .bool (!z1))]) hf (by kernel_rfl) ?_
  clear hf; clear a; intro a hf
  refine wpList_nil ?_
  refine cnd (b := !z1) hf (by kernel_rfl) (fun hb1 => ?_) (fun hb1 => ?_)
  · replace hS := of_t hb1 hS
    refine sq ?_
    refine reg ?_
    refine st tbOk 1 [4] (L' := [(4, .bool false)]) hf (by kernel_rfl) ?_
    clear hf; clear a; intro a hf
    refine wpList_nil ?_
    have hr := Option.some.inj hS; subst hr
    refine wp_ret ?_
    exact ret_ok hf (vs := [.bool false]) (by kernel_rfl) ⟨rfl, hE⟩
  · replace hS := of_f hb1 hS
    refine wp_skip ?_
    refine sq ?_
    refine reg ?_
    refine st tbOk 2 [0, 1, 18, 19] (L' := [(0, .int .u64 p_x), (1, .int .u64 p_a), (18, .int .u64 p_x), (19, .int .u64 p_a)]) hf (by kernel_rfl) ?_
    clear hf; clear a; intro a hf
    have hT := of_bd hS; clear hS; obtain ⟨z2, hz2, hS⟩ := hT
    refine cl ent18 (vs := [.int .u64 p_x, .int .u64 p_a]) hf (by kernel_rfl) (by kernel_rfl) (by kernel_rfl) (octets_Up_ok  hz2) ?_
    clear hf; clear a; intro v w2 a hT hf; obtain ⟨rfl, hx⟩ := hT
    replace hE := hE.tr hx
    replace hf := Fr.keep (ks := [0, 1, 20]) (L' := [(0, .int .u64 p_x), (1, .int .u64 p_a), (20, .tuple #[.int .u64 z2.1, .int .i64 z2.2])]) hf (by kernel_rfl)
    refine st tbOk 5 [0, 1, 6, 7] (L' := [(0, .int .u64 p_x), (1, .int .u64 p_a), (6, .int .u64 z2.1), (7, .int .i64 z2.2)]) hf (by kernel_rfl) ?_
    clear hf; clear a; intro a hf
    refine wpList_nil ?_
    refine sq ?_
    refine reg ?_
    refine st tbOk 2 [0, 1, 6, 7, 24, 25] (L' := [(0, .int .u64 p_x), (1, .int .u64 p_a), (6, .int .u64 z2.1), (7, .int .i64 z2.2), (24, .int .u64 p_x), (25, .int .u64 p_a)]) hf (by kernel_rfl) ?_
    clear hf; clear a; intro a hf
    have hT := of_bd hS; clear hS; obtain ⟨z3, hz3, hS⟩ := hT
    refine cl ent19 (vs := [.int .u64 p_x, .int .u64 p_a]) hf (by kernel_rfl) (by kernel_rfl) (by kernel_rfl) (ref01_Up_ok  hz3) ?_
    clear hf; clear a; intro v w3 a hT hf; obtain ⟨rfl, hx⟩ := hT
    replace hE := hE.tr hx
    replace hf := Fr.keep (ks := [0, 1, 6, 7, 26]) (L' := [(0, .int .u64 p_x), (1, .int .u64 p_a), (6, .int .u64 z2.1), (7, .int .i64 z2.2), (26, .tuple #[.int .u64 z3.1, .int .i64 z3.2])]) hf (by kernel_rfl)
    refine st tbOk 5 [0, 1, 6, 7, 8, 9] (L' := [(0, .int .u64 p_x), (1, .int .u64 p_a), (6, .int .u64 z2.1), (7, .int .i64 z2.2), (8, .int .u64 z3.1), (9, .int .i64 z3.2)]) hf (by kernel_rfl) ?_
    clear hf; clear a; intro a hf
    refine wpList_nil ?_
    refine sq ?_
    refine reg ?_
    refine st tbOk 2 [0, 1, 6, 7, 8, 9, 30, 31] (L' := [(0, .int .u64 p_x), (1, .int .u64 p_a), (6, .int .u64 z2.1), (7, .int .i64 z2.2), (8, .int .u64 z3.1), (9, .int .i64 z3.2), (30, .int .u64 p_x), (31, .int .u64 p_a)]) hf (by kernel_rfl) ?_
    clear hf; clear a; intro a hf
    have hT := of_bd hS; clear hS; obtain ⟨z4, hz4, hS⟩ := hT
    refine cl ent20 (vs := [.int .u64 p_x, .int .u64 p_a]) hf (by kernel_rfl) (by kernel_rfl) (by kernel_rfl) (octets_Down_ok  hz4) ?_
    clear hf; clear a; intro v w4 a hT hf; obtain ⟨rfl, hx⟩ := hT
    replace hE := hE.tr hx
    replace hf := Fr.keep (ks := [0, 1, 6, 7, 8, 9, 32]) (L' := [(0, .int .u64 p_x), (1, .int .u64 p_a), (6, .int .u64 z2.1), (7, .int .i64 z2.2), (8, .int .u64 z3.1), (9, .int .i64 z3.2), (32, .tuple #[.int .u64 z4.1, .int .i64 z4.2])]) hf (by kernel_rfl)
    refine st tbOk 5 [0, 1, 6, 7, 8, 9, 10, 11] (L' := [(0, .int .u64 p_x), (1, .int .u64 p_a), (6, .int .u64 z2.1), (7, .int .i64 z2.2), (8, .int .u64 z3.1), (9, .int .i64 z3.2), (10, .int .u64 z4.1), (11, .int .i64 z4.2)]) hf (by kernel_rfl) ?_
    clear hf; clear a; intro a hf
    refine wpList_nil ?_
    refine sq ?_
    refine reg ?_
    refine st tbOk 2 [6, 7, 8, 9, 10, 11, 36, 37] (L' := [(6, .int .u64 z2.1), (7, .int .i64 z2.2), (8, .int .u64 z3.1), (9, .int .i64 z3.2), (10, .int .u64 z4.1), (11, .int .i64 z4.2), (36, .int .u64 p_x), (37, .int .u64 p_a)]) hf (by kernel_rfl) ?_
    clear hf; clear a; intro a hf
    have hT := of_bd hS; clear hS; obtain ⟨z5, hz5, hS⟩ := hT
    refine cl ent21 (vs := [.int .u64 p_x, .int .u64 p_a]) hf (by kernel_rfl) (by kernel_rfl) (by kernel_rfl) (ref01_Down_ok  hz5) ?_
    clear hf; clear a; intro v w5 a hT hf; obtain ⟨rfl, hx⟩ := hT
    replace hE := hE.tr hx
    replace hf := Fr.keep (ks := [6, 7, 8, 9, 10, 11, 38]) (L' := [(6, .int .u64 z2.1), (7, .int .i64 z2.2), (8, .int .u64 z3.1), (9, .int .i64 z3.2), (10, .int .u64 z4.1), (11, .int .i64 z4.2), (38, .tuple #[.int .u64 z5.1, .int .i64 z5.2])]) hf (by kernel_rfl)
    refine st tbOk 5 [6, 7, 8, 9, 10, 11, 12, 13] (L' := [(6, .int .u64 z2.1), (7, .int .i64 z2.2), (8, .int .u64 z3.1), (9, .int .i64 z3.2), (10, .int .u64 z4.1), (11, .int .i64 z4.2), (12, .int .u64 z5.1), (13, .int .i64 z5.2)]) hf (by kernel_rfl) ?_
    clear hf; clear a; intro a hf
    refine wpList_nil ?_
    refine sq ?_
    refine ctj (fun (s1 : Bool) (a : Act) (w' : World) => Ext w w' ∧ Fr 59 [(4, .bool s1)] a) hS ?_ ?_
    · clear hS hf; clear a; clear hE; intro s1 a w6 hM hS
      obtain ⟨hE, hf⟩ := hM
      have hr := Option.some.inj hS; subst hr
      refine wp_ret ?_
      exact ret_ok hf (vs := [.bool s1]) (by kernel_rfl) ⟨rfl, hE⟩
    · clear hS; intro KK1 k1 hK1 hS
      refine reg ?_
      refine st tbOk 4 [7, 9, 10, 11, 12, 13, 44] (L' := [(7, .int .i64 z2.2), (9, .int .i64 z3.2), (10, .int .u64 z4.1), (11, .int .i64 z4.2), (12, .int .u64 z5.1), (13, .int .i64 z5.2), (44, .bool (z2.1 == z3.1))]) hf (by kernel_rfl) ?_
      clear hf; clear a; intro a hf
      rcases Bool.eq_false_or_eq_true (z2.1 == z3.1) with hb2 | hb2
      · replace hS := of_t hb2 hS
        replace hf := Fr.cast (L' := [(7, .int .i64 z2.2), (9, .int .i64 z3.2), (10, .int .u64 z4.1), (11, .int .i64 z4.2), (12, .int .u64 z5.1), (13, .int .i64 z5.2), (44, .bool true)]) hf (by rw [hb2])
        refine st tbOk 5 [10, 11, 12, 13, 49] (L' := [(10, .int .u64 z4.1), (11, .int .i64 z4.2), (12, .int .u64 z5.1), (13, .int .i64 z5.2), (49, .bool (z2.2 == z3.2))]) hf (by kernel_rfl) ?_
        clear hf; clear a; intro a hf
        rcases Bool.eq_false_or_eq_true (z2.2 == z3.2) with hb3 | hb3
        · replace hS := of_t hb3 hS
          replace hf := Fr.cast (L' := [(10, .int .u64 z4.1), (11, .int .i64 z4.2), (12, .int .u64 z5.1), (13, .int .i64 z5.2), (49, .bool true)]) hf (by rw [hb3])
          refine st tbOk 5 [11, 13, 54] (L' := [(11, .int .i64 z4.2), (13, .int .i64 z5.2), (54, .bool (z4.1 == z5.1))]) hf (by kernel_rfl) ?_
          clear hf; clear a; intro a hf
          rcases Bool.eq_false_or_eq_true (z4.1 == z5.1) with hb4 | hb4
          · replace hS := of_t hb4 hS
            replace hf := Fr.cast (L' := [(11, .int .i64 z4.2), (13, .int .i64 z5.2), (54, .bool true)]) hf (by rw [hb4])
            refine st tbOk 5 [4] (L' := [(4, .bool (z4.2 == z5.2))]) hf (by kernel_rfl) ?_
            clear hf; clear a; intro a hf
            refine wpList_nil ?_
            exact hK1 (z4.2 == z5.2) _ _ ⟨hE, hf.keep (ks := [4]) (by kernel_rfl)⟩ hS
          · replace hS := of_f hb4 hS
            replace hf := Fr.cast (L' := [(11, .int .i64 z4.2), (13, .int .i64 z5.2), (54, .bool false)]) hf (by rw [hb4])
            refine st tbOk 5 [4] (L' := [(4, .bool false)]) hf (by kernel_rfl) ?_
            clear hf; clear a; intro a hf
            refine wpList_nil ?_
            exact hK1 false _ _ ⟨hE, hf.keep (ks := [4]) (by kernel_rfl)⟩ hS
        · replace hS := of_f hb3 hS
          replace hf := Fr.cast (L' := [(10, .int .u64 z4.1), (11, .int .i64 z4.2), (12, .int .u64 z5.1), (13, .int .i64 z5.2), (49, .bool false)]) hf (by rw [hb3])
          refine st tbOk 10 [4] (L' := [(4, .bool false)]) hf (by kernel_rfl) ?_
          clear hf; clear a; intro a hf
          refine wpList_nil ?_
          exact hK1 false _ _ ⟨hE, hf.keep (ks := [4]) (by kernel_rfl)⟩ hS
      · replace hS := of_f hb2 hS
        replace hf := Fr.cast (L' := [(7, .int .i64 z2.2), (9, .int .i64 z3.2), (10, .int .u64 z4.1), (11, .int .i64 z4.2), (12, .int .u64 z5.1), (13, .int .i64 z5.2), (44, .bool false)]) hf (by rw [hb2])
        refine st tbOk 15 [4] (L' := [(4, .bool false)]) hf (by kernel_rfl) ?_
        clear hf; clear a; intro a hf
        refine wpList_nil ?_
        exact hK1 false _ _ ⟨hE, hf.keep (ks := [4]) (by kernel_rfl)⟩ hS

end Dm
