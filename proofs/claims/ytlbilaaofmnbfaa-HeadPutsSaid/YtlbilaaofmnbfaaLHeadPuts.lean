/-
  The walk of the law HeadPuts; printed by a program of this repo. No condition.
-/
import Derived.Test.YtlbilaaofmnbfaaWT
import Derived.Test.YtlbilaaofmnbfaaW1
import Derived.Test.YtlbilaaofmnbfaaW2
namespace Dm
open Go Go.RowKit Go.Proofs

set_option maxHeartbeats 4000000 in
theorem law03_HeadPuts_ok {w : World} {F : SH} {kind : Int} {entry : Int} {segs : Int} {count : Int}  (hs : Sep w F (blks []) w F []) {r : Bool} (hS : law03_HeadPuts kind entry segs count = some r) :
    Calls Try.prog 3 [.int .i64 kind, .int .u64 entry, .int .u64 segs, .int .i64 count].toArray w (Gives (fun u w' => ∃ (F' : SH), u = .bool r ∧ Sep w F (blks []) w' F' [])) := by
  generalize (blks []) = R at hs ⊢
  unfold law03_HeadPuts at hS
  refine fn_ok (vs := [.int .i64 kind, .int .u64 entry, .int .u64 segs, .int .i64 count]) Try.func3 rfl 44 Try.ntmps3 (Nat.le_of_ble_eq_true rfl) ?_
  intro a hf
  replace hf := Fr.cast (L' := [(0, .int .i64 kind), (1, .int .u64 entry), (2, .int .u64 segs), (3, .int .i64 count)]) hf (by kernel_rfl)
  refine sq ?_
  refine reg ?_
  refine st tbOk 1 [0, 1, 2, 3] (L' := [(0, .int .i64 kind), (1, .int .u64 entry), (2, .int .u64 segs), (3, .int .i64 count)]) hf (by kernel_rfl) ?_
  clear hf; clear a; intro a hf
  refine wpList_nil ?_
  refine sq ?_
  refine reg ?_
  have hT := of_bd hS; clear hS; obtain ⟨z1, hz1, hS⟩ := hT
  refine clV ent13 (vs := []) (caps := []) hf (by kernel_rfl) (by kernel_rfl) (by kernel_rfl) (by kernel_rfl) (law03_awake_ok (hs.enter [] rfl rfl) hz1) ?_
  clear hf; clear a; intro v w1 a hT hf; obtain ⟨F1, rfl, hr⟩ := hT
  replace hs : Sep w F R w1 F1 [] := hs.back [] [] rfl rfl rfl rfl hr
  clear hr
  replace hf := Fr.keep (ks := [0, 1, 2, 3, 15]) (L' := [(0, .int .i64 kind), (1, .int .u64 entry), (2, .int .u64 segs), (3, .int .i64 count), (15, .bool z1)]) hf (by kernel_rfl)
  refine st tbOk 1 [0, 1, 2, 3, 9] (L' := [(0, .int .i64 kind), (1, .int .u64 entry), (2, .int .u64 segs), (3, .int .i64 count), (9, .bool z1)]) hf (by kernel_rfl) ?_
  clear hf; clear a; intro a hf
  refine wpList_nil ?_
  refine sq ?_
  refine sq ?_
  refine reg ?_
  refine st tbOk 2 [0, 1, 2, 3, 17] (L' := [(0, .int .i64 kind), (1, .int .u64 entry), (2, .int .u64 segs), (3, .int .i64 count), (17, .bool (!z1))]) hf (by kernel_rfl) ?_
  clear hf; clear a; intro a hf
  refine wpList_nil ?_
  refine cnd (b := !z1) hf (by kernel_rfl) (fun hb1 => ?_) (fun hb1 => ?_)
  · replace hS := of_t hb1 hS
    refine sq ?_
    refine reg ?_
    refine st tbOk 1 [8] (L' := [(8, .bool false)]) hf (by kernel_rfl) ?_
    clear hf; clear a; intro a hf
    refine wpList_nil ?_
    have hr := Option.some.inj hS; subst hr
    refine wp_ret ?_
    exact ret_ok hf (vs := [.bool false]) (by kernel_rfl) ⟨_, rfl, hs.sel [] rfl rfl⟩
  · replace hS := of_f hb1 hS
    refine wp_skip ?_
    refine sq ?_
    refine reg ?_
    refine st tbOk 5 [22] (L' := [(22, .agg #[.int .i64 kind, .int .u64 entry, .int .u64 segs, .int .i64 count])]) hf (by kernel_rfl) ?_
    clear hf; clear a; intro a hf
    refine al tbOk i25 [.int .i64 0, .int .u64 0, .int .u64 0, .int .i64 0] rfl (by kernel_rfl) hf (by kernel_rfl) (by kernel_rfl) ?_
    clear hf; clear a; intro w2 a hb hx _ hf
    replace hs : Sep w F R w2 F1 [.box w1.heap.size 25 [.int .i64 0, .int .u64 0, .int .u64 0, .int .i64 0]] := hs.newBox hb hx
    clear hb hx
    replace hf := Fr.keep (ks := [10, 22]) (L' := [(10, .pointer (some ⟨w1.heap.size, 0, none⟩)), (22, .agg #[.int .i64 kind, .int .u64 entry, .int .u64 segs, .int .i64 count])]) hf (by kernel_rfl)
    refine stB tbOk i25 (hs.bx 0 rfl) 0 [.int .i64 kind, .int .u64 entry, .int .u64 segs, .int .i64 count] [.int .i64 kind, .int .u64 entry, .int .u64 segs, .int .i64 count] (v := .agg #[.int .i64 kind, .int .u64 entry, .int .u64 segs, .int .i64 count]) rfl rfl (by kernel_rfl) (by kernel_rfl) (by kernel_rfl) (by kernel_rfl) hf (by kernel_rfl) (by kernel_rfl) (by kernel_rfl) ?_
    clear hf; clear a; intro w3 a hb hg _ hf
    replace hs : Sep w F R w3 F1 [.box w1.heap.size 25 [.int .i64 kind, .int .u64 entry, .int .u64 segs, .int .i64 count]] := hs.updBox 0 rfl hb hg
    clear hb hg
    replace hf := Fr.keep (ks := [10]) (L' := [(10, .pointer (some ⟨w1.heap.size, 0, none⟩))]) hf (by kernel_rfl)
    refine wpList_nil ?_
    refine sq ?_
    refine reg ?_
    refine ldC tbOk (T := 25) (hs.cbx 0 rfl) (LeH.refl _) 0 (.agg #[.int .i64 kind, .int .u64 entry, .int .u64 segs, .int .i64 count]) hf (by kernel_rfl) (by kernel_rfl) (by kernel_rfl) (by kernel_rfl) ?_
    clear hf; clear a; intro a hf
    replace hf := Fr.keep (ks := [10, 24]) (L' := [(10, .pointer (some ⟨w1.heap.size, 0, none⟩)), (24, .agg #[.int .i64 kind, .int .u64 entry, .int .u64 segs, .int .i64 count])]) hf (by kernel_rfl)
    have hT := of_bd hS; clear hS; obtain ⟨z2, hz2, hS⟩ := hT
    refine clV ent14 (vs := [.agg #[.int .i64 kind, .int .u64 entry, .int .u64 segs, .int .i64 count]]) (caps := []) hf (by kernel_rfl) (by kernel_rfl) (by kernel_rfl) (by kernel_rfl) (head_Put_ok (p_h := (kind, entry, segs, count)) (hs.enter [] rfl rfl) hz2) ?_
    clear hf; clear a; intro v w4 a hT hf; obtain ⟨ao1, cp1, F2, rfl, hr⟩ := hT
    replace hs : Sep w F R w4 F2 [.row 5 (tI .u8) (.slice ao1 z2.1.length cp1) z2.1, .box w1.heap.size 25 [.int .i64 kind, .int .u64 entry, .int .u64 segs, .int .i64 count]] := hs.back [] [0] rfl rfl rfl rfl hr
    clear hr
    replace hf := Fr.keep (ks := [10, 25]) (L' := [(10, .pointer (some ⟨w1.heap.size, 0, none⟩)), (25, .tuple #[.slice ao1 z2.1.length cp1, .int .i64 z2.2])]) hf (by kernel_rfl)
    refine st tbOk 5 [10, 11, 12] (L' := [(10, .pointer (some ⟨w1.heap.size, 0, none⟩)), (11, .slice ao1 z2.1.length cp1), (12, .int .i64 z2.2)]) hf (by kernel_rfl) ?_
    clear hf; clear a; intro a hf
    refine wpList_nil ?_
    refine sq ?_
    refine reg ?_
    refine ldC tbOk (T := 25) (hs.cbx 1 rfl) (LeH.refl _) 0 (.agg #[.int .i64 kind, .int .u64 entry, .int .u64 segs, .int .i64 count]) hf (by kernel_rfl) (by kernel_rfl) (by kernel_rfl) (by kernel_rfl) ?_
    clear hf; clear a; intro a hf
    replace hs : Sep w F R w4 F2 [.row 5 (tI .u8) (.slice ao1 z2.1.length cp1) z2.1] := hs.sel [0] rfl rfl
    replace hf := Fr.keep (ks := [11, 12, 29]) (L' := [(11, .slice ao1 z2.1.length cp1), (12, .int .i64 z2.2), (29, .agg #[.int .i64 kind, .int .u64 entry, .int .u64 segs, .int .i64 count])]) hf (by kernel_rfl)
    have hT := of_bd hS; clear hS; obtain ⟨z3, hz3, hS⟩ := hT
    refine clV ent16 (vs := [.agg #[.int .i64 kind, .int .u64 entry, .int .u64 segs, .int .i64 count]]) (caps := []) hf (by kernel_rfl) (by kernel_rfl) (by kernel_rfl) (by kernel_rfl) (law03_model_ok (p_h := (kind, entry, segs, count)) (hs.enter [] rfl rfl) hz3) ?_
    clear hf; clear a; intro v w5 a hT hf; obtain ⟨F3, rfl, hr⟩ := hT
    replace hs : Sep w F R w5 F3 [.row 5 (tI .u8) (.slice ao1 z2.1.length cp1) z2.1] := hs.back [] [0] rfl rfl rfl rfl hr
    clear hr
    replace hf := Fr.keep (ks := [11, 12, 30]) (L' := [(11, .slice ao1 z2.1.length cp1), (12, .int .i64 z2.2), (30, .agg #[.int .i64 z3.1, .int .u64 z3.2.1, .int .u64 z3.2.2.1, .int .i64 z3.2.2.2])]) hf (by kernel_rfl)
    have hT := of_bd hS; clear hS; obtain ⟨z4, hz4, hS⟩ := hT
    refine clV ent15 (vs := [.agg #[.int .i64 z3.1, .int .u64 z3.2.1, .int .u64 z3.2.2.1, .int .i64 z3.2.2.2]]) (caps := []) hf (by kernel_rfl) (by kernel_rfl) (by kernel_rfl) (by kernel_rfl) (ref03_Put_ok (p_h := z3) (hs.enter [] rfl rfl) hz4) ?_
    clear hf; clear a; intro v w6 a hT hf; obtain ⟨ao2, cp2, F4, rfl, hr⟩ := hT
    replace hs : Sep w F R w6 F4 [.row 5 (tI .u8) (.slice ao2 z4.1.length cp2) z4.1, .row 5 (tI .u8) (.slice ao1 z2.1.length cp1) z2.1] := hs.back [] [0] rfl rfl rfl rfl hr
    clear hr
    replace hf := Fr.keep (ks := [11, 12, 31]) (L' := [(11, .slice ao1 z2.1.length cp1), (12, .int .i64 z2.2), (31, .tuple #[.slice ao2 z4.1.length cp2, .int .i64 z4.2])]) hf (by kernel_rfl)
    refine st tbOk 5 [11, 12, 13, 14] (L' := [(11, .slice ao1 z2.1.length cp1), (12, .int .i64 z2.2), (13, .slice ao2 z4.1.length cp2), (14, .int .i64 z4.2)]) hf (by kernel_rfl) ?_
    clear hf; clear a; intro a hf
    refine wpList_nil ?_
    refine sq ?_
    refine ctj (fun (s1 : Bool) (a : Act) (w' : World) => ∃ (F5 : SH), Sep w F R w' F5 [] ∧ Fr 44 [(8, .bool s1)] a) hS ?_ ?_
    · clear hS hf hs; clear a; intro s1 a w7 hM hS
      obtain ⟨F5, hs, hf⟩ := hM
      have hr := Option.some.inj hS; subst hr
      refine wp_ret ?_
      exact ret_ok hf (vs := [.bool s1]) (by kernel_rfl) ⟨_, rfl, hs.sel [] rfl rfl⟩
    · clear hS; intro KK1 k1 hK1 hS
      refine reg ?_
      refine st tbOk 1 [12, 13, 14, 34] (L' := [(12, .int .i64 z2.2), (13, .slice ao2 z4.1.length cp2), (14, .int .i64 z4.2), (34, .slice ao1 z2.1.length cp1)]) hf (by kernel_rfl) ?_
      clear hf; clear a; intro a hf
      refine b2sR tbOk u26 u5 u9 (hs.raW 1 rfl) hf (by kernel_rfl) (by kernel_rfl) (by kernel_rfl) ?_
      clear hf; clear a; intro a hf
      replace hs : Sep w F R w6 F4 [.row 5 (tI .u8) (.slice ao2 z4.1.length cp2) z4.1] := hs.sel [0] rfl rfl
      replace hf := Fr.keep (ks := [12, 13, 14, 35]) (L' := [(12, .int .i64 z2.2), (13, .slice ao2 z4.1.length cp2), (14, .int .i64 z4.2), (35, strV (toStr z2.1))]) hf (by kernel_rfl)
      refine st tbOk 1 [12, 14, 35, 36] (L' := [(12, .int .i64 z2.2), (14, .int .i64 z4.2), (35, strV (toStr z2.1)), (36, .slice ao2 z4.1.length cp2)]) hf (by kernel_rfl) ?_
      clear hf; clear a; intro a hf
      refine b2sR tbOk u26 u5 u9 (hs.raW 0 rfl) hf (by kernel_rfl) (by kernel_rfl) (by kernel_rfl) ?_
      clear hf; clear a; intro a hf
      replace hs : Sep w F R w6 F4 [] := hs.sel [] rfl rfl
      replace hf := Fr.keep (ks := [12, 14, 35, 37]) (L' := [(12, .int .i64 z2.2), (14, .int .i64 z4.2), (35, strV (toStr z2.1)), (37, strV (toStr z4.1))]) hf (by kernel_rfl)
      refine st tbOk 2 [12, 14, 39] (L' := [(12, .int .i64 z2.2), (14, .int .i64 z4.2), (39, .bool ((toStr z2.1) == (toStr z4.1)))]) hf (by kernel_rfl) ?_
      clear hf; clear a; intro a hf
      rcases Bool.eq_false_or_eq_true ((toStr z2.1) == (toStr z4.1)) with hb2 | hb2
      · replace hS := of_t hb2 hS
        replace hf := Fr.cast (L' := [(12, .int .i64 z2.2), (14, .int .i64 z4.2), (39, .bool true)]) hf (by rw [hb2])
        refine st tbOk 5 [8] (L' := [(8, .bool (z2.2 == z4.2))]) hf (by kernel_rfl) ?_
        clear hf; clear a; intro a hf
        refine wpList_nil ?_
        exact hK1 (z2.2 == z4.2) _ _ ⟨_, hs.sel [] rfl rfl, hf.keep (ks := [8]) (by kernel_rfl)⟩ hS
      · replace hS := of_f hb2 hS
        replace hf := Fr.cast (L' := [(12, .int .i64 z2.2), (14, .int .i64 z4.2), (39, .bool false)]) hf (by rw [hb2])
        refine st tbOk 5 [8] (L' := [(8, .bool false)]) hf (by kernel_rfl) ?_
        clear hf; clear a; intro a hf
        refine wpList_nil ?_
        exact hK1 false _ _ ⟨_, hs.sel [] rfl rfl, hf.keep (ks := [8]) (by kernel_rfl)⟩ hS

end Dm
