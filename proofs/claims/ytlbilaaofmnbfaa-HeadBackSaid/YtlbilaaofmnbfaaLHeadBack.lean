/-
  The walk of the law HeadBack; printed by a program of this repo. No condition.
-/
import Derived.Test.YtlbilaaofmnbfaaWT
import Derived.Test.YtlbilaaofmnbfaaW1
namespace Dm
open Go Go.RowKit Go.Proofs

set_option maxHeartbeats 4000000 in
theorem law03_HeadBack_ok {w : World} {F : SH} {kind : Int} {entry : Int} {segs : Int} {count : Int} {more : List Int} {ao1 : Option Addr} {cp1 : Nat} (hs : Sep w F (blks [.ro (tI .u8) (.slice ao1 more.length cp1) more]) w F [.ro (tI .u8) (.slice ao1 more.length cp1) more]) {r : Bool} (hS : law03_HeadBack kind entry segs count more = some r) :
    Calls Try.prog 5 [.int .i64 kind, .int .u64 entry, .int .u64 segs, .int .i64 count, .slice ao1 more.length cp1].toArray w (Gives (fun u w' => ∃ (F' : SH), u = .bool r ∧ Sep w F (blks [.ro (tI .u8) (.slice ao1 more.length cp1) more]) w' F' [])) := by
  generalize (blks [.ro (tI .u8) (.slice ao1 more.length cp1) more]) = R at hs ⊢
  unfold law03_HeadBack at hS
  refine fn_ok (vs := [.int .i64 kind, .int .u64 entry, .int .u64 segs, .int .i64 count, .slice ao1 more.length cp1]) Try.func5 rfl 90 Try.ntmps5 (Nat.le_of_ble_eq_true rfl) ?_
  intro a hf
  replace hf := Fr.cast (L' := [(0, .int .i64 kind), (1, .int .u64 entry), (2, .int .u64 segs), (3, .int .i64 count), (4, .slice ao1 more.length cp1)]) hf (by kernel_rfl)
  refine sq ?_
  refine reg ?_
  refine st tbOk 1 [0, 1, 2, 3, 4] (L' := [(0, .int .i64 kind), (1, .int .u64 entry), (2, .int .u64 segs), (3, .int .i64 count), (4, .slice ao1 more.length cp1)]) hf (by kernel_rfl) ?_
  clear hf; clear a; intro a hf
  refine wpList_nil ?_
  refine sq ?_
  refine reg ?_
  have hT := of_bd hS; clear hS; obtain ⟨z1, hz1, hS⟩ := hT
  refine clV ent13 (vs := []) (caps := []) hf (by kernel_rfl) (by kernel_rfl) (by kernel_rfl) (by kernel_rfl) (law03_awake_ok (hs.enter [] rfl rfl) hz1) ?_
  clear hf; clear a; intro v w1 a hT hf; obtain ⟨F1, rfl, hr⟩ := hT
  replace hs : Sep w F R w1 F1 [.ro (tI .u8) (.slice ao1 more.length cp1) more] := hs.back [] [0] rfl rfl rfl rfl hr
  clear hr
  replace hf := Fr.keep (ks := [0, 1, 2, 3, 4, 21]) (L' := [(0, .int .i64 kind), (1, .int .u64 entry), (2, .int .u64 segs), (3, .int .i64 count), (4, .slice ao1 more.length cp1), (21, .bool z1)]) hf (by kernel_rfl)
  refine st tbOk 1 [0, 1, 2, 3, 4, 11] (L' := [(0, .int .i64 kind), (1, .int .u64 entry), (2, .int .u64 segs), (3, .int .i64 count), (4, .slice ao1 more.length cp1), (11, .bool z1)]) hf (by kernel_rfl) ?_
  clear hf; clear a; intro a hf
  refine wpList_nil ?_
  refine sq ?_
  refine sq ?_
  refine reg ?_
  refine st tbOk 2 [0, 1, 2, 3, 4, 23] (L' := [(0, .int .i64 kind), (1, .int .u64 entry), (2, .int .u64 segs), (3, .int .i64 count), (4, .slice ao1 more.length cp1), (23, .bool (!z1))]) hf (by kernel_rfl) ?_
  clear hf; clear a; intro a hf
  refine wpList_nil ?_
  refine cnd (b := !z1) hf (by kernel_rfl) (fun hb1 => ?_) (fun hb1 => ?_)
  · replace hS := of_t hb1 hS
    refine sq ?_
    refine reg ?_
    refine st tbOk 1 [10] (L' := [(10, .bool false)]) hf (by kernel_rfl) ?_
    clear hf; clear a; intro a hf
    refine wpList_nil ?_
    have hr := Option.some.inj hS; subst hr
    refine wp_ret ?_
    exact ret_ok hf (vs := [.bool false]) (by kernel_rfl) ⟨_, rfl, hs.sel [] rfl rfl⟩
  · replace hS := of_f hb1 hS
    refine wp_skip ?_
    refine sq ?_
    refine sq ?_
    refine reg ?_
    refine st tbOk 3 [0, 1, 2, 3, 4, 26] (L' := [(0, .int .i64 kind), (1, .int .u64 entry), (2, .int .u64 segs), (3, .int .i64 count), (4, .slice ao1 more.length cp1), (26, .bool (decide (((more.length : Nat) : Int) > 2000)))]) hf (by kernel_rfl) ?_
    clear hf; clear a; intro a hf
    refine wpList_nil ?_
    refine cnd (b := decide (((more.length : Nat) : Int) > 2000)) hf (by kernel_rfl) (fun hb2 => ?_) (fun hb2 => ?_)
    · replace hS := of_t hb2 hS
      refine sq ?_
      refine reg ?_
      refine st tbOk 1 [10] (L' := [(10, .bool true)]) hf (by kernel_rfl) ?_
      clear hf; clear a; intro a hf
      refine wpList_nil ?_
      have hr := Option.some.inj hS; subst hr
      refine wp_ret ?_
      exact ret_ok hf (vs := [.bool true]) (by kernel_rfl) ⟨_, rfl, hs.sel [] rfl rfl⟩
    · replace hS := of_f hb2 hS
      refine wp_skip ?_
      refine sq ?_
      refine reg ?_
      refine st tbOk 5 [4, 31] (L' := [(4, .slice ao1 more.length cp1), (31, .agg #[.int .i64 kind, .int .u64 entry, .int .u64 segs, .int .i64 count])]) hf (by kernel_rfl) ?_
      clear hf; clear a; intro a hf
      refine al tbOk i25 [.int .i64 0, .int .u64 0, .int .u64 0, .int .i64 0] rfl (by kernel_rfl) hf (by kernel_rfl) (by kernel_rfl) ?_
      clear hf; clear a; intro w2 a hb hx _ hf
      replace hs : Sep w F R w2 F1 [.box w1.heap.size 25 [.int .i64 0, .int .u64 0, .int .u64 0, .int .i64 0], .ro (tI .u8) (.slice ao1 more.length cp1) more] := hs.newBox hb hx
      clear hb hx
      replace hf := Fr.keep (ks := [4, 12, 31]) (L' := [(4, .slice ao1 more.length cp1), (12, .pointer (some ⟨w1.heap.size, 0, none⟩)), (31, .agg #[.int .i64 kind, .int .u64 entry, .int .u64 segs, .int .i64 count])]) hf (by kernel_rfl)
      refine stB tbOk i25 (hs.bx 0 rfl) 0 [.int .i64 kind, .int .u64 entry, .int .u64 segs, .int .i64 count] [.int .i64 kind, .int .u64 entry, .int .u64 segs, .int .i64 count] (v := .agg #[.int .i64 kind, .int .u64 entry, .int .u64 segs, .int .i64 count]) rfl rfl (by kernel_rfl) (by kernel_rfl) (by kernel_rfl) (by kernel_rfl) hf (by kernel_rfl) (by kernel_rfl) (by kernel_rfl) ?_
      clear hf; clear a; intro w3 a hb hg _ hf
      replace hs : Sep w F R w3 F1 [.box w1.heap.size 25 [.int .i64 kind, .int .u64 entry, .int .u64 segs, .int .i64 count], .ro (tI .u8) (.slice ao1 more.length cp1) more] := hs.updBox 0 rfl hb hg
      clear hb hg
      replace hf := Fr.keep (ks := [4, 12]) (L' := [(4, .slice ao1 more.length cp1), (12, .pointer (some ⟨w1.heap.size, 0, none⟩))]) hf (by kernel_rfl)
      refine wpList_nil ?_
      refine sq ?_
      refine reg ?_
      refine ldC tbOk (T := 25) (hs.cbx 0 rfl) (LeH.refl _) 0 (.agg #[.int .i64 kind, .int .u64 entry, .int .u64 segs, .int .i64 count]) hf (by kernel_rfl) (by kernel_rfl) (by kernel_rfl) (by kernel_rfl) ?_
      clear hf; clear a; intro a hf
      replace hf := Fr.keep (ks := [4, 12, 33]) (L' := [(4, .slice ao1 more.length cp1), (12, .pointer (some ⟨w1.heap.size, 0, none⟩)), (33, .agg #[.int .i64 kind, .int .u64 entry, .int .u64 segs, .int .i64 count])]) hf (by kernel_rfl)
      have hT := of_bd hS; clear hS; obtain ⟨z2, hz2, hS⟩ := hT
      refine clV ent14 (vs := [.agg #[.int .i64 kind, .int .u64 entry, .int .u64 segs, .int .i64 count]]) (caps := []) hf (by kernel_rfl) (by kernel_rfl) (by kernel_rfl) (by kernel_rfl) (head_Put_ok (p_h := (kind, entry, segs, count)) (hs.enter [] rfl rfl) hz2) ?_
      clear hf; clear a; intro v w4 a hT hf; obtain ⟨ao2, cp2, F2, rfl, hr⟩ := hT
      replace hs : Sep w F R w4 F2 [.row 5 (tI .u8) (.slice ao2 z2.1.length cp2) z2.1, .box w1.heap.size 25 [.int .i64 kind, .int .u64 entry, .int .u64 segs, .int .i64 count], .ro (tI .u8) (.slice ao1 more.length cp1) more] := hs.back [] [0, 1] rfl rfl rfl rfl hr
      clear hr
      replace hf := Fr.keep (ks := [4, 12, 34]) (L' := [(4, .slice ao1 more.length cp1), (12, .pointer (some ⟨w1.heap.size, 0, none⟩)), (34, .tuple #[.slice ao2 z2.1.length cp2, .int .i64 z2.2])]) hf (by kernel_rfl)
      refine st tbOk 5 [4, 12, 13, 14] (L' := [(4, .slice ao1 more.length cp1), (12, .pointer (some ⟨w1.heap.size, 0, none⟩)), (13, .slice ao2 z2.1.length cp2), (14, .int .i64 z2.2)]) hf (by kernel_rfl) ?_
      clear hf; clear a; intro a hf
      refine wpList_nil ?_
      refine sq ?_
      refine sq ?_
      refine reg ?_
      refine st tbOk 2 [4, 12, 13, 38] (L' := [(4, .slice ao1 more.length cp1), (12, .pointer (some ⟨w1.heap.size, 0, none⟩)), (13, .slice ao2 z2.1.length cp2), (38, .bool (z2.2 != 0))]) hf (by kernel_rfl) ?_
      clear hf; clear a; intro a hf
      refine wpList_nil ?_
      refine cnd (b := z2.2 != 0) hf (by kernel_rfl) (fun hb3 => ?_) (fun hb3 => ?_)
      · replace hS := of_t hb3 hS
        refine sq ?_
        refine reg ?_
        refine st tbOk 4 [10] (L' := [(10, .bool (((z2.1.length : Nat) : Int) == 0))]) hf (by kernel_rfl) ?_
        clear hf; clear a; intro a hf
        refine wpList_nil ?_
        have hr := Option.some.inj hS; subst hr
        refine wp_ret ?_
        exact ret_ok hf (vs := [.bool (((z2.1.length : Nat) : Int) == 0)]) (by kernel_rfl) ⟨_, rfl, hs.sel [] rfl rfl⟩
      · replace hS := of_f hb3 hS
        refine wp_skip ?_
        refine sq ?_
        refine reg ?_
        refine st tbOk 2 [4, 12, 43, 44] (L' := [(4, .slice ao1 more.length cp1), (12, .pointer (some ⟨w1.heap.size, 0, none⟩)), (43, .slice ao2 z2.1.length cp2), (44, .slice ao1 more.length cp1)]) hf (by kernel_rfl) ?_
        clear hf; clear a; intro a hf
        have hT := of_gd hS; clear hS; obtain ⟨hc1, hS⟩ := hT
        refine apR tbOk u26 i5 rfl rfl rfl rfl hs.le (hs.own 0 rfl) (hs.raR 2 rfl) hc1 hf (by kernel_rfl) (by kernel_rfl) (by kernel_rfl) (by kernel_rfl) ?_
        clear hf; clear a; intro ao3 cp3 w5 a ho hg hl hf
        replace hs : Sep w F R w5 F2 [.row 5 (tI .u8) (.slice ao3 (z2.1 ++ more).length cp3) (z2.1 ++ more), .box w1.heap.size 25 [.int .i64 kind, .int .u64 entry, .int .u64 segs, .int .i64 count], .ro (tI .u8) (.slice ao1 more.length cp1) more] := hs.updRow 0 rfl ho hg hl
        clear ho hg hl
        replace hf := Fr.keep (ks := [4, 12, 45]) (L' := [(4, .slice ao1 more.length cp1), (12, .pointer (some ⟨w1.heap.size, 0, none⟩)), (45, .slice ao3 (z2.1 ++ more).length cp3)]) hf (by kernel_rfl)
        have hT := of_bd hS; clear hS; obtain ⟨z3, hz3, hS⟩ := hT
        refine clV ent17 (vs := [.slice ao3 (z2.1 ++ more).length cp3]) (caps := []) hf (by kernel_rfl) (by kernel_rfl) (by kernel_rfl) (by kernel_rfl) (head_Get_ok (b := (z2.1 ++ more)) (hs.lend [0] [] rfl rfl rfl rfl rfl) hz3) ?_
        clear hf; clear a; intro v w6 a hT hf; obtain ⟨F3, rfl, hr⟩ := hT
        replace hs : Sep w F R w6 F2 [.row 5 (tI .u8) (.slice ao3 (z2.1 ++ more).length cp3) (z2.1 ++ more), .box w1.heap.size 25 [.int .i64 kind, .int .u64 entry, .int .u64 segs, .int .i64 count], .ro (tI .u8) (.slice ao1 more.length cp1) more] := hs.backL [0] [] [0, 1, 2] rfl rfl rfl rfl rfl rfl hr trivial
        clear hr
        replace hs : Sep w F R w6 F2 [.box w1.heap.size 25 [.int .i64 kind, .int .u64 entry, .int .u64 segs, .int .i64 count], .ro (tI .u8) (.slice ao1 more.length cp1) more] := hs.sel [1, 2] rfl rfl
        replace hf := Fr.keep (ks := [4, 12, 46]) (L' := [(4, .slice ao1 more.length cp1), (12, .pointer (some ⟨w1.heap.size, 0, none⟩)), (46, .tuple #[.agg #[.int .i64 z3.1.1, .int .u64 z3.1.2.1, .int .u64 z3.1.2.2.1, .int .i64 z3.1.2.2.2], .int .i64 z3.2])]) hf (by kernel_rfl)
        refine st tbOk 3 [4, 12, 47, 48] (L' := [(4, .slice ao1 more.length cp1), (12, .pointer (some ⟨w1.heap.size, 0, none⟩)), (47, .agg #[.int .i64 z3.1.1, .int .u64 z3.1.2.1, .int .u64 z3.1.2.2.1, .int .i64 z3.1.2.2.2]), (48, .int .i64 z3.2)]) hf (by kernel_rfl) ?_
        clear hf; clear a; intro a hf
        refine al tbOk i25 [.int .i64 0, .int .u64 0, .int .u64 0, .int .i64 0] rfl (by kernel_rfl) hf (by kernel_rfl) (by kernel_rfl) ?_
        clear hf; clear a; intro w7 a hb hx _ hf
        replace hs : Sep w F R w7 F2 [.box w6.heap.size 25 [.int .i64 0, .int .u64 0, .int .u64 0, .int .i64 0], .box w1.heap.size 25 [.int .i64 kind, .int .u64 entry, .int .u64 segs, .int .i64 count], .ro (tI .u8) (.slice ao1 more.length cp1) more] := hs.newBox hb hx
        clear hb hx
        replace hf := Fr.keep (ks := [4, 12, 15, 47, 48]) (L' := [(4, .slice ao1 more.length cp1), (12, .pointer (some ⟨w1.heap.size, 0, none⟩)), (15, .pointer (some ⟨w6.heap.size, 0, none⟩)), (47, .agg #[.int .i64 z3.1.1, .int .u64 z3.1.2.1, .int .u64 z3.1.2.2.1, .int .i64 z3.1.2.2.2]), (48, .int .i64 z3.2)]) hf (by kernel_rfl)
        refine stB tbOk i25 (hs.bx 0 rfl) 0 [.int .i64 z3.1.1, .int .u64 z3.1.2.1, .int .u64 z3.1.2.2.1, .int .i64 z3.1.2.2.2] [.int .i64 z3.1.1, .int .u64 z3.1.2.1, .int .u64 z3.1.2.2.1, .int .i64 z3.1.2.2.2] (v := .agg #[.int .i64 z3.1.1, .int .u64 z3.1.2.1, .int .u64 z3.1.2.2.1, .int .i64 z3.1.2.2.2]) rfl rfl (by kernel_rfl) (by kernel_rfl) (by kernel_rfl) (by kernel_rfl) hf (by kernel_rfl) (by kernel_rfl) (by kernel_rfl) ?_
        clear hf; clear a; intro w8 a hb hg _ hf
        replace hs : Sep w F R w8 F2 [.box w6.heap.size 25 [.int .i64 z3.1.1, .int .u64 z3.1.2.1, .int .u64 z3.1.2.2.1, .int .i64 z3.1.2.2.2], .box w1.heap.size 25 [.int .i64 kind, .int .u64 entry, .int .u64 segs, .int .i64 count], .ro (tI .u8) (.slice ao1 more.length cp1) more] := hs.updBox 0 rfl hb hg
        clear hb hg
        replace hf := Fr.keep (ks := [4, 12, 15, 48]) (L' := [(4, .slice ao1 more.length cp1), (12, .pointer (some ⟨w1.heap.size, 0, none⟩)), (15, .pointer (some ⟨w6.heap.size, 0, none⟩)), (48, .int .i64 z3.2)]) hf (by kernel_rfl)
        refine st tbOk 1 [4, 12, 15, 16] (L' := [(4, .slice ao1 more.length cp1), (12, .pointer (some ⟨w1.heap.size, 0, none⟩)), (15, .pointer (some ⟨w6.heap.size, 0, none⟩)), (16, .int .i64 z3.2)]) hf (by kernel_rfl) ?_
        clear hf; clear a; intro a hf
        refine wpList_nil ?_
        refine sq ?_
        refine reg ?_
        refine st tbOk 1 [4, 12, 15, 16, 50] (L' := [(4, .slice ao1 more.length cp1), (12, .pointer (some ⟨w1.heap.size, 0, none⟩)), (15, .pointer (some ⟨w6.heap.size, 0, none⟩)), (16, .int .i64 z3.2), (50, .slice ao1 more.length cp1)]) hf (by kernel_rfl) ?_
        clear hf; clear a; intro a hf
        have hT := of_bd hS; clear hS; obtain ⟨z4, hz4, hS⟩ := hT
        refine clV ent17 (vs := [.slice ao1 more.length cp1]) (caps := []) hf (by kernel_rfl) (by kernel_rfl) (by kernel_rfl) (by kernel_rfl) (head_Get_ok (b := more) (hs.enter [2] rfl rfl) hz4) ?_
        clear hf; clear a; intro v w9 a hT hf; obtain ⟨F4, rfl, hr⟩ := hT
        replace hs : Sep w F R w9 F4 [.box w6.heap.size 25 [.int .i64 z3.1.1, .int .u64 z3.1.2.1, .int .u64 z3.1.2.2.1, .int .i64 z3.1.2.2.2], .box w1.heap.size 25 [.int .i64 kind, .int .u64 entry, .int .u64 segs, .int .i64 count], .ro (tI .u8) (.slice ao1 more.length cp1) more] := hs.back [2] [0, 1, 2] rfl rfl rfl rfl hr
        clear hr
        replace hf := Fr.keep (ks := [4, 12, 15, 16, 51]) (L' := [(4, .slice ao1 more.length cp1), (12, .pointer (some ⟨w1.heap.size, 0, none⟩)), (15, .pointer (some ⟨w6.heap.size, 0, none⟩)), (16, .int .i64 z3.2), (51, .tuple #[.agg #[.int .i64 z4.1.1, .int .u64 z4.1.2.1, .int .u64 z4.1.2.2.1, .int .i64 z4.1.2.2.2], .int .i64 z4.2])]) hf (by kernel_rfl)
        refine st tbOk 3 [4, 12, 15, 16, 52, 53] (L' := [(4, .slice ao1 more.length cp1), (12, .pointer (some ⟨w1.heap.size, 0, none⟩)), (15, .pointer (some ⟨w6.heap.size, 0, none⟩)), (16, .int .i64 z3.2), (52, .agg #[.int .i64 z4.1.1, .int .u64 z4.1.2.1, .int .u64 z4.1.2.2.1, .int .i64 z4.1.2.2.2]), (53, .int .i64 z4.2)]) hf (by kernel_rfl) ?_
        clear hf; clear a; intro a hf
        refine al tbOk i25 [.int .i64 0, .int .u64 0, .int .u64 0, .int .i64 0] rfl (by kernel_rfl) hf (by kernel_rfl) (by kernel_rfl) ?_
        clear hf; clear a; intro w10 a hb hx _ hf
        replace hs : Sep w F R w10 F4 [.box w9.heap.size 25 [.int .i64 0, .int .u64 0, .int .u64 0, .int .i64 0], .box w6.heap.size 25 [.int .i64 z3.1.1, .int .u64 z3.1.2.1, .int .u64 z3.1.2.2.1, .int .i64 z3.1.2.2.2], .box w1.heap.size 25 [.int .i64 kind, .int .u64 entry, .int .u64 segs, .int .i64 count], .ro (tI .u8) (.slice ao1 more.length cp1) more] := hs.newBox hb hx
        clear hb hx
        replace hf := Fr.keep (ks := [4, 12, 15, 16, 17, 52, 53]) (L' := [(4, .slice ao1 more.length cp1), (12, .pointer (some ⟨w1.heap.size, 0, none⟩)), (15, .pointer (some ⟨w6.heap.size, 0, none⟩)), (16, .int .i64 z3.2), (17, .pointer (some ⟨w9.heap.size, 0, none⟩)), (52, .agg #[.int .i64 z4.1.1, .int .u64 z4.1.2.1, .int .u64 z4.1.2.2.1, .int .i64 z4.1.2.2.2]), (53, .int .i64 z4.2)]) hf (by kernel_rfl)
        refine stB tbOk i25 (hs.bx 0 rfl) 0 [.int .i64 z4.1.1, .int .u64 z4.1.2.1, .int .u64 z4.1.2.2.1, .int .i64 z4.1.2.2.2] [.int .i64 z4.1.1, .int .u64 z4.1.2.1, .int .u64 z4.1.2.2.1, .int .i64 z4.1.2.2.2] (v := .agg #[.int .i64 z4.1.1, .int .u64 z4.1.2.1, .int .u64 z4.1.2.2.1, .int .i64 z4.1.2.2.2]) rfl rfl (by kernel_rfl) (by kernel_rfl) (by kernel_rfl) (by kernel_rfl) hf (by kernel_rfl) (by kernel_rfl) (by kernel_rfl) ?_
        clear hf; clear a; intro w11 a hb hg _ hf
        replace hs : Sep w F R w11 F4 [.box w9.heap.size 25 [.int .i64 z4.1.1, .int .u64 z4.1.2.1, .int .u64 z4.1.2.2.1, .int .i64 z4.1.2.2.2], .box w6.heap.size 25 [.int .i64 z3.1.1, .int .u64 z3.1.2.1, .int .u64 z3.1.2.2.1, .int .i64 z3.1.2.2.2], .box w1.heap.size 25 [.int .i64 kind, .int .u64 entry, .int .u64 segs, .int .i64 count], .ro (tI .u8) (.slice ao1 more.length cp1) more] := hs.updBox 0 rfl hb hg
        clear hb hg
        replace hf := Fr.keep (ks := [4, 12, 15, 16, 17, 53]) (L' := [(4, .slice ao1 more.length cp1), (12, .pointer (some ⟨w1.heap.size, 0, none⟩)), (15, .pointer (some ⟨w6.heap.size, 0, none⟩)), (16, .int .i64 z3.2), (17, .pointer (some ⟨w9.heap.size, 0, none⟩)), (53, .int .i64 z4.2)]) hf (by kernel_rfl)
        refine st tbOk 1 [4, 12, 15, 16, 17, 18] (L' := [(4, .slice ao1 more.length cp1), (12, .pointer (some ⟨w1.heap.size, 0, none⟩)), (15, .pointer (some ⟨w6.heap.size, 0, none⟩)), (16, .int .i64 z3.2), (17, .pointer (some ⟨w9.heap.size, 0, none⟩)), (18, .int .i64 z4.2)]) hf (by kernel_rfl) ?_
        clear hf; clear a; intro a hf
        refine wpList_nil ?_
        refine sq ?_
        refine sq ?_
        refine ctj (fun (s1 : Bool) (a : Act) (w' : World) => ∃ (F5 : SH), Sep w F R w' F5 [.box w9.heap.size 25 [.int .i64 z4.1.1, .int .u64 z4.1.2.1, .int .u64 z4.1.2.2.1, .int .i64 z4.1.2.2.2], .ro (tI .u8) (.slice ao1 more.length cp1) more] ∧ Fr 90 [(4, .slice ao1 more.length cp1), (17, .pointer (some ⟨w9.heap.size, 0, none⟩)), (18, .int .i64 z4.2), (60, .bool s1)] a) hS ?_ ?_
        · clear hS hf hs; clear a; intro s1 a w12 hM hS
          obtain ⟨F5, hs, hf⟩ := hM
          refine cnd (b := s1) hf (by kernel_rfl) (fun hb5 => ?_) (fun hb5 => ?_)
          · replace hS := of_t hb5 hS
            refine sq ?_
            refine reg ?_
            refine st tbOk 1 [10] (L' := [(10, .bool false)]) hf (by kernel_rfl) ?_
            clear hf; clear a; intro a hf
            refine wpList_nil ?_
            have hr := Option.some.inj hS; subst hr
            refine wp_ret ?_
            exact ret_ok hf (vs := [.bool false]) (by kernel_rfl) ⟨_, rfl, hs.sel [] rfl rfl⟩
          · replace hS := of_f hb5 hS
            refine wp_skip ?_
            refine sq ?_
            refine sq ?_
            refine reg ?_
            refine st tbOk 2 [4, 17, 62] (L' := [(4, .slice ao1 more.length cp1), (17, .pointer (some ⟨w9.heap.size, 0, none⟩)), (62, .bool (z4.2 != 0))]) hf (by kernel_rfl) ?_
            clear hf; clear a; intro a hf
            refine wpList_nil ?_
            refine cnd (b := z4.2 != 0) hf (by kernel_rfl) (fun hb6 => ?_) (fun hb6 => ?_)
            · replace hS := of_t hb6 hS
              refine sq ?_
              refine reg ?_
              refine ldC tbOk (T := 25) (hs.cbx 0 rfl) (LeH.refl _) 0 (.agg #[.int .i64 z4.1.1, .int .u64 z4.1.2.1, .int .u64 z4.1.2.2.1, .int .i64 z4.1.2.2.2]) hf (by kernel_rfl) (by kernel_rfl) (by kernel_rfl) (by kernel_rfl) ?_
              clear hf; clear a; intro a hf
              replace hs : Sep w F R w12 F5 [] := hs.sel [] rfl rfl
              replace hf := Fr.keep (ks := [63]) (L' := [(63, .agg #[.int .i64 z4.1.1, .int .u64 z4.1.2.1, .int .u64 z4.1.2.2.1, .int .i64 z4.1.2.2.2])]) hf (by kernel_rfl)
              refine st tbOk 3 [10] (L' := [(10, .bool ((z4.1.1 == 0) && ((z4.1.2.1 == 0) && ((z4.1.2.2.1 == 0) && (z4.1.2.2.2 == 0)))))]) hf (by kernel_rfl) ?_
              clear hf; clear a; intro a hf
              refine wpList_nil ?_
              have hr := Option.some.inj hS; subst hr
              refine wp_ret ?_
              exact ret_ok hf (vs := [.bool ((z4.1.1 == 0) && ((z4.1.2.1 == 0) && ((z4.1.2.2.1 == 0) && (z4.1.2.2.2 == 0))))]) (by kernel_rfl) ⟨_, rfl, hs.sel [] rfl rfl⟩
            · replace hS := of_f hb6 hS
              refine wp_skip ?_
              refine sq ?_
              refine reg ?_
              refine ldC tbOk (T := 25) (hs.cbx 0 rfl) (LeH.refl _) 0 (.agg #[.int .i64 z4.1.1, .int .u64 z4.1.2.1, .int .u64 z4.1.2.2.1, .int .i64 z4.1.2.2.2]) hf (by kernel_rfl) (by kernel_rfl) (by kernel_rfl) (by kernel_rfl) ?_
              clear hf; clear a; intro a hf
              replace hs : Sep w F R w12 F5 [.ro (tI .u8) (.slice ao1 more.length cp1) more] := hs.sel [1] rfl rfl
              replace hf := Fr.keep (ks := [4, 67]) (L' := [(4, .slice ao1 more.length cp1), (67, .agg #[.int .i64 z4.1.1, .int .u64 z4.1.2.1, .int .u64 z4.1.2.2.1, .int .i64 z4.1.2.2.2])]) hf (by kernel_rfl)
              have hT := of_bd hS; clear hS; obtain ⟨z5, hz5, hS⟩ := hT
              refine clV ent14 (vs := [.agg #[.int .i64 z4.1.1, .int .u64 z4.1.2.1, .int .u64 z4.1.2.2.1, .int .i64 z4.1.2.2.2]]) (caps := []) hf (by kernel_rfl) (by kernel_rfl) (by kernel_rfl) (by kernel_rfl) (head_Put_ok (p_h := (z4.1.1, z4.1.2.1, z4.1.2.2.1, z4.1.2.2.2)) (hs.enter [] rfl rfl) hz5) ?_
              clear hf; clear a; intro v w13 a hT hf; obtain ⟨ao4, cp4, F6, rfl, hr⟩ := hT
              replace hs : Sep w F R w13 F6 [.row 5 (tI .u8) (.slice ao4 z5.1.length cp4) z5.1, .ro (tI .u8) (.slice ao1 more.length cp1) more] := hs.back [] [0] rfl rfl rfl rfl hr
              clear hr
              replace hf := Fr.keep (ks := [4, 68]) (L' := [(4, .slice ao1 more.length cp1), (68, .tuple #[.slice ao4 z5.1.length cp4, .int .i64 z5.2])]) hf (by kernel_rfl)
              refine st tbOk 5 [4, 19, 20] (L' := [(4, .slice ao1 more.length cp1), (19, .slice ao4 z5.1.length cp4), (20, .int .i64 z5.2)]) hf (by kernel_rfl) ?_
              clear hf; clear a; intro a hf
              refine wpList_nil ?_
              refine sq ?_
              refine ctj (fun (s2 : Bool) (a : Act) (w' : World) => ∃ (F7 : SH), Sep w F R w' F7 [] ∧ Fr 90 [(10, .bool s2)] a) hS ?_ ?_
              · clear hS hf hs; clear a; intro s2 a w17 hM hS
                obtain ⟨F7, hs, hf⟩ := hM
                have hr := Option.some.inj hS; subst hr
                refine wp_ret ?_
                exact ret_ok hf (vs := [.bool s2]) (by kernel_rfl) ⟨_, rfl, hs.sel [] rfl rfl⟩
              · clear hS; intro KK2 k2 hK2 hS
                refine regQ mixed (by kernel_rfl) ?_
                refine stQ tbOk 3 [4, 19, 73] (L' := [(4, .slice ao1 more.length cp1), (19, .slice ao4 z5.1.length cp4), (73, .bool (z5.2 == 0))]) hf (by kernel_rfl) ?_
                clear hf; clear a; intro a hf
                rcases Bool.eq_false_or_eq_true (z5.2 == 0) with hb7 | hb7
                · replace hS := of_t hb7 hS
                  replace hf := Fr.cast (L' := [(4, .slice ao1 more.length cp1), (19, .slice ao4 z5.1.length cp4), (73, .bool true)]) hf (by rw [hb7])
                  refine stQ tbOk 7 [4, 19, 80] (L' := [(4, .slice ao1 more.length cp1), (19, .slice ao4 z5.1.length cp4), (80, .bool (decide (((z5.1.length : Nat) : Int) ≤ ((more.length : Nat) : Int))))]) hf (by kernel_rfl) ?_
                  clear hf; clear a; intro a hf
                  rcases Bool.eq_false_or_eq_true (decide (((z5.1.length : Nat) : Int) ≤ ((more.length : Nat) : Int))) with hb8 | hb8
                  · replace hS := of_t hb8 hS
                    replace hf := Fr.cast (L' := [(4, .slice ao1 more.length cp1), (19, .slice ao4 z5.1.length cp4), (80, .bool true)]) hf (by rw [hb8])
                    refine stQ tbOk 1 [4, 19, 80, 81] (L' := [(4, .slice ao1 more.length cp1), (19, .slice ao4 z5.1.length cp4), (80, .bool true), (81, .slice ao4 z5.1.length cp4)]) hf (by kernel_rfl) ?_
                    clear hf; clear a; intro a hf
                    refine b2sRQ tbOk u26 u5 u9 (hs.raW 0 rfl) hf (by kernel_rfl) (by kernel_rfl) (by kernel_rfl) ?_
                    clear hf; clear a; intro a hf
                    replace hf := Fr.keep (ks := [4, 19, 80, 82]) (L' := [(4, .slice ao1 more.length cp1), (19, .slice ao4 z5.1.length cp4), (80, .bool true), (82, strV (toStr z5.1))]) hf (by kernel_rfl)
                    refine stQ tbOk 3 [80, 82, 83, 85] (L' := [(80, .bool true), (82, strV (toStr z5.1)), (83, .slice ao1 more.length cp1), (85, .int .i64 ((z5.1.length : Nat) : Int))]) hf (by kernel_rfl) ?_
                    clear hf; clear a; intro a hf
                    have hT := of_gd hS; clear hS; obtain ⟨hc2, hS⟩ := hT
                    refine slQ tbOk u26 i5 rfl (hs.ro 1 rfl) (lo := 0) (hi := ((z5.1.length : Nat) : Int)) (m := 0) hc2 (.inl ⟨rfl, rfl⟩) (.inr ⟨_, .i64, rfl, by kernel_rfl⟩) (.inl rfl) hf (by kernel_rfl) (by kernel_rfl) (by kernel_rfl) ?_
                    clear hf; clear a; intro ao5 cp5 a hr1 hf
                    replace hs : Sep w F R w13 F6 [.ro (tI .u8) (.slice ao5 (cutL more 0 ((z5.1.length : Nat) : Int)).length cp5) (cutL more 0 ((z5.1.length : Nat) : Int)), .row 5 (tI .u8) (.slice ao4 z5.1.length cp4) z5.1, .ro (tI .u8) (.slice ao1 more.length cp1) more] := hs.addRo hr1
                    replace hs : Sep w F R w13 F6 [.ro (tI .u8) (.slice ao5 (cutL more 0 ((z5.1.length : Nat) : Int)).length cp5) (cutL more 0 ((z5.1.length : Nat) : Int))] := hs.sel [0] rfl rfl
                    replace hf := Fr.keep (ks := [80, 82, 86]) (L' := [(80, .bool true), (82, strV (toStr z5.1)), (86, .slice ao5 (cutL more 0 ((z5.1.length : Nat) : Int)).length cp5)]) hf (by kernel_rfl)
                    refine b2sRQ tbOk u26 u5 u9 (hs.raR 0 rfl) hf (by kernel_rfl) (by kernel_rfl) (by kernel_rfl) ?_
                    clear hf; clear a; intro a hf
                    replace hs : Sep w F R w13 F6 [] := hs.sel [] rfl rfl
                    replace hf := Fr.keep (ks := [80, 82, 87]) (L' := [(80, .bool true), (82, strV (toStr z5.1)), (87, strV (toStr (cutL more 0 ((z5.1.length : Nat) : Int))))]) hf (by kernel_rfl)
                    refine stQ tbOk 3 [10] (L' := [(10, .bool ((toStr z5.1) == (toStr (cutL more 0 ((z5.1.length : Nat) : Int)))))]) hf (by kernel_rfl) ?_
                    clear hf; clear a; intro a hf
                    refine wpQuiet_nil ?_
                    intro w14 hx
                    replace hs : Sep w F R w14 F6 [] := hs.ext hx
                    clear hx
                    exact hK2 ((toStr z5.1) == (toStr (cutL more 0 ((z5.1.length : Nat) : Int)))) _ _ ⟨_, hs.sel [] rfl rfl, hf.keep (ks := [10]) (by kernel_rfl)⟩ hS
                  · replace hS := of_f hb8 hS
                    replace hf := Fr.cast (L' := [(4, .slice ao1 more.length cp1), (19, .slice ao4 z5.1.length cp4), (80, .bool false)]) hf (by rw [hb8])
                    refine stQ tbOk 10 [10] (L' := [(10, .bool false)]) hf (by kernel_rfl) ?_
                    clear hf; clear a; intro a hf
                    refine wpQuiet_nil ?_
                    intro w15 hx
                    replace hs : Sep w F R w15 F6 [.row 5 (tI .u8) (.slice ao4 z5.1.length cp4) z5.1, .ro (tI .u8) (.slice ao1 more.length cp1) more] := hs.ext hx
                    clear hx
                    exact hK2 false _ _ ⟨_, hs.sel [] rfl rfl, hf.keep (ks := [10]) (by kernel_rfl)⟩ hS
                · replace hS := of_f hb7 hS
                  replace hf := Fr.cast (L' := [(4, .slice ao1 more.length cp1), (19, .slice ao4 z5.1.length cp4), (73, .bool false)]) hf (by rw [hb7])
                  refine stQ tbOk 17 [10] (L' := [(10, .bool false)]) hf (by kernel_rfl) ?_
                  clear hf; clear a; intro a hf
                  refine wpQuiet_nil ?_
                  intro w16 hx
                  replace hs : Sep w F R w16 F6 [.row 5 (tI .u8) (.slice ao4 z5.1.length cp4) z5.1, .ro (tI .u8) (.slice ao1 more.length cp1) more] := hs.ext hx
                  clear hx
                  exact hK2 false _ _ ⟨_, hs.sel [] rfl rfl, hf.keep (ks := [10]) (by kernel_rfl)⟩ hS
        · clear hS; intro KK1 k1 hK1 hS
          refine reg ?_
          refine st tbOk 3 [4, 12, 15, 17, 18, 56] (L' := [(4, .slice ao1 more.length cp1), (12, .pointer (some ⟨w1.heap.size, 0, none⟩)), (15, .pointer (some ⟨w6.heap.size, 0, none⟩)), (17, .pointer (some ⟨w9.heap.size, 0, none⟩)), (18, .int .i64 z4.2), (56, .bool (z3.2 != 0))]) hf (by kernel_rfl) ?_
          clear hf; clear a; intro a hf
          rcases Bool.eq_false_or_eq_true (z3.2 != 0) with hb4 | hb4
          · replace hS := of_t hb4 hS
            replace hf := Fr.cast (L' := [(4, .slice ao1 more.length cp1), (12, .pointer (some ⟨w1.heap.size, 0, none⟩)), (15, .pointer (some ⟨w6.heap.size, 0, none⟩)), (17, .pointer (some ⟨w9.heap.size, 0, none⟩)), (18, .int .i64 z4.2), (56, .bool true)]) hf (by rw [hb4])
            refine st tbOk 4 [4, 17, 18, 60] (L' := [(4, .slice ao1 more.length cp1), (17, .pointer (some ⟨w9.heap.size, 0, none⟩)), (18, .int .i64 z4.2), (60, .bool true)]) hf (by kernel_rfl) ?_
            clear hf; clear a; intro a hf
            refine wpList_nil ?_
            exact hK1 true _ _ ⟨_, hs.sel [0, 3] rfl rfl, hf.keep (ks := [4, 17, 18, 60]) (by kernel_rfl)⟩ hS
          · replace hS := of_f hb4 hS
            replace hf := Fr.cast (L' := [(4, .slice ao1 more.length cp1), (12, .pointer (some ⟨w1.heap.size, 0, none⟩)), (15, .pointer (some ⟨w6.heap.size, 0, none⟩)), (17, .pointer (some ⟨w9.heap.size, 0, none⟩)), (18, .int .i64 z4.2), (56, .bool false)]) hf (by rw [hb4])
            refine ldC tbOk (T := 25) (hs.cbx 1 rfl) (LeH.refl _) 0 (.agg #[.int .i64 z3.1.1, .int .u64 z3.1.2.1, .int .u64 z3.1.2.2.1, .int .i64 z3.1.2.2.2]) hf (by kernel_rfl) (by kernel_rfl) (by kernel_rfl) (by kernel_rfl) ?_
            clear hf; clear a; intro a hf
            replace hs : Sep w F R w11 F4 [.box w9.heap.size 25 [.int .i64 z4.1.1, .int .u64 z4.1.2.1, .int .u64 z4.1.2.2.1, .int .i64 z4.1.2.2.2], .box w1.heap.size 25 [.int .i64 kind, .int .u64 entry, .int .u64 segs, .int .i64 count], .ro (tI .u8) (.slice ao1 more.length cp1) more] := hs.sel [0, 2, 3] rfl rfl
            replace hf := Fr.keep (ks := [4, 12, 17, 18, 56, 57]) (L' := [(4, .slice ao1 more.length cp1), (12, .pointer (some ⟨w1.heap.size, 0, none⟩)), (17, .pointer (some ⟨w9.heap.size, 0, none⟩)), (18, .int .i64 z4.2), (56, .bool false), (57, .agg #[.int .i64 z3.1.1, .int .u64 z3.1.2.1, .int .u64 z3.1.2.2.1, .int .i64 z3.1.2.2.2])]) hf (by kernel_rfl)
            refine ldC tbOk (T := 25) (hs.cbx 1 rfl) (LeH.refl _) 0 (.agg #[.int .i64 kind, .int .u64 entry, .int .u64 segs, .int .i64 count]) hf (by kernel_rfl) (by kernel_rfl) (by kernel_rfl) (by kernel_rfl) ?_
            clear hf; clear a; intro a hf
            replace hs : Sep w F R w11 F4 [.box w9.heap.size 25 [.int .i64 z4.1.1, .int .u64 z4.1.2.1, .int .u64 z4.1.2.2.1, .int .i64 z4.1.2.2.2], .ro (tI .u8) (.slice ao1 more.length cp1) more] := hs.sel [0, 2] rfl rfl
            replace hf := Fr.keep (ks := [4, 17, 18, 56, 57, 58]) (L' := [(4, .slice ao1 more.length cp1), (17, .pointer (some ⟨w9.heap.size, 0, none⟩)), (18, .int .i64 z4.2), (56, .bool false), (57, .agg #[.int .i64 z3.1.1, .int .u64 z3.1.2.1, .int .u64 z3.1.2.2.1, .int .i64 z3.1.2.2.2]), (58, .agg #[.int .i64 kind, .int .u64 entry, .int .u64 segs, .int .i64 count])]) hf (by kernel_rfl)
            refine st tbOk 2 [4, 17, 18, 60] (L' := [(4, .slice ao1 more.length cp1), (17, .pointer (some ⟨w9.heap.size, 0, none⟩)), (18, .int .i64 z4.2), (60, .bool (!((z3.1.1 == kind) && ((z3.1.2.1 == entry) && ((z3.1.2.2.1 == segs) && (z3.1.2.2.2 == count))))))]) hf (by kernel_rfl) ?_
            clear hf; clear a; intro a hf
            refine wpList_nil ?_
            exact hK1 (!((z3.1.1 == kind) && ((z3.1.2.1 == entry) && ((z3.1.2.2.1 == segs) && (z3.1.2.2.2 == count))))) _ _ ⟨_, hs.sel [0, 1] rfl rfl, hf.keep (ks := [4, 17, 18, 60]) (by kernel_rfl)⟩ hS

end Dm
