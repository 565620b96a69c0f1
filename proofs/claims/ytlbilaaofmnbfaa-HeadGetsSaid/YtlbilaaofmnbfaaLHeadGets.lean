/-
  The walk of the law HeadGets; printed by a program of this repo. No condition.
-/
import Derived.Test.YtlbilaaofmnbfaaWT
import Derived.Test.YtlbilaaofmnbfaaW1
import Derived.Test.YtlbilaaofmnbfaaW2
import Derived.Test.YtlbilaaofmnbfaaW4
namespace Dm
open Go Go.RowKit Go.Proofs

set_option maxHeartbeats 4000000 in
theorem law03_HeadGets_ok {w : World} {F : SH} {b : List Int} {entry : Int} {segs : Int} {turn : List Int} {ao1 : Option Addr} {cp1 : Nat} {ao2 : Option Addr} {cp2 : Nat} (hs : Sep w F (blks [.ro (tI .u8) (.slice ao1 b.length cp1) b, .ro (tI .i64) (.slice ao2 turn.length cp2) turn]) w F [.ro (tI .u8) (.slice ao1 b.length cp1) b, .ro (tI .i64) (.slice ao2 turn.length cp2) turn]) {r : Bool} (hS : law03_HeadGets b entry segs turn = some r) :
    Calls Try.prog 4 [.slice ao1 b.length cp1, .int .u64 entry, .int .u64 segs, .slice ao2 turn.length cp2].toArray w (Gives (fun u w' => ∃ (F' : SH), u = .bool r ∧ Sep w F (blks [.ro (tI .u8) (.slice ao1 b.length cp1) b, .ro (tI .i64) (.slice ao2 turn.length cp2) turn]) w' F' [])) := by
  generalize (blks [.ro (tI .u8) (.slice ao1 b.length cp1) b, .ro (tI .i64) (.slice ao2 turn.length cp2) turn]) = R at hs ⊢
  unfold law03_HeadGets at hS
  refine fn_ok (vs := [.slice ao1 b.length cp1, .int .u64 entry, .int .u64 segs, .slice ao2 turn.length cp2]) Try.func4 rfl 94 Try.ntmps4 (Nat.le_of_ble_eq_true rfl) ?_
  intro a hf
  replace hf := Fr.cast (L' := [(0, .slice ao1 b.length cp1), (1, .int .u64 entry), (2, .int .u64 segs), (3, .slice ao2 turn.length cp2)]) hf (by kernel_rfl)
  refine sq ?_
  refine reg ?_
  refine st tbOk 1 [0, 1, 2, 3] (L' := [(0, .slice ao1 b.length cp1), (1, .int .u64 entry), (2, .int .u64 segs), (3, .slice ao2 turn.length cp2)]) hf (by kernel_rfl) ?_
  clear hf; clear a; intro a hf
  refine wpList_nil ?_
  refine sq ?_
  refine reg ?_
  have hT := of_bd hS; clear hS; obtain ⟨z1, hz1, hS⟩ := hT
  refine clV ent13 (vs := []) (caps := []) hf (by kernel_rfl) (by kernel_rfl) (by kernel_rfl) (by kernel_rfl) (law03_awake_ok (hs.enter [] rfl rfl) hz1) ?_
  clear hf; clear a; intro v w1 a hT hf; obtain ⟨F1, rfl, hr⟩ := hT
  replace hs : Sep w F R w1 F1 [.ro (tI .u8) (.slice ao1 b.length cp1) b, .ro (tI .i64) (.slice ao2 turn.length cp2) turn] := hs.back [] [0, 1] rfl rfl rfl rfl hr
  clear hr
  replace hf := Fr.keep (ks := [0, 1, 2, 3, 21]) (L' := [(0, .slice ao1 b.length cp1), (1, .int .u64 entry), (2, .int .u64 segs), (3, .slice ao2 turn.length cp2), (21, .bool z1)]) hf (by kernel_rfl)
  refine st tbOk 1 [0, 1, 2, 3, 9] (L' := [(0, .slice ao1 b.length cp1), (1, .int .u64 entry), (2, .int .u64 segs), (3, .slice ao2 turn.length cp2), (9, .bool z1)]) hf (by kernel_rfl) ?_
  clear hf; clear a; intro a hf
  refine wpList_nil ?_
  refine sq ?_
  refine sq ?_
  refine reg ?_
  refine st tbOk 2 [0, 1, 2, 3, 23] (L' := [(0, .slice ao1 b.length cp1), (1, .int .u64 entry), (2, .int .u64 segs), (3, .slice ao2 turn.length cp2), (23, .bool (!z1))]) hf (by kernel_rfl) ?_
  clear hf; clear a; intro a hf
  refine wpList_nil ?_
  refine cnd (b := !z1) hf (by kernel_rfl) (fun hb1 => ?_) (fun hb1 => ?_)
  · replace hS := of_t hb1 hS
    refine sq ?_
    refine reg ?_
    refine st tbOk 1 [8] (L' := [(8, .bool false)]) hf (by kernel_rfl) ?_
    clear hf; clear a; intro a hf
    refine wpList_nil ?_
    have hr := Option.some.inj hS; subst hr
    refine wp_ret ?_
    exact ret_ok hf (vs := [.bool false]) (by kernel_rfl) ⟨_, rfl, hs.sel [] rfl rfl⟩
  · replace hS := of_f hb1 hS
    refine wp_skip ?_
    refine sq ?_
    refine reg ?_
    refine st tbOk 1 [0, 1, 2, 3, 25] (L' := [(0, .slice ao1 b.length cp1), (1, .int .u64 entry), (2, .int .u64 segs), (3, .slice ao2 turn.length cp2), (25, .slice ao1 b.length cp1)]) hf (by kernel_rfl) ?_
    clear hf; clear a; intro a hf
    have hT := of_bd hS; clear hS; obtain ⟨z2, hz2, hS⟩ := hT
    refine clV ent17 (vs := [.slice ao1 b.length cp1]) (caps := []) hf (by kernel_rfl) (by kernel_rfl) (by kernel_rfl) (by kernel_rfl) (head_Get_ok (b := b) (hs.enter [0] rfl rfl) hz2) ?_
    clear hf; clear a; intro v w2 a hT hf; obtain ⟨F2, rfl, hr⟩ := hT
    replace hs : Sep w F R w2 F2 [.ro (tI .u8) (.slice ao1 b.length cp1) b, .ro (tI .i64) (.slice ao2 turn.length cp2) turn] := hs.back [0] [0, 1] rfl rfl rfl rfl hr
    clear hr
    replace hf := Fr.keep (ks := [0, 1, 2, 3, 26]) (L' := [(0, .slice ao1 b.length cp1), (1, .int .u64 entry), (2, .int .u64 segs), (3, .slice ao2 turn.length cp2), (26, .tuple #[.agg #[.int .i64 z2.1.1, .int .u64 z2.1.2.1, .int .u64 z2.1.2.2.1, .int .i64 z2.1.2.2.2], .int .i64 z2.2])]) hf (by kernel_rfl)
    refine st tbOk 3 [0, 1, 2, 3, 27, 28] (L' := [(0, .slice ao1 b.length cp1), (1, .int .u64 entry), (2, .int .u64 segs), (3, .slice ao2 turn.length cp2), (27, .agg #[.int .i64 z2.1.1, .int .u64 z2.1.2.1, .int .u64 z2.1.2.2.1, .int .i64 z2.1.2.2.2]), (28, .int .i64 z2.2)]) hf (by kernel_rfl) ?_
    clear hf; clear a; intro a hf
    refine al tbOk i25 [.int .i64 0, .int .u64 0, .int .u64 0, .int .i64 0] rfl (by kernel_rfl) hf (by kernel_rfl) (by kernel_rfl) ?_
    clear hf; clear a; intro w3 a hb hx _ hf
    replace hs : Sep w F R w3 F2 [.box w2.heap.size 25 [.int .i64 0, .int .u64 0, .int .u64 0, .int .i64 0], .ro (tI .u8) (.slice ao1 b.length cp1) b, .ro (tI .i64) (.slice ao2 turn.length cp2) turn] := hs.newBox hb hx
    clear hb hx
    replace hf := Fr.keep (ks := [0, 1, 2, 3, 10, 27, 28]) (L' := [(0, .slice ao1 b.length cp1), (1, .int .u64 entry), (2, .int .u64 segs), (3, .slice ao2 turn.length cp2), (10, .pointer (some ⟨w2.heap.size, 0, none⟩)), (27, .agg #[.int .i64 z2.1.1, .int .u64 z2.1.2.1, .int .u64 z2.1.2.2.1, .int .i64 z2.1.2.2.2]), (28, .int .i64 z2.2)]) hf (by kernel_rfl)
    refine stB tbOk i25 (hs.bx 0 rfl) 0 [.int .i64 z2.1.1, .int .u64 z2.1.2.1, .int .u64 z2.1.2.2.1, .int .i64 z2.1.2.2.2] [.int .i64 z2.1.1, .int .u64 z2.1.2.1, .int .u64 z2.1.2.2.1, .int .i64 z2.1.2.2.2] (v := .agg #[.int .i64 z2.1.1, .int .u64 z2.1.2.1, .int .u64 z2.1.2.2.1, .int .i64 z2.1.2.2.2]) rfl rfl (by kernel_rfl) (by kernel_rfl) (by kernel_rfl) (by kernel_rfl) hf (by kernel_rfl) (by kernel_rfl) (by kernel_rfl) ?_
    clear hf; clear a; intro w4 a hb hg _ hf
    replace hs : Sep w F R w4 F2 [.box w2.heap.size 25 [.int .i64 z2.1.1, .int .u64 z2.1.2.1, .int .u64 z2.1.2.2.1, .int .i64 z2.1.2.2.2], .ro (tI .u8) (.slice ao1 b.length cp1) b, .ro (tI .i64) (.slice ao2 turn.length cp2) turn] := hs.updBox 0 rfl hb hg
    clear hb hg
    replace hf := Fr.keep (ks := [0, 1, 2, 3, 10, 28]) (L' := [(0, .slice ao1 b.length cp1), (1, .int .u64 entry), (2, .int .u64 segs), (3, .slice ao2 turn.length cp2), (10, .pointer (some ⟨w2.heap.size, 0, none⟩)), (28, .int .i64 z2.2)]) hf (by kernel_rfl)
    refine st tbOk 1 [0, 1, 2, 3, 10, 11] (L' := [(0, .slice ao1 b.length cp1), (1, .int .u64 entry), (2, .int .u64 segs), (3, .slice ao2 turn.length cp2), (10, .pointer (some ⟨w2.heap.size, 0, none⟩)), (11, .int .i64 z2.2)]) hf (by kernel_rfl) ?_
    clear hf; clear a; intro a hf
    refine wpList_nil ?_
    refine sq ?_
    refine reg ?_
    refine st tbOk 1 [1, 2, 3, 10, 11, 30] (L' := [(1, .int .u64 entry), (2, .int .u64 segs), (3, .slice ao2 turn.length cp2), (10, .pointer (some ⟨w2.heap.size, 0, none⟩)), (11, .int .i64 z2.2), (30, .slice ao1 b.length cp1)]) hf (by kernel_rfl) ?_
    clear hf; clear a; intro a hf
    have hT := of_bd hS; clear hS; obtain ⟨z3, hz3, hS⟩ := hT
    refine clV ent18 (vs := [.slice ao1 b.length cp1]) (caps := []) hf (by kernel_rfl) (by kernel_rfl) (by kernel_rfl) (by kernel_rfl) (ref03_Get_ok (b := b) (hs.enter [1] rfl rfl) hz3) ?_
    clear hf; clear a; intro v w5 a hT hf; obtain ⟨F3, rfl, hr⟩ := hT
    replace hs : Sep w F R w5 F3 [.box w2.heap.size 25 [.int .i64 z2.1.1, .int .u64 z2.1.2.1, .int .u64 z2.1.2.2.1, .int .i64 z2.1.2.2.2], .ro (tI .u8) (.slice ao1 b.length cp1) b, .ro (tI .i64) (.slice ao2 turn.length cp2) turn] := hs.back [1] [0, 1, 2] rfl rfl rfl rfl hr
    clear hr
    replace hs : Sep w F R w5 F3 [.box w2.heap.size 25 [.int .i64 z2.1.1, .int .u64 z2.1.2.1, .int .u64 z2.1.2.2.1, .int .i64 z2.1.2.2.2], .ro (tI .i64) (.slice ao2 turn.length cp2) turn] := hs.sel [0, 2] rfl rfl
    replace hf := Fr.keep (ks := [1, 2, 3, 10, 11, 31]) (L' := [(1, .int .u64 entry), (2, .int .u64 segs), (3, .slice ao2 turn.length cp2), (10, .pointer (some ⟨w2.heap.size, 0, none⟩)), (11, .int .i64 z2.2), (31, .tuple #[.agg #[.int .i64 z3.1.1, .int .u64 z3.1.2.1, .int .u64 z3.1.2.2.1, .int .i64 z3.1.2.2.2], .int .i64 z3.2])]) hf (by kernel_rfl)
    refine st tbOk 3 [1, 2, 3, 10, 11, 32, 33] (L' := [(1, .int .u64 entry), (2, .int .u64 segs), (3, .slice ao2 turn.length cp2), (10, .pointer (some ⟨w2.heap.size, 0, none⟩)), (11, .int .i64 z2.2), (32, .agg #[.int .i64 z3.1.1, .int .u64 z3.1.2.1, .int .u64 z3.1.2.2.1, .int .i64 z3.1.2.2.2]), (33, .int .i64 z3.2)]) hf (by kernel_rfl) ?_
    clear hf; clear a; intro a hf
    refine al tbOk i31 [.int .i64 0, .int .u64 0, .int .u64 0, .int .i64 0] rfl (by kernel_rfl) hf (by kernel_rfl) (by kernel_rfl) ?_
    clear hf; clear a; intro w6 a hb hx _ hf
    replace hs : Sep w F R w6 F3 [.box w5.heap.size 31 [.int .i64 0, .int .u64 0, .int .u64 0, .int .i64 0], .box w2.heap.size 25 [.int .i64 z2.1.1, .int .u64 z2.1.2.1, .int .u64 z2.1.2.2.1, .int .i64 z2.1.2.2.2], .ro (tI .i64) (.slice ao2 turn.length cp2) turn] := hs.newBox hb hx
    clear hb hx
    replace hf := Fr.keep (ks := [1, 2, 3, 10, 11, 12, 32, 33]) (L' := [(1, .int .u64 entry), (2, .int .u64 segs), (3, .slice ao2 turn.length cp2), (10, .pointer (some ⟨w2.heap.size, 0, none⟩)), (11, .int .i64 z2.2), (12, .pointer (some ⟨w5.heap.size, 0, none⟩)), (32, .agg #[.int .i64 z3.1.1, .int .u64 z3.1.2.1, .int .u64 z3.1.2.2.1, .int .i64 z3.1.2.2.2]), (33, .int .i64 z3.2)]) hf (by kernel_rfl)
    refine stB tbOk i31 (hs.bx 0 rfl) 0 [.int .i64 z3.1.1, .int .u64 z3.1.2.1, .int .u64 z3.1.2.2.1, .int .i64 z3.1.2.2.2] [.int .i64 z3.1.1, .int .u64 z3.1.2.1, .int .u64 z3.1.2.2.1, .int .i64 z3.1.2.2.2] (v := .agg #[.int .i64 z3.1.1, .int .u64 z3.1.2.1, .int .u64 z3.1.2.2.1, .int .i64 z3.1.2.2.2]) rfl rfl (by kernel_rfl) (by kernel_rfl) (by kernel_rfl) (by kernel_rfl) hf (by kernel_rfl) (by kernel_rfl) (by kernel_rfl) ?_
    clear hf; clear a; intro w7 a hb hg _ hf
    replace hs : Sep w F R w7 F3 [.box w5.heap.size 31 [.int .i64 z3.1.1, .int .u64 z3.1.2.1, .int .u64 z3.1.2.2.1, .int .i64 z3.1.2.2.2], .box w2.heap.size 25 [.int .i64 z2.1.1, .int .u64 z2.1.2.1, .int .u64 z2.1.2.2.1, .int .i64 z2.1.2.2.2], .ro (tI .i64) (.slice ao2 turn.length cp2) turn] := hs.updBox 0 rfl hb hg
    clear hb hg
    replace hf := Fr.keep (ks := [1, 2, 3, 10, 11, 12, 33]) (L' := [(1, .int .u64 entry), (2, .int .u64 segs), (3, .slice ao2 turn.length cp2), (10, .pointer (some ⟨w2.heap.size, 0, none⟩)), (11, .int .i64 z2.2), (12, .pointer (some ⟨w5.heap.size, 0, none⟩)), (33, .int .i64 z3.2)]) hf (by kernel_rfl)
    refine st tbOk 1 [1, 2, 3, 10, 11, 12, 13] (L' := [(1, .int .u64 entry), (2, .int .u64 segs), (3, .slice ao2 turn.length cp2), (10, .pointer (some ⟨w2.heap.size, 0, none⟩)), (11, .int .i64 z2.2), (12, .pointer (some ⟨w5.heap.size, 0, none⟩)), (13, .int .i64 z3.2)]) hf (by kernel_rfl) ?_
    clear hf; clear a; intro a hf
    refine wpList_nil ?_
    refine sq ?_
    refine sq ?_
    refine ctj (fun (s1 : Bool) (a : Act) (w' : World) => ∃ (F4 : SH), Sep w F R w' F4 [.ro (tI .i64) (.slice ao2 turn.length cp2) turn] ∧ Fr 94 [(1, .int .u64 entry), (2, .int .u64 segs), (3, .slice ao2 turn.length cp2), (42, .bool s1)] a) hS ?_ ?_
    · clear hS hf hs; clear a; intro s1 a w10 hM hS
      obtain ⟨F4, hs, hf⟩ := hM
      refine cnd (b := s1) hf (by kernel_rfl) (fun hb3 => ?_) (fun hb3 => ?_)
      · replace hS := of_t hb3 hS
        refine sq ?_
        refine reg ?_
        refine st tbOk 1 [8] (L' := [(8, .bool false)]) hf (by kernel_rfl) ?_
        clear hf; clear a; intro a hf
        refine wpList_nil ?_
        have hr := Option.some.inj hS; subst hr
        refine wp_ret ?_
        exact ret_ok hf (vs := [.bool false]) (by kernel_rfl) ⟨_, rfl, hs.sel [] rfl rfl⟩
      · replace hS := of_f hb3 hS
        refine wp_skip ?_
        refine sq ?_
        refine reg ?_
        refine st tbOk 3 [3, 46] (L' := [(3, .slice ao2 turn.length cp2), (46, .agg #[.int .i64 3, .int .u64 entry, .int .u64 segs, .int .i64 2])]) hf (by kernel_rfl) ?_
        clear hf; clear a; intro a hf
        have hT := of_bd hS; clear hS; obtain ⟨z5, hz5, hS⟩ := hT
        refine clV ent15 (vs := [.agg #[.int .i64 3, .int .u64 entry, .int .u64 segs, .int .i64 2]]) (caps := []) hf (by kernel_rfl) (by kernel_rfl) (by kernel_rfl) (by kernel_rfl) (ref03_Put_ok (p_h := (3, entry, segs, 2)) (hs.enter [] rfl rfl) hz5) ?_
        clear hf; clear a; intro v w11 a hT hf; obtain ⟨ao3, cp3, F5, rfl, hr⟩ := hT
        replace hs : Sep w F R w11 F5 [.row 5 (tI .u8) (.slice ao3 z5.1.length cp3) z5.1, .ro (tI .i64) (.slice ao2 turn.length cp2) turn] := hs.back [] [0] rfl rfl rfl rfl hr
        clear hr
        replace hf := Fr.keep (ks := [3, 47]) (L' := [(3, .slice ao2 turn.length cp2), (47, .tuple #[.slice ao3 z5.1.length cp3, .int .i64 z5.2])]) hf (by kernel_rfl)
        refine st tbOk 5 [3, 14] (L' := [(3, .slice ao2 turn.length cp2), (14, .slice ao3 z5.1.length cp3)]) hf (by kernel_rfl) ?_
        clear hf; clear a; intro a hf
        refine wpList_nil ?_
        refine sq ?_
        refine sq ?_
        refine reg ?_
        refine st tbOk 1 [3, 14, 16] (L' := [(3, .slice ao2 turn.length cp2), (14, .slice ao3 z5.1.length cp3), (16, .int .i64 0)]) hf (by kernel_rfl) ?_
        clear hf; clear a; intro a hf
        refine wpList_nil ?_
        refine ctj (fun (s2 : List Int) (a : Act) (w' : World) => ∃ (ao4 : Option Addr) (cp4 : Nat) (F6 : SH), Sep w F R w' F6 [.row 5 (tI .u8) (.slice ao4 s2.length cp4) s2] ∧ Fr 94 [(14, .slice ao4 s2.length cp4)] a) hS ?_ ?_
        · clear hS hf hs; clear a; intro s2 a w16 hM hS
          obtain ⟨ao4, cp4, F6, hs, hf⟩ := hM
          refine sq ?_
          refine reg ?_
          refine st tbOk 1 [14, 76] (L' := [(14, .slice ao4 s2.length cp4), (76, .slice ao4 s2.length cp4)]) hf (by kernel_rfl) ?_
          clear hf; clear a; intro a hf
          have hT := of_bd hS; clear hS; obtain ⟨z6, hz6, hS⟩ := hT
          refine clV ent17 (vs := [.slice ao4 s2.length cp4]) (caps := []) hf (by kernel_rfl) (by kernel_rfl) (by kernel_rfl) (by kernel_rfl) (head_Get_ok (b := s2) (hs.lend [0] [] rfl rfl rfl rfl rfl) hz6) ?_
          clear hf; clear a; intro v w17 a hT hf; obtain ⟨F9, rfl, hr⟩ := hT
          replace hs : Sep w F R w17 F6 [.row 5 (tI .u8) (.slice ao4 s2.length cp4) s2] := hs.backL [0] [] [0] rfl rfl rfl rfl rfl rfl hr trivial
          clear hr
          replace hf := Fr.keep (ks := [14, 77]) (L' := [(14, .slice ao4 s2.length cp4), (77, .tuple #[.agg #[.int .i64 z6.1.1, .int .u64 z6.1.2.1, .int .u64 z6.1.2.2.1, .int .i64 z6.1.2.2.2], .int .i64 z6.2])]) hf (by kernel_rfl)
          refine st tbOk 3 [14, 78, 79] (L' := [(14, .slice ao4 s2.length cp4), (78, .agg #[.int .i64 z6.1.1, .int .u64 z6.1.2.1, .int .u64 z6.1.2.2.1, .int .i64 z6.1.2.2.2]), (79, .int .i64 z6.2)]) hf (by kernel_rfl) ?_
          clear hf; clear a; intro a hf
          refine al tbOk i25 [.int .i64 0, .int .u64 0, .int .u64 0, .int .i64 0] rfl (by kernel_rfl) hf (by kernel_rfl) (by kernel_rfl) ?_
          clear hf; clear a; intro w18 a hb hx _ hf
          replace hs : Sep w F R w18 F6 [.box w17.heap.size 25 [.int .i64 0, .int .u64 0, .int .u64 0, .int .i64 0], .row 5 (tI .u8) (.slice ao4 s2.length cp4) s2] := hs.newBox hb hx
          clear hb hx
          replace hf := Fr.keep (ks := [14, 17, 78, 79]) (L' := [(14, .slice ao4 s2.length cp4), (17, .pointer (some ⟨w17.heap.size, 0, none⟩)), (78, .agg #[.int .i64 z6.1.1, .int .u64 z6.1.2.1, .int .u64 z6.1.2.2.1, .int .i64 z6.1.2.2.2]), (79, .int .i64 z6.2)]) hf (by kernel_rfl)
          refine stB tbOk i25 (hs.bx 0 rfl) 0 [.int .i64 z6.1.1, .int .u64 z6.1.2.1, .int .u64 z6.1.2.2.1, .int .i64 z6.1.2.2.2] [.int .i64 z6.1.1, .int .u64 z6.1.2.1, .int .u64 z6.1.2.2.1, .int .i64 z6.1.2.2.2] (v := .agg #[.int .i64 z6.1.1, .int .u64 z6.1.2.1, .int .u64 z6.1.2.2.1, .int .i64 z6.1.2.2.2]) rfl rfl (by kernel_rfl) (by kernel_rfl) (by kernel_rfl) (by kernel_rfl) hf (by kernel_rfl) (by kernel_rfl) (by kernel_rfl) ?_
          clear hf; clear a; intro w19 a hb hg _ hf
          replace hs : Sep w F R w19 F6 [.box w17.heap.size 25 [.int .i64 z6.1.1, .int .u64 z6.1.2.1, .int .u64 z6.1.2.2.1, .int .i64 z6.1.2.2.2], .row 5 (tI .u8) (.slice ao4 s2.length cp4) s2] := hs.updBox 0 rfl hb hg
          clear hb hg
          replace hf := Fr.keep (ks := [14, 17, 79]) (L' := [(14, .slice ao4 s2.length cp4), (17, .pointer (some ⟨w17.heap.size, 0, none⟩)), (79, .int .i64 z6.2)]) hf (by kernel_rfl)
          refine st tbOk 1 [14, 17, 18] (L' := [(14, .slice ao4 s2.length cp4), (17, .pointer (some ⟨w17.heap.size, 0, none⟩)), (18, .int .i64 z6.2)]) hf (by kernel_rfl) ?_
          clear hf; clear a; intro a hf
          refine wpList_nil ?_
          refine sq ?_
          refine reg ?_
          refine st tbOk 1 [17, 18, 81] (L' := [(17, .pointer (some ⟨w17.heap.size, 0, none⟩)), (18, .int .i64 z6.2), (81, .slice ao4 s2.length cp4)]) hf (by kernel_rfl) ?_
          clear hf; clear a; intro a hf
          have hT := of_bd hS; clear hS; obtain ⟨z7, hz7, hS⟩ := hT
          refine clV ent18 (vs := [.slice ao4 s2.length cp4]) (caps := []) hf (by kernel_rfl) (by kernel_rfl) (by kernel_rfl) (by kernel_rfl) (ref03_Get_ok (b := s2) (hs.lend [1] [] rfl rfl rfl rfl rfl) hz7) ?_
          clear hf; clear a; intro v w20 a hT hf; obtain ⟨F10, rfl, hr⟩ := hT
          replace hs : Sep w F R w20 F6 [.box w17.heap.size 25 [.int .i64 z6.1.1, .int .u64 z6.1.2.1, .int .u64 z6.1.2.2.1, .int .i64 z6.1.2.2.2], .row 5 (tI .u8) (.slice ao4 s2.length cp4) s2] := hs.backL [1] [] [0, 1] rfl rfl rfl rfl rfl rfl hr trivial
          clear hr
          replace hs : Sep w F R w20 F6 [.box w17.heap.size 25 [.int .i64 z6.1.1, .int .u64 z6.1.2.1, .int .u64 z6.1.2.2.1, .int .i64 z6.1.2.2.2]] := hs.sel [0] rfl rfl
          replace hf := Fr.keep (ks := [17, 18, 82]) (L' := [(17, .pointer (some ⟨w17.heap.size, 0, none⟩)), (18, .int .i64 z6.2), (82, .tuple #[.agg #[.int .i64 z7.1.1, .int .u64 z7.1.2.1, .int .u64 z7.1.2.2.1, .int .i64 z7.1.2.2.2], .int .i64 z7.2])]) hf (by kernel_rfl)
          refine st tbOk 3 [17, 18, 83, 84] (L' := [(17, .pointer (some ⟨w17.heap.size, 0, none⟩)), (18, .int .i64 z6.2), (83, .agg #[.int .i64 z7.1.1, .int .u64 z7.1.2.1, .int .u64 z7.1.2.2.1, .int .i64 z7.1.2.2.2]), (84, .int .i64 z7.2)]) hf (by kernel_rfl) ?_
          clear hf; clear a; intro a hf
          refine al tbOk i31 [.int .i64 0, .int .u64 0, .int .u64 0, .int .i64 0] rfl (by kernel_rfl) hf (by kernel_rfl) (by kernel_rfl) ?_
          clear hf; clear a; intro w21 a hb hx _ hf
          replace hs : Sep w F R w21 F6 [.box w20.heap.size 31 [.int .i64 0, .int .u64 0, .int .u64 0, .int .i64 0], .box w17.heap.size 25 [.int .i64 z6.1.1, .int .u64 z6.1.2.1, .int .u64 z6.1.2.2.1, .int .i64 z6.1.2.2.2]] := hs.newBox hb hx
          clear hb hx
          replace hf := Fr.keep (ks := [17, 18, 19, 83, 84]) (L' := [(17, .pointer (some ⟨w17.heap.size, 0, none⟩)), (18, .int .i64 z6.2), (19, .pointer (some ⟨w20.heap.size, 0, none⟩)), (83, .agg #[.int .i64 z7.1.1, .int .u64 z7.1.2.1, .int .u64 z7.1.2.2.1, .int .i64 z7.1.2.2.2]), (84, .int .i64 z7.2)]) hf (by kernel_rfl)
          refine stB tbOk i31 (hs.bx 0 rfl) 0 [.int .i64 z7.1.1, .int .u64 z7.1.2.1, .int .u64 z7.1.2.2.1, .int .i64 z7.1.2.2.2] [.int .i64 z7.1.1, .int .u64 z7.1.2.1, .int .u64 z7.1.2.2.1, .int .i64 z7.1.2.2.2] (v := .agg #[.int .i64 z7.1.1, .int .u64 z7.1.2.1, .int .u64 z7.1.2.2.1, .int .i64 z7.1.2.2.2]) rfl rfl (by kernel_rfl) (by kernel_rfl) (by kernel_rfl) (by kernel_rfl) hf (by kernel_rfl) (by kernel_rfl) (by kernel_rfl) ?_
          clear hf; clear a; intro w22 a hb hg _ hf
          replace hs : Sep w F R w22 F6 [.box w20.heap.size 31 [.int .i64 z7.1.1, .int .u64 z7.1.2.1, .int .u64 z7.1.2.2.1, .int .i64 z7.1.2.2.2], .box w17.heap.size 25 [.int .i64 z6.1.1, .int .u64 z6.1.2.1, .int .u64 z6.1.2.2.1, .int .i64 z6.1.2.2.2]] := hs.updBox 0 rfl hb hg
          clear hb hg
          replace hf := Fr.keep (ks := [17, 18, 19, 84]) (L' := [(17, .pointer (some ⟨w17.heap.size, 0, none⟩)), (18, .int .i64 z6.2), (19, .pointer (some ⟨w20.heap.size, 0, none⟩)), (84, .int .i64 z7.2)]) hf (by kernel_rfl)
          refine st tbOk 1 [17, 18, 19, 20] (L' := [(17, .pointer (some ⟨w17.heap.size, 0, none⟩)), (18, .int .i64 z6.2), (19, .pointer (some ⟨w20.heap.size, 0, none⟩)), (20, .int .i64 z7.2)]) hf (by kernel_rfl) ?_
          clear hf; clear a; intro a hf
          refine wpList_nil ?_
          refine sq ?_
          refine ctj (fun (s5 : Bool) (a : Act) (w' : World) => ∃ (F11 : SH), Sep w F R w' F11 [] ∧ Fr 94 [(8, .bool s5)] a) hS ?_ ?_
          · clear hS hf hs; clear a; intro s5 a w25 hM hS
            obtain ⟨F11, hs, hf⟩ := hM
            have hr := Option.some.inj hS; subst hr
            refine wp_ret ?_
            exact ret_ok hf (vs := [.bool s5]) (by kernel_rfl) ⟨_, rfl, hs.sel [] rfl rfl⟩
          · clear hS; intro KK5 k4 hK5 hS
            refine regQ mixed (by kernel_rfl) ?_
            refine stQ tbOk 4 [17, 19, 88] (L' := [(17, .pointer (some ⟨w17.heap.size, 0, none⟩)), (19, .pointer (some ⟨w20.heap.size, 0, none⟩)), (88, .bool (z6.2 == z7.2))]) hf (by kernel_rfl) ?_
            clear hf; clear a; intro a hf
            rcases Bool.eq_false_or_eq_true (z6.2 == z7.2) with hb6 | hb6
            · replace hS := of_t hb6 hS
              replace hf := Fr.cast (L' := [(17, .pointer (some ⟨w17.heap.size, 0, none⟩)), (19, .pointer (some ⟨w20.heap.size, 0, none⟩)), (88, .bool true)]) hf (by rw [hb6])
              refine ldCQ tbOk (T := 25) (hs.cbx 1 rfl) (LeH.refl _) 0 (.agg #[.int .i64 z6.1.1, .int .u64 z6.1.2.1, .int .u64 z6.1.2.2.1, .int .i64 z6.1.2.2.2]) hf (by kernel_rfl) (by kernel_rfl) (by kernel_rfl) (by kernel_rfl) ?_
              clear hf; clear a; intro a hf
              replace hs : Sep w F R w22 F6 [.box w20.heap.size 31 [.int .i64 z7.1.1, .int .u64 z7.1.2.1, .int .u64 z7.1.2.2.1, .int .i64 z7.1.2.2.2]] := hs.sel [0] rfl rfl
              replace hf := Fr.keep (ks := [19, 88, 89]) (L' := [(19, .pointer (some ⟨w20.heap.size, 0, none⟩)), (88, .bool true), (89, .agg #[.int .i64 z6.1.1, .int .u64 z6.1.2.1, .int .u64 z6.1.2.2.1, .int .i64 z6.1.2.2.2])]) hf (by kernel_rfl)
              have hT := of_bd hS; clear hS; obtain ⟨z8, hz8, hS⟩ := hT
              refine clVQ ent16 (vs := [.agg #[.int .i64 z6.1.1, .int .u64 z6.1.2.1, .int .u64 z6.1.2.2.1, .int .i64 z6.1.2.2.2]]) (caps := []) hf (by kernel_rfl) (by kernel_rfl) (by kernel_rfl) (by kernel_rfl) (.agg #[.int .i64 z8.1, .int .u64 z8.2.1, .int .u64 z8.2.2.1, .int .i64 z8.2.2.2]) (fun wq hq => (law03_model_ok (p_h := (z6.1.1, z6.1.2.1, z6.1.2.2.1, z6.1.2.2.2)) (hs.lendQ hq [] rfl rfl) hz8).mono fun _ _ h => Gives.mono (fun _ ⟨_, e, h⟩ => ⟨e, h.ex (pers_blks rfl)⟩) h) ?_
              clear hf; clear a; intro a hf
              replace hf := Fr.keep (ks := [19, 88, 90]) (L' := [(19, .pointer (some ⟨w20.heap.size, 0, none⟩)), (88, .bool true), (90, .agg #[.int .i64 z8.1, .int .u64 z8.2.1, .int .u64 z8.2.2.1, .int .i64 z8.2.2.2])]) hf (by kernel_rfl)
              refine ldCQ tbOk (T := 31) (hs.cbx 0 rfl) (LeH.refl _) 0 (.agg #[.int .i64 z7.1.1, .int .u64 z7.1.2.1, .int .u64 z7.1.2.2.1, .int .i64 z7.1.2.2.2]) hf (by kernel_rfl) (by kernel_rfl) (by kernel_rfl) (by kernel_rfl) ?_
              clear hf; clear a; intro a hf
              replace hs : Sep w F R w22 F6 [] := hs.sel [] rfl rfl
              replace hf := Fr.keep (ks := [88, 90, 91]) (L' := [(88, .bool true), (90, .agg #[.int .i64 z8.1, .int .u64 z8.2.1, .int .u64 z8.2.2.1, .int .i64 z8.2.2.2]), (91, .agg #[.int .i64 z7.1.1, .int .u64 z7.1.2.1, .int .u64 z7.1.2.2.1, .int .i64 z7.1.2.2.2])]) hf (by kernel_rfl)
              refine stQ tbOk 3 [8] (L' := [(8, .bool ((z8.1 == z7.1.1) && ((z8.2.1 == z7.1.2.1) && ((z8.2.2.1 == z7.1.2.2.1) && (z8.2.2.2 == z7.1.2.2.2)))))]) hf (by kernel_rfl) ?_
              clear hf; clear a; intro a hf
              refine wpQuiet_nil ?_
              intro w23 hx
              replace hs : Sep w F R w23 F6 [] := hs.ext hx
              clear hx
              exact hK5 ((z8.1 == z7.1.1) && ((z8.2.1 == z7.1.2.1) && ((z8.2.2.1 == z7.1.2.2.1) && (z8.2.2.2 == z7.1.2.2.2)))) _ _ ⟨_, hs.sel [] rfl rfl, hf.keep (ks := [8]) (by kernel_rfl)⟩ hS
            · replace hS := of_f hb6 hS
              replace hf := Fr.cast (L' := [(17, .pointer (some ⟨w17.heap.size, 0, none⟩)), (19, .pointer (some ⟨w20.heap.size, 0, none⟩)), (88, .bool false)]) hf (by rw [hb6])
              refine stQ tbOk 6 [8] (L' := [(8, .bool false)]) hf (by kernel_rfl) ?_
              clear hf; clear a; intro a hf
              refine wpQuiet_nil ?_
              intro w24 hx
              replace hs : Sep w F R w24 F6 [.box w20.heap.size 31 [.int .i64 z7.1.1, .int .u64 z7.1.2.1, .int .u64 z7.1.2.2.1, .int .i64 z7.1.2.2.2], .box w17.heap.size 25 [.int .i64 z6.1.1, .int .u64 z6.1.2.1, .int .u64 z6.1.2.2.1, .int .i64 z6.1.2.2.2]] := hs.ext hx
              clear hx
              exact hK5 false _ _ ⟨_, hs.sel [] rfl rfl, hf.keep (ks := [8]) (by kernel_rfl)⟩ hS
        · clear hS; intro KK2 k2 hK2 hS
          refine blk ?_
          refine lp (st := (0, z5.1)) (fun (s3 : Int × (List Int)) (a : Act) (w' : World) => ∃ (ao5 : Option Addr) (cp5 : Nat) (F7 : SH), Sep w F R w' F7 [.row 5 (tI .u8) (.slice ao5 s3.2.length cp5) s3.2, .ro (tI .i64) (.slice ao2 turn.length cp2) turn] ∧ Fr 94 [(3, .slice ao2 turn.length cp2), (14, .slice ao5 s3.2.length cp5), (16, .int .i64 s3.1)] a) ?_ ⟨ao3, cp3, _, hs.sel [0, 1] rfl rfl, hf.keep (ks := [3, 14, 16]) (by kernel_rfl)⟩ hS
          clear hS hf hs; clear a
          intro rec1 KK3 hK3 s3 a w12 hM hS
          obtain ⟨ao5, cp5, F7, hs, hf⟩ := hM
          refine sq ?_
          refine sq ?_
          refine ctj (fun (s4 : Bool) (a : Act) (w' : World) => ∃ (F8 : SH), Sep w F R w' F8 [.row 5 (tI .u8) (.slice ao5 s3.2.length cp5) s3.2, .ro (tI .i64) (.slice ao2 turn.length cp2) turn] ∧ Fr 94 [(3, .slice ao2 turn.length cp2), (14, .slice ao5 s3.2.length cp5), (16, .int .i64 s3.1), (58, .bool s4)] a) hS ?_ ?_
          · clear hS hf hs; clear a; intro s4 a w13 hM hS
            obtain ⟨F8, hs, hf⟩ := hM
            refine cnd (b := s4) hf (by kernel_rfl) (fun hb5 => ?_) (fun hb5 => ?_)
            · replace hS := of_t hb5 hS
              refine wp_skip ?_
              refine sq ?_
              refine blk ?_
              have hT := of_gd hS; clear hS; obtain ⟨hc1, hS⟩ := hT
              have hT := of_gd hS; clear hS; obtain ⟨hc2, hS⟩ := hT
              have hT := of_gd hS; clear hS; obtain ⟨hc3, hS⟩ := hT
              have hs0 := hs
              refine regF 14 [fun u uw => u = .slice ao5 s3.2.length cp5,
    fun u uw => u = .slice ao2 turn.length cp2,
    fun u uw => u = .int .i64 s3.1,
    fun u uw => ∃ (pb2 : Nat) (po2 : Nat) (F' : SH), u = .pointer (some ⟨pb2, po2, none⟩) ∧ Sep w13 F8 noR uw F' [.cel pb2 po2 [.int .i64 (gt turn s3.1)]],
    fun u uw => u = .int .i64 (gt turn s3.1),
    fun u uw => u = .int .i64 (band .i64 (gt turn s3.1) 63),
    fun u uw => u = .slice ao2 turn.length cp2,
    fun u uw => u = .int .i64 s3.1,
    fun u uw => u = .int .i64 (IntKind.i64.wrap (s3.1 + 1)),
    fun u uw => ∃ (pb4 : Nat) (po4 : Nat) (F' : SH), u = .pointer (some ⟨pb4, po4, none⟩) ∧ Sep w13 F8 noR uw F' [.cel pb4 po4 [.int .i64 (gt turn (IntKind.i64.wrap (s3.1 + 1)))]],
    fun u uw => u = .int .i64 (gt turn (IntKind.i64.wrap (s3.1 + 1))),
    fun u uw => u = .int .i64 (band .i64 (gt turn (IntKind.i64.wrap (s3.1 + 1))) 255),
    fun u uw => u = .int .u8 (IntKind.u8.wrap (band .i64 (gt turn (IntKind.i64.wrap (s3.1 + 1))) 255)),
    fun u uw => ∃ (pb6 : Nat) (po6 : Nat), u = .pointer (some ⟨pb6, po6, none⟩) ∧ OwnF (.slice ao5 s3.2.length cp5) 1 (band .i64 (gt turn s3.1) 63) 0 ⟨pb6, po6, none⟩] mixed (Fr.keep (ks := [3, 14, 16, 58]) (L' := [(3, .slice ao2 turn.length cp2), (14, .slice ao5 s3.2.length cp5), (16, .int .i64 s3.1), (58, .bool s4)]) hf (by kernel_rfl)) (by kernel_rfl) rfl ?_ ?_ ?_
              · exact ⟨fun _ _ _ h _ => h, fun _ _ _ h _ => h, fun _ _ _ h _ => h, fun _ _ _ ⟨pb2, po2, F', e, h⟩ hx => ⟨pb2, po2, F', e, h.ext hx⟩, fun _ _ _ h _ => h, fun _ _ _ h _ => h, fun _ _ _ h _ => h, fun _ _ _ h _ => h, fun _ _ _ h _ => h, fun _ _ _ ⟨pb4, po4, F', e, h⟩ hx => ⟨pb4, po4, F', e, h.ext hx⟩, fun _ _ _ h _ => h, fun _ _ _ h _ => h, fun _ _ _ h _ => h, fun _ _ _ ⟨pb6, po6, e, f0⟩ hx => ⟨pb6, po6, e, f0⟩, trivial⟩
              · clear hS hf hs; clear a
                refine ⟨?_, ?_, ?_, ?_, ?_, ?_, ?_, ?_, ?_, ?_, ?_, ?_, ?_, ?_, trivial⟩
                · intro a wf hX hf hd
                  clear hd
                  have hs : Sep wf (star F8 w13 wf) noR wf (star F8 w13 wf) [.ro (tI .i64) (.slice ao2 turn.length cp2) turn] := hs0.fstart hX [1] rfl rfl
                  refine st tbOk 1 [61] (L' := [(61, .slice ao5 s3.2.length cp5)]) hf (by kernel_rfl) ?_
                  clear hf; clear a; intro a hf
                  exact fq_ok (d := 61) rfl hf (hs.ex fun _ h => h) hf.1
                · intro a wf hX hf hd
                  clear hd
                  have hs : Sep wf (star F8 w13 wf) noR wf (star F8 w13 wf) [.ro (tI .i64) (.slice ao2 turn.length cp2) turn] := hs0.fstart hX [1] rfl rfl
                  refine st tbOk 1 [62] (L' := [(62, .slice ao2 turn.length cp2)]) hf (by kernel_rfl) ?_
                  clear hf; clear a; intro a hf
                  exact fq_ok (d := 62) rfl hf (hs.ex fun _ h => h) hf.1
                · intro a wf hX hf hd
                  clear hd
                  have hs : Sep wf (star F8 w13 wf) noR wf (star F8 w13 wf) [.ro (tI .i64) (.slice ao2 turn.length cp2) turn] := hs0.fstart hX [1] rfl rfl
                  refine st tbOk 1 [63] (L' := [(63, .int .i64 s3.1)]) hf (by kernel_rfl) ?_
                  clear hf; clear a; intro a hf
                  exact fq_ok (d := 63) rfl hf (hs.ex fun _ h => h) hf.1
                · intro a wf hX hf hd
                  have e_62 : a.tmps.getD 62 undef = .slice ao2 turn.length cp2 := hd 1 62 (by kernel_rfl) (by kernel_rfl)
                  have e_63 : a.tmps.getD 63 undef = .int .i64 s3.1 := hd 2 63 (by kernel_rfl) (by kernel_rfl)
                  replace hf : Fr 94 [(62, .slice ao2 turn.length cp2), (63, .int .i64 s3.1), (3, .slice ao2 turn.length cp2), (14, .slice ao5 s3.2.length cp5), (16, .int .i64 s3.1), (58, .bool s4)] a := ⟨e_62, e_63, hf⟩; clear e_62 e_63
                  clear hd
                  have hs : Sep wf (star F8 w13 wf) noR wf (star F8 w13 wf) [.ro (tI .i64) (.slice ao2 turn.length cp2) turn] := hs0.fstart hX [1] rfl rfl
                  refine ixR tbOk u34 i3 rfl rfl ((hs.ro 0 rfl).ra (LeH.refl _)) (k := .i64) (n := s3.1) hc1 hf (by kernel_rfl) (by kernel_rfl) (by kernel_rfl) (by kernel_rfl) ?_
                  clear hf; clear a; intro pb1 po1 c1 a hp1 hr1 hf
                  obtain rfl : c1 = [.int .i64 (gt turn s3.1)] := hr1
                  replace hs : Sep wf (star F8 w13 wf) noR wf (star F8 w13 wf) [.cel pb1 po1 [.int .i64 (gt turn s3.1)], .ro (tI .i64) (.slice ao2 turn.length cp2) turn] := hs.addCel hp1
                  exact fq_ok (d := 64) rfl hf (hs.ex fun _ h => h) ⟨pb1, po1, _, hf.1, (hs.sel [0] rfl rfl).rebase hX⟩
                · intro a wf hX hf hd
                  obtain ⟨pb2, po2, F_64, e_64, h_64⟩ : ∃ (pb2 : Nat) (po2 : Nat) (F' : SH), a.tmps.getD 64 undef = .pointer (some ⟨pb2, po2, none⟩) ∧ Sep w13 F8 noR wf F' [.cel pb2 po2 [.int .i64 (gt turn s3.1)]] := hd 3 64 (by kernel_rfl) (by kernel_rfl)
                  replace hf : Fr 94 [(64, .pointer (some ⟨pb2, po2, none⟩)), (3, .slice ao2 turn.length cp2), (14, .slice ao5 s3.2.length cp5), (16, .int .i64 s3.1), (58, .bool s4)] a := ⟨e_64, hf⟩; clear e_64
                  clear hd
                  have hs : Sep wf (star F8 w13 wf) noR wf (star F8 w13 wf) [.ro (tI .i64) (.slice ao2 turn.length cp2) turn] := hs0.fstart hX [1] rfl rfl
                  replace hs : Sep wf (star F8 w13 wf) noR wf (star F8 w13 wf) [.cel pb2 po2 [.int .i64 (gt turn s3.1)], .ro (tI .i64) (.slice ao2 turn.length cp2) turn] := hs.addStar h_64 0 rfl rfl
                  clear h_64
                  refine ldC tbOk (T := 3) (hs.ccel 0 rfl) (LeH.refl _) 0 (.int .i64 (gt turn s3.1)) hf (by kernel_rfl) (by kernel_rfl) (by kernel_rfl) (by kernel_rfl) ?_
                  clear hf; clear a; intro a hf
                  exact fq_ok (d := 65) rfl hf (hs.ex fun _ h => h) hf.1
                · intro a wf hX hf hd
                  have e_65 : a.tmps.getD 65 undef = .int .i64 (gt turn s3.1) := hd 4 65 (by kernel_rfl) (by kernel_rfl)
                  replace hf : Fr 94 [(65, .int .i64 (gt turn s3.1)), (3, .slice ao2 turn.length cp2), (14, .slice ao5 s3.2.length cp5), (16, .int .i64 s3.1), (58, .bool s4)] a := ⟨e_65, hf⟩; clear e_65
                  clear hd
                  have hs : Sep wf (star F8 w13 wf) noR wf (star F8 w13 wf) [.ro (tI .i64) (.slice ao2 turn.length cp2) turn] := hs0.fstart hX [1] rfl rfl
                  refine st tbOk 1 [66] (L' := [(66, .int .i64 (band .i64 (gt turn s3.1) 63))]) hf (by kernel_rfl) ?_
                  clear hf; clear a; intro a hf
                  exact fq_ok (d := 66) rfl hf (hs.ex fun _ h => h) hf.1
                · intro a wf hX hf hd
                  clear hd
                  have hs : Sep wf (star F8 w13 wf) noR wf (star F8 w13 wf) [.ro (tI .i64) (.slice ao2 turn.length cp2) turn] := hs0.fstart hX [1] rfl rfl
                  refine st tbOk 1 [67] (L' := [(67, .slice ao2 turn.length cp2)]) hf (by kernel_rfl) ?_
                  clear hf; clear a; intro a hf
                  exact fq_ok (d := 67) rfl hf (hs.ex fun _ h => h) hf.1
                · intro a wf hX hf hd
                  clear hd
                  have hs : Sep wf (star F8 w13 wf) noR wf (star F8 w13 wf) [.ro (tI .i64) (.slice ao2 turn.length cp2) turn] := hs0.fstart hX [1] rfl rfl
                  refine st tbOk 1 [68] (L' := [(68, .int .i64 s3.1)]) hf (by kernel_rfl) ?_
                  clear hf; clear a; intro a hf
                  exact fq_ok (d := 68) rfl hf (hs.ex fun _ h => h) hf.1
                · intro a wf hX hf hd
                  have e_68 : a.tmps.getD 68 undef = .int .i64 s3.1 := hd 7 68 (by kernel_rfl) (by kernel_rfl)
                  replace hf : Fr 94 [(68, .int .i64 s3.1), (3, .slice ao2 turn.length cp2), (14, .slice ao5 s3.2.length cp5), (16, .int .i64 s3.1), (58, .bool s4)] a := ⟨e_68, hf⟩; clear e_68
                  clear hd
                  have hs : Sep wf (star F8 w13 wf) noR wf (star F8 w13 wf) [.ro (tI .i64) (.slice ao2 turn.length cp2) turn] := hs0.fstart hX [1] rfl rfl
                  refine st tbOk 1 [69] (L' := [(69, .int .i64 (IntKind.i64.wrap (s3.1 + 1)))]) hf (by kernel_rfl) ?_
                  clear hf; clear a; intro a hf
                  exact fq_ok (d := 69) rfl hf (hs.ex fun _ h => h) hf.1
                · intro a wf hX hf hd
                  have e_67 : a.tmps.getD 67 undef = .slice ao2 turn.length cp2 := hd 6 67 (by kernel_rfl) (by kernel_rfl)
                  have e_69 : a.tmps.getD 69 undef = .int .i64 (IntKind.i64.wrap (s3.1 + 1)) := hd 8 69 (by kernel_rfl) (by kernel_rfl)
                  replace hf : Fr 94 [(67, .slice ao2 turn.length cp2), (69, .int .i64 (IntKind.i64.wrap (s3.1 + 1))), (3, .slice ao2 turn.length cp2), (14, .slice ao5 s3.2.length cp5), (16, .int .i64 s3.1), (58, .bool s4)] a := ⟨e_67, e_69, hf⟩; clear e_67 e_69
                  clear hd
                  have hs : Sep wf (star F8 w13 wf) noR wf (star F8 w13 wf) [.ro (tI .i64) (.slice ao2 turn.length cp2) turn] := hs0.fstart hX [1] rfl rfl
                  refine ixR tbOk u34 i3 rfl rfl ((hs.ro 0 rfl).ra (LeH.refl _)) (k := .i64) (n := IntKind.i64.wrap (s3.1 + 1)) hc2 hf (by kernel_rfl) (by kernel_rfl) (by kernel_rfl) (by kernel_rfl) ?_
                  clear hf; clear a; intro pb3 po3 c2 a hp2 hr2 hf
                  obtain rfl : c2 = [.int .i64 (gt turn (IntKind.i64.wrap (s3.1 + 1)))] := hr2
                  replace hs : Sep wf (star F8 w13 wf) noR wf (star F8 w13 wf) [.cel pb3 po3 [.int .i64 (gt turn (IntKind.i64.wrap (s3.1 + 1)))], .ro (tI .i64) (.slice ao2 turn.length cp2) turn] := hs.addCel hp2
                  exact fq_ok (d := 70) rfl hf (hs.ex fun _ h => h) ⟨pb3, po3, _, hf.1, (hs.sel [0] rfl rfl).rebase hX⟩
                · intro a wf hX hf hd
                  obtain ⟨pb4, po4, F_70, e_70, h_70⟩ : ∃ (pb4 : Nat) (po4 : Nat) (F' : SH), a.tmps.getD 70 undef = .pointer (some ⟨pb4, po4, none⟩) ∧ Sep w13 F8 noR wf F' [.cel pb4 po4 [.int .i64 (gt turn (IntKind.i64.wrap (s3.1 + 1)))]] := hd 9 70 (by kernel_rfl) (by kernel_rfl)
                  replace hf : Fr 94 [(70, .pointer (some ⟨pb4, po4, none⟩)), (3, .slice ao2 turn.length cp2), (14, .slice ao5 s3.2.length cp5), (16, .int .i64 s3.1), (58, .bool s4)] a := ⟨e_70, hf⟩; clear e_70
                  clear hd
                  have hs : Sep wf (star F8 w13 wf) noR wf (star F8 w13 wf) [.ro (tI .i64) (.slice ao2 turn.length cp2) turn] := hs0.fstart hX [1] rfl rfl
                  replace hs : Sep wf (star F8 w13 wf) noR wf (star F8 w13 wf) [.cel pb4 po4 [.int .i64 (gt turn (IntKind.i64.wrap (s3.1 + 1)))], .ro (tI .i64) (.slice ao2 turn.length cp2) turn] := hs.addStar h_70 0 rfl rfl
                  clear h_70
                  refine ldC tbOk (T := 3) (hs.ccel 0 rfl) (LeH.refl _) 0 (.int .i64 (gt turn (IntKind.i64.wrap (s3.1 + 1)))) hf (by kernel_rfl) (by kernel_rfl) (by kernel_rfl) (by kernel_rfl) ?_
                  clear hf; clear a; intro a hf
                  exact fq_ok (d := 71) rfl hf (hs.ex fun _ h => h) hf.1
                · intro a wf hX hf hd
                  have e_71 : a.tmps.getD 71 undef = .int .i64 (gt turn (IntKind.i64.wrap (s3.1 + 1))) := hd 10 71 (by kernel_rfl) (by kernel_rfl)
                  replace hf : Fr 94 [(71, .int .i64 (gt turn (IntKind.i64.wrap (s3.1 + 1)))), (3, .slice ao2 turn.length cp2), (14, .slice ao5 s3.2.length cp5), (16, .int .i64 s3.1), (58, .bool s4)] a := ⟨e_71, hf⟩; clear e_71
                  clear hd
                  have hs : Sep wf (star F8 w13 wf) noR wf (star F8 w13 wf) [.ro (tI .i64) (.slice ao2 turn.length cp2) turn] := hs0.fstart hX [1] rfl rfl
                  refine st tbOk 1 [72] (L' := [(72, .int .i64 (band .i64 (gt turn (IntKind.i64.wrap (s3.1 + 1))) 255))]) hf (by kernel_rfl) ?_
                  clear hf; clear a; intro a hf
                  exact fq_ok (d := 72) rfl hf (hs.ex fun _ h => h) hf.1
                · intro a wf hX hf hd
                  have e_72 : a.tmps.getD 72 undef = .int .i64 (band .i64 (gt turn (IntKind.i64.wrap (s3.1 + 1))) 255) := hd 11 72 (by kernel_rfl) (by kernel_rfl)
                  replace hf : Fr 94 [(72, .int .i64 (band .i64 (gt turn (IntKind.i64.wrap (s3.1 + 1))) 255)), (3, .slice ao2 turn.length cp2), (14, .slice ao5 s3.2.length cp5), (16, .int .i64 s3.1), (58, .bool s4)] a := ⟨e_72, hf⟩; clear e_72
                  clear hd
                  have hs : Sep wf (star F8 w13 wf) noR wf (star F8 w13 wf) [.ro (tI .i64) (.slice ao2 turn.length cp2) turn] := hs0.fstart hX [1] rfl rfl
                  refine st tbOk 1 [73] (L' := [(73, .int .u8 (IntKind.u8.wrap (band .i64 (gt turn (IntKind.i64.wrap (s3.1 + 1))) 255)))]) hf (by kernel_rfl) ?_
                  clear hf; clear a; intro a hf
                  exact fq_ok (d := 73) rfl hf (hs.ex fun _ h => h) hf.1
                · intro a wf hX hf hd
                  have e_61 : a.tmps.getD 61 undef = .slice ao5 s3.2.length cp5 := hd 0 61 (by kernel_rfl) (by kernel_rfl)
                  have e_66 : a.tmps.getD 66 undef = .int .i64 (band .i64 (gt turn s3.1) 63) := hd 5 66 (by kernel_rfl) (by kernel_rfl)
                  replace hf : Fr 94 [(61, .slice ao5 s3.2.length cp5), (66, .int .i64 (band .i64 (gt turn s3.1) 63)), (3, .slice ao2 turn.length cp2), (14, .slice ao5 s3.2.length cp5), (16, .int .i64 s3.1), (58, .bool s4)] a := ⟨e_61, e_66, hf⟩; clear e_61 e_66
                  clear hd
                  have hs : Sep wf (star F8 w13 wf) noR wf (star F8 w13 wf) [.ro (tI .i64) (.slice ao2 turn.length cp2) turn] := hs0.fstart hX [1] rfl rfl
                  refine ixW tbOk u26 i5 (hs0.own 0 rfl) (k := .i64) (n := band .i64 (gt turn s3.1) 63) hc3 hf (by kernel_rfl) (by kernel_rfl) (by kernel_rfl) (by kernel_rfl) ?_
                  clear hf; clear a; intro pb5 po5 a hq1 hf
                  exact fq_ok (d := 74) rfl hf (hs.ex fun _ h => h) ⟨pb5, po5, hf.1, hq1⟩
              · clear hf hs; clear a; intro a w14 hx hf hd
                have hs : Sep w F R w14 (star F8 w13 w14) [.row 5 (tI .u8) (.slice ao5 s3.2.length cp5) s3.2, .ro (tI .i64) (.slice ao2 turn.length cp2) turn] := hs0.starX hx
                have e_73 : a.tmps.getD 73 undef = .int .u8 (IntKind.u8.wrap (band .i64 (gt turn (IntKind.i64.wrap (s3.1 + 1))) 255)) := hd 12 73 (by kernel_rfl) (by kernel_rfl)
                obtain ⟨pb6, po6, e_74, hq2⟩ : ∃ (pb6 : Nat) (po6 : Nat), a.tmps.getD 74 undef = .pointer (some ⟨pb6, po6, none⟩) ∧ OwnF (.slice ao5 s3.2.length cp5) 1 (band .i64 (gt turn s3.1) 63) 0 ⟨pb6, po6, none⟩ := hd 13 74 (by kernel_rfl) (by kernel_rfl)
                clear hd hx
                clear hs0
                replace hf : Fr 94 [(73, .int .u8 (IntKind.u8.wrap (band .i64 (gt turn (IntKind.i64.wrap (s3.1 + 1))) 255))), (74, .pointer (some ⟨pb6, po6, none⟩)), (3, .slice ao2 turn.length cp2), (14, .slice ao5 s3.2.length cp5), (16, .int .i64 s3.1), (58, .bool s4)] a := ⟨e_73, e_74, hf⟩
                clear e_73 e_74
                replace hf := Fr.keep (ks := [3, 14, 16, 73, 74]) (L' := [(3, .slice ao2 turn.length cp2), (14, .slice ao5 s3.2.length cp5), (16, .int .i64 s3.1), (73, .int .u8 (IntKind.u8.wrap (band .i64 (gt turn (IntKind.i64.wrap (s3.1 + 1))) 255))), (74, .pointer (some ⟨pb6, po6, none⟩))]) hf (by kernel_rfl)
                refine stW tbOk i5 rfl (hs.own 0 rfl) hc3 0 hq2 [.int .u8 (IntKind.u8.wrap (band .i64 (gt turn (IntKind.i64.wrap (s3.1 + 1))) 255))] (z := IntKind.u8.wrap (band .i64 (gt turn (IntKind.i64.wrap (s3.1 + 1))) 255)) (fun _ e => (congrArg (fun c => spl c 0 [.int .u8 (IntKind.u8.wrap (band .i64 (gt turn (IntKind.i64.wrap (s3.1 + 1))) 255))]) e).trans rfl) (u := .int .u8 (IntKind.u8.wrap (band .i64 (gt turn (IntKind.i64.wrap (s3.1 + 1))) 255))) rfl rfl (by kernel_rfl) (by kernel_rfl) hf (by kernel_rfl) (by kernel_rfl) (by kernel_rfl) ?_
                clear hf; clear a; intro w15 a ho hg hf
                replace hs := hs.updRow 0 rfl ho hg (fun _ h => .inl h)
                clear ho hg
                replace hs : Sep w F R w15 (star F8 w13 w14) [.row 5 (tI .u8) (.slice ao5 (s3.2.set (Int.toNat (band .i64 (gt turn s3.1) 63)) (IntKind.u8.wrap (band .i64 (gt turn (IntKind.i64.wrap (s3.1 + 1))) 255))).length cp5) (s3.2.set (Int.toNat (band .i64 (gt turn s3.1) 63)) (IntKind.u8.wrap (band .i64 (gt turn (IntKind.i64.wrap (s3.1 + 1))) 255))), .ro (tI .i64) (.slice ao2 turn.length cp2) turn] := Sep.cast hs (by simp only [List.length_set]; rfl)
                replace hf := Fr.cast (L' := [(3, .slice ao2 turn.length cp2), (14, .slice ao5 (s3.2.set (Int.toNat (band .i64 (gt turn s3.1) 63)) (IntKind.u8.wrap (band .i64 (gt turn (IntKind.i64.wrap (s3.1 + 1))) 255))).length cp5), (16, .int .i64 s3.1), (73, .int .u8 (IntKind.u8.wrap (band .i64 (gt turn (IntKind.i64.wrap (s3.1 + 1))) 255))), (74, .pointer (some ⟨pb6, po6, none⟩))]) hf (by simp only [List.length_set])
                replace hf := Fr.keep (ks := [3, 14, 16]) (L' := [(3, .slice ao2 turn.length cp2), (14, .slice ao5 (s3.2.set (Int.toNat (band .i64 (gt turn s3.1) 63)) (IntKind.u8.wrap (band .i64 (gt turn (IntKind.i64.wrap (s3.1 + 1))) 255))).length cp5), (16, .int .i64 s3.1)]) hf (by kernel_rfl)
                refine wpList_nil ?_
                refine reg ?_
                have hT := of_let hS; clear hS; obtain ⟨i_1, hl1, hS⟩ := hT
                refine st tbOk 3 [3, 14, 16] (L' := [(3, .slice ao2 turn.length cp2), (14, .slice ao5 (s3.2.set (Int.toNat (band .i64 (gt turn s3.1) 63)) (IntKind.u8.wrap (band .i64 (gt turn (IntKind.i64.wrap (s3.1 + 1))) 255))).length cp5), (16, .int .i64 i_1)]) hf (by subst hl1; kernel_rfl) ?_
                clear hf; clear a; intro a hf
                refine wpList_nil ?_
                exact hK3 (i_1, (s3.2.set (Int.toNat (band .i64 (gt turn s3.1) 63)) (IntKind.u8.wrap (band .i64 (gt turn (IntKind.i64.wrap (s3.1 + 1))) 255)))) _ _ ⟨ao5, cp5, _, hs.sel [0, 1] rfl rfl, hf.keep (ks := [3, 14, 16]) (by kernel_rfl)⟩ hS
            · replace hS := of_f hb5 hS
              refine wp_exit ?_
              exact hK2 s3.2 _ _ ⟨ao5, cp5, _, hs.sel [0] rfl rfl, hf.keep (ks := [14]) (by kernel_rfl)⟩ hS
          · clear hS; intro KK4 k3 hK4 hS
            refine reg ?_
            refine st tbOk 6 [3, 14, 16, 55] (L' := [(3, .slice ao2 turn.length cp2), (14, .slice ao5 s3.2.length cp5), (16, .int .i64 s3.1), (55, .bool (decide ((IntKind.i64.wrap (s3.1 + 1)) < ((turn.length : Nat) : Int))))]) hf (by kernel_rfl) ?_
            clear hf; clear a; intro a hf
            rcases Bool.eq_false_or_eq_true (decide ((IntKind.i64.wrap (s3.1 + 1)) < ((turn.length : Nat) : Int))) with hb4 | hb4
            · replace hS := of_t hb4 hS
              replace hf := Fr.cast (L' := [(3, .slice ao2 turn.length cp2), (14, .slice ao5 s3.2.length cp5), (16, .int .i64 s3.1), (55, .bool true)]) hf (by rw [hb4])
              refine st tbOk 3 [3, 14, 16, 58] (L' := [(3, .slice ao2 turn.length cp2), (14, .slice ao5 s3.2.length cp5), (16, .int .i64 s3.1), (58, .bool (decide (s3.1 < 6)))]) hf (by kernel_rfl) ?_
              clear hf; clear a; intro a hf
              refine wpList_nil ?_
              exact hK4 (decide (s3.1 < 6)) _ _ ⟨_, hs.sel [0, 1] rfl rfl, hf.keep (ks := [3, 14, 16, 58]) (by kernel_rfl)⟩ hS
            · replace hS := of_f hb4 hS
              replace hf := Fr.cast (L' := [(3, .slice ao2 turn.length cp2), (14, .slice ao5 s3.2.length cp5), (16, .int .i64 s3.1), (55, .bool false)]) hf (by rw [hb4])
              refine st tbOk 3 [3, 14, 16, 58] (L' := [(3, .slice ao2 turn.length cp2), (14, .slice ao5 s3.2.length cp5), (16, .int .i64 s3.1), (58, .bool false)]) hf (by kernel_rfl) ?_
              clear hf; clear a; intro a hf
              refine wpList_nil ?_
              exact hK4 false _ _ ⟨_, hs.sel [0, 1] rfl rfl, hf.keep (ks := [3, 14, 16, 58]) (by kernel_rfl)⟩ hS
    · clear hS; intro KK1 k1 hK1 hS
      refine regQ mixed (by kernel_rfl) ?_
      refine stQ tbOk 4 [1, 2, 3, 10, 12, 37] (L' := [(1, .int .u64 entry), (2, .int .u64 segs), (3, .slice ao2 turn.length cp2), (10, .pointer (some ⟨w2.heap.size, 0, none⟩)), (12, .pointer (some ⟨w5.heap.size, 0, none⟩)), (37, .bool (z2.2 != z3.2))]) hf (by kernel_rfl) ?_
      clear hf; clear a; intro a hf
      rcases Bool.eq_false_or_eq_true (z2.2 != z3.2) with hb2 | hb2
      · replace hS := of_t hb2 hS
        replace hf := Fr.cast (L' := [(1, .int .u64 entry), (2, .int .u64 segs), (3, .slice ao2 turn.length cp2), (10, .pointer (some ⟨w2.heap.size, 0, none⟩)), (12, .pointer (some ⟨w5.heap.size, 0, none⟩)), (37, .bool true)]) hf (by rw [hb2])
        refine stQ tbOk 5 [1, 2, 3, 42] (L' := [(1, .int .u64 entry), (2, .int .u64 segs), (3, .slice ao2 turn.length cp2), (42, .bool true)]) hf (by kernel_rfl) ?_
        clear hf; clear a; intro a hf
        refine wpQuiet_nil ?_
        intro w8 hx
        replace hs : Sep w F R w8 F3 [.box w5.heap.size 31 [.int .i64 z3.1.1, .int .u64 z3.1.2.1, .int .u64 z3.1.2.2.1, .int .i64 z3.1.2.2.2], .box w2.heap.size 25 [.int .i64 z2.1.1, .int .u64 z2.1.2.1, .int .u64 z2.1.2.2.1, .int .i64 z2.1.2.2.2], .ro (tI .i64) (.slice ao2 turn.length cp2) turn] := hs.ext hx
        clear hx
        exact hK1 true _ _ ⟨_, hs.sel [2] rfl rfl, hf.keep (ks := [1, 2, 3, 42]) (by kernel_rfl)⟩ hS
      · replace hS := of_f hb2 hS
        replace hf := Fr.cast (L' := [(1, .int .u64 entry), (2, .int .u64 segs), (3, .slice ao2 turn.length cp2), (10, .pointer (some ⟨w2.heap.size, 0, none⟩)), (12, .pointer (some ⟨w5.heap.size, 0, none⟩)), (37, .bool false)]) hf (by rw [hb2])
        refine ldCQ tbOk (T := 25) (hs.cbx 1 rfl) (LeH.refl _) 0 (.agg #[.int .i64 z2.1.1, .int .u64 z2.1.2.1, .int .u64 z2.1.2.2.1, .int .i64 z2.1.2.2.2]) hf (by kernel_rfl) (by kernel_rfl) (by kernel_rfl) (by kernel_rfl) ?_
        clear hf; clear a; intro a hf
        replace hs : Sep w F R w7 F3 [.box w5.heap.size 31 [.int .i64 z3.1.1, .int .u64 z3.1.2.1, .int .u64 z3.1.2.2.1, .int .i64 z3.1.2.2.2], .ro (tI .i64) (.slice ao2 turn.length cp2) turn] := hs.sel [0, 2] rfl rfl
        replace hf := Fr.keep (ks := [1, 2, 3, 12, 37, 38]) (L' := [(1, .int .u64 entry), (2, .int .u64 segs), (3, .slice ao2 turn.length cp2), (12, .pointer (some ⟨w5.heap.size, 0, none⟩)), (37, .bool false), (38, .agg #[.int .i64 z2.1.1, .int .u64 z2.1.2.1, .int .u64 z2.1.2.2.1, .int .i64 z2.1.2.2.2])]) hf (by kernel_rfl)
        have hT := of_bd hS; clear hS; obtain ⟨z4, hz4, hS⟩ := hT
        refine clVQ ent16 (vs := [.agg #[.int .i64 z2.1.1, .int .u64 z2.1.2.1, .int .u64 z2.1.2.2.1, .int .i64 z2.1.2.2.2]]) (caps := []) hf (by kernel_rfl) (by kernel_rfl) (by kernel_rfl) (by kernel_rfl) (.agg #[.int .i64 z4.1, .int .u64 z4.2.1, .int .u64 z4.2.2.1, .int .i64 z4.2.2.2]) (fun wq hq => (law03_model_ok (p_h := (z2.1.1, z2.1.2.1, z2.1.2.2.1, z2.1.2.2.2)) (hs.lendQ hq [] rfl rfl) hz4).mono fun _ _ h => Gives.mono (fun _ ⟨_, e, h⟩ => ⟨e, h.ex (pers_blks rfl)⟩) h) ?_
        clear hf; clear a; intro a hf
        replace hf := Fr.keep (ks := [1, 2, 3, 12, 37, 39]) (L' := [(1, .int .u64 entry), (2, .int .u64 segs), (3, .slice ao2 turn.length cp2), (12, .pointer (some ⟨w5.heap.size, 0, none⟩)), (37, .bool false), (39, .agg #[.int .i64 z4.1, .int .u64 z4.2.1, .int .u64 z4.2.2.1, .int .i64 z4.2.2.2])]) hf (by kernel_rfl)
        refine ldCQ tbOk (T := 31) (hs.cbx 0 rfl) (LeH.refl _) 0 (.agg #[.int .i64 z3.1.1, .int .u64 z3.1.2.1, .int .u64 z3.1.2.2.1, .int .i64 z3.1.2.2.2]) hf (by kernel_rfl) (by kernel_rfl) (by kernel_rfl) (by kernel_rfl) ?_
        clear hf; clear a; intro a hf
        replace hs : Sep w F R w7 F3 [.ro (tI .i64) (.slice ao2 turn.length cp2) turn] := hs.sel [1] rfl rfl
        replace hf := Fr.keep (ks := [1, 2, 3, 37, 39, 40]) (L' := [(1, .int .u64 entry), (2, .int .u64 segs), (3, .slice ao2 turn.length cp2), (37, .bool false), (39, .agg #[.int .i64 z4.1, .int .u64 z4.2.1, .int .u64 z4.2.2.1, .int .i64 z4.2.2.2]), (40, .agg #[.int .i64 z3.1.1, .int .u64 z3.1.2.1, .int .u64 z3.1.2.2.1, .int .i64 z3.1.2.2.2])]) hf (by kernel_rfl)
        refine stQ tbOk 2 [1, 2, 3, 42] (L' := [(1, .int .u64 entry), (2, .int .u64 segs), (3, .slice ao2 turn.length cp2), (42, .bool (!((z4.1 == z3.1.1) && ((z4.2.1 == z3.1.2.1) && ((z4.2.2.1 == z3.1.2.2.1) && (z4.2.2.2 == z3.1.2.2.2))))))]) hf (by kernel_rfl) ?_
        clear hf; clear a; intro a hf
        refine wpQuiet_nil ?_
        intro w9 hx
        replace hs : Sep w F R w9 F3 [.ro (tI .i64) (.slice ao2 turn.length cp2) turn] := hs.ext hx
        clear hx
        exact hK1 (!((z4.1 == z3.1.1) && ((z4.2.1 == z3.1.2.1) && ((z4.2.2.1 == z3.1.2.2.1) && (z4.2.2.2 == z3.1.2.2.2))))) _ _ ⟨_, hs.sel [0] rfl rfl, hf.keep (ks := [1, 2, 3, 42]) (by kernel_rfl)⟩ hS

end Dm
