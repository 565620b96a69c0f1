/-
  The walk of the law SegsGets; printed by a program of this repo. No condition.
-/
import Derived.Test.YtljdbjimdidigaaWT
import Derived.Test.YtljdbjimdidigaaW0
import Derived.Test.YtljdbjimdidigaaW1
import Derived.Test.YtljdbjimdidigaaW3
namespace Dm
open Go Go.RowKit Go.Proofs

set_option maxHeartbeats 4000000 in
theorem law04_SegsGets_ok {w : World} {F : SH} {b : List Int} {p_at : Int} {n : Int} {ao1 : Option Addr} {cp1 : Nat} (hs : Sep w F (blks [.ro (tI .u8) (.slice ao1 b.length cp1) b]) w F [.ro (tI .u8) (.slice ao1 b.length cp1) b]) {r : Bool} (hS : law04_SegsGets b p_at n = some r) :
    Calls Try.prog 4 [.slice ao1 b.length cp1, .int .u64 p_at, .int .i64 n].toArray w (Gives (fun u w' => ∃ (F' : SH), u = .bool r ∧ Sep w F (blks [.ro (tI .u8) (.slice ao1 b.length cp1) b]) w' F' [])) := by
  generalize (blks [.ro (tI .u8) (.slice ao1 b.length cp1) b]) = R at hs ⊢
  unfold law04_SegsGets at hS
  refine fn_ok (vs := [.slice ao1 b.length cp1, .int .u64 p_at, .int .i64 n]) Try.func4 rfl 80 Try.ntmps4 (Nat.le_of_ble_eq_true rfl) ?_
  intro a hf
  replace hf := Fr.cast (L' := [(0, .slice ao1 b.length cp1), (1, .int .u64 p_at), (2, .int .i64 n)]) hf (by kernel_rfl)
  refine sq ?_
  refine reg ?_
  refine st tbOk 1 [0, 1, 2] (L' := [(0, .slice ao1 b.length cp1), (1, .int .u64 p_at), (2, .int .i64 n)]) hf (by kernel_rfl) ?_
  clear hf; clear a; intro a hf
  refine wpList_nil ?_
  refine sq ?_
  refine reg ?_
  have hT := of_bd hS; clear hS; obtain ⟨z1, hz1, hS⟩ := hT
  refine clV ent11 (vs := []) (caps := []) hf (by kernel_rfl) (by kernel_rfl) (by kernel_rfl) (by kernel_rfl) (law04_awake_ok (hs.enter [] rfl rfl) hz1) ?_
  clear hf; clear a; intro v w1 a hT hf; obtain ⟨F1, rfl, hr⟩ := hT
  replace hs : Sep w F R w1 F1 [.ro (tI .u8) (.slice ao1 b.length cp1) b] := hs.back [] [0] rfl rfl rfl rfl hr
  clear hr
  replace hf := Fr.keep (ks := [0, 1, 2, 17]) (L' := [(0, .slice ao1 b.length cp1), (1, .int .u64 p_at), (2, .int .i64 n), (17, .bool z1)]) hf (by kernel_rfl)
  refine st tbOk 1 [0, 1, 2, 7] (L' := [(0, .slice ao1 b.length cp1), (1, .int .u64 p_at), (2, .int .i64 n), (7, .bool z1)]) hf (by kernel_rfl) ?_
  clear hf; clear a; intro a hf
  refine wpList_nil ?_
  refine sq ?_
  refine sq ?_
  refine reg ?_
  refine st tbOk 2 [0, 1, 2, 19] (L' := [(0, .slice ao1 b.length cp1), (1, .int .u64 p_at), (2, .int .i64 n), (19, .bool (!z1))]) hf (by kernel_rfl) ?_
  clear hf; clear a; intro a hf
  refine wpList_nil ?_
  refine cnd (b := !z1) hf (by kernel_rfl) (fun hb1 => ?_) (fun hb1 => ?_)
  · replace hS := of_t hb1 hS
    refine sq ?_
    refine reg ?_
    refine st tbOk 1 [6] (L' := [(6, .bool false)]) hf (by kernel_rfl) ?_
    clear hf; clear a; intro a hf
    refine wpList_nil ?_
    have hr := Option.some.inj hS; subst hr
    refine wp_ret ?_
    exact ret_ok hf (vs := [.bool false]) (by kernel_rfl) ⟨_, rfl, hs.sel [] rfl rfl⟩
  · replace hS := of_f hb1 hS
    refine wp_skip ?_
    refine sq ?_
    refine sq ?_
    refine reg ?_
    refine st tbOk 3 [0, 1, 2, 22] (L' := [(0, .slice ao1 b.length cp1), (1, .int .u64 p_at), (2, .int .i64 n), (22, .bool (decide (((b.length : Nat) : Int) > 4000)))]) hf (by kernel_rfl) ?_
    clear hf; clear a; intro a hf
    refine wpList_nil ?_
    refine cnd (b := decide (((b.length : Nat) : Int) > 4000)) hf (by kernel_rfl) (fun hb2 => ?_) (fun hb2 => ?_)
    · replace hS := of_t hb2 hS
      refine sq ?_
      refine reg ?_
      refine st tbOk 1 [6] (L' := [(6, .bool true)]) hf (by kernel_rfl) ?_
      clear hf; clear a; intro a hf
      refine wpList_nil ?_
      have hr := Option.some.inj hS; subst hr
      refine wp_ret ?_
      exact ret_ok hf (vs := [.bool true]) (by kernel_rfl) ⟨_, rfl, hs.sel [] rfl rfl⟩
    · replace hS := of_f hb2 hS
      refine wp_skip ?_
      refine sq ?_
      refine reg ?_
      refine st tbOk 1 [0, 1, 2, 24] (L' := [(0, .slice ao1 b.length cp1), (1, .int .u64 p_at), (2, .int .i64 n), (24, .slice ao1 b.length cp1)]) hf (by kernel_rfl) ?_
      clear hf; clear a; intro a hf
      have hT := of_bd hS; clear hS; obtain ⟨z2, hz2, hS⟩ := hT
      refine clV ent13 (vs := [.slice ao1 b.length cp1]) (caps := []) hf (by kernel_rfl) (by kernel_rfl) (by kernel_rfl) (by kernel_rfl) (segs_Get_ok (b := b) (hs.enter [0] rfl rfl) hz2) ?_
      clear hf; clear a; intro v w2 a hT hf; obtain ⟨F2, rfl, hr⟩ := hT
      replace hs : Sep w F R w2 F2 [.ro (tI .u8) (.slice ao1 b.length cp1) b] := hs.back [0] [0] rfl rfl rfl rfl hr
      clear hr
      replace hf := Fr.keep (ks := [0, 1, 2, 25]) (L' := [(0, .slice ao1 b.length cp1), (1, .int .u64 p_at), (2, .int .i64 n), (25, .tuple #[.agg #[.int .u32 z2.1.1, .int .u32 z2.1.2.1, .int .u64 z2.1.2.2.1, .int .u64 z2.1.2.2.2.1, .int .u64 z2.1.2.2.2.2.1, .int .u64 z2.1.2.2.2.2.2.1, .int .u64 z2.1.2.2.2.2.2.2], .int .i64 z2.2])]) hf (by kernel_rfl)
      refine st tbOk 3 [0, 1, 2, 26, 27] (L' := [(0, .slice ao1 b.length cp1), (1, .int .u64 p_at), (2, .int .i64 n), (26, .agg #[.int .u32 z2.1.1, .int .u32 z2.1.2.1, .int .u64 z2.1.2.2.1, .int .u64 z2.1.2.2.2.1, .int .u64 z2.1.2.2.2.2.1, .int .u64 z2.1.2.2.2.2.2.1, .int .u64 z2.1.2.2.2.2.2.2]), (27, .int .i64 z2.2)]) hf (by kernel_rfl) ?_
      clear hf; clear a; intro a hf
      refine al tbOk i25 [.int .u32 0, .int .u32 0, .int .u64 0, .int .u64 0, .int .u64 0, .int .u64 0, .int .u64 0] rfl (by kernel_rfl) hf (by kernel_rfl) (by kernel_rfl) ?_
      clear hf; clear a; intro w3 a hb hx _ hf
      replace hs : Sep w F R w3 F2 [.box w2.heap.size 25 [.int .u32 0, .int .u32 0, .int .u64 0, .int .u64 0, .int .u64 0, .int .u64 0, .int .u64 0], .ro (tI .u8) (.slice ao1 b.length cp1) b] := hs.newBox hb hx
      clear hb hx
      replace hf := Fr.keep (ks := [0, 1, 2, 8, 26, 27]) (L' := [(0, .slice ao1 b.length cp1), (1, .int .u64 p_at), (2, .int .i64 n), (8, .pointer (some ⟨w2.heap.size, 0, none⟩)), (26, .agg #[.int .u32 z2.1.1, .int .u32 z2.1.2.1, .int .u64 z2.1.2.2.1, .int .u64 z2.1.2.2.2.1, .int .u64 z2.1.2.2.2.2.1, .int .u64 z2.1.2.2.2.2.2.1, .int .u64 z2.1.2.2.2.2.2.2]), (27, .int .i64 z2.2)]) hf (by kernel_rfl)
      refine stB tbOk i25 (hs.bx 0 rfl) 0 [.int .u32 z2.1.1, .int .u32 z2.1.2.1, .int .u64 z2.1.2.2.1, .int .u64 z2.1.2.2.2.1, .int .u64 z2.1.2.2.2.2.1, .int .u64 z2.1.2.2.2.2.2.1, .int .u64 z2.1.2.2.2.2.2.2] [.int .u32 z2.1.1, .int .u32 z2.1.2.1, .int .u64 z2.1.2.2.1, .int .u64 z2.1.2.2.2.1, .int .u64 z2.1.2.2.2.2.1, .int .u64 z2.1.2.2.2.2.2.1, .int .u64 z2.1.2.2.2.2.2.2] (v := .agg #[.int .u32 z2.1.1, .int .u32 z2.1.2.1, .int .u64 z2.1.2.2.1, .int .u64 z2.1.2.2.2.1, .int .u64 z2.1.2.2.2.2.1, .int .u64 z2.1.2.2.2.2.2.1, .int .u64 z2.1.2.2.2.2.2.2]) rfl rfl (by kernel_rfl) (by kernel_rfl) (by kernel_rfl) (by kernel_rfl) hf (by kernel_rfl) (by kernel_rfl) (by kernel_rfl) ?_
      clear hf; clear a; intro w4 a hb hg _ hf
      replace hs : Sep w F R w4 F2 [.box w2.heap.size 25 [.int .u32 z2.1.1, .int .u32 z2.1.2.1, .int .u64 z2.1.2.2.1, .int .u64 z2.1.2.2.2.1, .int .u64 z2.1.2.2.2.2.1, .int .u64 z2.1.2.2.2.2.2.1, .int .u64 z2.1.2.2.2.2.2.2], .ro (tI .u8) (.slice ao1 b.length cp1) b] := hs.updBox 0 rfl hb hg
      clear hb hg
      replace hf := Fr.keep (ks := [0, 1, 2, 8, 27]) (L' := [(0, .slice ao1 b.length cp1), (1, .int .u64 p_at), (2, .int .i64 n), (8, .pointer (some ⟨w2.heap.size, 0, none⟩)), (27, .int .i64 z2.2)]) hf (by kernel_rfl)
      refine st tbOk 1 [0, 1, 2, 8, 9] (L' := [(0, .slice ao1 b.length cp1), (1, .int .u64 p_at), (2, .int .i64 n), (8, .pointer (some ⟨w2.heap.size, 0, none⟩)), (9, .int .i64 z2.2)]) hf (by kernel_rfl) ?_
      clear hf; clear a; intro a hf
      refine wpList_nil ?_
      refine sq ?_
      refine reg ?_
      refine st tbOk 1 [0, 1, 2, 8, 9, 29] (L' := [(0, .slice ao1 b.length cp1), (1, .int .u64 p_at), (2, .int .i64 n), (8, .pointer (some ⟨w2.heap.size, 0, none⟩)), (9, .int .i64 z2.2), (29, .slice ao1 b.length cp1)]) hf (by kernel_rfl) ?_
      clear hf; clear a; intro a hf
      have hT := of_bd hS; clear hS; obtain ⟨z3, hz3, hS⟩ := hT
      refine clV ent15 (vs := [.slice ao1 b.length cp1]) (caps := []) hf (by kernel_rfl) (by kernel_rfl) (by kernel_rfl) (by kernel_rfl) (ref04_Get_ok (b := b) (hs.enter [1] rfl rfl) hz3) ?_
      clear hf; clear a; intro v w5 a hT hf; obtain ⟨F3, rfl, hr⟩ := hT
      replace hs : Sep w F R w5 F3 [.box w2.heap.size 25 [.int .u32 z2.1.1, .int .u32 z2.1.2.1, .int .u64 z2.1.2.2.1, .int .u64 z2.1.2.2.2.1, .int .u64 z2.1.2.2.2.2.1, .int .u64 z2.1.2.2.2.2.2.1, .int .u64 z2.1.2.2.2.2.2.2], .ro (tI .u8) (.slice ao1 b.length cp1) b] := hs.back [1] [0, 1] rfl rfl rfl rfl hr
      clear hr
      replace hf := Fr.keep (ks := [0, 1, 2, 8, 9, 30]) (L' := [(0, .slice ao1 b.length cp1), (1, .int .u64 p_at), (2, .int .i64 n), (8, .pointer (some ⟨w2.heap.size, 0, none⟩)), (9, .int .i64 z2.2), (30, .tuple #[.agg #[.int .u32 z3.1.1, .int .u32 z3.1.2.1, .int .u64 z3.1.2.2.1, .int .u64 z3.1.2.2.2.1, .int .u64 z3.1.2.2.2.2.1, .int .u64 z3.1.2.2.2.2.2.1, .int .u64 z3.1.2.2.2.2.2.2], .int .i64 z3.2])]) hf (by kernel_rfl)
      refine st tbOk 3 [0, 1, 2, 8, 9, 31, 32] (L' := [(0, .slice ao1 b.length cp1), (1, .int .u64 p_at), (2, .int .i64 n), (8, .pointer (some ⟨w2.heap.size, 0, none⟩)), (9, .int .i64 z2.2), (31, .agg #[.int .u32 z3.1.1, .int .u32 z3.1.2.1, .int .u64 z3.1.2.2.1, .int .u64 z3.1.2.2.2.1, .int .u64 z3.1.2.2.2.2.1, .int .u64 z3.1.2.2.2.2.2.1, .int .u64 z3.1.2.2.2.2.2.2]), (32, .int .i64 z3.2)]) hf (by kernel_rfl) ?_
      clear hf; clear a; intro a hf
      refine al tbOk i25 [.int .u32 0, .int .u32 0, .int .u64 0, .int .u64 0, .int .u64 0, .int .u64 0, .int .u64 0] rfl (by kernel_rfl) hf (by kernel_rfl) (by kernel_rfl) ?_
      clear hf; clear a; intro w6 a hb hx _ hf
      replace hs : Sep w F R w6 F3 [.box w5.heap.size 25 [.int .u32 0, .int .u32 0, .int .u64 0, .int .u64 0, .int .u64 0, .int .u64 0, .int .u64 0], .box w2.heap.size 25 [.int .u32 z2.1.1, .int .u32 z2.1.2.1, .int .u64 z2.1.2.2.1, .int .u64 z2.1.2.2.2.1, .int .u64 z2.1.2.2.2.2.1, .int .u64 z2.1.2.2.2.2.2.1, .int .u64 z2.1.2.2.2.2.2.2], .ro (tI .u8) (.slice ao1 b.length cp1) b] := hs.newBox hb hx
      clear hb hx
      replace hf := Fr.keep (ks := [0, 1, 2, 8, 9, 10, 31, 32]) (L' := [(0, .slice ao1 b.length cp1), (1, .int .u64 p_at), (2, .int .i64 n), (8, .pointer (some ⟨w2.heap.size, 0, none⟩)), (9, .int .i64 z2.2), (10, .pointer (some ⟨w5.heap.size, 0, none⟩)), (31, .agg #[.int .u32 z3.1.1, .int .u32 z3.1.2.1, .int .u64 z3.1.2.2.1, .int .u64 z3.1.2.2.2.1, .int .u64 z3.1.2.2.2.2.1, .int .u64 z3.1.2.2.2.2.2.1, .int .u64 z3.1.2.2.2.2.2.2]), (32, .int .i64 z3.2)]) hf (by kernel_rfl)
      refine stB tbOk i25 (hs.bx 0 rfl) 0 [.int .u32 z3.1.1, .int .u32 z3.1.2.1, .int .u64 z3.1.2.2.1, .int .u64 z3.1.2.2.2.1, .int .u64 z3.1.2.2.2.2.1, .int .u64 z3.1.2.2.2.2.2.1, .int .u64 z3.1.2.2.2.2.2.2] [.int .u32 z3.1.1, .int .u32 z3.1.2.1, .int .u64 z3.1.2.2.1, .int .u64 z3.1.2.2.2.1, .int .u64 z3.1.2.2.2.2.1, .int .u64 z3.1.2.2.2.2.2.1, .int .u64 z3.1.2.2.2.2.2.2] (v := .agg #[.int .u32 z3.1.1, .int .u32 z3.1.2.1, .int .u64 z3.1.2.2.1, .int .u64 z3.1.2.2.2.1, .int .u64 z3.1.2.2.2.2.1, .int .u64 z3.1.2.2.2.2.2.1, .int .u64 z3.1.2.2.2.2.2.2]) rfl rfl (by kernel_rfl) (by kernel_rfl) (by kernel_rfl) (by kernel_rfl) hf (by kernel_rfl) (by kernel_rfl) (by kernel_rfl) ?_
      clear hf; clear a; intro w7 a hb hg _ hf
      replace hs : Sep w F R w7 F3 [.box w5.heap.size 25 [.int .u32 z3.1.1, .int .u32 z3.1.2.1, .int .u64 z3.1.2.2.1, .int .u64 z3.1.2.2.2.1, .int .u64 z3.1.2.2.2.2.1, .int .u64 z3.1.2.2.2.2.2.1, .int .u64 z3.1.2.2.2.2.2.2], .box w2.heap.size 25 [.int .u32 z2.1.1, .int .u32 z2.1.2.1, .int .u64 z2.1.2.2.1, .int .u64 z2.1.2.2.2.1, .int .u64 z2.1.2.2.2.2.1, .int .u64 z2.1.2.2.2.2.2.1, .int .u64 z2.1.2.2.2.2.2.2], .ro (tI .u8) (.slice ao1 b.length cp1) b] := hs.updBox 0 rfl hb hg
      clear hb hg
      replace hf := Fr.keep (ks := [0, 1, 2, 8, 9, 10, 32]) (L' := [(0, .slice ao1 b.length cp1), (1, .int .u64 p_at), (2, .int .i64 n), (8, .pointer (some ⟨w2.heap.size, 0, none⟩)), (9, .int .i64 z2.2), (10, .pointer (some ⟨w5.heap.size, 0, none⟩)), (32, .int .i64 z3.2)]) hf (by kernel_rfl)
      refine st tbOk 1 [0, 1, 2, 8, 9, 10, 11] (L' := [(0, .slice ao1 b.length cp1), (1, .int .u64 p_at), (2, .int .i64 n), (8, .pointer (some ⟨w2.heap.size, 0, none⟩)), (9, .int .i64 z2.2), (10, .pointer (some ⟨w5.heap.size, 0, none⟩)), (11, .int .i64 z3.2)]) hf (by kernel_rfl) ?_
      clear hf; clear a; intro a hf
      refine wpList_nil ?_
      refine sq ?_
      refine sq ?_
      refine ctj (fun (s1 : Bool) (a : Act) (w' : World) => ∃ (F4 : SH), Sep w F R w' F4 [.ro (tI .u8) (.slice ao1 b.length cp1) b] ∧ Fr 80 [(0, .slice ao1 b.length cp1), (1, .int .u64 p_at), (2, .int .i64 n), (40, .bool s1)] a) hS ?_ ?_
      · clear hS hf hs; clear a; intro s1 a w8 hM hS
        obtain ⟨F4, hs, hf⟩ := hM
        refine cnd (b := s1) hf (by kernel_rfl) (fun hb4 => ?_) (fun hb4 => ?_)
        · replace hS := of_t hb4 hS
          refine sq ?_
          refine reg ?_
          refine st tbOk 1 [6] (L' := [(6, .bool false)]) hf (by kernel_rfl) ?_
          clear hf; clear a; intro a hf
          refine wpList_nil ?_
          have hr := Option.some.inj hS; subst hr
          refine wp_ret ?_
          exact ret_ok hf (vs := [.bool false]) (by kernel_rfl) ⟨_, rfl, hs.sel [] rfl rfl⟩
        · replace hS := of_f hb4 hS
          refine wp_skip ?_
          refine sq ?_
          refine reg ?_
          refine st tbOk 3 [0, 1, 2, 42, 43, 44] (L' := [(0, .slice ao1 b.length cp1), (1, .int .u64 p_at), (2, .int .i64 n), (42, .slice ao1 b.length cp1), (43, .int .u64 p_at), (44, .int .i64 n)]) hf (by kernel_rfl) ?_
          clear hf; clear a; intro a hf
          have hT := of_bd hS; clear hS; obtain ⟨z4, hz4, hS⟩ := hT
          refine clV ent16 (vs := [.slice ao1 b.length cp1, .int .u64 p_at, .int .i64 n]) (caps := []) hf (by kernel_rfl) (by kernel_rfl) (by kernel_rfl) (by kernel_rfl) (segs_Table_ok (b := b) (p_at := p_at) (n := n) (hs.enter [0] rfl rfl) hz4) ?_
          clear hf; clear a; intro v w9 a hT hf; obtain ⟨ao2, cp2, F5, rfl, hr⟩ := hT
          replace hs : Sep w F R w9 F5 [.row 25 ty24 (.slice ao2 z4.1.length cp2) z4.1, .ro (tI .u8) (.slice ao1 b.length cp1) b] := hs.back [0] [0] rfl rfl rfl rfl hr
          clear hr
          replace hf := Fr.keep (ks := [0, 1, 2, 45]) (L' := [(0, .slice ao1 b.length cp1), (1, .int .u64 p_at), (2, .int .i64 n), (45, .tuple #[.slice ao2 z4.1.length cp2, .int .i64 z4.2])]) hf (by kernel_rfl)
          refine st tbOk 5 [0, 1, 2, 12, 13] (L' := [(0, .slice ao1 b.length cp1), (1, .int .u64 p_at), (2, .int .i64 n), (12, .slice ao2 z4.1.length cp2), (13, .int .i64 z4.2)]) hf (by kernel_rfl) ?_
          clear hf; clear a; intro a hf
          refine wpList_nil ?_
          refine sq ?_
          refine reg ?_
          refine st tbOk 3 [12, 13, 49, 50, 51] (L' := [(12, .slice ao2 z4.1.length cp2), (13, .int .i64 z4.2), (49, .slice ao1 b.length cp1), (50, .int .u64 p_at), (51, .int .i64 n)]) hf (by kernel_rfl) ?_
          clear hf; clear a; intro a hf
          have hT := of_bd hS; clear hS; obtain ⟨z5, hz5, hS⟩ := hT
          refine clV ent17 (vs := [.slice ao1 b.length cp1, .int .u64 p_at, .int .i64 n]) (caps := []) hf (by kernel_rfl) (by kernel_rfl) (by kernel_rfl) (by kernel_rfl) (ref04_Table_ok (b := b) (p_from := p_at) (n := n) (hs.enter [1] rfl rfl) hz5) ?_
          clear hf; clear a; intro v w10 a hT hf; obtain ⟨ao3, cp3, F6, rfl, hr⟩ := hT
          replace hs : Sep w F R w10 F6 [.row 25 ty24 (.slice ao3 z5.1.length cp3) z5.1, .row 25 ty24 (.slice ao2 z4.1.length cp2) z4.1, .ro (tI .u8) (.slice ao1 b.length cp1) b] := hs.back [1] [0, 1] rfl rfl rfl rfl hr
          clear hr
          replace hs : Sep w F R w10 F6 [.row 25 ty24 (.slice ao3 z5.1.length cp3) z5.1, .row 25 ty24 (.slice ao2 z4.1.length cp2) z4.1] := hs.sel [0, 1] rfl rfl
          replace hf := Fr.keep (ks := [12, 13, 52]) (L' := [(12, .slice ao2 z4.1.length cp2), (13, .int .i64 z4.2), (52, .tuple #[.slice ao3 z5.1.length cp3, .int .i64 z5.2])]) hf (by kernel_rfl)
          refine st tbOk 5 [12, 13, 14, 15] (L' := [(12, .slice ao2 z4.1.length cp2), (13, .int .i64 z4.2), (14, .slice ao3 z5.1.length cp3), (15, .int .i64 z5.2)]) hf (by kernel_rfl) ?_
          clear hf; clear a; intro a hf
          refine wpList_nil ?_
          refine sq ?_
          refine sq ?_
          refine ctj (fun (s2 : Bool) (a : Act) (w' : World) => ∃ (F7 : SH), Sep w F R w' F7 [.row 25 ty24 (.slice ao3 z5.1.length cp3) z5.1, .row 25 ty24 (.slice ao2 z4.1.length cp2) z4.1] ∧ Fr 80 [(12, .slice ao2 z4.1.length cp2), (14, .slice ao3 z5.1.length cp3), (64, .bool s2)] a) hS ?_ ?_
          · clear hS hf hs; clear a; intro s2 a w11 hM hS
            obtain ⟨F7, hs, hf⟩ := hM
            refine cnd (b := s2) hf (by kernel_rfl) (fun hb6 => ?_) (fun hb6 => ?_)
            · replace hS := of_t hb6 hS
              refine sq ?_
              refine reg ?_
              refine st tbOk 1 [6] (L' := [(6, .bool false)]) hf (by kernel_rfl) ?_
              clear hf; clear a; intro a hf
              refine wpList_nil ?_
              have hr := Option.some.inj hS; subst hr
              refine wp_ret ?_
              exact ret_ok hf (vs := [.bool false]) (by kernel_rfl) ⟨_, rfl, hs.sel [] rfl rfl⟩
            · replace hS := of_f hb6 hS
              refine wp_skip ?_
              refine sq ?_
              refine sq ?_
              refine reg ?_
              refine st tbOk 1 [12, 14, 16] (L' := [(12, .slice ao2 z4.1.length cp2), (14, .slice ao3 z5.1.length cp3), (16, .int .i64 0)]) hf (by kernel_rfl) ?_
              clear hf; clear a; intro a hf
              refine wpList_nil ?_
              refine ctj (fun (s3 : Unit) (a : Act) (w' : World) => ∃ (F8 : SH), Sep w F R w' F8 [] ∧ Fr 80 [] a) hS ?_ ?_
              · clear hS hf hs; clear a; intro s3 a w14 hM hS
                obtain ⟨F8, hs, hf⟩ := hM
                refine sq ?_
                refine reg ?_
                refine st tbOk 1 [6] (L' := [(6, .bool true)]) hf (by kernel_rfl) ?_
                clear hf; clear a; intro a hf
                refine wpList_nil ?_
                have hr := Option.some.inj hS; subst hr
                refine wp_ret ?_
                exact ret_ok hf (vs := [.bool true]) (by kernel_rfl) ⟨_, rfl, hs.sel [] rfl rfl⟩
              · clear hS; intro KK3 k3 hK3 hS
                refine blk ?_
                refine lp (st := 0) (fun (s4 : Int) (a : Act) (w' : World) => ∃ (F9 : SH), Sep w F R w' F9 [.row 25 ty24 (.slice ao3 z5.1.length cp3) z5.1, .row 25 ty24 (.slice ao2 z4.1.length cp2) z4.1] ∧ Fr 80 [(12, .slice ao2 z4.1.length cp2), (14, .slice ao3 z5.1.length cp3), (16, .int .i64 s4)] a) ?_ ⟨_, hs.sel [0, 1] rfl rfl, hf.keep (ks := [12, 14, 16]) (by kernel_rfl)⟩ hS
                clear hS hf hs; clear a
                intro rec1 KK4 hK4 s4 a w12 hM hS
                obtain ⟨F9, hs, hf⟩ := hM
                refine sq ?_
                refine sq ?_
                refine reg ?_
                refine st tbOk 4 [12, 14, 16, 68] (L' := [(12, .slice ao2 z4.1.length cp2), (14, .slice ao3 z5.1.length cp3), (16, .int .i64 s4), (68, .bool (decide (s4 < ((z4.1.length : Nat) : Int))))]) hf (by kernel_rfl) ?_
                clear hf; clear a; intro a hf
                refine wpList_nil ?_
                refine cnd (b := decide (s4 < ((z4.1.length : Nat) : Int))) hf (by kernel_rfl) (fun hb7 => ?_) (fun hb7 => ?_)
                · replace hS := of_t hb7 hS
                  refine wp_skip ?_
                  refine sq ?_
                  refine blk ?_
                  refine sq ?_
                  refine regQ mixed (by kernel_rfl) ?_
                  refine stQ tbOk 2 [12, 14, 16, 71, 72] (L' := [(12, .slice ao2 z4.1.length cp2), (14, .slice ao3 z5.1.length cp3), (16, .int .i64 s4), (71, .slice ao2 z4.1.length cp2), (72, .int .i64 s4)]) hf (by kernel_rfl) ?_
                  clear hf; clear a; intro a hf
                  have hT := of_gd hS; clear hS; obtain ⟨hc1, hS⟩ := hT
                  refine ixRQ tbOk u33 i25 rfl rfl (hs.raW 1 rfl) (k := .i64) (n := s4) hc1 hf (by kernel_rfl) (by kernel_rfl) (by kernel_rfl) (by kernel_rfl) ?_
                  clear hf; clear a; intro pb1 po1 c1 a hp1 hr1 hf
                  obtain rfl : c1 = [.int .u32 ((gt z4.1 s4).1), .int .u32 ((gt z4.1 s4).2.1), .int .u64 ((gt z4.1 s4).2.2.1), .int .u64 ((gt z4.1 s4).2.2.2.1), .int .u64 ((gt z4.1 s4).2.2.2.2.1), .int .u64 ((gt z4.1 s4).2.2.2.2.2.1), .int .u64 ((gt z4.1 s4).2.2.2.2.2.2)] := hr1
                  replace hf := Fr.keep (ks := [12, 14, 16, 73]) (L' := [(12, .slice ao2 z4.1.length cp2), (14, .slice ao3 z5.1.length cp3), (16, .int .i64 s4), (73, .pointer (some ⟨pb1, po1, none⟩))]) hf (by kernel_rfl)
                  refine ldCQ tbOk (T := 25) hp1 (LeH.refl _) 0 (.agg #[.int .u32 ((gt z4.1 s4).1), .int .u32 ((gt z4.1 s4).2.1), .int .u64 ((gt z4.1 s4).2.2.1), .int .u64 ((gt z4.1 s4).2.2.2.1), .int .u64 ((gt z4.1 s4).2.2.2.2.1), .int .u64 ((gt z4.1 s4).2.2.2.2.2.1), .int .u64 ((gt z4.1 s4).2.2.2.2.2.2)]) hf (by kernel_rfl) (by kernel_rfl) (by kernel_rfl) (by kernel_rfl) ?_
                  clear hf; clear a; intro a hf
                  replace hf := Fr.keep (ks := [12, 14, 16, 74]) (L' := [(12, .slice ao2 z4.1.length cp2), (14, .slice ao3 z5.1.length cp3), (16, .int .i64 s4), (74, .agg #[.int .u32 ((gt z4.1 s4).1), .int .u32 ((gt z4.1 s4).2.1), .int .u64 ((gt z4.1 s4).2.2.1), .int .u64 ((gt z4.1 s4).2.2.2.1), .int .u64 ((gt z4.1 s4).2.2.2.2.1), .int .u64 ((gt z4.1 s4).2.2.2.2.2.1), .int .u64 ((gt z4.1 s4).2.2.2.2.2.2)])]) hf (by kernel_rfl)
                  refine stQ tbOk 2 [12, 14, 16, 74, 75, 76] (L' := [(12, .slice ao2 z4.1.length cp2), (14, .slice ao3 z5.1.length cp3), (16, .int .i64 s4), (74, .agg #[.int .u32 ((gt z4.1 s4).1), .int .u32 ((gt z4.1 s4).2.1), .int .u64 ((gt z4.1 s4).2.2.1), .int .u64 ((gt z4.1 s4).2.2.2.1), .int .u64 ((gt z4.1 s4).2.2.2.2.1), .int .u64 ((gt z4.1 s4).2.2.2.2.2.1), .int .u64 ((gt z4.1 s4).2.2.2.2.2.2)]), (75, .slice ao3 z5.1.length cp3), (76, .int .i64 s4)]) hf (by kernel_rfl) ?_
                  clear hf; clear a; intro a hf
                  have hT := of_gd hS; clear hS; obtain ⟨hc2, hS⟩ := hT
                  refine ixRQ tbOk u33 i25 rfl rfl (hs.raW 0 rfl) (k := .i64) (n := s4) hc2 hf (by kernel_rfl) (by kernel_rfl) (by kernel_rfl) (by kernel_rfl) ?_
                  clear hf; clear a; intro pb2 po2 c2 a hp2 hr2 hf
                  obtain rfl : c2 = [.int .u32 ((gt z5.1 s4).1), .int .u32 ((gt z5.1 s4).2.1), .int .u64 ((gt z5.1 s4).2.2.1), .int .u64 ((gt z5.1 s4).2.2.2.1), .int .u64 ((gt z5.1 s4).2.2.2.2.1), .int .u64 ((gt z5.1 s4).2.2.2.2.2.1), .int .u64 ((gt z5.1 s4).2.2.2.2.2.2)] := hr2
                  replace hf := Fr.keep (ks := [12, 14, 16, 74, 77]) (L' := [(12, .slice ao2 z4.1.length cp2), (14, .slice ao3 z5.1.length cp3), (16, .int .i64 s4), (74, .agg #[.int .u32 ((gt z4.1 s4).1), .int .u32 ((gt z4.1 s4).2.1), .int .u64 ((gt z4.1 s4).2.2.1), .int .u64 ((gt z4.1 s4).2.2.2.1), .int .u64 ((gt z4.1 s4).2.2.2.2.1), .int .u64 ((gt z4.1 s4).2.2.2.2.2.1), .int .u64 ((gt z4.1 s4).2.2.2.2.2.2)]), (77, .pointer (some ⟨pb2, po2, none⟩))]) hf (by kernel_rfl)
                  refine ldCQ tbOk (T := 25) hp2 (LeH.refl _) 0 (.agg #[.int .u32 ((gt z5.1 s4).1), .int .u32 ((gt z5.1 s4).2.1), .int .u64 ((gt z5.1 s4).2.2.1), .int .u64 ((gt z5.1 s4).2.2.2.1), .int .u64 ((gt z5.1 s4).2.2.2.2.1), .int .u64 ((gt z5.1 s4).2.2.2.2.2.1), .int .u64 ((gt z5.1 s4).2.2.2.2.2.2)]) hf (by kernel_rfl) (by kernel_rfl) (by kernel_rfl) (by kernel_rfl) ?_
                  clear hf; clear a; intro a hf
                  replace hf := Fr.keep (ks := [12, 14, 16, 74, 78]) (L' := [(12, .slice ao2 z4.1.length cp2), (14, .slice ao3 z5.1.length cp3), (16, .int .i64 s4), (74, .agg #[.int .u32 ((gt z4.1 s4).1), .int .u32 ((gt z4.1 s4).2.1), .int .u64 ((gt z4.1 s4).2.2.1), .int .u64 ((gt z4.1 s4).2.2.2.1), .int .u64 ((gt z4.1 s4).2.2.2.2.1), .int .u64 ((gt z4.1 s4).2.2.2.2.2.1), .int .u64 ((gt z4.1 s4).2.2.2.2.2.2)]), (78, .agg #[.int .u32 ((gt z5.1 s4).1), .int .u32 ((gt z5.1 s4).2.1), .int .u64 ((gt z5.1 s4).2.2.1), .int .u64 ((gt z5.1 s4).2.2.2.1), .int .u64 ((gt z5.1 s4).2.2.2.2.1), .int .u64 ((gt z5.1 s4).2.2.2.2.2.1), .int .u64 ((gt z5.1 s4).2.2.2.2.2.2)])]) hf (by kernel_rfl)
                  refine stQ tbOk 1 [12, 14, 16, 79] (L' := [(12, .slice ao2 z4.1.length cp2), (14, .slice ao3 z5.1.length cp3), (16, .int .i64 s4), (79, .bool (!((((gt z4.1 s4).1) == ((gt z5.1 s4).1)) && ((((gt z4.1 s4).2.1) == ((gt z5.1 s4).2.1)) && ((((gt z4.1 s4).2.2.1) == ((gt z5.1 s4).2.2.1)) && ((((gt z4.1 s4).2.2.2.1) == ((gt z5.1 s4).2.2.2.1)) && ((((gt z4.1 s4).2.2.2.2.1) == ((gt z5.1 s4).2.2.2.2.1)) && ((((gt z4.1 s4).2.2.2.2.2.1) == ((gt z5.1 s4).2.2.2.2.2.1)) && (((gt z4.1 s4).2.2.2.2.2.2) == ((gt z5.1 s4).2.2.2.2.2.2))))))))))]) hf (by kernel_rfl) ?_
                  clear hf; clear a; intro a hf
                  refine wpQuiet_nil ?_
                  intro w13 hx
                  replace hs : Sep w F R w13 F9 [.row 25 ty24 (.slice ao3 z5.1.length cp3) z5.1, .row 25 ty24 (.slice ao2 z4.1.length cp2) z4.1] := hs.ext hx
                  clear hx
                  refine cnd (b := !((((gt z4.1 s4).1) == ((gt z5.1 s4).1)) && ((((gt z4.1 s4).2.1) == ((gt z5.1 s4).2.1)) && ((((gt z4.1 s4).2.2.1) == ((gt z5.1 s4).2.2.1)) && ((((gt z4.1 s4).2.2.2.1) == ((gt z5.1 s4).2.2.2.1)) && ((((gt z4.1 s4).2.2.2.2.1) == ((gt z5.1 s4).2.2.2.2.1)) && ((((gt z4.1 s4).2.2.2.2.2.1) == ((gt z5.1 s4).2.2.2.2.2.1)) && (((gt z4.1 s4).2.2.2.2.2.2) == ((gt z5.1 s4).2.2.2.2.2.2))))))))) hf (by kernel_rfl) (fun hb8 => ?_) (fun hb8 => ?_)
                  · replace hS := of_t hb8 hS
                    refine sq ?_
                    refine reg ?_
                    refine st tbOk 1 [6] (L' := [(6, .bool false)]) hf (by kernel_rfl) ?_
                    clear hf; clear a; intro a hf
                    refine wpList_nil ?_
                    have hr := Option.some.inj hS; subst hr
                    refine wp_ret ?_
                    exact ret_ok hf (vs := [.bool false]) (by kernel_rfl) ⟨_, rfl, hs.sel [] rfl rfl⟩
                  · replace hS := of_f hb8 hS
                    refine wp_skip ?_
                    refine reg ?_
                    have hT := of_let hS; clear hS; obtain ⟨i_1, hl1, hS⟩ := hT
                    refine st tbOk 3 [12, 14, 16] (L' := [(12, .slice ao2 z4.1.length cp2), (14, .slice ao3 z5.1.length cp3), (16, .int .i64 i_1)]) hf (by subst hl1; kernel_rfl) ?_
                    clear hf; clear a; intro a hf
                    refine wpList_nil ?_
                    exact hK4 i_1 _ _ ⟨_, hs.sel [0, 1] rfl rfl, hf.keep (ks := [12, 14, 16]) (by kernel_rfl)⟩ hS
                · replace hS := of_f hb7 hS
                  refine wp_exit ?_
                  exact hK3 () _ _ ⟨_, hs.sel [] rfl rfl, hf.keep (ks := []) (by kernel_rfl)⟩ hS
          · clear hS; intro KK2 k2 hK2 hS
            refine reg ?_
            refine st tbOk 4 [12, 14, 58] (L' := [(12, .slice ao2 z4.1.length cp2), (14, .slice ao3 z5.1.length cp3), (58, .bool (z4.2 != z5.2))]) hf (by kernel_rfl) ?_
            clear hf; clear a; intro a hf
            rcases Bool.eq_false_or_eq_true (z4.2 != z5.2) with hb5 | hb5
            · replace hS := of_t hb5 hS
              replace hf := Fr.cast (L' := [(12, .slice ao2 z4.1.length cp2), (14, .slice ao3 z5.1.length cp3), (58, .bool true)]) hf (by rw [hb5])
              refine st tbOk 6 [12, 14, 64] (L' := [(12, .slice ao2 z4.1.length cp2), (14, .slice ao3 z5.1.length cp3), (64, .bool true)]) hf (by kernel_rfl) ?_
              clear hf; clear a; intro a hf
              refine wpList_nil ?_
              exact hK2 true _ _ ⟨_, hs.sel [0, 1] rfl rfl, hf.keep (ks := [12, 14, 64]) (by kernel_rfl)⟩ hS
            · replace hS := of_f hb5 hS
              replace hf := Fr.cast (L' := [(12, .slice ao2 z4.1.length cp2), (14, .slice ao3 z5.1.length cp3), (58, .bool false)]) hf (by rw [hb5])
              refine st tbOk 6 [12, 14, 64] (L' := [(12, .slice ao2 z4.1.length cp2), (14, .slice ao3 z5.1.length cp3), (64, .bool (((z4.1.length : Nat) : Int) != ((z5.1.length : Nat) : Int)))]) hf (by kernel_rfl) ?_
              clear hf; clear a; intro a hf
              refine wpList_nil ?_
              exact hK2 (((z4.1.length : Nat) : Int) != ((z5.1.length : Nat) : Int)) _ _ ⟨_, hs.sel [0, 1] rfl rfl, hf.keep (ks := [12, 14, 64]) (by kernel_rfl)⟩ hS
      · clear hS; intro KK1 k1 hK1 hS
        refine reg ?_
        refine ldC tbOk (T := 25) (hs.cbx 1 rfl) (LeH.refl _) 0 (.agg #[.int .u32 z2.1.1, .int .u32 z2.1.2.1, .int .u64 z2.1.2.2.1, .int .u64 z2.1.2.2.2.1, .int .u64 z2.1.2.2.2.2.1, .int .u64 z2.1.2.2.2.2.2.1, .int .u64 z2.1.2.2.2.2.2.2]) hf (by kernel_rfl) (by kernel_rfl) (by kernel_rfl) (by kernel_rfl) ?_
        clear hf; clear a; intro a hf
        replace hs : Sep w F R w7 F3 [.box w5.heap.size 25 [.int .u32 z3.1.1, .int .u32 z3.1.2.1, .int .u64 z3.1.2.2.1, .int .u64 z3.1.2.2.2.1, .int .u64 z3.1.2.2.2.2.1, .int .u64 z3.1.2.2.2.2.2.1, .int .u64 z3.1.2.2.2.2.2.2], .ro (tI .u8) (.slice ao1 b.length cp1) b] := hs.sel [0, 2] rfl rfl
        replace hf := Fr.keep (ks := [0, 1, 2, 9, 10, 11, 33]) (L' := [(0, .slice ao1 b.length cp1), (1, .int .u64 p_at), (2, .int .i64 n), (9, .int .i64 z2.2), (10, .pointer (some ⟨w5.heap.size, 0, none⟩)), (11, .int .i64 z3.2), (33, .agg #[.int .u32 z2.1.1, .int .u32 z2.1.2.1, .int .u64 z2.1.2.2.1, .int .u64 z2.1.2.2.2.1, .int .u64 z2.1.2.2.2.2.1, .int .u64 z2.1.2.2.2.2.2.1, .int .u64 z2.1.2.2.2.2.2.2])]) hf (by kernel_rfl)
        refine ldC tbOk (T := 25) (hs.cbx 0 rfl) (LeH.refl _) 0 (.agg #[.int .u32 z3.1.1, .int .u32 z3.1.2.1, .int .u64 z3.1.2.2.1, .int .u64 z3.1.2.2.2.1, .int .u64 z3.1.2.2.2.2.1, .int .u64 z3.1.2.2.2.2.2.1, .int .u64 z3.1.2.2.2.2.2.2]) hf (by kernel_rfl) (by kernel_rfl) (by kernel_rfl) (by kernel_rfl) ?_
        clear hf; clear a; intro a hf
        replace hs : Sep w F R w7 F3 [.ro (tI .u8) (.slice ao1 b.length cp1) b] := hs.sel [1] rfl rfl
        replace hf := Fr.keep (ks := [0, 1, 2, 9, 11, 33, 34]) (L' := [(0, .slice ao1 b.length cp1), (1, .int .u64 p_at), (2, .int .i64 n), (9, .int .i64 z2.2), (11, .int .i64 z3.2), (33, .agg #[.int .u32 z2.1.1, .int .u32 z2.1.2.1, .int .u64 z2.1.2.2.1, .int .u64 z2.1.2.2.2.1, .int .u64 z2.1.2.2.2.2.1, .int .u64 z2.1.2.2.2.2.2.1, .int .u64 z2.1.2.2.2.2.2.2]), (34, .agg #[.int .u32 z3.1.1, .int .u32 z3.1.2.1, .int .u64 z3.1.2.2.1, .int .u64 z3.1.2.2.2.1, .int .u64 z3.1.2.2.2.2.1, .int .u64 z3.1.2.2.2.2.2.1, .int .u64 z3.1.2.2.2.2.2.2])]) hf (by kernel_rfl)
        refine st tbOk 2 [0, 1, 2, 9, 11, 36] (L' := [(0, .slice ao1 b.length cp1), (1, .int .u64 p_at), (2, .int .i64 n), (9, .int .i64 z2.2), (11, .int .i64 z3.2), (36, .bool (!((z2.1.1 == z3.1.1) && ((z2.1.2.1 == z3.1.2.1) && ((z2.1.2.2.1 == z3.1.2.2.1) && ((z2.1.2.2.2.1 == z3.1.2.2.2.1) && ((z2.1.2.2.2.2.1 == z3.1.2.2.2.2.1) && ((z2.1.2.2.2.2.2.1 == z3.1.2.2.2.2.2.1) && (z2.1.2.2.2.2.2.2 == z3.1.2.2.2.2.2.2)))))))))]) hf (by kernel_rfl) ?_
        clear hf; clear a; intro a hf
        rcases Bool.eq_false_or_eq_true (!((z2.1.1 == z3.1.1) && ((z2.1.2.1 == z3.1.2.1) && ((z2.1.2.2.1 == z3.1.2.2.1) && ((z2.1.2.2.2.1 == z3.1.2.2.2.1) && ((z2.1.2.2.2.2.1 == z3.1.2.2.2.2.1) && ((z2.1.2.2.2.2.2.1 == z3.1.2.2.2.2.2.1) && (z2.1.2.2.2.2.2.2 == z3.1.2.2.2.2.2.2)))))))) with hb3 | hb3
        · replace hS := of_t hb3 hS
          replace hf := Fr.cast (L' := [(0, .slice ao1 b.length cp1), (1, .int .u64 p_at), (2, .int .i64 n), (9, .int .i64 z2.2), (11, .int .i64 z3.2), (36, .bool true)]) hf (by rw [hb3])
          refine st tbOk 4 [0, 1, 2, 40] (L' := [(0, .slice ao1 b.length cp1), (1, .int .u64 p_at), (2, .int .i64 n), (40, .bool true)]) hf (by kernel_rfl) ?_
          clear hf; clear a; intro a hf
          refine wpList_nil ?_
          exact hK1 true _ _ ⟨_, hs.sel [0] rfl rfl, hf.keep (ks := [0, 1, 2, 40]) (by kernel_rfl)⟩ hS
        · replace hS := of_f hb3 hS
          replace hf := Fr.cast (L' := [(0, .slice ao1 b.length cp1), (1, .int .u64 p_at), (2, .int .i64 n), (9, .int .i64 z2.2), (11, .int .i64 z3.2), (36, .bool false)]) hf (by rw [hb3])
          refine st tbOk 4 [0, 1, 2, 40] (L' := [(0, .slice ao1 b.length cp1), (1, .int .u64 p_at), (2, .int .i64 n), (40, .bool (z2.2 != z3.2))]) hf (by kernel_rfl) ?_
          clear hf; clear a; intro a hf
          refine wpList_nil ?_
          exact hK1 (z2.2 != z3.2) _ _ ⟨_, hs.sel [0] rfl rfl, hf.keep (ks := [0, 1, 2, 40]) (by kernel_rfl)⟩ hS

end Dm
