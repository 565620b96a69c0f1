/-
  The walk of the law SegsPlaces; printed by a program of this repo. No condition.
-/
import Derived.Test.YtljdbjimdidigaaWT
import Derived.Test.YtljdbjimdidigaaW0
import Derived.Test.YtljdbjimdidigaaW1
import Derived.Test.YtljdbjimdidigaaW7
namespace Dm
open Go Go.RowKit Go.Proofs

set_option maxHeartbeats 4000000 in
theorem law04_SegsPlaces_ok {w : World} {F : SH} {p_l : List (Int × Int × Int × Int × Int × Int × Int)} {addr : Int} {size : Int} {kind : Int} {ao1 : Option Addr} {cp1 : Nat} (hs : Sep w F (blks [.ro ty24 (.slice ao1 p_l.length cp1) p_l]) w F [.ro ty24 (.slice ao1 p_l.length cp1) p_l]) {r : Bool} (hS : law04_SegsPlaces p_l addr size kind = some r) :
    Calls Try.prog 7 [.slice ao1 p_l.length cp1, .int .u64 addr, .int .u64 size, .int .u32 kind].toArray w (Gives (fun u w' => ∃ (F' : SH), u = .bool r ∧ Sep w F (blks [.ro ty24 (.slice ao1 p_l.length cp1) p_l]) w' F' [])) := by
  generalize (blks [.ro ty24 (.slice ao1 p_l.length cp1) p_l]) = R at hs ⊢
  unfold law04_SegsPlaces at hS
  refine fn_ok (vs := [.slice ao1 p_l.length cp1, .int .u64 addr, .int .u64 size, .int .u32 kind]) Try.func7 rfl 72 Try.ntmps7 (Nat.le_of_ble_eq_true rfl) ?_
  intro a hf
  replace hf := Fr.cast (L' := [(0, .slice ao1 p_l.length cp1), (1, .int .u64 addr), (2, .int .u64 size), (3, .int .u32 kind)]) hf (by kernel_rfl)
  refine sq ?_
  refine reg ?_
  refine st tbOk 1 [0, 1, 2, 3] (L' := [(0, .slice ao1 p_l.length cp1), (1, .int .u64 addr), (2, .int .u64 size), (3, .int .u32 kind)]) hf (by kernel_rfl) ?_
  clear hf; clear a; intro a hf
  refine wpList_nil ?_
  refine sq ?_
  refine reg ?_
  have hT := of_bd hS; clear hS; obtain ⟨z1, hz1, hS⟩ := hT
  refine clV ent11 (vs := []) (caps := []) hf (by kernel_rfl) (by kernel_rfl) (by kernel_rfl) (by kernel_rfl) (law04_awake_ok (hs.enter [] rfl rfl) hz1) ?_
  clear hf; clear a; intro v w1 a hT hf; obtain ⟨F1, rfl, hr⟩ := hT
  replace hs : Sep w F R w1 F1 [.ro ty24 (.slice ao1 p_l.length cp1) p_l] := hs.back [] [0] rfl rfl rfl rfl hr
  clear hr
  replace hf := Fr.keep (ks := [0, 1, 2, 3, 17]) (L' := [(0, .slice ao1 p_l.length cp1), (1, .int .u64 addr), (2, .int .u64 size), (3, .int .u32 kind), (17, .bool z1)]) hf (by kernel_rfl)
  refine st tbOk 1 [0, 1, 2, 3, 9] (L' := [(0, .slice ao1 p_l.length cp1), (1, .int .u64 addr), (2, .int .u64 size), (3, .int .u32 kind), (9, .bool z1)]) hf (by kernel_rfl) ?_
  clear hf; clear a; intro a hf
  refine wpList_nil ?_
  refine sq ?_
  refine sq ?_
  refine reg ?_
  refine st tbOk 2 [0, 1, 2, 3, 19] (L' := [(0, .slice ao1 p_l.length cp1), (1, .int .u64 addr), (2, .int .u64 size), (3, .int .u32 kind), (19, .bool (!z1))]) hf (by kernel_rfl) ?_
  clear hf; clear a; intro a hf
  refine wpList_nil ?_
  refine cnd (b := !z1) hf (by kernel_rfl) (fun hb1 => ?_) (fun hb1 => ?_)
  · replace hS := of_t hb1 hS
    refine sq ?_
    refine reg ?_
    refine st tbOk 1 [8] (L' := [(8, .bool false)]) hf (by kernel_rfl) ?_
    clear hf; clear a; intro a hf
    refine wpList_nil ?_
    have hr := Option.some.inj hS; subst hr
    refine wp_ret ?_
    exact ret_ok hf (vs := [.bool false]) (by kernel_rfl) ⟨_, rfl, hs.sel [] rfl rfl⟩
  · replace hS := of_f hb1 hS
    refine wp_skip ?_
    refine sq ?_
    refine sq ?_
    refine reg ?_
    refine st tbOk 3 [0, 1, 2, 3, 22] (L' := [(0, .slice ao1 p_l.length cp1), (1, .int .u64 addr), (2, .int .u64 size), (3, .int .u32 kind), (22, .bool (decide (((p_l.length : Nat) : Int) > 64)))]) hf (by kernel_rfl) ?_
    clear hf; clear a; intro a hf
    refine wpList_nil ?_
    refine cnd (b := decide (((p_l.length : Nat) : Int) > 64)) hf (by kernel_rfl) (fun hb2 => ?_) (fun hb2 => ?_)
    · replace hS := of_t hb2 hS
      refine sq ?_
      refine reg ?_
      refine st tbOk 1 [8] (L' := [(8, .bool true)]) hf (by kernel_rfl) ?_
      clear hf; clear a; intro a hf
      refine wpList_nil ?_
      have hr := Option.some.inj hS; subst hr
      refine wp_ret ?_
      exact ret_ok hf (vs := [.bool true]) (by kernel_rfl) ⟨_, rfl, hs.sel [] rfl rfl⟩
    · replace hS := of_f hb2 hS
      refine wp_skip ?_
      refine sq ?_
      refine reg ?_
      refine st tbOk 3 [0, 1, 2, 3, 24, 25, 26] (L' := [(0, .slice ao1 p_l.length cp1), (1, .int .u64 addr), (2, .int .u64 size), (3, .int .u32 kind), (24, .slice ao1 p_l.length cp1), (25, .int .u64 addr), (26, .int .u64 size)]) hf (by kernel_rfl) ?_
      clear hf; clear a; intro a hf
      have hT := of_bd hS; clear hS; obtain ⟨z2, hz2, hS⟩ := hT
      refine clV ent20 (vs := [.slice ao1 p_l.length cp1, .int .u64 addr, .int .u64 size]) (caps := []) hf (by kernel_rfl) (by kernel_rfl) (by kernel_rfl) (by kernel_rfl) (segs_Place_ok (p_l := p_l) (addr := addr) (size := size) (hs.enter [0] rfl rfl) hz2) ?_
      clear hf; clear a; intro v w2 a hT hf; obtain ⟨F2, rfl, hr⟩ := hT
      replace hs : Sep w F R w2 F2 [.ro ty24 (.slice ao1 p_l.length cp1) p_l] := hs.back [0] [0] rfl rfl rfl rfl hr
      clear hr
      replace hf := Fr.keep (ks := [0, 1, 2, 3, 27]) (L' := [(0, .slice ao1 p_l.length cp1), (1, .int .u64 addr), (2, .int .u64 size), (3, .int .u32 kind), (27, .tuple #[.int .u64 z2.1, .int .i64 z2.2])]) hf (by kernel_rfl)
      refine st tbOk 5 [0, 1, 2, 3, 10, 11] (L' := [(0, .slice ao1 p_l.length cp1), (1, .int .u64 addr), (2, .int .u64 size), (3, .int .u32 kind), (10, .int .u64 z2.1), (11, .int .i64 z2.2)]) hf (by kernel_rfl) ?_
      clear hf; clear a; intro a hf
      refine wpList_nil ?_
      refine sq ?_
      refine reg ?_
      refine st tbOk 3 [0, 3, 10, 11, 31, 32, 33] (L' := [(0, .slice ao1 p_l.length cp1), (3, .int .u32 kind), (10, .int .u64 z2.1), (11, .int .i64 z2.2), (31, .slice ao1 p_l.length cp1), (32, .int .u64 addr), (33, .int .u64 size)]) hf (by kernel_rfl) ?_
      clear hf; clear a; intro a hf
      have hT := of_bd hS; clear hS; obtain ⟨z3, hz3, hS⟩ := hT
      refine clV ent21 (vs := [.slice ao1 p_l.length cp1, .int .u64 addr, .int .u64 size]) (caps := []) hf (by kernel_rfl) (by kernel_rfl) (by kernel_rfl) (by kernel_rfl) (ref04_Place_ok (p_l := p_l) (addr := addr) (size := size) (hs.enter [0] rfl rfl) hz3) ?_
      clear hf; clear a; intro v w3 a hT hf; obtain ⟨F3, rfl, hr⟩ := hT
      replace hs : Sep w F R w3 F3 [.ro ty24 (.slice ao1 p_l.length cp1) p_l] := hs.back [0] [0] rfl rfl rfl rfl hr
      clear hr
      replace hf := Fr.keep (ks := [0, 3, 10, 11, 34]) (L' := [(0, .slice ao1 p_l.length cp1), (3, .int .u32 kind), (10, .int .u64 z2.1), (11, .int .i64 z2.2), (34, .tuple #[.int .u64 z3.1, .int .i64 z3.2])]) hf (by kernel_rfl)
      refine st tbOk 5 [0, 3, 10, 11, 12, 13] (L' := [(0, .slice ao1 p_l.length cp1), (3, .int .u32 kind), (10, .int .u64 z2.1), (11, .int .i64 z2.2), (12, .int .u64 z3.1), (13, .int .i64 z3.2)]) hf (by kernel_rfl) ?_
      clear hf; clear a; intro a hf
      refine wpList_nil ?_
      refine sq ?_
      refine sq ?_
      refine ctj (fun (s1 : Bool) (a : Act) (w' : World) => ∃ (F4 : SH), Sep w F R w' F4 [.ro ty24 (.slice ao1 p_l.length cp1) p_l] ∧ Fr 72 [(0, .slice ao1 p_l.length cp1), (3, .int .u32 kind), (44, .bool s1)] a) hS ?_ ?_
      · clear hS hf hs; clear a; intro s1 a w4 hM hS
        obtain ⟨F4, hs, hf⟩ := hM
        refine cnd (b := s1) hf (by kernel_rfl) (fun hb4 => ?_) (fun hb4 => ?_)
        · replace hS := of_t hb4 hS
          refine sq ?_
          refine reg ?_
          refine st tbOk 1 [8] (L' := [(8, .bool false)]) hf (by kernel_rfl) ?_
          clear hf; clear a; intro a hf
          refine wpList_nil ?_
          have hr := Option.some.inj hS; subst hr
          refine wp_ret ?_
          exact ret_ok hf (vs := [.bool false]) (by kernel_rfl) ⟨_, rfl, hs.sel [] rfl rfl⟩
        · replace hS := of_f hb4 hS
          refine wp_skip ?_
          refine sq ?_
          refine reg ?_
          refine st tbOk 2 [0, 3, 46, 47] (L' := [(0, .slice ao1 p_l.length cp1), (3, .int .u32 kind), (46, .slice ao1 p_l.length cp1), (47, .int .u32 kind)]) hf (by kernel_rfl) ?_
          clear hf; clear a; intro a hf
          have hT := of_bd hS; clear hS; obtain ⟨z4, hz4, hS⟩ := hT
          refine clV ent22 (vs := [.slice ao1 p_l.length cp1, .int .u32 kind]) (caps := []) hf (by kernel_rfl) (by kernel_rfl) (by kernel_rfl) (by kernel_rfl) (segs_Find_ok (p_l := p_l) (kind := kind) (hs.enter [0] rfl rfl) hz4) ?_
          clear hf; clear a; intro v w5 a hT hf; obtain ⟨F5, rfl, hr⟩ := hT
          replace hs : Sep w F R w5 F5 [.ro ty24 (.slice ao1 p_l.length cp1) p_l] := hs.back [0] [0] rfl rfl rfl rfl hr
          clear hr
          replace hf := Fr.keep (ks := [0, 3, 48]) (L' := [(0, .slice ao1 p_l.length cp1), (3, .int .u32 kind), (48, .tuple #[.agg #[.int .u32 z4.1.1, .int .u32 z4.1.2.1, .int .u64 z4.1.2.2.1, .int .u64 z4.1.2.2.2.1, .int .u64 z4.1.2.2.2.2.1, .int .u64 z4.1.2.2.2.2.2.1, .int .u64 z4.1.2.2.2.2.2.2], .bool z4.2])]) hf (by kernel_rfl)
          refine st tbOk 3 [0, 3, 49, 50] (L' := [(0, .slice ao1 p_l.length cp1), (3, .int .u32 kind), (49, .agg #[.int .u32 z4.1.1, .int .u32 z4.1.2.1, .int .u64 z4.1.2.2.1, .int .u64 z4.1.2.2.2.1, .int .u64 z4.1.2.2.2.2.1, .int .u64 z4.1.2.2.2.2.2.1, .int .u64 z4.1.2.2.2.2.2.2]), (50, .bool z4.2)]) hf (by kernel_rfl) ?_
          clear hf; clear a; intro a hf
          refine al tbOk i25 [.int .u32 0, .int .u32 0, .int .u64 0, .int .u64 0, .int .u64 0, .int .u64 0, .int .u64 0] rfl (by kernel_rfl) hf (by kernel_rfl) (by kernel_rfl) ?_
          clear hf; clear a; intro w6 a hb hx _ hf
          replace hs : Sep w F R w6 F5 [.box w5.heap.size 25 [.int .u32 0, .int .u32 0, .int .u64 0, .int .u64 0, .int .u64 0, .int .u64 0, .int .u64 0], .ro ty24 (.slice ao1 p_l.length cp1) p_l] := hs.newBox hb hx
          clear hb hx
          replace hf := Fr.keep (ks := [0, 3, 14, 49, 50]) (L' := [(0, .slice ao1 p_l.length cp1), (3, .int .u32 kind), (14, .pointer (some ⟨w5.heap.size, 0, none⟩)), (49, .agg #[.int .u32 z4.1.1, .int .u32 z4.1.2.1, .int .u64 z4.1.2.2.1, .int .u64 z4.1.2.2.2.1, .int .u64 z4.1.2.2.2.2.1, .int .u64 z4.1.2.2.2.2.2.1, .int .u64 z4.1.2.2.2.2.2.2]), (50, .bool z4.2)]) hf (by kernel_rfl)
          refine stB tbOk i25 (hs.bx 0 rfl) 0 [.int .u32 z4.1.1, .int .u32 z4.1.2.1, .int .u64 z4.1.2.2.1, .int .u64 z4.1.2.2.2.1, .int .u64 z4.1.2.2.2.2.1, .int .u64 z4.1.2.2.2.2.2.1, .int .u64 z4.1.2.2.2.2.2.2] [.int .u32 z4.1.1, .int .u32 z4.1.2.1, .int .u64 z4.1.2.2.1, .int .u64 z4.1.2.2.2.1, .int .u64 z4.1.2.2.2.2.1, .int .u64 z4.1.2.2.2.2.2.1, .int .u64 z4.1.2.2.2.2.2.2] (v := .agg #[.int .u32 z4.1.1, .int .u32 z4.1.2.1, .int .u64 z4.1.2.2.1, .int .u64 z4.1.2.2.2.1, .int .u64 z4.1.2.2.2.2.1, .int .u64 z4.1.2.2.2.2.2.1, .int .u64 z4.1.2.2.2.2.2.2]) rfl rfl (by kernel_rfl) (by kernel_rfl) (by kernel_rfl) (by kernel_rfl) hf (by kernel_rfl) (by kernel_rfl) (by kernel_rfl) ?_
          clear hf; clear a; intro w7 a hb hg _ hf
          replace hs : Sep w F R w7 F5 [.box w5.heap.size 25 [.int .u32 z4.1.1, .int .u32 z4.1.2.1, .int .u64 z4.1.2.2.1, .int .u64 z4.1.2.2.2.1, .int .u64 z4.1.2.2.2.2.1, .int .u64 z4.1.2.2.2.2.2.1, .int .u64 z4.1.2.2.2.2.2.2], .ro ty24 (.slice ao1 p_l.length cp1) p_l] := hs.updBox 0 rfl hb hg
          clear hb hg
          replace hf := Fr.keep (ks := [0, 3, 14, 50]) (L' := [(0, .slice ao1 p_l.length cp1), (3, .int .u32 kind), (14, .pointer (some ⟨w5.heap.size, 0, none⟩)), (50, .bool z4.2)]) hf (by kernel_rfl)
          refine st tbOk 1 [0, 3, 14, 15] (L' := [(0, .slice ao1 p_l.length cp1), (3, .int .u32 kind), (14, .pointer (some ⟨w5.heap.size, 0, none⟩)), (15, .bool z4.2)]) hf (by kernel_rfl) ?_
          clear hf; clear a; intro a hf
          refine wpList_nil ?_
          refine sq ?_
          refine reg ?_
          refine st tbOk 2 [0, 14, 15, 51, 52] (L' := [(0, .slice ao1 p_l.length cp1), (14, .pointer (some ⟨w5.heap.size, 0, none⟩)), (15, .bool z4.2), (51, .slice ao1 p_l.length cp1), (52, .int .u32 kind)]) hf (by kernel_rfl) ?_
          clear hf; clear a; intro a hf
          have hT := of_bd hS; clear hS; obtain ⟨z5, hz5, hS⟩ := hT
          refine clV ent23 (vs := [.slice ao1 p_l.length cp1, .int .u32 kind]) (caps := []) hf (by kernel_rfl) (by kernel_rfl) (by kernel_rfl) (by kernel_rfl) (ref04_Find_ok (p_l := p_l) (kind := kind) (hs.enter [1] rfl rfl) hz5) ?_
          clear hf; clear a; intro v w8 a hT hf; obtain ⟨F6, rfl, hr⟩ := hT
          replace hs : Sep w F R w8 F6 [.box w5.heap.size 25 [.int .u32 z4.1.1, .int .u32 z4.1.2.1, .int .u64 z4.1.2.2.1, .int .u64 z4.1.2.2.2.1, .int .u64 z4.1.2.2.2.2.1, .int .u64 z4.1.2.2.2.2.2.1, .int .u64 z4.1.2.2.2.2.2.2], .ro ty24 (.slice ao1 p_l.length cp1) p_l] := hs.back [1] [0, 1] rfl rfl rfl rfl hr
          clear hr
          replace hf := Fr.keep (ks := [0, 14, 15, 53]) (L' := [(0, .slice ao1 p_l.length cp1), (14, .pointer (some ⟨w5.heap.size, 0, none⟩)), (15, .bool z4.2), (53, .int .i64 z5)]) hf (by kernel_rfl)
          refine st tbOk 1 [0, 14, 15, 16] (L' := [(0, .slice ao1 p_l.length cp1), (14, .pointer (some ⟨w5.heap.size, 0, none⟩)), (15, .bool z4.2), (16, .int .i64 z5)]) hf (by kernel_rfl) ?_
          clear hf; clear a; intro a hf
          refine wpList_nil ?_
          refine sq ?_
          refine sq ?_
          refine reg ?_
          refine st tbOk 2 [0, 14, 15, 16, 55] (L' := [(0, .slice ao1 p_l.length cp1), (14, .pointer (some ⟨w5.heap.size, 0, none⟩)), (15, .bool z4.2), (16, .int .i64 z5), (55, .bool (decide (z5 < 0)))]) hf (by kernel_rfl) ?_
          clear hf; clear a; intro a hf
          refine wpList_nil ?_
          refine cnd (b := decide (z5 < 0)) hf (by kernel_rfl) (fun hb5 => ?_) (fun hb5 => ?_)
          · replace hS := of_t hb5 hS
            refine sq ?_
            refine ctj (fun (s2 : Bool) (a : Act) (w' : World) => ∃ (F7 : SH), Sep w F R w' F7 [] ∧ Fr 72 [(8, .bool s2)] a) hS ?_ ?_
            · clear hS hf hs; clear a; intro s2 a w9 hM hS
              obtain ⟨F7, hs, hf⟩ := hM
              have hr := Option.some.inj hS; subst hr
              refine wp_ret ?_
              exact ret_ok hf (vs := [.bool s2]) (by kernel_rfl) ⟨_, rfl, hs.sel [] rfl rfl⟩
            · clear hS; intro KK2 k2 hK2 hS
              refine reg ?_
              refine st tbOk 3 [14, 58] (L' := [(14, .pointer (some ⟨w5.heap.size, 0, none⟩)), (58, .bool (!z4.2))]) hf (by kernel_rfl) ?_
              clear hf; clear a; intro a hf
              rcases Bool.eq_false_or_eq_true (!z4.2) with hb6 | hb6
              · replace hS := of_t hb6 hS
                replace hf := Fr.cast (L' := [(14, .pointer (some ⟨w5.heap.size, 0, none⟩)), (58, .bool true)]) hf (by rw [hb6])
                refine ldC tbOk (T := 25) (hs.cbx 0 rfl) (LeH.refl _) 0 (.agg #[.int .u32 z4.1.1, .int .u32 z4.1.2.1, .int .u64 z4.1.2.2.1, .int .u64 z4.1.2.2.2.1, .int .u64 z4.1.2.2.2.2.1, .int .u64 z4.1.2.2.2.2.2.1, .int .u64 z4.1.2.2.2.2.2.2]) hf (by kernel_rfl) (by kernel_rfl) (by kernel_rfl) (by kernel_rfl) ?_
                clear hf; clear a; intro a hf
                replace hs : Sep w F R w8 F6 [] := hs.sel [] rfl rfl
                replace hf := Fr.keep (ks := [58, 59]) (L' := [(58, .bool true), (59, .agg #[.int .u32 z4.1.1, .int .u32 z4.1.2.1, .int .u64 z4.1.2.2.1, .int .u64 z4.1.2.2.2.1, .int .u64 z4.1.2.2.2.2.1, .int .u64 z4.1.2.2.2.2.2.1, .int .u64 z4.1.2.2.2.2.2.2])]) hf (by kernel_rfl)
                refine st tbOk 4 [8] (L' := [(8, .bool ((z4.1.1 == 0) && ((z4.1.2.1 == 0) && ((z4.1.2.2.1 == 0) && ((z4.1.2.2.2.1 == 0) && ((z4.1.2.2.2.2.1 == 0) && ((z4.1.2.2.2.2.2.1 == 0) && (z4.1.2.2.2.2.2.2 == 0))))))))]) hf (by kernel_rfl) ?_
                clear hf; clear a; intro a hf
                refine wpList_nil ?_
                exact hK2 ((z4.1.1 == 0) && ((z4.1.2.1 == 0) && ((z4.1.2.2.1 == 0) && ((z4.1.2.2.2.1 == 0) && ((z4.1.2.2.2.2.1 == 0) && ((z4.1.2.2.2.2.2.1 == 0) && (z4.1.2.2.2.2.2.2 == 0))))))) _ _ ⟨_, hs.sel [] rfl rfl, hf.keep (ks := [8]) (by kernel_rfl)⟩ hS
              · replace hS := of_f hb6 hS
                replace hf := Fr.cast (L' := [(14, .pointer (some ⟨w5.heap.size, 0, none⟩)), (58, .bool false)]) hf (by rw [hb6])
                refine st tbOk 5 [8] (L' := [(8, .bool false)]) hf (by kernel_rfl) ?_
                clear hf; clear a; intro a hf
                refine wpList_nil ?_
                exact hK2 false _ _ ⟨_, hs.sel [] rfl rfl, hf.keep (ks := [8]) (by kernel_rfl)⟩ hS
          · replace hS := of_f hb5 hS
            refine wp_skip ?_
            refine sq ?_
            refine ctj (fun (s3 : Bool) (a : Act) (w' : World) => ∃ (F8 : SH), Sep w F R w' F8 [] ∧ Fr 72 [(8, .bool s3)] a) hS ?_ ?_
            · clear hS hf hs; clear a; intro s3 a w12 hM hS
              obtain ⟨F8, hs, hf⟩ := hM
              have hr := Option.some.inj hS; subst hr
              refine wp_ret ?_
              exact ret_ok hf (vs := [.bool s3]) (by kernel_rfl) ⟨_, rfl, hs.sel [] rfl rfl⟩
            · clear hS; intro KK3 k3 hK3 hS
              refine regQ mixed (by kernel_rfl) ?_
              refine stQ tbOk 2 [0, 14, 16, 64] (L' := [(0, .slice ao1 p_l.length cp1), (14, .pointer (some ⟨w5.heap.size, 0, none⟩)), (16, .int .i64 z5), (64, .bool z4.2)]) hf (by kernel_rfl) ?_
              clear hf; clear a; intro a hf
              rcases Bool.eq_false_or_eq_true (z4.2) with hb7 | hb7
              · replace hS := of_t hb7 hS
                replace hf := Fr.cast (L' := [(0, .slice ao1 p_l.length cp1), (14, .pointer (some ⟨w5.heap.size, 0, none⟩)), (16, .int .i64 z5), (64, .bool true)]) hf (by rw [hb7])
                refine ldCQ tbOk (T := 25) (hs.cbx 0 rfl) (LeH.refl _) 0 (.agg #[.int .u32 z4.1.1, .int .u32 z4.1.2.1, .int .u64 z4.1.2.2.1, .int .u64 z4.1.2.2.2.1, .int .u64 z4.1.2.2.2.2.1, .int .u64 z4.1.2.2.2.2.2.1, .int .u64 z4.1.2.2.2.2.2.2]) hf (by kernel_rfl) (by kernel_rfl) (by kernel_rfl) (by kernel_rfl) ?_
                clear hf; clear a; intro a hf
                replace hs : Sep w F R w8 F6 [.ro ty24 (.slice ao1 p_l.length cp1) p_l] := hs.sel [1] rfl rfl
                replace hf := Fr.keep (ks := [0, 16, 64, 65]) (L' := [(0, .slice ao1 p_l.length cp1), (16, .int .i64 z5), (64, .bool true), (65, .agg #[.int .u32 z4.1.1, .int .u32 z4.1.2.1, .int .u64 z4.1.2.2.1, .int .u64 z4.1.2.2.2.1, .int .u64 z4.1.2.2.2.2.1, .int .u64 z4.1.2.2.2.2.2.1, .int .u64 z4.1.2.2.2.2.2.2])]) hf (by kernel_rfl)
                refine stQ tbOk 2 [64, 65, 66, 67] (L' := [(64, .bool true), (65, .agg #[.int .u32 z4.1.1, .int .u32 z4.1.2.1, .int .u64 z4.1.2.2.1, .int .u64 z4.1.2.2.2.1, .int .u64 z4.1.2.2.2.2.1, .int .u64 z4.1.2.2.2.2.2.1, .int .u64 z4.1.2.2.2.2.2.2]), (66, .slice ao1 p_l.length cp1), (67, .int .i64 z5)]) hf (by kernel_rfl) ?_
                clear hf; clear a; intro a hf
                have hT := of_gd hS; clear hS; obtain ⟨hc1, hS⟩ := hT
                refine ixRQ tbOk u33 i25 rfl rfl ((hs.ro 0 rfl).ra (LeH.refl _)) (k := .i64) (n := z5) hc1 hf (by kernel_rfl) (by kernel_rfl) (by kernel_rfl) (by kernel_rfl) ?_
                clear hf; clear a; intro pb1 po1 c1 a hp1 hr1 hf
                obtain rfl : c1 = [.int .u32 ((gt p_l z5).1), .int .u32 ((gt p_l z5).2.1), .int .u64 ((gt p_l z5).2.2.1), .int .u64 ((gt p_l z5).2.2.2.1), .int .u64 ((gt p_l z5).2.2.2.2.1), .int .u64 ((gt p_l z5).2.2.2.2.2.1), .int .u64 ((gt p_l z5).2.2.2.2.2.2)] := hr1
                replace hs : Sep w F R w8 F6 [.cel pb1 po1 [.int .u32 ((gt p_l z5).1), .int .u32 ((gt p_l z5).2.1), .int .u64 ((gt p_l z5).2.2.1), .int .u64 ((gt p_l z5).2.2.2.1), .int .u64 ((gt p_l z5).2.2.2.2.1), .int .u64 ((gt p_l z5).2.2.2.2.2.1), .int .u64 ((gt p_l z5).2.2.2.2.2.2)], .ro ty24 (.slice ao1 p_l.length cp1) p_l] := hs.addCel hp1
                replace hs : Sep w F R w8 F6 [.cel pb1 po1 [.int .u32 ((gt p_l z5).1), .int .u32 ((gt p_l z5).2.1), .int .u64 ((gt p_l z5).2.2.1), .int .u64 ((gt p_l z5).2.2.2.1), .int .u64 ((gt p_l z5).2.2.2.2.1), .int .u64 ((gt p_l z5).2.2.2.2.2.1), .int .u64 ((gt p_l z5).2.2.2.2.2.2)]] := hs.sel [0] rfl rfl
                replace hf := Fr.keep (ks := [64, 65, 68]) (L' := [(64, .bool true), (65, .agg #[.int .u32 z4.1.1, .int .u32 z4.1.2.1, .int .u64 z4.1.2.2.1, .int .u64 z4.1.2.2.2.1, .int .u64 z4.1.2.2.2.2.1, .int .u64 z4.1.2.2.2.2.2.1, .int .u64 z4.1.2.2.2.2.2.2]), (68, .pointer (some ⟨pb1, po1, none⟩))]) hf (by kernel_rfl)
                refine ldCQ tbOk (T := 25) (hs.ccel 0 rfl) (LeH.refl _) 0 (.agg #[.int .u32 ((gt p_l z5).1), .int .u32 ((gt p_l z5).2.1), .int .u64 ((gt p_l z5).2.2.1), .int .u64 ((gt p_l z5).2.2.2.1), .int .u64 ((gt p_l z5).2.2.2.2.1), .int .u64 ((gt p_l z5).2.2.2.2.2.1), .int .u64 ((gt p_l z5).2.2.2.2.2.2)]) hf (by kernel_rfl) (by kernel_rfl) (by kernel_rfl) (by kernel_rfl) ?_
                clear hf; clear a; intro a hf
                replace hs : Sep w F R w8 F6 [] := hs.sel [] rfl rfl
                replace hf := Fr.keep (ks := [64, 65, 69]) (L' := [(64, .bool true), (65, .agg #[.int .u32 z4.1.1, .int .u32 z4.1.2.1, .int .u64 z4.1.2.2.1, .int .u64 z4.1.2.2.2.1, .int .u64 z4.1.2.2.2.2.1, .int .u64 z4.1.2.2.2.2.2.1, .int .u64 z4.1.2.2.2.2.2.2]), (69, .agg #[.int .u32 ((gt p_l z5).1), .int .u32 ((gt p_l z5).2.1), .int .u64 ((gt p_l z5).2.2.1), .int .u64 ((gt p_l z5).2.2.2.1), .int .u64 ((gt p_l z5).2.2.2.2.1), .int .u64 ((gt p_l z5).2.2.2.2.2.1), .int .u64 ((gt p_l z5).2.2.2.2.2.2)])]) hf (by kernel_rfl)
                refine stQ tbOk 3 [8] (L' := [(8, .bool ((z4.1.1 == ((gt p_l z5).1)) && ((z4.1.2.1 == ((gt p_l z5).2.1)) && ((z4.1.2.2.1 == ((gt p_l z5).2.2.1)) && ((z4.1.2.2.2.1 == ((gt p_l z5).2.2.2.1)) && ((z4.1.2.2.2.2.1 == ((gt p_l z5).2.2.2.2.1)) && ((z4.1.2.2.2.2.2.1 == ((gt p_l z5).2.2.2.2.2.1)) && (z4.1.2.2.2.2.2.2 == ((gt p_l z5).2.2.2.2.2.2)))))))))]) hf (by kernel_rfl) ?_
                clear hf; clear a; intro a hf
                refine wpQuiet_nil ?_
                intro w10 hx
                replace hs : Sep w F R w10 F6 [] := hs.ext hx
                clear hx
                exact hK3 ((z4.1.1 == ((gt p_l z5).1)) && ((z4.1.2.1 == ((gt p_l z5).2.1)) && ((z4.1.2.2.1 == ((gt p_l z5).2.2.1)) && ((z4.1.2.2.2.1 == ((gt p_l z5).2.2.2.1)) && ((z4.1.2.2.2.2.1 == ((gt p_l z5).2.2.2.2.1)) && ((z4.1.2.2.2.2.2.1 == ((gt p_l z5).2.2.2.2.2.1)) && (z4.1.2.2.2.2.2.2 == ((gt p_l z5).2.2.2.2.2.2)))))))) _ _ ⟨_, hs.sel [] rfl rfl, hf.keep (ks := [8]) (by kernel_rfl)⟩ hS
              · replace hS := of_f hb7 hS
                replace hf := Fr.cast (L' := [(0, .slice ao1 p_l.length cp1), (14, .pointer (some ⟨w5.heap.size, 0, none⟩)), (16, .int .i64 z5), (64, .bool false)]) hf (by rw [hb7])
                refine stQ tbOk 8 [8] (L' := [(8, .bool false)]) hf (by kernel_rfl) ?_
                clear hf; clear a; intro a hf
                refine wpQuiet_nil ?_
                intro w11 hx
                replace hs : Sep w F R w11 F6 [.box w5.heap.size 25 [.int .u32 z4.1.1, .int .u32 z4.1.2.1, .int .u64 z4.1.2.2.1, .int .u64 z4.1.2.2.2.1, .int .u64 z4.1.2.2.2.2.1, .int .u64 z4.1.2.2.2.2.2.1, .int .u64 z4.1.2.2.2.2.2.2], .ro ty24 (.slice ao1 p_l.length cp1) p_l] := hs.ext hx
                clear hx
                exact hK3 false _ _ ⟨_, hs.sel [] rfl rfl, hf.keep (ks := [8]) (by kernel_rfl)⟩ hS
      · clear hS; intro KK1 k1 hK1 hS
        refine reg ?_
        refine st tbOk 4 [0, 3, 11, 13, 40] (L' := [(0, .slice ao1 p_l.length cp1), (3, .int .u32 kind), (11, .int .i64 z2.2), (13, .int .i64 z3.2), (40, .bool (z2.1 != z3.1))]) hf (by kernel_rfl) ?_
        clear hf; clear a; intro a hf
        rcases Bool.eq_false_or_eq_true (z2.1 != z3.1) with hb3 | hb3
        · replace hS := of_t hb3 hS
          replace hf := Fr.cast (L' := [(0, .slice ao1 p_l.length cp1), (3, .int .u32 kind), (11, .int .i64 z2.2), (13, .int .i64 z3.2), (40, .bool true)]) hf (by rw [hb3])
          refine st tbOk 4 [0, 3, 44] (L' := [(0, .slice ao1 p_l.length cp1), (3, .int .u32 kind), (44, .bool true)]) hf (by kernel_rfl) ?_
          clear hf; clear a; intro a hf
          refine wpList_nil ?_
          exact hK1 true _ _ ⟨_, hs.sel [0] rfl rfl, hf.keep (ks := [0, 3, 44]) (by kernel_rfl)⟩ hS
        · replace hS := of_f hb3 hS
          replace hf := Fr.cast (L' := [(0, .slice ao1 p_l.length cp1), (3, .int .u32 kind), (11, .int .i64 z2.2), (13, .int .i64 z3.2), (40, .bool false)]) hf (by rw [hb3])
          refine st tbOk 4 [0, 3, 44] (L' := [(0, .slice ao1 p_l.length cp1), (3, .int .u32 kind), (44, .bool (z2.2 != z3.2))]) hf (by kernel_rfl) ?_
          clear hf; clear a; intro a hf
          refine wpList_nil ?_
          exact hK1 (z2.2 != z3.2) _ _ ⟨_, hs.sel [0] rfl rfl, hf.keep (ks := [0, 3, 44]) (by kernel_rfl)⟩ hS

end Dm
