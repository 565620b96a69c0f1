/-
  The walks: a call of each Go function gives what its shallow form gives, where that form gives something; printed by a program of this repo. No condition.
-/
import Derived.Test.YtlbilaaofmnbfaaWT
import Derived.Test.YtlbilaaofmnbfaaW0
namespace Dm
open Go Go.RowKit Go.Proofs

set_option maxHeartbeats 4000000 in
theorem rela_Value_ok {w : World} {F : SH} {kind : Int} {base : Int} {symbol : Int} {add : Int}  (hs : Sep w F (blks []) w F []) {r : Int × Int} (hS : rela_Value kind base symbol add = some r) :
    Calls Try.prog 26 [.int .u32 kind, .int .u64 base, .int .u64 symbol, .int .i64 add].toArray w (Gives (fun u w' => ∃ (F' : SH), u = .tuple #[.int .u64 r.1, .int .i64 r.2] ∧ Sep w F (blks []) w' F' [])) := by
  generalize (blks []) = R at hs ⊢
  unfold rela_Value at hS
  refine fn_ok (vs := [.int .u32 kind, .int .u64 base, .int .u64 symbol, .int .i64 add]) Try.func26 rfl 32 Try.ntmps26 (Nat.le_of_ble_eq_true rfl) ?_
  intro a hf
  replace hf := Fr.cast (L' := [(0, .int .u32 kind), (1, .int .u64 base), (2, .int .u64 symbol), (3, .int .i64 add)]) hf (by kernel_rfl)
  refine sq ?_
  refine reg ?_
  refine st tbOk 2 [0, 1, 2, 3] (L' := [(0, .int .u32 kind), (1, .int .u64 base), (2, .int .u64 symbol), (3, .int .i64 add)]) hf (by kernel_rfl) ?_
  clear hf; clear a; intro a hf
  refine wpList_nil ?_
  refine sq ?_
  refine sq ?_
  refine reg ?_
  refine st tbOk 1 [1, 2, 3, 10] (L' := [(1, .int .u64 base), (2, .int .u64 symbol), (3, .int .i64 add), (10, .int .u32 kind)]) hf (by kernel_rfl) ?_
  clear hf; clear a; intro a hf
  refine wpList_nil ?_
  refine blk ?_
  refine sq ?_
  refine reg ?_
  refine st tbOk 2 [1, 2, 3, 10, 11] (L' := [(1, .int .u64 base), (2, .int .u64 symbol), (3, .int .i64 add), (10, .int .u32 kind), (11, .bool (kind == 0))]) hf (by kernel_rfl) ?_
  clear hf; clear a; intro a hf
  refine wpList_nil ?_
  refine cnd (b := kind == 0) hf (by kernel_rfl) (fun hb1 => ?_) (fun hb1 => ?_)
  · replace hS := of_t hb1 hS
    refine sq ?_
    refine reg ?_
    refine st tbOk 2 [8, 9] (L' := [(8, .int .u64 0), (9, .int .i64 0)]) hf (by kernel_rfl) ?_
    clear hf; clear a; intro a hf
    refine wpList_nil ?_
    have hr := Option.some.inj hS; subst hr
    refine wp_ret ?_
    exact ret_ok hf (vs := [.int .u64 0, .int .i64 0]) (by kernel_rfl) ⟨_, rfl, hs.sel [] rfl rfl⟩
  · replace hS := of_f hb1 hS
    refine sq ?_
    refine reg ?_
    refine st tbOk 2 [1, 2, 3, 10, 13] (L' := [(1, .int .u64 base), (2, .int .u64 symbol), (3, .int .i64 add), (10, .int .u32 kind), (13, .bool (kind == 8))]) hf (by kernel_rfl) ?_
    clear hf; clear a; intro a hf
    refine wpList_nil ?_
    refine cnd (b := kind == 8) hf (by kernel_rfl) (fun hb2 => ?_) (fun hb2 => ?_)
    · replace hS := of_t hb2 hS
      refine sq ?_
      refine reg ?_
      refine st tbOk 6 [8, 9] (L' := [(8, .int .u64 (IntKind.u64.wrap (base + (IntKind.u64.wrap add)))), (9, .int .i64 0)]) hf (by kernel_rfl) ?_
      clear hf; clear a; intro a hf
      refine wpList_nil ?_
      have hr := Option.some.inj hS; subst hr
      refine wp_ret ?_
      exact ret_ok hf (vs := [.int .u64 (IntKind.u64.wrap (base + (IntKind.u64.wrap add))), .int .i64 0]) (by kernel_rfl) ⟨_, rfl, hs.sel [] rfl rfl⟩
    · replace hS := of_f hb2 hS
      refine sq ?_
      refine sq ?_
      refine reg ?_
      refine st tbOk 2 [2, 3, 10, 19] (L' := [(2, .int .u64 symbol), (3, .int .i64 add), (10, .int .u32 kind), (19, .bool (kind == 6))]) hf (by kernel_rfl) ?_
      clear hf; clear a; intro a hf
      refine wpList_nil ?_
      refine ctj (fun (s1 : Bool) (a : Act) (w' : World) => ∃ (F1 : SH), Sep w F R w' F1 [] ∧ Fr 32 [(2, .int .u64 symbol), (3, .int .i64 add), (10, .int .u32 kind), (19, .bool s1)] a) hS ?_ ?_
      · clear hS hf hs; clear a; intro s1 a w2 hM hS
        obtain ⟨F1, hs, hf⟩ := hM
        refine cnd (b := s1) hf (by kernel_rfl) (fun hb5 => ?_) (fun hb5 => ?_)
        · replace hS := of_t hb5 hS
          refine sq ?_
          refine reg ?_
          refine st tbOk 3 [8, 9] (L' := [(8, .int .u64 symbol), (9, .int .i64 0)]) hf (by kernel_rfl) ?_
          clear hf; clear a; intro a hf
          refine wpList_nil ?_
          have hr := Option.some.inj hS; subst hr
          refine wp_ret ?_
          exact ret_ok hf (vs := [.int .u64 symbol, .int .i64 0]) (by kernel_rfl) ⟨_, rfl, hs.sel [] rfl rfl⟩
        · replace hS := of_f hb5 hS
          refine sq ?_
          refine sq ?_
          refine reg ?_
          refine st tbOk 2 [2, 3, 10, 24] (L' := [(2, .int .u64 symbol), (3, .int .i64 add), (10, .int .u32 kind), (24, .bool (kind == 1))]) hf (by kernel_rfl) ?_
          clear hf; clear a; intro a hf
          refine wpList_nil ?_
          refine ctj (fun (s3 : Bool) (a : Act) (w' : World) => ∃ (F3 : SH), Sep w F R w' F3 [] ∧ Fr 32 [(2, .int .u64 symbol), (3, .int .i64 add), (24, .bool s3)] a) hS ?_ ?_
          · clear hS hf hs; clear a; intro s3 a w4 hM hS
            obtain ⟨F3, hs, hf⟩ := hM
            refine cnd (b := s3) hf (by kernel_rfl) (fun hb8 => ?_) (fun hb8 => ?_)
            · replace hS := of_t hb8 hS
              refine sq ?_
              refine reg ?_
              refine st tbOk 6 [8, 9] (L' := [(8, .int .u64 (IntKind.u64.wrap (symbol + (IntKind.u64.wrap add)))), (9, .int .i64 0)]) hf (by kernel_rfl) ?_
              clear hf; clear a; intro a hf
              refine wpList_nil ?_
              have hr := Option.some.inj hS; subst hr
              refine wp_ret ?_
              exact ret_ok hf (vs := [.int .u64 (IntKind.u64.wrap (symbol + (IntKind.u64.wrap add))), .int .i64 0]) (by kernel_rfl) ⟨_, rfl, hs.sel [] rfl rfl⟩
            · replace hS := of_f hb8 hS
              refine wp_skip ?_
              refine sq ?_
              refine reg ?_
              refine st tbOk 2 [8, 9] (L' := [(8, .int .u64 0), (9, .int .i64 33)]) hf (by kernel_rfl) ?_
              clear hf; clear a; intro a hf
              refine wpList_nil ?_
              have hr := Option.some.inj hS; subst hr
              refine wp_ret ?_
              exact ret_ok hf (vs := [.int .u64 0, .int .i64 33]) (by kernel_rfl) ⟨_, rfl, hs.sel [] rfl rfl⟩
          · clear hS; intro KK3 k3 hK3 hS
            refine cnd (b := kind == 1) hf (by kernel_rfl) (fun hb6 => ?_) (fun hb6 => ?_)
            · replace hS := of_t hb6 hS
              refine wp_skip ?_
              exact hK3 (kind == 1) _ _ ⟨_, hs.sel [] rfl rfl, hf.keep (ks := [2, 3, 24]) (by kernel_rfl)⟩ hS
            · replace hS := of_f hb6 hS
              refine sq ?_
              refine reg ?_
              refine st tbOk 2 [2, 3, 10, 24] (L' := [(2, .int .u64 symbol), (3, .int .i64 add), (10, .int .u32 kind), (24, .bool (kind == 17))]) hf (by kernel_rfl) ?_
              clear hf; clear a; intro a hf
              refine wpList_nil ?_
              refine ctj (fun (s4 : Bool) (a : Act) (w' : World) => ∃ (F4 : SH), Sep w F R w' F4 [] ∧ Fr 32 [(2, .int .u64 symbol), (3, .int .i64 add), (24, .bool s4)] a) hS ?_ ?_
              · clear hS hf hs; clear a; intro s4 a w3 hM hS
                obtain ⟨F4, hs, hf⟩ := hM
                exact hK3 s4 _ _ ⟨_, hs.sel [] rfl rfl, hf.keep (ks := [2, 3, 24]) (by kernel_rfl)⟩ hS
              · clear hS; intro KK4 k4 hK4 hS
                refine cnd (b := kind == 17) hf (by kernel_rfl) (fun hb7 => ?_) (fun hb7 => ?_)
                · replace hS := of_t hb7 hS
                  refine wp_skip ?_
                  exact hK4 (kind == 17) _ _ ⟨_, hs.sel [] rfl rfl, hf.keep (ks := [2, 3, 24]) (by kernel_rfl)⟩ hS
                · replace hS := of_f hb7 hS
                  refine reg ?_
                  refine st tbOk 2 [2, 3, 24] (L' := [(2, .int .u64 symbol), (3, .int .i64 add), (24, .bool (kind == 18))]) hf (by kernel_rfl) ?_
                  clear hf; clear a; intro a hf
                  refine wpList_nil ?_
                  exact hK4 (kind == 18) _ _ ⟨_, hs.sel [] rfl rfl, hf.keep (ks := [2, 3, 24]) (by kernel_rfl)⟩ hS
      · clear hS; intro KK1 k1 hK1 hS
        refine cnd (b := kind == 6) hf (by kernel_rfl) (fun hb3 => ?_) (fun hb3 => ?_)
        · replace hS := of_t hb3 hS
          refine wp_skip ?_
          exact hK1 (kind == 6) _ _ ⟨_, hs.sel [] rfl rfl, hf.keep (ks := [2, 3, 10, 19]) (by kernel_rfl)⟩ hS
        · replace hS := of_f hb3 hS
          refine sq ?_
          refine reg ?_
          refine st tbOk 2 [2, 3, 10, 19] (L' := [(2, .int .u64 symbol), (3, .int .i64 add), (10, .int .u32 kind), (19, .bool (kind == 7))]) hf (by kernel_rfl) ?_
          clear hf; clear a; intro a hf
          refine wpList_nil ?_
          refine ctj (fun (s2 : Bool) (a : Act) (w' : World) => ∃ (F2 : SH), Sep w F R w' F2 [] ∧ Fr 32 [(2, .int .u64 symbol), (3, .int .i64 add), (10, .int .u32 kind), (19, .bool s2)] a) hS ?_ ?_
          · clear hS hf hs; clear a; intro s2 a w1 hM hS
            obtain ⟨F2, hs, hf⟩ := hM
            exact hK1 s2 _ _ ⟨_, hs.sel [] rfl rfl, hf.keep (ks := [2, 3, 10, 19]) (by kernel_rfl)⟩ hS
          · clear hS; intro KK2 k2 hK2 hS
            refine cnd (b := kind == 7) hf (by kernel_rfl) (fun hb4 => ?_) (fun hb4 => ?_)
            · replace hS := of_t hb4 hS
              refine wp_skip ?_
              exact hK2 (kind == 7) _ _ ⟨_, hs.sel [] rfl rfl, hf.keep (ks := [2, 3, 10, 19]) (by kernel_rfl)⟩ hS
            · replace hS := of_f hb4 hS
              refine reg ?_
              refine st tbOk 2 [2, 3, 10, 19] (L' := [(2, .int .u64 symbol), (3, .int .i64 add), (10, .int .u32 kind), (19, .bool (kind == 16))]) hf (by kernel_rfl) ?_
              clear hf; clear a; intro a hf
              refine wpList_nil ?_
              exact hK2 (kind == 16) _ _ ⟨_, hs.sel [] rfl rfl, hf.keep (ks := [2, 3, 10, 19]) (by kernel_rfl)⟩ hS

set_option maxHeartbeats 4000000 in
theorem rela_Put_ok {w : World} {F : SH} {p_x : Int × Int × Int × Int}  (hs : Sep w F (blks []) w F []) {r : List Int} (hS : rela_Put p_x = some r) :
    Calls Try.prog 20 [.agg #[.int .u64 p_x.1, .int .u32 p_x.2.1, .int .u32 p_x.2.2.1, .int .i64 p_x.2.2.2]].toArray w (Gives (fun u w' => ∃ (ao5 : Option Addr) (cp5 : Nat) (F' : SH), u = .slice ao5 r.length cp5 ∧ Sep w F (blks []) w' F' [.row 5 (tI .u8) (.slice ao5 r.length cp5) r])) := by
  generalize (blks []) = R at hs ⊢
  unfold rela_Put at hS
  refine fn_ok (vs := [.agg #[.int .u64 p_x.1, .int .u32 p_x.2.1, .int .u32 p_x.2.2.1, .int .i64 p_x.2.2.2]]) Try.func20 rfl 36 Try.ntmps20 (Nat.le_of_ble_eq_true rfl) ?_
  intro a hf
  replace hf := Fr.cast (L' := [(0, .agg #[.int .u64 p_x.1, .int .u32 p_x.2.1, .int .u32 p_x.2.2.1, .int .i64 p_x.2.2.2])]) hf (by kernel_rfl)
  refine sq ?_
  refine reg ?_
  refine bx (T := 46) [.int .u64 p_x.1, .int .u32 p_x.2.1, .int .u32 p_x.2.2.1, .int .i64 p_x.2.2.2] (v := .agg #[.int .u64 p_x.1, .int .u32 p_x.2.1, .int .u32 p_x.2.2.1, .int .i64 p_x.2.2.2]) rfl (by kernel_rfl) hf (by kernel_rfl) (by kernel_rfl) (by kernel_rfl) ?_
  clear hf; clear a; intro w1 a hb hx _ hf
  replace hs : Sep w F R w1 F [.box w.heap.size 46 [.int .u64 p_x.1, .int .u32 p_x.2.1, .int .u32 p_x.2.2.1, .int .i64 p_x.2.2.2]] := hs.newBox hb hx
  clear hb hx
  replace hf := Fr.keep (ks := [1]) (L' := [(1, .pointer (some ⟨w.heap.size, 0, none⟩))]) hf (by kernel_rfl)
  refine st tbOk 1 [1] (L' := [(1, .pointer (some ⟨w.heap.size, 0, none⟩))]) hf (by kernel_rfl) ?_
  clear hf; clear a; intro a hf
  refine wpList_nil ?_
  refine sq ?_
  refine reg ?_
  refine st tbOk 1 [1, 3] (L' := [(1, .pointer (some ⟨w.heap.size, 0, none⟩)), (3, .slice none 0 0)]) hf (by kernel_rfl) ?_
  clear hf; clear a; intro a hf
  refine wpList_nil ?_
  refine sq ?_
  refine sq ?_
  refine reg ?_
  refine st tbOk 1 [1, 3, 8] (L' := [(1, .pointer (some ⟨w.heap.size, 0, none⟩)), (3, .slice none 0 0), (8, .pointer (some ⟨w.heap.size, 0, none⟩))]) hf (by kernel_rfl) ?_
  clear hf; clear a; intro a hf
  refine ldC tbOk (T := 22) (hs.cbx 0 rfl) (LeH.refl _) 0 (.int .u64 p_x.1) hf (by kernel_rfl) (by kernel_rfl) (by kernel_rfl) (by kernel_rfl) ?_
  clear hf; clear a; intro a hf
  replace hf := Fr.keep (ks := [1, 3, 9]) (L' := [(1, .pointer (some ⟨w.heap.size, 0, none⟩)), (3, .slice none 0 0), (9, .int .u64 p_x.1)]) hf (by kernel_rfl)
  refine st tbOk 1 [1, 3, 9, 10] (L' := [(1, .pointer (some ⟨w.heap.size, 0, none⟩)), (3, .slice none 0 0), (9, .int .u64 p_x.1), (10, .pointer (some ⟨w.heap.size, 1, none⟩))]) hf (by kernel_rfl) ?_
  clear hf; clear a; intro a hf
  refine ldC tbOk (T := 44) (hs.cbx 0 rfl) (LeH.refl _) 1 (.int .u32 p_x.2.1) hf (by kernel_rfl) (by kernel_rfl) (by kernel_rfl) (by kernel_rfl) ?_
  clear hf; clear a; intro a hf
  replace hf := Fr.keep (ks := [1, 3, 9, 11]) (L' := [(1, .pointer (some ⟨w.heap.size, 0, none⟩)), (3, .slice none 0 0), (9, .int .u64 p_x.1), (11, .int .u32 p_x.2.1)]) hf (by kernel_rfl)
  refine st tbOk 2 [1, 3, 9, 12, 13] (L' := [(1, .pointer (some ⟨w.heap.size, 0, none⟩)), (3, .slice none 0 0), (9, .int .u64 p_x.1), (12, .int .u64 (IntKind.u64.wrap p_x.2.1)), (13, .pointer (some ⟨w.heap.size, 2, none⟩))]) hf (by kernel_rfl) ?_
  clear hf; clear a; intro a hf
  refine ldC tbOk (T := 44) (hs.cbx 0 rfl) (LeH.refl _) 2 (.int .u32 p_x.2.2.1) hf (by kernel_rfl) (by kernel_rfl) (by kernel_rfl) (by kernel_rfl) ?_
  clear hf; clear a; intro a hf
  replace hf := Fr.keep (ks := [1, 3, 9, 12, 14]) (L' := [(1, .pointer (some ⟨w.heap.size, 0, none⟩)), (3, .slice none 0 0), (9, .int .u64 p_x.1), (12, .int .u64 (IntKind.u64.wrap p_x.2.1)), (14, .int .u32 p_x.2.2.1)]) hf (by kernel_rfl)
  refine st tbOk 4 [3, 9, 17, 18] (L' := [(3, .slice none 0 0), (9, .int .u64 p_x.1), (17, .int .u64 (bor .u64 (IntKind.u64.wrap p_x.2.1) (shl .u64 (IntKind.u64.wrap p_x.2.2.1) 32))), (18, .pointer (some ⟨w.heap.size, 3, none⟩))]) hf (by kernel_rfl) ?_
  clear hf; clear a; intro a hf
  refine ldC tbOk (T := 2) (hs.cbx 0 rfl) (LeH.refl _) 3 (.int .i64 p_x.2.2.2) hf (by kernel_rfl) (by kernel_rfl) (by kernel_rfl) (by kernel_rfl) ?_
  clear hf; clear a; intro a hf
  replace hs : Sep w F R w1 F [] := hs.sel [] rfl rfl
  replace hf := Fr.keep (ks := [3, 9, 17, 19]) (L' := [(3, .slice none 0 0), (9, .int .u64 p_x.1), (17, .int .u64 (bor .u64 (IntKind.u64.wrap p_x.2.1) (shl .u64 (IntKind.u64.wrap p_x.2.2.1) 32))), (19, .int .i64 p_x.2.2.2)]) hf (by kernel_rfl)
  refine st tbOk 3 [3, 21, 22] (L' := [(3, .slice none 0 0), (21, .agg (List.map (Value.int .u64) ([p_x.1, bor .u64 (IntKind.u64.wrap p_x.2.1) (shl .u64 (IntKind.u64.wrap p_x.2.2.1) 32), IntKind.u64.wrap p_x.2.2.2] : List Int)).toArray), (22, .int .i64 0)]) hf (by kernel_rfl) ?_
  clear hf; clear a; intro a hf
  refine wpList_nil ?_
  refine ctj (fun (s1 : List Int) (a : Act) (w' : World) => ∃ (ao1 : Option Addr) (cp1 : Nat) (F1 : SH), Sep w F R w' F1 [.row 5 (tI .u8) (.slice ao1 s1.length cp1) s1] ∧ Fr 36 [(3, .slice ao1 s1.length cp1)] a) hS ?_ ?_
  · clear hS hf hs; clear a; intro s1 a w6 hM hS
    obtain ⟨ao1, cp1, F1, hs, hf⟩ := hM
    refine sq ?_
    refine reg ?_
    refine st tbOk 2 [2] (L' := [(2, .slice ao1 s1.length cp1)]) hf (by kernel_rfl) ?_
    clear hf; clear a; intro a hf
    refine wpList_nil ?_
    have hr := Option.some.inj hS; subst hr
    refine wp_ret ?_
    exact ret_ok hf (vs := [.slice ao1 s1.length cp1]) (by kernel_rfl) ⟨ao1, cp1, _, rfl, hs.sel [0] rfl rfl⟩
  · clear hS; intro KK1 k1 hK1 hS
    refine blk ?_
    replace hs : Sep w F R w1 F [.row 5 (tI .u8) (.slice none 0 0) ([] : List Int)] := hs.addNil 5 (tI .u8)
    refine lp (st := ([], 0)) (fun (s2 : (List Int) × Int) (a : Act) (w' : World) => ∃ (ao2 : Option Addr) (cp2 : Nat) (F2 : SH), Sep w F R w' F2 [.row 5 (tI .u8) (.slice ao2 s2.1.length cp2) s2.1] ∧ Fr 36 [(3, .slice ao2 s2.1.length cp2), (21, .agg (List.map (Value.int .u64) ([p_x.1, bor .u64 (IntKind.u64.wrap p_x.2.1) (shl .u64 (IntKind.u64.wrap p_x.2.2.1) 32), IntKind.u64.wrap p_x.2.2.2] : List Int)).toArray), (22, .int .i64 s2.2)] a) ?_ ⟨none, 0, _, hs.sel [0] rfl rfl, hf.keep (ks := [3, 21, 22]) (by kernel_rfl)⟩ hS
    clear hS hf hs; clear a
    intro rec1 KK2 hK2 s2 a w2 hM hS
    obtain ⟨ao2, cp2, F2, hs, hf⟩ := hM
    refine sq ?_
    refine reg ?_
    refine st tbOk 1 [3, 21, 22, 23] (L' := [(3, .slice ao2 s2.1.length cp2), (21, .agg (List.map (Value.int .u64) ([p_x.1, bor .u64 (IntKind.u64.wrap p_x.2.1) (shl .u64 (IntKind.u64.wrap p_x.2.2.1) 32), IntKind.u64.wrap p_x.2.2.2] : List Int)).toArray), (22, .int .i64 s2.2), (23, .bool (decide (s2.2 < 3)))]) hf (by kernel_rfl) ?_
    clear hf; clear a; intro a hf
    refine wpList_nil ?_
    refine sq ?_
    refine cnd (b := decide (s2.2 < 3)) hf (by kernel_rfl) (fun hb1 => ?_) (fun hb1 => ?_)
    · replace hS := of_t hb1 hS
      refine wp_skip ?_
      refine sq ?_
      refine blk ?_
      refine sq ?_
      refine reg ?_
      have hT := of_gd hS; clear hS; obtain ⟨hc1, hS⟩ := hT
      refine ixA tbOk u67 u22 rfl i22 (Value.int .u64) ([p_x.1, bor .u64 (IntKind.u64.wrap p_x.2.1) (shl .u64 (IntKind.u64.wrap p_x.2.2.1) 32), IntKind.u64.wrap p_x.2.2.2] : List Int) rfl (k := .i64) (i := s2.2) hc1 hf (by kernel_rfl) (by kernel_rfl) (by kernel_rfl) (by kernel_rfl) ?_
      clear hf; clear a; intro a hf
      replace hf := Fr.keep (ks := [3, 21, 22, 24]) (L' := [(3, .slice ao2 s2.1.length cp2), (21, .agg (List.map (Value.int .u64) ([p_x.1, bor .u64 (IntKind.u64.wrap p_x.2.1) (shl .u64 (IntKind.u64.wrap p_x.2.2.1) 32), IntKind.u64.wrap p_x.2.2.2] : List Int)).toArray), (22, .int .i64 s2.2), (24, .int .u64 (gt ([p_x.1, bor .u64 (IntKind.u64.wrap p_x.2.1) (shl .u64 (IntKind.u64.wrap p_x.2.2.1) 32), IntKind.u64.wrap p_x.2.2.2] : List Int) s2.2))]) hf (by kernel_rfl)
      have hT := of_let hS; clear hS; obtain ⟨w_1, hl1, hS⟩ := hT
      refine st tbOk 1 [3, 5, 21, 22] (L' := [(3, .slice ao2 s2.1.length cp2), (5, .int .u64 w_1), (21, .agg (List.map (Value.int .u64) ([p_x.1, bor .u64 (IntKind.u64.wrap p_x.2.1) (shl .u64 (IntKind.u64.wrap p_x.2.2.1) 32), IntKind.u64.wrap p_x.2.2.2] : List Int)).toArray), (22, .int .i64 s2.2)]) hf (by subst hl1; kernel_rfl) ?_
      clear hf; clear a; intro a hf
      refine wpList_nil ?_
      refine sq ?_
      refine reg ?_
      have hT := of_gd hS; clear hS; obtain ⟨hc2, hS⟩ := hT
      refine mkR tbOk u26 i5 rfl rfl (t := (tI .u8)) rfl rfl (0 : Int) hs.le rfl (k := .i64) (k' := .i64) (n := 8) hc2 hf (by kernel_rfl) (by kernel_rfl) (by kernel_rfl) (by kernel_rfl) ?_
      clear hf; clear a; intro w3 a ho hx hf
      replace hs : Sep w F R w3 F2 [.row 5 (tI .u8) (.slice (some ⟨w2.heap.size, 0, none⟩) (List.replicate (Int.toNat 8) (0 : Int)).length (Int.toNat 8)) (List.replicate (Int.toNat 8) (0 : Int)), .row 5 (tI .u8) (.slice ao2 s2.1.length cp2) s2.1] := hs.newRow ho hx
      clear ho hx
      replace hf := Fr.keep (ks := [3, 5, 21, 22, 26]) (L' := [(3, .slice ao2 s2.1.length cp2), (5, .int .u64 w_1), (21, .agg (List.map (Value.int .u64) ([p_x.1, bor .u64 (IntKind.u64.wrap p_x.2.1) (shl .u64 (IntKind.u64.wrap p_x.2.2.1) 32), IntKind.u64.wrap p_x.2.2.2] : List Int)).toArray), (22, .int .i64 s2.2), (26, .slice (some ⟨w2.heap.size, 0, none⟩) (List.replicate (Int.toNat 8) (0 : Int)).length (Int.toNat 8))]) hf (by kernel_rfl)
      refine st tbOk 1 [3, 21, 22, 26, 27] (L' := [(3, .slice ao2 s2.1.length cp2), (21, .agg (List.map (Value.int .u64) ([p_x.1, bor .u64 (IntKind.u64.wrap p_x.2.1) (shl .u64 (IntKind.u64.wrap p_x.2.2.1) 32), IntKind.u64.wrap p_x.2.2.2] : List Int)).toArray), (22, .int .i64 s2.2), (26, .slice (some ⟨w2.heap.size, 0, none⟩) (List.replicate (Int.toNat 8) (0 : Int)).length (Int.toNat 8)), (27, .int .u64 w_1)]) hf (by kernel_rfl) ?_
      clear hf; clear a; intro a hf
      have hT := of_bd hS; clear hS; obtain ⟨z1, hz1, hS⟩ := hT
      refine clV ent34 (vs := [.slice (some ⟨w2.heap.size, 0, none⟩) (List.replicate (Int.toNat 8) (0 : Int)).length (Int.toNat 8), .int .u64 0, .int .i64 8, .int .u64 w_1]) (caps := []) hf (by kernel_rfl) (by kernel_rfl) (by kernel_rfl) (by kernel_rfl) (octets_Set_ok (b := (List.replicate (Int.toNat 8) (0 : Int))) (p_at := 0) (n := 8) (p_x := w_1) (hs.lend [0] [] rfl rfl rfl rfl rfl) hz1) ?_
      clear hf; clear a; intro v w4 a hT hf; obtain ⟨ao3, cp3, F3, rfl, hr⟩ := hT
      replace hs : Sep w F R w4 F2 [.row 5 (tI .u8) (.slice ao3 z1.1.length cp3) z1.1, .row 5 (tI .u8) (.slice (some ⟨w2.heap.size, 0, none⟩) (List.replicate (Int.toNat 8) (0 : Int)).length (Int.toNat 8)) (List.replicate (Int.toNat 8) (0 : Int)), .row 5 (tI .u8) (.slice ao2 s2.1.length cp2) s2.1] := hs.backL [0] [] [0, 1] rfl rfl rfl rfl rfl rfl hr ⟨(flat_I .u8), trivial⟩
      clear hr
      replace hs : Sep w F R w4 F2 [.row 5 (tI .u8) (.slice ao3 z1.1.length cp3) z1.1, .row 5 (tI .u8) (.slice ao2 s2.1.length cp2) s2.1] := hs.sel [0, 2] rfl rfl
      replace hf := Fr.keep (ks := [3, 21, 22, 28]) (L' := [(3, .slice ao2 s2.1.length cp2), (21, .agg (List.map (Value.int .u64) ([p_x.1, bor .u64 (IntKind.u64.wrap p_x.2.1) (shl .u64 (IntKind.u64.wrap p_x.2.2.1) 32), IntKind.u64.wrap p_x.2.2.2] : List Int)).toArray), (22, .int .i64 s2.2), (28, .tuple #[.slice ao3 z1.1.length cp3, .int .i64 z1.2])]) hf (by kernel_rfl)
      refine st tbOk 5 [3, 6, 21, 22] (L' := [(3, .slice ao2 s2.1.length cp2), (6, .slice ao3 z1.1.length cp3), (21, .agg (List.map (Value.int .u64) ([p_x.1, bor .u64 (IntKind.u64.wrap p_x.2.1) (shl .u64 (IntKind.u64.wrap p_x.2.2.1) 32), IntKind.u64.wrap p_x.2.2.2] : List Int)).toArray), (22, .int .i64 s2.2)]) hf (by kernel_rfl) ?_
      clear hf; clear a; intro a hf
      refine wpList_nil ?_
      refine reg ?_
      refine st tbOk 2 [21, 22, 31, 32] (L' := [(21, .agg (List.map (Value.int .u64) ([p_x.1, bor .u64 (IntKind.u64.wrap p_x.2.1) (shl .u64 (IntKind.u64.wrap p_x.2.2.1) 32), IntKind.u64.wrap p_x.2.2.2] : List Int)).toArray), (22, .int .i64 s2.2), (31, .slice ao2 s2.1.length cp2), (32, .slice ao3 z1.1.length cp3)]) hf (by kernel_rfl) ?_
      clear hf; clear a; intro a hf
      have hT := of_gd hS; clear hS; obtain ⟨hc3, hS⟩ := hT
      refine apR tbOk u26 i5 rfl rfl rfl rfl hs.le (hs.own 1 rfl) (hs.raW 0 rfl) hc3 hf (by kernel_rfl) (by kernel_rfl) (by kernel_rfl) (by kernel_rfl) ?_
      clear hf; clear a; intro ao4 cp4 w5 a ho hg hl hf
      replace hs : Sep w F R w5 F2 [.row 5 (tI .u8) (.slice ao3 z1.1.length cp3) z1.1, .row 5 (tI .u8) (.slice ao4 (s2.1 ++ z1.1).length cp4) (s2.1 ++ z1.1)] := hs.updRow 1 rfl ho hg hl
      clear ho hg hl
      replace hs : Sep w F R w5 F2 [.row 5 (tI .u8) (.slice ao4 (s2.1 ++ z1.1).length cp4) (s2.1 ++ z1.1)] := hs.sel [1] rfl rfl
      replace hf := Fr.keep (ks := [21, 22, 33]) (L' := [(21, .agg (List.map (Value.int .u64) ([p_x.1, bor .u64 (IntKind.u64.wrap p_x.2.1) (shl .u64 (IntKind.u64.wrap p_x.2.2.1) 32), IntKind.u64.wrap p_x.2.2.2] : List Int)).toArray), (22, .int .i64 s2.2), (33, .slice ao4 (s2.1 ++ z1.1).length cp4)]) hf (by kernel_rfl)
      refine st tbOk 1 [3, 21, 22] (L' := [(3, .slice ao4 (s2.1 ++ z1.1).length cp4), (21, .agg (List.map (Value.int .u64) ([p_x.1, bor .u64 (IntKind.u64.wrap p_x.2.1) (shl .u64 (IntKind.u64.wrap p_x.2.2.1) 32), IntKind.u64.wrap p_x.2.2.2] : List Int)).toArray), (22, .int .i64 s2.2)]) hf (by kernel_rfl) ?_
      clear hf; clear a; intro a hf
      refine wpList_nil ?_
      refine reg ?_
      refine st tbOk 2 [3, 21, 22] (L' := [(3, .slice ao4 (s2.1 ++ z1.1).length cp4), (21, .agg (List.map (Value.int .u64) ([p_x.1, bor .u64 (IntKind.u64.wrap p_x.2.1) (shl .u64 (IntKind.u64.wrap p_x.2.2.1) 32), IntKind.u64.wrap p_x.2.2.2] : List Int)).toArray), (22, .int .i64 (IntKind.i64.wrap (s2.2 + 1)))]) hf (by kernel_rfl) ?_
      clear hf; clear a; intro a hf
      refine wpList_nil ?_
      exact hK2 ((s2.1 ++ z1.1), IntKind.i64.wrap (s2.2 + 1)) _ _ ⟨ao4, cp4, _, hs.sel [0] rfl rfl, hf.keep (ks := [3, 21, 22]) (by kernel_rfl)⟩ hS
    · replace hS := of_f hb1 hS
      refine wp_exit ?_
      exact hK1 s2.1 _ _ ⟨ao2, cp2, _, hs.sel [0] rfl rfl, hf.keep (ks := [3]) (by kernel_rfl)⟩ hS

set_option maxHeartbeats 4000000 in
theorem rela_Table_ok {w : World} {F : SH} {b : List Int} {ao1 : Option Addr} {cp1 : Nat} (hs : Sep w F (blks [.ro (tI .u8) (.slice ao1 b.length cp1) b]) w F [.ro (tI .u8) (.slice ao1 b.length cp1) b]) {r : (List (Int × Int × Int × Int)) × Int} (hS : rela_Table b = some r) :
    Calls Try.prog 21 [.slice ao1 b.length cp1].toArray w (Gives (fun u w' => ∃ (ao5 : Option Addr) (cp5 : Nat) (F' : SH), u = .tuple #[.slice ao5 r.1.length cp5, .int .i64 r.2] ∧ Sep w F (blks [.ro (tI .u8) (.slice ao1 b.length cp1) b]) w' F' [.row 46 ty45 (.slice ao5 r.1.length cp5) r.1])) := by
  generalize (blks [.ro (tI .u8) (.slice ao1 b.length cp1) b]) = R at hs ⊢
  unfold rela_Table at hS
  refine fn_ok (vs := [.slice ao1 b.length cp1]) Try.func21 rfl 64 Try.ntmps21 (Nat.le_of_ble_eq_true rfl) ?_
  intro a hf
  replace hf := Fr.cast (L' := [(0, .slice ao1 b.length cp1)]) hf (by kernel_rfl)
  refine sq ?_
  refine reg ?_
  refine st tbOk 2 [0] (L' := [(0, .slice ao1 b.length cp1)]) hf (by kernel_rfl) ?_
  clear hf; clear a; intro a hf
  refine wpList_nil ?_
  refine sq ?_
  refine sq ?_
  refine reg ?_
  refine st tbOk 4 [0, 17] (L' := [(0, .slice ao1 b.length cp1), (17, .bool ((Int.tmod ((b.length : Nat) : Int) 24) != 0))]) hf (by kernel_rfl) ?_
  clear hf; clear a; intro a hf
  refine wpList_nil ?_
  refine cnd (b := (Int.tmod ((b.length : Nat) : Int) 24) != 0) hf (by kernel_rfl) (fun hb1 => ?_) (fun hb1 => ?_)
  · replace hS := of_t hb1 hS
    refine sq ?_
    refine reg ?_
    refine st tbOk 2 [2, 3] (L' := [(2, .slice none 0 0), (3, .int .i64 10)]) hf (by kernel_rfl) ?_
    clear hf; clear a; intro a hf
    refine wpList_nil ?_
    have hr := Option.some.inj hS; subst hr
    refine wp_ret ?_
    replace hs : Sep w F R w F [.row 46 ty45 (.slice none 0 0) ([] : List (Int × Int × Int × Int)), .ro (tI .u8) (.slice ao1 b.length cp1) b] := hs.addNil 46 ty45
    exact ret_ok hf (vs := [.slice none 0 0, .int .i64 10]) (by kernel_rfl) ⟨none, 0, _, rfl, hs.sel [0] rfl rfl⟩
  · replace hS := of_f hb1 hS
    refine wp_skip ?_
    refine sq ?_
    refine reg ?_
    refine st tbOk 1 [0, 4] (L' := [(0, .slice ao1 b.length cp1), (4, .slice none 0 0)]) hf (by kernel_rfl) ?_
    clear hf; clear a; intro a hf
    refine wpList_nil ?_
    refine sq ?_
    refine sq ?_
    refine reg ?_
    refine st tbOk 1 [0, 4, 5] (L' := [(0, .slice ao1 b.length cp1), (4, .slice none 0 0), (5, .int .u64 0)]) hf (by kernel_rfl) ?_
    clear hf; clear a; intro a hf
    refine wpList_nil ?_
    refine ctj (fun (s1 : List (Int × Int × Int × Int)) (a : Act) (w' : World) => ∃ (ao2 : Option Addr) (cp2 : Nat) (F1 : SH), Sep w F R w' F1 [.row 46 ty45 (.slice ao2 s1.length cp2) s1] ∧ Fr 64 [(4, .slice ao2 s1.length cp2)] a) hS ?_ ?_
    · clear hS hf hs; clear a; intro s1 a w8 hM hS
      obtain ⟨ao2, cp2, F1, hs, hf⟩ := hM
      refine sq ?_
      refine reg ?_
      refine st tbOk 3 [2, 3] (L' := [(2, .slice ao2 s1.length cp2), (3, .int .i64 0)]) hf (by kernel_rfl) ?_
      clear hf; clear a; intro a hf
      refine wpList_nil ?_
      have hr := Option.some.inj hS; subst hr
      refine wp_ret ?_
      exact ret_ok hf (vs := [.slice ao2 s1.length cp2, .int .i64 0]) (by kernel_rfl) ⟨ao2, cp2, _, rfl, hs.sel [0] rfl rfl⟩
    · clear hS; intro KK1 k1 hK1 hS
      refine blk ?_
      replace hs : Sep w F R w F [.row 46 ty45 (.slice none 0 0) ([] : List (Int × Int × Int × Int)), .ro (tI .u8) (.slice ao1 b.length cp1) b] := hs.addNil 46 ty45
      refine lp (st := ([], 0)) (fun (s2 : (List (Int × Int × Int × Int)) × Int) (a : Act) (w' : World) => ∃ (ao3 : Option Addr) (cp3 : Nat) (F2 : SH), Sep w F R w' F2 [.row 46 ty45 (.slice ao3 s2.1.length cp3) s2.1, .ro (tI .u8) (.slice ao1 b.length cp1) b] ∧ Fr 64 [(0, .slice ao1 b.length cp1), (4, .slice ao3 s2.1.length cp3), (5, .int .u64 s2.2)] a) ?_ ⟨none, 0, _, hs.sel [0, 1] rfl rfl, hf.keep (ks := [0, 4, 5]) (by kernel_rfl)⟩ hS
      clear hS hf hs; clear a
      intro rec1 KK2 hK2 s2 a w1 hM hS
      obtain ⟨ao3, cp3, F2, hs, hf⟩ := hM
      refine sq ?_
      refine sq ?_
      refine reg ?_
      refine st tbOk 5 [0, 4, 5, 22] (L' := [(0, .slice ao1 b.length cp1), (4, .slice ao3 s2.1.length cp3), (5, .int .u64 s2.2), (22, .bool (decide (s2.2 < (IntKind.u64.wrap ((b.length : Nat) : Int)))))]) hf (by kernel_rfl) ?_
      clear hf; clear a; intro a hf
      refine wpList_nil ?_
      refine cnd (b := decide (s2.2 < (IntKind.u64.wrap ((b.length : Nat) : Int)))) hf (by kernel_rfl) (fun hb2 => ?_) (fun hb2 => ?_)
      · replace hS := of_t hb2 hS
        refine wp_skip ?_
        refine sq ?_
        refine blk ?_
        refine sq ?_
        refine reg ?_
        refine st tbOk 2 [0, 4, 5, 26, 27] (L' := [(0, .slice ao1 b.length cp1), (4, .slice ao3 s2.1.length cp3), (5, .int .u64 s2.2), (26, .slice ao1 b.length cp1), (27, .int .u64 s2.2)]) hf (by kernel_rfl) ?_
        clear hf; clear a; intro a hf
        have hT := of_bd hS; clear hS; obtain ⟨z1, hz1, hS⟩ := hT
        refine clV ent31 (vs := [.slice ao1 b.length cp1, .int .u64 s2.2, .int .i64 8]) (caps := []) hf (by kernel_rfl) (by kernel_rfl) (by kernel_rfl) (by kernel_rfl) (octets_Get_ok (b := b) (p_at := s2.2) (n := 8) (hs.enter [1] rfl rfl) hz1) ?_
        clear hf; clear a; intro v w2 a hT hf; obtain ⟨F3, rfl, hr⟩ := hT
        replace hs : Sep w F R w2 F3 [.row 46 ty45 (.slice ao3 s2.1.length cp3) s2.1, .ro (tI .u8) (.slice ao1 b.length cp1) b] := hs.back [1] [0, 1] rfl rfl rfl rfl hr
        clear hr
        replace hf := Fr.keep (ks := [0, 4, 5, 28]) (L' := [(0, .slice ao1 b.length cp1), (4, .slice ao3 s2.1.length cp3), (5, .int .u64 s2.2), (28, .tuple #[.int .u64 z1.1, .int .i64 z1.2])]) hf (by kernel_rfl)
        refine st tbOk 5 [0, 4, 5, 6] (L' := [(0, .slice ao1 b.length cp1), (4, .slice ao3 s2.1.length cp3), (5, .int .u64 s2.2), (6, .int .u64 z1.1)]) hf (by kernel_rfl) ?_
        clear hf; clear a; intro a hf
        refine wpList_nil ?_
        refine sq ?_
        refine reg ?_
        refine st tbOk 3 [0, 4, 5, 6, 32, 34] (L' := [(0, .slice ao1 b.length cp1), (4, .slice ao3 s2.1.length cp3), (5, .int .u64 s2.2), (6, .int .u64 z1.1), (32, .slice ao1 b.length cp1), (34, .int .u64 (IntKind.u64.wrap (s2.2 + 8)))]) hf (by kernel_rfl) ?_
        clear hf; clear a; intro a hf
        have hT := of_bd hS; clear hS; obtain ⟨z2, hz2, hS⟩ := hT
        refine clV ent31 (vs := [.slice ao1 b.length cp1, .int .u64 (IntKind.u64.wrap (s2.2 + 8)), .int .i64 4]) (caps := []) hf (by kernel_rfl) (by kernel_rfl) (by kernel_rfl) (by kernel_rfl) (octets_Get_ok (b := b) (p_at := IntKind.u64.wrap (s2.2 + 8)) (n := 4) (hs.enter [1] rfl rfl) hz2) ?_
        clear hf; clear a; intro v w3 a hT hf; obtain ⟨F4, rfl, hr⟩ := hT
        replace hs : Sep w F R w3 F4 [.row 46 ty45 (.slice ao3 s2.1.length cp3) s2.1, .ro (tI .u8) (.slice ao1 b.length cp1) b] := hs.back [1] [0, 1] rfl rfl rfl rfl hr
        clear hr
        replace hf := Fr.keep (ks := [0, 4, 5, 6, 35]) (L' := [(0, .slice ao1 b.length cp1), (4, .slice ao3 s2.1.length cp3), (5, .int .u64 s2.2), (6, .int .u64 z1.1), (35, .tuple #[.int .u64 z2.1, .int .i64 z2.2])]) hf (by kernel_rfl)
        refine st tbOk 5 [0, 4, 5, 6, 8] (L' := [(0, .slice ao1 b.length cp1), (4, .slice ao3 s2.1.length cp3), (5, .int .u64 s2.2), (6, .int .u64 z1.1), (8, .int .u64 z2.1)]) hf (by kernel_rfl) ?_
        clear hf; clear a; intro a hf
        refine wpList_nil ?_
        refine sq ?_
        refine reg ?_
        refine st tbOk 3 [0, 4, 5, 6, 8, 39, 41] (L' := [(0, .slice ao1 b.length cp1), (4, .slice ao3 s2.1.length cp3), (5, .int .u64 s2.2), (6, .int .u64 z1.1), (8, .int .u64 z2.1), (39, .slice ao1 b.length cp1), (41, .int .u64 (IntKind.u64.wrap (s2.2 + 12)))]) hf (by kernel_rfl) ?_
        clear hf; clear a; intro a hf
        have hT := of_bd hS; clear hS; obtain ⟨z3, hz3, hS⟩ := hT
        refine clV ent31 (vs := [.slice ao1 b.length cp1, .int .u64 (IntKind.u64.wrap (s2.2 + 12)), .int .i64 4]) (caps := []) hf (by kernel_rfl) (by kernel_rfl) (by kernel_rfl) (by kernel_rfl) (octets_Get_ok (b := b) (p_at := IntKind.u64.wrap (s2.2 + 12)) (n := 4) (hs.enter [1] rfl rfl) hz3) ?_
        clear hf; clear a; intro v w4 a hT hf; obtain ⟨F5, rfl, hr⟩ := hT
        replace hs : Sep w F R w4 F5 [.row 46 ty45 (.slice ao3 s2.1.length cp3) s2.1, .ro (tI .u8) (.slice ao1 b.length cp1) b] := hs.back [1] [0, 1] rfl rfl rfl rfl hr
        clear hr
        replace hf := Fr.keep (ks := [0, 4, 5, 6, 8, 42]) (L' := [(0, .slice ao1 b.length cp1), (4, .slice ao3 s2.1.length cp3), (5, .int .u64 s2.2), (6, .int .u64 z1.1), (8, .int .u64 z2.1), (42, .tuple #[.int .u64 z3.1, .int .i64 z3.2])]) hf (by kernel_rfl)
        refine st tbOk 5 [0, 4, 5, 6, 8, 10] (L' := [(0, .slice ao1 b.length cp1), (4, .slice ao3 s2.1.length cp3), (5, .int .u64 s2.2), (6, .int .u64 z1.1), (8, .int .u64 z2.1), (10, .int .u64 z3.1)]) hf (by kernel_rfl) ?_
        clear hf; clear a; intro a hf
        refine wpList_nil ?_
        refine sq ?_
        refine reg ?_
        refine st tbOk 3 [0, 4, 5, 6, 8, 10, 46, 48] (L' := [(0, .slice ao1 b.length cp1), (4, .slice ao3 s2.1.length cp3), (5, .int .u64 s2.2), (6, .int .u64 z1.1), (8, .int .u64 z2.1), (10, .int .u64 z3.1), (46, .slice ao1 b.length cp1), (48, .int .u64 (IntKind.u64.wrap (s2.2 + 16)))]) hf (by kernel_rfl) ?_
        clear hf; clear a; intro a hf
        have hT := of_bd hS; clear hS; obtain ⟨z4, hz4, hS⟩ := hT
        refine clV ent31 (vs := [.slice ao1 b.length cp1, .int .u64 (IntKind.u64.wrap (s2.2 + 16)), .int .i64 8]) (caps := []) hf (by kernel_rfl) (by kernel_rfl) (by kernel_rfl) (by kernel_rfl) (octets_Get_ok (b := b) (p_at := IntKind.u64.wrap (s2.2 + 16)) (n := 8) (hs.enter [1] rfl rfl) hz4) ?_
        clear hf; clear a; intro v w5 a hT hf; obtain ⟨F6, rfl, hr⟩ := hT
        replace hs : Sep w F R w5 F6 [.row 46 ty45 (.slice ao3 s2.1.length cp3) s2.1, .ro (tI .u8) (.slice ao1 b.length cp1) b] := hs.back [1] [0, 1] rfl rfl rfl rfl hr
        clear hr
        replace hf := Fr.keep (ks := [0, 4, 5, 6, 8, 10, 49]) (L' := [(0, .slice ao1 b.length cp1), (4, .slice ao3 s2.1.length cp3), (5, .int .u64 s2.2), (6, .int .u64 z1.1), (8, .int .u64 z2.1), (10, .int .u64 z3.1), (49, .tuple #[.int .u64 z4.1, .int .i64 z4.2])]) hf (by kernel_rfl)
        refine st tbOk 5 [0, 4, 5, 6, 8, 10, 12] (L' := [(0, .slice ao1 b.length cp1), (4, .slice ao3 s2.1.length cp3), (5, .int .u64 s2.2), (6, .int .u64 z1.1), (8, .int .u64 z2.1), (10, .int .u64 z3.1), (12, .int .u64 z4.1)]) hf (by kernel_rfl) ?_
        clear hf; clear a; intro a hf
        refine wpList_nil ?_
        refine reg ?_
        refine st tbOk 9 [0, 5, 52, 60] (L' := [(0, .slice ao1 b.length cp1), (5, .int .u64 s2.2), (52, .slice ao3 s2.1.length cp3), (60, .agg #[.int .u64 z1.1, .int .u32 (IntKind.u32.wrap z2.1), .int .u32 (IntKind.u32.wrap z3.1), .int .i64 (IntKind.i64.wrap z4.1)])]) hf (by kernel_rfl) ?_
        clear hf; clear a; intro a hf
        refine bsR tbOk u48 i46 rfl (t := ty45) (vs := [(0, .agg #[.int .u64 z1.1, .int .u32 (IntKind.u32.wrap z2.1), .int .u32 (IntKind.u32.wrap z3.1), .int .i64 (IntKind.i64.wrap z4.1)])]) (cells := #[.int .u64 z1.1, .int .u32 (IntKind.u32.wrap z2.1), .int .u32 (IntKind.u32.wrap z3.1), .int .i64 (IntKind.i64.wrap z4.1)]) ([(z1.1, IntKind.u32.wrap z2.1, IntKind.u32.wrap z3.1, IntKind.i64.wrap z4.1)] : List (Int × Int × Int × Int)) hs.le hf (by kernel_rfl) (by kernel_rfl) (by kernel_rfl) rfl (by kernel_rfl) (reps_flat _) rfl ?_
        clear hf; clear a; intro w6 a ho hx hf
        replace hs : Sep w F R w6 F6 [.row 46 ty45 (.slice (some ⟨w5.heap.size, 0, none⟩) ([(z1.1, IntKind.u32.wrap z2.1, IntKind.u32.wrap z3.1, IntKind.i64.wrap z4.1)] : List (Int × Int × Int × Int)).length ([(z1.1, IntKind.u32.wrap z2.1, IntKind.u32.wrap z3.1, IntKind.i64.wrap z4.1)] : List (Int × Int × Int × Int)).length) ([(z1.1, IntKind.u32.wrap z2.1, IntKind.u32.wrap z3.1, IntKind.i64.wrap z4.1)] : List (Int × Int × Int × Int)), .row 46 ty45 (.slice ao3 s2.1.length cp3) s2.1, .ro (tI .u8) (.slice ao1 b.length cp1) b] := hs.newRow ho hx
        clear ho hx
        replace hf := Fr.keep (ks := [0, 5, 52, 61]) (L' := [(0, .slice ao1 b.length cp1), (5, .int .u64 s2.2), (52, .slice ao3 s2.1.length cp3), (61, .slice (some ⟨w5.heap.size, 0, none⟩) ([(z1.1, IntKind.u32.wrap z2.1, IntKind.u32.wrap z3.1, IntKind.i64.wrap z4.1)] : List (Int × Int × Int × Int)).length ([(z1.1, IntKind.u32.wrap z2.1, IntKind.u32.wrap z3.1, IntKind.i64.wrap z4.1)] : List (Int × Int × Int × Int)).length)]) hf (by kernel_rfl)
        have hT := of_gd hS; clear hS; obtain ⟨hc1, hS⟩ := hT
        refine apR tbOk u48 i46 rfl rfl rfl rfl hs.le (hs.own 1 rfl) (hs.raW 0 rfl) hc1 hf (by kernel_rfl) (by kernel_rfl) (by kernel_rfl) (by kernel_rfl) ?_
        clear hf; clear a; intro ao4 cp4 w7 a ho hg hl hf
        replace hs : Sep w F R w7 F6 [.row 46 ty45 (.slice (some ⟨w5.heap.size, 0, none⟩) ([(z1.1, IntKind.u32.wrap z2.1, IntKind.u32.wrap z3.1, IntKind.i64.wrap z4.1)] : List (Int × Int × Int × Int)).length ([(z1.1, IntKind.u32.wrap z2.1, IntKind.u32.wrap z3.1, IntKind.i64.wrap z4.1)] : List (Int × Int × Int × Int)).length) ([(z1.1, IntKind.u32.wrap z2.1, IntKind.u32.wrap z3.1, IntKind.i64.wrap z4.1)] : List (Int × Int × Int × Int)), .row 46 ty45 (.slice ao4 (s2.1 ++ ([(z1.1, IntKind.u32.wrap z2.1, IntKind.u32.wrap z3.1, IntKind.i64.wrap z4.1)] : List (Int × Int × Int × Int))).length cp4) (s2.1 ++ ([(z1.1, IntKind.u32.wrap z2.1, IntKind.u32.wrap z3.1, IntKind.i64.wrap z4.1)] : List (Int × Int × Int × Int))), .ro (tI .u8) (.slice ao1 b.length cp1) b] := hs.updRow 1 rfl ho hg hl
        clear ho hg hl
        replace hs : Sep w F R w7 F6 [.row 46 ty45 (.slice ao4 (s2.1 ++ ([(z1.1, IntKind.u32.wrap z2.1, IntKind.u32.wrap z3.1, IntKind.i64.wrap z4.1)] : List (Int × Int × Int × Int))).length cp4) (s2.1 ++ ([(z1.1, IntKind.u32.wrap z2.1, IntKind.u32.wrap z3.1, IntKind.i64.wrap z4.1)] : List (Int × Int × Int × Int))), .ro (tI .u8) (.slice ao1 b.length cp1) b] := hs.sel [1, 2] rfl rfl
        replace hf := Fr.keep (ks := [0, 5, 62]) (L' := [(0, .slice ao1 b.length cp1), (5, .int .u64 s2.2), (62, .slice ao4 (s2.1 ++ ([(z1.1, IntKind.u32.wrap z2.1, IntKind.u32.wrap z3.1, IntKind.i64.wrap z4.1)] : List (Int × Int × Int × Int))).length cp4)]) hf (by kernel_rfl)
        refine st tbOk 1 [0, 4, 5] (L' := [(0, .slice ao1 b.length cp1), (4, .slice ao4 (s2.1 ++ ([(z1.1, IntKind.u32.wrap z2.1, IntKind.u32.wrap z3.1, IntKind.i64.wrap z4.1)] : List (Int × Int × Int × Int))).length cp4), (5, .int .u64 s2.2)]) hf (by kernel_rfl) ?_
        clear hf; clear a; intro a hf
        refine wpList_nil ?_
        refine reg ?_
        have hT := of_let hS; clear hS; obtain ⟨at_1, hl1, hS⟩ := hT
        refine st tbOk 3 [0, 4, 5] (L' := [(0, .slice ao1 b.length cp1), (4, .slice ao4 (s2.1 ++ ([(z1.1, IntKind.u32.wrap z2.1, IntKind.u32.wrap z3.1, IntKind.i64.wrap z4.1)] : List (Int × Int × Int × Int))).length cp4), (5, .int .u64 at_1)]) hf (by subst hl1; kernel_rfl) ?_
        clear hf; clear a; intro a hf
        refine wpList_nil ?_
        exact hK2 ((s2.1 ++ ([(z1.1, IntKind.u32.wrap z2.1, IntKind.u32.wrap z3.1, IntKind.i64.wrap z4.1)] : List (Int × Int × Int × Int))), at_1) _ _ ⟨ao4, cp4, _, hs.sel [0, 1] rfl rfl, hf.keep (ks := [0, 4, 5]) (by kernel_rfl)⟩ hS
      · replace hS := of_f hb2 hS
        refine wp_exit ?_
        exact hK1 s2.1 _ _ ⟨ao3, cp3, _, hs.sel [0] rfl rfl, hf.keep (ks := [4]) (by kernel_rfl)⟩ hS

set_option maxHeartbeats 4000000 in
theorem rela_Check_ok {w : World} {F : SH} {p_l : List (Int × Int × Int × Int)} {symbols : Int} {ao1 : Option Addr} {cp1 : Nat} (hs : Sep w F (blks [.ro ty45 (.slice ao1 p_l.length cp1) p_l]) w F [.ro ty45 (.slice ao1 p_l.length cp1) p_l]) {r : Int} (hS : rela_Check p_l symbols = some r) :
    Calls Try.prog 24 [.slice ao1 p_l.length cp1, .int .i64 symbols].toArray w (Gives (fun u w' => ∃ (F' : SH), u = .int .i64 r ∧ Sep w F (blks [.ro ty45 (.slice ao1 p_l.length cp1) p_l]) w' F' [])) := by
  generalize (blks [.ro ty45 (.slice ao1 p_l.length cp1) p_l]) = R at hs ⊢
  unfold rela_Check at hS
  refine fn_ok (vs := [.slice ao1 p_l.length cp1, .int .i64 symbols]) Try.func24 rfl 51 Try.ntmps24 (Nat.le_of_ble_eq_true rfl) ?_
  intro a hf
  replace hf := Fr.cast (L' := [(0, .slice ao1 p_l.length cp1), (1, .int .i64 symbols)]) hf (by kernel_rfl)
  refine sq ?_
  refine reg ?_
  refine st tbOk 1 [0, 1] (L' := [(0, .slice ao1 p_l.length cp1), (1, .int .i64 symbols)]) hf (by kernel_rfl) ?_
  clear hf; clear a; intro a hf
  refine wpList_nil ?_
  refine sq ?_
  refine sq ?_
  refine reg ?_
  refine st tbOk 3 [1, 10, 11, 12] (L' := [(1, .int .i64 symbols), (10, .slice ao1 p_l.length cp1), (11, .int .i64 ((p_l.length : Nat) : Int)), (12, .int .i64 0)]) hf (by kernel_rfl) ?_
  clear hf; clear a; intro a hf
  refine wpList_nil ?_
  refine ctj (fun (s1 : Unit) (a : Act) (w' : World) => ∃ (F1 : SH), Sep w F R w' F1 [] ∧ Fr 51 [] a) hS ?_ ?_
  · clear hS hf hs; clear a; intro s1 a w7 hM hS
    obtain ⟨F1, hs, hf⟩ := hM
    refine sq ?_
    refine reg ?_
    refine st tbOk 1 [4] (L' := [(4, .int .i64 0)]) hf (by kernel_rfl) ?_
    clear hf; clear a; intro a hf
    refine wpList_nil ?_
    have hr := Option.some.inj hS; subst hr
    refine wp_ret ?_
    exact ret_ok hf (vs := [.int .i64 0]) (by kernel_rfl) ⟨_, rfl, hs.sel [] rfl rfl⟩
  · clear hS; intro KK1 k1 hK1 hS
    refine blk ?_
    refine lp (st := 0) (fun (s2 : Int) (a : Act) (w' : World) => ∃ (F2 : SH), Sep w F R w' F2 [.ro ty45 (.slice ao1 p_l.length cp1) p_l] ∧ Fr 51 [(1, .int .i64 symbols), (10, .slice ao1 p_l.length cp1), (11, .int .i64 ((p_l.length : Nat) : Int)), (12, .int .i64 s2)] a) ?_ ⟨_, hs.sel [0] rfl rfl, hf.keep (ks := [1, 10, 11, 12]) (by kernel_rfl)⟩ hS
    clear hS hf hs; clear a
    intro rec1 KK2 hK2 s2 a w1 hM hS
    obtain ⟨F2, hs, hf⟩ := hM
    refine sq ?_
    refine reg ?_
    refine st tbOk 1 [1, 10, 11, 12, 13] (L' := [(1, .int .i64 symbols), (10, .slice ao1 p_l.length cp1), (11, .int .i64 ((p_l.length : Nat) : Int)), (12, .int .i64 s2), (13, .bool (decide (s2 < ((p_l.length : Nat) : Int))))]) hf (by kernel_rfl) ?_
    clear hf; clear a; intro a hf
    refine wpList_nil ?_
    refine sq ?_
    refine cnd (b := decide (s2 < ((p_l.length : Nat) : Int))) hf (by kernel_rfl) (fun hb1 => ?_) (fun hb1 => ?_)
    · replace hS := of_t hb1 hS
      refine wp_skip ?_
      refine sq ?_
      refine blk ?_
      refine sq ?_
      refine reg ?_
      have hT := of_gd hS; clear hS; obtain ⟨hc1, hS⟩ := hT
      refine ixR tbOk u48 i46 rfl rfl ((hs.ro 0 rfl).ra (LeH.refl _)) (k := .i64) (n := s2) hc1 hf (by kernel_rfl) (by kernel_rfl) (by kernel_rfl) (by kernel_rfl) ?_
      clear hf; clear a; intro pb1 po1 c1 a hp1 hr1 hf
      obtain rfl : c1 = [.int .u64 ((gt p_l s2).1), .int .u32 ((gt p_l s2).2.1), .int .u32 ((gt p_l s2).2.2.1), .int .i64 ((gt p_l s2).2.2.2)] := hr1
      replace hs : Sep w F R w1 F2 [.cel pb1 po1 [.int .u64 ((gt p_l s2).1), .int .u32 ((gt p_l s2).2.1), .int .u32 ((gt p_l s2).2.2.1), .int .i64 ((gt p_l s2).2.2.2)], .ro ty45 (.slice ao1 p_l.length cp1) p_l] := hs.addCel hp1
      replace hf := Fr.keep (ks := [1, 10, 11, 12, 14]) (L' := [(1, .int .i64 symbols), (10, .slice ao1 p_l.length cp1), (11, .int .i64 ((p_l.length : Nat) : Int)), (12, .int .i64 s2), (14, .pointer (some ⟨pb1, po1, none⟩))]) hf (by kernel_rfl)
      refine ldC tbOk (T := 46) (hs.ccel 0 rfl) (LeH.refl _) 0 (.agg #[.int .u64 ((gt p_l s2).1), .int .u32 ((gt p_l s2).2.1), .int .u32 ((gt p_l s2).2.2.1), .int .i64 ((gt p_l s2).2.2.2)]) hf (by kernel_rfl) (by kernel_rfl) (by kernel_rfl) (by kernel_rfl) ?_
      clear hf; clear a; intro a hf
      replace hs : Sep w F R w1 F2 [.ro ty45 (.slice ao1 p_l.length cp1) p_l] := hs.sel [1] rfl rfl
      replace hf := Fr.keep (ks := [1, 10, 11, 12, 15]) (L' := [(1, .int .i64 symbols), (10, .slice ao1 p_l.length cp1), (11, .int .i64 ((p_l.length : Nat) : Int)), (12, .int .i64 s2), (15, .agg #[.int .u64 ((gt p_l s2).1), .int .u32 ((gt p_l s2).2.1), .int .u32 ((gt p_l s2).2.2.1), .int .i64 ((gt p_l s2).2.2.2)])]) hf (by kernel_rfl)
      refine al tbOk i46 [.int .u64 0, .int .u32 0, .int .u32 0, .int .i64 0] rfl (by kernel_rfl) hf (by kernel_rfl) (by kernel_rfl) ?_
      clear hf; clear a; intro w2 a hb hx _ hf
      replace hs : Sep w F R w2 F2 [.box w1.heap.size 46 [.int .u64 0, .int .u32 0, .int .u32 0, .int .i64 0], .ro ty45 (.slice ao1 p_l.length cp1) p_l] := hs.newBox hb hx
      clear hb hx
      replace hf := Fr.keep (ks := [1, 6, 10, 11, 12, 15]) (L' := [(1, .int .i64 symbols), (6, .pointer (some ⟨w1.heap.size, 0, none⟩)), (10, .slice ao1 p_l.length cp1), (11, .int .i64 ((p_l.length : Nat) : Int)), (12, .int .i64 s2), (15, .agg #[.int .u64 ((gt p_l s2).1), .int .u32 ((gt p_l s2).2.1), .int .u32 ((gt p_l s2).2.2.1), .int .i64 ((gt p_l s2).2.2.2)])]) hf (by kernel_rfl)
      refine stB tbOk i46 (hs.bx 0 rfl) 0 [.int .u64 ((gt p_l s2).1), .int .u32 ((gt p_l s2).2.1), .int .u32 ((gt p_l s2).2.2.1), .int .i64 ((gt p_l s2).2.2.2)] [.int .u64 ((gt p_l s2).1), .int .u32 ((gt p_l s2).2.1), .int .u32 ((gt p_l s2).2.2.1), .int .i64 ((gt p_l s2).2.2.2)] (v := .agg #[.int .u64 ((gt p_l s2).1), .int .u32 ((gt p_l s2).2.1), .int .u32 ((gt p_l s2).2.2.1), .int .i64 ((gt p_l s2).2.2.2)]) rfl rfl (by kernel_rfl) (by kernel_rfl) (by kernel_rfl) (by kernel_rfl) hf (by kernel_rfl) (by kernel_rfl) (by kernel_rfl) ?_
      clear hf; clear a; intro w3 a hb hg _ hf
      replace hs : Sep w F R w3 F2 [.box w1.heap.size 46 [.int .u64 ((gt p_l s2).1), .int .u32 ((gt p_l s2).2.1), .int .u32 ((gt p_l s2).2.2.1), .int .i64 ((gt p_l s2).2.2.2)], .ro ty45 (.slice ao1 p_l.length cp1) p_l] := hs.updBox 0 rfl hb hg
      clear hb hg
      replace hf := Fr.keep (ks := [1, 6, 10, 11, 12]) (L' := [(1, .int .i64 symbols), (6, .pointer (some ⟨w1.heap.size, 0, none⟩)), (10, .slice ao1 p_l.length cp1), (11, .int .i64 ((p_l.length : Nat) : Int)), (12, .int .i64 s2)]) hf (by kernel_rfl)
      refine wpList_nil ?_
      refine sq ?_
      refine sq ?_
      refine reg ?_
      refine st tbOk 1 [1, 6, 10, 11, 12, 17] (L' := [(1, .int .i64 symbols), (6, .pointer (some ⟨w1.heap.size, 0, none⟩)), (10, .slice ao1 p_l.length cp1), (11, .int .i64 ((p_l.length : Nat) : Int)), (12, .int .i64 s2), (17, .pointer (some ⟨w1.heap.size, 1, none⟩))]) hf (by kernel_rfl) ?_
      clear hf; clear a; intro a hf
      refine ldC tbOk (T := 44) (hs.cbx 0 rfl) (LeH.refl _) 1 (.int .u32 ((gt p_l s2).2.1)) hf (by kernel_rfl) (by kernel_rfl) (by kernel_rfl) (by kernel_rfl) ?_
      clear hf; clear a; intro a hf
      replace hf := Fr.keep (ks := [1, 6, 10, 11, 12, 18]) (L' := [(1, .int .i64 symbols), (6, .pointer (some ⟨w1.heap.size, 0, none⟩)), (10, .slice ao1 p_l.length cp1), (11, .int .i64 ((p_l.length : Nat) : Int)), (12, .int .i64 s2), (18, .int .u32 ((gt p_l s2).2.1))]) hf (by kernel_rfl)
      have hT := of_bd hS; clear hS; obtain ⟨z1, hz1, hS⟩ := hT
      refine clV ent26 (vs := [.int .u32 ((gt p_l s2).2.1), .int .u64 0, .int .u64 0, .int .i64 0]) (caps := []) hf (by kernel_rfl) (by kernel_rfl) (by kernel_rfl) (by kernel_rfl) (rela_Value_ok (kind := (gt p_l s2).2.1) (base := 0) (symbol := 0) (add := 0) (hs.enter [] rfl rfl) hz1) ?_
      clear hf; clear a; intro v w4 a hT hf; obtain ⟨F3, rfl, hr⟩ := hT
      replace hs : Sep w F R w4 F3 [.box w1.heap.size 46 [.int .u64 ((gt p_l s2).1), .int .u32 ((gt p_l s2).2.1), .int .u32 ((gt p_l s2).2.2.1), .int .i64 ((gt p_l s2).2.2.2)], .ro ty45 (.slice ao1 p_l.length cp1) p_l] := hs.back [] [0, 1] rfl rfl rfl rfl hr
      clear hr
      replace hf := Fr.keep (ks := [1, 6, 10, 11, 12, 19]) (L' := [(1, .int .i64 symbols), (6, .pointer (some ⟨w1.heap.size, 0, none⟩)), (10, .slice ao1 p_l.length cp1), (11, .int .i64 ((p_l.length : Nat) : Int)), (12, .int .i64 s2), (19, .tuple #[.int .u64 z1.1, .int .i64 z1.2])]) hf (by kernel_rfl)
      refine st tbOk 5 [1, 6, 8, 10, 11, 12] (L' := [(1, .int .i64 symbols), (6, .pointer (some ⟨w1.heap.size, 0, none⟩)), (8, .int .i64 z1.2), (10, .slice ao1 p_l.length cp1), (11, .int .i64 ((p_l.length : Nat) : Int)), (12, .int .i64 s2)]) hf (by kernel_rfl) ?_
      clear hf; clear a; intro a hf
      refine wpList_nil ?_
      refine sq ?_
      refine reg ?_
      refine st tbOk 2 [1, 6, 8, 10, 11, 12, 23] (L' := [(1, .int .i64 symbols), (6, .pointer (some ⟨w1.heap.size, 0, none⟩)), (8, .int .i64 z1.2), (10, .slice ao1 p_l.length cp1), (11, .int .i64 ((p_l.length : Nat) : Int)), (12, .int .i64 s2), (23, .bool (z1.2 != 0))]) hf (by kernel_rfl) ?_
      clear hf; clear a; intro a hf
      refine wpList_nil ?_
      refine cnd (b := z1.2 != 0) hf (by kernel_rfl) (fun hb2 => ?_) (fun hb2 => ?_)
      · replace hS := of_t hb2 hS
        refine sq ?_
        refine reg ?_
        refine st tbOk 2 [4] (L' := [(4, .int .i64 z1.2)]) hf (by kernel_rfl) ?_
        clear hf; clear a; intro a hf
        refine wpList_nil ?_
        have hr := Option.some.inj hS; subst hr
        refine wp_ret ?_
        exact ret_ok hf (vs := [.int .i64 z1.2]) (by kernel_rfl) ⟨_, rfl, hs.sel [] rfl rfl⟩
      · replace hS := of_f hb2 hS
        refine wp_skip ?_
        refine sq ?_
        refine ctj (fun (s3 : Bool) (a : Act) (w' : World) => ∃ (F4 : SH), Sep w F R w' F4 [.box w1.heap.size 46 [.int .u64 ((gt p_l s2).1), .int .u32 ((gt p_l s2).2.1), .int .u32 ((gt p_l s2).2.2.1), .int .i64 ((gt p_l s2).2.2.2)], .ro ty45 (.slice ao1 p_l.length cp1) p_l] ∧ Fr 51 [(1, .int .i64 symbols), (6, .pointer (some ⟨w1.heap.size, 0, none⟩)), (9, .bool s3), (10, .slice ao1 p_l.length cp1), (11, .int .i64 ((p_l.length : Nat) : Int)), (12, .int .i64 s2)] a) hS ?_ ?_
        · clear hS hf hs; clear a; intro s3 a w5 hM hS
          obtain ⟨F4, hs, hf⟩ := hM
          refine blk ?_
          refine sq ?_
          refine ctj (fun (s4 : Bool) (a : Act) (w' : World) => ∃ (F5 : SH), Sep w F R w' F5 [.box w1.heap.size 46 [.int .u64 ((gt p_l s2).1), .int .u32 ((gt p_l s2).2.1), .int .u32 ((gt p_l s2).2.2.1), .int .i64 ((gt p_l s2).2.2.2)], .ro ty45 (.slice ao1 p_l.length cp1) p_l] ∧ Fr 51 [(1, .int .i64 symbols), (6, .pointer (some ⟨w1.heap.size, 0, none⟩)), (9, .bool s3), (10, .slice ao1 p_l.length cp1), (11, .int .i64 ((p_l.length : Nat) : Int)), (12, .int .i64 s2), (33, .bool s4)] a) hS ?_ ?_
          · clear hS hf hs; clear a; intro s4 a w6 hM hS
            obtain ⟨F5, hs, hf⟩ := hM
            refine cnd (b := s4) hf (by kernel_rfl) (fun hb5 => ?_) (fun hb5 => ?_)
            · replace hS := of_t hb5 hS
              refine sq ?_
              refine reg ?_
              refine st tbOk 1 [4] (L' := [(4, .int .i64 10)]) hf (by kernel_rfl) ?_
              clear hf; clear a; intro a hf
              refine wpList_nil ?_
              have hr := Option.some.inj hS; subst hr
              refine wp_ret ?_
              exact ret_ok hf (vs := [.int .i64 10]) (by kernel_rfl) ⟨_, rfl, hs.sel [] rfl rfl⟩
            · replace hS := of_f hb5 hS
              refine sq ?_
              refine reg ?_
              refine st tbOk 2 [1, 10, 11, 12, 45, 46] (L' := [(1, .int .i64 symbols), (10, .slice ao1 p_l.length cp1), (11, .int .i64 ((p_l.length : Nat) : Int)), (12, .int .i64 s2), (45, .bool s3), (46, .pointer (some ⟨w1.heap.size, 2, none⟩))]) hf (by kernel_rfl) ?_
              clear hf; clear a; intro a hf
              refine ldC tbOk (T := 44) (hs.cbx 0 rfl) (LeH.refl _) 2 (.int .u32 ((gt p_l s2).2.2.1)) hf (by kernel_rfl) (by kernel_rfl) (by kernel_rfl) (by kernel_rfl) ?_
              clear hf; clear a; intro a hf
              replace hs : Sep w F R w6 F5 [.ro ty45 (.slice ao1 p_l.length cp1) p_l] := hs.sel [1] rfl rfl
              replace hf := Fr.keep (ks := [1, 10, 11, 12, 45, 47]) (L' := [(1, .int .i64 symbols), (10, .slice ao1 p_l.length cp1), (11, .int .i64 ((p_l.length : Nat) : Int)), (12, .int .i64 s2), (45, .bool s3), (47, .int .u32 ((gt p_l s2).2.2.1))]) hf (by kernel_rfl)
              refine st tbOk 3 [1, 10, 11, 12, 44] (L' := [(1, .int .i64 symbols), (10, .slice ao1 p_l.length cp1), (11, .int .i64 ((p_l.length : Nat) : Int)), (12, .int .i64 s2), (44, .bool (!(s3 == (((gt p_l s2).2.2.1) == 0))))]) hf (by kernel_rfl) ?_
              clear hf; clear a; intro a hf
              refine wpList_nil ?_
              refine cnd (b := !(s3 == (((gt p_l s2).2.2.1) == 0))) hf (by kernel_rfl) (fun hb6 => ?_) (fun hb6 => ?_)
              · replace hS := of_t hb6 hS
                refine sq ?_
                refine reg ?_
                refine st tbOk 1 [4] (L' := [(4, .int .i64 11)]) hf (by kernel_rfl) ?_
                clear hf; clear a; intro a hf
                refine wpList_nil ?_
                have hr := Option.some.inj hS; subst hr
                refine wp_ret ?_
                exact ret_ok hf (vs := [.int .i64 11]) (by kernel_rfl) ⟨_, rfl, hs.sel [] rfl rfl⟩
              · replace hS := of_f hb6 hS
                refine wp_skip ?_
                refine reg ?_
                refine st tbOk 2 [1, 10, 11, 12] (L' := [(1, .int .i64 symbols), (10, .slice ao1 p_l.length cp1), (11, .int .i64 ((p_l.length : Nat) : Int)), (12, .int .i64 (IntKind.i64.wrap (s2 + 1)))]) hf (by kernel_rfl) ?_
                clear hf; clear a; intro a hf
                refine wpList_nil ?_
                exact hK2 (IntKind.i64.wrap (s2 + 1)) _ _ ⟨_, hs.sel [0] rfl rfl, hf.keep (ks := [1, 10, 11, 12]) (by kernel_rfl)⟩ hS
          · clear hS; intro KK4 k3 hK4 hS
            refine reg ?_
            refine st tbOk 1 [1, 6, 9, 10, 11, 12, 34] (L' := [(1, .int .i64 symbols), (6, .pointer (some ⟨w1.heap.size, 0, none⟩)), (9, .bool s3), (10, .slice ao1 p_l.length cp1), (11, .int .i64 ((p_l.length : Nat) : Int)), (12, .int .i64 s2), (34, .pointer (some ⟨w1.heap.size, 2, none⟩))]) hf (by kernel_rfl) ?_
            clear hf; clear a; intro a hf
            refine ldC tbOk (T := 44) (hs.cbx 0 rfl) (LeH.refl _) 2 (.int .u32 ((gt p_l s2).2.2.1)) hf (by kernel_rfl) (by kernel_rfl) (by kernel_rfl) (by kernel_rfl) ?_
            clear hf; clear a; intro a hf
            replace hf := Fr.keep (ks := [1, 6, 9, 10, 11, 12, 35]) (L' := [(1, .int .i64 symbols), (6, .pointer (some ⟨w1.heap.size, 0, none⟩)), (9, .bool s3), (10, .slice ao1 p_l.length cp1), (11, .int .i64 ((p_l.length : Nat) : Int)), (12, .int .i64 s2), (35, .int .u32 ((gt p_l s2).2.2.1))]) hf (by kernel_rfl)
            refine st tbOk 2 [1, 6, 9, 10, 11, 12, 37] (L' := [(1, .int .i64 symbols), (6, .pointer (some ⟨w1.heap.size, 0, none⟩)), (9, .bool s3), (10, .slice ao1 p_l.length cp1), (11, .int .i64 ((p_l.length : Nat) : Int)), (12, .int .i64 s2), (37, .bool (decide (((gt p_l s2).2.2.1) > 0)))]) hf (by kernel_rfl) ?_
            clear hf; clear a; intro a hf
            rcases Bool.eq_false_or_eq_true (decide (((gt p_l s2).2.2.1) > 0)) with hb4 | hb4
            · replace hS := of_t hb4 hS
              replace hf := Fr.cast (L' := [(1, .int .i64 symbols), (6, .pointer (some ⟨w1.heap.size, 0, none⟩)), (9, .bool s3), (10, .slice ao1 p_l.length cp1), (11, .int .i64 ((p_l.length : Nat) : Int)), (12, .int .i64 s2), (37, .bool true)]) hf (by rw [hb4])
              refine st tbOk 1 [1, 6, 9, 10, 11, 12, 37, 38] (L' := [(1, .int .i64 symbols), (6, .pointer (some ⟨w1.heap.size, 0, none⟩)), (9, .bool s3), (10, .slice ao1 p_l.length cp1), (11, .int .i64 ((p_l.length : Nat) : Int)), (12, .int .i64 s2), (37, .bool true), (38, .pointer (some ⟨w1.heap.size, 2, none⟩))]) hf (by kernel_rfl) ?_
              clear hf; clear a; intro a hf
              refine ldC tbOk (T := 44) (hs.cbx 0 rfl) (LeH.refl _) 2 (.int .u32 ((gt p_l s2).2.2.1)) hf (by kernel_rfl) (by kernel_rfl) (by kernel_rfl) (by kernel_rfl) ?_
              clear hf; clear a; intro a hf
              replace hf := Fr.keep (ks := [1, 6, 9, 10, 11, 12, 37, 39]) (L' := [(1, .int .i64 symbols), (6, .pointer (some ⟨w1.heap.size, 0, none⟩)), (9, .bool s3), (10, .slice ao1 p_l.length cp1), (11, .int .i64 ((p_l.length : Nat) : Int)), (12, .int .i64 s2), (37, .bool true), (39, .int .u32 ((gt p_l s2).2.2.1))]) hf (by kernel_rfl)
              refine st tbOk 5 [1, 6, 9, 10, 11, 12, 33] (L' := [(1, .int .i64 symbols), (6, .pointer (some ⟨w1.heap.size, 0, none⟩)), (9, .bool s3), (10, .slice ao1 p_l.length cp1), (11, .int .i64 ((p_l.length : Nat) : Int)), (12, .int .i64 s2), (33, .bool (decide ((IntKind.i64.wrap ((gt p_l s2).2.2.1)) ≥ symbols)))]) hf (by kernel_rfl) ?_
              clear hf; clear a; intro a hf
              refine wpList_nil ?_
              exact hK4 (decide ((IntKind.i64.wrap ((gt p_l s2).2.2.1)) ≥ symbols)) _ _ ⟨_, hs.sel [0, 1] rfl rfl, hf.keep (ks := [1, 6, 9, 10, 11, 12, 33]) (by kernel_rfl)⟩ hS
            · replace hS := of_f hb4 hS
              replace hf := Fr.cast (L' := [(1, .int .i64 symbols), (6, .pointer (some ⟨w1.heap.size, 0, none⟩)), (9, .bool s3), (10, .slice ao1 p_l.length cp1), (11, .int .i64 ((p_l.length : Nat) : Int)), (12, .int .i64 s2), (37, .bool false)]) hf (by rw [hb4])
              refine st tbOk 7 [1, 6, 9, 10, 11, 12, 33] (L' := [(1, .int .i64 symbols), (6, .pointer (some ⟨w1.heap.size, 0, none⟩)), (9, .bool s3), (10, .slice ao1 p_l.length cp1), (11, .int .i64 ((p_l.length : Nat) : Int)), (12, .int .i64 s2), (33, .bool false)]) hf (by kernel_rfl) ?_
              clear hf; clear a; intro a hf
              refine wpList_nil ?_
              exact hK4 false _ _ ⟨_, hs.sel [0, 1] rfl rfl, hf.keep (ks := [1, 6, 9, 10, 11, 12, 33]) (by kernel_rfl)⟩ hS
        · clear hS; intro KK3 k2 hK3 hS
          refine reg ?_
          refine st tbOk 1 [1, 6, 10, 11, 12, 25] (L' := [(1, .int .i64 symbols), (6, .pointer (some ⟨w1.heap.size, 0, none⟩)), (10, .slice ao1 p_l.length cp1), (11, .int .i64 ((p_l.length : Nat) : Int)), (12, .int .i64 s2), (25, .pointer (some ⟨w1.heap.size, 1, none⟩))]) hf (by kernel_rfl) ?_
          clear hf; clear a; intro a hf
          refine ldC tbOk (T := 44) (hs.cbx 0 rfl) (LeH.refl _) 1 (.int .u32 ((gt p_l s2).2.1)) hf (by kernel_rfl) (by kernel_rfl) (by kernel_rfl) (by kernel_rfl) ?_
          clear hf; clear a; intro a hf
          replace hf := Fr.keep (ks := [1, 6, 10, 11, 12, 26]) (L' := [(1, .int .i64 symbols), (6, .pointer (some ⟨w1.heap.size, 0, none⟩)), (10, .slice ao1 p_l.length cp1), (11, .int .i64 ((p_l.length : Nat) : Int)), (12, .int .i64 s2), (26, .int .u32 ((gt p_l s2).2.1))]) hf (by kernel_rfl)
          refine st tbOk 2 [1, 6, 10, 11, 12, 28] (L' := [(1, .int .i64 symbols), (6, .pointer (some ⟨w1.heap.size, 0, none⟩)), (10, .slice ao1 p_l.length cp1), (11, .int .i64 ((p_l.length : Nat) : Int)), (12, .int .i64 s2), (28, .bool (((gt p_l s2).2.1) == 0))]) hf (by kernel_rfl) ?_
          clear hf; clear a; intro a hf
          rcases Bool.eq_false_or_eq_true (((gt p_l s2).2.1) == 0) with hb3 | hb3
          · replace hS := of_t hb3 hS
            replace hf := Fr.cast (L' := [(1, .int .i64 symbols), (6, .pointer (some ⟨w1.heap.size, 0, none⟩)), (10, .slice ao1 p_l.length cp1), (11, .int .i64 ((p_l.length : Nat) : Int)), (12, .int .i64 s2), (28, .bool true)]) hf (by rw [hb3])
            refine st tbOk 5 [1, 6, 9, 10, 11, 12] (L' := [(1, .int .i64 symbols), (6, .pointer (some ⟨w1.heap.size, 0, none⟩)), (9, .bool true), (10, .slice ao1 p_l.length cp1), (11, .int .i64 ((p_l.length : Nat) : Int)), (12, .int .i64 s2)]) hf (by kernel_rfl) ?_
            clear hf; clear a; intro a hf
            refine wpList_nil ?_
            exact hK3 true _ _ ⟨_, hs.sel [0, 1] rfl rfl, hf.keep (ks := [1, 6, 9, 10, 11, 12]) (by kernel_rfl)⟩ hS
          · replace hS := of_f hb3 hS
            replace hf := Fr.cast (L' := [(1, .int .i64 symbols), (6, .pointer (some ⟨w1.heap.size, 0, none⟩)), (10, .slice ao1 p_l.length cp1), (11, .int .i64 ((p_l.length : Nat) : Int)), (12, .int .i64 s2), (28, .bool false)]) hf (by rw [hb3])
            refine st tbOk 1 [1, 6, 10, 11, 12, 28, 29] (L' := [(1, .int .i64 symbols), (6, .pointer (some ⟨w1.heap.size, 0, none⟩)), (10, .slice ao1 p_l.length cp1), (11, .int .i64 ((p_l.length : Nat) : Int)), (12, .int .i64 s2), (28, .bool false), (29, .pointer (some ⟨w1.heap.size, 1, none⟩))]) hf (by kernel_rfl) ?_
            clear hf; clear a; intro a hf
            refine ldC tbOk (T := 44) (hs.cbx 0 rfl) (LeH.refl _) 1 (.int .u32 ((gt p_l s2).2.1)) hf (by kernel_rfl) (by kernel_rfl) (by kernel_rfl) (by kernel_rfl) ?_
            clear hf; clear a; intro a hf
            replace hf := Fr.keep (ks := [1, 6, 10, 11, 12, 28, 30]) (L' := [(1, .int .i64 symbols), (6, .pointer (some ⟨w1.heap.size, 0, none⟩)), (10, .slice ao1 p_l.length cp1), (11, .int .i64 ((p_l.length : Nat) : Int)), (12, .int .i64 s2), (28, .bool false), (30, .int .u32 ((gt p_l s2).2.1))]) hf (by kernel_rfl)
            have hT := of_let hS; clear hS; obtain ⟨alone_1, hl1, hS⟩ := hT
            refine st tbOk 3 [1, 6, 9, 10, 11, 12] (L' := [(1, .int .i64 symbols), (6, .pointer (some ⟨w1.heap.size, 0, none⟩)), (9, .bool alone_1), (10, .slice ao1 p_l.length cp1), (11, .int .i64 ((p_l.length : Nat) : Int)), (12, .int .i64 s2)]) hf (by subst hl1; kernel_rfl) ?_
            clear hf; clear a; intro a hf
            refine wpList_nil ?_
            exact hK3 alone_1 _ _ ⟨_, hs.sel [0, 1] rfl rfl, hf.keep (ks := [1, 6, 9, 10, 11, 12]) (by kernel_rfl)⟩ hS
    · replace hS := of_f hb1 hS
      refine wp_exit ?_
      exact hK1 () _ _ ⟨_, hs.sel [] rfl rfl, hf.keep (ks := []) (by kernel_rfl)⟩ hS

set_option maxHeartbeats 4000000 in
theorem law07_awake_ok {w : World} {F : SH}   (hs : Sep w F (blks []) w F []) {r : Bool} (hS : law07_awake = some r) :
    Calls Try.prog 19 [].toArray w (Gives (fun u w' => ∃ (F' : SH), u = .bool r ∧ Sep w F (blks []) w' F' [])) := by
  generalize (blks []) = R at hs ⊢
  unfold law07_awake at hS
  refine fn_ok (vs := []) Try.func19 rfl 61 Try.ntmps19 (Nat.le_of_ble_eq_true rfl) ?_
  intro a hf
  replace hf := Fr.cast (L' := []) hf (by kernel_rfl)
  refine sq ?_
  refine reg ?_
  refine st tbOk 1 [] (L' := []) hf (by kernel_rfl) ?_
  clear hf; clear a; intro a hf
  refine wpList_nil ?_
  refine sq ?_
  refine reg ?_
  have hT := of_bd hS; clear hS; obtain ⟨z1, hz1, hS⟩ := hT
  refine clV ent26 (vs := [.int .u32 8, .int .u64 4096, .int .u64 9, .int .i64 5]) (caps := []) hf (by kernel_rfl) (by kernel_rfl) (by kernel_rfl) (by kernel_rfl) (rela_Value_ok (kind := 8) (base := 4096) (symbol := 9) (add := 5) (hs.enter [] rfl rfl) hz1) ?_
  clear hf; clear a; intro v w1 a hT hf; obtain ⟨F1, rfl, hr⟩ := hT
  replace hs : Sep w F R w1 F1 [] := hs.back [] [] rfl rfl rfl rfl hr
  clear hr
  replace hf := Fr.keep (ks := [7]) (L' := [(7, .tuple #[.int .u64 z1.1, .int .i64 z1.2])]) hf (by kernel_rfl)
  refine st tbOk 5 [1, 2] (L' := [(1, .int .u64 z1.1), (2, .int .i64 z1.2)]) hf (by kernel_rfl) ?_
  clear hf; clear a; intro a hf
  refine wpList_nil ?_
  refine sq ?_
  refine reg ?_
  refine st tbOk 1 [1, 2, 10] (L' := [(1, .int .u64 z1.1), (2, .int .i64 z1.2), (10, .agg #[.int .u64 3, .int .u32 1, .int .u32 2, .int .i64 (-1)])]) hf (by kernel_rfl) ?_
  clear hf; clear a; intro a hf
  have hT := of_bd hS; clear hS; obtain ⟨z2, hz2, hS⟩ := hT
  refine clV ent20 (vs := [.agg #[.int .u64 3, .int .u32 1, .int .u32 2, .int .i64 (-1)]]) (caps := []) hf (by kernel_rfl) (by kernel_rfl) (by kernel_rfl) (by kernel_rfl) (rela_Put_ok (p_x := (3, 1, 2, (-1))) (hs.enter [] rfl rfl) hz2) ?_
  clear hf; clear a; intro v w2 a hT hf; obtain ⟨ao1, cp1, F2, rfl, hr⟩ := hT
  replace hs : Sep w F R w2 F2 [.row 5 (tI .u8) (.slice ao1 z2.length cp1) z2] := hs.back [] [] rfl rfl rfl rfl hr
  clear hr
  replace hf := Fr.keep (ks := [1, 2, 11]) (L' := [(1, .int .u64 z1.1), (2, .int .i64 z1.2), (11, .slice ao1 z2.length cp1)]) hf (by kernel_rfl)
  refine st tbOk 1 [1, 2, 3] (L' := [(1, .int .u64 z1.1), (2, .int .i64 z1.2), (3, .slice ao1 z2.length cp1)]) hf (by kernel_rfl) ?_
  clear hf; clear a; intro a hf
  refine wpList_nil ?_
  refine sq ?_
  refine reg ?_
  refine st tbOk 1 [1, 2, 3, 13] (L' := [(1, .int .u64 z1.1), (2, .int .i64 z1.2), (3, .slice ao1 z2.length cp1), (13, .slice ao1 z2.length cp1)]) hf (by kernel_rfl) ?_
  clear hf; clear a; intro a hf
  have hT := of_bd hS; clear hS; obtain ⟨z3, hz3, hS⟩ := hT
  refine clV ent21 (vs := [.slice ao1 z2.length cp1]) (caps := []) hf (by kernel_rfl) (by kernel_rfl) (by kernel_rfl) (by kernel_rfl) (rela_Table_ok (b := z2) (hs.lend [0] [] rfl rfl rfl rfl rfl) hz3) ?_
  clear hf; clear a; intro v w3 a hT hf; obtain ⟨ao2, cp2, F3, rfl, hr⟩ := hT
  replace hs : Sep w F R w3 F2 [.row 46 ty45 (.slice ao2 z3.1.length cp2) z3.1, .row 5 (tI .u8) (.slice ao1 z2.length cp1) z2] := hs.backL [0] [] [0] rfl rfl rfl rfl rfl rfl hr ⟨flat45, trivial⟩
  clear hr
  replace hf := Fr.keep (ks := [1, 2, 3, 14]) (L' := [(1, .int .u64 z1.1), (2, .int .i64 z1.2), (3, .slice ao1 z2.length cp1), (14, .tuple #[.slice ao2 z3.1.length cp2, .int .i64 z3.2])]) hf (by kernel_rfl)
  refine st tbOk 5 [1, 2, 3, 4, 5] (L' := [(1, .int .u64 z1.1), (2, .int .i64 z1.2), (3, .slice ao1 z2.length cp1), (4, .slice ao2 z3.1.length cp2), (5, .int .i64 z3.2)]) hf (by kernel_rfl) ?_
  clear hf; clear a; intro a hf
  refine wpList_nil ?_
  refine sq ?_
  refine ctj (fun (s1 : Bool) (a : Act) (w' : World) => ∃ (F4 : SH), Sep w F R w' F4 [] ∧ Fr 61 [(0, .bool s1)] a) hS ?_ ?_
  · clear hS hf hs; clear a; intro s1 a w6 hM hS
    obtain ⟨F4, hs, hf⟩ := hM
    have hr := Option.some.inj hS; subst hr
    refine wp_ret ?_
    exact ret_ok hf (vs := [.bool s1]) (by kernel_rfl) ⟨_, rfl, hs.sel [] rfl rfl⟩
  · clear hS; intro KK1 k1 hK1 hS
    refine reg ?_
    refine st tbOk 3 [2, 3, 4, 5, 19] (L' := [(2, .int .i64 z1.2), (3, .slice ao1 z2.length cp1), (4, .slice ao2 z3.1.length cp2), (5, .int .i64 z3.2), (19, .bool (z1.1 == 4101))]) hf (by kernel_rfl) ?_
    clear hf; clear a; intro a hf
    rcases Bool.eq_false_or_eq_true (z1.1 == 4101) with hb1 | hb1
    · replace hS := of_t hb1 hS
      replace hf := Fr.cast (L' := [(2, .int .i64 z1.2), (3, .slice ao1 z2.length cp1), (4, .slice ao2 z3.1.length cp2), (5, .int .i64 z3.2), (19, .bool true)]) hf (by rw [hb1])
      refine st tbOk 4 [3, 4, 5, 23] (L' := [(3, .slice ao1 z2.length cp1), (4, .slice ao2 z3.1.length cp2), (5, .int .i64 z3.2), (23, .bool (z1.2 == 0))]) hf (by kernel_rfl) ?_
      clear hf; clear a; intro a hf
      rcases Bool.eq_false_or_eq_true (z1.2 == 0) with hb2 | hb2
      · replace hS := of_t hb2 hS
        replace hf := Fr.cast (L' := [(3, .slice ao1 z2.length cp1), (4, .slice ao2 z3.1.length cp2), (5, .int .i64 z3.2), (23, .bool true)]) hf (by rw [hb2])
        refine st tbOk 5 [4, 5, 28] (L' := [(4, .slice ao2 z3.1.length cp2), (5, .int .i64 z3.2), (28, .bool (((z2.length : Nat) : Int) == 24))]) hf (by kernel_rfl) ?_
        clear hf; clear a; intro a hf
        rcases Bool.eq_false_or_eq_true (((z2.length : Nat) : Int) == 24) with hb3 | hb3
        · replace hS := of_t hb3 hS
          replace hf := Fr.cast (L' := [(4, .slice ao2 z3.1.length cp2), (5, .int .i64 z3.2), (28, .bool true)]) hf (by rw [hb3])
          refine st tbOk 4 [4, 32] (L' := [(4, .slice ao2 z3.1.length cp2), (32, .bool (z3.2 == 0))]) hf (by kernel_rfl) ?_
          clear hf; clear a; intro a hf
          rcases Bool.eq_false_or_eq_true (z3.2 == 0) with hb4 | hb4
          · replace hS := of_t hb4 hS
            replace hf := Fr.cast (L' := [(4, .slice ao2 z3.1.length cp2), (32, .bool true)]) hf (by rw [hb4])
            refine st tbOk 5 [4, 37] (L' := [(4, .slice ao2 z3.1.length cp2), (37, .bool (((z3.1.length : Nat) : Int) == 1))]) hf (by kernel_rfl) ?_
            clear hf; clear a; intro a hf
            rcases Bool.eq_false_or_eq_true (((z3.1.length : Nat) : Int) == 1) with hb5 | hb5
            · replace hS := of_t hb5 hS
              replace hf := Fr.cast (L' := [(4, .slice ao2 z3.1.length cp2), (37, .bool true)]) hf (by rw [hb5])
              refine st tbOk 1 [4, 37, 38] (L' := [(4, .slice ao2 z3.1.length cp2), (37, .bool true), (38, .slice ao2 z3.1.length cp2)]) hf (by kernel_rfl) ?_
              clear hf; clear a; intro a hf
              have hT := of_gd hS; clear hS; obtain ⟨hc1, hS⟩ := hT
              refine ixR tbOk u48 i46 rfl rfl (hs.raW 0 rfl) (k := .i64) (n := 0) hc1 hf (by kernel_rfl) (by kernel_rfl) (by kernel_rfl) (by kernel_rfl) ?_
              clear hf; clear a; intro pb1 po1 c1 a hp1 hr1 hf
              obtain rfl : c1 = [.int .u64 ((gt z3.1 0).1), .int .u32 ((gt z3.1 0).2.1), .int .u32 ((gt z3.1 0).2.2.1), .int .i64 ((gt z3.1 0).2.2.2)] := hr1
              replace hs : Sep w F R w3 F2 [.row 46 ty45 (.slice ao2 z3.1.length cp2) z3.1] := hs.sel [0] rfl rfl
              replace hf := Fr.keep (ks := [4, 37, 39]) (L' := [(4, .slice ao2 z3.1.length cp2), (37, .bool true), (39, .pointer (some ⟨pb1, po1, none⟩))]) hf (by kernel_rfl)
              refine st tbOk 1 [4, 37, 40] (L' := [(4, .slice ao2 z3.1.length cp2), (37, .bool true), (40, .pointer (some ⟨pb1, po1 + 2, none⟩))]) hf (by kernel_rfl) ?_
              clear hf; clear a; intro a hf
              refine ldC tbOk (T := 44) hp1 (LeH.refl _) 2 (.int .u32 ((gt z3.1 0).2.2.1)) hf (by kernel_rfl) (by kernel_rfl) (by kernel_rfl) (by kernel_rfl) ?_
              clear hf; clear a; intro a hf
              replace hf := Fr.keep (ks := [4, 37, 41]) (L' := [(4, .slice ao2 z3.1.length cp2), (37, .bool true), (41, .int .u32 ((gt z3.1 0).2.2.1))]) hf (by kernel_rfl)
              refine st tbOk 3 [4, 44] (L' := [(4, .slice ao2 z3.1.length cp2), (44, .bool (((gt z3.1 0).2.2.1) == 2))]) hf (by kernel_rfl) ?_
              clear hf; clear a; intro a hf
              rcases Bool.eq_false_or_eq_true (((gt z3.1 0).2.2.1) == 2) with hb6 | hb6
              · replace hS := of_t hb6 hS
                replace hf := Fr.cast (L' := [(4, .slice ao2 z3.1.length cp2), (44, .bool true)]) hf (by rw [hb6])
                refine st tbOk 1 [4, 44, 45] (L' := [(4, .slice ao2 z3.1.length cp2), (44, .bool true), (45, .slice ao2 z3.1.length cp2)]) hf (by kernel_rfl) ?_
                clear hf; clear a; intro a hf
                have hT := of_gd hS; clear hS; obtain ⟨hc2, hS⟩ := hT
                refine ixR tbOk u48 i46 rfl rfl (hs.raW 0 rfl) (k := .i64) (n := 0) hc2 hf (by kernel_rfl) (by kernel_rfl) (by kernel_rfl) (by kernel_rfl) ?_
                clear hf; clear a; intro pb2 po2 c2 a hp2 hr2 hf
                obtain rfl : c2 = [.int .u64 ((gt z3.1 0).1), .int .u32 ((gt z3.1 0).2.1), .int .u32 ((gt z3.1 0).2.2.1), .int .i64 ((gt z3.1 0).2.2.2)] := hr2
                replace hf := Fr.keep (ks := [4, 44, 46]) (L' := [(4, .slice ao2 z3.1.length cp2), (44, .bool true), (46, .pointer (some ⟨pb2, po2, none⟩))]) hf (by kernel_rfl)
                refine st tbOk 1 [4, 44, 47] (L' := [(4, .slice ao2 z3.1.length cp2), (44, .bool true), (47, .pointer (some ⟨pb2, po2 + 3, none⟩))]) hf (by kernel_rfl) ?_
                clear hf; clear a; intro a hf
                refine ldC tbOk (T := 2) hp2 (LeH.refl _) 3 (.int .i64 ((gt z3.1 0).2.2.2)) hf (by kernel_rfl) (by kernel_rfl) (by kernel_rfl) (by kernel_rfl) ?_
                clear hf; clear a; intro a hf
                replace hf := Fr.keep (ks := [4, 44, 48]) (L' := [(4, .slice ao2 z3.1.length cp2), (44, .bool true), (48, .int .i64 ((gt z3.1 0).2.2.2))]) hf (by kernel_rfl)
                refine st tbOk 3 [4, 51] (L' := [(4, .slice ao2 z3.1.length cp2), (51, .bool (((gt z3.1 0).2.2.2) == (-1)))]) hf (by kernel_rfl) ?_
                clear hf; clear a; intro a hf
                rcases Bool.eq_false_or_eq_true (((gt z3.1 0).2.2.2) == (-1)) with hb7 | hb7
                · replace hS := of_t hb7 hS
                  replace hf := Fr.cast (L' := [(4, .slice ao2 z3.1.length cp2), (51, .bool true)]) hf (by rw [hb7])
                  refine st tbOk 1 [4, 51, 52] (L' := [(4, .slice ao2 z3.1.length cp2), (51, .bool true), (52, .slice ao2 z3.1.length cp2)]) hf (by kernel_rfl) ?_
                  clear hf; clear a; intro a hf
                  have hT := of_bd hS; clear hS; obtain ⟨z4, hz4, hS⟩ := hT
                  refine clV ent24 (vs := [.slice ao2 z3.1.length cp2, .int .i64 2]) (caps := []) hf (by kernel_rfl) (by kernel_rfl) (by kernel_rfl) (by kernel_rfl) (rela_Check_ok (p_l := z3.1) (symbols := 2) (hs.lend [0] [] rfl rfl rfl rfl rfl) hz4) ?_
                  clear hf; clear a; intro v w4 a hT hf; obtain ⟨F5, rfl, hr⟩ := hT
                  replace hs : Sep w F R w4 F2 [.row 46 ty45 (.slice ao2 z3.1.length cp2) z3.1] := hs.backL [0] [] [0] rfl rfl rfl rfl rfl rfl hr trivial
                  clear hr
                  replace hf := Fr.keep (ks := [4, 51, 53]) (L' := [(4, .slice ao2 z3.1.length cp2), (51, .bool true), (53, .int .i64 z4)]) hf (by kernel_rfl)
                  refine st tbOk 3 [4, 56] (L' := [(4, .slice ao2 z3.1.length cp2), (56, .bool (z4 == 10))]) hf (by kernel_rfl) ?_
                  clear hf; clear a; intro a hf
                  rcases Bool.eq_false_or_eq_true (z4 == 10) with hb8 | hb8
                  · replace hS := of_t hb8 hS
                    replace hf := Fr.cast (L' := [(4, .slice ao2 z3.1.length cp2), (56, .bool true)]) hf (by rw [hb8])
                    refine st tbOk 1 [56, 57] (L' := [(56, .bool true), (57, .slice ao2 z3.1.length cp2)]) hf (by kernel_rfl) ?_
                    clear hf; clear a; intro a hf
                    have hT := of_bd hS; clear hS; obtain ⟨z5, hz5, hS⟩ := hT
                    refine clV ent24 (vs := [.slice ao2 z3.1.length cp2, .int .i64 3]) (caps := []) hf (by kernel_rfl) (by kernel_rfl) (by kernel_rfl) (by kernel_rfl) (rela_Check_ok (p_l := z3.1) (symbols := 3) (hs.lend [0] [] rfl rfl rfl rfl rfl) hz5) ?_
                    clear hf; clear a; intro v w5 a hT hf; obtain ⟨F6, rfl, hr⟩ := hT
                    replace hs : Sep w F R w5 F2 [.row 46 ty45 (.slice ao2 z3.1.length cp2) z3.1] := hs.backL [0] [] [0] rfl rfl rfl rfl rfl rfl hr trivial
                    clear hr
                    replace hs : Sep w F R w5 F2 [] := hs.sel [] rfl rfl
                    replace hf := Fr.keep (ks := [56, 58]) (L' := [(56, .bool true), (58, .int .i64 z5)]) hf (by kernel_rfl)
                    refine st tbOk 3 [0] (L' := [(0, .bool (z5 == 0))]) hf (by kernel_rfl) ?_
                    clear hf; clear a; intro a hf
                    refine wpList_nil ?_
                    exact hK1 (z5 == 0) _ _ ⟨_, hs.sel [] rfl rfl, hf.keep (ks := [0]) (by kernel_rfl)⟩ hS
                  · replace hS := of_f hb8 hS
                    replace hf := Fr.cast (L' := [(4, .slice ao2 z3.1.length cp2), (56, .bool false)]) hf (by rw [hb8])
                    refine st tbOk 5 [0] (L' := [(0, .bool false)]) hf (by kernel_rfl) ?_
                    clear hf; clear a; intro a hf
                    refine wpList_nil ?_
                    exact hK1 false _ _ ⟨_, hs.sel [] rfl rfl, hf.keep (ks := [0]) (by kernel_rfl)⟩ hS
                · replace hS := of_f hb7 hS
                  replace hf := Fr.cast (L' := [(4, .slice ao2 z3.1.length cp2), (51, .bool false)]) hf (by rw [hb7])
                  refine st tbOk 10 [0] (L' := [(0, .bool false)]) hf (by kernel_rfl) ?_
                  clear hf; clear a; intro a hf
                  refine wpList_nil ?_
                  exact hK1 false _ _ ⟨_, hs.sel [] rfl rfl, hf.keep (ks := [0]) (by kernel_rfl)⟩ hS
              · replace hS := of_f hb6 hS
                replace hf := Fr.cast (L' := [(4, .slice ao2 z3.1.length cp2), (44, .bool false)]) hf (by rw [hb6])
                refine st tbOk 17 [0] (L' := [(0, .bool false)]) hf (by kernel_rfl) ?_
                clear hf; clear a; intro a hf
                refine wpList_nil ?_
                exact hK1 false _ _ ⟨_, hs.sel [] rfl rfl, hf.keep (ks := [0]) (by kernel_rfl)⟩ hS
            · replace hS := of_f hb5 hS
              replace hf := Fr.cast (L' := [(4, .slice ao2 z3.1.length cp2), (37, .bool false)]) hf (by rw [hb5])
              refine st tbOk 24 [0] (L' := [(0, .bool false)]) hf (by kernel_rfl) ?_
              clear hf; clear a; intro a hf
              refine wpList_nil ?_
              exact hK1 false _ _ ⟨_, hs.sel [] rfl rfl, hf.keep (ks := [0]) (by kernel_rfl)⟩ hS
          · replace hS := of_f hb4 hS
            replace hf := Fr.cast (L' := [(4, .slice ao2 z3.1.length cp2), (32, .bool false)]) hf (by rw [hb4])
            refine st tbOk 29 [0] (L' := [(0, .bool false)]) hf (by kernel_rfl) ?_
            clear hf; clear a; intro a hf
            refine wpList_nil ?_
            exact hK1 false _ _ ⟨_, hs.sel [] rfl rfl, hf.keep (ks := [0]) (by kernel_rfl)⟩ hS
        · replace hS := of_f hb3 hS
          replace hf := Fr.cast (L' := [(4, .slice ao2 z3.1.length cp2), (5, .int .i64 z3.2), (28, .bool false)]) hf (by rw [hb3])
          refine st tbOk 33 [0] (L' := [(0, .bool false)]) hf (by kernel_rfl) ?_
          clear hf; clear a; intro a hf
          refine wpList_nil ?_
          exact hK1 false _ _ ⟨_, hs.sel [] rfl rfl, hf.keep (ks := [0]) (by kernel_rfl)⟩ hS
      · replace hS := of_f hb2 hS
        replace hf := Fr.cast (L' := [(3, .slice ao1 z2.length cp1), (4, .slice ao2 z3.1.length cp2), (5, .int .i64 z3.2), (23, .bool false)]) hf (by rw [hb2])
        refine st tbOk 38 [0] (L' := [(0, .bool false)]) hf (by kernel_rfl) ?_
        clear hf; clear a; intro a hf
        refine wpList_nil ?_
        exact hK1 false _ _ ⟨_, hs.sel [] rfl rfl, hf.keep (ks := [0]) (by kernel_rfl)⟩ hS
    · replace hS := of_f hb1 hS
      replace hf := Fr.cast (L' := [(2, .int .i64 z1.2), (3, .slice ao1 z2.length cp1), (4, .slice ao2 z3.1.length cp2), (5, .int .i64 z3.2), (19, .bool false)]) hf (by rw [hb1])
      refine st tbOk 42 [0] (L' := [(0, .bool false)]) hf (by kernel_rfl) ?_
      clear hf; clear a; intro a hf
      refine wpList_nil ?_
      exact hK1 false _ _ ⟨_, hs.sel [] rfl rfl, hf.keep (ks := [0]) (by kernel_rfl)⟩ hS

end Dm
