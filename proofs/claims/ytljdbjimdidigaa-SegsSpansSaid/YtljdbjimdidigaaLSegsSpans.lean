/-
  The walk of the law SegsSpans; printed by a program of this repo. No condition.
-/
import Derived.Test.YtljdbjimdidigaaWT
import Derived.Test.YtljdbjimdidigaaW0
import Derived.Test.YtljdbjimdidigaaW1
import Derived.Test.YtljdbjimdidigaaW8
namespace Dm
open Go Go.RowKit Go.Proofs

set_option maxHeartbeats 4000000 in
theorem law04_SegsSpans_ok {w : World} {F : SH} {p_l : List (Int × Int × Int × Int × Int × Int × Int)} {size : Int} {addr : Int} {n : Int} {ao1 : Option Addr} {cp1 : Nat} (hs : Sep w F (blks [.ro ty24 (.slice ao1 p_l.length cp1) p_l]) w F [.ro ty24 (.slice ao1 p_l.length cp1) p_l]) {r : Bool} (hS : law04_SegsSpans p_l size addr n = some r) :
    Calls Try.prog 8 [.slice ao1 p_l.length cp1, .int .u64 size, .int .u64 addr, .int .u64 n].toArray w (Gives (fun u w' => ∃ (F' : SH), u = .bool r ∧ Sep w F (blks [.ro ty24 (.slice ao1 p_l.length cp1) p_l]) w' F' [])) := by
  generalize (blks [.ro ty24 (.slice ao1 p_l.length cp1) p_l]) = R at hs ⊢
  unfold law04_SegsSpans at hS
  refine fn_ok (vs := [.slice ao1 p_l.length cp1, .int .u64 size, .int .u64 addr, .int .u64 n]) Try.func8 rfl 128 Try.ntmps8 (Nat.le_of_ble_eq_true rfl) ?_
  intro a hf
  replace hf := Fr.cast (L' := [(0, .slice ao1 p_l.length cp1), (1, .int .u64 size), (2, .int .u64 addr), (3, .int .u64 n)]) hf (by kernel_rfl)
  refine sq ?_
  refine reg ?_
  refine st tbOk 1 [0, 1, 2, 3] (L' := [(0, .slice ao1 p_l.length cp1), (1, .int .u64 size), (2, .int .u64 addr), (3, .int .u64 n)]) hf (by kernel_rfl) ?_
  clear hf; clear a; intro a hf
  refine wpList_nil ?_
  refine sq ?_
  refine reg ?_
  have hT := of_bd hS; clear hS; obtain ⟨z1, hz1, hS⟩ := hT
  refine clV ent11 (vs := []) (caps := []) hf (by kernel_rfl) (by kernel_rfl) (by kernel_rfl) (by kernel_rfl) (law04_awake_ok (hs.enter [] rfl rfl) hz1) ?_
  clear hf; clear a; intro v w1 a hT hf; obtain ⟨F1, rfl, hr⟩ := hT
  replace hs : Sep w F R w1 F1 [.ro ty24 (.slice ao1 p_l.length cp1) p_l] := hs.back [] [0] rfl rfl rfl rfl hr
  clear hr
  replace hf := Fr.keep (ks := [0, 1, 2, 3, 18]) (L' := [(0, .slice ao1 p_l.length cp1), (1, .int .u64 size), (2, .int .u64 addr), (3, .int .u64 n), (18, .bool z1)]) hf (by kernel_rfl)
  refine st tbOk 1 [0, 1, 2, 3, 9] (L' := [(0, .slice ao1 p_l.length cp1), (1, .int .u64 size), (2, .int .u64 addr), (3, .int .u64 n), (9, .bool z1)]) hf (by kernel_rfl) ?_
  clear hf; clear a; intro a hf
  refine wpList_nil ?_
  refine sq ?_
  refine sq ?_
  refine reg ?_
  refine st tbOk 2 [0, 1, 2, 3, 20] (L' := [(0, .slice ao1 p_l.length cp1), (1, .int .u64 size), (2, .int .u64 addr), (3, .int .u64 n), (20, .bool (!z1))]) hf (by kernel_rfl) ?_
  clear hf; clear a; intro a hf
  refine wpList_nil ?_
  refine cnd (b := !z1) hf (by kernel_rfl) (fun hb1 => ?_) (fun hb1 => ?_)
  · replace hS := of_t hb1 hS
    refine sq ?_
    refine reg ?_
    refine st tbOk 1 [8] (L' := [(8, .bool false)]) hf (by kernel_rfl) ?_
    clear hf; clear a; intro a hf
    refine wpList_nil ?_
    have hr := Option.some.inj hS; subst hr
    refine wp_ret ?_
    exact ret_ok hf (vs := [.bool false]) (by kernel_rfl) ⟨_, rfl, hs.sel [] rfl rfl⟩
  · replace hS := of_f hb1 hS
    refine wp_skip ?_
    refine sq ?_
    refine sq ?_
    refine ctj (fun (s1 : Bool) (a : Act) (w' : World) => ∃ (F2 : SH), Sep w F R w' F2 [.ro ty24 (.slice ao1 p_l.length cp1) p_l] ∧ Fr 128 [(0, .slice ao1 p_l.length cp1), (1, .int .u64 size), (2, .int .u64 addr), (3, .int .u64 n), (29, .bool s1)] a) hS ?_ ?_
    · clear hS hf hs; clear a; intro s1 a w3 hM hS
      obtain ⟨F2, hs, hf⟩ := hM
      refine cnd (b := s1) hf (by kernel_rfl) (fun hb3 => ?_) (fun hb3 => ?_)
      · replace hS := of_t hb3 hS
        refine sq ?_
        refine reg ?_
        refine st tbOk 1 [8] (L' := [(8, .bool true)]) hf (by kernel_rfl) ?_
        clear hf; clear a; intro a hf
        refine wpList_nil ?_
        have hr := Option.some.inj hS; subst hr
        refine wp_ret ?_
        exact ret_ok hf (vs := [.bool true]) (by kernel_rfl) ⟨_, rfl, hs.sel [] rfl rfl⟩
      · replace hS := of_f hb3 hS
        refine wp_skip ?_
        refine sq ?_
        refine reg ?_
        refine st tbOk 1 [0, 1, 2, 3, 31] (L' := [(0, .slice ao1 p_l.length cp1), (1, .int .u64 size), (2, .int .u64 addr), (3, .int .u64 n), (31, .slice ao1 p_l.length cp1)]) hf (by kernel_rfl) ?_
        clear hf; clear a; intro a hf
        have hT := of_bd hS; clear hS; obtain ⟨z3, hz3, hS⟩ := hT
        refine clV ent24 (vs := [.slice ao1 p_l.length cp1]) (caps := []) hf (by kernel_rfl) (by kernel_rfl) (by kernel_rfl) (by kernel_rfl) (segs_Span_ok (p_l := p_l) (hs.enter [0] rfl rfl) hz3) ?_
        clear hf; clear a; intro v w4 a hT hf; obtain ⟨F4, rfl, hr⟩ := hT
        replace hs : Sep w F R w4 F4 [.ro ty24 (.slice ao1 p_l.length cp1) p_l] := hs.back [0] [0] rfl rfl rfl rfl hr
        clear hr
        replace hf := Fr.keep (ks := [0, 1, 2, 3, 32]) (L' := [(0, .slice ao1 p_l.length cp1), (1, .int .u64 size), (2, .int .u64 addr), (3, .int .u64 n), (32, .tuple #[.int .u64 z3.1, .int .u64 z3.2])]) hf (by kernel_rfl)
        refine st tbOk 5 [0, 1, 2, 3, 10, 11] (L' := [(0, .slice ao1 p_l.length cp1), (1, .int .u64 size), (2, .int .u64 addr), (3, .int .u64 n), (10, .int .u64 z3.1), (11, .int .u64 z3.2)]) hf (by kernel_rfl) ?_
        clear hf; clear a; intro a hf
        refine wpList_nil ?_
        refine sq ?_
        refine reg ?_
        refine st tbOk 1 [0, 1, 2, 3, 10, 11, 36] (L' := [(0, .slice ao1 p_l.length cp1), (1, .int .u64 size), (2, .int .u64 addr), (3, .int .u64 n), (10, .int .u64 z3.1), (11, .int .u64 z3.2), (36, .slice ao1 p_l.length cp1)]) hf (by kernel_rfl) ?_
        clear hf; clear a; intro a hf
        have hT := of_bd hS; clear hS; obtain ⟨z4, hz4, hS⟩ := hT
        refine clV ent25 (vs := [.slice ao1 p_l.length cp1]) (caps := []) hf (by kernel_rfl) (by kernel_rfl) (by kernel_rfl) (by kernel_rfl) (ref04_Span_ok (p_l := p_l) (hs.enter [0] rfl rfl) hz4) ?_
        clear hf; clear a; intro v w5 a hT hf; obtain ⟨F5, rfl, hr⟩ := hT
        replace hs : Sep w F R w5 F5 [.ro ty24 (.slice ao1 p_l.length cp1) p_l] := hs.back [0] [0] rfl rfl rfl rfl hr
        clear hr
        replace hf := Fr.keep (ks := [0, 1, 2, 3, 10, 11, 37]) (L' := [(0, .slice ao1 p_l.length cp1), (1, .int .u64 size), (2, .int .u64 addr), (3, .int .u64 n), (10, .int .u64 z3.1), (11, .int .u64 z3.2), (37, .tuple #[.int .u64 z4.1, .int .u64 z4.2])]) hf (by kernel_rfl)
        refine st tbOk 5 [0, 1, 2, 3, 10, 11, 12, 13] (L' := [(0, .slice ao1 p_l.length cp1), (1, .int .u64 size), (2, .int .u64 addr), (3, .int .u64 n), (10, .int .u64 z3.1), (11, .int .u64 z3.2), (12, .int .u64 z4.1), (13, .int .u64 z4.2)]) hf (by kernel_rfl) ?_
        clear hf; clear a; intro a hf
        refine wpList_nil ?_
        refine sq ?_
        refine sq ?_
        refine ctj (fun (s2 : Bool) (a : Act) (w' : World) => ∃ (F6 : SH), Sep w F R w' F6 [.ro ty24 (.slice ao1 p_l.length cp1) p_l] ∧ Fr 128 [(0, .slice ao1 p_l.length cp1), (1, .int .u64 size), (2, .int .u64 addr), (3, .int .u64 n), (62, .bool s2)] a) hS ?_ ?_
        · clear hS hf hs; clear a; intro s2 a w6 hM hS
          obtain ⟨F6, hs, hf⟩ := hM
          refine cnd (b := s2) hf (by kernel_rfl) (fun hb8 => ?_) (fun hb8 => ?_)
          · replace hS := of_t hb8 hS
            refine sq ?_
            refine reg ?_
            refine st tbOk 1 [8] (L' := [(8, .bool false)]) hf (by kernel_rfl) ?_
            clear hf; clear a; intro a hf
            refine wpList_nil ?_
            have hr := Option.some.inj hS; subst hr
            refine wp_ret ?_
            exact ret_ok hf (vs := [.bool false]) (by kernel_rfl) ⟨_, rfl, hs.sel [] rfl rfl⟩
          · replace hS := of_f hb8 hS
            refine wp_skip ?_
            refine sq ?_
            refine sq ?_
            refine reg ?_
            refine st tbOk 1 [0, 1, 2, 3, 14] (L' := [(0, .slice ao1 p_l.length cp1), (1, .int .u64 size), (2, .int .u64 addr), (3, .int .u64 n), (14, .int .i64 0)]) hf (by kernel_rfl) ?_
            clear hf; clear a; intro a hf
            refine wpList_nil ?_
            refine ctj (fun (s3 : Unit) (a : Act) (w' : World) => ∃ (F7 : SH), Sep w F R w' F7 [.ro ty24 (.slice ao1 p_l.length cp1) p_l] ∧ Fr 128 [(0, .slice ao1 p_l.length cp1), (1, .int .u64 size), (2, .int .u64 addr), (3, .int .u64 n)] a) hS ?_ ?_
            · clear hS hf hs; clear a; intro s3 a w15 hM hS
              obtain ⟨F7, hs, hf⟩ := hM
              refine sq ?_
              refine reg ?_
              refine st tbOk 3 [1, 3, 108, 109, 110] (L' := [(1, .int .u64 size), (3, .int .u64 n), (108, .slice ao1 p_l.length cp1), (109, .int .u64 addr), (110, .int .u64 n)]) hf (by kernel_rfl) ?_
              clear hf; clear a; intro a hf
              have hT := of_bd hS; clear hS; obtain ⟨z5, hz5, hS⟩ := hT
              refine clV ent20 (vs := [.slice ao1 p_l.length cp1, .int .u64 addr, .int .u64 n]) (caps := []) hf (by kernel_rfl) (by kernel_rfl) (by kernel_rfl) (by kernel_rfl) (segs_Place_ok (p_l := p_l) (addr := addr) (size := n) (hs.enter [0] rfl rfl) hz5) ?_
              clear hf; clear a; intro v w16 a hT hf; obtain ⟨F13, rfl, hr⟩ := hT
              replace hs : Sep w F R w16 F13 [.ro ty24 (.slice ao1 p_l.length cp1) p_l] := hs.back [0] [0] rfl rfl rfl rfl hr
              clear hr
              replace hs : Sep w F R w16 F13 [] := hs.sel [] rfl rfl
              replace hf := Fr.keep (ks := [1, 3, 111]) (L' := [(1, .int .u64 size), (3, .int .u64 n), (111, .tuple #[.int .u64 z5.1, .int .i64 z5.2])]) hf (by kernel_rfl)
              refine st tbOk 5 [1, 3, 16, 17] (L' := [(1, .int .u64 size), (3, .int .u64 n), (16, .int .u64 z5.1), (17, .int .i64 z5.2)]) hf (by kernel_rfl) ?_
              clear hf; clear a; intro a hf
              refine wpList_nil ?_
              refine sq ?_
              refine ctj (fun (s9 : Bool) (a : Act) (w' : World) => ∃ (F14 : SH), Sep w F R w' F14 [] ∧ Fr 128 [(8, .bool s9)] a) hS ?_ ?_
              · clear hS hf hs; clear a; intro s9 a w17 hM hS
                obtain ⟨F14, hs, hf⟩ := hM
                have hr := Option.some.inj hS; subst hr
                refine wp_ret ?_
                exact ret_ok hf (vs := [.bool s9]) (by kernel_rfl) ⟨_, rfl, hs.sel [] rfl rfl⟩
              · clear hS; intro KK9 k7 hK9 hS
                refine reg ?_
                refine st tbOk 3 [1, 3, 16, 116] (L' := [(1, .int .u64 size), (3, .int .u64 n), (16, .int .u64 z5.1), (116, .bool (z5.2 != 0))]) hf (by kernel_rfl) ?_
                clear hf; clear a; intro a hf
                rcases Bool.eq_false_or_eq_true (z5.2 != 0) with hb14 | hb14
                · replace hS := of_t hb14 hS
                  replace hf := Fr.cast (L' := [(1, .int .u64 size), (3, .int .u64 n), (16, .int .u64 z5.1), (116, .bool true)]) hf (by rw [hb14])
                  refine st tbOk 12 [8] (L' := [(8, .bool true)]) hf (by kernel_rfl) ?_
                  clear hf; clear a; intro a hf
                  refine wpList_nil ?_
                  exact hK9 true _ _ ⟨_, hs.sel [] rfl rfl, hf.keep (ks := [8]) (by kernel_rfl)⟩ hS
                · replace hS := of_f hb14 hS
                  replace hf := Fr.cast (L' := [(1, .int .u64 size), (3, .int .u64 n), (16, .int .u64 z5.1), (116, .bool false)]) hf (by rw [hb14])
                  refine st tbOk 4 [1, 3, 16, 116, 120] (L' := [(1, .int .u64 size), (3, .int .u64 n), (16, .int .u64 z5.1), (116, .bool false), (120, .bool (decide (z5.1 ≤ size)))]) hf (by kernel_rfl) ?_
                  clear hf; clear a; intro a hf
                  rcases Bool.eq_false_or_eq_true (decide (z5.1 ≤ size)) with hb15 | hb15
                  · replace hS := of_t hb15 hS
                    replace hf := Fr.cast (L' := [(1, .int .u64 size), (3, .int .u64 n), (16, .int .u64 z5.1), (116, .bool false), (120, .bool true)]) hf (by rw [hb15])
                    refine st tbOk 8 [8] (L' := [(8, .bool (decide (n ≤ (IntKind.u64.wrap (size - z5.1)))))]) hf (by kernel_rfl) ?_
                    clear hf; clear a; intro a hf
                    refine wpList_nil ?_
                    exact hK9 (decide (n ≤ (IntKind.u64.wrap (size - z5.1)))) _ _ ⟨_, hs.sel [] rfl rfl, hf.keep (ks := [8]) (by kernel_rfl)⟩ hS
                  · replace hS := of_f hb15 hS
                    replace hf := Fr.cast (L' := [(1, .int .u64 size), (3, .int .u64 n), (16, .int .u64 z5.1), (116, .bool false), (120, .bool false)]) hf (by rw [hb15])
                    refine st tbOk 8 [8] (L' := [(8, .bool false)]) hf (by kernel_rfl) ?_
                    clear hf; clear a; intro a hf
                    refine wpList_nil ?_
                    exact hK9 false _ _ ⟨_, hs.sel [] rfl rfl, hf.keep (ks := [8]) (by kernel_rfl)⟩ hS
            · clear hS; intro KK3 k3 hK3 hS
              refine blk ?_
              refine lp (st := 0) (fun (s4 : Int) (a : Act) (w' : World) => ∃ (F8 : SH), Sep w F R w' F8 [.ro ty24 (.slice ao1 p_l.length cp1) p_l] ∧ Fr 128 [(0, .slice ao1 p_l.length cp1), (1, .int .u64 size), (2, .int .u64 addr), (3, .int .u64 n), (14, .int .i64 s4)] a) ?_ ⟨_, hs.sel [0] rfl rfl, hf.keep (ks := [0, 1, 2, 3, 14]) (by kernel_rfl)⟩ hS
              clear hS hf hs; clear a
              intro rec1 KK4 hK4 s4 a w7 hM hS
              obtain ⟨F8, hs, hf⟩ := hM
              refine sq ?_
              refine sq ?_
              refine reg ?_
              refine st tbOk 4 [0, 1, 2, 3, 14, 66] (L' := [(0, .slice ao1 p_l.length cp1), (1, .int .u64 size), (2, .int .u64 addr), (3, .int .u64 n), (14, .int .i64 s4), (66, .bool (decide (s4 < ((p_l.length : Nat) : Int))))]) hf (by kernel_rfl) ?_
              clear hf; clear a; intro a hf
              refine wpList_nil ?_
              refine cnd (b := decide (s4 < ((p_l.length : Nat) : Int))) hf (by kernel_rfl) (fun hb9 => ?_) (fun hb9 => ?_)
              · replace hS := of_t hb9 hS
                refine wp_skip ?_
                refine sq ?_
                refine ctj (fun (s5 : Unit) (a : Act) (w' : World) => ∃ (F9 : SH), Sep w F R w' F9 [.ro ty24 (.slice ao1 p_l.length cp1) p_l] ∧ Fr 128 [(0, .slice ao1 p_l.length cp1), (1, .int .u64 size), (2, .int .u64 addr), (3, .int .u64 n), (14, .int .i64 s4)] a) hS ?_ ?_
                · clear hS hf hs; clear a; intro s5 a w14 hM hS
                  obtain ⟨F9, hs, hf⟩ := hM
                  refine reg ?_
                  have hT := of_let hS; clear hS; obtain ⟨i_1, hl2, hS⟩ := hT
                  refine st tbOk 3 [0, 1, 2, 3, 14] (L' := [(0, .slice ao1 p_l.length cp1), (1, .int .u64 size), (2, .int .u64 addr), (3, .int .u64 n), (14, .int .i64 i_1)]) hf (by subst hl2; kernel_rfl) ?_
                  clear hf; clear a; intro a hf
                  refine wpList_nil ?_
                  exact hK4 i_1 _ _ ⟨_, hs.sel [0] rfl rfl, hf.keep (ks := [0, 1, 2, 3, 14]) (by kernel_rfl)⟩ hS
                · clear hS; intro KK5 k4 hK5 hS
                  refine blk ?_
                  refine sq ?_
                  refine reg ?_
                  refine st tbOk 1 [0, 1, 2, 3, 14, 15] (L' := [(0, .slice ao1 p_l.length cp1), (1, .int .u64 size), (2, .int .u64 addr), (3, .int .u64 n), (14, .int .i64 s4), (15, .int .i64 0)]) hf (by kernel_rfl) ?_
                  clear hf; clear a; intro a hf
                  refine wpList_nil ?_
                  refine ctj (fun (s6 : Unit) (a : Act) (w' : World) => ∃ (F10 : SH), Sep w F R w' F10 [.ro ty24 (.slice ao1 p_l.length cp1) p_l] ∧ Fr 128 [(0, .slice ao1 p_l.length cp1), (1, .int .u64 size), (2, .int .u64 addr), (3, .int .u64 n), (14, .int .i64 s4)] a) hS ?_ ?_
                  · clear hS hf hs; clear a; intro s6 a w13 hM hS
                    obtain ⟨F10, hs, hf⟩ := hM
                    exact hK5 () _ _ ⟨_, hs.sel [0] rfl rfl, hf.keep (ks := [0, 1, 2, 3, 14]) (by kernel_rfl)⟩ hS
                  · clear hS; intro KK6 k5 hK6 hS
                    refine blk ?_
                    refine lp (st := 0) (fun (s7 : Int) (a : Act) (w' : World) => ∃ (F11 : SH), Sep w F R w' F11 [.ro ty24 (.slice ao1 p_l.length cp1) p_l] ∧ Fr 128 [(0, .slice ao1 p_l.length cp1), (1, .int .u64 size), (2, .int .u64 addr), (3, .int .u64 n), (14, .int .i64 s4), (15, .int .i64 s7)] a) ?_ ⟨_, hs.sel [0] rfl rfl, hf.keep (ks := [0, 1, 2, 3, 14, 15]) (by kernel_rfl)⟩ hS
                    clear hS hf hs; clear a
                    intro rec2 KK7 hK7 s7 a w8 hM hS
                    obtain ⟨F11, hs, hf⟩ := hM
                    refine sq ?_
                    refine sq ?_
                    refine reg ?_
                    refine st tbOk 3 [0, 1, 2, 3, 14, 15, 71] (L' := [(0, .slice ao1 p_l.length cp1), (1, .int .u64 size), (2, .int .u64 addr), (3, .int .u64 n), (14, .int .i64 s4), (15, .int .i64 s7), (71, .bool (decide (s7 < s4)))]) hf (by kernel_rfl) ?_
                    clear hf; clear a; intro a hf
                    refine wpList_nil ?_
                    refine cnd (b := decide (s7 < s4)) hf (by kernel_rfl) (fun hb10 => ?_) (fun hb10 => ?_)
                    · replace hS := of_t hb10 hS
                      refine wp_skip ?_
                      refine sq ?_
                      refine blk ?_
                      refine sq ?_
                      refine ctj (fun (s8 : Bool) (a : Act) (w' : World) => ∃ (F12 : SH), Sep w F R w' F12 [.ro ty24 (.slice ao1 p_l.length cp1) p_l] ∧ Fr 128 [(0, .slice ao1 p_l.length cp1), (1, .int .u64 size), (2, .int .u64 addr), (3, .int .u64 n), (14, .int .i64 s4), (15, .int .i64 s7), (106, .bool s8)] a) hS ?_ ?_
                      · clear hS hf hs; clear a; intro s8 a w12 hM hS
                        obtain ⟨F12, hs, hf⟩ := hM
                        refine cnd (b := s8) hf (by kernel_rfl) (fun hb13 => ?_) (fun hb13 => ?_)
                        · replace hS := of_t hb13 hS
                          refine sq ?_
                          refine reg ?_
                          refine st tbOk 1 [8] (L' := [(8, .bool false)]) hf (by kernel_rfl) ?_
                          clear hf; clear a; intro a hf
                          refine wpList_nil ?_
                          have hr := Option.some.inj hS; subst hr
                          refine wp_ret ?_
                          exact ret_ok hf (vs := [.bool false]) (by kernel_rfl) ⟨_, rfl, hs.sel [] rfl rfl⟩
                        · replace hS := of_f hb13 hS
                          refine wp_skip ?_
                          refine reg ?_
                          have hT := of_let hS; clear hS; obtain ⟨k_1, hl1, hS⟩ := hT
                          refine st tbOk 3 [0, 1, 2, 3, 14, 15] (L' := [(0, .slice ao1 p_l.length cp1), (1, .int .u64 size), (2, .int .u64 addr), (3, .int .u64 n), (14, .int .i64 s4), (15, .int .i64 k_1)]) hf (by subst hl1; kernel_rfl) ?_
                          clear hf; clear a; intro a hf
                          refine wpList_nil ?_
                          exact hK7 k_1 _ _ ⟨_, hs.sel [0] rfl rfl, hf.keep (ks := [0, 1, 2, 3, 14, 15]) (by kernel_rfl)⟩ hS
                      · clear hS; intro KK8 k6 hK8 hS
                        refine regQ mixed (by kernel_rfl) ?_
                        refine stQ tbOk 2 [0, 1, 2, 3, 14, 15, 74, 75] (L' := [(0, .slice ao1 p_l.length cp1), (1, .int .u64 size), (2, .int .u64 addr), (3, .int .u64 n), (14, .int .i64 s4), (15, .int .i64 s7), (74, .slice ao1 p_l.length cp1), (75, .int .i64 s4)]) hf (by kernel_rfl) ?_
                        clear hf; clear a; intro a hf
                        have hT := of_gd hS; clear hS; obtain ⟨hc1, hS⟩ := hT
                        refine ixRQ tbOk u33 i25 rfl rfl ((hs.ro 0 rfl).ra (LeH.refl _)) (k := .i64) (n := s4) hc1 hf (by kernel_rfl) (by kernel_rfl) (by kernel_rfl) (by kernel_rfl) ?_
                        clear hf; clear a; intro pb1 po1 c1 a hp1 hr1 hf
                        obtain rfl : c1 = [.int .u32 ((gt p_l s4).1), .int .u32 ((gt p_l s4).2.1), .int .u64 ((gt p_l s4).2.2.1), .int .u64 ((gt p_l s4).2.2.2.1), .int .u64 ((gt p_l s4).2.2.2.2.1), .int .u64 ((gt p_l s4).2.2.2.2.2.1), .int .u64 ((gt p_l s4).2.2.2.2.2.2)] := hr1
                        replace hs : Sep w F R w8 F11 [.cel pb1 po1 [.int .u32 ((gt p_l s4).1), .int .u32 ((gt p_l s4).2.1), .int .u64 ((gt p_l s4).2.2.1), .int .u64 ((gt p_l s4).2.2.2.1), .int .u64 ((gt p_l s4).2.2.2.2.1), .int .u64 ((gt p_l s4).2.2.2.2.2.1), .int .u64 ((gt p_l s4).2.2.2.2.2.2)], .ro ty24 (.slice ao1 p_l.length cp1) p_l] := hs.addCel hp1
                        replace hf := Fr.keep (ks := [0, 1, 2, 3, 14, 15, 76]) (L' := [(0, .slice ao1 p_l.length cp1), (1, .int .u64 size), (2, .int .u64 addr), (3, .int .u64 n), (14, .int .i64 s4), (15, .int .i64 s7), (76, .pointer (some ⟨pb1, po1, none⟩))]) hf (by kernel_rfl)
                        refine stQ tbOk 1 [0, 1, 2, 3, 14, 15, 77] (L' := [(0, .slice ao1 p_l.length cp1), (1, .int .u64 size), (2, .int .u64 addr), (3, .int .u64 n), (14, .int .i64 s4), (15, .int .i64 s7), (77, .pointer (some ⟨pb1, po1, none⟩))]) hf (by kernel_rfl) ?_
                        clear hf; clear a; intro a hf
                        refine ldCQ tbOk (T := 22) (hs.ccel 0 rfl) (LeH.refl _) 0 (.int .u32 ((gt p_l s4).1)) hf (by kernel_rfl) (by kernel_rfl) (by kernel_rfl) (by kernel_rfl) ?_
                        clear hf; clear a; intro a hf
                        replace hs : Sep w F R w8 F11 [.ro ty24 (.slice ao1 p_l.length cp1) p_l] := hs.sel [1] rfl rfl
                        replace hf := Fr.keep (ks := [0, 1, 2, 3, 14, 15, 78]) (L' := [(0, .slice ao1 p_l.length cp1), (1, .int .u64 size), (2, .int .u64 addr), (3, .int .u64 n), (14, .int .i64 s4), (15, .int .i64 s7), (78, .int .u32 ((gt p_l s4).1))]) hf (by kernel_rfl)
                        refine stQ tbOk 2 [0, 1, 2, 3, 14, 15, 80] (L' := [(0, .slice ao1 p_l.length cp1), (1, .int .u64 size), (2, .int .u64 addr), (3, .int .u64 n), (14, .int .i64 s4), (15, .int .i64 s7), (80, .bool (((gt p_l s4).1) == 1))]) hf (by kernel_rfl) ?_
                        clear hf; clear a; intro a hf
                        rcases Bool.eq_false_or_eq_true (((gt p_l s4).1) == 1) with hb11 | hb11
                        · replace hS := of_t hb11 hS
                          replace hf := Fr.cast (L' := [(0, .slice ao1 p_l.length cp1), (1, .int .u64 size), (2, .int .u64 addr), (3, .int .u64 n), (14, .int .i64 s4), (15, .int .i64 s7), (80, .bool true)]) hf (by rw [hb11])
                          refine stQ tbOk 2 [0, 1, 2, 3, 14, 15, 80, 81, 82] (L' := [(0, .slice ao1 p_l.length cp1), (1, .int .u64 size), (2, .int .u64 addr), (3, .int .u64 n), (14, .int .i64 s4), (15, .int .i64 s7), (80, .bool true), (81, .slice ao1 p_l.length cp1), (82, .int .i64 s7)]) hf (by kernel_rfl) ?_
                          clear hf; clear a; intro a hf
                          have hT := of_gd hS; clear hS; obtain ⟨hc2, hS⟩ := hT
                          refine ixRQ tbOk u33 i25 rfl rfl ((hs.ro 0 rfl).ra (LeH.refl _)) (k := .i64) (n := s7) hc2 hf (by kernel_rfl) (by kernel_rfl) (by kernel_rfl) (by kernel_rfl) ?_
                          clear hf; clear a; intro pb2 po2 c2 a hp2 hr2 hf
                          obtain rfl : c2 = [.int .u32 ((gt p_l s7).1), .int .u32 ((gt p_l s7).2.1), .int .u64 ((gt p_l s7).2.2.1), .int .u64 ((gt p_l s7).2.2.2.1), .int .u64 ((gt p_l s7).2.2.2.2.1), .int .u64 ((gt p_l s7).2.2.2.2.2.1), .int .u64 ((gt p_l s7).2.2.2.2.2.2)] := hr2
                          replace hs : Sep w F R w8 F11 [.cel pb2 po2 [.int .u32 ((gt p_l s7).1), .int .u32 ((gt p_l s7).2.1), .int .u64 ((gt p_l s7).2.2.1), .int .u64 ((gt p_l s7).2.2.2.1), .int .u64 ((gt p_l s7).2.2.2.2.1), .int .u64 ((gt p_l s7).2.2.2.2.2.1), .int .u64 ((gt p_l s7).2.2.2.2.2.2)], .ro ty24 (.slice ao1 p_l.length cp1) p_l] := hs.addCel hp2
                          replace hf := Fr.keep (ks := [0, 1, 2, 3, 14, 15, 80, 83]) (L' := [(0, .slice ao1 p_l.length cp1), (1, .int .u64 size), (2, .int .u64 addr), (3, .int .u64 n), (14, .int .i64 s4), (15, .int .i64 s7), (80, .bool true), (83, .pointer (some ⟨pb2, po2, none⟩))]) hf (by kernel_rfl)
                          refine stQ tbOk 1 [0, 1, 2, 3, 14, 15, 80, 84] (L' := [(0, .slice ao1 p_l.length cp1), (1, .int .u64 size), (2, .int .u64 addr), (3, .int .u64 n), (14, .int .i64 s4), (15, .int .i64 s7), (80, .bool true), (84, .pointer (some ⟨pb2, po2, none⟩))]) hf (by kernel_rfl) ?_
                          clear hf; clear a; intro a hf
                          refine ldCQ tbOk (T := 22) (hs.ccel 0 rfl) (LeH.refl _) 0 (.int .u32 ((gt p_l s7).1)) hf (by kernel_rfl) (by kernel_rfl) (by kernel_rfl) (by kernel_rfl) ?_
                          clear hf; clear a; intro a hf
                          replace hs : Sep w F R w8 F11 [.ro ty24 (.slice ao1 p_l.length cp1) p_l] := hs.sel [1] rfl rfl
                          replace hf := Fr.keep (ks := [0, 1, 2, 3, 14, 15, 80, 85]) (L' := [(0, .slice ao1 p_l.length cp1), (1, .int .u64 size), (2, .int .u64 addr), (3, .int .u64 n), (14, .int .i64 s4), (15, .int .i64 s7), (80, .bool true), (85, .int .u32 ((gt p_l s7).1))]) hf (by kernel_rfl)
                          refine stQ tbOk 3 [0, 1, 2, 3, 14, 15, 88] (L' := [(0, .slice ao1 p_l.length cp1), (1, .int .u64 size), (2, .int .u64 addr), (3, .int .u64 n), (14, .int .i64 s4), (15, .int .i64 s7), (88, .bool (((gt p_l s7).1) == 1))]) hf (by kernel_rfl) ?_
                          clear hf; clear a; intro a hf
                          rcases Bool.eq_false_or_eq_true (((gt p_l s7).1) == 1) with hb12 | hb12
                          · replace hS := of_t hb12 hS
                            replace hf := Fr.cast (L' := [(0, .slice ao1 p_l.length cp1), (1, .int .u64 size), (2, .int .u64 addr), (3, .int .u64 n), (14, .int .i64 s4), (15, .int .i64 s7), (88, .bool true)]) hf (by rw [hb12])
                            refine stQ tbOk 2 [0, 1, 2, 3, 14, 15, 88, 89, 90] (L' := [(0, .slice ao1 p_l.length cp1), (1, .int .u64 size), (2, .int .u64 addr), (3, .int .u64 n), (14, .int .i64 s4), (15, .int .i64 s7), (88, .bool true), (89, .slice ao1 p_l.length cp1), (90, .int .i64 s7)]) hf (by kernel_rfl) ?_
                            clear hf; clear a; intro a hf
                            have hT := of_gd hS; clear hS; obtain ⟨hc3, hS⟩ := hT
                            refine ixRQ tbOk u33 i25 rfl rfl ((hs.ro 0 rfl).ra (LeH.refl _)) (k := .i64) (n := s7) hc3 hf (by kernel_rfl) (by kernel_rfl) (by kernel_rfl) (by kernel_rfl) ?_
                            clear hf; clear a; intro pb3 po3 c3 a hp3 hr3 hf
                            obtain rfl : c3 = [.int .u32 ((gt p_l s7).1), .int .u32 ((gt p_l s7).2.1), .int .u64 ((gt p_l s7).2.2.1), .int .u64 ((gt p_l s7).2.2.2.1), .int .u64 ((gt p_l s7).2.2.2.2.1), .int .u64 ((gt p_l s7).2.2.2.2.2.1), .int .u64 ((gt p_l s7).2.2.2.2.2.2)] := hr3
                            replace hs : Sep w F R w8 F11 [.cel pb3 po3 [.int .u32 ((gt p_l s7).1), .int .u32 ((gt p_l s7).2.1), .int .u64 ((gt p_l s7).2.2.1), .int .u64 ((gt p_l s7).2.2.2.1), .int .u64 ((gt p_l s7).2.2.2.2.1), .int .u64 ((gt p_l s7).2.2.2.2.2.1), .int .u64 ((gt p_l s7).2.2.2.2.2.2)], .ro ty24 (.slice ao1 p_l.length cp1) p_l] := hs.addCel hp3
                            replace hf := Fr.keep (ks := [0, 1, 2, 3, 14, 15, 88, 91]) (L' := [(0, .slice ao1 p_l.length cp1), (1, .int .u64 size), (2, .int .u64 addr), (3, .int .u64 n), (14, .int .i64 s4), (15, .int .i64 s7), (88, .bool true), (91, .pointer (some ⟨pb3, po3, none⟩))]) hf (by kernel_rfl)
                            refine stQ tbOk 1 [0, 1, 2, 3, 14, 15, 88, 92] (L' := [(0, .slice ao1 p_l.length cp1), (1, .int .u64 size), (2, .int .u64 addr), (3, .int .u64 n), (14, .int .i64 s4), (15, .int .i64 s7), (88, .bool true), (92, .pointer (some ⟨pb3, po3 + 3, none⟩))]) hf (by kernel_rfl) ?_
                            clear hf; clear a; intro a hf
                            refine ldCQ tbOk (T := 23) (hs.ccel 0 rfl) (LeH.refl _) 3 (.int .u64 ((gt p_l s7).2.2.2.1)) hf (by kernel_rfl) (by kernel_rfl) (by kernel_rfl) (by kernel_rfl) ?_
                            clear hf; clear a; intro a hf
                            replace hs : Sep w F R w8 F11 [.ro ty24 (.slice ao1 p_l.length cp1) p_l] := hs.sel [1] rfl rfl
                            replace hf := Fr.keep (ks := [0, 1, 2, 3, 14, 15, 88, 93]) (L' := [(0, .slice ao1 p_l.length cp1), (1, .int .u64 size), (2, .int .u64 addr), (3, .int .u64 n), (14, .int .i64 s4), (15, .int .i64 s7), (88, .bool true), (93, .int .u64 ((gt p_l s7).2.2.2.1))]) hf (by kernel_rfl)
                            refine stQ tbOk 2 [0, 1, 2, 3, 14, 15, 88, 93, 94, 95] (L' := [(0, .slice ao1 p_l.length cp1), (1, .int .u64 size), (2, .int .u64 addr), (3, .int .u64 n), (14, .int .i64 s4), (15, .int .i64 s7), (88, .bool true), (93, .int .u64 ((gt p_l s7).2.2.2.1)), (94, .slice ao1 p_l.length cp1), (95, .int .i64 s7)]) hf (by kernel_rfl) ?_
                            clear hf; clear a; intro a hf
                            have hT := of_gd hS; clear hS; obtain ⟨hc4, hS⟩ := hT
                            refine ixRQ tbOk u33 i25 rfl rfl ((hs.ro 0 rfl).ra (LeH.refl _)) (k := .i64) (n := s7) hc4 hf (by kernel_rfl) (by kernel_rfl) (by kernel_rfl) (by kernel_rfl) ?_
                            clear hf; clear a; intro pb4 po4 c4 a hp4 hr4 hf
                            obtain rfl : c4 = [.int .u32 ((gt p_l s7).1), .int .u32 ((gt p_l s7).2.1), .int .u64 ((gt p_l s7).2.2.1), .int .u64 ((gt p_l s7).2.2.2.1), .int .u64 ((gt p_l s7).2.2.2.2.1), .int .u64 ((gt p_l s7).2.2.2.2.2.1), .int .u64 ((gt p_l s7).2.2.2.2.2.2)] := hr4
                            replace hs : Sep w F R w8 F11 [.cel pb4 po4 [.int .u32 ((gt p_l s7).1), .int .u32 ((gt p_l s7).2.1), .int .u64 ((gt p_l s7).2.2.1), .int .u64 ((gt p_l s7).2.2.2.1), .int .u64 ((gt p_l s7).2.2.2.2.1), .int .u64 ((gt p_l s7).2.2.2.2.2.1), .int .u64 ((gt p_l s7).2.2.2.2.2.2)], .ro ty24 (.slice ao1 p_l.length cp1) p_l] := hs.addCel hp4
                            replace hf := Fr.keep (ks := [0, 1, 2, 3, 14, 15, 88, 93, 96]) (L' := [(0, .slice ao1 p_l.length cp1), (1, .int .u64 size), (2, .int .u64 addr), (3, .int .u64 n), (14, .int .i64 s4), (15, .int .i64 s7), (88, .bool true), (93, .int .u64 ((gt p_l s7).2.2.2.1)), (96, .pointer (some ⟨pb4, po4, none⟩))]) hf (by kernel_rfl)
                            refine stQ tbOk 1 [0, 1, 2, 3, 14, 15, 88, 93, 97] (L' := [(0, .slice ao1 p_l.length cp1), (1, .int .u64 size), (2, .int .u64 addr), (3, .int .u64 n), (14, .int .i64 s4), (15, .int .i64 s7), (88, .bool true), (93, .int .u64 ((gt p_l s7).2.2.2.1)), (97, .pointer (some ⟨pb4, po4 + 5, none⟩))]) hf (by kernel_rfl) ?_
                            clear hf; clear a; intro a hf
                            refine ldCQ tbOk (T := 23) (hs.ccel 0 rfl) (LeH.refl _) 5 (.int .u64 ((gt p_l s7).2.2.2.2.2.1)) hf (by kernel_rfl) (by kernel_rfl) (by kernel_rfl) (by kernel_rfl) ?_
                            clear hf; clear a; intro a hf
                            replace hs : Sep w F R w8 F11 [.ro ty24 (.slice ao1 p_l.length cp1) p_l] := hs.sel [1] rfl rfl
                            replace hf := Fr.keep (ks := [0, 1, 2, 3, 14, 15, 88, 93, 98]) (L' := [(0, .slice ao1 p_l.length cp1), (1, .int .u64 size), (2, .int .u64 addr), (3, .int .u64 n), (14, .int .i64 s4), (15, .int .i64 s7), (88, .bool true), (93, .int .u64 ((gt p_l s7).2.2.2.1)), (98, .int .u64 ((gt p_l s7).2.2.2.2.2.1))]) hf (by kernel_rfl)
                            refine stQ tbOk 3 [0, 1, 2, 3, 14, 15, 88, 99, 100, 101] (L' := [(0, .slice ao1 p_l.length cp1), (1, .int .u64 size), (2, .int .u64 addr), (3, .int .u64 n), (14, .int .i64 s4), (15, .int .i64 s7), (88, .bool true), (99, .int .u64 (IntKind.u64.wrap (((gt p_l s7).2.2.2.1) + ((gt p_l s7).2.2.2.2.2.1)))), (100, .slice ao1 p_l.length cp1), (101, .int .i64 s4)]) hf (by kernel_rfl) ?_
                            clear hf; clear a; intro a hf
                            have hT := of_gd hS; clear hS; obtain ⟨hc5, hS⟩ := hT
                            refine ixRQ tbOk u33 i25 rfl rfl ((hs.ro 0 rfl).ra (LeH.refl _)) (k := .i64) (n := s4) hc5 hf (by kernel_rfl) (by kernel_rfl) (by kernel_rfl) (by kernel_rfl) ?_
                            clear hf; clear a; intro pb5 po5 c5 a hp5 hr5 hf
                            obtain rfl : c5 = [.int .u32 ((gt p_l s4).1), .int .u32 ((gt p_l s4).2.1), .int .u64 ((gt p_l s4).2.2.1), .int .u64 ((gt p_l s4).2.2.2.1), .int .u64 ((gt p_l s4).2.2.2.2.1), .int .u64 ((gt p_l s4).2.2.2.2.2.1), .int .u64 ((gt p_l s4).2.2.2.2.2.2)] := hr5
                            replace hs : Sep w F R w8 F11 [.cel pb5 po5 [.int .u32 ((gt p_l s4).1), .int .u32 ((gt p_l s4).2.1), .int .u64 ((gt p_l s4).2.2.1), .int .u64 ((gt p_l s4).2.2.2.1), .int .u64 ((gt p_l s4).2.2.2.2.1), .int .u64 ((gt p_l s4).2.2.2.2.2.1), .int .u64 ((gt p_l s4).2.2.2.2.2.2)], .ro ty24 (.slice ao1 p_l.length cp1) p_l] := hs.addCel hp5
                            replace hf := Fr.keep (ks := [0, 1, 2, 3, 14, 15, 88, 99, 102]) (L' := [(0, .slice ao1 p_l.length cp1), (1, .int .u64 size), (2, .int .u64 addr), (3, .int .u64 n), (14, .int .i64 s4), (15, .int .i64 s7), (88, .bool true), (99, .int .u64 (IntKind.u64.wrap (((gt p_l s7).2.2.2.1) + ((gt p_l s7).2.2.2.2.2.1)))), (102, .pointer (some ⟨pb5, po5, none⟩))]) hf (by kernel_rfl)
                            refine stQ tbOk 1 [0, 1, 2, 3, 14, 15, 88, 99, 103] (L' := [(0, .slice ao1 p_l.length cp1), (1, .int .u64 size), (2, .int .u64 addr), (3, .int .u64 n), (14, .int .i64 s4), (15, .int .i64 s7), (88, .bool true), (99, .int .u64 (IntKind.u64.wrap (((gt p_l s7).2.2.2.1) + ((gt p_l s7).2.2.2.2.2.1)))), (103, .pointer (some ⟨pb5, po5 + 3, none⟩))]) hf (by kernel_rfl) ?_
                            clear hf; clear a; intro a hf
                            refine ldCQ tbOk (T := 23) (hs.ccel 0 rfl) (LeH.refl _) 3 (.int .u64 ((gt p_l s4).2.2.2.1)) hf (by kernel_rfl) (by kernel_rfl) (by kernel_rfl) (by kernel_rfl) ?_
                            clear hf; clear a; intro a hf
                            replace hs : Sep w F R w8 F11 [.ro ty24 (.slice ao1 p_l.length cp1) p_l] := hs.sel [1] rfl rfl
                            replace hf := Fr.keep (ks := [0, 1, 2, 3, 14, 15, 88, 99, 104]) (L' := [(0, .slice ao1 p_l.length cp1), (1, .int .u64 size), (2, .int .u64 addr), (3, .int .u64 n), (14, .int .i64 s4), (15, .int .i64 s7), (88, .bool true), (99, .int .u64 (IntKind.u64.wrap (((gt p_l s7).2.2.2.1) + ((gt p_l s7).2.2.2.2.2.1)))), (104, .int .u64 ((gt p_l s4).2.2.2.1))]) hf (by kernel_rfl)
                            refine stQ tbOk 2 [0, 1, 2, 3, 14, 15, 106] (L' := [(0, .slice ao1 p_l.length cp1), (1, .int .u64 size), (2, .int .u64 addr), (3, .int .u64 n), (14, .int .i64 s4), (15, .int .i64 s7), (106, .bool (decide ((IntKind.u64.wrap (((gt p_l s7).2.2.2.1) + ((gt p_l s7).2.2.2.2.2.1))) > ((gt p_l s4).2.2.2.1))))]) hf (by kernel_rfl) ?_
                            clear hf; clear a; intro a hf
                            refine wpQuiet_nil ?_
                            intro w9 hx
                            replace hs : Sep w F R w9 F11 [.ro ty24 (.slice ao1 p_l.length cp1) p_l] := hs.ext hx
                            clear hx
                            exact hK8 (decide ((IntKind.u64.wrap (((gt p_l s7).2.2.2.1) + ((gt p_l s7).2.2.2.2.2.1))) > ((gt p_l s4).2.2.2.1))) _ _ ⟨_, hs.sel [0] rfl rfl, hf.keep (ks := [0, 1, 2, 3, 14, 15, 106]) (by kernel_rfl)⟩ hS
                          · replace hS := of_f hb12 hS
                            replace hf := Fr.cast (L' := [(0, .slice ao1 p_l.length cp1), (1, .int .u64 size), (2, .int .u64 addr), (3, .int .u64 n), (14, .int .i64 s4), (15, .int .i64 s7), (88, .bool false)]) hf (by rw [hb12])
                            refine stQ tbOk 18 [0, 1, 2, 3, 14, 15, 106] (L' := [(0, .slice ao1 p_l.length cp1), (1, .int .u64 size), (2, .int .u64 addr), (3, .int .u64 n), (14, .int .i64 s4), (15, .int .i64 s7), (106, .bool false)]) hf (by kernel_rfl) ?_
                            clear hf; clear a; intro a hf
                            refine wpQuiet_nil ?_
                            intro w10 hx
                            replace hs : Sep w F R w10 F11 [.ro ty24 (.slice ao1 p_l.length cp1) p_l] := hs.ext hx
                            clear hx
                            exact hK8 false _ _ ⟨_, hs.sel [0] rfl rfl, hf.keep (ks := [0, 1, 2, 3, 14, 15, 106]) (by kernel_rfl)⟩ hS
                        · replace hS := of_f hb11 hS
                          replace hf := Fr.cast (L' := [(0, .slice ao1 p_l.length cp1), (1, .int .u64 size), (2, .int .u64 addr), (3, .int .u64 n), (14, .int .i64 s4), (15, .int .i64 s7), (80, .bool false)]) hf (by rw [hb11])
                          refine stQ tbOk 26 [0, 1, 2, 3, 14, 15, 106] (L' := [(0, .slice ao1 p_l.length cp1), (1, .int .u64 size), (2, .int .u64 addr), (3, .int .u64 n), (14, .int .i64 s4), (15, .int .i64 s7), (106, .bool false)]) hf (by kernel_rfl) ?_
                          clear hf; clear a; intro a hf
                          refine wpQuiet_nil ?_
                          intro w11 hx
                          replace hs : Sep w F R w11 F11 [.ro ty24 (.slice ao1 p_l.length cp1) p_l] := hs.ext hx
                          clear hx
                          exact hK8 false _ _ ⟨_, hs.sel [0] rfl rfl, hf.keep (ks := [0, 1, 2, 3, 14, 15, 106]) (by kernel_rfl)⟩ hS
                    · replace hS := of_f hb10 hS
                      refine wp_exit ?_
                      exact hK6 () _ _ ⟨_, hs.sel [0] rfl rfl, hf.keep (ks := [0, 1, 2, 3, 14]) (by kernel_rfl)⟩ hS
              · replace hS := of_f hb9 hS
                refine wp_exit ?_
                exact hK3 () _ _ ⟨_, hs.sel [0] rfl rfl, hf.keep (ks := [0, 1, 2, 3]) (by kernel_rfl)⟩ hS
        · clear hS; intro KK2 k2 hK2 hS
          refine reg ?_
          refine st tbOk 4 [0, 1, 2, 3, 10, 11, 13, 43] (L' := [(0, .slice ao1 p_l.length cp1), (1, .int .u64 size), (2, .int .u64 addr), (3, .int .u64 n), (10, .int .u64 z3.1), (11, .int .u64 z3.2), (13, .int .u64 z4.2), (43, .bool (z3.1 != z4.1))]) hf (by kernel_rfl) ?_
          clear hf; clear a; intro a hf
          rcases Bool.eq_false_or_eq_true (z3.1 != z4.1) with hb4 | hb4
          · replace hS := of_t hb4 hS
            replace hf := Fr.cast (L' := [(0, .slice ao1 p_l.length cp1), (1, .int .u64 size), (2, .int .u64 addr), (3, .int .u64 n), (10, .int .u64 z3.1), (11, .int .u64 z3.2), (13, .int .u64 z4.2), (43, .bool true)]) hf (by rw [hb4])
            refine st tbOk 19 [0, 1, 2, 3, 62] (L' := [(0, .slice ao1 p_l.length cp1), (1, .int .u64 size), (2, .int .u64 addr), (3, .int .u64 n), (62, .bool true)]) hf (by kernel_rfl) ?_
            clear hf; clear a; intro a hf
            refine wpList_nil ?_
            exact hK2 true _ _ ⟨_, hs.sel [0] rfl rfl, hf.keep (ks := [0, 1, 2, 3, 62]) (by kernel_rfl)⟩ hS
          · replace hS := of_f hb4 hS
            replace hf := Fr.cast (L' := [(0, .slice ao1 p_l.length cp1), (1, .int .u64 size), (2, .int .u64 addr), (3, .int .u64 n), (10, .int .u64 z3.1), (11, .int .u64 z3.2), (13, .int .u64 z4.2), (43, .bool false)]) hf (by rw [hb4])
            refine st tbOk 5 [0, 1, 2, 3, 10, 11, 48] (L' := [(0, .slice ao1 p_l.length cp1), (1, .int .u64 size), (2, .int .u64 addr), (3, .int .u64 n), (10, .int .u64 z3.1), (11, .int .u64 z3.2), (48, .bool (z3.2 != z4.2))]) hf (by kernel_rfl) ?_
            clear hf; clear a; intro a hf
            rcases Bool.eq_false_or_eq_true (z3.2 != z4.2) with hb5 | hb5
            · replace hS := of_t hb5 hS
              replace hf := Fr.cast (L' := [(0, .slice ao1 p_l.length cp1), (1, .int .u64 size), (2, .int .u64 addr), (3, .int .u64 n), (10, .int .u64 z3.1), (11, .int .u64 z3.2), (48, .bool true)]) hf (by rw [hb5])
              refine st tbOk 14 [0, 1, 2, 3, 62] (L' := [(0, .slice ao1 p_l.length cp1), (1, .int .u64 size), (2, .int .u64 addr), (3, .int .u64 n), (62, .bool true)]) hf (by kernel_rfl) ?_
              clear hf; clear a; intro a hf
              refine wpList_nil ?_
              exact hK2 true _ _ ⟨_, hs.sel [0] rfl rfl, hf.keep (ks := [0, 1, 2, 3, 62]) (by kernel_rfl)⟩ hS
            · replace hS := of_f hb5 hS
              replace hf := Fr.cast (L' := [(0, .slice ao1 p_l.length cp1), (1, .int .u64 size), (2, .int .u64 addr), (3, .int .u64 n), (10, .int .u64 z3.1), (11, .int .u64 z3.2), (48, .bool false)]) hf (by rw [hb5])
              refine st tbOk 5 [0, 1, 2, 3, 10, 11, 53] (L' := [(0, .slice ao1 p_l.length cp1), (1, .int .u64 size), (2, .int .u64 addr), (3, .int .u64 n), (10, .int .u64 z3.1), (11, .int .u64 z3.2), (53, .bool ((Int.tmod z3.1 256) != 0))]) hf (by kernel_rfl) ?_
              clear hf; clear a; intro a hf
              rcases Bool.eq_false_or_eq_true ((Int.tmod z3.1 256) != 0) with hb6 | hb6
              · replace hS := of_t hb6 hS
                replace hf := Fr.cast (L' := [(0, .slice ao1 p_l.length cp1), (1, .int .u64 size), (2, .int .u64 addr), (3, .int .u64 n), (10, .int .u64 z3.1), (11, .int .u64 z3.2), (53, .bool true)]) hf (by rw [hb6])
                refine st tbOk 9 [0, 1, 2, 3, 62] (L' := [(0, .slice ao1 p_l.length cp1), (1, .int .u64 size), (2, .int .u64 addr), (3, .int .u64 n), (62, .bool true)]) hf (by kernel_rfl) ?_
                clear hf; clear a; intro a hf
                refine wpList_nil ?_
                exact hK2 true _ _ ⟨_, hs.sel [0] rfl rfl, hf.keep (ks := [0, 1, 2, 3, 62]) (by kernel_rfl)⟩ hS
              · replace hS := of_f hb6 hS
                replace hf := Fr.cast (L' := [(0, .slice ao1 p_l.length cp1), (1, .int .u64 size), (2, .int .u64 addr), (3, .int .u64 n), (10, .int .u64 z3.1), (11, .int .u64 z3.2), (53, .bool false)]) hf (by rw [hb6])
                refine st tbOk 5 [0, 1, 2, 3, 10, 11, 58] (L' := [(0, .slice ao1 p_l.length cp1), (1, .int .u64 size), (2, .int .u64 addr), (3, .int .u64 n), (10, .int .u64 z3.1), (11, .int .u64 z3.2), (58, .bool ((Int.tmod z3.2 256) != 0))]) hf (by kernel_rfl) ?_
                clear hf; clear a; intro a hf
                rcases Bool.eq_false_or_eq_true ((Int.tmod z3.2 256) != 0) with hb7 | hb7
                · replace hS := of_t hb7 hS
                  replace hf := Fr.cast (L' := [(0, .slice ao1 p_l.length cp1), (1, .int .u64 size), (2, .int .u64 addr), (3, .int .u64 n), (10, .int .u64 z3.1), (11, .int .u64 z3.2), (58, .bool true)]) hf (by rw [hb7])
                  refine st tbOk 4 [0, 1, 2, 3, 62] (L' := [(0, .slice ao1 p_l.length cp1), (1, .int .u64 size), (2, .int .u64 addr), (3, .int .u64 n), (62, .bool true)]) hf (by kernel_rfl) ?_
                  clear hf; clear a; intro a hf
                  refine wpList_nil ?_
                  exact hK2 true _ _ ⟨_, hs.sel [0] rfl rfl, hf.keep (ks := [0, 1, 2, 3, 62]) (by kernel_rfl)⟩ hS
                · replace hS := of_f hb7 hS
                  replace hf := Fr.cast (L' := [(0, .slice ao1 p_l.length cp1), (1, .int .u64 size), (2, .int .u64 addr), (3, .int .u64 n), (10, .int .u64 z3.1), (11, .int .u64 z3.2), (58, .bool false)]) hf (by rw [hb7])
                  refine st tbOk 4 [0, 1, 2, 3, 62] (L' := [(0, .slice ao1 p_l.length cp1), (1, .int .u64 size), (2, .int .u64 addr), (3, .int .u64 n), (62, .bool (decide (z3.1 > z3.2)))]) hf (by kernel_rfl) ?_
                  clear hf; clear a; intro a hf
                  refine wpList_nil ?_
                  exact hK2 (decide (z3.1 > z3.2)) _ _ ⟨_, hs.sel [0] rfl rfl, hf.keep (ks := [0, 1, 2, 3, 62]) (by kernel_rfl)⟩ hS
    · clear hS; intro KK1 k1 hK1 hS
      refine reg ?_
      refine st tbOk 4 [0, 1, 2, 3, 24] (L' := [(0, .slice ao1 p_l.length cp1), (1, .int .u64 size), (2, .int .u64 addr), (3, .int .u64 n), (24, .bool (decide (((p_l.length : Nat) : Int) > 64)))]) hf (by kernel_rfl) ?_
      clear hf; clear a; intro a hf
      rcases Bool.eq_false_or_eq_true (decide (((p_l.length : Nat) : Int) > 64)) with hb2 | hb2
      · replace hS := of_t hb2 hS
        replace hf := Fr.cast (L' := [(0, .slice ao1 p_l.length cp1), (1, .int .u64 size), (2, .int .u64 addr), (3, .int .u64 n), (24, .bool true)]) hf (by rw [hb2])
        refine st tbOk 5 [0, 1, 2, 3, 29] (L' := [(0, .slice ao1 p_l.length cp1), (1, .int .u64 size), (2, .int .u64 addr), (3, .int .u64 n), (29, .bool true)]) hf (by kernel_rfl) ?_
        clear hf; clear a; intro a hf
        refine wpList_nil ?_
        exact hK1 true _ _ ⟨_, hs.sel [0] rfl rfl, hf.keep (ks := [0, 1, 2, 3, 29]) (by kernel_rfl)⟩ hS
      · replace hS := of_f hb2 hS
        replace hf := Fr.cast (L' := [(0, .slice ao1 p_l.length cp1), (1, .int .u64 size), (2, .int .u64 addr), (3, .int .u64 n), (24, .bool false)]) hf (by rw [hb2])
        refine st tbOk 2 [0, 1, 2, 3, 24, 25, 26] (L' := [(0, .slice ao1 p_l.length cp1), (1, .int .u64 size), (2, .int .u64 addr), (3, .int .u64 n), (24, .bool false), (25, .slice ao1 p_l.length cp1), (26, .int .u64 size)]) hf (by kernel_rfl) ?_
        clear hf; clear a; intro a hf
        have hT := of_bd hS; clear hS; obtain ⟨z2, hz2, hS⟩ := hT
        refine clV ent18 (vs := [.slice ao1 p_l.length cp1, .int .u64 size]) (caps := []) hf (by kernel_rfl) (by kernel_rfl) (by kernel_rfl) (by kernel_rfl) (segs_Check_ok (p_l := p_l) (size := size) (hs.enter [0] rfl rfl) hz2) ?_
        clear hf; clear a; intro v w2 a hT hf; obtain ⟨F3, rfl, hr⟩ := hT
        replace hs : Sep w F R w2 F3 [.ro ty24 (.slice ao1 p_l.length cp1) p_l] := hs.back [0] [0] rfl rfl rfl rfl hr
        clear hr
        replace hf := Fr.keep (ks := [0, 1, 2, 3, 24, 27]) (L' := [(0, .slice ao1 p_l.length cp1), (1, .int .u64 size), (2, .int .u64 addr), (3, .int .u64 n), (24, .bool false), (27, .int .i64 z2)]) hf (by kernel_rfl)
        refine st tbOk 2 [0, 1, 2, 3, 29] (L' := [(0, .slice ao1 p_l.length cp1), (1, .int .u64 size), (2, .int .u64 addr), (3, .int .u64 n), (29, .bool (z2 != 0))]) hf (by kernel_rfl) ?_
        clear hf; clear a; intro a hf
        refine wpList_nil ?_
        exact hK1 (z2 != 0) _ _ ⟨_, hs.sel [0] rfl rfl, hf.keep (ks := [0, 1, 2, 3, 29]) (by kernel_rfl)⟩ hS

end Dm
