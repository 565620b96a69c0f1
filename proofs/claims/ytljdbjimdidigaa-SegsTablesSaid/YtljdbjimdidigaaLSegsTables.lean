/-
  The walk of the law SegsTables; printed by a program of this repo. No condition.
-/
import Derived.Test.YtljdbjimdidigaaWT
import Derived.Test.YtljdbjimdidigaaW0
import Derived.Test.YtljdbjimdidigaaW1
namespace Dm
open Go Go.RowKit Go.Proofs

set_option maxHeartbeats 4000000 in
theorem law04_SegsTables_ok {w : World} {F : SH} {ahead : List Int} {p_l : List (Int × Int × Int × Int × Int × Int × Int)} {ao1 : Option Addr} {cp1 : Nat} {ao2 : Option Addr} {cp2 : Nat} (hs : Sep w F (blks [.ro (tI .u8) (.slice ao1 ahead.length cp1) ahead, .ro ty24 (.slice ao2 p_l.length cp2) p_l]) w F [.ro (tI .u8) (.slice ao1 ahead.length cp1) ahead, .ro ty24 (.slice ao2 p_l.length cp2) p_l]) {r : Bool} (hS : law04_SegsTables ahead p_l = some r) :
    Calls Try.prog 5 [.slice ao1 ahead.length cp1, .slice ao2 p_l.length cp2].toArray w (Gives (fun u w' => ∃ (F' : SH), u = .bool r ∧ Sep w F (blks [.ro (tI .u8) (.slice ao1 ahead.length cp1) ahead, .ro ty24 (.slice ao2 p_l.length cp2) p_l]) w' F' [])) := by
  generalize (blks [.ro (tI .u8) (.slice ao1 ahead.length cp1) ahead, .ro ty24 (.slice ao2 p_l.length cp2) p_l]) = R at hs ⊢
  unfold law04_SegsTables at hS
  refine fn_ok (vs := [.slice ao1 ahead.length cp1, .slice ao2 p_l.length cp2]) Try.func5 rfl 96 Try.ntmps5 (Nat.le_of_ble_eq_true rfl) ?_
  intro a hf
  replace hf := Fr.cast (L' := [(0, .slice ao1 ahead.length cp1), (1, .slice ao2 p_l.length cp2)]) hf (by kernel_rfl)
  refine sq ?_
  refine reg ?_
  refine st tbOk 1 [0, 1] (L' := [(0, .slice ao1 ahead.length cp1), (1, .slice ao2 p_l.length cp2)]) hf (by kernel_rfl) ?_
  clear hf; clear a; intro a hf
  refine wpList_nil ?_
  refine sq ?_
  refine reg ?_
  have hT := of_bd hS; clear hS; obtain ⟨z1, hz1, hS⟩ := hT
  refine clV ent11 (vs := []) (caps := []) hf (by kernel_rfl) (by kernel_rfl) (by kernel_rfl) (by kernel_rfl) (law04_awake_ok (hs.enter [] rfl rfl) hz1) ?_
  clear hf; clear a; intro v w1 a hT hf; obtain ⟨F1, rfl, hr⟩ := hT
  replace hs : Sep w F R w1 F1 [.ro (tI .u8) (.slice ao1 ahead.length cp1) ahead, .ro ty24 (.slice ao2 p_l.length cp2) p_l] := hs.back [] [0, 1] rfl rfl rfl rfl hr
  clear hr
  replace hf := Fr.keep (ks := [0, 1, 13]) (L' := [(0, .slice ao1 ahead.length cp1), (1, .slice ao2 p_l.length cp2), (13, .bool z1)]) hf (by kernel_rfl)
  refine st tbOk 1 [0, 1, 5] (L' := [(0, .slice ao1 ahead.length cp1), (1, .slice ao2 p_l.length cp2), (5, .bool z1)]) hf (by kernel_rfl) ?_
  clear hf; clear a; intro a hf
  refine wpList_nil ?_
  refine sq ?_
  refine sq ?_
  refine reg ?_
  refine st tbOk 2 [0, 1, 15] (L' := [(0, .slice ao1 ahead.length cp1), (1, .slice ao2 p_l.length cp2), (15, .bool (!z1))]) hf (by kernel_rfl) ?_
  clear hf; clear a; intro a hf
  refine wpList_nil ?_
  refine cnd (b := !z1) hf (by kernel_rfl) (fun hb1 => ?_) (fun hb1 => ?_)
  · replace hS := of_t hb1 hS
    refine sq ?_
    refine reg ?_
    refine st tbOk 1 [4] (L' := [(4, .bool false)]) hf (by kernel_rfl) ?_
    clear hf; clear a; intro a hf
    refine wpList_nil ?_
    have hr := Option.some.inj hS; subst hr
    refine wp_ret ?_
    exact ret_ok hf (vs := [.bool false]) (by kernel_rfl) ⟨_, rfl, hs.sel [] rfl rfl⟩
  · replace hS := of_f hb1 hS
    refine wp_skip ?_
    refine sq ?_
    refine sq ?_
    refine ctj (fun (s1 : Bool) (a : Act) (w' : World) => ∃ (F2 : SH), Sep w F R w' F2 [.ro (tI .u8) (.slice ao1 ahead.length cp1) ahead, .ro ty24 (.slice ao2 p_l.length cp2) p_l] ∧ Fr 96 [(0, .slice ao1 ahead.length cp1), (1, .slice ao2 p_l.length cp2), (23, .bool s1)] a) hS ?_ ?_
    · clear hS hf hs; clear a; intro s1 a w2 hM hS
      obtain ⟨F2, hs, hf⟩ := hM
      refine cnd (b := s1) hf (by kernel_rfl) (fun hb3 => ?_) (fun hb3 => ?_)
      · replace hS := of_t hb3 hS
        refine sq ?_
        refine reg ?_
        refine st tbOk 1 [4] (L' := [(4, .bool true)]) hf (by kernel_rfl) ?_
        clear hf; clear a; intro a hf
        refine wpList_nil ?_
        have hr := Option.some.inj hS; subst hr
        refine wp_ret ?_
        exact ret_ok hf (vs := [.bool true]) (by kernel_rfl) ⟨_, rfl, hs.sel [] rfl rfl⟩
      · replace hS := of_f hb3 hS
        refine wp_skip ?_
        refine sq ?_
        refine reg ?_
        refine st tbOk 1 [0, 1, 6] (L' := [(0, .slice ao1 ahead.length cp1), (1, .slice ao2 p_l.length cp2), (6, .slice none 0 0)]) hf (by kernel_rfl) ?_
        clear hf; clear a; intro a hf
        refine wpList_nil ?_
        refine sq ?_
        refine reg ?_
        refine st tbOk 2 [0, 1, 24, 25] (L' := [(0, .slice ao1 ahead.length cp1), (1, .slice ao2 p_l.length cp2), (24, .slice none 0 0), (25, .slice ao1 ahead.length cp1)]) hf (by kernel_rfl) ?_
        clear hf; clear a; intro a hf
        have hT := of_gd hS; clear hS; obtain ⟨hc1, hS⟩ := hT
        replace hs : Sep w F R w2 F2 [.row 5 (tI .u8) (.slice none 0 0) ([] : List Int), .ro (tI .u8) (.slice ao1 ahead.length cp1) ahead, .ro ty24 (.slice ao2 p_l.length cp2) p_l] := hs.addNil 5 (tI .u8)
        refine apR tbOk u27 i5 rfl rfl rfl rfl hs.le (hs.own 0 rfl) (hs.raR 1 rfl) hc1 hf (by kernel_rfl) (by kernel_rfl) (by kernel_rfl) (by kernel_rfl) ?_
        clear hf; clear a; intro ao3 cp3 w3 a ho hg hl hf
        replace hs : Sep w F R w3 F2 [.row 5 (tI .u8) (.slice ao3 (([] : List Int) ++ ahead).length cp3) (([] : List Int) ++ ahead), .ro (tI .u8) (.slice ao1 ahead.length cp1) ahead, .ro ty24 (.slice ao2 p_l.length cp2) p_l] := hs.updRow 0 rfl ho hg hl
        clear ho hg hl
        replace hf := Fr.keep (ks := [0, 1, 26]) (L' := [(0, .slice ao1 ahead.length cp1), (1, .slice ao2 p_l.length cp2), (26, .slice ao3 (([] : List Int) ++ ahead).length cp3)]) hf (by kernel_rfl)
        refine st tbOk 1 [0, 1, 6] (L' := [(0, .slice ao1 ahead.length cp1), (1, .slice ao2 p_l.length cp2), (6, .slice ao3 (([] : List Int) ++ ahead).length cp3)]) hf (by kernel_rfl) ?_
        clear hf; clear a; intro a hf
        refine wpList_nil ?_
        refine sq ?_
        refine sq ?_
        refine reg ?_
        refine st tbOk 1 [0, 1, 6, 7] (L' := [(0, .slice ao1 ahead.length cp1), (1, .slice ao2 p_l.length cp2), (6, .slice ao3 (([] : List Int) ++ ahead).length cp3), (7, .int .i64 0)]) hf (by kernel_rfl) ?_
        clear hf; clear a; intro a hf
        refine wpList_nil ?_
        refine ctj (fun (s2 : List Int) (a : Act) (w' : World) => ∃ (ao4 : Option Addr) (cp4 : Nat) (F3 : SH), Sep w F R w' F3 [.row 5 (tI .u8) (.slice ao4 s2.length cp4) s2, .ro (tI .u8) (.slice ao1 ahead.length cp1) ahead, .ro ty24 (.slice ao2 p_l.length cp2) p_l] ∧ Fr 96 [(0, .slice ao1 ahead.length cp1), (1, .slice ao2 p_l.length cp2), (6, .slice ao4 s2.length cp4)] a) hS ?_ ?_
        · clear hS hf hs; clear a; intro s2 a w7 hM hS
          obtain ⟨ao4, cp4, F3, hs, hf⟩ := hM
          refine sq ?_
          refine reg ?_
          refine st tbOk 6 [0, 1, 6, 41, 44, 46] (L' := [(0, .slice ao1 ahead.length cp1), (1, .slice ao2 p_l.length cp2), (6, .slice ao4 s2.length cp4), (41, .slice ao4 s2.length cp4), (44, .int .u64 (IntKind.u64.wrap ((ahead.length : Nat) : Int))), (46, .int .i64 ((p_l.length : Nat) : Int))]) hf (by kernel_rfl) ?_
          clear hf; clear a; intro a hf
          have hT := of_bd hS; clear hS; obtain ⟨z3, hz3, hS⟩ := hT
          refine clV ent16 (vs := [.slice ao4 s2.length cp4, .int .u64 (IntKind.u64.wrap ((ahead.length : Nat) : Int)), .int .i64 ((p_l.length : Nat) : Int)]) (caps := []) hf (by kernel_rfl) (by kernel_rfl) (by kernel_rfl) (by kernel_rfl) (segs_Table_ok (b := s2) (p_at := IntKind.u64.wrap ((ahead.length : Nat) : Int)) (n := ((p_l.length : Nat) : Int)) (hs.lend [0] [] rfl rfl rfl rfl rfl) hz3) ?_
          clear hf; clear a; intro v w8 a hT hf; obtain ⟨ao8, cp8, F6, rfl, hr⟩ := hT
          replace hs : Sep w F R w8 F3 [.row 25 ty24 (.slice ao8 z3.1.length cp8) z3.1, .row 5 (tI .u8) (.slice ao4 s2.length cp4) s2, .ro (tI .u8) (.slice ao1 ahead.length cp1) ahead, .ro ty24 (.slice ao2 p_l.length cp2) p_l] := hs.backL [0] [] [0, 1, 2] rfl rfl rfl rfl rfl rfl hr ⟨flat24, trivial⟩
          clear hr
          replace hf := Fr.keep (ks := [0, 1, 6, 47]) (L' := [(0, .slice ao1 ahead.length cp1), (1, .slice ao2 p_l.length cp2), (6, .slice ao4 s2.length cp4), (47, .tuple #[.slice ao8 z3.1.length cp8, .int .i64 z3.2])]) hf (by kernel_rfl)
          refine st tbOk 5 [0, 1, 6, 8, 9] (L' := [(0, .slice ao1 ahead.length cp1), (1, .slice ao2 p_l.length cp2), (6, .slice ao4 s2.length cp4), (8, .slice ao8 z3.1.length cp8), (9, .int .i64 z3.2)]) hf (by kernel_rfl) ?_
          clear hf; clear a; intro a hf
          refine wpList_nil ?_
          refine sq ?_
          refine sq ?_
          refine ctj (fun (s4 : Bool) (a : Act) (w' : World) => ∃ (F7 : SH), Sep w F R w' F7 [.row 25 ty24 (.slice ao8 z3.1.length cp8) z3.1, .row 5 (tI .u8) (.slice ao4 s2.length cp4) s2, .ro (tI .u8) (.slice ao1 ahead.length cp1) ahead, .ro ty24 (.slice ao2 p_l.length cp2) p_l] ∧ Fr 96 [(0, .slice ao1 ahead.length cp1), (1, .slice ao2 p_l.length cp2), (6, .slice ao4 s2.length cp4), (8, .slice ao8 z3.1.length cp8), (58, .bool s4)] a) hS ?_ ?_
          · clear hS hf hs; clear a; intro s4 a w9 hM hS
            obtain ⟨F7, hs, hf⟩ := hM
            refine cnd (b := s4) hf (by kernel_rfl) (fun hb6 => ?_) (fun hb6 => ?_)
            · replace hS := of_t hb6 hS
              refine sq ?_
              refine reg ?_
              refine st tbOk 1 [4] (L' := [(4, .bool false)]) hf (by kernel_rfl) ?_
              clear hf; clear a; intro a hf
              refine wpList_nil ?_
              have hr := Option.some.inj hS; subst hr
              refine wp_ret ?_
              exact ret_ok hf (vs := [.bool false]) (by kernel_rfl) ⟨_, rfl, hs.sel [] rfl rfl⟩
            · replace hS := of_f hb6 hS
              refine wp_skip ?_
              refine sq ?_
              refine sq ?_
              refine reg ?_
              refine st tbOk 1 [0, 1, 6, 8, 10] (L' := [(0, .slice ao1 ahead.length cp1), (1, .slice ao2 p_l.length cp2), (6, .slice ao4 s2.length cp4), (8, .slice ao8 z3.1.length cp8), (10, .int .i64 0)]) hf (by kernel_rfl) ?_
              clear hf; clear a; intro a hf
              refine wpList_nil ?_
              refine ctj (fun (s5 : Unit) (a : Act) (w' : World) => ∃ (F8 : SH), Sep w F R w' F8 [.row 5 (tI .u8) (.slice ao4 s2.length cp4) s2, .ro (tI .u8) (.slice ao1 ahead.length cp1) ahead, .ro ty24 (.slice ao2 p_l.length cp2) p_l] ∧ Fr 96 [(0, .slice ao1 ahead.length cp1), (1, .slice ao2 p_l.length cp2), (6, .slice ao4 s2.length cp4)] a) hS ?_ ?_
              · clear hS hf hs; clear a; intro s5 a w12 hM hS
                obtain ⟨F8, hs, hf⟩ := hM
                refine sq ?_
                refine reg ?_
                refine st tbOk 7 [1, 75, 78, 81] (L' := [(1, .slice ao2 p_l.length cp2), (75, .slice ao4 s2.length cp4), (78, .int .u64 (IntKind.u64.wrap ((ahead.length : Nat) : Int))), (81, .int .i64 (IntKind.i64.wrap (((p_l.length : Nat) : Int) + 1)))]) hf (by kernel_rfl) ?_
                clear hf; clear a; intro a hf
                have hT := of_bd hS; clear hS; obtain ⟨z4, hz4, hS⟩ := hT
                refine clV ent16 (vs := [.slice ao4 s2.length cp4, .int .u64 (IntKind.u64.wrap ((ahead.length : Nat) : Int)), .int .i64 (IntKind.i64.wrap (((p_l.length : Nat) : Int) + 1))]) (caps := []) hf (by kernel_rfl) (by kernel_rfl) (by kernel_rfl) (by kernel_rfl) (segs_Table_ok (b := s2) (p_at := IntKind.u64.wrap ((ahead.length : Nat) : Int)) (n := IntKind.i64.wrap (((p_l.length : Nat) : Int) + 1)) (hs.lend [0] [] rfl rfl rfl rfl rfl) hz4) ?_
                clear hf; clear a; intro v w13 a hT hf; obtain ⟨ao9, cp9, F10, rfl, hr⟩ := hT
                replace hs : Sep w F R w13 F8 [.row 25 ty24 (.slice ao9 z4.1.length cp9) z4.1, .row 5 (tI .u8) (.slice ao4 s2.length cp4) s2, .ro (tI .u8) (.slice ao1 ahead.length cp1) ahead, .ro ty24 (.slice ao2 p_l.length cp2) p_l] := hs.backL [0] [] [0, 1, 2] rfl rfl rfl rfl rfl rfl hr ⟨flat24, trivial⟩
                clear hr
                replace hs : Sep w F R w13 F8 [.row 25 ty24 (.slice ao9 z4.1.length cp9) z4.1, .ro ty24 (.slice ao2 p_l.length cp2) p_l] := hs.sel [0, 3] rfl rfl
                replace hf := Fr.keep (ks := [1, 82]) (L' := [(1, .slice ao2 p_l.length cp2), (82, .tuple #[.slice ao9 z4.1.length cp9, .int .i64 z4.2])]) hf (by kernel_rfl)
                refine st tbOk 5 [1, 12] (L' := [(1, .slice ao2 p_l.length cp2), (12, .int .i64 z4.2)]) hf (by kernel_rfl) ?_
                clear hf; clear a; intro a hf
                refine wpList_nil ?_
                refine sq ?_
                refine ctj (fun (s7 : Bool) (a : Act) (w' : World) => ∃ (F11 : SH), Sep w F R w' F11 [] ∧ Fr 96 [(4, .bool s7)] a) hS ?_ ?_
                · clear hS hf hs; clear a; intro s7 a w14 hM hS
                  obtain ⟨F11, hs, hf⟩ := hM
                  have hr := Option.some.inj hS; subst hr
                  refine wp_ret ?_
                  exact ret_ok hf (vs := [.bool s7]) (by kernel_rfl) ⟨_, rfl, hs.sel [] rfl rfl⟩
                · clear hS; intro KK7 k5 hK7 hS
                  refine reg ?_
                  refine st tbOk 3 [1, 12, 87] (L' := [(1, .slice ao2 p_l.length cp2), (12, .int .i64 z4.2), (87, .bool (z4.2 == 10))]) hf (by kernel_rfl) ?_
                  clear hf; clear a; intro a hf
                  rcases Bool.eq_false_or_eq_true (z4.2 == 10) with hb9 | hb9
                  · replace hS := of_t hb9 hS
                    replace hf := Fr.cast (L' := [(1, .slice ao2 p_l.length cp2), (12, .int .i64 z4.2), (87, .bool true)]) hf (by rw [hb9])
                    refine st tbOk 9 [4] (L' := [(4, .bool true)]) hf (by kernel_rfl) ?_
                    clear hf; clear a; intro a hf
                    refine wpList_nil ?_
                    exact hK7 true _ _ ⟨_, hs.sel [] rfl rfl, hf.keep (ks := [4]) (by kernel_rfl)⟩ hS
                  · replace hS := of_f hb9 hS
                    replace hf := Fr.cast (L' := [(1, .slice ao2 p_l.length cp2), (12, .int .i64 z4.2), (87, .bool false)]) hf (by rw [hb9])
                    refine st tbOk 4 [12, 87, 91] (L' := [(12, .int .i64 z4.2), (87, .bool false), (91, .bool (((p_l.length : Nat) : Int) == 64))]) hf (by kernel_rfl) ?_
                    clear hf; clear a; intro a hf
                    rcases Bool.eq_false_or_eq_true (((p_l.length : Nat) : Int) == 64) with hb10 | hb10
                    · replace hS := of_t hb10 hS
                      replace hf := Fr.cast (L' := [(12, .int .i64 z4.2), (87, .bool false), (91, .bool true)]) hf (by rw [hb10])
                      refine st tbOk 5 [4] (L' := [(4, .bool (z4.2 == 1))]) hf (by kernel_rfl) ?_
                      clear hf; clear a; intro a hf
                      refine wpList_nil ?_
                      exact hK7 (z4.2 == 1) _ _ ⟨_, hs.sel [] rfl rfl, hf.keep (ks := [4]) (by kernel_rfl)⟩ hS
                    · replace hS := of_f hb10 hS
                      replace hf := Fr.cast (L' := [(12, .int .i64 z4.2), (87, .bool false), (91, .bool false)]) hf (by rw [hb10])
                      refine st tbOk 5 [4] (L' := [(4, .bool false)]) hf (by kernel_rfl) ?_
                      clear hf; clear a; intro a hf
                      refine wpList_nil ?_
                      exact hK7 false _ _ ⟨_, hs.sel [] rfl rfl, hf.keep (ks := [4]) (by kernel_rfl)⟩ hS
              · clear hS; intro KK5 k4 hK5 hS
                refine blk ?_
                refine lp (st := 0) (fun (s6 : Int) (a : Act) (w' : World) => ∃ (F9 : SH), Sep w F R w' F9 [.row 25 ty24 (.slice ao8 z3.1.length cp8) z3.1, .row 5 (tI .u8) (.slice ao4 s2.length cp4) s2, .ro (tI .u8) (.slice ao1 ahead.length cp1) ahead, .ro ty24 (.slice ao2 p_l.length cp2) p_l] ∧ Fr 96 [(0, .slice ao1 ahead.length cp1), (1, .slice ao2 p_l.length cp2), (6, .slice ao4 s2.length cp4), (8, .slice ao8 z3.1.length cp8), (10, .int .i64 s6)] a) ?_ ⟨_, hs.sel [0, 1, 2, 3] rfl rfl, hf.keep (ks := [0, 1, 6, 8, 10]) (by kernel_rfl)⟩ hS
                clear hS hf hs; clear a
                intro rec2 KK6 hK6 s6 a w10 hM hS
                obtain ⟨F9, hs, hf⟩ := hM
                refine sq ?_
                refine sq ?_
                refine reg ?_
                refine st tbOk 4 [0, 1, 6, 8, 10, 62] (L' := [(0, .slice ao1 ahead.length cp1), (1, .slice ao2 p_l.length cp2), (6, .slice ao4 s2.length cp4), (8, .slice ao8 z3.1.length cp8), (10, .int .i64 s6), (62, .bool (decide (s6 < ((p_l.length : Nat) : Int))))]) hf (by kernel_rfl) ?_
                clear hf; clear a; intro a hf
                refine wpList_nil ?_
                refine cnd (b := decide (s6 < ((p_l.length : Nat) : Int))) hf (by kernel_rfl) (fun hb7 => ?_) (fun hb7 => ?_)
                · replace hS := of_t hb7 hS
                  refine wp_skip ?_
                  refine sq ?_
                  refine blk ?_
                  refine sq ?_
                  refine regQ mixed (by kernel_rfl) ?_
                  refine stQ tbOk 2 [0, 1, 6, 8, 10, 65, 66] (L' := [(0, .slice ao1 ahead.length cp1), (1, .slice ao2 p_l.length cp2), (6, .slice ao4 s2.length cp4), (8, .slice ao8 z3.1.length cp8), (10, .int .i64 s6), (65, .slice ao8 z3.1.length cp8), (66, .int .i64 s6)]) hf (by kernel_rfl) ?_
                  clear hf; clear a; intro a hf
                  have hT := of_gd hS; clear hS; obtain ⟨hc4, hS⟩ := hT
                  refine ixRQ tbOk u33 i25 rfl rfl (hs.raW 0 rfl) (k := .i64) (n := s6) hc4 hf (by kernel_rfl) (by kernel_rfl) (by kernel_rfl) (by kernel_rfl) ?_
                  clear hf; clear a; intro pb2 po2 c2 a hp2 hr2 hf
                  obtain rfl : c2 = [.int .u32 ((gt z3.1 s6).1), .int .u32 ((gt z3.1 s6).2.1), .int .u64 ((gt z3.1 s6).2.2.1), .int .u64 ((gt z3.1 s6).2.2.2.1), .int .u64 ((gt z3.1 s6).2.2.2.2.1), .int .u64 ((gt z3.1 s6).2.2.2.2.2.1), .int .u64 ((gt z3.1 s6).2.2.2.2.2.2)] := hr2
                  replace hf := Fr.keep (ks := [0, 1, 6, 8, 10, 67]) (L' := [(0, .slice ao1 ahead.length cp1), (1, .slice ao2 p_l.length cp2), (6, .slice ao4 s2.length cp4), (8, .slice ao8 z3.1.length cp8), (10, .int .i64 s6), (67, .pointer (some ⟨pb2, po2, none⟩))]) hf (by kernel_rfl)
                  refine ldCQ tbOk (T := 25) hp2 (LeH.refl _) 0 (.agg #[.int .u32 ((gt z3.1 s6).1), .int .u32 ((gt z3.1 s6).2.1), .int .u64 ((gt z3.1 s6).2.2.1), .int .u64 ((gt z3.1 s6).2.2.2.1), .int .u64 ((gt z3.1 s6).2.2.2.2.1), .int .u64 ((gt z3.1 s6).2.2.2.2.2.1), .int .u64 ((gt z3.1 s6).2.2.2.2.2.2)]) hf (by kernel_rfl) (by kernel_rfl) (by kernel_rfl) (by kernel_rfl) ?_
                  clear hf; clear a; intro a hf
                  replace hf := Fr.keep (ks := [0, 1, 6, 8, 10, 68]) (L' := [(0, .slice ao1 ahead.length cp1), (1, .slice ao2 p_l.length cp2), (6, .slice ao4 s2.length cp4), (8, .slice ao8 z3.1.length cp8), (10, .int .i64 s6), (68, .agg #[.int .u32 ((gt z3.1 s6).1), .int .u32 ((gt z3.1 s6).2.1), .int .u64 ((gt z3.1 s6).2.2.1), .int .u64 ((gt z3.1 s6).2.2.2.1), .int .u64 ((gt z3.1 s6).2.2.2.2.1), .int .u64 ((gt z3.1 s6).2.2.2.2.2.1), .int .u64 ((gt z3.1 s6).2.2.2.2.2.2)])]) hf (by kernel_rfl)
                  refine stQ tbOk 2 [0, 1, 6, 8, 10, 68, 69, 70] (L' := [(0, .slice ao1 ahead.length cp1), (1, .slice ao2 p_l.length cp2), (6, .slice ao4 s2.length cp4), (8, .slice ao8 z3.1.length cp8), (10, .int .i64 s6), (68, .agg #[.int .u32 ((gt z3.1 s6).1), .int .u32 ((gt z3.1 s6).2.1), .int .u64 ((gt z3.1 s6).2.2.1), .int .u64 ((gt z3.1 s6).2.2.2.1), .int .u64 ((gt z3.1 s6).2.2.2.2.1), .int .u64 ((gt z3.1 s6).2.2.2.2.2.1), .int .u64 ((gt z3.1 s6).2.2.2.2.2.2)]), (69, .slice ao2 p_l.length cp2), (70, .int .i64 s6)]) hf (by kernel_rfl) ?_
                  clear hf; clear a; intro a hf
                  have hT := of_gd hS; clear hS; obtain ⟨hc5, hS⟩ := hT
                  refine ixRQ tbOk u33 i25 rfl rfl ((hs.ro 3 rfl).ra (LeH.refl _)) (k := .i64) (n := s6) hc5 hf (by kernel_rfl) (by kernel_rfl) (by kernel_rfl) (by kernel_rfl) ?_
                  clear hf; clear a; intro pb3 po3 c3 a hp3 hr3 hf
                  obtain rfl : c3 = [.int .u32 ((gt p_l s6).1), .int .u32 ((gt p_l s6).2.1), .int .u64 ((gt p_l s6).2.2.1), .int .u64 ((gt p_l s6).2.2.2.1), .int .u64 ((gt p_l s6).2.2.2.2.1), .int .u64 ((gt p_l s6).2.2.2.2.2.1), .int .u64 ((gt p_l s6).2.2.2.2.2.2)] := hr3
                  replace hs : Sep w F R w10 F9 [.cel pb3 po3 [.int .u32 ((gt p_l s6).1), .int .u32 ((gt p_l s6).2.1), .int .u64 ((gt p_l s6).2.2.1), .int .u64 ((gt p_l s6).2.2.2.1), .int .u64 ((gt p_l s6).2.2.2.2.1), .int .u64 ((gt p_l s6).2.2.2.2.2.1), .int .u64 ((gt p_l s6).2.2.2.2.2.2)], .row 25 ty24 (.slice ao8 z3.1.length cp8) z3.1, .row 5 (tI .u8) (.slice ao4 s2.length cp4) s2, .ro (tI .u8) (.slice ao1 ahead.length cp1) ahead, .ro ty24 (.slice ao2 p_l.length cp2) p_l] := hs.addCel hp3
                  replace hf := Fr.keep (ks := [0, 1, 6, 8, 10, 68, 71]) (L' := [(0, .slice ao1 ahead.length cp1), (1, .slice ao2 p_l.length cp2), (6, .slice ao4 s2.length cp4), (8, .slice ao8 z3.1.length cp8), (10, .int .i64 s6), (68, .agg #[.int .u32 ((gt z3.1 s6).1), .int .u32 ((gt z3.1 s6).2.1), .int .u64 ((gt z3.1 s6).2.2.1), .int .u64 ((gt z3.1 s6).2.2.2.1), .int .u64 ((gt z3.1 s6).2.2.2.2.1), .int .u64 ((gt z3.1 s6).2.2.2.2.2.1), .int .u64 ((gt z3.1 s6).2.2.2.2.2.2)]), (71, .pointer (some ⟨pb3, po3, none⟩))]) hf (by kernel_rfl)
                  refine ldCQ tbOk (T := 25) (hs.ccel 0 rfl) (LeH.refl _) 0 (.agg #[.int .u32 ((gt p_l s6).1), .int .u32 ((gt p_l s6).2.1), .int .u64 ((gt p_l s6).2.2.1), .int .u64 ((gt p_l s6).2.2.2.1), .int .u64 ((gt p_l s6).2.2.2.2.1), .int .u64 ((gt p_l s6).2.2.2.2.2.1), .int .u64 ((gt p_l s6).2.2.2.2.2.2)]) hf (by kernel_rfl) (by kernel_rfl) (by kernel_rfl) (by kernel_rfl) ?_
                  clear hf; clear a; intro a hf
                  replace hs : Sep w F R w10 F9 [.row 25 ty24 (.slice ao8 z3.1.length cp8) z3.1, .row 5 (tI .u8) (.slice ao4 s2.length cp4) s2, .ro (tI .u8) (.slice ao1 ahead.length cp1) ahead, .ro ty24 (.slice ao2 p_l.length cp2) p_l] := hs.sel [1, 2, 3, 4] rfl rfl
                  replace hf := Fr.keep (ks := [0, 1, 6, 8, 10, 68, 72]) (L' := [(0, .slice ao1 ahead.length cp1), (1, .slice ao2 p_l.length cp2), (6, .slice ao4 s2.length cp4), (8, .slice ao8 z3.1.length cp8), (10, .int .i64 s6), (68, .agg #[.int .u32 ((gt z3.1 s6).1), .int .u32 ((gt z3.1 s6).2.1), .int .u64 ((gt z3.1 s6).2.2.1), .int .u64 ((gt z3.1 s6).2.2.2.1), .int .u64 ((gt z3.1 s6).2.2.2.2.1), .int .u64 ((gt z3.1 s6).2.2.2.2.2.1), .int .u64 ((gt z3.1 s6).2.2.2.2.2.2)]), (72, .agg #[.int .u32 ((gt p_l s6).1), .int .u32 ((gt p_l s6).2.1), .int .u64 ((gt p_l s6).2.2.1), .int .u64 ((gt p_l s6).2.2.2.1), .int .u64 ((gt p_l s6).2.2.2.2.1), .int .u64 ((gt p_l s6).2.2.2.2.2.1), .int .u64 ((gt p_l s6).2.2.2.2.2.2)])]) hf (by kernel_rfl)
                  refine stQ tbOk 1 [0, 1, 6, 8, 10, 73] (L' := [(0, .slice ao1 ahead.length cp1), (1, .slice ao2 p_l.length cp2), (6, .slice ao4 s2.length cp4), (8, .slice ao8 z3.1.length cp8), (10, .int .i64 s6), (73, .bool (!((((gt z3.1 s6).1) == ((gt p_l s6).1)) && ((((gt z3.1 s6).2.1) == ((gt p_l s6).2.1)) && ((((gt z3.1 s6).2.2.1) == ((gt p_l s6).2.2.1)) && ((((gt z3.1 s6).2.2.2.1) == ((gt p_l s6).2.2.2.1)) && ((((gt z3.1 s6).2.2.2.2.1) == ((gt p_l s6).2.2.2.2.1)) && ((((gt z3.1 s6).2.2.2.2.2.1) == ((gt p_l s6).2.2.2.2.2.1)) && (((gt z3.1 s6).2.2.2.2.2.2) == ((gt p_l s6).2.2.2.2.2.2))))))))))]) hf (by kernel_rfl) ?_
                  clear hf; clear a; intro a hf
                  refine wpQuiet_nil ?_
                  intro w11 hx
                  replace hs : Sep w F R w11 F9 [.row 25 ty24 (.slice ao8 z3.1.length cp8) z3.1, .row 5 (tI .u8) (.slice ao4 s2.length cp4) s2, .ro (tI .u8) (.slice ao1 ahead.length cp1) ahead, .ro ty24 (.slice ao2 p_l.length cp2) p_l] := hs.ext hx
                  clear hx
                  refine cnd (b := !((((gt z3.1 s6).1) == ((gt p_l s6).1)) && ((((gt z3.1 s6).2.1) == ((gt p_l s6).2.1)) && ((((gt z3.1 s6).2.2.1) == ((gt p_l s6).2.2.1)) && ((((gt z3.1 s6).2.2.2.1) == ((gt p_l s6).2.2.2.1)) && ((((gt z3.1 s6).2.2.2.2.1) == ((gt p_l s6).2.2.2.2.1)) && ((((gt z3.1 s6).2.2.2.2.2.1) == ((gt p_l s6).2.2.2.2.2.1)) && (((gt z3.1 s6).2.2.2.2.2.2) == ((gt p_l s6).2.2.2.2.2.2))))))))) hf (by kernel_rfl) (fun hb8 => ?_) (fun hb8 => ?_)
                  · replace hS := of_t hb8 hS
                    refine sq ?_
                    refine reg ?_
                    refine st tbOk 1 [4] (L' := [(4, .bool false)]) hf (by kernel_rfl) ?_
                    clear hf; clear a; intro a hf
                    refine wpList_nil ?_
                    have hr := Option.some.inj hS; subst hr
                    refine wp_ret ?_
                    exact ret_ok hf (vs := [.bool false]) (by kernel_rfl) ⟨_, rfl, hs.sel [] rfl rfl⟩
                  · replace hS := of_f hb8 hS
                    refine wp_skip ?_
                    refine reg ?_
                    have hT := of_let hS; clear hS; obtain ⟨i_2, hl2, hS⟩ := hT
                    refine st tbOk 3 [0, 1, 6, 8, 10] (L' := [(0, .slice ao1 ahead.length cp1), (1, .slice ao2 p_l.length cp2), (6, .slice ao4 s2.length cp4), (8, .slice ao8 z3.1.length cp8), (10, .int .i64 i_2)]) hf (by subst hl2; kernel_rfl) ?_
                    clear hf; clear a; intro a hf
                    refine wpList_nil ?_
                    exact hK6 i_2 _ _ ⟨_, hs.sel [0, 1, 2, 3] rfl rfl, hf.keep (ks := [0, 1, 6, 8, 10]) (by kernel_rfl)⟩ hS
                · replace hS := of_f hb7 hS
                  refine wp_exit ?_
                  exact hK5 () _ _ ⟨_, hs.sel [1, 2, 3] rfl rfl, hf.keep (ks := [0, 1, 6]) (by kernel_rfl)⟩ hS
          · clear hS; intro KK4 k3 hK4 hS
            refine reg ?_
            refine st tbOk 3 [0, 1, 6, 8, 52] (L' := [(0, .slice ao1 ahead.length cp1), (1, .slice ao2 p_l.length cp2), (6, .slice ao4 s2.length cp4), (8, .slice ao8 z3.1.length cp8), (52, .bool (z3.2 != 0))]) hf (by kernel_rfl) ?_
            clear hf; clear a; intro a hf
            rcases Bool.eq_false_or_eq_true (z3.2 != 0) with hb5 | hb5
            · replace hS := of_t hb5 hS
              replace hf := Fr.cast (L' := [(0, .slice ao1 ahead.length cp1), (1, .slice ao2 p_l.length cp2), (6, .slice ao4 s2.length cp4), (8, .slice ao8 z3.1.length cp8), (52, .bool true)]) hf (by rw [hb5])
              refine st tbOk 6 [0, 1, 6, 8, 58] (L' := [(0, .slice ao1 ahead.length cp1), (1, .slice ao2 p_l.length cp2), (6, .slice ao4 s2.length cp4), (8, .slice ao8 z3.1.length cp8), (58, .bool true)]) hf (by kernel_rfl) ?_
              clear hf; clear a; intro a hf
              refine wpList_nil ?_
              exact hK4 true _ _ ⟨_, hs.sel [0, 1, 2, 3] rfl rfl, hf.keep (ks := [0, 1, 6, 8, 58]) (by kernel_rfl)⟩ hS
            · replace hS := of_f hb5 hS
              replace hf := Fr.cast (L' := [(0, .slice ao1 ahead.length cp1), (1, .slice ao2 p_l.length cp2), (6, .slice ao4 s2.length cp4), (8, .slice ao8 z3.1.length cp8), (52, .bool false)]) hf (by rw [hb5])
              refine st tbOk 6 [0, 1, 6, 8, 58] (L' := [(0, .slice ao1 ahead.length cp1), (1, .slice ao2 p_l.length cp2), (6, .slice ao4 s2.length cp4), (8, .slice ao8 z3.1.length cp8), (58, .bool (((z3.1.length : Nat) : Int) != ((p_l.length : Nat) : Int)))]) hf (by kernel_rfl) ?_
              clear hf; clear a; intro a hf
              refine wpList_nil ?_
              exact hK4 (((z3.1.length : Nat) : Int) != ((p_l.length : Nat) : Int)) _ _ ⟨_, hs.sel [0, 1, 2, 3] rfl rfl, hf.keep (ks := [0, 1, 6, 8, 58]) (by kernel_rfl)⟩ hS
        · clear hS; intro KK2 k2 hK2 hS
          refine blk ?_
          refine lp (st := ((([] : List Int) ++ ahead), 0)) (fun (s3 : (List Int) × Int) (a : Act) (w' : World) => ∃ (ao5 : Option Addr) (cp5 : Nat) (F4 : SH), Sep w F R w' F4 [.row 5 (tI .u8) (.slice ao5 s3.1.length cp5) s3.1, .ro (tI .u8) (.slice ao1 ahead.length cp1) ahead, .ro ty24 (.slice ao2 p_l.length cp2) p_l] ∧ Fr 96 [(0, .slice ao1 ahead.length cp1), (1, .slice ao2 p_l.length cp2), (6, .slice ao5 s3.1.length cp5), (7, .int .i64 s3.2)] a) ?_ ⟨ao3, cp3, _, hs.sel [0, 1, 2] rfl rfl, hf.keep (ks := [0, 1, 6, 7]) (by kernel_rfl)⟩ hS
          clear hS hf hs; clear a
          intro rec1 KK3 hK3 s3 a w4 hM hS
          obtain ⟨ao5, cp5, F4, hs, hf⟩ := hM
          refine sq ?_
          refine sq ?_
          refine reg ?_
          refine st tbOk 4 [0, 1, 6, 7, 30] (L' := [(0, .slice ao1 ahead.length cp1), (1, .slice ao2 p_l.length cp2), (6, .slice ao5 s3.1.length cp5), (7, .int .i64 s3.2), (30, .bool (decide (s3.2 < ((p_l.length : Nat) : Int))))]) hf (by kernel_rfl) ?_
          clear hf; clear a; intro a hf
          refine wpList_nil ?_
          refine cnd (b := decide (s3.2 < ((p_l.length : Nat) : Int))) hf (by kernel_rfl) (fun hb4 => ?_) (fun hb4 => ?_)
          · replace hS := of_t hb4 hS
            refine wp_skip ?_
            refine sq ?_
            refine blk ?_
            refine reg ?_
            refine st tbOk 3 [0, 1, 7, 33, 34, 35] (L' := [(0, .slice ao1 ahead.length cp1), (1, .slice ao2 p_l.length cp2), (7, .int .i64 s3.2), (33, .slice ao5 s3.1.length cp5), (34, .slice ao2 p_l.length cp2), (35, .int .i64 s3.2)]) hf (by kernel_rfl) ?_
            clear hf; clear a; intro a hf
            have hT := of_gd hS; clear hS; obtain ⟨hc2, hS⟩ := hT
            refine ixR tbOk u33 i25 rfl rfl ((hs.ro 2 rfl).ra (LeH.refl _)) (k := .i64) (n := s3.2) hc2 hf (by kernel_rfl) (by kernel_rfl) (by kernel_rfl) (by kernel_rfl) ?_
            clear hf; clear a; intro pb1 po1 c1 a hp1 hr1 hf
            obtain rfl : c1 = [.int .u32 ((gt p_l s3.2).1), .int .u32 ((gt p_l s3.2).2.1), .int .u64 ((gt p_l s3.2).2.2.1), .int .u64 ((gt p_l s3.2).2.2.2.1), .int .u64 ((gt p_l s3.2).2.2.2.2.1), .int .u64 ((gt p_l s3.2).2.2.2.2.2.1), .int .u64 ((gt p_l s3.2).2.2.2.2.2.2)] := hr1
            replace hs : Sep w F R w4 F4 [.cel pb1 po1 [.int .u32 ((gt p_l s3.2).1), .int .u32 ((gt p_l s3.2).2.1), .int .u64 ((gt p_l s3.2).2.2.1), .int .u64 ((gt p_l s3.2).2.2.2.1), .int .u64 ((gt p_l s3.2).2.2.2.2.1), .int .u64 ((gt p_l s3.2).2.2.2.2.2.1), .int .u64 ((gt p_l s3.2).2.2.2.2.2.2)], .row 5 (tI .u8) (.slice ao5 s3.1.length cp5) s3.1, .ro (tI .u8) (.slice ao1 ahead.length cp1) ahead, .ro ty24 (.slice ao2 p_l.length cp2) p_l] := hs.addCel hp1
            replace hf := Fr.keep (ks := [0, 1, 7, 33, 36]) (L' := [(0, .slice ao1 ahead.length cp1), (1, .slice ao2 p_l.length cp2), (7, .int .i64 s3.2), (33, .slice ao5 s3.1.length cp5), (36, .pointer (some ⟨pb1, po1, none⟩))]) hf (by kernel_rfl)
            refine ldC tbOk (T := 25) (hs.ccel 0 rfl) (LeH.refl _) 0 (.agg #[.int .u32 ((gt p_l s3.2).1), .int .u32 ((gt p_l s3.2).2.1), .int .u64 ((gt p_l s3.2).2.2.1), .int .u64 ((gt p_l s3.2).2.2.2.1), .int .u64 ((gt p_l s3.2).2.2.2.2.1), .int .u64 ((gt p_l s3.2).2.2.2.2.2.1), .int .u64 ((gt p_l s3.2).2.2.2.2.2.2)]) hf (by kernel_rfl) (by kernel_rfl) (by kernel_rfl) (by kernel_rfl) ?_
            clear hf; clear a; intro a hf
            replace hs : Sep w F R w4 F4 [.row 5 (tI .u8) (.slice ao5 s3.1.length cp5) s3.1, .ro (tI .u8) (.slice ao1 ahead.length cp1) ahead, .ro ty24 (.slice ao2 p_l.length cp2) p_l] := hs.sel [1, 2, 3] rfl rfl
            replace hf := Fr.keep (ks := [0, 1, 7, 33, 37]) (L' := [(0, .slice ao1 ahead.length cp1), (1, .slice ao2 p_l.length cp2), (7, .int .i64 s3.2), (33, .slice ao5 s3.1.length cp5), (37, .agg #[.int .u32 ((gt p_l s3.2).1), .int .u32 ((gt p_l s3.2).2.1), .int .u64 ((gt p_l s3.2).2.2.1), .int .u64 ((gt p_l s3.2).2.2.2.1), .int .u64 ((gt p_l s3.2).2.2.2.2.1), .int .u64 ((gt p_l s3.2).2.2.2.2.2.1), .int .u64 ((gt p_l s3.2).2.2.2.2.2.2)])]) hf (by kernel_rfl)
            have hT := of_bd hS; clear hS; obtain ⟨z2, hz2, hS⟩ := hT
            refine clV ent12 (vs := [.agg #[.int .u32 ((gt p_l s3.2).1), .int .u32 ((gt p_l s3.2).2.1), .int .u64 ((gt p_l s3.2).2.2.1), .int .u64 ((gt p_l s3.2).2.2.2.1), .int .u64 ((gt p_l s3.2).2.2.2.2.1), .int .u64 ((gt p_l s3.2).2.2.2.2.2.1), .int .u64 ((gt p_l s3.2).2.2.2.2.2.2)]]) (caps := []) hf (by kernel_rfl) (by kernel_rfl) (by kernel_rfl) (by kernel_rfl) (segs_Put_ok (p_s := gt p_l s3.2) (hs.enter [] rfl rfl) hz2) ?_
            clear hf; clear a; intro v w5 a hT hf; obtain ⟨ao6, cp6, F5, rfl, hr⟩ := hT
            replace hs : Sep w F R w5 F5 [.row 5 (tI .u8) (.slice ao6 z2.length cp6) z2, .row 5 (tI .u8) (.slice ao5 s3.1.length cp5) s3.1, .ro (tI .u8) (.slice ao1 ahead.length cp1) ahead, .ro ty24 (.slice ao2 p_l.length cp2) p_l] := hs.back [] [0, 1, 2] rfl rfl rfl rfl hr
            clear hr
            replace hf := Fr.keep (ks := [0, 1, 7, 33, 38]) (L' := [(0, .slice ao1 ahead.length cp1), (1, .slice ao2 p_l.length cp2), (7, .int .i64 s3.2), (33, .slice ao5 s3.1.length cp5), (38, .slice ao6 z2.length cp6)]) hf (by kernel_rfl)
            have hT := of_gd hS; clear hS; obtain ⟨hc3, hS⟩ := hT
            refine apR tbOk u27 i5 rfl rfl rfl rfl hs.le (hs.own 1 rfl) (hs.raW 0 rfl) hc3 hf (by kernel_rfl) (by kernel_rfl) (by kernel_rfl) (by kernel_rfl) ?_
            clear hf; clear a; intro ao7 cp7 w6 a ho hg hl hf
            replace hs : Sep w F R w6 F5 [.row 5 (tI .u8) (.slice ao6 z2.length cp6) z2, .row 5 (tI .u8) (.slice ao7 (s3.1 ++ z2).length cp7) (s3.1 ++ z2), .ro (tI .u8) (.slice ao1 ahead.length cp1) ahead, .ro ty24 (.slice ao2 p_l.length cp2) p_l] := hs.updRow 1 rfl ho hg hl
            clear ho hg hl
            replace hs : Sep w F R w6 F5 [.row 5 (tI .u8) (.slice ao7 (s3.1 ++ z2).length cp7) (s3.1 ++ z2), .ro (tI .u8) (.slice ao1 ahead.length cp1) ahead, .ro ty24 (.slice ao2 p_l.length cp2) p_l] := hs.sel [1, 2, 3] rfl rfl
            replace hf := Fr.keep (ks := [0, 1, 7, 39]) (L' := [(0, .slice ao1 ahead.length cp1), (1, .slice ao2 p_l.length cp2), (7, .int .i64 s3.2), (39, .slice ao7 (s3.1 ++ z2).length cp7)]) hf (by kernel_rfl)
            refine st tbOk 1 [0, 1, 6, 7] (L' := [(0, .slice ao1 ahead.length cp1), (1, .slice ao2 p_l.length cp2), (6, .slice ao7 (s3.1 ++ z2).length cp7), (7, .int .i64 s3.2)]) hf (by kernel_rfl) ?_
            clear hf; clear a; intro a hf
            refine wpList_nil ?_
            refine reg ?_
            have hT := of_let hS; clear hS; obtain ⟨i_1, hl1, hS⟩ := hT
            refine st tbOk 3 [0, 1, 6, 7] (L' := [(0, .slice ao1 ahead.length cp1), (1, .slice ao2 p_l.length cp2), (6, .slice ao7 (s3.1 ++ z2).length cp7), (7, .int .i64 i_1)]) hf (by subst hl1; kernel_rfl) ?_
            clear hf; clear a; intro a hf
            refine wpList_nil ?_
            exact hK3 ((s3.1 ++ z2), i_1) _ _ ⟨ao7, cp7, _, hs.sel [0, 1, 2] rfl rfl, hf.keep (ks := [0, 1, 6, 7]) (by kernel_rfl)⟩ hS
          · replace hS := of_f hb4 hS
            refine wp_exit ?_
            exact hK2 s3.1 _ _ ⟨ao5, cp5, _, hs.sel [0, 1, 2] rfl rfl, hf.keep (ks := [0, 1, 6]) (by kernel_rfl)⟩ hS
    · clear hS; intro KK1 k1 hK1 hS
      refine reg ?_
      refine st tbOk 4 [0, 1, 19] (L' := [(0, .slice ao1 ahead.length cp1), (1, .slice ao2 p_l.length cp2), (19, .bool (decide (((ahead.length : Nat) : Int) > 500)))]) hf (by kernel_rfl) ?_
      clear hf; clear a; intro a hf
      rcases Bool.eq_false_or_eq_true (decide (((ahead.length : Nat) : Int) > 500)) with hb2 | hb2
      · replace hS := of_t hb2 hS
        replace hf := Fr.cast (L' := [(0, .slice ao1 ahead.length cp1), (1, .slice ao2 p_l.length cp2), (19, .bool true)]) hf (by rw [hb2])
        refine st tbOk 4 [0, 1, 23] (L' := [(0, .slice ao1 ahead.length cp1), (1, .slice ao2 p_l.length cp2), (23, .bool true)]) hf (by kernel_rfl) ?_
        clear hf; clear a; intro a hf
        refine wpList_nil ?_
        exact hK1 true _ _ ⟨_, hs.sel [0, 1] rfl rfl, hf.keep (ks := [0, 1, 23]) (by kernel_rfl)⟩ hS
      · replace hS := of_f hb2 hS
        replace hf := Fr.cast (L' := [(0, .slice ao1 ahead.length cp1), (1, .slice ao2 p_l.length cp2), (19, .bool false)]) hf (by rw [hb2])
        refine st tbOk 4 [0, 1, 23] (L' := [(0, .slice ao1 ahead.length cp1), (1, .slice ao2 p_l.length cp2), (23, .bool (decide (((p_l.length : Nat) : Int) > 64)))]) hf (by kernel_rfl) ?_
        clear hf; clear a; intro a hf
        refine wpList_nil ?_
        exact hK1 (decide (((p_l.length : Nat) : Int) > 64)) _ _ ⟨_, hs.sel [0, 1] rfl rfl, hf.keep (ks := [0, 1, 23]) (by kernel_rfl)⟩ hS

end Dm
