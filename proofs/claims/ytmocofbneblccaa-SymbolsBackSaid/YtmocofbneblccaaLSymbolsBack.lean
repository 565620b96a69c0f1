/-
  The walk of the law SymbolsBack; printed by a program of this repo. No condition.
-/
import Derived.Test.YtmocofbneblccaaWT
import Derived.Test.YtmocofbneblccaaW10
namespace Dm
open Go Go.RowKit Go.Proofs

set_option maxHeartbeats 4000000 in
theorem law06_SymbolsBack_ok {w : World} {F : SH} {p_l : List (Int × Int × Int × Int × Int × Int)} {ao1 : Option Addr} {cp1 : Nat} (hs : Sep w F (blks [.ro ty64 (.slice ao1 p_l.length cp1) p_l]) w F [.ro ty64 (.slice ao1 p_l.length cp1) p_l]) {r : Bool} (hS : law06_SymbolsBack p_l = some r) :
    Calls Try.prog 11 [.slice ao1 p_l.length cp1].toArray w (Gives (fun u w' => ∃ (F' : SH), u = .bool r ∧ Sep w F (blks [.ro ty64 (.slice ao1 p_l.length cp1) p_l]) w' F' [])) := by
  generalize (blks [.ro ty64 (.slice ao1 p_l.length cp1) p_l]) = R at hs ⊢
  unfold law06_SymbolsBack at hS
  refine fn_ok (vs := [.slice ao1 p_l.length cp1]) Try.func11 rfl 68 Try.ntmps11 (Nat.le_of_ble_eq_true rfl) ?_
  intro a hf
  replace hf := Fr.cast (L' := [(0, .slice ao1 p_l.length cp1)]) hf (by kernel_rfl)
  refine sq ?_
  refine reg ?_
  refine st tbOk 1 [0] (L' := [(0, .slice ao1 p_l.length cp1)]) hf (by kernel_rfl) ?_
  clear hf; clear a; intro a hf
  refine wpList_nil ?_
  refine sq ?_
  refine reg ?_
  have hT := of_bd hS; clear hS; obtain ⟨z1, hz1, hS⟩ := hT
  refine clV ent25 (vs := []) (caps := []) hf (by kernel_rfl) (by kernel_rfl) (by kernel_rfl) (by kernel_rfl) (law06_awake_ok (hs.enter [] rfl rfl) hz1) ?_
  clear hf; clear a; intro v w1 a hT hf; obtain ⟨F1, rfl, hr⟩ := hT
  replace hs : Sep w F R w1 F1 [.ro ty64 (.slice ao1 p_l.length cp1) p_l] := hs.back [] [0] rfl rfl rfl rfl hr
  clear hr
  replace hf := Fr.keep (ks := [0, 11]) (L' := [(0, .slice ao1 p_l.length cp1), (11, .bool z1)]) hf (by kernel_rfl)
  refine st tbOk 1 [0, 3] (L' := [(0, .slice ao1 p_l.length cp1), (3, .bool z1)]) hf (by kernel_rfl) ?_
  clear hf; clear a; intro a hf
  refine wpList_nil ?_
  refine sq ?_
  refine sq ?_
  refine reg ?_
  refine st tbOk 2 [0, 13] (L' := [(0, .slice ao1 p_l.length cp1), (13, .bool (!z1))]) hf (by kernel_rfl) ?_
  clear hf; clear a; intro a hf
  refine wpList_nil ?_
  refine cnd (b := !z1) hf (by kernel_rfl) (fun hb1 => ?_) (fun hb1 => ?_)
  · replace hS := of_t hb1 hS
    refine sq ?_
    refine reg ?_
    refine st tbOk 1 [2] (L' := [(2, .bool false)]) hf (by kernel_rfl) ?_
    clear hf; clear a; intro a hf
    refine wpList_nil ?_
    have hr := Option.some.inj hS; subst hr
    refine wp_ret ?_
    exact ret_ok hf (vs := [.bool false]) (by kernel_rfl) ⟨_, rfl, hs.sel [] rfl rfl⟩
  · replace hS := of_f hb1 hS
    refine wp_skip ?_
    refine sq ?_
    refine sq ?_
    refine reg ?_
    refine st tbOk 3 [0, 16] (L' := [(0, .slice ao1 p_l.length cp1), (16, .bool (decide (((p_l.length : Nat) : Int) > 200)))]) hf (by kernel_rfl) ?_
    clear hf; clear a; intro a hf
    refine wpList_nil ?_
    refine cnd (b := decide (((p_l.length : Nat) : Int) > 200)) hf (by kernel_rfl) (fun hb2 => ?_) (fun hb2 => ?_)
    · replace hS := of_t hb2 hS
      refine sq ?_
      refine reg ?_
      refine st tbOk 1 [2] (L' := [(2, .bool true)]) hf (by kernel_rfl) ?_
      clear hf; clear a; intro a hf
      refine wpList_nil ?_
      have hr := Option.some.inj hS; subst hr
      refine wp_ret ?_
      exact ret_ok hf (vs := [.bool true]) (by kernel_rfl) ⟨_, rfl, hs.sel [] rfl rfl⟩
    · replace hS := of_f hb2 hS
      refine wp_skip ?_
      refine sq ?_
      refine reg ?_
      refine st tbOk 1 [0, 4] (L' := [(0, .slice ao1 p_l.length cp1), (4, .slice none 0 0)]) hf (by kernel_rfl) ?_
      clear hf; clear a; intro a hf
      refine wpList_nil ?_
      refine sq ?_
      refine sq ?_
      refine reg ?_
      refine st tbOk 1 [0, 4, 5] (L' := [(0, .slice ao1 p_l.length cp1), (4, .slice none 0 0), (5, .int .i64 0)]) hf (by kernel_rfl) ?_
      clear hf; clear a; intro a hf
      refine wpList_nil ?_
      refine ctj (fun (s1 : List Int) (a : Act) (w' : World) => ∃ (ao2 : Option Addr) (cp2 : Nat) (F2 : SH), Sep w F R w' F2 [.row 5 (tI .u8) (.slice ao2 s1.length cp2) s1, .ro ty64 (.slice ao1 p_l.length cp1) p_l] ∧ Fr 68 [(0, .slice ao1 p_l.length cp1), (4, .slice ao2 s1.length cp2)] a) hS ?_ ?_
      · clear hS hf hs; clear a; intro s1 a w5 hM hS
        obtain ⟨ao2, cp2, F2, hs, hf⟩ := hM
        refine sq ?_
        refine reg ?_
        refine st tbOk 1 [0, 4, 31] (L' := [(0, .slice ao1 p_l.length cp1), (4, .slice ao2 s1.length cp2), (31, .slice ao2 s1.length cp2)]) hf (by kernel_rfl) ?_
        clear hf; clear a; intro a hf
        have hT := of_bd hS; clear hS; obtain ⟨z3, hz3, hS⟩ := hT
        refine clV ent31 (vs := [.slice ao2 s1.length cp2]) (caps := []) hf (by kernel_rfl) (by kernel_rfl) (by kernel_rfl) (by kernel_rfl) (symbols_Table_ok (b := s1) (hs.lend [0] [] rfl rfl rfl rfl rfl) hz3) ?_
        clear hf; clear a; intro v w6 a hT hf; obtain ⟨ao6, cp6, F5, rfl, hr⟩ := hT
        replace hs : Sep w F R w6 F2 [.row 65 ty64 (.slice ao6 z3.1.length cp6) z3.1, .row 5 (tI .u8) (.slice ao2 s1.length cp2) s1, .ro ty64 (.slice ao1 p_l.length cp1) p_l] := hs.backL [0] [] [0, 1] rfl rfl rfl rfl rfl rfl hr ⟨flat64, trivial⟩
        clear hr
        replace hf := Fr.keep (ks := [0, 4, 32]) (L' := [(0, .slice ao1 p_l.length cp1), (4, .slice ao2 s1.length cp2), (32, .tuple #[.slice ao6 z3.1.length cp6, .int .i64 z3.2])]) hf (by kernel_rfl)
        refine st tbOk 5 [0, 4, 6, 7] (L' := [(0, .slice ao1 p_l.length cp1), (4, .slice ao2 s1.length cp2), (6, .slice ao6 z3.1.length cp6), (7, .int .i64 z3.2)]) hf (by kernel_rfl) ?_
        clear hf; clear a; intro a hf
        refine wpList_nil ?_
        refine sq ?_
        refine sq ?_
        refine ctj (fun (s3 : Bool) (a : Act) (w' : World) => ∃ (F6 : SH), Sep w F R w' F6 [.row 65 ty64 (.slice ao6 z3.1.length cp6) z3.1, .row 5 (tI .u8) (.slice ao2 s1.length cp2) s1, .ro ty64 (.slice ao1 p_l.length cp1) p_l] ∧ Fr 68 [(0, .slice ao1 p_l.length cp1), (4, .slice ao2 s1.length cp2), (6, .slice ao6 z3.1.length cp6), (43, .bool s3)] a) hS ?_ ?_
        · clear hS hf hs; clear a; intro s3 a w7 hM hS
          obtain ⟨F6, hs, hf⟩ := hM
          refine cnd (b := s3) hf (by kernel_rfl) (fun hb5 => ?_) (fun hb5 => ?_)
          · replace hS := of_t hb5 hS
            refine sq ?_
            refine reg ?_
            refine st tbOk 1 [2] (L' := [(2, .bool false)]) hf (by kernel_rfl) ?_
            clear hf; clear a; intro a hf
            refine wpList_nil ?_
            have hr := Option.some.inj hS; subst hr
            refine wp_ret ?_
            exact ret_ok hf (vs := [.bool false]) (by kernel_rfl) ⟨_, rfl, hs.sel [] rfl rfl⟩
          · replace hS := of_f hb5 hS
            refine wp_skip ?_
            refine sq ?_
            refine sq ?_
            refine reg ?_
            refine st tbOk 1 [0, 4, 6, 8] (L' := [(0, .slice ao1 p_l.length cp1), (4, .slice ao2 s1.length cp2), (6, .slice ao6 z3.1.length cp6), (8, .int .i64 0)]) hf (by kernel_rfl) ?_
            clear hf; clear a; intro a hf
            refine wpList_nil ?_
            refine ctj (fun (s4 : Unit) (a : Act) (w' : World) => ∃ (F7 : SH), Sep w F R w' F7 [.row 5 (tI .u8) (.slice ao2 s1.length cp2) s1] ∧ Fr 68 [(4, .slice ao2 s1.length cp2)] a) hS ?_ ?_
            · clear hS hf hs; clear a; intro s4 a w10 hM hS
              obtain ⟨F7, hs, hf⟩ := hM
              refine sq ?_
              refine reg ?_
              refine st tbOk 1 [60] (L' := [(60, .slice ao2 s1.length cp2)]) hf (by kernel_rfl) ?_
              clear hf; clear a; intro a hf
              refine bsR tbOk u22 i5 rfl (t := (tI .u8)) (vs := [(0, .int .u8 0)]) (cells := #[.int .u8 0]) ([0] : List Int) hs.le hf (by kernel_rfl) (by kernel_rfl) (by kernel_rfl) rfl (by kernel_rfl) (reps_flat _) rfl ?_
              clear hf; clear a; intro w11 a ho hx hf
              replace hs : Sep w F R w11 F7 [.row 5 (tI .u8) (.slice (some ⟨w10.heap.size, 0, none⟩) ([0] : List Int).length ([0] : List Int).length) ([0] : List Int), .row 5 (tI .u8) (.slice ao2 s1.length cp2) s1] := hs.newRow ho hx
              clear ho hx
              replace hf := Fr.keep (ks := [60, 61]) (L' := [(60, .slice ao2 s1.length cp2), (61, .slice (some ⟨w10.heap.size, 0, none⟩) ([0] : List Int).length ([0] : List Int).length)]) hf (by kernel_rfl)
              have hT := of_gd hS; clear hS; obtain ⟨hc5, hS⟩ := hT
              refine apR tbOk u22 i5 rfl rfl rfl rfl hs.le (hs.own 1 rfl) (hs.raW 0 rfl) hc5 hf (by kernel_rfl) (by kernel_rfl) (by kernel_rfl) (by kernel_rfl) ?_
              clear hf; clear a; intro ao7 cp7 w12 a ho hg hl hf
              replace hs : Sep w F R w12 F7 [.row 5 (tI .u8) (.slice (some ⟨w10.heap.size, 0, none⟩) ([0] : List Int).length ([0] : List Int).length) ([0] : List Int), .row 5 (tI .u8) (.slice ao7 (s1 ++ ([0] : List Int)).length cp7) (s1 ++ ([0] : List Int))] := hs.updRow 1 rfl ho hg hl
              clear ho hg hl
              replace hs : Sep w F R w12 F7 [.row 5 (tI .u8) (.slice ao7 (s1 ++ ([0] : List Int)).length cp7) (s1 ++ ([0] : List Int))] := hs.sel [1] rfl rfl
              replace hf := Fr.keep (ks := [62]) (L' := [(62, .slice ao7 (s1 ++ ([0] : List Int)).length cp7)]) hf (by kernel_rfl)
              have hT := of_bd hS; clear hS; obtain ⟨z4, hz4, hS⟩ := hT
              refine clV ent31 (vs := [.slice ao7 (s1 ++ ([0] : List Int)).length cp7]) (caps := []) hf (by kernel_rfl) (by kernel_rfl) (by kernel_rfl) (by kernel_rfl) (symbols_Table_ok (b := (s1 ++ ([0] : List Int))) (hs.lend [0] [] rfl rfl rfl rfl rfl) hz4) ?_
              clear hf; clear a; intro v w13 a hT hf; obtain ⟨ao8, cp8, F9, rfl, hr⟩ := hT
              replace hs : Sep w F R w13 F7 [.row 65 ty64 (.slice ao8 z4.1.length cp8) z4.1, .row 5 (tI .u8) (.slice ao7 (s1 ++ ([0] : List Int)).length cp7) (s1 ++ ([0] : List Int))] := hs.backL [0] [] [0] rfl rfl rfl rfl rfl rfl hr ⟨flat64, trivial⟩
              clear hr
              replace hs : Sep w F R w13 F7 [.row 65 ty64 (.slice ao8 z4.1.length cp8) z4.1] := hs.sel [0] rfl rfl
              replace hf := Fr.keep (ks := [63]) (L' := [(63, .tuple #[.slice ao8 z4.1.length cp8, .int .i64 z4.2])]) hf (by kernel_rfl)
              refine st tbOk 5 [10] (L' := [(10, .int .i64 z4.2)]) hf (by kernel_rfl) ?_
              clear hf; clear a; intro a hf
              refine wpList_nil ?_
              refine sq ?_
              refine reg ?_
              refine st tbOk 3 [2] (L' := [(2, .bool (z4.2 == 10))]) hf (by kernel_rfl) ?_
              clear hf; clear a; intro a hf
              refine wpList_nil ?_
              have hr := Option.some.inj hS; subst hr
              refine wp_ret ?_
              exact ret_ok hf (vs := [.bool (z4.2 == 10)]) (by kernel_rfl) ⟨_, rfl, hs.sel [] rfl rfl⟩
            · clear hS; intro KK4 k3 hK4 hS
              refine blk ?_
              refine lp (st := 0) (fun (s5 : Int) (a : Act) (w' : World) => ∃ (F8 : SH), Sep w F R w' F8 [.row 65 ty64 (.slice ao6 z3.1.length cp6) z3.1, .row 5 (tI .u8) (.slice ao2 s1.length cp2) s1, .ro ty64 (.slice ao1 p_l.length cp1) p_l] ∧ Fr 68 [(0, .slice ao1 p_l.length cp1), (4, .slice ao2 s1.length cp2), (6, .slice ao6 z3.1.length cp6), (8, .int .i64 s5)] a) ?_ ⟨_, hs.sel [0, 1, 2] rfl rfl, hf.keep (ks := [0, 4, 6, 8]) (by kernel_rfl)⟩ hS
              clear hS hf hs; clear a
              intro rec2 KK5 hK5 s5 a w8 hM hS
              obtain ⟨F8, hs, hf⟩ := hM
              refine sq ?_
              refine sq ?_
              refine reg ?_
              refine st tbOk 4 [0, 4, 6, 8, 47] (L' := [(0, .slice ao1 p_l.length cp1), (4, .slice ao2 s1.length cp2), (6, .slice ao6 z3.1.length cp6), (8, .int .i64 s5), (47, .bool (decide (s5 < ((p_l.length : Nat) : Int))))]) hf (by kernel_rfl) ?_
              clear hf; clear a; intro a hf
              refine wpList_nil ?_
              refine cnd (b := decide (s5 < ((p_l.length : Nat) : Int))) hf (by kernel_rfl) (fun hb6 => ?_) (fun hb6 => ?_)
              · replace hS := of_t hb6 hS
                refine wp_skip ?_
                refine sq ?_
                refine blk ?_
                refine sq ?_
                refine regQ mixed (by kernel_rfl) ?_
                refine stQ tbOk 2 [0, 4, 6, 8, 50, 51] (L' := [(0, .slice ao1 p_l.length cp1), (4, .slice ao2 s1.length cp2), (6, .slice ao6 z3.1.length cp6), (8, .int .i64 s5), (50, .slice ao6 z3.1.length cp6), (51, .int .i64 s5)]) hf (by kernel_rfl) ?_
                clear hf; clear a; intro a hf
                have hT := of_gd hS; clear hS; obtain ⟨hc3, hS⟩ := hT
                refine ixRQ tbOk u69 i65 rfl rfl (hs.raW 0 rfl) (k := .i64) (n := s5) hc3 hf (by kernel_rfl) (by kernel_rfl) (by kernel_rfl) (by kernel_rfl) ?_
                clear hf; clear a; intro pb2 po2 c2 a hp2 hr2 hf
                obtain rfl : c2 = [.int .u32 ((gt z3.1 s5).1), .int .u8 ((gt z3.1 s5).2.1), .int .u8 ((gt z3.1 s5).2.2.1), .int .u16 ((gt z3.1 s5).2.2.2.1), .int .u64 ((gt z3.1 s5).2.2.2.2.1), .int .u64 ((gt z3.1 s5).2.2.2.2.2)] := hr2
                replace hf := Fr.keep (ks := [0, 4, 6, 8, 52]) (L' := [(0, .slice ao1 p_l.length cp1), (4, .slice ao2 s1.length cp2), (6, .slice ao6 z3.1.length cp6), (8, .int .i64 s5), (52, .pointer (some ⟨pb2, po2, none⟩))]) hf (by kernel_rfl)
                refine ldCQ tbOk (T := 65) hp2 (LeH.refl _) 0 (.agg #[.int .u32 ((gt z3.1 s5).1), .int .u8 ((gt z3.1 s5).2.1), .int .u8 ((gt z3.1 s5).2.2.1), .int .u16 ((gt z3.1 s5).2.2.2.1), .int .u64 ((gt z3.1 s5).2.2.2.2.1), .int .u64 ((gt z3.1 s5).2.2.2.2.2)]) hf (by kernel_rfl) (by kernel_rfl) (by kernel_rfl) (by kernel_rfl) ?_
                clear hf; clear a; intro a hf
                replace hf := Fr.keep (ks := [0, 4, 6, 8, 53]) (L' := [(0, .slice ao1 p_l.length cp1), (4, .slice ao2 s1.length cp2), (6, .slice ao6 z3.1.length cp6), (8, .int .i64 s5), (53, .agg #[.int .u32 ((gt z3.1 s5).1), .int .u8 ((gt z3.1 s5).2.1), .int .u8 ((gt z3.1 s5).2.2.1), .int .u16 ((gt z3.1 s5).2.2.2.1), .int .u64 ((gt z3.1 s5).2.2.2.2.1), .int .u64 ((gt z3.1 s5).2.2.2.2.2)])]) hf (by kernel_rfl)
                refine stQ tbOk 2 [0, 4, 6, 8, 53, 54, 55] (L' := [(0, .slice ao1 p_l.length cp1), (4, .slice ao2 s1.length cp2), (6, .slice ao6 z3.1.length cp6), (8, .int .i64 s5), (53, .agg #[.int .u32 ((gt z3.1 s5).1), .int .u8 ((gt z3.1 s5).2.1), .int .u8 ((gt z3.1 s5).2.2.1), .int .u16 ((gt z3.1 s5).2.2.2.1), .int .u64 ((gt z3.1 s5).2.2.2.2.1), .int .u64 ((gt z3.1 s5).2.2.2.2.2)]), (54, .slice ao1 p_l.length cp1), (55, .int .i64 s5)]) hf (by kernel_rfl) ?_
                clear hf; clear a; intro a hf
                have hT := of_gd hS; clear hS; obtain ⟨hc4, hS⟩ := hT
                refine ixRQ tbOk u69 i65 rfl rfl ((hs.ro 2 rfl).ra (LeH.refl _)) (k := .i64) (n := s5) hc4 hf (by kernel_rfl) (by kernel_rfl) (by kernel_rfl) (by kernel_rfl) ?_
                clear hf; clear a; intro pb3 po3 c3 a hp3 hr3 hf
                obtain rfl : c3 = [.int .u32 ((gt p_l s5).1), .int .u8 ((gt p_l s5).2.1), .int .u8 ((gt p_l s5).2.2.1), .int .u16 ((gt p_l s5).2.2.2.1), .int .u64 ((gt p_l s5).2.2.2.2.1), .int .u64 ((gt p_l s5).2.2.2.2.2)] := hr3
                replace hs : Sep w F R w8 F8 [.cel pb3 po3 [.int .u32 ((gt p_l s5).1), .int .u8 ((gt p_l s5).2.1), .int .u8 ((gt p_l s5).2.2.1), .int .u16 ((gt p_l s5).2.2.2.1), .int .u64 ((gt p_l s5).2.2.2.2.1), .int .u64 ((gt p_l s5).2.2.2.2.2)], .row 65 ty64 (.slice ao6 z3.1.length cp6) z3.1, .row 5 (tI .u8) (.slice ao2 s1.length cp2) s1, .ro ty64 (.slice ao1 p_l.length cp1) p_l] := hs.addCel hp3
                replace hf := Fr.keep (ks := [0, 4, 6, 8, 53, 56]) (L' := [(0, .slice ao1 p_l.length cp1), (4, .slice ao2 s1.length cp2), (6, .slice ao6 z3.1.length cp6), (8, .int .i64 s5), (53, .agg #[.int .u32 ((gt z3.1 s5).1), .int .u8 ((gt z3.1 s5).2.1), .int .u8 ((gt z3.1 s5).2.2.1), .int .u16 ((gt z3.1 s5).2.2.2.1), .int .u64 ((gt z3.1 s5).2.2.2.2.1), .int .u64 ((gt z3.1 s5).2.2.2.2.2)]), (56, .pointer (some ⟨pb3, po3, none⟩))]) hf (by kernel_rfl)
                refine ldCQ tbOk (T := 65) (hs.ccel 0 rfl) (LeH.refl _) 0 (.agg #[.int .u32 ((gt p_l s5).1), .int .u8 ((gt p_l s5).2.1), .int .u8 ((gt p_l s5).2.2.1), .int .u16 ((gt p_l s5).2.2.2.1), .int .u64 ((gt p_l s5).2.2.2.2.1), .int .u64 ((gt p_l s5).2.2.2.2.2)]) hf (by kernel_rfl) (by kernel_rfl) (by kernel_rfl) (by kernel_rfl) ?_
                clear hf; clear a; intro a hf
                replace hs : Sep w F R w8 F8 [.row 65 ty64 (.slice ao6 z3.1.length cp6) z3.1, .row 5 (tI .u8) (.slice ao2 s1.length cp2) s1, .ro ty64 (.slice ao1 p_l.length cp1) p_l] := hs.sel [1, 2, 3] rfl rfl
                replace hf := Fr.keep (ks := [0, 4, 6, 8, 53, 57]) (L' := [(0, .slice ao1 p_l.length cp1), (4, .slice ao2 s1.length cp2), (6, .slice ao6 z3.1.length cp6), (8, .int .i64 s5), (53, .agg #[.int .u32 ((gt z3.1 s5).1), .int .u8 ((gt z3.1 s5).2.1), .int .u8 ((gt z3.1 s5).2.2.1), .int .u16 ((gt z3.1 s5).2.2.2.1), .int .u64 ((gt z3.1 s5).2.2.2.2.1), .int .u64 ((gt z3.1 s5).2.2.2.2.2)]), (57, .agg #[.int .u32 ((gt p_l s5).1), .int .u8 ((gt p_l s5).2.1), .int .u8 ((gt p_l s5).2.2.1), .int .u16 ((gt p_l s5).2.2.2.1), .int .u64 ((gt p_l s5).2.2.2.2.1), .int .u64 ((gt p_l s5).2.2.2.2.2)])]) hf (by kernel_rfl)
                refine stQ tbOk 1 [0, 4, 6, 8, 58] (L' := [(0, .slice ao1 p_l.length cp1), (4, .slice ao2 s1.length cp2), (6, .slice ao6 z3.1.length cp6), (8, .int .i64 s5), (58, .bool (!((((gt z3.1 s5).1) == ((gt p_l s5).1)) && ((((gt z3.1 s5).2.1) == ((gt p_l s5).2.1)) && ((((gt z3.1 s5).2.2.1) == ((gt p_l s5).2.2.1)) && ((((gt z3.1 s5).2.2.2.1) == ((gt p_l s5).2.2.2.1)) && ((((gt z3.1 s5).2.2.2.2.1) == ((gt p_l s5).2.2.2.2.1)) && (((gt z3.1 s5).2.2.2.2.2) == ((gt p_l s5).2.2.2.2.2)))))))))]) hf (by kernel_rfl) ?_
                clear hf; clear a; intro a hf
                refine wpQuiet_nil ?_
                intro w9 hx
                replace hs : Sep w F R w9 F8 [.row 65 ty64 (.slice ao6 z3.1.length cp6) z3.1, .row 5 (tI .u8) (.slice ao2 s1.length cp2) s1, .ro ty64 (.slice ao1 p_l.length cp1) p_l] := hs.ext hx
                clear hx
                refine cnd (b := !((((gt z3.1 s5).1) == ((gt p_l s5).1)) && ((((gt z3.1 s5).2.1) == ((gt p_l s5).2.1)) && ((((gt z3.1 s5).2.2.1) == ((gt p_l s5).2.2.1)) && ((((gt z3.1 s5).2.2.2.1) == ((gt p_l s5).2.2.2.1)) && ((((gt z3.1 s5).2.2.2.2.1) == ((gt p_l s5).2.2.2.2.1)) && (((gt z3.1 s5).2.2.2.2.2) == ((gt p_l s5).2.2.2.2.2)))))))) hf (by kernel_rfl) (fun hb7 => ?_) (fun hb7 => ?_)
                · replace hS := of_t hb7 hS
                  refine sq ?_
                  refine reg ?_
                  refine st tbOk 1 [2] (L' := [(2, .bool false)]) hf (by kernel_rfl) ?_
                  clear hf; clear a; intro a hf
                  refine wpList_nil ?_
                  have hr := Option.some.inj hS; subst hr
                  refine wp_ret ?_
                  exact ret_ok hf (vs := [.bool false]) (by kernel_rfl) ⟨_, rfl, hs.sel [] rfl rfl⟩
                · replace hS := of_f hb7 hS
                  refine wp_skip ?_
                  refine reg ?_
                  have hT := of_let hS; clear hS; obtain ⟨i_2, hl2, hS⟩ := hT
                  refine st tbOk 3 [0, 4, 6, 8] (L' := [(0, .slice ao1 p_l.length cp1), (4, .slice ao2 s1.length cp2), (6, .slice ao6 z3.1.length cp6), (8, .int .i64 i_2)]) hf (by subst hl2; kernel_rfl) ?_
                  clear hf; clear a; intro a hf
                  refine wpList_nil ?_
                  exact hK5 i_2 _ _ ⟨_, hs.sel [0, 1, 2] rfl rfl, hf.keep (ks := [0, 4, 6, 8]) (by kernel_rfl)⟩ hS
              · replace hS := of_f hb6 hS
                refine wp_exit ?_
                exact hK4 () _ _ ⟨_, hs.sel [1] rfl rfl, hf.keep (ks := [4]) (by kernel_rfl)⟩ hS
        · clear hS; intro KK3 k2 hK3 hS
          refine reg ?_
          refine st tbOk 3 [0, 4, 6, 37] (L' := [(0, .slice ao1 p_l.length cp1), (4, .slice ao2 s1.length cp2), (6, .slice ao6 z3.1.length cp6), (37, .bool (z3.2 != 0))]) hf (by kernel_rfl) ?_
          clear hf; clear a; intro a hf
          rcases Bool.eq_false_or_eq_true (z3.2 != 0) with hb4 | hb4
          · replace hS := of_t hb4 hS
            replace hf := Fr.cast (L' := [(0, .slice ao1 p_l.length cp1), (4, .slice ao2 s1.length cp2), (6, .slice ao6 z3.1.length cp6), (37, .bool true)]) hf (by rw [hb4])
            refine st tbOk 6 [0, 4, 6, 43] (L' := [(0, .slice ao1 p_l.length cp1), (4, .slice ao2 s1.length cp2), (6, .slice ao6 z3.1.length cp6), (43, .bool true)]) hf (by kernel_rfl) ?_
            clear hf; clear a; intro a hf
            refine wpList_nil ?_
            exact hK3 true _ _ ⟨_, hs.sel [0, 1, 2] rfl rfl, hf.keep (ks := [0, 4, 6, 43]) (by kernel_rfl)⟩ hS
          · replace hS := of_f hb4 hS
            replace hf := Fr.cast (L' := [(0, .slice ao1 p_l.length cp1), (4, .slice ao2 s1.length cp2), (6, .slice ao6 z3.1.length cp6), (37, .bool false)]) hf (by rw [hb4])
            refine st tbOk 6 [0, 4, 6, 43] (L' := [(0, .slice ao1 p_l.length cp1), (4, .slice ao2 s1.length cp2), (6, .slice ao6 z3.1.length cp6), (43, .bool (((z3.1.length : Nat) : Int) != ((p_l.length : Nat) : Int)))]) hf (by kernel_rfl) ?_
            clear hf; clear a; intro a hf
            refine wpList_nil ?_
            exact hK3 (((z3.1.length : Nat) : Int) != ((p_l.length : Nat) : Int)) _ _ ⟨_, hs.sel [0, 1, 2] rfl rfl, hf.keep (ks := [0, 4, 6, 43]) (by kernel_rfl)⟩ hS
      · clear hS; intro KK1 k1 hK1 hS
        refine blk ?_
        replace hs : Sep w F R w1 F1 [.row 5 (tI .u8) (.slice none 0 0) ([] : List Int), .ro ty64 (.slice ao1 p_l.length cp1) p_l] := hs.addNil 5 (tI .u8)
        refine lp (st := ([], 0)) (fun (s2 : (List Int) × Int) (a : Act) (w' : World) => ∃ (ao3 : Option Addr) (cp3 : Nat) (F3 : SH), Sep w F R w' F3 [.row 5 (tI .u8) (.slice ao3 s2.1.length cp3) s2.1, .ro ty64 (.slice ao1 p_l.length cp1) p_l] ∧ Fr 68 [(0, .slice ao1 p_l.length cp1), (4, .slice ao3 s2.1.length cp3), (5, .int .i64 s2.2)] a) ?_ ⟨none, 0, _, hs.sel [0, 1] rfl rfl, hf.keep (ks := [0, 4, 5]) (by kernel_rfl)⟩ hS
        clear hS hf hs; clear a
        intro rec1 KK2 hK2 s2 a w2 hM hS
        obtain ⟨ao3, cp3, F3, hs, hf⟩ := hM
        refine sq ?_
        refine sq ?_
        refine reg ?_
        refine st tbOk 4 [0, 4, 5, 20] (L' := [(0, .slice ao1 p_l.length cp1), (4, .slice ao3 s2.1.length cp3), (5, .int .i64 s2.2), (20, .bool (decide (s2.2 < ((p_l.length : Nat) : Int))))]) hf (by kernel_rfl) ?_
        clear hf; clear a; intro a hf
        refine wpList_nil ?_
        refine cnd (b := decide (s2.2 < ((p_l.length : Nat) : Int))) hf (by kernel_rfl) (fun hb3 => ?_) (fun hb3 => ?_)
        · replace hS := of_t hb3 hS
          refine wp_skip ?_
          refine sq ?_
          refine blk ?_
          refine reg ?_
          refine st tbOk 3 [0, 5, 23, 24, 25] (L' := [(0, .slice ao1 p_l.length cp1), (5, .int .i64 s2.2), (23, .slice ao3 s2.1.length cp3), (24, .slice ao1 p_l.length cp1), (25, .int .i64 s2.2)]) hf (by kernel_rfl) ?_
          clear hf; clear a; intro a hf
          have hT := of_gd hS; clear hS; obtain ⟨hc1, hS⟩ := hT
          refine ixR tbOk u69 i65 rfl rfl ((hs.ro 1 rfl).ra (LeH.refl _)) (k := .i64) (n := s2.2) hc1 hf (by kernel_rfl) (by kernel_rfl) (by kernel_rfl) (by kernel_rfl) ?_
          clear hf; clear a; intro pb1 po1 c1 a hp1 hr1 hf
          obtain rfl : c1 = [.int .u32 ((gt p_l s2.2).1), .int .u8 ((gt p_l s2.2).2.1), .int .u8 ((gt p_l s2.2).2.2.1), .int .u16 ((gt p_l s2.2).2.2.2.1), .int .u64 ((gt p_l s2.2).2.2.2.2.1), .int .u64 ((gt p_l s2.2).2.2.2.2.2)] := hr1
          replace hs : Sep w F R w2 F3 [.cel pb1 po1 [.int .u32 ((gt p_l s2.2).1), .int .u8 ((gt p_l s2.2).2.1), .int .u8 ((gt p_l s2.2).2.2.1), .int .u16 ((gt p_l s2.2).2.2.2.1), .int .u64 ((gt p_l s2.2).2.2.2.2.1), .int .u64 ((gt p_l s2.2).2.2.2.2.2)], .row 5 (tI .u8) (.slice ao3 s2.1.length cp3) s2.1, .ro ty64 (.slice ao1 p_l.length cp1) p_l] := hs.addCel hp1
          replace hf := Fr.keep (ks := [0, 5, 23, 26]) (L' := [(0, .slice ao1 p_l.length cp1), (5, .int .i64 s2.2), (23, .slice ao3 s2.1.length cp3), (26, .pointer (some ⟨pb1, po1, none⟩))]) hf (by kernel_rfl)
          refine ldC tbOk (T := 65) (hs.ccel 0 rfl) (LeH.refl _) 0 (.agg #[.int .u32 ((gt p_l s2.2).1), .int .u8 ((gt p_l s2.2).2.1), .int .u8 ((gt p_l s2.2).2.2.1), .int .u16 ((gt p_l s2.2).2.2.2.1), .int .u64 ((gt p_l s2.2).2.2.2.2.1), .int .u64 ((gt p_l s2.2).2.2.2.2.2)]) hf (by kernel_rfl) (by kernel_rfl) (by kernel_rfl) (by kernel_rfl) ?_
          clear hf; clear a; intro a hf
          replace hs : Sep w F R w2 F3 [.row 5 (tI .u8) (.slice ao3 s2.1.length cp3) s2.1, .ro ty64 (.slice ao1 p_l.length cp1) p_l] := hs.sel [1, 2] rfl rfl
          replace hf := Fr.keep (ks := [0, 5, 23, 27]) (L' := [(0, .slice ao1 p_l.length cp1), (5, .int .i64 s2.2), (23, .slice ao3 s2.1.length cp3), (27, .agg #[.int .u32 ((gt p_l s2.2).1), .int .u8 ((gt p_l s2.2).2.1), .int .u8 ((gt p_l s2.2).2.2.1), .int .u16 ((gt p_l s2.2).2.2.2.1), .int .u64 ((gt p_l s2.2).2.2.2.2.1), .int .u64 ((gt p_l s2.2).2.2.2.2.2)])]) hf (by kernel_rfl)
          have hT := of_bd hS; clear hS; obtain ⟨z2, hz2, hS⟩ := hT
          refine clV ent26 (vs := [.agg #[.int .u32 ((gt p_l s2.2).1), .int .u8 ((gt p_l s2.2).2.1), .int .u8 ((gt p_l s2.2).2.2.1), .int .u16 ((gt p_l s2.2).2.2.2.1), .int .u64 ((gt p_l s2.2).2.2.2.2.1), .int .u64 ((gt p_l s2.2).2.2.2.2.2)]]) (caps := []) hf (by kernel_rfl) (by kernel_rfl) (by kernel_rfl) (by kernel_rfl) (symbols_Put_ok (p_s := gt p_l s2.2) (hs.enter [] rfl rfl) hz2) ?_
          clear hf; clear a; intro v w3 a hT hf; obtain ⟨ao4, cp4, F4, rfl, hr⟩ := hT
          replace hs : Sep w F R w3 F4 [.row 5 (tI .u8) (.slice ao4 z2.length cp4) z2, .row 5 (tI .u8) (.slice ao3 s2.1.length cp3) s2.1, .ro ty64 (.slice ao1 p_l.length cp1) p_l] := hs.back [] [0, 1] rfl rfl rfl rfl hr
          clear hr
          replace hf := Fr.keep (ks := [0, 5, 23, 28]) (L' := [(0, .slice ao1 p_l.length cp1), (5, .int .i64 s2.2), (23, .slice ao3 s2.1.length cp3), (28, .slice ao4 z2.length cp4)]) hf (by kernel_rfl)
          have hT := of_gd hS; clear hS; obtain ⟨hc2, hS⟩ := hT
          refine apR tbOk u22 i5 rfl rfl rfl rfl hs.le (hs.own 1 rfl) (hs.raW 0 rfl) hc2 hf (by kernel_rfl) (by kernel_rfl) (by kernel_rfl) (by kernel_rfl) ?_
          clear hf; clear a; intro ao5 cp5 w4 a ho hg hl hf
          replace hs : Sep w F R w4 F4 [.row 5 (tI .u8) (.slice ao4 z2.length cp4) z2, .row 5 (tI .u8) (.slice ao5 (s2.1 ++ z2).length cp5) (s2.1 ++ z2), .ro ty64 (.slice ao1 p_l.length cp1) p_l] := hs.updRow 1 rfl ho hg hl
          clear ho hg hl
          replace hs : Sep w F R w4 F4 [.row 5 (tI .u8) (.slice ao5 (s2.1 ++ z2).length cp5) (s2.1 ++ z2), .ro ty64 (.slice ao1 p_l.length cp1) p_l] := hs.sel [1, 2] rfl rfl
          replace hf := Fr.keep (ks := [0, 5, 29]) (L' := [(0, .slice ao1 p_l.length cp1), (5, .int .i64 s2.2), (29, .slice ao5 (s2.1 ++ z2).length cp5)]) hf (by kernel_rfl)
          refine st tbOk 1 [0, 4, 5] (L' := [(0, .slice ao1 p_l.length cp1), (4, .slice ao5 (s2.1 ++ z2).length cp5), (5, .int .i64 s2.2)]) hf (by kernel_rfl) ?_
          clear hf; clear a; intro a hf
          refine wpList_nil ?_
          refine reg ?_
          have hT := of_let hS; clear hS; obtain ⟨i_1, hl1, hS⟩ := hT
          refine st tbOk 3 [0, 4, 5] (L' := [(0, .slice ao1 p_l.length cp1), (4, .slice ao5 (s2.1 ++ z2).length cp5), (5, .int .i64 i_1)]) hf (by subst hl1; kernel_rfl) ?_
          clear hf; clear a; intro a hf
          refine wpList_nil ?_
          exact hK2 ((s2.1 ++ z2), i_1) _ _ ⟨ao5, cp5, _, hs.sel [0, 1] rfl rfl, hf.keep (ks := [0, 4, 5]) (by kernel_rfl)⟩ hS
        · replace hS := of_f hb3 hS
          refine wp_exit ?_
          exact hK1 s2.1 _ _ ⟨ao3, cp3, _, hs.sel [0, 1] rfl rfl, hf.keep (ks := [0, 4]) (by kernel_rfl)⟩ hS

end Dm
