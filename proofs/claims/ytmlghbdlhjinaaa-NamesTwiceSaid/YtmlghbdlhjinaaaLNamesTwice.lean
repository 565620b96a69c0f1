/-
  The walk of the law NamesTwice; printed by a program of this repo. No condition.
-/
import Derived.Test.YtmlghbdlhjinaaaWT
import Derived.Test.YtmlghbdlhjinaaaW1
import Derived.Test.YtmlghbdlhjinaaaW3
namespace Dm
open Go Go.RowKit Go.Proofs

set_option maxHeartbeats 4000000 in
theorem law02_NamesTwice_ok {w : World} {F : SH} {p_l : List (List UInt8)} {ao1 : Option Addr} {cp1 : Nat} (hs : Sep w F (blks [.ro tS (.slice ao1 p_l.length cp1) p_l]) w F [.ro tS (.slice ao1 p_l.length cp1) p_l]) {r : Bool} (hS : law02_NamesTwice p_l = some r) :
    Calls Try.prog 8 [.slice ao1 p_l.length cp1].toArray w (Gives (fun u w' => ∃ (F' : SH), u = .bool r ∧ Sep w F (blks [.ro tS (.slice ao1 p_l.length cp1) p_l]) w' F' [])) := by
  generalize (blks [.ro tS (.slice ao1 p_l.length cp1) p_l]) = R at hs ⊢
  unfold law02_NamesTwice at hS
  refine fn_ok (vs := [.slice ao1 p_l.length cp1]) Try.func8 rfl 93 Try.ntmps8 (Nat.le_of_ble_eq_true rfl) ?_
  intro a hf
  replace hf := Fr.cast (L' := [(0, .slice ao1 p_l.length cp1)]) hf (by kernel_rfl)
  refine sq ?_
  refine reg ?_
  refine st tbOk 1 [0] (L' := [(0, .slice ao1 p_l.length cp1)]) hf (by kernel_rfl) ?_
  clear hf; clear a; intro a hf
  refine wpList_nil ?_
  refine sq ?_
  refine reg ?_
  have hT := of_bd hS; clear hS; obtain ⟨z1, hz1, hS⟩ := hT
  refine clV ent15 (vs := []) (caps := []) hf (by kernel_rfl) (by kernel_rfl) (by kernel_rfl) (by kernel_rfl) (law02_awake_ok (hs.enter [] rfl rfl) hz1) ?_
  clear hf; clear a; intro v w1 a hT hf; obtain ⟨F1, rfl, hr⟩ := hT
  replace hs : Sep w F R w1 F1 [.ro tS (.slice ao1 p_l.length cp1) p_l] := hs.back [] [0] rfl rfl rfl rfl hr
  clear hr
  replace hf := Fr.keep (ks := [0, 13]) (L' := [(0, .slice ao1 p_l.length cp1), (13, .bool z1)]) hf (by kernel_rfl)
  refine st tbOk 1 [0, 3] (L' := [(0, .slice ao1 p_l.length cp1), (3, .bool z1)]) hf (by kernel_rfl) ?_
  clear hf; clear a; intro a hf
  refine wpList_nil ?_
  refine sq ?_
  refine sq ?_
  refine reg ?_
  refine st tbOk 2 [0, 15] (L' := [(0, .slice ao1 p_l.length cp1), (15, .bool (!z1))]) hf (by kernel_rfl) ?_
  clear hf; clear a; intro a hf
  refine wpList_nil ?_
  refine cnd (b := !z1) hf (by kernel_rfl) (fun hb1 => ?_) (fun hb1 => ?_)
  · replace hS := of_t hb1 hS
    refine sq ?_
    refine reg ?_
    refine st tbOk 1 [2] (L' := [(2, .bool false)]) hf (by kernel_rfl) ?_
    clear hf; clear a; intro a hf
    refine wpList_nil ?_
    have hr := Option.some.inj hS; subst hr
    refine wp_ret ?_
    exact ret_ok hf (vs := [.bool false]) (by kernel_rfl) ⟨_, rfl, hs.sel [] rfl rfl⟩
  · replace hS := of_f hb1 hS
    refine wp_skip ?_
    refine sq ?_
    refine reg ?_
    refine st tbOk 1 [0, 16] (L' := [(0, .slice ao1 p_l.length cp1), (16, .slice ao1 p_l.length cp1)]) hf (by kernel_rfl) ?_
    clear hf; clear a; intro a hf
    have hT := of_bd hS; clear hS; obtain ⟨z2, hz2, hS⟩ := hT
    refine clV ent20 (vs := [.slice ao1 p_l.length cp1]) (caps := []) hf (by kernel_rfl) (by kernel_rfl) (by kernel_rfl) (by kernel_rfl) (law02_long_ok (p_l := p_l) (hs.enter [0] rfl rfl) hz2) ?_
    clear hf; clear a; intro v w2 a hT hf; obtain ⟨F2, rfl, hr⟩ := hT
    replace hs : Sep w F R w2 F2 [.ro tS (.slice ao1 p_l.length cp1) p_l] := hs.back [0] [0] rfl rfl rfl rfl hr
    clear hr
    replace hf := Fr.keep (ks := [0, 17]) (L' := [(0, .slice ao1 p_l.length cp1), (17, .bool z2)]) hf (by kernel_rfl)
    refine st tbOk 1 [0, 4] (L' := [(0, .slice ao1 p_l.length cp1), (4, .bool z2)]) hf (by kernel_rfl) ?_
    clear hf; clear a; intro a hf
    refine wpList_nil ?_
    refine sq ?_
    refine sq ?_
    refine ctj (fun (s1 : Bool) (a : Act) (w' : World) => ∃ (F3 : SH), Sep w F R w' F3 [.ro tS (.slice ao1 p_l.length cp1) p_l] ∧ Fr 93 [(0, .slice ao1 p_l.length cp1), (23, .bool s1)] a) hS ?_ ?_
    · clear hS hf hs; clear a; intro s1 a w3 hM hS
      obtain ⟨F3, hs, hf⟩ := hM
      refine cnd (b := s1) hf (by kernel_rfl) (fun hb3 => ?_) (fun hb3 => ?_)
      · replace hS := of_t hb3 hS
        refine sq ?_
        refine reg ?_
        refine st tbOk 1 [2] (L' := [(2, .bool true)]) hf (by kernel_rfl) ?_
        clear hf; clear a; intro a hf
        refine wpList_nil ?_
        have hr := Option.some.inj hS; subst hr
        refine wp_ret ?_
        exact ret_ok hf (vs := [.bool true]) (by kernel_rfl) ⟨_, rfl, hs.sel [] rfl rfl⟩
      · replace hS := of_f hb3 hS
        refine wp_skip ?_
        refine sq ?_
        refine reg ?_
        refine st tbOk 1 [0, 5] (L' := [(0, .slice ao1 p_l.length cp1), (5, .slice none 0 0)]) hf (by kernel_rfl) ?_
        clear hf; clear a; intro a hf
        refine wpList_nil ?_
        refine sq ?_
        refine reg ?_
        refine st tbOk 2 [0, 24, 25] (L' := [(0, .slice ao1 p_l.length cp1), (24, .slice none 0 0), (25, .slice ao1 p_l.length cp1)]) hf (by kernel_rfl) ?_
        clear hf; clear a; intro a hf
        have hT := of_gd hS; clear hS; obtain ⟨hc1, hS⟩ := hT
        replace hs : Sep w F R w3 F3 [.row 9 tS (.slice none 0 0) ([] : List (List UInt8)), .ro tS (.slice ao1 p_l.length cp1) p_l] := hs.addNil 9 tS
        refine apR tbOk u30 i9 rfl rfl rfl rfl hs.le (hs.own 0 rfl) (hs.raR 1 rfl) hc1 hf (by kernel_rfl) (by kernel_rfl) (by kernel_rfl) (by kernel_rfl) ?_
        clear hf; clear a; intro ao2 cp2 w4 a ho hg hl hf
        replace hs : Sep w F R w4 F3 [.row 9 tS (.slice ao2 (([] : List (List UInt8)) ++ p_l).length cp2) (([] : List (List UInt8)) ++ p_l), .ro tS (.slice ao1 p_l.length cp1) p_l] := hs.updRow 0 rfl ho hg hl
        clear ho hg hl
        replace hf := Fr.keep (ks := [0, 26]) (L' := [(0, .slice ao1 p_l.length cp1), (26, .slice ao2 (([] : List (List UInt8)) ++ p_l).length cp2)]) hf (by kernel_rfl)
        refine st tbOk 1 [0, 5] (L' := [(0, .slice ao1 p_l.length cp1), (5, .slice ao2 (([] : List (List UInt8)) ++ p_l).length cp2)]) hf (by kernel_rfl) ?_
        clear hf; clear a; intro a hf
        refine wpList_nil ?_
        refine sq ?_
        refine reg ?_
        refine st tbOk 2 [0, 27, 28] (L' := [(0, .slice ao1 p_l.length cp1), (27, .slice ao2 (([] : List (List UInt8)) ++ p_l).length cp2), (28, .slice ao1 p_l.length cp1)]) hf (by kernel_rfl) ?_
        clear hf; clear a; intro a hf
        have hT := of_gd hS; clear hS; obtain ⟨hc2, hS⟩ := hT
        refine apR tbOk u30 i9 rfl rfl rfl rfl hs.le (hs.own 0 rfl) (hs.raR 1 rfl) hc2 hf (by kernel_rfl) (by kernel_rfl) (by kernel_rfl) (by kernel_rfl) ?_
        clear hf; clear a; intro ao3 cp3 w5 a ho hg hl hf
        replace hs : Sep w F R w5 F3 [.row 9 tS (.slice ao3 ((([] : List (List UInt8)) ++ p_l) ++ p_l).length cp3) ((([] : List (List UInt8)) ++ p_l) ++ p_l), .ro tS (.slice ao1 p_l.length cp1) p_l] := hs.updRow 0 rfl ho hg hl
        clear ho hg hl
        replace hf := Fr.keep (ks := [0, 29]) (L' := [(0, .slice ao1 p_l.length cp1), (29, .slice ao3 ((([] : List (List UInt8)) ++ p_l) ++ p_l).length cp3)]) hf (by kernel_rfl)
        refine st tbOk 1 [0, 5] (L' := [(0, .slice ao1 p_l.length cp1), (5, .slice ao3 ((([] : List (List UInt8)) ++ p_l) ++ p_l).length cp3)]) hf (by kernel_rfl) ?_
        clear hf; clear a; intro a hf
        refine wpList_nil ?_
        refine sq ?_
        refine reg ?_
        refine st tbOk 1 [5, 31] (L' := [(5, .slice ao3 ((([] : List (List UInt8)) ++ p_l) ++ p_l).length cp3), (31, .slice ao1 p_l.length cp1)]) hf (by kernel_rfl) ?_
        clear hf; clear a; intro a hf
        have hT := of_bd hS; clear hS; obtain ⟨z3, hz3, hS⟩ := hT
        refine clV ent21 (vs := [.slice ao1 p_l.length cp1]) (caps := []) hf (by kernel_rfl) (by kernel_rfl) (by kernel_rfl) (by kernel_rfl) (names_Build_ok (p_l := p_l) (hs.enter [1] rfl rfl) hz3) ?_
        clear hf; clear a; intro v w6 a hT hf; obtain ⟨ao4, cp4, ao5, cp5, F4, rfl, hr⟩ := hT
        replace hs : Sep w F R w6 F4 [.row 5 (tI .u8) (.slice ao4 z3.1.length cp4) z3.1, .row 23 (tI .u64) (.slice ao5 z3.2.1.length cp5) z3.2.1, .row 9 tS (.slice ao3 ((([] : List (List UInt8)) ++ p_l) ++ p_l).length cp3) ((([] : List (List UInt8)) ++ p_l) ++ p_l), .ro tS (.slice ao1 p_l.length cp1) p_l] := hs.back [1] [0, 1] rfl rfl rfl rfl hr
        clear hr
        replace hs : Sep w F R w6 F4 [.row 5 (tI .u8) (.slice ao4 z3.1.length cp4) z3.1, .row 23 (tI .u64) (.slice ao5 z3.2.1.length cp5) z3.2.1, .row 9 tS (.slice ao3 ((([] : List (List UInt8)) ++ p_l) ++ p_l).length cp3) ((([] : List (List UInt8)) ++ p_l) ++ p_l)] := hs.sel [0, 1, 2] rfl rfl
        replace hf := Fr.keep (ks := [5, 32]) (L' := [(5, .slice ao3 ((([] : List (List UInt8)) ++ p_l) ++ p_l).length cp3), (32, .tuple #[.slice ao4 z3.1.length cp4, .slice ao5 z3.2.1.length cp5, .int .i64 z3.2.2])]) hf (by kernel_rfl)
        refine st tbOk 7 [5, 6, 7, 8] (L' := [(5, .slice ao3 ((([] : List (List UInt8)) ++ p_l) ++ p_l).length cp3), (6, .slice ao4 z3.1.length cp4), (7, .slice ao5 z3.2.1.length cp5), (8, .int .i64 z3.2.2)]) hf (by kernel_rfl) ?_
        clear hf; clear a; intro a hf
        refine wpList_nil ?_
        refine sq ?_
        refine reg ?_
        refine st tbOk 1 [6, 7, 8, 37] (L' := [(6, .slice ao4 z3.1.length cp4), (7, .slice ao5 z3.2.1.length cp5), (8, .int .i64 z3.2.2), (37, .slice ao3 ((([] : List (List UInt8)) ++ p_l) ++ p_l).length cp3)]) hf (by kernel_rfl) ?_
        clear hf; clear a; intro a hf
        have hT := of_bd hS; clear hS; obtain ⟨z4, hz4, hS⟩ := hT
        refine clV ent21 (vs := [.slice ao3 ((([] : List (List UInt8)) ++ p_l) ++ p_l).length cp3]) (caps := []) hf (by kernel_rfl) (by kernel_rfl) (by kernel_rfl) (by kernel_rfl) (names_Build_ok (p_l := ((([] : List (List UInt8)) ++ p_l) ++ p_l)) (hs.lend [2] [] rfl rfl rfl rfl rfl) hz4) ?_
        clear hf; clear a; intro v w7 a hT hf; obtain ⟨ao6, cp6, ao7, cp7, F5, rfl, hr⟩ := hT
        replace hs : Sep w F R w7 F4 [.row 5 (tI .u8) (.slice ao6 z4.1.length cp6) z4.1, .row 23 (tI .u64) (.slice ao7 z4.2.1.length cp7) z4.2.1, .row 5 (tI .u8) (.slice ao4 z3.1.length cp4) z3.1, .row 23 (tI .u64) (.slice ao5 z3.2.1.length cp5) z3.2.1, .row 9 tS (.slice ao3 ((([] : List (List UInt8)) ++ p_l) ++ p_l).length cp3) ((([] : List (List UInt8)) ++ p_l) ++ p_l)] := hs.backL [2] [] [0, 1, 2] rfl rfl rfl rfl rfl rfl hr ⟨(flat_I .u8), ⟨(flat_I .u64), trivial⟩⟩
        clear hr
        replace hs : Sep w F R w7 F4 [.row 5 (tI .u8) (.slice ao6 z4.1.length cp6) z4.1, .row 23 (tI .u64) (.slice ao7 z4.2.1.length cp7) z4.2.1, .row 5 (tI .u8) (.slice ao4 z3.1.length cp4) z3.1, .row 23 (tI .u64) (.slice ao5 z3.2.1.length cp5) z3.2.1] := hs.sel [0, 1, 2, 3] rfl rfl
        replace hf := Fr.keep (ks := [6, 7, 8, 38]) (L' := [(6, .slice ao4 z3.1.length cp4), (7, .slice ao5 z3.2.1.length cp5), (8, .int .i64 z3.2.2), (38, .tuple #[.slice ao6 z4.1.length cp6, .slice ao7 z4.2.1.length cp7, .int .i64 z4.2.2])]) hf (by kernel_rfl)
        refine st tbOk 7 [6, 7, 8, 9, 10, 11] (L' := [(6, .slice ao4 z3.1.length cp4), (7, .slice ao5 z3.2.1.length cp5), (8, .int .i64 z3.2.2), (9, .slice ao6 z4.1.length cp6), (10, .slice ao7 z4.2.1.length cp7), (11, .int .i64 z4.2.2)]) hf (by kernel_rfl) ?_
        clear hf; clear a; intro a hf
        refine wpList_nil ?_
        refine sq ?_
        refine sq ?_
        refine ctj (fun (s2 : Bool) (a : Act) (w' : World) => ∃ (F6 : SH), Sep w F R w' F6 [.row 23 (tI .u64) (.slice ao7 z4.2.1.length cp7) z4.2.1, .row 23 (tI .u64) (.slice ao5 z3.2.1.length cp5) z3.2.1] ∧ Fr 93 [(7, .slice ao5 z3.2.1.length cp5), (10, .slice ao7 z4.2.1.length cp7), (63, .bool s2)] a) hS ?_ ?_
        · clear hS hf hs; clear a; intro s2 a w8 hM hS
          obtain ⟨F6, hs, hf⟩ := hM
          refine cnd (b := s2) hf (by kernel_rfl) (fun hb7 => ?_) (fun hb7 => ?_)
          · replace hS := of_t hb7 hS
            refine sq ?_
            refine reg ?_
            refine st tbOk 1 [2] (L' := [(2, .bool false)]) hf (by kernel_rfl) ?_
            clear hf; clear a; intro a hf
            refine wpList_nil ?_
            have hr := Option.some.inj hS; subst hr
            refine wp_ret ?_
            exact ret_ok hf (vs := [.bool false]) (by kernel_rfl) ⟨_, rfl, hs.sel [] rfl rfl⟩
          · replace hS := of_f hb7 hS
            refine wp_skip ?_
            refine sq ?_
            refine sq ?_
            refine reg ?_
            refine st tbOk 1 [7, 10, 12] (L' := [(7, .slice ao5 z3.2.1.length cp5), (10, .slice ao7 z4.2.1.length cp7), (12, .int .i64 0)]) hf (by kernel_rfl) ?_
            clear hf; clear a; intro a hf
            refine wpList_nil ?_
            refine ctj (fun (s3 : Unit) (a : Act) (w' : World) => ∃ (F7 : SH), Sep w F R w' F7 [] ∧ Fr 93 [] a) hS ?_ ?_
            · clear hS hf hs; clear a; intro s3 a w13 hM hS
              obtain ⟨F7, hs, hf⟩ := hM
              refine sq ?_
              refine reg ?_
              refine st tbOk 1 [2] (L' := [(2, .bool true)]) hf (by kernel_rfl) ?_
              clear hf; clear a; intro a hf
              refine wpList_nil ?_
              have hr := Option.some.inj hS; subst hr
              refine wp_ret ?_
              exact ret_ok hf (vs := [.bool true]) (by kernel_rfl) ⟨_, rfl, hs.sel [] rfl rfl⟩
            · clear hS; intro KK3 k3 hK3 hS
              refine blk ?_
              refine lp (st := 0) (fun (s4 : Int) (a : Act) (w' : World) => ∃ (F8 : SH), Sep w F R w' F8 [.row 23 (tI .u64) (.slice ao7 z4.2.1.length cp7) z4.2.1, .row 23 (tI .u64) (.slice ao5 z3.2.1.length cp5) z3.2.1] ∧ Fr 93 [(7, .slice ao5 z3.2.1.length cp5), (10, .slice ao7 z4.2.1.length cp7), (12, .int .i64 s4)] a) ?_ ⟨_, hs.sel [0, 1] rfl rfl, hf.keep (ks := [7, 10, 12]) (by kernel_rfl)⟩ hS
              clear hS hf hs; clear a
              intro rec1 KK4 hK4 s4 a w9 hM hS
              obtain ⟨F8, hs, hf⟩ := hM
              refine sq ?_
              refine sq ?_
              refine reg ?_
              refine st tbOk 4 [7, 10, 12, 67] (L' := [(7, .slice ao5 z3.2.1.length cp5), (10, .slice ao7 z4.2.1.length cp7), (12, .int .i64 s4), (67, .bool (decide (s4 < ((z3.2.1.length : Nat) : Int))))]) hf (by kernel_rfl) ?_
              clear hf; clear a; intro a hf
              refine wpList_nil ?_
              refine cnd (b := decide (s4 < ((z3.2.1.length : Nat) : Int))) hf (by kernel_rfl) (fun hb8 => ?_) (fun hb8 => ?_)
              · replace hS := of_t hb8 hS
                refine wp_skip ?_
                refine sq ?_
                refine blk ?_
                refine sq ?_
                refine ctj (fun (s5 : Bool) (a : Act) (w' : World) => ∃ (F9 : SH), Sep w F R w' F9 [.row 23 (tI .u64) (.slice ao7 z4.2.1.length cp7) z4.2.1, .row 23 (tI .u64) (.slice ao5 z3.2.1.length cp5) z3.2.1] ∧ Fr 93 [(7, .slice ao5 z3.2.1.length cp5), (10, .slice ao7 z4.2.1.length cp7), (12, .int .i64 s4), (92, .bool s5)] a) hS ?_ ?_
                · clear hS hf hs; clear a; intro s5 a w12 hM hS
                  obtain ⟨F9, hs, hf⟩ := hM
                  refine cnd (b := s5) hf (by kernel_rfl) (fun hb10 => ?_) (fun hb10 => ?_)
                  · replace hS := of_t hb10 hS
                    refine sq ?_
                    refine reg ?_
                    refine st tbOk 1 [2] (L' := [(2, .bool false)]) hf (by kernel_rfl) ?_
                    clear hf; clear a; intro a hf
                    refine wpList_nil ?_
                    have hr := Option.some.inj hS; subst hr
                    refine wp_ret ?_
                    exact ret_ok hf (vs := [.bool false]) (by kernel_rfl) ⟨_, rfl, hs.sel [] rfl rfl⟩
                  · replace hS := of_f hb10 hS
                    refine wp_skip ?_
                    refine reg ?_
                    have hT := of_let hS; clear hS; obtain ⟨i_1, hl1, hS⟩ := hT
                    refine st tbOk 3 [7, 10, 12] (L' := [(7, .slice ao5 z3.2.1.length cp5), (10, .slice ao7 z4.2.1.length cp7), (12, .int .i64 i_1)]) hf (by subst hl1; kernel_rfl) ?_
                    clear hf; clear a; intro a hf
                    refine wpList_nil ?_
                    exact hK4 i_1 _ _ ⟨_, hs.sel [0, 1] rfl rfl, hf.keep (ks := [7, 10, 12]) (by kernel_rfl)⟩ hS
                · clear hS; intro KK5 k4 hK5 hS
                  refine regQ mixed (by kernel_rfl) ?_
                  refine stQ tbOk 2 [7, 10, 12, 70, 71] (L' := [(7, .slice ao5 z3.2.1.length cp5), (10, .slice ao7 z4.2.1.length cp7), (12, .int .i64 s4), (70, .slice ao7 z4.2.1.length cp7), (71, .int .i64 s4)]) hf (by kernel_rfl) ?_
                  clear hf; clear a; intro a hf
                  have hT := of_gd hS; clear hS; obtain ⟨hc3, hS⟩ := hT
                  refine ixRQ tbOk u32 i23 rfl rfl (hs.raW 0 rfl) (k := .i64) (n := s4) hc3 hf (by kernel_rfl) (by kernel_rfl) (by kernel_rfl) (by kernel_rfl) ?_
                  clear hf; clear a; intro pb1 po1 c1 a hp1 hr1 hf
                  obtain rfl : c1 = [.int .u64 (gt z4.2.1 s4)] := hr1
                  replace hf := Fr.keep (ks := [7, 10, 12, 72]) (L' := [(7, .slice ao5 z3.2.1.length cp5), (10, .slice ao7 z4.2.1.length cp7), (12, .int .i64 s4), (72, .pointer (some ⟨pb1, po1, none⟩))]) hf (by kernel_rfl)
                  refine ldCQ tbOk (T := 23) hp1 (LeH.refl _) 0 (.int .u64 (gt z4.2.1 s4)) hf (by kernel_rfl) (by kernel_rfl) (by kernel_rfl) (by kernel_rfl) ?_
                  clear hf; clear a; intro a hf
                  replace hf := Fr.keep (ks := [7, 10, 12, 73]) (L' := [(7, .slice ao5 z3.2.1.length cp5), (10, .slice ao7 z4.2.1.length cp7), (12, .int .i64 s4), (73, .int .u64 (gt z4.2.1 s4))]) hf (by kernel_rfl)
                  refine stQ tbOk 2 [7, 10, 12, 73, 74, 75] (L' := [(7, .slice ao5 z3.2.1.length cp5), (10, .slice ao7 z4.2.1.length cp7), (12, .int .i64 s4), (73, .int .u64 (gt z4.2.1 s4)), (74, .slice ao5 z3.2.1.length cp5), (75, .int .i64 s4)]) hf (by kernel_rfl) ?_
                  clear hf; clear a; intro a hf
                  have hT := of_gd hS; clear hS; obtain ⟨hc4, hS⟩ := hT
                  refine ixRQ tbOk u32 i23 rfl rfl (hs.raW 1 rfl) (k := .i64) (n := s4) hc4 hf (by kernel_rfl) (by kernel_rfl) (by kernel_rfl) (by kernel_rfl) ?_
                  clear hf; clear a; intro pb2 po2 c2 a hp2 hr2 hf
                  obtain rfl : c2 = [.int .u64 (gt z3.2.1 s4)] := hr2
                  replace hf := Fr.keep (ks := [7, 10, 12, 73, 76]) (L' := [(7, .slice ao5 z3.2.1.length cp5), (10, .slice ao7 z4.2.1.length cp7), (12, .int .i64 s4), (73, .int .u64 (gt z4.2.1 s4)), (76, .pointer (some ⟨pb2, po2, none⟩))]) hf (by kernel_rfl)
                  refine ldCQ tbOk (T := 23) hp2 (LeH.refl _) 0 (.int .u64 (gt z3.2.1 s4)) hf (by kernel_rfl) (by kernel_rfl) (by kernel_rfl) (by kernel_rfl) ?_
                  clear hf; clear a; intro a hf
                  replace hf := Fr.keep (ks := [7, 10, 12, 73, 77]) (L' := [(7, .slice ao5 z3.2.1.length cp5), (10, .slice ao7 z4.2.1.length cp7), (12, .int .i64 s4), (73, .int .u64 (gt z4.2.1 s4)), (77, .int .u64 (gt z3.2.1 s4))]) hf (by kernel_rfl)
                  refine stQ tbOk 2 [7, 10, 12, 79] (L' := [(7, .slice ao5 z3.2.1.length cp5), (10, .slice ao7 z4.2.1.length cp7), (12, .int .i64 s4), (79, .bool ((gt z4.2.1 s4) != (gt z3.2.1 s4)))]) hf (by kernel_rfl) ?_
                  clear hf; clear a; intro a hf
                  rcases Bool.eq_false_or_eq_true ((gt z4.2.1 s4) != (gt z3.2.1 s4)) with hb9 | hb9
                  · replace hS := of_t hb9 hS
                    replace hf := Fr.cast (L' := [(7, .slice ao5 z3.2.1.length cp5), (10, .slice ao7 z4.2.1.length cp7), (12, .int .i64 s4), (79, .bool true)]) hf (by rw [hb9])
                    refine stQ tbOk 13 [7, 10, 12, 92] (L' := [(7, .slice ao5 z3.2.1.length cp5), (10, .slice ao7 z4.2.1.length cp7), (12, .int .i64 s4), (92, .bool true)]) hf (by kernel_rfl) ?_
                    clear hf; clear a; intro a hf
                    refine wpQuiet_nil ?_
                    intro w10 hx
                    replace hs : Sep w F R w10 F8 [.row 23 (tI .u64) (.slice ao7 z4.2.1.length cp7) z4.2.1, .row 23 (tI .u64) (.slice ao5 z3.2.1.length cp5) z3.2.1] := hs.ext hx
                    clear hx
                    exact hK5 true _ _ ⟨_, hs.sel [0, 1] rfl rfl, hf.keep (ks := [7, 10, 12, 92]) (by kernel_rfl)⟩ hS
                  · replace hS := of_f hb9 hS
                    replace hf := Fr.cast (L' := [(7, .slice ao5 z3.2.1.length cp5), (10, .slice ao7 z4.2.1.length cp7), (12, .int .i64 s4), (79, .bool false)]) hf (by rw [hb9])
                    refine stQ tbOk 5 [7, 10, 12, 79, 80, 84] (L' := [(7, .slice ao5 z3.2.1.length cp5), (10, .slice ao7 z4.2.1.length cp7), (12, .int .i64 s4), (79, .bool false), (80, .slice ao7 z4.2.1.length cp7), (84, .int .i64 (IntKind.i64.wrap (((z3.2.1.length : Nat) : Int) + s4)))]) hf (by kernel_rfl) ?_
                    clear hf; clear a; intro a hf
                    have hT := of_gd hS; clear hS; obtain ⟨hc5, hS⟩ := hT
                    refine ixRQ tbOk u32 i23 rfl rfl (hs.raW 0 rfl) (k := .i64) (n := IntKind.i64.wrap (((z3.2.1.length : Nat) : Int) + s4)) hc5 hf (by kernel_rfl) (by kernel_rfl) (by kernel_rfl) (by kernel_rfl) ?_
                    clear hf; clear a; intro pb3 po3 c3 a hp3 hr3 hf
                    obtain rfl : c3 = [.int .u64 (gt z4.2.1 (IntKind.i64.wrap (((z3.2.1.length : Nat) : Int) + s4)))] := hr3
                    replace hf := Fr.keep (ks := [7, 10, 12, 79, 85]) (L' := [(7, .slice ao5 z3.2.1.length cp5), (10, .slice ao7 z4.2.1.length cp7), (12, .int .i64 s4), (79, .bool false), (85, .pointer (some ⟨pb3, po3, none⟩))]) hf (by kernel_rfl)
                    refine ldCQ tbOk (T := 23) hp3 (LeH.refl _) 0 (.int .u64 (gt z4.2.1 (IntKind.i64.wrap (((z3.2.1.length : Nat) : Int) + s4)))) hf (by kernel_rfl) (by kernel_rfl) (by kernel_rfl) (by kernel_rfl) ?_
                    clear hf; clear a; intro a hf
                    replace hf := Fr.keep (ks := [7, 10, 12, 79, 86]) (L' := [(7, .slice ao5 z3.2.1.length cp5), (10, .slice ao7 z4.2.1.length cp7), (12, .int .i64 s4), (79, .bool false), (86, .int .u64 (gt z4.2.1 (IntKind.i64.wrap (((z3.2.1.length : Nat) : Int) + s4))))]) hf (by kernel_rfl)
                    refine stQ tbOk 2 [7, 10, 12, 79, 86, 87, 88] (L' := [(7, .slice ao5 z3.2.1.length cp5), (10, .slice ao7 z4.2.1.length cp7), (12, .int .i64 s4), (79, .bool false), (86, .int .u64 (gt z4.2.1 (IntKind.i64.wrap (((z3.2.1.length : Nat) : Int) + s4)))), (87, .slice ao5 z3.2.1.length cp5), (88, .int .i64 s4)]) hf (by kernel_rfl) ?_
                    clear hf; clear a; intro a hf
                    have hT := of_gd hS; clear hS; obtain ⟨hc6, hS⟩ := hT
                    refine ixRQ tbOk u32 i23 rfl rfl (hs.raW 1 rfl) (k := .i64) (n := s4) hc6 hf (by kernel_rfl) (by kernel_rfl) (by kernel_rfl) (by kernel_rfl) ?_
                    clear hf; clear a; intro pb4 po4 c4 a hp4 hr4 hf
                    obtain rfl : c4 = [.int .u64 (gt z3.2.1 s4)] := hr4
                    replace hf := Fr.keep (ks := [7, 10, 12, 79, 86, 89]) (L' := [(7, .slice ao5 z3.2.1.length cp5), (10, .slice ao7 z4.2.1.length cp7), (12, .int .i64 s4), (79, .bool false), (86, .int .u64 (gt z4.2.1 (IntKind.i64.wrap (((z3.2.1.length : Nat) : Int) + s4)))), (89, .pointer (some ⟨pb4, po4, none⟩))]) hf (by kernel_rfl)
                    refine ldCQ tbOk (T := 23) hp4 (LeH.refl _) 0 (.int .u64 (gt z3.2.1 s4)) hf (by kernel_rfl) (by kernel_rfl) (by kernel_rfl) (by kernel_rfl) ?_
                    clear hf; clear a; intro a hf
                    replace hf := Fr.keep (ks := [7, 10, 12, 79, 86, 90]) (L' := [(7, .slice ao5 z3.2.1.length cp5), (10, .slice ao7 z4.2.1.length cp7), (12, .int .i64 s4), (79, .bool false), (86, .int .u64 (gt z4.2.1 (IntKind.i64.wrap (((z3.2.1.length : Nat) : Int) + s4)))), (90, .int .u64 (gt z3.2.1 s4))]) hf (by kernel_rfl)
                    refine stQ tbOk 2 [7, 10, 12, 92] (L' := [(7, .slice ao5 z3.2.1.length cp5), (10, .slice ao7 z4.2.1.length cp7), (12, .int .i64 s4), (92, .bool ((gt z4.2.1 (IntKind.i64.wrap (((z3.2.1.length : Nat) : Int) + s4))) != (gt z3.2.1 s4)))]) hf (by kernel_rfl) ?_
                    clear hf; clear a; intro a hf
                    refine wpQuiet_nil ?_
                    intro w11 hx
                    replace hs : Sep w F R w11 F8 [.row 23 (tI .u64) (.slice ao7 z4.2.1.length cp7) z4.2.1, .row 23 (tI .u64) (.slice ao5 z3.2.1.length cp5) z3.2.1] := hs.ext hx
                    clear hx
                    exact hK5 ((gt z4.2.1 (IntKind.i64.wrap (((z3.2.1.length : Nat) : Int) + s4))) != (gt z3.2.1 s4)) _ _ ⟨_, hs.sel [0, 1] rfl rfl, hf.keep (ks := [7, 10, 12, 92]) (by kernel_rfl)⟩ hS
              · replace hS := of_f hb8 hS
                refine wp_exit ?_
                exact hK3 () _ _ ⟨_, hs.sel [] rfl rfl, hf.keep (ks := []) (by kernel_rfl)⟩ hS
        · clear hS; intro KK2 k2 hK2 hS
          refine reg ?_
          refine st tbOk 4 [6, 7, 8, 9, 10, 45] (L' := [(6, .slice ao4 z3.1.length cp4), (7, .slice ao5 z3.2.1.length cp5), (8, .int .i64 z3.2.2), (9, .slice ao6 z4.1.length cp6), (10, .slice ao7 z4.2.1.length cp7), (45, .bool (z3.2.2 != z4.2.2))]) hf (by kernel_rfl) ?_
          clear hf; clear a; intro a hf
          rcases Bool.eq_false_or_eq_true (z3.2.2 != z4.2.2) with hb4 | hb4
          · replace hS := of_t hb4 hS
            replace hf := Fr.cast (L' := [(6, .slice ao4 z3.1.length cp4), (7, .slice ao5 z3.2.1.length cp5), (8, .int .i64 z3.2.2), (9, .slice ao6 z4.1.length cp6), (10, .slice ao7 z4.2.1.length cp7), (45, .bool true)]) hf (by rw [hb4])
            refine st tbOk 18 [7, 10, 63] (L' := [(7, .slice ao5 z3.2.1.length cp5), (10, .slice ao7 z4.2.1.length cp7), (63, .bool true)]) hf (by kernel_rfl) ?_
            clear hf; clear a; intro a hf
            refine wpList_nil ?_
            exact hK2 true _ _ ⟨_, hs.sel [1, 3] rfl rfl, hf.keep (ks := [7, 10, 63]) (by kernel_rfl)⟩ hS
          · replace hS := of_f hb4 hS
            replace hf := Fr.cast (L' := [(6, .slice ao4 z3.1.length cp4), (7, .slice ao5 z3.2.1.length cp5), (8, .int .i64 z3.2.2), (9, .slice ao6 z4.1.length cp6), (10, .slice ao7 z4.2.1.length cp7), (45, .bool false)]) hf (by rw [hb4])
            refine st tbOk 1 [7, 8, 9, 10, 45, 46] (L' := [(7, .slice ao5 z3.2.1.length cp5), (8, .int .i64 z3.2.2), (9, .slice ao6 z4.1.length cp6), (10, .slice ao7 z4.2.1.length cp7), (45, .bool false), (46, .slice ao4 z3.1.length cp4)]) hf (by kernel_rfl) ?_
            clear hf; clear a; intro a hf
            refine b2sR tbOk u22 u5 u9 (hs.raW 2 rfl) hf (by kernel_rfl) (by kernel_rfl) (by kernel_rfl) ?_
            clear hf; clear a; intro a hf
            replace hs : Sep w F R w7 F4 [.row 5 (tI .u8) (.slice ao6 z4.1.length cp6) z4.1, .row 23 (tI .u64) (.slice ao7 z4.2.1.length cp7) z4.2.1, .row 23 (tI .u64) (.slice ao5 z3.2.1.length cp5) z3.2.1] := hs.sel [0, 1, 3] rfl rfl
            replace hf := Fr.keep (ks := [7, 8, 9, 10, 45, 47]) (L' := [(7, .slice ao5 z3.2.1.length cp5), (8, .int .i64 z3.2.2), (9, .slice ao6 z4.1.length cp6), (10, .slice ao7 z4.2.1.length cp7), (45, .bool false), (47, strV (toStr z3.1))]) hf (by kernel_rfl)
            refine st tbOk 1 [7, 8, 10, 45, 47, 48] (L' := [(7, .slice ao5 z3.2.1.length cp5), (8, .int .i64 z3.2.2), (10, .slice ao7 z4.2.1.length cp7), (45, .bool false), (47, strV (toStr z3.1)), (48, .slice ao6 z4.1.length cp6)]) hf (by kernel_rfl) ?_
            clear hf; clear a; intro a hf
            refine b2sR tbOk u22 u5 u9 (hs.raW 0 rfl) hf (by kernel_rfl) (by kernel_rfl) (by kernel_rfl) ?_
            clear hf; clear a; intro a hf
            replace hs : Sep w F R w7 F4 [.row 23 (tI .u64) (.slice ao7 z4.2.1.length cp7) z4.2.1, .row 23 (tI .u64) (.slice ao5 z3.2.1.length cp5) z3.2.1] := hs.sel [1, 2] rfl rfl
            replace hf := Fr.keep (ks := [7, 8, 10, 45, 47, 49]) (L' := [(7, .slice ao5 z3.2.1.length cp5), (8, .int .i64 z3.2.2), (10, .slice ao7 z4.2.1.length cp7), (45, .bool false), (47, strV (toStr z3.1)), (49, strV (toStr z4.1))]) hf (by kernel_rfl)
            refine st tbOk 3 [7, 8, 10, 52] (L' := [(7, .slice ao5 z3.2.1.length cp5), (8, .int .i64 z3.2.2), (10, .slice ao7 z4.2.1.length cp7), (52, .bool (!((toStr z3.1) == (toStr z4.1))))]) hf (by kernel_rfl) ?_
            clear hf; clear a; intro a hf
            rcases Bool.eq_false_or_eq_true (!((toStr z3.1) == (toStr z4.1))) with hb5 | hb5
            · replace hS := of_t hb5 hS
              replace hf := Fr.cast (L' := [(7, .slice ao5 z3.2.1.length cp5), (8, .int .i64 z3.2.2), (10, .slice ao7 z4.2.1.length cp7), (52, .bool true)]) hf (by rw [hb5])
              refine st tbOk 11 [7, 10, 63] (L' := [(7, .slice ao5 z3.2.1.length cp5), (10, .slice ao7 z4.2.1.length cp7), (63, .bool true)]) hf (by kernel_rfl) ?_
              clear hf; clear a; intro a hf
              refine wpList_nil ?_
              exact hK2 true _ _ ⟨_, hs.sel [0, 1] rfl rfl, hf.keep (ks := [7, 10, 63]) (by kernel_rfl)⟩ hS
            · replace hS := of_f hb5 hS
              replace hf := Fr.cast (L' := [(7, .slice ao5 z3.2.1.length cp5), (8, .int .i64 z3.2.2), (10, .slice ao7 z4.2.1.length cp7), (52, .bool false)]) hf (by rw [hb5])
              refine st tbOk 3 [7, 10, 52, 55] (L' := [(7, .slice ao5 z3.2.1.length cp5), (10, .slice ao7 z4.2.1.length cp7), (52, .bool false), (55, .bool (z3.2.2 == 0))]) hf (by kernel_rfl) ?_
              clear hf; clear a; intro a hf
              rcases Bool.eq_false_or_eq_true (z3.2.2 == 0) with hb6 | hb6
              · replace hS := of_t hb6 hS
                replace hf := Fr.cast (L' := [(7, .slice ao5 z3.2.1.length cp5), (10, .slice ao7 z4.2.1.length cp7), (52, .bool false), (55, .bool true)]) hf (by rw [hb6])
                refine st tbOk 8 [7, 10, 63] (L' := [(7, .slice ao5 z3.2.1.length cp5), (10, .slice ao7 z4.2.1.length cp7), (63, .bool (((z4.2.1.length : Nat) : Int) != (IntKind.i64.wrap (2 * ((z3.2.1.length : Nat) : Int)))))]) hf (by kernel_rfl) ?_
                clear hf; clear a; intro a hf
                refine wpList_nil ?_
                exact hK2 (((z4.2.1.length : Nat) : Int) != (IntKind.i64.wrap (2 * ((z3.2.1.length : Nat) : Int)))) _ _ ⟨_, hs.sel [0, 1] rfl rfl, hf.keep (ks := [7, 10, 63]) (by kernel_rfl)⟩ hS
              · replace hS := of_f hb6 hS
                replace hf := Fr.cast (L' := [(7, .slice ao5 z3.2.1.length cp5), (10, .slice ao7 z4.2.1.length cp7), (52, .bool false), (55, .bool false)]) hf (by rw [hb6])
                refine st tbOk 8 [7, 10, 63] (L' := [(7, .slice ao5 z3.2.1.length cp5), (10, .slice ao7 z4.2.1.length cp7), (63, .bool false)]) hf (by kernel_rfl) ?_
                clear hf; clear a; intro a hf
                refine wpList_nil ?_
                exact hK2 false _ _ ⟨_, hs.sel [0, 1] rfl rfl, hf.keep (ks := [7, 10, 63]) (by kernel_rfl)⟩ hS
    · clear hS; intro KK1 k1 hK1 hS
      refine reg ?_
      refine st tbOk 2 [0, 19] (L' := [(0, .slice ao1 p_l.length cp1), (19, .bool z2)]) hf (by kernel_rfl) ?_
      clear hf; clear a; intro a hf
      rcases Bool.eq_false_or_eq_true (z2) with hb2 | hb2
      · replace hS := of_t hb2 hS
        replace hf := Fr.cast (L' := [(0, .slice ao1 p_l.length cp1), (19, .bool true)]) hf (by rw [hb2])
        refine st tbOk 4 [0, 23] (L' := [(0, .slice ao1 p_l.length cp1), (23, .bool true)]) hf (by kernel_rfl) ?_
        clear hf; clear a; intro a hf
        refine wpList_nil ?_
        exact hK1 true _ _ ⟨_, hs.sel [0] rfl rfl, hf.keep (ks := [0, 23]) (by kernel_rfl)⟩ hS
      · replace hS := of_f hb2 hS
        replace hf := Fr.cast (L' := [(0, .slice ao1 p_l.length cp1), (19, .bool false)]) hf (by rw [hb2])
        refine st tbOk 4 [0, 23] (L' := [(0, .slice ao1 p_l.length cp1), (23, .bool (decide (((p_l.length : Nat) : Int) > 25)))]) hf (by kernel_rfl) ?_
        clear hf; clear a; intro a hf
        refine wpList_nil ?_
        exact hK1 (decide (((p_l.length : Nat) : Int) > 25)) _ _ ⟨_, hs.sel [0] rfl rfl, hf.keep (ks := [0, 23]) (by kernel_rfl)⟩ hS

end Dm
