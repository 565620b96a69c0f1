/-
  The walks: a call of each Go function gives what its shallow form gives, where that form gives something; printed by a program of this repo. No condition.
-/
import Derived.Test.YtljdbjimdidigaaWT
import Derived.Test.YtljdbjimdidigaaW4
import Derived.Test.YtljdbjimdidigaaW5
namespace Dm
open Go Go.RowKit Go.Proofs

set_option maxHeartbeats 4000000 in
theorem ref04_Check_ok {w : World} {F : SH} {p_l : List (Int × Int × Int × Int × Int × Int × Int)} {size : Int} {ao1 : Option Addr} {cp1 : Nat} (hs : Sep w F (blks [.ro ty24 (.slice ao1 p_l.length cp1) p_l]) w F [.ro ty24 (.slice ao1 p_l.length cp1) p_l]) {r : Int} (hS : ref04_Check p_l size = some r) :
    Calls Try.prog 19 [.slice ao1 p_l.length cp1, .int .u64 size].toArray w (Gives (fun u w' => ∃ (F' : SH), u = .int .i64 r ∧ Sep w F (blks [.ro ty24 (.slice ao1 p_l.length cp1) p_l]) w' F' [])) := by
  generalize (blks [.ro ty24 (.slice ao1 p_l.length cp1) p_l]) = R at hs ⊢
  unfold ref04_Check at hS
  refine fn_ok (vs := [.slice ao1 p_l.length cp1, .int .u64 size]) Try.func19 rfl 189 Try.ntmps19 (Nat.le_of_ble_eq_true rfl) ?_
  intro a hf
  replace hf := Fr.cast (L' := [(0, .slice ao1 p_l.length cp1), (1, .int .u64 size)]) hf (by kernel_rfl)
  refine sq ?_
  refine reg ?_
  refine st tbOk 1 [0, 1] (L' := [(0, .slice ao1 p_l.length cp1), (1, .int .u64 size)]) hf (by kernel_rfl) ?_
  clear hf; clear a; intro a hf
  refine wpList_nil ?_
  refine sq ?_
  refine sq ?_
  refine reg ?_
  refine st tbOk 1 [0, 1, 5] (L' := [(0, .slice ao1 p_l.length cp1), (1, .int .u64 size), (5, .int .i64 0)]) hf (by kernel_rfl) ?_
  clear hf; clear a; intro a hf
  refine wpList_nil ?_
  refine ctj (fun (s1 : Unit) (a : Act) (w' : World) => ∃ (F1 : SH), Sep w F R w' F1 [.ro ty24 (.slice ao1 p_l.length cp1) p_l] ∧ Fr 189 [(0, .slice ao1 p_l.length cp1)] a) hS ?_ ?_
  · clear hS hf hs; clear a; intro s1 a w12 hM hS
    obtain ⟨F1, hs, hf⟩ := hM
    refine sq ?_
    refine sq ?_
    refine reg ?_
    refine st tbOk 1 [0, 8] (L' := [(0, .slice ao1 p_l.length cp1), (8, .int .i64 0)]) hf (by kernel_rfl) ?_
    clear hf; clear a; intro a hf
    refine wpList_nil ?_
    refine ctj (fun (s8 : Unit) (a : Act) (w' : World) => ∃ (F9 : SH), Sep w F R w' F9 [] ∧ Fr 189 [] a) hS ?_ ?_
    · clear hS hf hs; clear a; intro s8 a w25 hM hS
      obtain ⟨F9, hs, hf⟩ := hM
      refine sq ?_
      refine reg ?_
      refine st tbOk 1 [4] (L' := [(4, .int .i64 0)]) hf (by kernel_rfl) ?_
      clear hf; clear a; intro a hf
      refine wpList_nil ?_
      have hr := Option.some.inj hS; subst hr
      refine wp_ret ?_
      exact ret_ok hf (vs := [.int .i64 0]) (by kernel_rfl) ⟨_, rfl, hs.sel [] rfl rfl⟩
    · clear hS; intro KK8 k6 hK8 hS
      refine blk ?_
      refine lp (st := 0) (fun (s9 : Int) (a : Act) (w' : World) => ∃ (F10 : SH), Sep w F R w' F10 [.ro ty24 (.slice ao1 p_l.length cp1) p_l] ∧ Fr 189 [(0, .slice ao1 p_l.length cp1), (8, .int .i64 s9)] a) ?_ ⟨_, hs.sel [0] rfl rfl, hf.keep (ks := [0, 8]) (by kernel_rfl)⟩ hS
      clear hS hf hs; clear a
      intro rec3 KK9 hK9 s9 a w13 hM hS
      obtain ⟨F10, hs, hf⟩ := hM
      refine sq ?_
      refine sq ?_
      refine reg ?_
      refine st tbOk 4 [0, 8, 87] (L' := [(0, .slice ao1 p_l.length cp1), (8, .int .i64 s9), (87, .bool (decide (s9 < ((p_l.length : Nat) : Int))))]) hf (by kernel_rfl) ?_
      clear hf; clear a; intro a hf
      refine wpList_nil ?_
      refine cnd (b := decide (s9 < ((p_l.length : Nat) : Int))) hf (by kernel_rfl) (fun hb10 => ?_) (fun hb10 => ?_)
      · replace hS := of_t hb10 hS
        refine wp_skip ?_
        refine sq ?_
        refine ctj (fun (s10 : Unit) (a : Act) (w' : World) => ∃ (F11 : SH), Sep w F R w' F11 [.ro ty24 (.slice ao1 p_l.length cp1) p_l] ∧ Fr 189 [(0, .slice ao1 p_l.length cp1), (8, .int .i64 s9)] a) hS ?_ ?_
        · clear hS hf hs; clear a; intro s10 a w24 hM hS
          obtain ⟨F11, hs, hf⟩ := hM
          refine reg ?_
          have hT := of_let hS; clear hS; obtain ⟨i_2, hl5, hS⟩ := hT
          refine st tbOk 3 [0, 8] (L' := [(0, .slice ao1 p_l.length cp1), (8, .int .i64 i_2)]) hf (by subst hl5; kernel_rfl) ?_
          clear hf; clear a; intro a hf
          refine wpList_nil ?_
          exact hK9 i_2 _ _ ⟨_, hs.sel [0] rfl rfl, hf.keep (ks := [0, 8]) (by kernel_rfl)⟩ hS
        · clear hS; intro KK10 k7 hK10 hS
          refine blk ?_
          refine sq ?_
          refine sq ?_
          refine ctj (fun (s11 : Bool) (a : Act) (w' : World) => ∃ (F12 : SH), Sep w F R w' F12 [.ro ty24 (.slice ao1 p_l.length cp1) p_l] ∧ Fr 189 [(0, .slice ao1 p_l.length cp1), (8, .int .i64 s9), (111, .bool s11)] a) hS ?_ ?_
          · clear hS hf hs; clear a; intro s11 a w14 hM hS
            obtain ⟨F12, hs, hf⟩ := hM
            refine cnd (b := s11) hf (by kernel_rfl) (fun hb13 => ?_) (fun hb13 => ?_)
            · replace hS := of_t hb13 hS
              refine wp_exit ?_
              exact hK10 () _ _ ⟨_, hs.sel [0] rfl rfl, hf.keep (ks := [0, 8]) (by kernel_rfl)⟩ hS
            · replace hS := of_f hb13 hS
              refine wp_skip ?_
              refine sq ?_
              refine reg ?_
              refine st tbOk 1 [0, 8, 9] (L' := [(0, .slice ao1 p_l.length cp1), (8, .int .i64 s9), (9, .bool false)]) hf (by kernel_rfl) ?_
              clear hf; clear a; intro a hf
              refine wpList_nil ?_
              refine sq ?_
              refine sq ?_
              refine reg ?_
              refine st tbOk 1 [0, 8, 9, 10] (L' := [(0, .slice ao1 p_l.length cp1), (8, .int .i64 s9), (9, .bool false), (10, .int .i64 0)]) hf (by kernel_rfl) ?_
              clear hf; clear a; intro a hf
              refine wpList_nil ?_
              refine ctj (fun (s12 : Bool) (a : Act) (w' : World) => ∃ (F13 : SH), Sep w F R w' F13 [.ro ty24 (.slice ao1 p_l.length cp1) p_l] ∧ Fr 189 [(0, .slice ao1 p_l.length cp1), (8, .int .i64 s9), (9, .bool s12)] a) hS ?_ ?_
              · clear hS hf hs; clear a; intro s12 a w23 hM hS
                obtain ⟨F13, hs, hf⟩ := hM
                refine sq ?_
                refine reg ?_
                refine st tbOk 2 [0, 8, 188] (L' := [(0, .slice ao1 p_l.length cp1), (8, .int .i64 s9), (188, .bool (!s12))]) hf (by kernel_rfl) ?_
                clear hf; clear a; intro a hf
                refine wpList_nil ?_
                refine cnd (b := !s12) hf (by kernel_rfl) (fun hb19 => ?_) (fun hb19 => ?_)
                · replace hS := of_t hb19 hS
                  refine sq ?_
                  refine reg ?_
                  refine st tbOk 1 [4] (L' := [(4, .int .i64 11)]) hf (by kernel_rfl) ?_
                  clear hf; clear a; intro a hf
                  refine wpList_nil ?_
                  have hr := Option.some.inj hS; subst hr
                  refine wp_ret ?_
                  exact ret_ok hf (vs := [.int .i64 11]) (by kernel_rfl) ⟨_, rfl, hs.sel [] rfl rfl⟩
                · replace hS := of_f hb19 hS
                  refine wp_skip ?_
                  exact hK10 () _ _ ⟨_, hs.sel [0] rfl rfl, hf.keep (ks := [0, 8]) (by kernel_rfl)⟩ hS
              · clear hS; intro KK12 k9 hK12 hS
                refine blk ?_
                refine lp (st := (false, 0)) (fun (s13 : Bool × Int) (a : Act) (w' : World) => ∃ (F14 : SH), Sep w F R w' F14 [.ro ty24 (.slice ao1 p_l.length cp1) p_l] ∧ Fr 189 [(0, .slice ao1 p_l.length cp1), (8, .int .i64 s9), (9, .bool s13.1), (10, .int .i64 s13.2)] a) ?_ ⟨_, hs.sel [0] rfl rfl, hf.keep (ks := [0, 8, 9, 10]) (by kernel_rfl)⟩ hS
                clear hS hf hs; clear a
                intro rec4 KK13 hK13 s13 a w15 hM hS
                obtain ⟨F14, hs, hf⟩ := hM
                refine sq ?_
                refine sq ?_
                refine reg ?_
                refine st tbOk 4 [0, 8, 9, 10, 115] (L' := [(0, .slice ao1 p_l.length cp1), (8, .int .i64 s9), (9, .bool s13.1), (10, .int .i64 s13.2), (115, .bool (decide (s13.2 < ((p_l.length : Nat) : Int))))]) hf (by kernel_rfl) ?_
                clear hf; clear a; intro a hf
                refine wpList_nil ?_
                refine cnd (b := decide (s13.2 < ((p_l.length : Nat) : Int))) hf (by kernel_rfl) (fun hb14 => ?_) (fun hb14 => ?_)
                · replace hS := of_t hb14 hS
                  refine wp_skip ?_
                  refine sq ?_
                  refine ctj (fun (s14 : Bool) (a : Act) (w' : World) => ∃ (F15 : SH), Sep w F R w' F15 [.ro ty24 (.slice ao1 p_l.length cp1) p_l] ∧ Fr 189 [(0, .slice ao1 p_l.length cp1), (8, .int .i64 s9), (9, .bool s14), (10, .int .i64 s13.2)] a) hS ?_ ?_
                  · clear hS hf hs; clear a; intro s14 a w22 hM hS
                    obtain ⟨F15, hs, hf⟩ := hM
                    refine reg ?_
                    have hT := of_let hS; clear hS; obtain ⟨k_3, hl4, hS⟩ := hT
                    refine st tbOk 3 [0, 8, 9, 10] (L' := [(0, .slice ao1 p_l.length cp1), (8, .int .i64 s9), (9, .bool s14), (10, .int .i64 k_3)]) hf (by subst hl4; kernel_rfl) ?_
                    clear hf; clear a; intro a hf
                    refine wpList_nil ?_
                    exact hK13 (s14, k_3) _ _ ⟨_, hs.sel [0] rfl rfl, hf.keep (ks := [0, 8, 9, 10]) (by kernel_rfl)⟩ hS
                  · clear hS; intro KK14 k10 hK14 hS
                    refine blk ?_
                    refine sq ?_
                    refine ctj (fun (s15 : Bool) (a : Act) (w' : World) => ∃ (F16 : SH), Sep w F R w' F16 [.ro ty24 (.slice ao1 p_l.length cp1) p_l] ∧ Fr 189 [(0, .slice ao1 p_l.length cp1), (8, .int .i64 s9), (9, .bool s13.1), (10, .int .i64 s13.2), (186, .bool s15)] a) hS ?_ ?_
                    · clear hS hf hs; clear a; intro s15 a w20 hM hS
                      obtain ⟨F16, hs, hf⟩ := hM
                      refine ctj (fun (s16 : Bool) (a : Act) (w' : World) => ∃ (F17 : SH), Sep w F R w' F17 [.ro ty24 (.slice ao1 p_l.length cp1) p_l] ∧ Fr 189 [(0, .slice ao1 p_l.length cp1), (8, .int .i64 s9), (9, .bool s16), (10, .int .i64 s13.2)] a) hS ?_ ?_
                      · clear hS hf hs; clear a; intro s16 a w21 hM hS
                        obtain ⟨F17, hs, hf⟩ := hM
                        exact hK14 s16 _ _ ⟨_, hs.sel [0] rfl rfl, hf.keep (ks := [0, 8, 9, 10]) (by kernel_rfl)⟩ hS
                      · clear hS; intro KK16 k12 hK16 hS
                        refine cnd (b := s15) hf (by kernel_rfl) (fun hb18 => ?_) (fun hb18 => ?_)
                        · replace hS := of_t hb18 hS
                          refine reg ?_
                          refine st tbOk 1 [0, 8, 9, 10] (L' := [(0, .slice ao1 p_l.length cp1), (8, .int .i64 s9), (9, .bool true), (10, .int .i64 s13.2)]) hf (by kernel_rfl) ?_
                          clear hf; clear a; intro a hf
                          refine wpList_nil ?_
                          exact hK16 true _ _ ⟨_, hs.sel [0] rfl rfl, hf.keep (ks := [0, 8, 9, 10]) (by kernel_rfl)⟩ hS
                        · replace hS := of_f hb18 hS
                          refine wp_skip ?_
                          exact hK16 s13.1 _ _ ⟨_, hs.sel [0] rfl rfl, hf.keep (ks := [0, 8, 9, 10]) (by kernel_rfl)⟩ hS
                    · clear hS; intro KK15 k11 hK15 hS
                      refine regQ mixed (by kernel_rfl) ?_
                      refine stQ tbOk 2 [0, 8, 9, 10, 118, 119] (L' := [(0, .slice ao1 p_l.length cp1), (8, .int .i64 s9), (9, .bool s13.1), (10, .int .i64 s13.2), (118, .slice ao1 p_l.length cp1), (119, .int .i64 s13.2)]) hf (by kernel_rfl) ?_
                      clear hf; clear a; intro a hf
                      have hT := of_gd hS; clear hS; obtain ⟨hc14, hS⟩ := hT
                      refine ixRQ tbOk u33 i25 rfl rfl ((hs.ro 0 rfl).ra (LeH.refl _)) (k := .i64) (n := s13.2) hc14 hf (by kernel_rfl) (by kernel_rfl) (by kernel_rfl) (by kernel_rfl) ?_
                      clear hf; clear a; intro pb14 po14 c14 a hp14 hr14 hf
                      obtain rfl : c14 = [.int .u32 ((gt p_l s13.2).1), .int .u32 ((gt p_l s13.2).2.1), .int .u64 ((gt p_l s13.2).2.2.1), .int .u64 ((gt p_l s13.2).2.2.2.1), .int .u64 ((gt p_l s13.2).2.2.2.2.1), .int .u64 ((gt p_l s13.2).2.2.2.2.2.1), .int .u64 ((gt p_l s13.2).2.2.2.2.2.2)] := hr14
                      replace hs : Sep w F R w15 F14 [.cel pb14 po14 [.int .u32 ((gt p_l s13.2).1), .int .u32 ((gt p_l s13.2).2.1), .int .u64 ((gt p_l s13.2).2.2.1), .int .u64 ((gt p_l s13.2).2.2.2.1), .int .u64 ((gt p_l s13.2).2.2.2.2.1), .int .u64 ((gt p_l s13.2).2.2.2.2.2.1), .int .u64 ((gt p_l s13.2).2.2.2.2.2.2)], .ro ty24 (.slice ao1 p_l.length cp1) p_l] := hs.addCel hp14
                      replace hf := Fr.keep (ks := [0, 8, 9, 10, 120]) (L' := [(0, .slice ao1 p_l.length cp1), (8, .int .i64 s9), (9, .bool s13.1), (10, .int .i64 s13.2), (120, .pointer (some ⟨pb14, po14, none⟩))]) hf (by kernel_rfl)
                      refine stQ tbOk 1 [0, 8, 9, 10, 121] (L' := [(0, .slice ao1 p_l.length cp1), (8, .int .i64 s9), (9, .bool s13.1), (10, .int .i64 s13.2), (121, .pointer (some ⟨pb14, po14, none⟩))]) hf (by kernel_rfl) ?_
                      clear hf; clear a; intro a hf
                      refine ldCQ tbOk (T := 22) (hs.ccel 0 rfl) (LeH.refl _) 0 (.int .u32 ((gt p_l s13.2).1)) hf (by kernel_rfl) (by kernel_rfl) (by kernel_rfl) (by kernel_rfl) ?_
                      clear hf; clear a; intro a hf
                      replace hs : Sep w F R w15 F14 [.ro ty24 (.slice ao1 p_l.length cp1) p_l] := hs.sel [1] rfl rfl
                      replace hf := Fr.keep (ks := [0, 8, 9, 10, 122]) (L' := [(0, .slice ao1 p_l.length cp1), (8, .int .i64 s9), (9, .bool s13.1), (10, .int .i64 s13.2), (122, .int .u32 ((gt p_l s13.2).1))]) hf (by kernel_rfl)
                      refine stQ tbOk 2 [0, 8, 9, 10, 124] (L' := [(0, .slice ao1 p_l.length cp1), (8, .int .i64 s9), (9, .bool s13.1), (10, .int .i64 s13.2), (124, .bool (((gt p_l s13.2).1) == 1))]) hf (by kernel_rfl) ?_
                      clear hf; clear a; intro a hf
                      rcases Bool.eq_false_or_eq_true (((gt p_l s13.2).1) == 1) with hb15 | hb15
                      · replace hS := of_t hb15 hS
                        replace hf := Fr.cast (L' := [(0, .slice ao1 p_l.length cp1), (8, .int .i64 s9), (9, .bool s13.1), (10, .int .i64 s13.2), (124, .bool true)]) hf (by rw [hb15])
                        refine stQ tbOk 2 [0, 8, 9, 10, 124, 125, 126] (L' := [(0, .slice ao1 p_l.length cp1), (8, .int .i64 s9), (9, .bool s13.1), (10, .int .i64 s13.2), (124, .bool true), (125, .slice ao1 p_l.length cp1), (126, .int .i64 s9)]) hf (by kernel_rfl) ?_
                        clear hf; clear a; intro a hf
                        have hT := of_gd hS; clear hS; obtain ⟨hc15, hS⟩ := hT
                        refine ixRQ tbOk u33 i25 rfl rfl ((hs.ro 0 rfl).ra (LeH.refl _)) (k := .i64) (n := s9) hc15 hf (by kernel_rfl) (by kernel_rfl) (by kernel_rfl) (by kernel_rfl) ?_
                        clear hf; clear a; intro pb15 po15 c15 a hp15 hr15 hf
                        obtain rfl : c15 = [.int .u32 ((gt p_l s9).1), .int .u32 ((gt p_l s9).2.1), .int .u64 ((gt p_l s9).2.2.1), .int .u64 ((gt p_l s9).2.2.2.1), .int .u64 ((gt p_l s9).2.2.2.2.1), .int .u64 ((gt p_l s9).2.2.2.2.2.1), .int .u64 ((gt p_l s9).2.2.2.2.2.2)] := hr15
                        replace hs : Sep w F R w15 F14 [.cel pb15 po15 [.int .u32 ((gt p_l s9).1), .int .u32 ((gt p_l s9).2.1), .int .u64 ((gt p_l s9).2.2.1), .int .u64 ((gt p_l s9).2.2.2.1), .int .u64 ((gt p_l s9).2.2.2.2.1), .int .u64 ((gt p_l s9).2.2.2.2.2.1), .int .u64 ((gt p_l s9).2.2.2.2.2.2)], .ro ty24 (.slice ao1 p_l.length cp1) p_l] := hs.addCel hp15
                        replace hf := Fr.keep (ks := [0, 8, 9, 10, 124, 127]) (L' := [(0, .slice ao1 p_l.length cp1), (8, .int .i64 s9), (9, .bool s13.1), (10, .int .i64 s13.2), (124, .bool true), (127, .pointer (some ⟨pb15, po15, none⟩))]) hf (by kernel_rfl)
                        refine stQ tbOk 1 [0, 8, 9, 10, 124, 128] (L' := [(0, .slice ao1 p_l.length cp1), (8, .int .i64 s9), (9, .bool s13.1), (10, .int .i64 s13.2), (124, .bool true), (128, .pointer (some ⟨pb15, po15 + 2, none⟩))]) hf (by kernel_rfl) ?_
                        clear hf; clear a; intro a hf
                        refine ldCQ tbOk (T := 23) (hs.ccel 0 rfl) (LeH.refl _) 2 (.int .u64 ((gt p_l s9).2.2.1)) hf (by kernel_rfl) (by kernel_rfl) (by kernel_rfl) (by kernel_rfl) ?_
                        clear hf; clear a; intro a hf
                        replace hs : Sep w F R w15 F14 [.ro ty24 (.slice ao1 p_l.length cp1) p_l] := hs.sel [1] rfl rfl
                        replace hf := Fr.keep (ks := [0, 8, 9, 10, 124, 129]) (L' := [(0, .slice ao1 p_l.length cp1), (8, .int .i64 s9), (9, .bool s13.1), (10, .int .i64 s13.2), (124, .bool true), (129, .int .u64 ((gt p_l s9).2.2.1))]) hf (by kernel_rfl)
                        refine stQ tbOk 2 [0, 8, 9, 10, 124, 129, 130, 131] (L' := [(0, .slice ao1 p_l.length cp1), (8, .int .i64 s9), (9, .bool s13.1), (10, .int .i64 s13.2), (124, .bool true), (129, .int .u64 ((gt p_l s9).2.2.1)), (130, .slice ao1 p_l.length cp1), (131, .int .i64 s13.2)]) hf (by kernel_rfl) ?_
                        clear hf; clear a; intro a hf
                        have hT := of_gd hS; clear hS; obtain ⟨hc16, hS⟩ := hT
                        refine ixRQ tbOk u33 i25 rfl rfl ((hs.ro 0 rfl).ra (LeH.refl _)) (k := .i64) (n := s13.2) hc16 hf (by kernel_rfl) (by kernel_rfl) (by kernel_rfl) (by kernel_rfl) ?_
                        clear hf; clear a; intro pb16 po16 c16 a hp16 hr16 hf
                        obtain rfl : c16 = [.int .u32 ((gt p_l s13.2).1), .int .u32 ((gt p_l s13.2).2.1), .int .u64 ((gt p_l s13.2).2.2.1), .int .u64 ((gt p_l s13.2).2.2.2.1), .int .u64 ((gt p_l s13.2).2.2.2.2.1), .int .u64 ((gt p_l s13.2).2.2.2.2.2.1), .int .u64 ((gt p_l s13.2).2.2.2.2.2.2)] := hr16
                        replace hs : Sep w F R w15 F14 [.cel pb16 po16 [.int .u32 ((gt p_l s13.2).1), .int .u32 ((gt p_l s13.2).2.1), .int .u64 ((gt p_l s13.2).2.2.1), .int .u64 ((gt p_l s13.2).2.2.2.1), .int .u64 ((gt p_l s13.2).2.2.2.2.1), .int .u64 ((gt p_l s13.2).2.2.2.2.2.1), .int .u64 ((gt p_l s13.2).2.2.2.2.2.2)], .ro ty24 (.slice ao1 p_l.length cp1) p_l] := hs.addCel hp16
                        replace hf := Fr.keep (ks := [0, 8, 9, 10, 124, 129, 132]) (L' := [(0, .slice ao1 p_l.length cp1), (8, .int .i64 s9), (9, .bool s13.1), (10, .int .i64 s13.2), (124, .bool true), (129, .int .u64 ((gt p_l s9).2.2.1)), (132, .pointer (some ⟨pb16, po16, none⟩))]) hf (by kernel_rfl)
                        refine stQ tbOk 1 [0, 8, 9, 10, 124, 129, 133] (L' := [(0, .slice ao1 p_l.length cp1), (8, .int .i64 s9), (9, .bool s13.1), (10, .int .i64 s13.2), (124, .bool true), (129, .int .u64 ((gt p_l s9).2.2.1)), (133, .pointer (some ⟨pb16, po16 + 2, none⟩))]) hf (by kernel_rfl) ?_
                        clear hf; clear a; intro a hf
                        refine ldCQ tbOk (T := 23) (hs.ccel 0 rfl) (LeH.refl _) 2 (.int .u64 ((gt p_l s13.2).2.2.1)) hf (by kernel_rfl) (by kernel_rfl) (by kernel_rfl) (by kernel_rfl) ?_
                        clear hf; clear a; intro a hf
                        replace hs : Sep w F R w15 F14 [.ro ty24 (.slice ao1 p_l.length cp1) p_l] := hs.sel [1] rfl rfl
                        replace hf := Fr.keep (ks := [0, 8, 9, 10, 124, 129, 134]) (L' := [(0, .slice ao1 p_l.length cp1), (8, .int .i64 s9), (9, .bool s13.1), (10, .int .i64 s13.2), (124, .bool true), (129, .int .u64 ((gt p_l s9).2.2.1)), (134, .int .u64 ((gt p_l s13.2).2.2.1))]) hf (by kernel_rfl)
                        refine stQ tbOk 3 [0, 8, 9, 10, 137] (L' := [(0, .slice ao1 p_l.length cp1), (8, .int .i64 s9), (9, .bool s13.1), (10, .int .i64 s13.2), (137, .bool (decide (((gt p_l s9).2.2.1) ≥ ((gt p_l s13.2).2.2.1))))]) hf (by kernel_rfl) ?_
                        clear hf; clear a; intro a hf
                        rcases Bool.eq_false_or_eq_true (decide (((gt p_l s9).2.2.1) ≥ ((gt p_l s13.2).2.2.1))) with hb16 | hb16
                        · replace hS := of_t hb16 hS
                          replace hf := Fr.cast (L' := [(0, .slice ao1 p_l.length cp1), (8, .int .i64 s9), (9, .bool s13.1), (10, .int .i64 s13.2), (137, .bool true)]) hf (by rw [hb16])
                          refine stQ tbOk 2 [0, 8, 9, 10, 137, 138, 139] (L' := [(0, .slice ao1 p_l.length cp1), (8, .int .i64 s9), (9, .bool s13.1), (10, .int .i64 s13.2), (137, .bool true), (138, .slice ao1 p_l.length cp1), (139, .int .i64 s9)]) hf (by kernel_rfl) ?_
                          clear hf; clear a; intro a hf
                          have hT := of_gd hS; clear hS; obtain ⟨hc17, hS⟩ := hT
                          refine ixRQ tbOk u33 i25 rfl rfl ((hs.ro 0 rfl).ra (LeH.refl _)) (k := .i64) (n := s9) hc17 hf (by kernel_rfl) (by kernel_rfl) (by kernel_rfl) (by kernel_rfl) ?_
                          clear hf; clear a; intro pb17 po17 c17 a hp17 hr17 hf
                          obtain rfl : c17 = [.int .u32 ((gt p_l s9).1), .int .u32 ((gt p_l s9).2.1), .int .u64 ((gt p_l s9).2.2.1), .int .u64 ((gt p_l s9).2.2.2.1), .int .u64 ((gt p_l s9).2.2.2.2.1), .int .u64 ((gt p_l s9).2.2.2.2.2.1), .int .u64 ((gt p_l s9).2.2.2.2.2.2)] := hr17
                          replace hs : Sep w F R w15 F14 [.cel pb17 po17 [.int .u32 ((gt p_l s9).1), .int .u32 ((gt p_l s9).2.1), .int .u64 ((gt p_l s9).2.2.1), .int .u64 ((gt p_l s9).2.2.2.1), .int .u64 ((gt p_l s9).2.2.2.2.1), .int .u64 ((gt p_l s9).2.2.2.2.2.1), .int .u64 ((gt p_l s9).2.2.2.2.2.2)], .ro ty24 (.slice ao1 p_l.length cp1) p_l] := hs.addCel hp17
                          replace hf := Fr.keep (ks := [0, 8, 9, 10, 137, 140]) (L' := [(0, .slice ao1 p_l.length cp1), (8, .int .i64 s9), (9, .bool s13.1), (10, .int .i64 s13.2), (137, .bool true), (140, .pointer (some ⟨pb17, po17, none⟩))]) hf (by kernel_rfl)
                          refine stQ tbOk 1 [0, 8, 9, 10, 137, 141] (L' := [(0, .slice ao1 p_l.length cp1), (8, .int .i64 s9), (9, .bool s13.1), (10, .int .i64 s13.2), (137, .bool true), (141, .pointer (some ⟨pb17, po17 + 2, none⟩))]) hf (by kernel_rfl) ?_
                          clear hf; clear a; intro a hf
                          refine ldCQ tbOk (T := 23) (hs.ccel 0 rfl) (LeH.refl _) 2 (.int .u64 ((gt p_l s9).2.2.1)) hf (by kernel_rfl) (by kernel_rfl) (by kernel_rfl) (by kernel_rfl) ?_
                          clear hf; clear a; intro a hf
                          replace hs : Sep w F R w15 F14 [.ro ty24 (.slice ao1 p_l.length cp1) p_l] := hs.sel [1] rfl rfl
                          replace hf := Fr.keep (ks := [0, 8, 9, 10, 137, 142]) (L' := [(0, .slice ao1 p_l.length cp1), (8, .int .i64 s9), (9, .bool s13.1), (10, .int .i64 s13.2), (137, .bool true), (142, .int .u64 ((gt p_l s9).2.2.1))]) hf (by kernel_rfl)
                          refine stQ tbOk 2 [0, 8, 9, 10, 137, 142, 143, 144] (L' := [(0, .slice ao1 p_l.length cp1), (8, .int .i64 s9), (9, .bool s13.1), (10, .int .i64 s13.2), (137, .bool true), (142, .int .u64 ((gt p_l s9).2.2.1)), (143, .slice ao1 p_l.length cp1), (144, .int .i64 s9)]) hf (by kernel_rfl) ?_
                          clear hf; clear a; intro a hf
                          have hT := of_gd hS; clear hS; obtain ⟨hc18, hS⟩ := hT
                          refine ixRQ tbOk u33 i25 rfl rfl ((hs.ro 0 rfl).ra (LeH.refl _)) (k := .i64) (n := s9) hc18 hf (by kernel_rfl) (by kernel_rfl) (by kernel_rfl) (by kernel_rfl) ?_
                          clear hf; clear a; intro pb18 po18 c18 a hp18 hr18 hf
                          obtain rfl : c18 = [.int .u32 ((gt p_l s9).1), .int .u32 ((gt p_l s9).2.1), .int .u64 ((gt p_l s9).2.2.1), .int .u64 ((gt p_l s9).2.2.2.1), .int .u64 ((gt p_l s9).2.2.2.2.1), .int .u64 ((gt p_l s9).2.2.2.2.2.1), .int .u64 ((gt p_l s9).2.2.2.2.2.2)] := hr18
                          replace hs : Sep w F R w15 F14 [.cel pb18 po18 [.int .u32 ((gt p_l s9).1), .int .u32 ((gt p_l s9).2.1), .int .u64 ((gt p_l s9).2.2.1), .int .u64 ((gt p_l s9).2.2.2.1), .int .u64 ((gt p_l s9).2.2.2.2.1), .int .u64 ((gt p_l s9).2.2.2.2.2.1), .int .u64 ((gt p_l s9).2.2.2.2.2.2)], .ro ty24 (.slice ao1 p_l.length cp1) p_l] := hs.addCel hp18
                          replace hf := Fr.keep (ks := [0, 8, 9, 10, 137, 142, 145]) (L' := [(0, .slice ao1 p_l.length cp1), (8, .int .i64 s9), (9, .bool s13.1), (10, .int .i64 s13.2), (137, .bool true), (142, .int .u64 ((gt p_l s9).2.2.1)), (145, .pointer (some ⟨pb18, po18, none⟩))]) hf (by kernel_rfl)
                          refine stQ tbOk 1 [0, 8, 9, 10, 137, 142, 146] (L' := [(0, .slice ao1 p_l.length cp1), (8, .int .i64 s9), (9, .bool s13.1), (10, .int .i64 s13.2), (137, .bool true), (142, .int .u64 ((gt p_l s9).2.2.1)), (146, .pointer (some ⟨pb18, po18 + 4, none⟩))]) hf (by kernel_rfl) ?_
                          clear hf; clear a; intro a hf
                          refine ldCQ tbOk (T := 23) (hs.ccel 0 rfl) (LeH.refl _) 4 (.int .u64 ((gt p_l s9).2.2.2.2.1)) hf (by kernel_rfl) (by kernel_rfl) (by kernel_rfl) (by kernel_rfl) ?_
                          clear hf; clear a; intro a hf
                          replace hs : Sep w F R w15 F14 [.ro ty24 (.slice ao1 p_l.length cp1) p_l] := hs.sel [1] rfl rfl
                          replace hf := Fr.keep (ks := [0, 8, 9, 10, 137, 142, 147]) (L' := [(0, .slice ao1 p_l.length cp1), (8, .int .i64 s9), (9, .bool s13.1), (10, .int .i64 s13.2), (137, .bool true), (142, .int .u64 ((gt p_l s9).2.2.1)), (147, .int .u64 ((gt p_l s9).2.2.2.2.1))]) hf (by kernel_rfl)
                          refine stQ tbOk 3 [0, 8, 9, 10, 137, 148, 149, 150] (L' := [(0, .slice ao1 p_l.length cp1), (8, .int .i64 s9), (9, .bool s13.1), (10, .int .i64 s13.2), (137, .bool true), (148, .int .u64 (IntKind.u64.wrap (((gt p_l s9).2.2.1) + ((gt p_l s9).2.2.2.2.1)))), (149, .slice ao1 p_l.length cp1), (150, .int .i64 s13.2)]) hf (by kernel_rfl) ?_
                          clear hf; clear a; intro a hf
                          have hT := of_gd hS; clear hS; obtain ⟨hc19, hS⟩ := hT
                          refine ixRQ tbOk u33 i25 rfl rfl ((hs.ro 0 rfl).ra (LeH.refl _)) (k := .i64) (n := s13.2) hc19 hf (by kernel_rfl) (by kernel_rfl) (by kernel_rfl) (by kernel_rfl) ?_
                          clear hf; clear a; intro pb19 po19 c19 a hp19 hr19 hf
                          obtain rfl : c19 = [.int .u32 ((gt p_l s13.2).1), .int .u32 ((gt p_l s13.2).2.1), .int .u64 ((gt p_l s13.2).2.2.1), .int .u64 ((gt p_l s13.2).2.2.2.1), .int .u64 ((gt p_l s13.2).2.2.2.2.1), .int .u64 ((gt p_l s13.2).2.2.2.2.2.1), .int .u64 ((gt p_l s13.2).2.2.2.2.2.2)] := hr19
                          replace hs : Sep w F R w15 F14 [.cel pb19 po19 [.int .u32 ((gt p_l s13.2).1), .int .u32 ((gt p_l s13.2).2.1), .int .u64 ((gt p_l s13.2).2.2.1), .int .u64 ((gt p_l s13.2).2.2.2.1), .int .u64 ((gt p_l s13.2).2.2.2.2.1), .int .u64 ((gt p_l s13.2).2.2.2.2.2.1), .int .u64 ((gt p_l s13.2).2.2.2.2.2.2)], .ro ty24 (.slice ao1 p_l.length cp1) p_l] := hs.addCel hp19
                          replace hf := Fr.keep (ks := [0, 8, 9, 10, 137, 148, 151]) (L' := [(0, .slice ao1 p_l.length cp1), (8, .int .i64 s9), (9, .bool s13.1), (10, .int .i64 s13.2), (137, .bool true), (148, .int .u64 (IntKind.u64.wrap (((gt p_l s9).2.2.1) + ((gt p_l s9).2.2.2.2.1)))), (151, .pointer (some ⟨pb19, po19, none⟩))]) hf (by kernel_rfl)
                          refine stQ tbOk 1 [0, 8, 9, 10, 137, 148, 152] (L' := [(0, .slice ao1 p_l.length cp1), (8, .int .i64 s9), (9, .bool s13.1), (10, .int .i64 s13.2), (137, .bool true), (148, .int .u64 (IntKind.u64.wrap (((gt p_l s9).2.2.1) + ((gt p_l s9).2.2.2.2.1)))), (152, .pointer (some ⟨pb19, po19 + 2, none⟩))]) hf (by kernel_rfl) ?_
                          clear hf; clear a; intro a hf
                          refine ldCQ tbOk (T := 23) (hs.ccel 0 rfl) (LeH.refl _) 2 (.int .u64 ((gt p_l s13.2).2.2.1)) hf (by kernel_rfl) (by kernel_rfl) (by kernel_rfl) (by kernel_rfl) ?_
                          clear hf; clear a; intro a hf
                          replace hs : Sep w F R w15 F14 [.ro ty24 (.slice ao1 p_l.length cp1) p_l] := hs.sel [1] rfl rfl
                          replace hf := Fr.keep (ks := [0, 8, 9, 10, 137, 148, 153]) (L' := [(0, .slice ao1 p_l.length cp1), (8, .int .i64 s9), (9, .bool s13.1), (10, .int .i64 s13.2), (137, .bool true), (148, .int .u64 (IntKind.u64.wrap (((gt p_l s9).2.2.1) + ((gt p_l s9).2.2.2.2.1)))), (153, .int .u64 ((gt p_l s13.2).2.2.1))]) hf (by kernel_rfl)
                          refine stQ tbOk 2 [0, 8, 9, 10, 137, 148, 153, 154, 155] (L' := [(0, .slice ao1 p_l.length cp1), (8, .int .i64 s9), (9, .bool s13.1), (10, .int .i64 s13.2), (137, .bool true), (148, .int .u64 (IntKind.u64.wrap (((gt p_l s9).2.2.1) + ((gt p_l s9).2.2.2.2.1)))), (153, .int .u64 ((gt p_l s13.2).2.2.1)), (154, .slice ao1 p_l.length cp1), (155, .int .i64 s13.2)]) hf (by kernel_rfl) ?_
                          clear hf; clear a; intro a hf
                          have hT := of_gd hS; clear hS; obtain ⟨hc20, hS⟩ := hT
                          refine ixRQ tbOk u33 i25 rfl rfl ((hs.ro 0 rfl).ra (LeH.refl _)) (k := .i64) (n := s13.2) hc20 hf (by kernel_rfl) (by kernel_rfl) (by kernel_rfl) (by kernel_rfl) ?_
                          clear hf; clear a; intro pb20 po20 c20 a hp20 hr20 hf
                          obtain rfl : c20 = [.int .u32 ((gt p_l s13.2).1), .int .u32 ((gt p_l s13.2).2.1), .int .u64 ((gt p_l s13.2).2.2.1), .int .u64 ((gt p_l s13.2).2.2.2.1), .int .u64 ((gt p_l s13.2).2.2.2.2.1), .int .u64 ((gt p_l s13.2).2.2.2.2.2.1), .int .u64 ((gt p_l s13.2).2.2.2.2.2.2)] := hr20
                          replace hs : Sep w F R w15 F14 [.cel pb20 po20 [.int .u32 ((gt p_l s13.2).1), .int .u32 ((gt p_l s13.2).2.1), .int .u64 ((gt p_l s13.2).2.2.1), .int .u64 ((gt p_l s13.2).2.2.2.1), .int .u64 ((gt p_l s13.2).2.2.2.2.1), .int .u64 ((gt p_l s13.2).2.2.2.2.2.1), .int .u64 ((gt p_l s13.2).2.2.2.2.2.2)], .ro ty24 (.slice ao1 p_l.length cp1) p_l] := hs.addCel hp20
                          replace hf := Fr.keep (ks := [0, 8, 9, 10, 137, 148, 153, 156]) (L' := [(0, .slice ao1 p_l.length cp1), (8, .int .i64 s9), (9, .bool s13.1), (10, .int .i64 s13.2), (137, .bool true), (148, .int .u64 (IntKind.u64.wrap (((gt p_l s9).2.2.1) + ((gt p_l s9).2.2.2.2.1)))), (153, .int .u64 ((gt p_l s13.2).2.2.1)), (156, .pointer (some ⟨pb20, po20, none⟩))]) hf (by kernel_rfl)
                          refine stQ tbOk 1 [0, 8, 9, 10, 137, 148, 153, 157] (L' := [(0, .slice ao1 p_l.length cp1), (8, .int .i64 s9), (9, .bool s13.1), (10, .int .i64 s13.2), (137, .bool true), (148, .int .u64 (IntKind.u64.wrap (((gt p_l s9).2.2.1) + ((gt p_l s9).2.2.2.2.1)))), (153, .int .u64 ((gt p_l s13.2).2.2.1)), (157, .pointer (some ⟨pb20, po20 + 4, none⟩))]) hf (by kernel_rfl) ?_
                          clear hf; clear a; intro a hf
                          refine ldCQ tbOk (T := 23) (hs.ccel 0 rfl) (LeH.refl _) 4 (.int .u64 ((gt p_l s13.2).2.2.2.2.1)) hf (by kernel_rfl) (by kernel_rfl) (by kernel_rfl) (by kernel_rfl) ?_
                          clear hf; clear a; intro a hf
                          replace hs : Sep w F R w15 F14 [.ro ty24 (.slice ao1 p_l.length cp1) p_l] := hs.sel [1] rfl rfl
                          replace hf := Fr.keep (ks := [0, 8, 9, 10, 137, 148, 153, 158]) (L' := [(0, .slice ao1 p_l.length cp1), (8, .int .i64 s9), (9, .bool s13.1), (10, .int .i64 s13.2), (137, .bool true), (148, .int .u64 (IntKind.u64.wrap (((gt p_l s9).2.2.1) + ((gt p_l s9).2.2.2.2.1)))), (153, .int .u64 ((gt p_l s13.2).2.2.1)), (158, .int .u64 ((gt p_l s13.2).2.2.2.2.1))]) hf (by kernel_rfl)
                          refine stQ tbOk 4 [0, 8, 9, 10, 162] (L' := [(0, .slice ao1 p_l.length cp1), (8, .int .i64 s9), (9, .bool s13.1), (10, .int .i64 s13.2), (162, .bool (decide ((IntKind.u64.wrap (((gt p_l s9).2.2.1) + ((gt p_l s9).2.2.2.2.1))) ≤ (IntKind.u64.wrap (((gt p_l s13.2).2.2.1) + ((gt p_l s13.2).2.2.2.2.1))))))]) hf (by kernel_rfl) ?_
                          clear hf; clear a; intro a hf
                          rcases Bool.eq_false_or_eq_true (decide ((IntKind.u64.wrap (((gt p_l s9).2.2.1) + ((gt p_l s9).2.2.2.2.1))) ≤ (IntKind.u64.wrap (((gt p_l s13.2).2.2.1) + ((gt p_l s13.2).2.2.2.2.1))))) with hb17 | hb17
                          · replace hS := of_t hb17 hS
                            replace hf := Fr.cast (L' := [(0, .slice ao1 p_l.length cp1), (8, .int .i64 s9), (9, .bool s13.1), (10, .int .i64 s13.2), (162, .bool true)]) hf (by rw [hb17])
                            refine stQ tbOk 2 [0, 8, 9, 10, 162, 163, 164] (L' := [(0, .slice ao1 p_l.length cp1), (8, .int .i64 s9), (9, .bool s13.1), (10, .int .i64 s13.2), (162, .bool true), (163, .slice ao1 p_l.length cp1), (164, .int .i64 s9)]) hf (by kernel_rfl) ?_
                            clear hf; clear a; intro a hf
                            have hT := of_gd hS; clear hS; obtain ⟨hc21, hS⟩ := hT
                            refine ixRQ tbOk u33 i25 rfl rfl ((hs.ro 0 rfl).ra (LeH.refl _)) (k := .i64) (n := s9) hc21 hf (by kernel_rfl) (by kernel_rfl) (by kernel_rfl) (by kernel_rfl) ?_
                            clear hf; clear a; intro pb21 po21 c21 a hp21 hr21 hf
                            obtain rfl : c21 = [.int .u32 ((gt p_l s9).1), .int .u32 ((gt p_l s9).2.1), .int .u64 ((gt p_l s9).2.2.1), .int .u64 ((gt p_l s9).2.2.2.1), .int .u64 ((gt p_l s9).2.2.2.2.1), .int .u64 ((gt p_l s9).2.2.2.2.2.1), .int .u64 ((gt p_l s9).2.2.2.2.2.2)] := hr21
                            replace hs : Sep w F R w15 F14 [.cel pb21 po21 [.int .u32 ((gt p_l s9).1), .int .u32 ((gt p_l s9).2.1), .int .u64 ((gt p_l s9).2.2.1), .int .u64 ((gt p_l s9).2.2.2.1), .int .u64 ((gt p_l s9).2.2.2.2.1), .int .u64 ((gt p_l s9).2.2.2.2.2.1), .int .u64 ((gt p_l s9).2.2.2.2.2.2)], .ro ty24 (.slice ao1 p_l.length cp1) p_l] := hs.addCel hp21
                            replace hf := Fr.keep (ks := [0, 8, 9, 10, 162, 165]) (L' := [(0, .slice ao1 p_l.length cp1), (8, .int .i64 s9), (9, .bool s13.1), (10, .int .i64 s13.2), (162, .bool true), (165, .pointer (some ⟨pb21, po21, none⟩))]) hf (by kernel_rfl)
                            refine stQ tbOk 1 [0, 8, 9, 10, 162, 166] (L' := [(0, .slice ao1 p_l.length cp1), (8, .int .i64 s9), (9, .bool s13.1), (10, .int .i64 s13.2), (162, .bool true), (166, .pointer (some ⟨pb21, po21 + 3, none⟩))]) hf (by kernel_rfl) ?_
                            clear hf; clear a; intro a hf
                            refine ldCQ tbOk (T := 23) (hs.ccel 0 rfl) (LeH.refl _) 3 (.int .u64 ((gt p_l s9).2.2.2.1)) hf (by kernel_rfl) (by kernel_rfl) (by kernel_rfl) (by kernel_rfl) ?_
                            clear hf; clear a; intro a hf
                            replace hs : Sep w F R w15 F14 [.ro ty24 (.slice ao1 p_l.length cp1) p_l] := hs.sel [1] rfl rfl
                            replace hf := Fr.keep (ks := [0, 8, 9, 10, 162, 167]) (L' := [(0, .slice ao1 p_l.length cp1), (8, .int .i64 s9), (9, .bool s13.1), (10, .int .i64 s13.2), (162, .bool true), (167, .int .u64 ((gt p_l s9).2.2.2.1))]) hf (by kernel_rfl)
                            refine stQ tbOk 2 [0, 8, 9, 10, 162, 167, 168, 169] (L' := [(0, .slice ao1 p_l.length cp1), (8, .int .i64 s9), (9, .bool s13.1), (10, .int .i64 s13.2), (162, .bool true), (167, .int .u64 ((gt p_l s9).2.2.2.1)), (168, .slice ao1 p_l.length cp1), (169, .int .i64 s13.2)]) hf (by kernel_rfl) ?_
                            clear hf; clear a; intro a hf
                            have hT := of_gd hS; clear hS; obtain ⟨hc22, hS⟩ := hT
                            refine ixRQ tbOk u33 i25 rfl rfl ((hs.ro 0 rfl).ra (LeH.refl _)) (k := .i64) (n := s13.2) hc22 hf (by kernel_rfl) (by kernel_rfl) (by kernel_rfl) (by kernel_rfl) ?_
                            clear hf; clear a; intro pb22 po22 c22 a hp22 hr22 hf
                            obtain rfl : c22 = [.int .u32 ((gt p_l s13.2).1), .int .u32 ((gt p_l s13.2).2.1), .int .u64 ((gt p_l s13.2).2.2.1), .int .u64 ((gt p_l s13.2).2.2.2.1), .int .u64 ((gt p_l s13.2).2.2.2.2.1), .int .u64 ((gt p_l s13.2).2.2.2.2.2.1), .int .u64 ((gt p_l s13.2).2.2.2.2.2.2)] := hr22
                            replace hs : Sep w F R w15 F14 [.cel pb22 po22 [.int .u32 ((gt p_l s13.2).1), .int .u32 ((gt p_l s13.2).2.1), .int .u64 ((gt p_l s13.2).2.2.1), .int .u64 ((gt p_l s13.2).2.2.2.1), .int .u64 ((gt p_l s13.2).2.2.2.2.1), .int .u64 ((gt p_l s13.2).2.2.2.2.2.1), .int .u64 ((gt p_l s13.2).2.2.2.2.2.2)], .ro ty24 (.slice ao1 p_l.length cp1) p_l] := hs.addCel hp22
                            replace hf := Fr.keep (ks := [0, 8, 9, 10, 162, 167, 170]) (L' := [(0, .slice ao1 p_l.length cp1), (8, .int .i64 s9), (9, .bool s13.1), (10, .int .i64 s13.2), (162, .bool true), (167, .int .u64 ((gt p_l s9).2.2.2.1)), (170, .pointer (some ⟨pb22, po22, none⟩))]) hf (by kernel_rfl)
                            refine stQ tbOk 1 [0, 8, 9, 10, 162, 167, 171] (L' := [(0, .slice ao1 p_l.length cp1), (8, .int .i64 s9), (9, .bool s13.1), (10, .int .i64 s13.2), (162, .bool true), (167, .int .u64 ((gt p_l s9).2.2.2.1)), (171, .pointer (some ⟨pb22, po22 + 2, none⟩))]) hf (by kernel_rfl) ?_
                            clear hf; clear a; intro a hf
                            refine ldCQ tbOk (T := 23) (hs.ccel 0 rfl) (LeH.refl _) 2 (.int .u64 ((gt p_l s13.2).2.2.1)) hf (by kernel_rfl) (by kernel_rfl) (by kernel_rfl) (by kernel_rfl) ?_
                            clear hf; clear a; intro a hf
                            replace hs : Sep w F R w15 F14 [.ro ty24 (.slice ao1 p_l.length cp1) p_l] := hs.sel [1] rfl rfl
                            replace hf := Fr.keep (ks := [0, 8, 9, 10, 162, 167, 172]) (L' := [(0, .slice ao1 p_l.length cp1), (8, .int .i64 s9), (9, .bool s13.1), (10, .int .i64 s13.2), (162, .bool true), (167, .int .u64 ((gt p_l s9).2.2.2.1)), (172, .int .u64 ((gt p_l s13.2).2.2.1))]) hf (by kernel_rfl)
                            refine stQ tbOk 3 [0, 8, 9, 10, 162, 173, 174, 175] (L' := [(0, .slice ao1 p_l.length cp1), (8, .int .i64 s9), (9, .bool s13.1), (10, .int .i64 s13.2), (162, .bool true), (173, .int .u64 (IntKind.u64.wrap (((gt p_l s9).2.2.2.1) + ((gt p_l s13.2).2.2.1)))), (174, .slice ao1 p_l.length cp1), (175, .int .i64 s13.2)]) hf (by kernel_rfl) ?_
                            clear hf; clear a; intro a hf
                            have hT := of_gd hS; clear hS; obtain ⟨hc23, hS⟩ := hT
                            refine ixRQ tbOk u33 i25 rfl rfl ((hs.ro 0 rfl).ra (LeH.refl _)) (k := .i64) (n := s13.2) hc23 hf (by kernel_rfl) (by kernel_rfl) (by kernel_rfl) (by kernel_rfl) ?_
                            clear hf; clear a; intro pb23 po23 c23 a hp23 hr23 hf
                            obtain rfl : c23 = [.int .u32 ((gt p_l s13.2).1), .int .u32 ((gt p_l s13.2).2.1), .int .u64 ((gt p_l s13.2).2.2.1), .int .u64 ((gt p_l s13.2).2.2.2.1), .int .u64 ((gt p_l s13.2).2.2.2.2.1), .int .u64 ((gt p_l s13.2).2.2.2.2.2.1), .int .u64 ((gt p_l s13.2).2.2.2.2.2.2)] := hr23
                            replace hs : Sep w F R w15 F14 [.cel pb23 po23 [.int .u32 ((gt p_l s13.2).1), .int .u32 ((gt p_l s13.2).2.1), .int .u64 ((gt p_l s13.2).2.2.1), .int .u64 ((gt p_l s13.2).2.2.2.1), .int .u64 ((gt p_l s13.2).2.2.2.2.1), .int .u64 ((gt p_l s13.2).2.2.2.2.2.1), .int .u64 ((gt p_l s13.2).2.2.2.2.2.2)], .ro ty24 (.slice ao1 p_l.length cp1) p_l] := hs.addCel hp23
                            replace hf := Fr.keep (ks := [0, 8, 9, 10, 162, 173, 176]) (L' := [(0, .slice ao1 p_l.length cp1), (8, .int .i64 s9), (9, .bool s13.1), (10, .int .i64 s13.2), (162, .bool true), (173, .int .u64 (IntKind.u64.wrap (((gt p_l s9).2.2.2.1) + ((gt p_l s13.2).2.2.1)))), (176, .pointer (some ⟨pb23, po23, none⟩))]) hf (by kernel_rfl)
                            refine stQ tbOk 1 [0, 8, 9, 10, 162, 173, 177] (L' := [(0, .slice ao1 p_l.length cp1), (8, .int .i64 s9), (9, .bool s13.1), (10, .int .i64 s13.2), (162, .bool true), (173, .int .u64 (IntKind.u64.wrap (((gt p_l s9).2.2.2.1) + ((gt p_l s13.2).2.2.1)))), (177, .pointer (some ⟨pb23, po23 + 3, none⟩))]) hf (by kernel_rfl) ?_
                            clear hf; clear a; intro a hf
                            refine ldCQ tbOk (T := 23) (hs.ccel 0 rfl) (LeH.refl _) 3 (.int .u64 ((gt p_l s13.2).2.2.2.1)) hf (by kernel_rfl) (by kernel_rfl) (by kernel_rfl) (by kernel_rfl) ?_
                            clear hf; clear a; intro a hf
                            replace hs : Sep w F R w15 F14 [.ro ty24 (.slice ao1 p_l.length cp1) p_l] := hs.sel [1] rfl rfl
                            replace hf := Fr.keep (ks := [0, 8, 9, 10, 162, 173, 178]) (L' := [(0, .slice ao1 p_l.length cp1), (8, .int .i64 s9), (9, .bool s13.1), (10, .int .i64 s13.2), (162, .bool true), (173, .int .u64 (IntKind.u64.wrap (((gt p_l s9).2.2.2.1) + ((gt p_l s13.2).2.2.1)))), (178, .int .u64 ((gt p_l s13.2).2.2.2.1))]) hf (by kernel_rfl)
                            refine stQ tbOk 2 [0, 8, 9, 10, 162, 173, 178, 179, 180] (L' := [(0, .slice ao1 p_l.length cp1), (8, .int .i64 s9), (9, .bool s13.1), (10, .int .i64 s13.2), (162, .bool true), (173, .int .u64 (IntKind.u64.wrap (((gt p_l s9).2.2.2.1) + ((gt p_l s13.2).2.2.1)))), (178, .int .u64 ((gt p_l s13.2).2.2.2.1)), (179, .slice ao1 p_l.length cp1), (180, .int .i64 s9)]) hf (by kernel_rfl) ?_
                            clear hf; clear a; intro a hf
                            have hT := of_gd hS; clear hS; obtain ⟨hc24, hS⟩ := hT
                            refine ixRQ tbOk u33 i25 rfl rfl ((hs.ro 0 rfl).ra (LeH.refl _)) (k := .i64) (n := s9) hc24 hf (by kernel_rfl) (by kernel_rfl) (by kernel_rfl) (by kernel_rfl) ?_
                            clear hf; clear a; intro pb24 po24 c24 a hp24 hr24 hf
                            obtain rfl : c24 = [.int .u32 ((gt p_l s9).1), .int .u32 ((gt p_l s9).2.1), .int .u64 ((gt p_l s9).2.2.1), .int .u64 ((gt p_l s9).2.2.2.1), .int .u64 ((gt p_l s9).2.2.2.2.1), .int .u64 ((gt p_l s9).2.2.2.2.2.1), .int .u64 ((gt p_l s9).2.2.2.2.2.2)] := hr24
                            replace hs : Sep w F R w15 F14 [.cel pb24 po24 [.int .u32 ((gt p_l s9).1), .int .u32 ((gt p_l s9).2.1), .int .u64 ((gt p_l s9).2.2.1), .int .u64 ((gt p_l s9).2.2.2.1), .int .u64 ((gt p_l s9).2.2.2.2.1), .int .u64 ((gt p_l s9).2.2.2.2.2.1), .int .u64 ((gt p_l s9).2.2.2.2.2.2)], .ro ty24 (.slice ao1 p_l.length cp1) p_l] := hs.addCel hp24
                            replace hf := Fr.keep (ks := [0, 8, 9, 10, 162, 173, 178, 181]) (L' := [(0, .slice ao1 p_l.length cp1), (8, .int .i64 s9), (9, .bool s13.1), (10, .int .i64 s13.2), (162, .bool true), (173, .int .u64 (IntKind.u64.wrap (((gt p_l s9).2.2.2.1) + ((gt p_l s13.2).2.2.1)))), (178, .int .u64 ((gt p_l s13.2).2.2.2.1)), (181, .pointer (some ⟨pb24, po24, none⟩))]) hf (by kernel_rfl)
                            refine stQ tbOk 1 [0, 8, 9, 10, 162, 173, 178, 182] (L' := [(0, .slice ao1 p_l.length cp1), (8, .int .i64 s9), (9, .bool s13.1), (10, .int .i64 s13.2), (162, .bool true), (173, .int .u64 (IntKind.u64.wrap (((gt p_l s9).2.2.2.1) + ((gt p_l s13.2).2.2.1)))), (178, .int .u64 ((gt p_l s13.2).2.2.2.1)), (182, .pointer (some ⟨pb24, po24 + 2, none⟩))]) hf (by kernel_rfl) ?_
                            clear hf; clear a; intro a hf
                            refine ldCQ tbOk (T := 23) (hs.ccel 0 rfl) (LeH.refl _) 2 (.int .u64 ((gt p_l s9).2.2.1)) hf (by kernel_rfl) (by kernel_rfl) (by kernel_rfl) (by kernel_rfl) ?_
                            clear hf; clear a; intro a hf
                            replace hs : Sep w F R w15 F14 [.ro ty24 (.slice ao1 p_l.length cp1) p_l] := hs.sel [1] rfl rfl
                            replace hf := Fr.keep (ks := [0, 8, 9, 10, 162, 173, 178, 183]) (L' := [(0, .slice ao1 p_l.length cp1), (8, .int .i64 s9), (9, .bool s13.1), (10, .int .i64 s13.2), (162, .bool true), (173, .int .u64 (IntKind.u64.wrap (((gt p_l s9).2.2.2.1) + ((gt p_l s13.2).2.2.1)))), (178, .int .u64 ((gt p_l s13.2).2.2.2.1)), (183, .int .u64 ((gt p_l s9).2.2.1))]) hf (by kernel_rfl)
                            refine stQ tbOk 3 [0, 8, 9, 10, 186] (L' := [(0, .slice ao1 p_l.length cp1), (8, .int .i64 s9), (9, .bool s13.1), (10, .int .i64 s13.2), (186, .bool ((IntKind.u64.wrap (((gt p_l s9).2.2.2.1) + ((gt p_l s13.2).2.2.1))) == (IntKind.u64.wrap (((gt p_l s13.2).2.2.2.1) + ((gt p_l s9).2.2.1)))))]) hf (by kernel_rfl) ?_
                            clear hf; clear a; intro a hf
                            refine wpQuiet_nil ?_
                            intro w16 hx
                            replace hs : Sep w F R w16 F14 [.ro ty24 (.slice ao1 p_l.length cp1) p_l] := hs.ext hx
                            clear hx
                            exact hK15 ((IntKind.u64.wrap (((gt p_l s9).2.2.2.1) + ((gt p_l s13.2).2.2.1))) == (IntKind.u64.wrap (((gt p_l s13.2).2.2.2.1) + ((gt p_l s9).2.2.1)))) _ _ ⟨_, hs.sel [0] rfl rfl, hf.keep (ks := [0, 8, 9, 10, 186]) (by kernel_rfl)⟩ hS
                          · replace hS := of_f hb17 hS
                            replace hf := Fr.cast (L' := [(0, .slice ao1 p_l.length cp1), (8, .int .i64 s9), (9, .bool s13.1), (10, .int .i64 s13.2), (162, .bool false)]) hf (by rw [hb17])
                            refine stQ tbOk 24 [0, 8, 9, 10, 186] (L' := [(0, .slice ao1 p_l.length cp1), (8, .int .i64 s9), (9, .bool s13.1), (10, .int .i64 s13.2), (186, .bool false)]) hf (by kernel_rfl) ?_
                            clear hf; clear a; intro a hf
                            refine wpQuiet_nil ?_
                            intro w17 hx
                            replace hs : Sep w F R w17 F14 [.ro ty24 (.slice ao1 p_l.length cp1) p_l] := hs.ext hx
                            clear hx
                            exact hK15 false _ _ ⟨_, hs.sel [0] rfl rfl, hf.keep (ks := [0, 8, 9, 10, 186]) (by kernel_rfl)⟩ hS
                        · replace hS := of_f hb16 hS
                          replace hf := Fr.cast (L' := [(0, .slice ao1 p_l.length cp1), (8, .int .i64 s9), (9, .bool s13.1), (10, .int .i64 s13.2), (137, .bool false)]) hf (by rw [hb16])
                          refine stQ tbOk 49 [0, 8, 9, 10, 186] (L' := [(0, .slice ao1 p_l.length cp1), (8, .int .i64 s9), (9, .bool s13.1), (10, .int .i64 s13.2), (186, .bool false)]) hf (by kernel_rfl) ?_
                          clear hf; clear a; intro a hf
                          refine wpQuiet_nil ?_
                          intro w18 hx
                          replace hs : Sep w F R w18 F14 [.ro ty24 (.slice ao1 p_l.length cp1) p_l] := hs.ext hx
                          clear hx
                          exact hK15 false _ _ ⟨_, hs.sel [0] rfl rfl, hf.keep (ks := [0, 8, 9, 10, 186]) (by kernel_rfl)⟩ hS
                      · replace hS := of_f hb15 hS
                        replace hf := Fr.cast (L' := [(0, .slice ao1 p_l.length cp1), (8, .int .i64 s9), (9, .bool s13.1), (10, .int .i64 s13.2), (124, .bool false)]) hf (by rw [hb15])
                        refine stQ tbOk 62 [0, 8, 9, 10, 186] (L' := [(0, .slice ao1 p_l.length cp1), (8, .int .i64 s9), (9, .bool s13.1), (10, .int .i64 s13.2), (186, .bool false)]) hf (by kernel_rfl) ?_
                        clear hf; clear a; intro a hf
                        refine wpQuiet_nil ?_
                        intro w19 hx
                        replace hs : Sep w F R w19 F14 [.ro ty24 (.slice ao1 p_l.length cp1) p_l] := hs.ext hx
                        clear hx
                        exact hK15 false _ _ ⟨_, hs.sel [0] rfl rfl, hf.keep (ks := [0, 8, 9, 10, 186]) (by kernel_rfl)⟩ hS
                · replace hS := of_f hb14 hS
                  refine wp_exit ?_
                  exact hK12 s13.1 _ _ ⟨_, hs.sel [0] rfl rfl, hf.keep (ks := [0, 8, 9]) (by kernel_rfl)⟩ hS
          · clear hS; intro KK11 k8 hK11 hS
            refine reg ?_
            refine st tbOk 2 [0, 8, 90, 91] (L' := [(0, .slice ao1 p_l.length cp1), (8, .int .i64 s9), (90, .slice ao1 p_l.length cp1), (91, .int .i64 s9)]) hf (by kernel_rfl) ?_
            clear hf; clear a; intro a hf
            have hT := of_gd hS; clear hS; obtain ⟨hc10, hS⟩ := hT
            refine ixR tbOk u33 i25 rfl rfl ((hs.ro 0 rfl).ra (LeH.refl _)) (k := .i64) (n := s9) hc10 hf (by kernel_rfl) (by kernel_rfl) (by kernel_rfl) (by kernel_rfl) ?_
            clear hf; clear a; intro pb10 po10 c10 a hp10 hr10 hf
            obtain rfl : c10 = [.int .u32 ((gt p_l s9).1), .int .u32 ((gt p_l s9).2.1), .int .u64 ((gt p_l s9).2.2.1), .int .u64 ((gt p_l s9).2.2.2.1), .int .u64 ((gt p_l s9).2.2.2.2.1), .int .u64 ((gt p_l s9).2.2.2.2.2.1), .int .u64 ((gt p_l s9).2.2.2.2.2.2)] := hr10
            replace hs : Sep w F R w13 F10 [.cel pb10 po10 [.int .u32 ((gt p_l s9).1), .int .u32 ((gt p_l s9).2.1), .int .u64 ((gt p_l s9).2.2.1), .int .u64 ((gt p_l s9).2.2.2.1), .int .u64 ((gt p_l s9).2.2.2.2.1), .int .u64 ((gt p_l s9).2.2.2.2.2.1), .int .u64 ((gt p_l s9).2.2.2.2.2.2)], .ro ty24 (.slice ao1 p_l.length cp1) p_l] := hs.addCel hp10
            replace hf := Fr.keep (ks := [0, 8, 92]) (L' := [(0, .slice ao1 p_l.length cp1), (8, .int .i64 s9), (92, .pointer (some ⟨pb10, po10, none⟩))]) hf (by kernel_rfl)
            refine st tbOk 1 [0, 8, 93] (L' := [(0, .slice ao1 p_l.length cp1), (8, .int .i64 s9), (93, .pointer (some ⟨pb10, po10, none⟩))]) hf (by kernel_rfl) ?_
            clear hf; clear a; intro a hf
            refine ldC tbOk (T := 22) (hs.ccel 0 rfl) (LeH.refl _) 0 (.int .u32 ((gt p_l s9).1)) hf (by kernel_rfl) (by kernel_rfl) (by kernel_rfl) (by kernel_rfl) ?_
            clear hf; clear a; intro a hf
            replace hs : Sep w F R w13 F10 [.ro ty24 (.slice ao1 p_l.length cp1) p_l] := hs.sel [1] rfl rfl
            replace hf := Fr.keep (ks := [0, 8, 94]) (L' := [(0, .slice ao1 p_l.length cp1), (8, .int .i64 s9), (94, .int .u32 ((gt p_l s9).1))]) hf (by kernel_rfl)
            refine st tbOk 2 [0, 8, 96] (L' := [(0, .slice ao1 p_l.length cp1), (8, .int .i64 s9), (96, .bool (((gt p_l s9).1) != 2))]) hf (by kernel_rfl) ?_
            clear hf; clear a; intro a hf
            rcases Bool.eq_false_or_eq_true (((gt p_l s9).1) != 2) with hb11 | hb11
            · replace hS := of_t hb11 hS
              replace hf := Fr.cast (L' := [(0, .slice ao1 p_l.length cp1), (8, .int .i64 s9), (96, .bool true)]) hf (by rw [hb11])
              refine st tbOk 2 [0, 8, 96, 97, 98] (L' := [(0, .slice ao1 p_l.length cp1), (8, .int .i64 s9), (96, .bool true), (97, .slice ao1 p_l.length cp1), (98, .int .i64 s9)]) hf (by kernel_rfl) ?_
              clear hf; clear a; intro a hf
              have hT := of_gd hS; clear hS; obtain ⟨hc11, hS⟩ := hT
              refine ixR tbOk u33 i25 rfl rfl ((hs.ro 0 rfl).ra (LeH.refl _)) (k := .i64) (n := s9) hc11 hf (by kernel_rfl) (by kernel_rfl) (by kernel_rfl) (by kernel_rfl) ?_
              clear hf; clear a; intro pb11 po11 c11 a hp11 hr11 hf
              obtain rfl : c11 = [.int .u32 ((gt p_l s9).1), .int .u32 ((gt p_l s9).2.1), .int .u64 ((gt p_l s9).2.2.1), .int .u64 ((gt p_l s9).2.2.2.1), .int .u64 ((gt p_l s9).2.2.2.2.1), .int .u64 ((gt p_l s9).2.2.2.2.2.1), .int .u64 ((gt p_l s9).2.2.2.2.2.2)] := hr11
              replace hs : Sep w F R w13 F10 [.cel pb11 po11 [.int .u32 ((gt p_l s9).1), .int .u32 ((gt p_l s9).2.1), .int .u64 ((gt p_l s9).2.2.1), .int .u64 ((gt p_l s9).2.2.2.1), .int .u64 ((gt p_l s9).2.2.2.2.1), .int .u64 ((gt p_l s9).2.2.2.2.2.1), .int .u64 ((gt p_l s9).2.2.2.2.2.2)], .ro ty24 (.slice ao1 p_l.length cp1) p_l] := hs.addCel hp11
              replace hf := Fr.keep (ks := [0, 8, 96, 99]) (L' := [(0, .slice ao1 p_l.length cp1), (8, .int .i64 s9), (96, .bool true), (99, .pointer (some ⟨pb11, po11, none⟩))]) hf (by kernel_rfl)
              refine st tbOk 1 [0, 8, 96, 100] (L' := [(0, .slice ao1 p_l.length cp1), (8, .int .i64 s9), (96, .bool true), (100, .pointer (some ⟨pb11, po11, none⟩))]) hf (by kernel_rfl) ?_
              clear hf; clear a; intro a hf
              refine ldC tbOk (T := 22) (hs.ccel 0 rfl) (LeH.refl _) 0 (.int .u32 ((gt p_l s9).1)) hf (by kernel_rfl) (by kernel_rfl) (by kernel_rfl) (by kernel_rfl) ?_
              clear hf; clear a; intro a hf
              replace hs : Sep w F R w13 F10 [.ro ty24 (.slice ao1 p_l.length cp1) p_l] := hs.sel [1] rfl rfl
              replace hf := Fr.keep (ks := [0, 8, 96, 101]) (L' := [(0, .slice ao1 p_l.length cp1), (8, .int .i64 s9), (96, .bool true), (101, .int .u32 ((gt p_l s9).1))]) hf (by kernel_rfl)
              refine st tbOk 3 [0, 8, 104] (L' := [(0, .slice ao1 p_l.length cp1), (8, .int .i64 s9), (104, .bool (((gt p_l s9).1) != 7))]) hf (by kernel_rfl) ?_
              clear hf; clear a; intro a hf
              rcases Bool.eq_false_or_eq_true (((gt p_l s9).1) != 7) with hb12 | hb12
              · replace hS := of_t hb12 hS
                replace hf := Fr.cast (L' := [(0, .slice ao1 p_l.length cp1), (8, .int .i64 s9), (104, .bool true)]) hf (by rw [hb12])
                refine st tbOk 7 [0, 8, 111] (L' := [(0, .slice ao1 p_l.length cp1), (8, .int .i64 s9), (111, .bool true)]) hf (by kernel_rfl) ?_
                clear hf; clear a; intro a hf
                refine wpList_nil ?_
                exact hK11 true _ _ ⟨_, hs.sel [0] rfl rfl, hf.keep (ks := [0, 8, 111]) (by kernel_rfl)⟩ hS
              · replace hS := of_f hb12 hS
                replace hf := Fr.cast (L' := [(0, .slice ao1 p_l.length cp1), (8, .int .i64 s9), (104, .bool false)]) hf (by rw [hb12])
                refine st tbOk 2 [0, 8, 104, 105, 106] (L' := [(0, .slice ao1 p_l.length cp1), (8, .int .i64 s9), (104, .bool false), (105, .slice ao1 p_l.length cp1), (106, .int .i64 s9)]) hf (by kernel_rfl) ?_
                clear hf; clear a; intro a hf
                have hT := of_gd hS; clear hS; obtain ⟨hc12, hS⟩ := hT
                refine ixR tbOk u33 i25 rfl rfl ((hs.ro 0 rfl).ra (LeH.refl _)) (k := .i64) (n := s9) hc12 hf (by kernel_rfl) (by kernel_rfl) (by kernel_rfl) (by kernel_rfl) ?_
                clear hf; clear a; intro pb12 po12 c12 a hp12 hr12 hf
                obtain rfl : c12 = [.int .u32 ((gt p_l s9).1), .int .u32 ((gt p_l s9).2.1), .int .u64 ((gt p_l s9).2.2.1), .int .u64 ((gt p_l s9).2.2.2.1), .int .u64 ((gt p_l s9).2.2.2.2.1), .int .u64 ((gt p_l s9).2.2.2.2.2.1), .int .u64 ((gt p_l s9).2.2.2.2.2.2)] := hr12
                replace hs : Sep w F R w13 F10 [.cel pb12 po12 [.int .u32 ((gt p_l s9).1), .int .u32 ((gt p_l s9).2.1), .int .u64 ((gt p_l s9).2.2.1), .int .u64 ((gt p_l s9).2.2.2.1), .int .u64 ((gt p_l s9).2.2.2.2.1), .int .u64 ((gt p_l s9).2.2.2.2.2.1), .int .u64 ((gt p_l s9).2.2.2.2.2.2)], .ro ty24 (.slice ao1 p_l.length cp1) p_l] := hs.addCel hp12
                replace hf := Fr.keep (ks := [0, 8, 104, 107]) (L' := [(0, .slice ao1 p_l.length cp1), (8, .int .i64 s9), (104, .bool false), (107, .pointer (some ⟨pb12, po12, none⟩))]) hf (by kernel_rfl)
                refine st tbOk 1 [0, 8, 104, 108] (L' := [(0, .slice ao1 p_l.length cp1), (8, .int .i64 s9), (104, .bool false), (108, .pointer (some ⟨pb12, po12 + 4, none⟩))]) hf (by kernel_rfl) ?_
                clear hf; clear a; intro a hf
                refine ldC tbOk (T := 23) (hs.ccel 0 rfl) (LeH.refl _) 4 (.int .u64 ((gt p_l s9).2.2.2.2.1)) hf (by kernel_rfl) (by kernel_rfl) (by kernel_rfl) (by kernel_rfl) ?_
                clear hf; clear a; intro a hf
                replace hs : Sep w F R w13 F10 [.ro ty24 (.slice ao1 p_l.length cp1) p_l] := hs.sel [1] rfl rfl
                replace hf := Fr.keep (ks := [0, 8, 104, 109]) (L' := [(0, .slice ao1 p_l.length cp1), (8, .int .i64 s9), (104, .bool false), (109, .int .u64 ((gt p_l s9).2.2.2.2.1))]) hf (by kernel_rfl)
                refine st tbOk 2 [0, 8, 111] (L' := [(0, .slice ao1 p_l.length cp1), (8, .int .i64 s9), (111, .bool (((gt p_l s9).2.2.2.2.1) == 0))]) hf (by kernel_rfl) ?_
                clear hf; clear a; intro a hf
                refine wpList_nil ?_
                exact hK11 (((gt p_l s9).2.2.2.2.1) == 0) _ _ ⟨_, hs.sel [0] rfl rfl, hf.keep (ks := [0, 8, 111]) (by kernel_rfl)⟩ hS
            · replace hS := of_f hb11 hS
              replace hf := Fr.cast (L' := [(0, .slice ao1 p_l.length cp1), (8, .int .i64 s9), (96, .bool false)]) hf (by rw [hb11])
              refine st tbOk 10 [0, 8, 104, 105, 106] (L' := [(0, .slice ao1 p_l.length cp1), (8, .int .i64 s9), (104, .bool false), (105, .slice ao1 p_l.length cp1), (106, .int .i64 s9)]) hf (by kernel_rfl) ?_
              clear hf; clear a; intro a hf
              have hT := of_gd hS; clear hS; obtain ⟨hc13, hS⟩ := hT
              refine ixR tbOk u33 i25 rfl rfl ((hs.ro 0 rfl).ra (LeH.refl _)) (k := .i64) (n := s9) hc13 hf (by kernel_rfl) (by kernel_rfl) (by kernel_rfl) (by kernel_rfl) ?_
              clear hf; clear a; intro pb13 po13 c13 a hp13 hr13 hf
              obtain rfl : c13 = [.int .u32 ((gt p_l s9).1), .int .u32 ((gt p_l s9).2.1), .int .u64 ((gt p_l s9).2.2.1), .int .u64 ((gt p_l s9).2.2.2.1), .int .u64 ((gt p_l s9).2.2.2.2.1), .int .u64 ((gt p_l s9).2.2.2.2.2.1), .int .u64 ((gt p_l s9).2.2.2.2.2.2)] := hr13
              replace hs : Sep w F R w13 F10 [.cel pb13 po13 [.int .u32 ((gt p_l s9).1), .int .u32 ((gt p_l s9).2.1), .int .u64 ((gt p_l s9).2.2.1), .int .u64 ((gt p_l s9).2.2.2.1), .int .u64 ((gt p_l s9).2.2.2.2.1), .int .u64 ((gt p_l s9).2.2.2.2.2.1), .int .u64 ((gt p_l s9).2.2.2.2.2.2)], .ro ty24 (.slice ao1 p_l.length cp1) p_l] := hs.addCel hp13
              replace hf := Fr.keep (ks := [0, 8, 104, 107]) (L' := [(0, .slice ao1 p_l.length cp1), (8, .int .i64 s9), (104, .bool false), (107, .pointer (some ⟨pb13, po13, none⟩))]) hf (by kernel_rfl)
              refine st tbOk 1 [0, 8, 104, 108] (L' := [(0, .slice ao1 p_l.length cp1), (8, .int .i64 s9), (104, .bool false), (108, .pointer (some ⟨pb13, po13 + 4, none⟩))]) hf (by kernel_rfl) ?_
              clear hf; clear a; intro a hf
              refine ldC tbOk (T := 23) (hs.ccel 0 rfl) (LeH.refl _) 4 (.int .u64 ((gt p_l s9).2.2.2.2.1)) hf (by kernel_rfl) (by kernel_rfl) (by kernel_rfl) (by kernel_rfl) ?_
              clear hf; clear a; intro a hf
              replace hs : Sep w F R w13 F10 [.ro ty24 (.slice ao1 p_l.length cp1) p_l] := hs.sel [1] rfl rfl
              replace hf := Fr.keep (ks := [0, 8, 104, 109]) (L' := [(0, .slice ao1 p_l.length cp1), (8, .int .i64 s9), (104, .bool false), (109, .int .u64 ((gt p_l s9).2.2.2.2.1))]) hf (by kernel_rfl)
              refine st tbOk 2 [0, 8, 111] (L' := [(0, .slice ao1 p_l.length cp1), (8, .int .i64 s9), (111, .bool (((gt p_l s9).2.2.2.2.1) == 0))]) hf (by kernel_rfl) ?_
              clear hf; clear a; intro a hf
              refine wpList_nil ?_
              exact hK11 (((gt p_l s9).2.2.2.2.1) == 0) _ _ ⟨_, hs.sel [0] rfl rfl, hf.keep (ks := [0, 8, 111]) (by kernel_rfl)⟩ hS
      · replace hS := of_f hb10 hS
        refine wp_exit ?_
        exact hK8 () _ _ ⟨_, hs.sel [] rfl rfl, hf.keep (ks := []) (by kernel_rfl)⟩ hS
  · clear hS; intro KK1 k1 hK1 hS
    refine blk ?_
    refine lp (st := 0) (fun (s2 : Int) (a : Act) (w' : World) => ∃ (F2 : SH), Sep w F R w' F2 [.ro ty24 (.slice ao1 p_l.length cp1) p_l] ∧ Fr 189 [(0, .slice ao1 p_l.length cp1), (1, .int .u64 size), (5, .int .i64 s2)] a) ?_ ⟨_, hs.sel [0] rfl rfl, hf.keep (ks := [0, 1, 5]) (by kernel_rfl)⟩ hS
    clear hS hf hs; clear a
    intro rec1 KK2 hK2 s2 a w1 hM hS
    obtain ⟨F2, hs, hf⟩ := hM
    refine sq ?_
    refine sq ?_
    refine reg ?_
    refine st tbOk 4 [0, 1, 5, 14] (L' := [(0, .slice ao1 p_l.length cp1), (1, .int .u64 size), (5, .int .i64 s2), (14, .bool (decide (s2 < ((p_l.length : Nat) : Int))))]) hf (by kernel_rfl) ?_
    clear hf; clear a; intro a hf
    refine wpList_nil ?_
    refine cnd (b := decide (s2 < ((p_l.length : Nat) : Int))) hf (by kernel_rfl) (fun hb1 => ?_) (fun hb1 => ?_)
    · replace hS := of_t hb1 hS
      refine wp_skip ?_
      refine sq ?_
      refine ctj (fun (s3 : Unit) (a : Act) (w' : World) => ∃ (F3 : SH), Sep w F R w' F3 [.ro ty24 (.slice ao1 p_l.length cp1) p_l] ∧ Fr 189 [(0, .slice ao1 p_l.length cp1), (1, .int .u64 size), (5, .int .i64 s2)] a) hS ?_ ?_
      · clear hS hf hs; clear a; intro s3 a w11 hM hS
        obtain ⟨F3, hs, hf⟩ := hM
        refine reg ?_
        have hT := of_let hS; clear hS; obtain ⟨i_1, hl3, hS⟩ := hT
        refine st tbOk 3 [0, 1, 5] (L' := [(0, .slice ao1 p_l.length cp1), (1, .int .u64 size), (5, .int .i64 i_1)]) hf (by subst hl3; kernel_rfl) ?_
        clear hf; clear a; intro a hf
        refine wpList_nil ?_
        exact hK2 i_1 _ _ ⟨_, hs.sel [0] rfl rfl, hf.keep (ks := [0, 1, 5]) (by kernel_rfl)⟩ hS
      · clear hS; intro KK3 k2 hK3 hS
        refine blk ?_
        refine sq ?_
        refine reg ?_
        refine st tbOk 2 [0, 1, 5, 17, 18] (L' := [(0, .slice ao1 p_l.length cp1), (1, .int .u64 size), (5, .int .i64 s2), (17, .slice ao1 p_l.length cp1), (18, .int .i64 s2)]) hf (by kernel_rfl) ?_
        clear hf; clear a; intro a hf
        have hT := of_gd hS; clear hS; obtain ⟨hc1, hS⟩ := hT
        refine ixR tbOk u33 i25 rfl rfl ((hs.ro 0 rfl).ra (LeH.refl _)) (k := .i64) (n := s2) hc1 hf (by kernel_rfl) (by kernel_rfl) (by kernel_rfl) (by kernel_rfl) ?_
        clear hf; clear a; intro pb1 po1 c1 a hp1 hr1 hf
        obtain rfl : c1 = [.int .u32 ((gt p_l s2).1), .int .u32 ((gt p_l s2).2.1), .int .u64 ((gt p_l s2).2.2.1), .int .u64 ((gt p_l s2).2.2.2.1), .int .u64 ((gt p_l s2).2.2.2.2.1), .int .u64 ((gt p_l s2).2.2.2.2.2.1), .int .u64 ((gt p_l s2).2.2.2.2.2.2)] := hr1
        replace hs : Sep w F R w1 F2 [.cel pb1 po1 [.int .u32 ((gt p_l s2).1), .int .u32 ((gt p_l s2).2.1), .int .u64 ((gt p_l s2).2.2.1), .int .u64 ((gt p_l s2).2.2.2.1), .int .u64 ((gt p_l s2).2.2.2.2.1), .int .u64 ((gt p_l s2).2.2.2.2.2.1), .int .u64 ((gt p_l s2).2.2.2.2.2.2)], .ro ty24 (.slice ao1 p_l.length cp1) p_l] := hs.addCel hp1
        replace hf := Fr.keep (ks := [0, 1, 5, 19]) (L' := [(0, .slice ao1 p_l.length cp1), (1, .int .u64 size), (5, .int .i64 s2), (19, .pointer (some ⟨pb1, po1, none⟩))]) hf (by kernel_rfl)
        refine ldC tbOk (T := 25) (hs.ccel 0 rfl) (LeH.refl _) 0 (.agg #[.int .u32 ((gt p_l s2).1), .int .u32 ((gt p_l s2).2.1), .int .u64 ((gt p_l s2).2.2.1), .int .u64 ((gt p_l s2).2.2.2.1), .int .u64 ((gt p_l s2).2.2.2.2.1), .int .u64 ((gt p_l s2).2.2.2.2.2.1), .int .u64 ((gt p_l s2).2.2.2.2.2.2)]) hf (by kernel_rfl) (by kernel_rfl) (by kernel_rfl) (by kernel_rfl) ?_
        clear hf; clear a; intro a hf
        replace hs : Sep w F R w1 F2 [.ro ty24 (.slice ao1 p_l.length cp1) p_l] := hs.sel [1] rfl rfl
        replace hf := Fr.keep (ks := [0, 1, 5, 20]) (L' := [(0, .slice ao1 p_l.length cp1), (1, .int .u64 size), (5, .int .i64 s2), (20, .agg #[.int .u32 ((gt p_l s2).1), .int .u32 ((gt p_l s2).2.1), .int .u64 ((gt p_l s2).2.2.1), .int .u64 ((gt p_l s2).2.2.2.1), .int .u64 ((gt p_l s2).2.2.2.2.1), .int .u64 ((gt p_l s2).2.2.2.2.2.1), .int .u64 ((gt p_l s2).2.2.2.2.2.2)])]) hf (by kernel_rfl)
        refine st tbOk 1 [0, 1, 5, 20, 21] (L' := [(0, .slice ao1 p_l.length cp1), (1, .int .u64 size), (5, .int .i64 s2), (20, .agg #[.int .u32 ((gt p_l s2).1), .int .u32 ((gt p_l s2).2.1), .int .u64 ((gt p_l s2).2.2.1), .int .u64 ((gt p_l s2).2.2.2.1), .int .u64 ((gt p_l s2).2.2.2.2.1), .int .u64 ((gt p_l s2).2.2.2.2.2.1), .int .u64 ((gt p_l s2).2.2.2.2.2.2)]), (21, .int .u64 size)]) hf (by kernel_rfl) ?_
        clear hf; clear a; intro a hf
        have hT := of_bd hS; clear hS; obtain ⟨z1, hz1, hS⟩ := hT
        refine clV ent36 (vs := [.agg #[.int .u32 ((gt p_l s2).1), .int .u32 ((gt p_l s2).2.1), .int .u64 ((gt p_l s2).2.2.1), .int .u64 ((gt p_l s2).2.2.2.1), .int .u64 ((gt p_l s2).2.2.2.2.1), .int .u64 ((gt p_l s2).2.2.2.2.2.1), .int .u64 ((gt p_l s2).2.2.2.2.2.2)], .int .u64 size]) (caps := []) hf (by kernel_rfl) (by kernel_rfl) (by kernel_rfl) (by kernel_rfl) (ref04_alone_ok (p_s := gt p_l s2) (size := size) (hs.enter [] rfl rfl) hz1) ?_
        clear hf; clear a; intro v w2 a hT hf; obtain ⟨F4, rfl, hr⟩ := hT
        replace hs : Sep w F R w2 F4 [.ro ty24 (.slice ao1 p_l.length cp1) p_l] := hs.back [] [0] rfl rfl rfl rfl hr
        clear hr
        replace hf := Fr.keep (ks := [0, 1, 5, 22]) (L' := [(0, .slice ao1 p_l.length cp1), (1, .int .u64 size), (5, .int .i64 s2), (22, .int .i64 z1)]) hf (by kernel_rfl)
        refine st tbOk 1 [0, 1, 5, 6] (L' := [(0, .slice ao1 p_l.length cp1), (1, .int .u64 size), (5, .int .i64 s2), (6, .int .i64 z1)]) hf (by kernel_rfl) ?_
        clear hf; clear a; intro a hf
        refine wpList_nil ?_
        refine sq ?_
        refine sq ?_
        refine reg ?_
        refine st tbOk 2 [0, 1, 5, 6, 24] (L' := [(0, .slice ao1 p_l.length cp1), (1, .int .u64 size), (5, .int .i64 s2), (6, .int .i64 z1), (24, .bool (z1 != 0))]) hf (by kernel_rfl) ?_
        clear hf; clear a; intro a hf
        refine wpList_nil ?_
        refine cnd (b := z1 != 0) hf (by kernel_rfl) (fun hb2 => ?_) (fun hb2 => ?_)
        · replace hS := of_t hb2 hS
          refine sq ?_
          refine reg ?_
          refine st tbOk 2 [4] (L' := [(4, .int .i64 z1)]) hf (by kernel_rfl) ?_
          clear hf; clear a; intro a hf
          refine wpList_nil ?_
          have hr := Option.some.inj hS; subst hr
          refine wp_ret ?_
          exact ret_ok hf (vs := [.int .i64 z1]) (by kernel_rfl) ⟨_, rfl, hs.sel [] rfl rfl⟩
        · replace hS := of_f hb2 hS
          refine wp_skip ?_
          refine sq ?_
          refine reg ?_
          have hT := of_let hS; clear hS; obtain ⟨k_1, hl1, hS⟩ := hT
          refine st tbOk 3 [0, 1, 5, 7] (L' := [(0, .slice ao1 p_l.length cp1), (1, .int .u64 size), (5, .int .i64 s2), (7, .int .i64 k_1)]) hf (by subst hl1; kernel_rfl) ?_
          clear hf; clear a; intro a hf
          refine wpList_nil ?_
          refine ctj (fun (s4 : Unit) (a : Act) (w' : World) => ∃ (F5 : SH), Sep w F R w' F5 [.ro ty24 (.slice ao1 p_l.length cp1) p_l] ∧ Fr 189 [(0, .slice ao1 p_l.length cp1), (1, .int .u64 size), (5, .int .i64 s2)] a) hS ?_ ?_
          · clear hS hf hs; clear a; intro s4 a w10 hM hS
            obtain ⟨F5, hs, hf⟩ := hM
            exact hK3 () _ _ ⟨_, hs.sel [0] rfl rfl, hf.keep (ks := [0, 1, 5]) (by kernel_rfl)⟩ hS
          · clear hS; intro KK4 k3 hK4 hS
            refine blk ?_
            refine lp (st := k_1) (fun (s5 : Int) (a : Act) (w' : World) => ∃ (F6 : SH), Sep w F R w' F6 [.ro ty24 (.slice ao1 p_l.length cp1) p_l] ∧ Fr 189 [(0, .slice ao1 p_l.length cp1), (1, .int .u64 size), (5, .int .i64 s2), (7, .int .i64 s5)] a) ?_ ⟨_, hs.sel [0] rfl rfl, hf.keep (ks := [0, 1, 5, 7]) (by kernel_rfl)⟩ hS
            clear hS hf hs; clear a
            intro rec2 KK5 hK5 s5 a w3 hM hS
            obtain ⟨F6, hs, hf⟩ := hM
            refine sq ?_
            refine sq ?_
            refine reg ?_
            refine st tbOk 2 [0, 1, 5, 7, 29] (L' := [(0, .slice ao1 p_l.length cp1), (1, .int .u64 size), (5, .int .i64 s2), (7, .int .i64 s5), (29, .bool (decide (s5 ≥ 0)))]) hf (by kernel_rfl) ?_
            clear hf; clear a; intro a hf
            refine wpList_nil ?_
            refine cnd (b := decide (s5 ≥ 0)) hf (by kernel_rfl) (fun hb3 => ?_) (fun hb3 => ?_)
            · replace hS := of_t hb3 hS
              refine wp_skip ?_
              refine sq ?_
              refine blk ?_
              refine sq ?_
              refine sq ?_
              refine ctj (fun (s6 : Bool) (a : Act) (w' : World) => ∃ (F7 : SH), Sep w F R w' F7 [.ro ty24 (.slice ao1 p_l.length cp1) p_l] ∧ Fr 189 [(0, .slice ao1 p_l.length cp1), (1, .int .u64 size), (5, .int .i64 s2), (7, .int .i64 s5), (45, .bool s6)] a) hS ?_ ?_
              · clear hS hf hs; clear a; intro s6 a w4 hM hS
                obtain ⟨F7, hs, hf⟩ := hM
                refine cnd (b := s6) hf (by kernel_rfl) (fun hb5 => ?_) (fun hb5 => ?_)
                · replace hS := of_t hb5 hS
                  refine sq ?_
                  refine sq ?_
                  refine regQ mixed (by kernel_rfl) ?_
                  refine stQ tbOk 2 [0, 1, 5, 7, 46, 47] (L' := [(0, .slice ao1 p_l.length cp1), (1, .int .u64 size), (5, .int .i64 s2), (7, .int .i64 s5), (46, .slice ao1 p_l.length cp1), (47, .int .i64 s2)]) hf (by kernel_rfl) ?_
                  clear hf; clear a; intro a hf
                  have hT := of_gd hS; clear hS; obtain ⟨hc4, hS⟩ := hT
                  refine ixRQ tbOk u33 i25 rfl rfl ((hs.ro 0 rfl).ra (LeH.refl _)) (k := .i64) (n := s2) hc4 hf (by kernel_rfl) (by kernel_rfl) (by kernel_rfl) (by kernel_rfl) ?_
                  clear hf; clear a; intro pb4 po4 c4 a hp4 hr4 hf
                  obtain rfl : c4 = [.int .u32 ((gt p_l s2).1), .int .u32 ((gt p_l s2).2.1), .int .u64 ((gt p_l s2).2.2.1), .int .u64 ((gt p_l s2).2.2.2.1), .int .u64 ((gt p_l s2).2.2.2.2.1), .int .u64 ((gt p_l s2).2.2.2.2.2.1), .int .u64 ((gt p_l s2).2.2.2.2.2.2)] := hr4
                  replace hs : Sep w F R w4 F7 [.cel pb4 po4 [.int .u32 ((gt p_l s2).1), .int .u32 ((gt p_l s2).2.1), .int .u64 ((gt p_l s2).2.2.1), .int .u64 ((gt p_l s2).2.2.2.1), .int .u64 ((gt p_l s2).2.2.2.2.1), .int .u64 ((gt p_l s2).2.2.2.2.2.1), .int .u64 ((gt p_l s2).2.2.2.2.2.2)], .ro ty24 (.slice ao1 p_l.length cp1) p_l] := hs.addCel hp4
                  replace hf := Fr.keep (ks := [0, 1, 5, 7, 48]) (L' := [(0, .slice ao1 p_l.length cp1), (1, .int .u64 size), (5, .int .i64 s2), (7, .int .i64 s5), (48, .pointer (some ⟨pb4, po4, none⟩))]) hf (by kernel_rfl)
                  refine ldCQ tbOk (T := 25) (hs.ccel 0 rfl) (LeH.refl _) 0 (.agg #[.int .u32 ((gt p_l s2).1), .int .u32 ((gt p_l s2).2.1), .int .u64 ((gt p_l s2).2.2.1), .int .u64 ((gt p_l s2).2.2.2.1), .int .u64 ((gt p_l s2).2.2.2.2.1), .int .u64 ((gt p_l s2).2.2.2.2.2.1), .int .u64 ((gt p_l s2).2.2.2.2.2.2)]) hf (by kernel_rfl) (by kernel_rfl) (by kernel_rfl) (by kernel_rfl) ?_
                  clear hf; clear a; intro a hf
                  replace hs : Sep w F R w4 F7 [.ro ty24 (.slice ao1 p_l.length cp1) p_l] := hs.sel [1] rfl rfl
                  replace hf := Fr.keep (ks := [0, 1, 5, 7, 49]) (L' := [(0, .slice ao1 p_l.length cp1), (1, .int .u64 size), (5, .int .i64 s2), (7, .int .i64 s5), (49, .agg #[.int .u32 ((gt p_l s2).1), .int .u32 ((gt p_l s2).2.1), .int .u64 ((gt p_l s2).2.2.1), .int .u64 ((gt p_l s2).2.2.2.1), .int .u64 ((gt p_l s2).2.2.2.2.1), .int .u64 ((gt p_l s2).2.2.2.2.2.1), .int .u64 ((gt p_l s2).2.2.2.2.2.2)])]) hf (by kernel_rfl)
                  have hT := of_bd hS; clear hS; obtain ⟨z2, hz2, hS⟩ := hT
                  refine clVQ ent37 (vs := [.agg #[.int .u32 ((gt p_l s2).1), .int .u32 ((gt p_l s2).2.1), .int .u64 ((gt p_l s2).2.2.1), .int .u64 ((gt p_l s2).2.2.2.1), .int .u64 ((gt p_l s2).2.2.2.2.1), .int .u64 ((gt p_l s2).2.2.2.2.2.1), .int .u64 ((gt p_l s2).2.2.2.2.2.2)]]) (caps := []) hf (by kernel_rfl) (by kernel_rfl) (by kernel_rfl) (by kernel_rfl) (.int .u64 z2) (fun wq hq => (ref04_First_ok (p_s := gt p_l s2) (hs.lendQ hq [] rfl rfl) hz2).mono fun _ _ h => Gives.mono (fun _ ⟨_, e, h⟩ => ⟨e, h.ex (pers_blks rfl)⟩) h) ?_
                  clear hf; clear a; intro a hf
                  replace hf := Fr.keep (ks := [0, 1, 5, 7, 50]) (L' := [(0, .slice ao1 p_l.length cp1), (1, .int .u64 size), (5, .int .i64 s2), (7, .int .i64 s5), (50, .int .u64 z2)]) hf (by kernel_rfl)
                  refine stQ tbOk 2 [0, 1, 5, 50, 51, 52] (L' := [(0, .slice ao1 p_l.length cp1), (1, .int .u64 size), (5, .int .i64 s2), (50, .int .u64 z2), (51, .slice ao1 p_l.length cp1), (52, .int .i64 s5)]) hf (by kernel_rfl) ?_
                  clear hf; clear a; intro a hf
                  have hT := of_gd hS; clear hS; obtain ⟨hc5, hS⟩ := hT
                  refine ixRQ tbOk u33 i25 rfl rfl ((hs.ro 0 rfl).ra (LeH.refl _)) (k := .i64) (n := s5) hc5 hf (by kernel_rfl) (by kernel_rfl) (by kernel_rfl) (by kernel_rfl) ?_
                  clear hf; clear a; intro pb5 po5 c5 a hp5 hr5 hf
                  obtain rfl : c5 = [.int .u32 ((gt p_l s5).1), .int .u32 ((gt p_l s5).2.1), .int .u64 ((gt p_l s5).2.2.1), .int .u64 ((gt p_l s5).2.2.2.1), .int .u64 ((gt p_l s5).2.2.2.2.1), .int .u64 ((gt p_l s5).2.2.2.2.2.1), .int .u64 ((gt p_l s5).2.2.2.2.2.2)] := hr5
                  replace hs : Sep w F R w4 F7 [.cel pb5 po5 [.int .u32 ((gt p_l s5).1), .int .u32 ((gt p_l s5).2.1), .int .u64 ((gt p_l s5).2.2.1), .int .u64 ((gt p_l s5).2.2.2.1), .int .u64 ((gt p_l s5).2.2.2.2.1), .int .u64 ((gt p_l s5).2.2.2.2.2.1), .int .u64 ((gt p_l s5).2.2.2.2.2.2)], .ro ty24 (.slice ao1 p_l.length cp1) p_l] := hs.addCel hp5
                  replace hf := Fr.keep (ks := [0, 1, 5, 50, 53]) (L' := [(0, .slice ao1 p_l.length cp1), (1, .int .u64 size), (5, .int .i64 s2), (50, .int .u64 z2), (53, .pointer (some ⟨pb5, po5, none⟩))]) hf (by kernel_rfl)
                  refine ldCQ tbOk (T := 25) (hs.ccel 0 rfl) (LeH.refl _) 0 (.agg #[.int .u32 ((gt p_l s5).1), .int .u32 ((gt p_l s5).2.1), .int .u64 ((gt p_l s5).2.2.1), .int .u64 ((gt p_l s5).2.2.2.1), .int .u64 ((gt p_l s5).2.2.2.2.1), .int .u64 ((gt p_l s5).2.2.2.2.2.1), .int .u64 ((gt p_l s5).2.2.2.2.2.2)]) hf (by kernel_rfl) (by kernel_rfl) (by kernel_rfl) (by kernel_rfl) ?_
                  clear hf; clear a; intro a hf
                  replace hs : Sep w F R w4 F7 [.ro ty24 (.slice ao1 p_l.length cp1) p_l] := hs.sel [1] rfl rfl
                  replace hf := Fr.keep (ks := [0, 1, 5, 50, 54]) (L' := [(0, .slice ao1 p_l.length cp1), (1, .int .u64 size), (5, .int .i64 s2), (50, .int .u64 z2), (54, .agg #[.int .u32 ((gt p_l s5).1), .int .u32 ((gt p_l s5).2.1), .int .u64 ((gt p_l s5).2.2.1), .int .u64 ((gt p_l s5).2.2.2.1), .int .u64 ((gt p_l s5).2.2.2.2.1), .int .u64 ((gt p_l s5).2.2.2.2.2.1), .int .u64 ((gt p_l s5).2.2.2.2.2.2)])]) hf (by kernel_rfl)
                  have hT := of_bd hS; clear hS; obtain ⟨z3, hz3, hS⟩ := hT
                  refine clVQ ent38 (vs := [.agg #[.int .u32 ((gt p_l s5).1), .int .u32 ((gt p_l s5).2.1), .int .u64 ((gt p_l s5).2.2.1), .int .u64 ((gt p_l s5).2.2.2.1), .int .u64 ((gt p_l s5).2.2.2.2.1), .int .u64 ((gt p_l s5).2.2.2.2.2.1), .int .u64 ((gt p_l s5).2.2.2.2.2.2)]]) (caps := []) hf (by kernel_rfl) (by kernel_rfl) (by kernel_rfl) (by kernel_rfl) (.int .u64 z3) (fun wq hq => (ref04_Behind_ok (p_s := gt p_l s5) (hs.lendQ hq [] rfl rfl) hz3).mono fun _ _ h => Gives.mono (fun _ ⟨_, e, h⟩ => ⟨e, h.ex (pers_blks rfl)⟩) h) ?_
                  clear hf; clear a; intro a hf
                  replace hf := Fr.keep (ks := [0, 1, 5, 50, 55]) (L' := [(0, .slice ao1 p_l.length cp1), (1, .int .u64 size), (5, .int .i64 s2), (50, .int .u64 z2), (55, .int .u64 z3)]) hf (by kernel_rfl)
                  refine stQ tbOk 1 [0, 1, 5, 56] (L' := [(0, .slice ao1 p_l.length cp1), (1, .int .u64 size), (5, .int .i64 s2), (56, .bool (decide (z2 < z3)))]) hf (by kernel_rfl) ?_
                  clear hf; clear a; intro a hf
                  refine wpQuiet_nil ?_
                  intro w5 hx
                  replace hs : Sep w F R w5 F7 [.ro ty24 (.slice ao1 p_l.length cp1) p_l] := hs.ext hx
                  clear hx
                  refine cnd (b := decide (z2 < z3)) hf (by kernel_rfl) (fun hb6 => ?_) (fun hb6 => ?_)
                  · replace hS := of_t hb6 hS
                    refine sq ?_
                    refine reg ?_
                    refine st tbOk 1 [4] (L' := [(4, .int .i64 12)]) hf (by kernel_rfl) ?_
                    clear hf; clear a; intro a hf
                    refine wpList_nil ?_
                    have hr := Option.some.inj hS; subst hr
                    refine wp_ret ?_
                    exact ret_ok hf (vs := [.int .i64 12]) (by kernel_rfl) ⟨_, rfl, hs.sel [] rfl rfl⟩
                  · replace hS := of_f hb6 hS
                    refine wp_skip ?_
                    refine wp_exit ?_
                    exact hK4 () _ _ ⟨_, hs.sel [0] rfl rfl, hf.keep (ks := [0, 1, 5]) (by kernel_rfl)⟩ hS
                · replace hS := of_f hb5 hS
                  refine wp_skip ?_
                  refine sq ?_
                  refine ctj (fun (s7 : Bool) (a : Act) (w' : World) => ∃ (F8 : SH), Sep w F R w' F8 [.ro ty24 (.slice ao1 p_l.length cp1) p_l] ∧ Fr 189 [(0, .slice ao1 p_l.length cp1), (1, .int .u64 size), (5, .int .i64 s2), (7, .int .i64 s5), (83, .bool s7)] a) hS ?_ ?_
                  · clear hS hf hs; clear a; intro s7 a w9 hM hS
                    obtain ⟨F8, hs, hf⟩ := hM
                    refine cnd (b := s7) hf (by kernel_rfl) (fun hb9 => ?_) (fun hb9 => ?_)
                    · replace hS := of_t hb9 hS
                      refine sq ?_
                      refine reg ?_
                      refine st tbOk 1 [4] (L' := [(4, .int .i64 12)]) hf (by kernel_rfl) ?_
                      clear hf; clear a; intro a hf
                      refine wpList_nil ?_
                      have hr := Option.some.inj hS; subst hr
                      refine wp_ret ?_
                      exact ret_ok hf (vs := [.int .i64 12]) (by kernel_rfl) ⟨_, rfl, hs.sel [] rfl rfl⟩
                    · replace hS := of_f hb9 hS
                      refine wp_skip ?_
                      refine reg ?_
                      have hT := of_let hS; clear hS; obtain ⟨k_2, hl2, hS⟩ := hT
                      refine st tbOk 3 [0, 1, 5, 7] (L' := [(0, .slice ao1 p_l.length cp1), (1, .int .u64 size), (5, .int .i64 s2), (7, .int .i64 k_2)]) hf (by subst hl2; kernel_rfl) ?_
                      clear hf; clear a; intro a hf
                      refine wpList_nil ?_
                      exact hK5 k_2 _ _ ⟨_, hs.sel [0] rfl rfl, hf.keep (ks := [0, 1, 5, 7]) (by kernel_rfl)⟩ hS
                  · clear hS; intro KK7 k5 hK7 hS
                    refine regQ mixed (by kernel_rfl) ?_
                    refine stQ tbOk 2 [0, 1, 5, 7, 57, 58] (L' := [(0, .slice ao1 p_l.length cp1), (1, .int .u64 size), (5, .int .i64 s2), (7, .int .i64 s5), (57, .slice ao1 p_l.length cp1), (58, .int .i64 s2)]) hf (by kernel_rfl) ?_
                    clear hf; clear a; intro a hf
                    have hT := of_gd hS; clear hS; obtain ⟨hc6, hS⟩ := hT
                    refine ixRQ tbOk u33 i25 rfl rfl ((hs.ro 0 rfl).ra (LeH.refl _)) (k := .i64) (n := s2) hc6 hf (by kernel_rfl) (by kernel_rfl) (by kernel_rfl) (by kernel_rfl) ?_
                    clear hf; clear a; intro pb6 po6 c6 a hp6 hr6 hf
                    obtain rfl : c6 = [.int .u32 ((gt p_l s2).1), .int .u32 ((gt p_l s2).2.1), .int .u64 ((gt p_l s2).2.2.1), .int .u64 ((gt p_l s2).2.2.2.1), .int .u64 ((gt p_l s2).2.2.2.2.1), .int .u64 ((gt p_l s2).2.2.2.2.2.1), .int .u64 ((gt p_l s2).2.2.2.2.2.2)] := hr6
                    replace hs : Sep w F R w4 F7 [.cel pb6 po6 [.int .u32 ((gt p_l s2).1), .int .u32 ((gt p_l s2).2.1), .int .u64 ((gt p_l s2).2.2.1), .int .u64 ((gt p_l s2).2.2.2.1), .int .u64 ((gt p_l s2).2.2.2.2.1), .int .u64 ((gt p_l s2).2.2.2.2.2.1), .int .u64 ((gt p_l s2).2.2.2.2.2.2)], .ro ty24 (.slice ao1 p_l.length cp1) p_l] := hs.addCel hp6
                    replace hf := Fr.keep (ks := [0, 1, 5, 7, 59]) (L' := [(0, .slice ao1 p_l.length cp1), (1, .int .u64 size), (5, .int .i64 s2), (7, .int .i64 s5), (59, .pointer (some ⟨pb6, po6, none⟩))]) hf (by kernel_rfl)
                    refine stQ tbOk 1 [0, 1, 5, 7, 60] (L' := [(0, .slice ao1 p_l.length cp1), (1, .int .u64 size), (5, .int .i64 s2), (7, .int .i64 s5), (60, .pointer (some ⟨pb6, po6, none⟩))]) hf (by kernel_rfl) ?_
                    clear hf; clear a; intro a hf
                    refine ldCQ tbOk (T := 22) (hs.ccel 0 rfl) (LeH.refl _) 0 (.int .u32 ((gt p_l s2).1)) hf (by kernel_rfl) (by kernel_rfl) (by kernel_rfl) (by kernel_rfl) ?_
                    clear hf; clear a; intro a hf
                    replace hs : Sep w F R w4 F7 [.ro ty24 (.slice ao1 p_l.length cp1) p_l] := hs.sel [1] rfl rfl
                    replace hf := Fr.keep (ks := [0, 1, 5, 7, 61]) (L' := [(0, .slice ao1 p_l.length cp1), (1, .int .u64 size), (5, .int .i64 s2), (7, .int .i64 s5), (61, .int .u32 ((gt p_l s2).1))]) hf (by kernel_rfl)
                    refine stQ tbOk 2 [0, 1, 5, 7, 61, 62, 63] (L' := [(0, .slice ao1 p_l.length cp1), (1, .int .u64 size), (5, .int .i64 s2), (7, .int .i64 s5), (61, .int .u32 ((gt p_l s2).1)), (62, .slice ao1 p_l.length cp1), (63, .int .i64 s5)]) hf (by kernel_rfl) ?_
                    clear hf; clear a; intro a hf
                    have hT := of_gd hS; clear hS; obtain ⟨hc7, hS⟩ := hT
                    refine ixRQ tbOk u33 i25 rfl rfl ((hs.ro 0 rfl).ra (LeH.refl _)) (k := .i64) (n := s5) hc7 hf (by kernel_rfl) (by kernel_rfl) (by kernel_rfl) (by kernel_rfl) ?_
                    clear hf; clear a; intro pb7 po7 c7 a hp7 hr7 hf
                    obtain rfl : c7 = [.int .u32 ((gt p_l s5).1), .int .u32 ((gt p_l s5).2.1), .int .u64 ((gt p_l s5).2.2.1), .int .u64 ((gt p_l s5).2.2.2.1), .int .u64 ((gt p_l s5).2.2.2.2.1), .int .u64 ((gt p_l s5).2.2.2.2.2.1), .int .u64 ((gt p_l s5).2.2.2.2.2.2)] := hr7
                    replace hs : Sep w F R w4 F7 [.cel pb7 po7 [.int .u32 ((gt p_l s5).1), .int .u32 ((gt p_l s5).2.1), .int .u64 ((gt p_l s5).2.2.1), .int .u64 ((gt p_l s5).2.2.2.1), .int .u64 ((gt p_l s5).2.2.2.2.1), .int .u64 ((gt p_l s5).2.2.2.2.2.1), .int .u64 ((gt p_l s5).2.2.2.2.2.2)], .ro ty24 (.slice ao1 p_l.length cp1) p_l] := hs.addCel hp7
                    replace hf := Fr.keep (ks := [0, 1, 5, 7, 61, 64]) (L' := [(0, .slice ao1 p_l.length cp1), (1, .int .u64 size), (5, .int .i64 s2), (7, .int .i64 s5), (61, .int .u32 ((gt p_l s2).1)), (64, .pointer (some ⟨pb7, po7, none⟩))]) hf (by kernel_rfl)
                    refine stQ tbOk 1 [0, 1, 5, 7, 61, 65] (L' := [(0, .slice ao1 p_l.length cp1), (1, .int .u64 size), (5, .int .i64 s2), (7, .int .i64 s5), (61, .int .u32 ((gt p_l s2).1)), (65, .pointer (some ⟨pb7, po7, none⟩))]) hf (by kernel_rfl) ?_
                    clear hf; clear a; intro a hf
                    refine ldCQ tbOk (T := 22) (hs.ccel 0 rfl) (LeH.refl _) 0 (.int .u32 ((gt p_l s5).1)) hf (by kernel_rfl) (by kernel_rfl) (by kernel_rfl) (by kernel_rfl) ?_
                    clear hf; clear a; intro a hf
                    replace hs : Sep w F R w4 F7 [.ro ty24 (.slice ao1 p_l.length cp1) p_l] := hs.sel [1] rfl rfl
                    replace hf := Fr.keep (ks := [0, 1, 5, 7, 61, 66]) (L' := [(0, .slice ao1 p_l.length cp1), (1, .int .u64 size), (5, .int .i64 s2), (7, .int .i64 s5), (61, .int .u32 ((gt p_l s2).1)), (66, .int .u32 ((gt p_l s5).1))]) hf (by kernel_rfl)
                    refine stQ tbOk 2 [0, 1, 5, 7, 68] (L' := [(0, .slice ao1 p_l.length cp1), (1, .int .u64 size), (5, .int .i64 s2), (7, .int .i64 s5), (68, .bool (((gt p_l s2).1) == ((gt p_l s5).1)))]) hf (by kernel_rfl) ?_
                    clear hf; clear a; intro a hf
                    rcases Bool.eq_false_or_eq_true (((gt p_l s2).1) == ((gt p_l s5).1)) with hb7 | hb7
                    · replace hS := of_t hb7 hS
                      replace hf := Fr.cast (L' := [(0, .slice ao1 p_l.length cp1), (1, .int .u64 size), (5, .int .i64 s2), (7, .int .i64 s5), (68, .bool true)]) hf (by rw [hb7])
                      refine stQ tbOk 2 [0, 1, 5, 7, 68, 69, 70] (L' := [(0, .slice ao1 p_l.length cp1), (1, .int .u64 size), (5, .int .i64 s2), (7, .int .i64 s5), (68, .bool true), (69, .slice ao1 p_l.length cp1), (70, .int .i64 s2)]) hf (by kernel_rfl) ?_
                      clear hf; clear a; intro a hf
                      have hT := of_gd hS; clear hS; obtain ⟨hc8, hS⟩ := hT
                      refine ixRQ tbOk u33 i25 rfl rfl ((hs.ro 0 rfl).ra (LeH.refl _)) (k := .i64) (n := s2) hc8 hf (by kernel_rfl) (by kernel_rfl) (by kernel_rfl) (by kernel_rfl) ?_
                      clear hf; clear a; intro pb8 po8 c8 a hp8 hr8 hf
                      obtain rfl : c8 = [.int .u32 ((gt p_l s2).1), .int .u32 ((gt p_l s2).2.1), .int .u64 ((gt p_l s2).2.2.1), .int .u64 ((gt p_l s2).2.2.2.1), .int .u64 ((gt p_l s2).2.2.2.2.1), .int .u64 ((gt p_l s2).2.2.2.2.2.1), .int .u64 ((gt p_l s2).2.2.2.2.2.2)] := hr8
                      replace hs : Sep w F R w4 F7 [.cel pb8 po8 [.int .u32 ((gt p_l s2).1), .int .u32 ((gt p_l s2).2.1), .int .u64 ((gt p_l s2).2.2.1), .int .u64 ((gt p_l s2).2.2.2.1), .int .u64 ((gt p_l s2).2.2.2.2.1), .int .u64 ((gt p_l s2).2.2.2.2.2.1), .int .u64 ((gt p_l s2).2.2.2.2.2.2)], .ro ty24 (.slice ao1 p_l.length cp1) p_l] := hs.addCel hp8
                      replace hf := Fr.keep (ks := [0, 1, 5, 7, 68, 71]) (L' := [(0, .slice ao1 p_l.length cp1), (1, .int .u64 size), (5, .int .i64 s2), (7, .int .i64 s5), (68, .bool true), (71, .pointer (some ⟨pb8, po8, none⟩))]) hf (by kernel_rfl)
                      refine stQ tbOk 1 [0, 1, 5, 7, 68, 72] (L' := [(0, .slice ao1 p_l.length cp1), (1, .int .u64 size), (5, .int .i64 s2), (7, .int .i64 s5), (68, .bool true), (72, .pointer (some ⟨pb8, po8, none⟩))]) hf (by kernel_rfl) ?_
                      clear hf; clear a; intro a hf
                      refine ldCQ tbOk (T := 22) (hs.ccel 0 rfl) (LeH.refl _) 0 (.int .u32 ((gt p_l s2).1)) hf (by kernel_rfl) (by kernel_rfl) (by kernel_rfl) (by kernel_rfl) ?_
                      clear hf; clear a; intro a hf
                      replace hs : Sep w F R w4 F7 [.ro ty24 (.slice ao1 p_l.length cp1) p_l] := hs.sel [1] rfl rfl
                      replace hf := Fr.keep (ks := [0, 1, 5, 7, 68, 73]) (L' := [(0, .slice ao1 p_l.length cp1), (1, .int .u64 size), (5, .int .i64 s2), (7, .int .i64 s5), (68, .bool true), (73, .int .u32 ((gt p_l s2).1))]) hf (by kernel_rfl)
                      refine stQ tbOk 2 [0, 1, 5, 7, 68, 75] (L' := [(0, .slice ao1 p_l.length cp1), (1, .int .u64 size), (5, .int .i64 s2), (7, .int .i64 s5), (68, .bool true), (75, .bool (((gt p_l s2).1) == 2))]) hf (by kernel_rfl) ?_
                      clear hf; clear a; intro a hf
                      rcases Bool.eq_false_or_eq_true (((gt p_l s2).1) == 2) with hb8 | hb8
                      · replace hS := of_t hb8 hS
                        replace hf := Fr.cast (L' := [(0, .slice ao1 p_l.length cp1), (1, .int .u64 size), (5, .int .i64 s2), (7, .int .i64 s5), (68, .bool true), (75, .bool true)]) hf (by rw [hb8])
                        refine stQ tbOk 8 [0, 1, 5, 7, 83] (L' := [(0, .slice ao1 p_l.length cp1), (1, .int .u64 size), (5, .int .i64 s2), (7, .int .i64 s5), (83, .bool true)]) hf (by kernel_rfl) ?_
                        clear hf; clear a; intro a hf
                        refine wpQuiet_nil ?_
                        intro w6 hx
                        replace hs : Sep w F R w6 F7 [.ro ty24 (.slice ao1 p_l.length cp1) p_l] := hs.ext hx
                        clear hx
                        exact hK7 true _ _ ⟨_, hs.sel [0] rfl rfl, hf.keep (ks := [0, 1, 5, 7, 83]) (by kernel_rfl)⟩ hS
                      · replace hS := of_f hb8 hS
                        replace hf := Fr.cast (L' := [(0, .slice ao1 p_l.length cp1), (1, .int .u64 size), (5, .int .i64 s2), (7, .int .i64 s5), (68, .bool true), (75, .bool false)]) hf (by rw [hb8])
                        refine stQ tbOk 2 [0, 1, 5, 7, 68, 75, 76, 77] (L' := [(0, .slice ao1 p_l.length cp1), (1, .int .u64 size), (5, .int .i64 s2), (7, .int .i64 s5), (68, .bool true), (75, .bool false), (76, .slice ao1 p_l.length cp1), (77, .int .i64 s2)]) hf (by kernel_rfl) ?_
                        clear hf; clear a; intro a hf
                        have hT := of_gd hS; clear hS; obtain ⟨hc9, hS⟩ := hT
                        refine ixRQ tbOk u33 i25 rfl rfl ((hs.ro 0 rfl).ra (LeH.refl _)) (k := .i64) (n := s2) hc9 hf (by kernel_rfl) (by kernel_rfl) (by kernel_rfl) (by kernel_rfl) ?_
                        clear hf; clear a; intro pb9 po9 c9 a hp9 hr9 hf
                        obtain rfl : c9 = [.int .u32 ((gt p_l s2).1), .int .u32 ((gt p_l s2).2.1), .int .u64 ((gt p_l s2).2.2.1), .int .u64 ((gt p_l s2).2.2.2.1), .int .u64 ((gt p_l s2).2.2.2.2.1), .int .u64 ((gt p_l s2).2.2.2.2.2.1), .int .u64 ((gt p_l s2).2.2.2.2.2.2)] := hr9
                        replace hs : Sep w F R w4 F7 [.cel pb9 po9 [.int .u32 ((gt p_l s2).1), .int .u32 ((gt p_l s2).2.1), .int .u64 ((gt p_l s2).2.2.1), .int .u64 ((gt p_l s2).2.2.2.1), .int .u64 ((gt p_l s2).2.2.2.2.1), .int .u64 ((gt p_l s2).2.2.2.2.2.1), .int .u64 ((gt p_l s2).2.2.2.2.2.2)], .ro ty24 (.slice ao1 p_l.length cp1) p_l] := hs.addCel hp9
                        replace hf := Fr.keep (ks := [0, 1, 5, 7, 68, 75, 78]) (L' := [(0, .slice ao1 p_l.length cp1), (1, .int .u64 size), (5, .int .i64 s2), (7, .int .i64 s5), (68, .bool true), (75, .bool false), (78, .pointer (some ⟨pb9, po9, none⟩))]) hf (by kernel_rfl)
                        refine stQ tbOk 1 [0, 1, 5, 7, 68, 75, 79] (L' := [(0, .slice ao1 p_l.length cp1), (1, .int .u64 size), (5, .int .i64 s2), (7, .int .i64 s5), (68, .bool true), (75, .bool false), (79, .pointer (some ⟨pb9, po9, none⟩))]) hf (by kernel_rfl) ?_
                        clear hf; clear a; intro a hf
                        refine ldCQ tbOk (T := 22) (hs.ccel 0 rfl) (LeH.refl _) 0 (.int .u32 ((gt p_l s2).1)) hf (by kernel_rfl) (by kernel_rfl) (by kernel_rfl) (by kernel_rfl) ?_
                        clear hf; clear a; intro a hf
                        replace hs : Sep w F R w4 F7 [.ro ty24 (.slice ao1 p_l.length cp1) p_l] := hs.sel [1] rfl rfl
                        replace hf := Fr.keep (ks := [0, 1, 5, 7, 68, 75, 80]) (L' := [(0, .slice ao1 p_l.length cp1), (1, .int .u64 size), (5, .int .i64 s2), (7, .int .i64 s5), (68, .bool true), (75, .bool false), (80, .int .u32 ((gt p_l s2).1))]) hf (by kernel_rfl)
                        refine stQ tbOk 3 [0, 1, 5, 7, 83] (L' := [(0, .slice ao1 p_l.length cp1), (1, .int .u64 size), (5, .int .i64 s2), (7, .int .i64 s5), (83, .bool (((gt p_l s2).1) == 7))]) hf (by kernel_rfl) ?_
                        clear hf; clear a; intro a hf
                        refine wpQuiet_nil ?_
                        intro w7 hx
                        replace hs : Sep w F R w7 F7 [.ro ty24 (.slice ao1 p_l.length cp1) p_l] := hs.ext hx
                        clear hx
                        exact hK7 (((gt p_l s2).1) == 7) _ _ ⟨_, hs.sel [0] rfl rfl, hf.keep (ks := [0, 1, 5, 7, 83]) (by kernel_rfl)⟩ hS
                    · replace hS := of_f hb7 hS
                      replace hf := Fr.cast (L' := [(0, .slice ao1 p_l.length cp1), (1, .int .u64 size), (5, .int .i64 s2), (7, .int .i64 s5), (68, .bool false)]) hf (by rw [hb7])
                      refine stQ tbOk 15 [0, 1, 5, 7, 83] (L' := [(0, .slice ao1 p_l.length cp1), (1, .int .u64 size), (5, .int .i64 s2), (7, .int .i64 s5), (83, .bool false)]) hf (by kernel_rfl) ?_
                      clear hf; clear a; intro a hf
                      refine wpQuiet_nil ?_
                      intro w8 hx
                      replace hs : Sep w F R w8 F7 [.ro ty24 (.slice ao1 p_l.length cp1) p_l] := hs.ext hx
                      clear hx
                      exact hK7 false _ _ ⟨_, hs.sel [0] rfl rfl, hf.keep (ks := [0, 1, 5, 7, 83]) (by kernel_rfl)⟩ hS
              · clear hS; intro KK6 k4 hK6 hS
                refine reg ?_
                refine st tbOk 2 [0, 1, 5, 7, 32, 33] (L' := [(0, .slice ao1 p_l.length cp1), (1, .int .u64 size), (5, .int .i64 s2), (7, .int .i64 s5), (32, .slice ao1 p_l.length cp1), (33, .int .i64 s2)]) hf (by kernel_rfl) ?_
                clear hf; clear a; intro a hf
                have hT := of_gd hS; clear hS; obtain ⟨hc2, hS⟩ := hT
                refine ixR tbOk u33 i25 rfl rfl ((hs.ro 0 rfl).ra (LeH.refl _)) (k := .i64) (n := s2) hc2 hf (by kernel_rfl) (by kernel_rfl) (by kernel_rfl) (by kernel_rfl) ?_
                clear hf; clear a; intro pb2 po2 c2 a hp2 hr2 hf
                obtain rfl : c2 = [.int .u32 ((gt p_l s2).1), .int .u32 ((gt p_l s2).2.1), .int .u64 ((gt p_l s2).2.2.1), .int .u64 ((gt p_l s2).2.2.2.1), .int .u64 ((gt p_l s2).2.2.2.2.1), .int .u64 ((gt p_l s2).2.2.2.2.2.1), .int .u64 ((gt p_l s2).2.2.2.2.2.2)] := hr2
                replace hs : Sep w F R w3 F6 [.cel pb2 po2 [.int .u32 ((gt p_l s2).1), .int .u32 ((gt p_l s2).2.1), .int .u64 ((gt p_l s2).2.2.1), .int .u64 ((gt p_l s2).2.2.2.1), .int .u64 ((gt p_l s2).2.2.2.2.1), .int .u64 ((gt p_l s2).2.2.2.2.2.1), .int .u64 ((gt p_l s2).2.2.2.2.2.2)], .ro ty24 (.slice ao1 p_l.length cp1) p_l] := hs.addCel hp2
                replace hf := Fr.keep (ks := [0, 1, 5, 7, 34]) (L' := [(0, .slice ao1 p_l.length cp1), (1, .int .u64 size), (5, .int .i64 s2), (7, .int .i64 s5), (34, .pointer (some ⟨pb2, po2, none⟩))]) hf (by kernel_rfl)
                refine st tbOk 1 [0, 1, 5, 7, 35] (L' := [(0, .slice ao1 p_l.length cp1), (1, .int .u64 size), (5, .int .i64 s2), (7, .int .i64 s5), (35, .pointer (some ⟨pb2, po2, none⟩))]) hf (by kernel_rfl) ?_
                clear hf; clear a; intro a hf
                refine ldC tbOk (T := 22) (hs.ccel 0 rfl) (LeH.refl _) 0 (.int .u32 ((gt p_l s2).1)) hf (by kernel_rfl) (by kernel_rfl) (by kernel_rfl) (by kernel_rfl) ?_
                clear hf; clear a; intro a hf
                replace hs : Sep w F R w3 F6 [.ro ty24 (.slice ao1 p_l.length cp1) p_l] := hs.sel [1] rfl rfl
                replace hf := Fr.keep (ks := [0, 1, 5, 7, 36]) (L' := [(0, .slice ao1 p_l.length cp1), (1, .int .u64 size), (5, .int .i64 s2), (7, .int .i64 s5), (36, .int .u32 ((gt p_l s2).1))]) hf (by kernel_rfl)
                refine st tbOk 2 [0, 1, 5, 7, 38] (L' := [(0, .slice ao1 p_l.length cp1), (1, .int .u64 size), (5, .int .i64 s2), (7, .int .i64 s5), (38, .bool (((gt p_l s2).1) == 1))]) hf (by kernel_rfl) ?_
                clear hf; clear a; intro a hf
                rcases Bool.eq_false_or_eq_true (((gt p_l s2).1) == 1) with hb4 | hb4
                · replace hS := of_t hb4 hS
                  replace hf := Fr.cast (L' := [(0, .slice ao1 p_l.length cp1), (1, .int .u64 size), (5, .int .i64 s2), (7, .int .i64 s5), (38, .bool true)]) hf (by rw [hb4])
                  refine st tbOk 2 [0, 1, 5, 7, 38, 39, 40] (L' := [(0, .slice ao1 p_l.length cp1), (1, .int .u64 size), (5, .int .i64 s2), (7, .int .i64 s5), (38, .bool true), (39, .slice ao1 p_l.length cp1), (40, .int .i64 s5)]) hf (by kernel_rfl) ?_
                  clear hf; clear a; intro a hf
                  have hT := of_gd hS; clear hS; obtain ⟨hc3, hS⟩ := hT
                  refine ixR tbOk u33 i25 rfl rfl ((hs.ro 0 rfl).ra (LeH.refl _)) (k := .i64) (n := s5) hc3 hf (by kernel_rfl) (by kernel_rfl) (by kernel_rfl) (by kernel_rfl) ?_
                  clear hf; clear a; intro pb3 po3 c3 a hp3 hr3 hf
                  obtain rfl : c3 = [.int .u32 ((gt p_l s5).1), .int .u32 ((gt p_l s5).2.1), .int .u64 ((gt p_l s5).2.2.1), .int .u64 ((gt p_l s5).2.2.2.1), .int .u64 ((gt p_l s5).2.2.2.2.1), .int .u64 ((gt p_l s5).2.2.2.2.2.1), .int .u64 ((gt p_l s5).2.2.2.2.2.2)] := hr3
                  replace hs : Sep w F R w3 F6 [.cel pb3 po3 [.int .u32 ((gt p_l s5).1), .int .u32 ((gt p_l s5).2.1), .int .u64 ((gt p_l s5).2.2.1), .int .u64 ((gt p_l s5).2.2.2.1), .int .u64 ((gt p_l s5).2.2.2.2.1), .int .u64 ((gt p_l s5).2.2.2.2.2.1), .int .u64 ((gt p_l s5).2.2.2.2.2.2)], .ro ty24 (.slice ao1 p_l.length cp1) p_l] := hs.addCel hp3
                  replace hf := Fr.keep (ks := [0, 1, 5, 7, 38, 41]) (L' := [(0, .slice ao1 p_l.length cp1), (1, .int .u64 size), (5, .int .i64 s2), (7, .int .i64 s5), (38, .bool true), (41, .pointer (some ⟨pb3, po3, none⟩))]) hf (by kernel_rfl)
                  refine st tbOk 1 [0, 1, 5, 7, 38, 42] (L' := [(0, .slice ao1 p_l.length cp1), (1, .int .u64 size), (5, .int .i64 s2), (7, .int .i64 s5), (38, .bool true), (42, .pointer (some ⟨pb3, po3, none⟩))]) hf (by kernel_rfl) ?_
                  clear hf; clear a; intro a hf
                  refine ldC tbOk (T := 22) (hs.ccel 0 rfl) (LeH.refl _) 0 (.int .u32 ((gt p_l s5).1)) hf (by kernel_rfl) (by kernel_rfl) (by kernel_rfl) (by kernel_rfl) ?_
                  clear hf; clear a; intro a hf
                  replace hs : Sep w F R w3 F6 [.ro ty24 (.slice ao1 p_l.length cp1) p_l] := hs.sel [1] rfl rfl
                  replace hf := Fr.keep (ks := [0, 1, 5, 7, 38, 43]) (L' := [(0, .slice ao1 p_l.length cp1), (1, .int .u64 size), (5, .int .i64 s2), (7, .int .i64 s5), (38, .bool true), (43, .int .u32 ((gt p_l s5).1))]) hf (by kernel_rfl)
                  refine st tbOk 2 [0, 1, 5, 7, 45] (L' := [(0, .slice ao1 p_l.length cp1), (1, .int .u64 size), (5, .int .i64 s2), (7, .int .i64 s5), (45, .bool (((gt p_l s5).1) == 1))]) hf (by kernel_rfl) ?_
                  clear hf; clear a; intro a hf
                  refine wpList_nil ?_
                  exact hK6 (((gt p_l s5).1) == 1) _ _ ⟨_, hs.sel [0] rfl rfl, hf.keep (ks := [0, 1, 5, 7, 45]) (by kernel_rfl)⟩ hS
                · replace hS := of_f hb4 hS
                  replace hf := Fr.cast (L' := [(0, .slice ao1 p_l.length cp1), (1, .int .u64 size), (5, .int .i64 s2), (7, .int .i64 s5), (38, .bool false)]) hf (by rw [hb4])
                  refine st tbOk 7 [0, 1, 5, 7, 45] (L' := [(0, .slice ao1 p_l.length cp1), (1, .int .u64 size), (5, .int .i64 s2), (7, .int .i64 s5), (45, .bool false)]) hf (by kernel_rfl) ?_
                  clear hf; clear a; intro a hf
                  refine wpList_nil ?_
                  exact hK6 false _ _ ⟨_, hs.sel [0] rfl rfl, hf.keep (ks := [0, 1, 5, 7, 45]) (by kernel_rfl)⟩ hS
            · replace hS := of_f hb3 hS
              refine wp_exit ?_
              exact hK4 () _ _ ⟨_, hs.sel [0] rfl rfl, hf.keep (ks := [0, 1, 5]) (by kernel_rfl)⟩ hS
    · replace hS := of_f hb1 hS
      refine wp_exit ?_
      exact hK1 () _ _ ⟨_, hs.sel [0] rfl rfl, hf.keep (ks := [0]) (by kernel_rfl)⟩ hS

end Dm
