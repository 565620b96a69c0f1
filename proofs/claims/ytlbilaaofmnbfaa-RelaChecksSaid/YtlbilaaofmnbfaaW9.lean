/-
  The walks: a call of each Go function gives what its shallow form gives, where that form gives something; printed by a program of this repo. No condition.
-/
import Derived.Test.YtlbilaaofmnbfaaWT
import Derived.Test.YtlbilaaofmnbfaaW8
namespace Dm
open Go Go.RowKit Go.Proofs

set_option maxHeartbeats 4000000 in
theorem ref07_Check_ok {w : World} {F : SH} {p_l : List (Int × Int × Int × Int)} {symbols : Int} {ao1 : Option Addr} {cp1 : Nat} (hs : Sep w F (blks [.ro ty45 (.slice ao1 p_l.length cp1) p_l]) w F [.ro ty45 (.slice ao1 p_l.length cp1) p_l]) {r : Int} (hS : ref07_Check p_l symbols = some r) :
    Calls Try.prog 25 [.slice ao1 p_l.length cp1, .int .i64 symbols].toArray w (Gives (fun u w' => ∃ (F' : SH), u = .int .i64 r ∧ Sep w F (blks [.ro ty45 (.slice ao1 p_l.length cp1) p_l]) w' F' [])) := by
  generalize (blks [.ro ty45 (.slice ao1 p_l.length cp1) p_l]) = R at hs ⊢
  unfold ref07_Check at hS
  refine fn_ok (vs := [.slice ao1 p_l.length cp1, .int .i64 symbols]) Try.func25 rfl 63 Try.ntmps25 (Nat.le_of_ble_eq_true rfl) ?_
  intro a hf
  replace hf := Fr.cast (L' := [(0, .slice ao1 p_l.length cp1), (1, .int .i64 symbols)]) hf (by kernel_rfl)
  refine sq ?_
  refine reg ?_
  refine st tbOk 1 [0, 1] (L' := [(0, .slice ao1 p_l.length cp1), (1, .int .i64 symbols)]) hf (by kernel_rfl) ?_
  clear hf; clear a; intro a hf
  refine wpList_nil ?_
  refine sq ?_
  refine sq ?_
  refine reg ?_
  refine st tbOk 1 [0, 1, 5] (L' := [(0, .slice ao1 p_l.length cp1), (1, .int .i64 symbols), (5, .int .i64 0)]) hf (by kernel_rfl) ?_
  clear hf; clear a; intro a hf
  refine wpList_nil ?_
  refine ctj (fun (s1 : Unit) (a : Act) (w' : World) => ∃ (F1 : SH), Sep w F R w' F1 [] ∧ Fr 63 [] a) hS ?_ ?_
  · clear hS hf hs; clear a; intro s1 a w7 hM hS
    obtain ⟨F1, hs, hf⟩ := hM
    refine sq ?_
    refine reg ?_
    refine st tbOk 1 [4] (L' := [(4, .int .i64 0)]) hf (by kernel_rfl) ?_
    clear hf; clear a; intro a hf
    refine wpList_nil ?_
    have hr := Option.some.inj hS; subst hr
    refine wp_ret ?_
    exact ret_ok hf (vs := [.int .i64 0]) (by kernel_rfl) ⟨_, rfl, hs.sel [] rfl rfl⟩
  · clear hS; intro KK1 k1 hK1 hS
    refine blk ?_
    refine lp (st := 0) (fun (s2 : Int) (a : Act) (w' : World) => ∃ (F2 : SH), Sep w F R w' F2 [.ro ty45 (.slice ao1 p_l.length cp1) p_l] ∧ Fr 63 [(0, .slice ao1 p_l.length cp1), (1, .int .i64 symbols), (5, .int .i64 s2)] a) ?_ ⟨_, hs.sel [0] rfl rfl, hf.keep (ks := [0, 1, 5]) (by kernel_rfl)⟩ hS
    clear hS hf hs; clear a
    intro rec1 KK2 hK2 s2 a w1 hM hS
    obtain ⟨F2, hs, hf⟩ := hM
    refine sq ?_
    refine sq ?_
    refine reg ?_
    refine st tbOk 4 [0, 1, 5, 10] (L' := [(0, .slice ao1 p_l.length cp1), (1, .int .i64 symbols), (5, .int .i64 s2), (10, .bool (decide (s2 < ((p_l.length : Nat) : Int))))]) hf (by kernel_rfl) ?_
    clear hf; clear a; intro a hf
    refine wpList_nil ?_
    refine cnd (b := decide (s2 < ((p_l.length : Nat) : Int))) hf (by kernel_rfl) (fun hb1 => ?_) (fun hb1 => ?_)
    · replace hS := of_t hb1 hS
      refine wp_skip ?_
      refine sq ?_
      refine blk ?_
      refine sq ?_
      refine reg ?_
      refine st tbOk 2 [0, 1, 5, 13, 14] (L' := [(0, .slice ao1 p_l.length cp1), (1, .int .i64 symbols), (5, .int .i64 s2), (13, .slice ao1 p_l.length cp1), (14, .int .i64 s2)]) hf (by kernel_rfl) ?_
      clear hf; clear a; intro a hf
      have hT := of_gd hS; clear hS; obtain ⟨hc1, hS⟩ := hT
      refine ixR tbOk u48 i46 rfl rfl ((hs.ro 0 rfl).ra (LeH.refl _)) (k := .i64) (n := s2) hc1 hf (by kernel_rfl) (by kernel_rfl) (by kernel_rfl) (by kernel_rfl) ?_
      clear hf; clear a; intro pb1 po1 c1 a hp1 hr1 hf
      obtain rfl : c1 = [.int .u64 ((gt p_l s2).1), .int .u32 ((gt p_l s2).2.1), .int .u32 ((gt p_l s2).2.2.1), .int .i64 ((gt p_l s2).2.2.2)] := hr1
      replace hs : Sep w F R w1 F2 [.cel pb1 po1 [.int .u64 ((gt p_l s2).1), .int .u32 ((gt p_l s2).2.1), .int .u32 ((gt p_l s2).2.2.1), .int .i64 ((gt p_l s2).2.2.2)], .ro ty45 (.slice ao1 p_l.length cp1) p_l] := hs.addCel hp1
      replace hf := Fr.keep (ks := [0, 1, 5, 15]) (L' := [(0, .slice ao1 p_l.length cp1), (1, .int .i64 symbols), (5, .int .i64 s2), (15, .pointer (some ⟨pb1, po1, none⟩))]) hf (by kernel_rfl)
      refine st tbOk 1 [0, 1, 5, 16] (L' := [(0, .slice ao1 p_l.length cp1), (1, .int .i64 symbols), (5, .int .i64 s2), (16, .pointer (some ⟨pb1, po1 + 1, none⟩))]) hf (by kernel_rfl) ?_
      clear hf; clear a; intro a hf
      refine ldC tbOk (T := 44) (hs.ccel 0 rfl) (LeH.refl _) 1 (.int .u32 ((gt p_l s2).2.1)) hf (by kernel_rfl) (by kernel_rfl) (by kernel_rfl) (by kernel_rfl) ?_
      clear hf; clear a; intro a hf
      replace hs : Sep w F R w1 F2 [.ro ty45 (.slice ao1 p_l.length cp1) p_l] := hs.sel [1] rfl rfl
      replace hf := Fr.keep (ks := [0, 1, 5, 17]) (L' := [(0, .slice ao1 p_l.length cp1), (1, .int .i64 symbols), (5, .int .i64 s2), (17, .int .u32 ((gt p_l s2).2.1))]) hf (by kernel_rfl)
      have hT := of_bd hS; clear hS; obtain ⟨z1, hz1, hS⟩ := hT
      refine clV ent36 (vs := [.int .u32 ((gt p_l s2).2.1)]) (caps := []) hf (by kernel_rfl) (by kernel_rfl) (by kernel_rfl) (by kernel_rfl) (ref07_Known_ok (p_t := (gt p_l s2).2.1) (hs.enter [] rfl rfl) hz1) ?_
      clear hf; clear a; intro v w2 a hT hf; obtain ⟨F3, rfl, hr⟩ := hT
      replace hs : Sep w F R w2 F3 [.ro ty45 (.slice ao1 p_l.length cp1) p_l] := hs.back [] [0] rfl rfl rfl rfl hr
      clear hr
      replace hf := Fr.keep (ks := [0, 1, 5, 18]) (L' := [(0, .slice ao1 p_l.length cp1), (1, .int .i64 symbols), (5, .int .i64 s2), (18, .bool z1)]) hf (by kernel_rfl)
      refine st tbOk 1 [0, 1, 5, 6] (L' := [(0, .slice ao1 p_l.length cp1), (1, .int .i64 symbols), (5, .int .i64 s2), (6, .bool z1)]) hf (by kernel_rfl) ?_
      clear hf; clear a; intro a hf
      refine wpList_nil ?_
      refine sq ?_
      refine sq ?_
      refine reg ?_
      refine st tbOk 2 [0, 1, 5, 20] (L' := [(0, .slice ao1 p_l.length cp1), (1, .int .i64 symbols), (5, .int .i64 s2), (20, .bool (!z1))]) hf (by kernel_rfl) ?_
      clear hf; clear a; intro a hf
      refine wpList_nil ?_
      refine cnd (b := !z1) hf (by kernel_rfl) (fun hb2 => ?_) (fun hb2 => ?_)
      · replace hS := of_t hb2 hS
        refine sq ?_
        refine reg ?_
        refine st tbOk 1 [4] (L' := [(4, .int .i64 33)]) hf (by kernel_rfl) ?_
        clear hf; clear a; intro a hf
        refine wpList_nil ?_
        have hr := Option.some.inj hS; subst hr
        refine wp_ret ?_
        exact ret_ok hf (vs := [.int .i64 33]) (by kernel_rfl) ⟨_, rfl, hs.sel [] rfl rfl⟩
      · replace hS := of_f hb2 hS
        refine wp_skip ?_
        refine sq ?_
        refine sq ?_
        refine ctj (fun (s3 : Bool) (a : Act) (w' : World) => ∃ (F4 : SH), Sep w F R w' F4 [.ro ty45 (.slice ao1 p_l.length cp1) p_l] ∧ Fr 63 [(0, .slice ao1 p_l.length cp1), (1, .int .i64 symbols), (5, .int .i64 s2), (41, .bool s3)] a) hS ?_ ?_
        · clear hS hf hs; clear a; intro s3 a w3 hM hS
          obtain ⟨F4, hs, hf⟩ := hM
          refine cnd (b := s3) hf (by kernel_rfl) (fun hb5 => ?_) (fun hb5 => ?_)
          · replace hS := of_t hb5 hS
            refine sq ?_
            refine reg ?_
            refine st tbOk 1 [4] (L' := [(4, .int .i64 10)]) hf (by kernel_rfl) ?_
            clear hf; clear a; intro a hf
            refine wpList_nil ?_
            have hr := Option.some.inj hS; subst hr
            refine wp_ret ?_
            exact ret_ok hf (vs := [.int .i64 10]) (by kernel_rfl) ⟨_, rfl, hs.sel [] rfl rfl⟩
          · replace hS := of_f hb5 hS
            refine wp_skip ?_
            refine sq ?_
            refine ctj (fun (s4 : Bool) (a : Act) (w' : World) => ∃ (F5 : SH), Sep w F R w' F5 [.ro ty45 (.slice ao1 p_l.length cp1) p_l] ∧ Fr 63 [(0, .slice ao1 p_l.length cp1), (1, .int .i64 symbols), (5, .int .i64 s2), (62, .bool s4)] a) hS ?_ ?_
            · clear hS hf hs; clear a; intro s4 a w6 hM hS
              obtain ⟨F5, hs, hf⟩ := hM
              refine cnd (b := s4) hf (by kernel_rfl) (fun hb7 => ?_) (fun hb7 => ?_)
              · replace hS := of_t hb7 hS
                refine sq ?_
                refine reg ?_
                refine st tbOk 1 [4] (L' := [(4, .int .i64 11)]) hf (by kernel_rfl) ?_
                clear hf; clear a; intro a hf
                refine wpList_nil ?_
                have hr := Option.some.inj hS; subst hr
                refine wp_ret ?_
                exact ret_ok hf (vs := [.int .i64 11]) (by kernel_rfl) ⟨_, rfl, hs.sel [] rfl rfl⟩
              · replace hS := of_f hb7 hS
                refine wp_skip ?_
                refine reg ?_
                have hT := of_let hS; clear hS; obtain ⟨i_1, hl1, hS⟩ := hT
                refine st tbOk 3 [0, 1, 5] (L' := [(0, .slice ao1 p_l.length cp1), (1, .int .i64 symbols), (5, .int .i64 i_1)]) hf (by subst hl1; kernel_rfl) ?_
                clear hf; clear a; intro a hf
                refine wpList_nil ?_
                exact hK2 i_1 _ _ ⟨_, hs.sel [0] rfl rfl, hf.keep (ks := [0, 1, 5]) (by kernel_rfl)⟩ hS
            · clear hS; intro KK4 k3 hK4 hS
              refine regQ mixed (by kernel_rfl) ?_
              refine stQ tbOk 2 [0, 1, 5, 42, 43] (L' := [(0, .slice ao1 p_l.length cp1), (1, .int .i64 symbols), (5, .int .i64 s2), (42, .slice ao1 p_l.length cp1), (43, .int .i64 s2)]) hf (by kernel_rfl) ?_
              clear hf; clear a; intro a hf
              have hT := of_gd hS; clear hS; obtain ⟨hc4, hS⟩ := hT
              refine ixRQ tbOk u48 i46 rfl rfl ((hs.ro 0 rfl).ra (LeH.refl _)) (k := .i64) (n := s2) hc4 hf (by kernel_rfl) (by kernel_rfl) (by kernel_rfl) (by kernel_rfl) ?_
              clear hf; clear a; intro pb4 po4 c4 a hp4 hr4 hf
              obtain rfl : c4 = [.int .u64 ((gt p_l s2).1), .int .u32 ((gt p_l s2).2.1), .int .u32 ((gt p_l s2).2.2.1), .int .i64 ((gt p_l s2).2.2.2)] := hr4
              replace hs : Sep w F R w3 F4 [.cel pb4 po4 [.int .u64 ((gt p_l s2).1), .int .u32 ((gt p_l s2).2.1), .int .u32 ((gt p_l s2).2.2.1), .int .i64 ((gt p_l s2).2.2.2)], .ro ty45 (.slice ao1 p_l.length cp1) p_l] := hs.addCel hp4
              replace hf := Fr.keep (ks := [0, 1, 5, 44]) (L' := [(0, .slice ao1 p_l.length cp1), (1, .int .i64 symbols), (5, .int .i64 s2), (44, .pointer (some ⟨pb4, po4, none⟩))]) hf (by kernel_rfl)
              refine stQ tbOk 1 [0, 1, 5, 45] (L' := [(0, .slice ao1 p_l.length cp1), (1, .int .i64 symbols), (5, .int .i64 s2), (45, .pointer (some ⟨pb4, po4 + 1, none⟩))]) hf (by kernel_rfl) ?_
              clear hf; clear a; intro a hf
              refine ldCQ tbOk (T := 44) (hs.ccel 0 rfl) (LeH.refl _) 1 (.int .u32 ((gt p_l s2).2.1)) hf (by kernel_rfl) (by kernel_rfl) (by kernel_rfl) (by kernel_rfl) ?_
              clear hf; clear a; intro a hf
              replace hs : Sep w F R w3 F4 [.ro ty45 (.slice ao1 p_l.length cp1) p_l] := hs.sel [1] rfl rfl
              replace hf := Fr.keep (ks := [0, 1, 5, 46]) (L' := [(0, .slice ao1 p_l.length cp1), (1, .int .i64 symbols), (5, .int .i64 s2), (46, .int .u32 ((gt p_l s2).2.1))]) hf (by kernel_rfl)
              refine stQ tbOk 2 [0, 1, 5, 48] (L' := [(0, .slice ao1 p_l.length cp1), (1, .int .i64 symbols), (5, .int .i64 s2), (48, .bool (((gt p_l s2).2.1) == 0))]) hf (by kernel_rfl) ?_
              clear hf; clear a; intro a hf
              rcases Bool.eq_false_or_eq_true (((gt p_l s2).2.1) == 0) with hb6 | hb6
              · replace hS := of_t hb6 hS
                replace hf := Fr.cast (L' := [(0, .slice ao1 p_l.length cp1), (1, .int .i64 symbols), (5, .int .i64 s2), (48, .bool true)]) hf (by rw [hb6])
                refine stQ tbOk 9 [0, 1, 5, 55, 56, 57] (L' := [(0, .slice ao1 p_l.length cp1), (1, .int .i64 symbols), (5, .int .i64 s2), (55, .bool true), (56, .slice ao1 p_l.length cp1), (57, .int .i64 s2)]) hf (by kernel_rfl) ?_
                clear hf; clear a; intro a hf
                have hT := of_gd hS; clear hS; obtain ⟨hc5, hS⟩ := hT
                refine ixRQ tbOk u48 i46 rfl rfl ((hs.ro 0 rfl).ra (LeH.refl _)) (k := .i64) (n := s2) hc5 hf (by kernel_rfl) (by kernel_rfl) (by kernel_rfl) (by kernel_rfl) ?_
                clear hf; clear a; intro pb5 po5 c5 a hp5 hr5 hf
                obtain rfl : c5 = [.int .u64 ((gt p_l s2).1), .int .u32 ((gt p_l s2).2.1), .int .u32 ((gt p_l s2).2.2.1), .int .i64 ((gt p_l s2).2.2.2)] := hr5
                replace hs : Sep w F R w3 F4 [.cel pb5 po5 [.int .u64 ((gt p_l s2).1), .int .u32 ((gt p_l s2).2.1), .int .u32 ((gt p_l s2).2.2.1), .int .i64 ((gt p_l s2).2.2.2)], .ro ty45 (.slice ao1 p_l.length cp1) p_l] := hs.addCel hp5
                replace hf := Fr.keep (ks := [0, 1, 5, 55, 58]) (L' := [(0, .slice ao1 p_l.length cp1), (1, .int .i64 symbols), (5, .int .i64 s2), (55, .bool true), (58, .pointer (some ⟨pb5, po5, none⟩))]) hf (by kernel_rfl)
                refine stQ tbOk 1 [0, 1, 5, 55, 59] (L' := [(0, .slice ao1 p_l.length cp1), (1, .int .i64 symbols), (5, .int .i64 s2), (55, .bool true), (59, .pointer (some ⟨pb5, po5 + 2, none⟩))]) hf (by kernel_rfl) ?_
                clear hf; clear a; intro a hf
                refine ldCQ tbOk (T := 44) (hs.ccel 0 rfl) (LeH.refl _) 2 (.int .u32 ((gt p_l s2).2.2.1)) hf (by kernel_rfl) (by kernel_rfl) (by kernel_rfl) (by kernel_rfl) ?_
                clear hf; clear a; intro a hf
                replace hs : Sep w F R w3 F4 [.ro ty45 (.slice ao1 p_l.length cp1) p_l] := hs.sel [1] rfl rfl
                replace hf := Fr.keep (ks := [0, 1, 5, 55, 60]) (L' := [(0, .slice ao1 p_l.length cp1), (1, .int .i64 symbols), (5, .int .i64 s2), (55, .bool true), (60, .int .u32 ((gt p_l s2).2.2.1))]) hf (by kernel_rfl)
                refine stQ tbOk 2 [0, 1, 5, 62] (L' := [(0, .slice ao1 p_l.length cp1), (1, .int .i64 symbols), (5, .int .i64 s2), (62, .bool (!(true == (((gt p_l s2).2.2.1) == 0))))]) hf (by kernel_rfl) ?_
                clear hf; clear a; intro a hf
                refine wpQuiet_nil ?_
                intro w4 hx
                replace hs : Sep w F R w4 F4 [.ro ty45 (.slice ao1 p_l.length cp1) p_l] := hs.ext hx
                clear hx
                exact hK4 (!(true == (((gt p_l s2).2.2.1) == 0))) _ _ ⟨_, hs.sel [0] rfl rfl, hf.keep (ks := [0, 1, 5, 62]) (by kernel_rfl)⟩ hS
              · replace hS := of_f hb6 hS
                replace hf := Fr.cast (L' := [(0, .slice ao1 p_l.length cp1), (1, .int .i64 symbols), (5, .int .i64 s2), (48, .bool false)]) hf (by rw [hb6])
                refine stQ tbOk 2 [0, 1, 5, 48, 49, 50] (L' := [(0, .slice ao1 p_l.length cp1), (1, .int .i64 symbols), (5, .int .i64 s2), (48, .bool false), (49, .slice ao1 p_l.length cp1), (50, .int .i64 s2)]) hf (by kernel_rfl) ?_
                clear hf; clear a; intro a hf
                have hT := of_gd hS; clear hS; obtain ⟨hc6, hS⟩ := hT
                refine ixRQ tbOk u48 i46 rfl rfl ((hs.ro 0 rfl).ra (LeH.refl _)) (k := .i64) (n := s2) hc6 hf (by kernel_rfl) (by kernel_rfl) (by kernel_rfl) (by kernel_rfl) ?_
                clear hf; clear a; intro pb6 po6 c6 a hp6 hr6 hf
                obtain rfl : c6 = [.int .u64 ((gt p_l s2).1), .int .u32 ((gt p_l s2).2.1), .int .u32 ((gt p_l s2).2.2.1), .int .i64 ((gt p_l s2).2.2.2)] := hr6
                replace hs : Sep w F R w3 F4 [.cel pb6 po6 [.int .u64 ((gt p_l s2).1), .int .u32 ((gt p_l s2).2.1), .int .u32 ((gt p_l s2).2.2.1), .int .i64 ((gt p_l s2).2.2.2)], .ro ty45 (.slice ao1 p_l.length cp1) p_l] := hs.addCel hp6
                replace hf := Fr.keep (ks := [0, 1, 5, 48, 51]) (L' := [(0, .slice ao1 p_l.length cp1), (1, .int .i64 symbols), (5, .int .i64 s2), (48, .bool false), (51, .pointer (some ⟨pb6, po6, none⟩))]) hf (by kernel_rfl)
                refine stQ tbOk 1 [0, 1, 5, 48, 52] (L' := [(0, .slice ao1 p_l.length cp1), (1, .int .i64 symbols), (5, .int .i64 s2), (48, .bool false), (52, .pointer (some ⟨pb6, po6 + 1, none⟩))]) hf (by kernel_rfl) ?_
                clear hf; clear a; intro a hf
                refine ldCQ tbOk (T := 44) (hs.ccel 0 rfl) (LeH.refl _) 1 (.int .u32 ((gt p_l s2).2.1)) hf (by kernel_rfl) (by kernel_rfl) (by kernel_rfl) (by kernel_rfl) ?_
                clear hf; clear a; intro a hf
                replace hs : Sep w F R w3 F4 [.ro ty45 (.slice ao1 p_l.length cp1) p_l] := hs.sel [1] rfl rfl
                replace hf := Fr.keep (ks := [0, 1, 5, 48, 53]) (L' := [(0, .slice ao1 p_l.length cp1), (1, .int .i64 symbols), (5, .int .i64 s2), (48, .bool false), (53, .int .u32 ((gt p_l s2).2.1))]) hf (by kernel_rfl)
                refine stQ tbOk 4 [0, 1, 5, 55, 56, 57] (L' := [(0, .slice ao1 p_l.length cp1), (1, .int .i64 symbols), (5, .int .i64 s2), (55, .bool (((gt p_l s2).2.1) == 8)), (56, .slice ao1 p_l.length cp1), (57, .int .i64 s2)]) hf (by kernel_rfl) ?_
                clear hf; clear a; intro a hf
                have hT := of_gd hS; clear hS; obtain ⟨hc7, hS⟩ := hT
                refine ixRQ tbOk u48 i46 rfl rfl ((hs.ro 0 rfl).ra (LeH.refl _)) (k := .i64) (n := s2) hc7 hf (by kernel_rfl) (by kernel_rfl) (by kernel_rfl) (by kernel_rfl) ?_
                clear hf; clear a; intro pb7 po7 c7 a hp7 hr7 hf
                obtain rfl : c7 = [.int .u64 ((gt p_l s2).1), .int .u32 ((gt p_l s2).2.1), .int .u32 ((gt p_l s2).2.2.1), .int .i64 ((gt p_l s2).2.2.2)] := hr7
                replace hs : Sep w F R w3 F4 [.cel pb7 po7 [.int .u64 ((gt p_l s2).1), .int .u32 ((gt p_l s2).2.1), .int .u32 ((gt p_l s2).2.2.1), .int .i64 ((gt p_l s2).2.2.2)], .ro ty45 (.slice ao1 p_l.length cp1) p_l] := hs.addCel hp7
                replace hf := Fr.keep (ks := [0, 1, 5, 55, 58]) (L' := [(0, .slice ao1 p_l.length cp1), (1, .int .i64 symbols), (5, .int .i64 s2), (55, .bool (((gt p_l s2).2.1) == 8)), (58, .pointer (some ⟨pb7, po7, none⟩))]) hf (by kernel_rfl)
                refine stQ tbOk 1 [0, 1, 5, 55, 59] (L' := [(0, .slice ao1 p_l.length cp1), (1, .int .i64 symbols), (5, .int .i64 s2), (55, .bool (((gt p_l s2).2.1) == 8)), (59, .pointer (some ⟨pb7, po7 + 2, none⟩))]) hf (by kernel_rfl) ?_
                clear hf; clear a; intro a hf
                refine ldCQ tbOk (T := 44) (hs.ccel 0 rfl) (LeH.refl _) 2 (.int .u32 ((gt p_l s2).2.2.1)) hf (by kernel_rfl) (by kernel_rfl) (by kernel_rfl) (by kernel_rfl) ?_
                clear hf; clear a; intro a hf
                replace hs : Sep w F R w3 F4 [.ro ty45 (.slice ao1 p_l.length cp1) p_l] := hs.sel [1] rfl rfl
                replace hf := Fr.keep (ks := [0, 1, 5, 55, 60]) (L' := [(0, .slice ao1 p_l.length cp1), (1, .int .i64 symbols), (5, .int .i64 s2), (55, .bool (((gt p_l s2).2.1) == 8)), (60, .int .u32 ((gt p_l s2).2.2.1))]) hf (by kernel_rfl)
                refine stQ tbOk 2 [0, 1, 5, 62] (L' := [(0, .slice ao1 p_l.length cp1), (1, .int .i64 symbols), (5, .int .i64 s2), (62, .bool (!((((gt p_l s2).2.1) == 8) == (((gt p_l s2).2.2.1) == 0))))]) hf (by kernel_rfl) ?_
                clear hf; clear a; intro a hf
                refine wpQuiet_nil ?_
                intro w5 hx
                replace hs : Sep w F R w5 F4 [.ro ty45 (.slice ao1 p_l.length cp1) p_l] := hs.ext hx
                clear hx
                exact hK4 (!((((gt p_l s2).2.1) == 8) == (((gt p_l s2).2.2.1) == 0))) _ _ ⟨_, hs.sel [0] rfl rfl, hf.keep (ks := [0, 1, 5, 62]) (by kernel_rfl)⟩ hS
        · clear hS; intro KK3 k2 hK3 hS
          refine reg ?_
          refine st tbOk 2 [0, 1, 5, 21, 22] (L' := [(0, .slice ao1 p_l.length cp1), (1, .int .i64 symbols), (5, .int .i64 s2), (21, .slice ao1 p_l.length cp1), (22, .int .i64 s2)]) hf (by kernel_rfl) ?_
          clear hf; clear a; intro a hf
          have hT := of_gd hS; clear hS; obtain ⟨hc2, hS⟩ := hT
          refine ixR tbOk u48 i46 rfl rfl ((hs.ro 0 rfl).ra (LeH.refl _)) (k := .i64) (n := s2) hc2 hf (by kernel_rfl) (by kernel_rfl) (by kernel_rfl) (by kernel_rfl) ?_
          clear hf; clear a; intro pb2 po2 c2 a hp2 hr2 hf
          obtain rfl : c2 = [.int .u64 ((gt p_l s2).1), .int .u32 ((gt p_l s2).2.1), .int .u32 ((gt p_l s2).2.2.1), .int .i64 ((gt p_l s2).2.2.2)] := hr2
          replace hs : Sep w F R w2 F3 [.cel pb2 po2 [.int .u64 ((gt p_l s2).1), .int .u32 ((gt p_l s2).2.1), .int .u32 ((gt p_l s2).2.2.1), .int .i64 ((gt p_l s2).2.2.2)], .ro ty45 (.slice ao1 p_l.length cp1) p_l] := hs.addCel hp2
          replace hf := Fr.keep (ks := [0, 1, 5, 23]) (L' := [(0, .slice ao1 p_l.length cp1), (1, .int .i64 symbols), (5, .int .i64 s2), (23, .pointer (some ⟨pb2, po2, none⟩))]) hf (by kernel_rfl)
          refine st tbOk 1 [0, 1, 5, 24] (L' := [(0, .slice ao1 p_l.length cp1), (1, .int .i64 symbols), (5, .int .i64 s2), (24, .pointer (some ⟨pb2, po2 + 2, none⟩))]) hf (by kernel_rfl) ?_
          clear hf; clear a; intro a hf
          refine ldC tbOk (T := 44) (hs.ccel 0 rfl) (LeH.refl _) 2 (.int .u32 ((gt p_l s2).2.2.1)) hf (by kernel_rfl) (by kernel_rfl) (by kernel_rfl) (by kernel_rfl) ?_
          clear hf; clear a; intro a hf
          replace hs : Sep w F R w2 F3 [.ro ty45 (.slice ao1 p_l.length cp1) p_l] := hs.sel [1] rfl rfl
          replace hf := Fr.keep (ks := [0, 1, 5, 25]) (L' := [(0, .slice ao1 p_l.length cp1), (1, .int .i64 symbols), (5, .int .i64 s2), (25, .int .u32 ((gt p_l s2).2.2.1))]) hf (by kernel_rfl)
          refine st tbOk 2 [0, 1, 5, 27] (L' := [(0, .slice ao1 p_l.length cp1), (1, .int .i64 symbols), (5, .int .i64 s2), (27, .bool (decide (((gt p_l s2).2.2.1) > 0)))]) hf (by kernel_rfl) ?_
          clear hf; clear a; intro a hf
          rcases Bool.eq_false_or_eq_true (decide (((gt p_l s2).2.2.1) > 0)) with hb3 | hb3
          · replace hS := of_t hb3 hS
            replace hf := Fr.cast (L' := [(0, .slice ao1 p_l.length cp1), (1, .int .i64 symbols), (5, .int .i64 s2), (27, .bool true)]) hf (by rw [hb3])
            refine st tbOk 3 [0, 1, 5, 27, 30] (L' := [(0, .slice ao1 p_l.length cp1), (1, .int .i64 symbols), (5, .int .i64 s2), (27, .bool true), (30, .bool (decide (symbols < 0)))]) hf (by kernel_rfl) ?_
            clear hf; clear a; intro a hf
            rcases Bool.eq_false_or_eq_true (decide (symbols < 0)) with hb4 | hb4
            · replace hS := of_t hb4 hS
              replace hf := Fr.cast (L' := [(0, .slice ao1 p_l.length cp1), (1, .int .i64 symbols), (5, .int .i64 s2), (27, .bool true), (30, .bool true)]) hf (by rw [hb4])
              refine st tbOk 11 [0, 1, 5, 41] (L' := [(0, .slice ao1 p_l.length cp1), (1, .int .i64 symbols), (5, .int .i64 s2), (41, .bool true)]) hf (by kernel_rfl) ?_
              clear hf; clear a; intro a hf
              refine wpList_nil ?_
              exact hK3 true _ _ ⟨_, hs.sel [0] rfl rfl, hf.keep (ks := [0, 1, 5, 41]) (by kernel_rfl)⟩ hS
            · replace hS := of_f hb4 hS
              replace hf := Fr.cast (L' := [(0, .slice ao1 p_l.length cp1), (1, .int .i64 symbols), (5, .int .i64 s2), (27, .bool true), (30, .bool false)]) hf (by rw [hb4])
              refine st tbOk 2 [0, 1, 5, 27, 30, 31, 32] (L' := [(0, .slice ao1 p_l.length cp1), (1, .int .i64 symbols), (5, .int .i64 s2), (27, .bool true), (30, .bool false), (31, .slice ao1 p_l.length cp1), (32, .int .i64 s2)]) hf (by kernel_rfl) ?_
              clear hf; clear a; intro a hf
              have hT := of_gd hS; clear hS; obtain ⟨hc3, hS⟩ := hT
              refine ixR tbOk u48 i46 rfl rfl ((hs.ro 0 rfl).ra (LeH.refl _)) (k := .i64) (n := s2) hc3 hf (by kernel_rfl) (by kernel_rfl) (by kernel_rfl) (by kernel_rfl) ?_
              clear hf; clear a; intro pb3 po3 c3 a hp3 hr3 hf
              obtain rfl : c3 = [.int .u64 ((gt p_l s2).1), .int .u32 ((gt p_l s2).2.1), .int .u32 ((gt p_l s2).2.2.1), .int .i64 ((gt p_l s2).2.2.2)] := hr3
              replace hs : Sep w F R w2 F3 [.cel pb3 po3 [.int .u64 ((gt p_l s2).1), .int .u32 ((gt p_l s2).2.1), .int .u32 ((gt p_l s2).2.2.1), .int .i64 ((gt p_l s2).2.2.2)], .ro ty45 (.slice ao1 p_l.length cp1) p_l] := hs.addCel hp3
              replace hf := Fr.keep (ks := [0, 1, 5, 27, 30, 33]) (L' := [(0, .slice ao1 p_l.length cp1), (1, .int .i64 symbols), (5, .int .i64 s2), (27, .bool true), (30, .bool false), (33, .pointer (some ⟨pb3, po3, none⟩))]) hf (by kernel_rfl)
              refine st tbOk 1 [0, 1, 5, 27, 30, 34] (L' := [(0, .slice ao1 p_l.length cp1), (1, .int .i64 symbols), (5, .int .i64 s2), (27, .bool true), (30, .bool false), (34, .pointer (some ⟨pb3, po3 + 2, none⟩))]) hf (by kernel_rfl) ?_
              clear hf; clear a; intro a hf
              refine ldC tbOk (T := 44) (hs.ccel 0 rfl) (LeH.refl _) 2 (.int .u32 ((gt p_l s2).2.2.1)) hf (by kernel_rfl) (by kernel_rfl) (by kernel_rfl) (by kernel_rfl) ?_
              clear hf; clear a; intro a hf
              replace hs : Sep w F R w2 F3 [.ro ty45 (.slice ao1 p_l.length cp1) p_l] := hs.sel [1] rfl rfl
              replace hf := Fr.keep (ks := [0, 1, 5, 27, 30, 35]) (L' := [(0, .slice ao1 p_l.length cp1), (1, .int .i64 symbols), (5, .int .i64 s2), (27, .bool true), (30, .bool false), (35, .int .u32 ((gt p_l s2).2.2.1))]) hf (by kernel_rfl)
              refine st tbOk 6 [0, 1, 5, 41] (L' := [(0, .slice ao1 p_l.length cp1), (1, .int .i64 symbols), (5, .int .i64 s2), (41, .bool (decide ((IntKind.u64.wrap ((gt p_l s2).2.2.1)) ≥ (IntKind.u64.wrap symbols))))]) hf (by kernel_rfl) ?_
              clear hf; clear a; intro a hf
              refine wpList_nil ?_
              exact hK3 (decide ((IntKind.u64.wrap ((gt p_l s2).2.2.1)) ≥ (IntKind.u64.wrap symbols))) _ _ ⟨_, hs.sel [0] rfl rfl, hf.keep (ks := [0, 1, 5, 41]) (by kernel_rfl)⟩ hS
          · replace hS := of_f hb3 hS
            replace hf := Fr.cast (L' := [(0, .slice ao1 p_l.length cp1), (1, .int .i64 symbols), (5, .int .i64 s2), (27, .bool false)]) hf (by rw [hb3])
            refine st tbOk 14 [0, 1, 5, 41] (L' := [(0, .slice ao1 p_l.length cp1), (1, .int .i64 symbols), (5, .int .i64 s2), (41, .bool false)]) hf (by kernel_rfl) ?_
            clear hf; clear a; intro a hf
            refine wpList_nil ?_
            exact hK3 false _ _ ⟨_, hs.sel [0] rfl rfl, hf.keep (ks := [0, 1, 5, 41]) (by kernel_rfl)⟩ hS
    · replace hS := of_f hb1 hS
      refine wp_exit ?_
      exact hK1 () _ _ ⟨_, hs.sel [] rfl rfl, hf.keep (ks := []) (by kernel_rfl)⟩ hS

end Dm
