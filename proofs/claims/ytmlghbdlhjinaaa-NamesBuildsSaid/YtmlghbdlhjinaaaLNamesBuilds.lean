/-
  The walk of the law NamesBuilds; printed by a program of this repo. No condition.
-/
import Derived.Test.YtmlghbdlhjinaaaWT
import Derived.Test.YtmlghbdlhjinaaaW1
import Derived.Test.YtmlghbdlhjinaaaW3
import Derived.Test.YtmlghbdlhjinaaaW4
namespace Dm
open Go Go.RowKit Go.Proofs

set_option maxHeartbeats 4000000 in
theorem law02_NamesBuilds_ok {w : World} {F : SH} {p_l : List (List UInt8)} {ao1 : Option Addr} {cp1 : Nat} (hs : Sep w F (blks [.ro tS (.slice ao1 p_l.length cp1) p_l]) w F [.ro tS (.slice ao1 p_l.length cp1) p_l]) {r : Bool} (hS : law02_NamesBuilds p_l = some r) :
    Calls Try.prog 4 [.slice ao1 p_l.length cp1].toArray w (Gives (fun u w' => ∃ (F' : SH), u = .bool r ∧ Sep w F (blks [.ro tS (.slice ao1 p_l.length cp1) p_l]) w' F' [])) := by
  generalize (blks [.ro tS (.slice ao1 p_l.length cp1) p_l]) = R at hs ⊢
  unfold law02_NamesBuilds at hS
  refine fn_ok (vs := [.slice ao1 p_l.length cp1]) Try.func4 rfl 62 Try.ntmps4 (Nat.le_of_ble_eq_true rfl) ?_
  intro a hf
  replace hf := Fr.cast (L' := [(0, .slice ao1 p_l.length cp1)]) hf (by kernel_rfl)
  refine sq ?_
  refine reg ?_
  refine st tbOk 1 [0] (L' := [(0, .slice ao1 p_l.length cp1)]) hf (by kernel_rfl) ?_
  clear hf; clear a; intro a hf
  refine wpList_nil ?_
  refine sq ?_
  refine reg ?_
  have hT := of_bd hS; clear hS; obtain ⟨z1, hz1, hS⟩ := hT
  refine clV ent15 (vs := []) (caps := []) hf (by kernel_rfl) (by kernel_rfl) (by kernel_rfl) (by kernel_rfl) (law02_awake_ok (hs.enter [] rfl rfl) hz1) ?_
  clear hf; clear a; intro v w1 a hT hf; obtain ⟨F1, rfl, hr⟩ := hT
  replace hs : Sep w F R w1 F1 [.ro tS (.slice ao1 p_l.length cp1) p_l] := hs.back [] [0] rfl rfl rfl rfl hr
  clear hr
  replace hf := Fr.keep (ks := [0, 12]) (L' := [(0, .slice ao1 p_l.length cp1), (12, .bool z1)]) hf (by kernel_rfl)
  refine st tbOk 1 [0, 3] (L' := [(0, .slice ao1 p_l.length cp1), (3, .bool z1)]) hf (by kernel_rfl) ?_
  clear hf; clear a; intro a hf
  refine wpList_nil ?_
  refine sq ?_
  refine sq ?_
  refine reg ?_
  refine st tbOk 2 [0, 14] (L' := [(0, .slice ao1 p_l.length cp1), (14, .bool (!z1))]) hf (by kernel_rfl) ?_
  clear hf; clear a; intro a hf
  refine wpList_nil ?_
  refine cnd (b := !z1) hf (by kernel_rfl) (fun hb1 => ?_) (fun hb1 => ?_)
  · replace hS := of_t hb1 hS
    refine sq ?_
    refine reg ?_
    refine st tbOk 1 [2] (L' := [(2, .bool false)]) hf (by kernel_rfl) ?_
    clear hf; clear a; intro a hf
    refine wpList_nil ?_
    have hr := Option.some.inj hS; subst hr
    refine wp_ret ?_
    exact ret_ok hf (vs := [.bool false]) (by kernel_rfl) ⟨_, rfl, hs.sel [] rfl rfl⟩
  · replace hS := of_f hb1 hS
    refine wp_skip ?_
    refine sq ?_
    refine reg ?_
    refine st tbOk 1 [0, 15] (L' := [(0, .slice ao1 p_l.length cp1), (15, .slice ao1 p_l.length cp1)]) hf (by kernel_rfl) ?_
    clear hf; clear a; intro a hf
    have hT := of_bd hS; clear hS; obtain ⟨z2, hz2, hS⟩ := hT
    refine clV ent20 (vs := [.slice ao1 p_l.length cp1]) (caps := []) hf (by kernel_rfl) (by kernel_rfl) (by kernel_rfl) (by kernel_rfl) (law02_long_ok (p_l := p_l) (hs.enter [0] rfl rfl) hz2) ?_
    clear hf; clear a; intro v w2 a hT hf; obtain ⟨F2, rfl, hr⟩ := hT
    replace hs : Sep w F R w2 F2 [.ro tS (.slice ao1 p_l.length cp1) p_l] := hs.back [0] [0] rfl rfl rfl rfl hr
    clear hr
    replace hf := Fr.keep (ks := [0, 16]) (L' := [(0, .slice ao1 p_l.length cp1), (16, .bool z2)]) hf (by kernel_rfl)
    refine st tbOk 1 [0, 4] (L' := [(0, .slice ao1 p_l.length cp1), (4, .bool z2)]) hf (by kernel_rfl) ?_
    clear hf; clear a; intro a hf
    refine wpList_nil ?_
    refine sq ?_
    refine sq ?_
    refine reg ?_
    refine st tbOk 1 [0, 17] (L' := [(0, .slice ao1 p_l.length cp1), (17, .bool z2)]) hf (by kernel_rfl) ?_
    clear hf; clear a; intro a hf
    refine wpList_nil ?_
    refine cnd (b := z2) hf (by kernel_rfl) (fun hb2 => ?_) (fun hb2 => ?_)
    · replace hS := of_t hb2 hS
      refine sq ?_
      refine reg ?_
      refine st tbOk 1 [2] (L' := [(2, .bool true)]) hf (by kernel_rfl) ?_
      clear hf; clear a; intro a hf
      refine wpList_nil ?_
      have hr := Option.some.inj hS; subst hr
      refine wp_ret ?_
      exact ret_ok hf (vs := [.bool true]) (by kernel_rfl) ⟨_, rfl, hs.sel [] rfl rfl⟩
    · replace hS := of_f hb2 hS
      refine wp_skip ?_
      refine sq ?_
      refine reg ?_
      refine st tbOk 1 [0, 19] (L' := [(0, .slice ao1 p_l.length cp1), (19, .slice ao1 p_l.length cp1)]) hf (by kernel_rfl) ?_
      clear hf; clear a; intro a hf
      have hT := of_bd hS; clear hS; obtain ⟨z3, hz3, hS⟩ := hT
      refine clV ent21 (vs := [.slice ao1 p_l.length cp1]) (caps := []) hf (by kernel_rfl) (by kernel_rfl) (by kernel_rfl) (by kernel_rfl) (names_Build_ok (p_l := p_l) (hs.enter [0] rfl rfl) hz3) ?_
      clear hf; clear a; intro v w3 a hT hf; obtain ⟨ao2, cp2, ao3, cp3, F3, rfl, hr⟩ := hT
      replace hs : Sep w F R w3 F3 [.row 5 (tI .u8) (.slice ao2 z3.1.length cp2) z3.1, .row 23 (tI .u64) (.slice ao3 z3.2.1.length cp3) z3.2.1, .ro tS (.slice ao1 p_l.length cp1) p_l] := hs.back [0] [0] rfl rfl rfl rfl hr
      clear hr
      replace hf := Fr.keep (ks := [0, 20]) (L' := [(0, .slice ao1 p_l.length cp1), (20, .tuple #[.slice ao2 z3.1.length cp2, .slice ao3 z3.2.1.length cp3, .int .i64 z3.2.2])]) hf (by kernel_rfl)
      refine st tbOk 7 [0, 5, 6, 7] (L' := [(0, .slice ao1 p_l.length cp1), (5, .slice ao2 z3.1.length cp2), (6, .slice ao3 z3.2.1.length cp3), (7, .int .i64 z3.2.2)]) hf (by kernel_rfl) ?_
      clear hf; clear a; intro a hf
      refine wpList_nil ?_
      refine sq ?_
      refine reg ?_
      refine st tbOk 1 [5, 6, 7, 25] (L' := [(5, .slice ao2 z3.1.length cp2), (6, .slice ao3 z3.2.1.length cp3), (7, .int .i64 z3.2.2), (25, .slice ao1 p_l.length cp1)]) hf (by kernel_rfl) ?_
      clear hf; clear a; intro a hf
      have hT := of_bd hS; clear hS; obtain ⟨z4, hz4, hS⟩ := hT
      refine clV ent22 (vs := [.slice ao1 p_l.length cp1]) (caps := []) hf (by kernel_rfl) (by kernel_rfl) (by kernel_rfl) (by kernel_rfl) (ref02_Build_ok (p_l := p_l) (hs.enter [2] rfl rfl) hz4) ?_
      clear hf; clear a; intro v w4 a hT hf; obtain ⟨ao4, cp4, ao5, cp5, F4, rfl, hr⟩ := hT
      replace hs : Sep w F R w4 F4 [.row 5 (tI .u8) (.slice ao4 z4.1.length cp4) z4.1, .row 23 (tI .u64) (.slice ao5 z4.2.1.length cp5) z4.2.1, .row 5 (tI .u8) (.slice ao2 z3.1.length cp2) z3.1, .row 23 (tI .u64) (.slice ao3 z3.2.1.length cp3) z3.2.1, .ro tS (.slice ao1 p_l.length cp1) p_l] := hs.back [2] [0, 1, 2] rfl rfl rfl rfl hr
      clear hr
      replace hs : Sep w F R w4 F4 [.row 5 (tI .u8) (.slice ao4 z4.1.length cp4) z4.1, .row 23 (tI .u64) (.slice ao5 z4.2.1.length cp5) z4.2.1, .row 5 (tI .u8) (.slice ao2 z3.1.length cp2) z3.1, .row 23 (tI .u64) (.slice ao3 z3.2.1.length cp3) z3.2.1] := hs.sel [0, 1, 2, 3] rfl rfl
      replace hf := Fr.keep (ks := [5, 6, 7, 26]) (L' := [(5, .slice ao2 z3.1.length cp2), (6, .slice ao3 z3.2.1.length cp3), (7, .int .i64 z3.2.2), (26, .tuple #[.slice ao4 z4.1.length cp4, .slice ao5 z4.2.1.length cp5, .int .i64 z4.2.2])]) hf (by kernel_rfl)
      refine st tbOk 7 [5, 6, 7, 8, 9, 10] (L' := [(5, .slice ao2 z3.1.length cp2), (6, .slice ao3 z3.2.1.length cp3), (7, .int .i64 z3.2.2), (8, .slice ao4 z4.1.length cp4), (9, .slice ao5 z4.2.1.length cp5), (10, .int .i64 z4.2.2)]) hf (by kernel_rfl) ?_
      clear hf; clear a; intro a hf
      refine wpList_nil ?_
      refine sq ?_
      refine sq ?_
      refine ctj (fun (s1 : Bool) (a : Act) (w' : World) => ∃ (F5 : SH), Sep w F R w' F5 [.row 23 (tI .u64) (.slice ao5 z4.2.1.length cp5) z4.2.1, .row 23 (tI .u64) (.slice ao3 z3.2.1.length cp3) z3.2.1] ∧ Fr 62 [(6, .slice ao3 z3.2.1.length cp3), (9, .slice ao5 z4.2.1.length cp5), (46, .bool s1)] a) hS ?_ ?_
      · clear hS hf hs; clear a; intro s1 a w5 hM hS
        obtain ⟨F5, hs, hf⟩ := hM
        refine cnd (b := s1) hf (by kernel_rfl) (fun hb5 => ?_) (fun hb5 => ?_)
        · replace hS := of_t hb5 hS
          refine sq ?_
          refine reg ?_
          refine st tbOk 1 [2] (L' := [(2, .bool false)]) hf (by kernel_rfl) ?_
          clear hf; clear a; intro a hf
          refine wpList_nil ?_
          have hr := Option.some.inj hS; subst hr
          refine wp_ret ?_
          exact ret_ok hf (vs := [.bool false]) (by kernel_rfl) ⟨_, rfl, hs.sel [] rfl rfl⟩
        · replace hS := of_f hb5 hS
          refine wp_skip ?_
          refine sq ?_
          refine sq ?_
          refine reg ?_
          refine st tbOk 1 [6, 9, 11] (L' := [(6, .slice ao3 z3.2.1.length cp3), (9, .slice ao5 z4.2.1.length cp5), (11, .int .i64 0)]) hf (by kernel_rfl) ?_
          clear hf; clear a; intro a hf
          refine wpList_nil ?_
          refine ctj (fun (s2 : Unit) (a : Act) (w' : World) => ∃ (F6 : SH), Sep w F R w' F6 [] ∧ Fr 62 [] a) hS ?_ ?_
          · clear hS hf hs; clear a; intro s2 a w8 hM hS
            obtain ⟨F6, hs, hf⟩ := hM
            refine sq ?_
            refine reg ?_
            refine st tbOk 1 [2] (L' := [(2, .bool true)]) hf (by kernel_rfl) ?_
            clear hf; clear a; intro a hf
            refine wpList_nil ?_
            have hr := Option.some.inj hS; subst hr
            refine wp_ret ?_
            exact ret_ok hf (vs := [.bool true]) (by kernel_rfl) ⟨_, rfl, hs.sel [] rfl rfl⟩
          · clear hS; intro KK2 k2 hK2 hS
            refine blk ?_
            refine lp (st := 0) (fun (s3 : Int) (a : Act) (w' : World) => ∃ (F7 : SH), Sep w F R w' F7 [.row 23 (tI .u64) (.slice ao5 z4.2.1.length cp5) z4.2.1, .row 23 (tI .u64) (.slice ao3 z3.2.1.length cp3) z3.2.1] ∧ Fr 62 [(6, .slice ao3 z3.2.1.length cp3), (9, .slice ao5 z4.2.1.length cp5), (11, .int .i64 s3)] a) ?_ ⟨_, hs.sel [0, 1] rfl rfl, hf.keep (ks := [6, 9, 11]) (by kernel_rfl)⟩ hS
            clear hS hf hs; clear a
            intro rec1 KK3 hK3 s3 a w6 hM hS
            obtain ⟨F7, hs, hf⟩ := hM
            refine sq ?_
            refine sq ?_
            refine reg ?_
            refine st tbOk 4 [6, 9, 11, 50] (L' := [(6, .slice ao3 z3.2.1.length cp3), (9, .slice ao5 z4.2.1.length cp5), (11, .int .i64 s3), (50, .bool (decide (s3 < ((z3.2.1.length : Nat) : Int))))]) hf (by kernel_rfl) ?_
            clear hf; clear a; intro a hf
            refine wpList_nil ?_
            refine cnd (b := decide (s3 < ((z3.2.1.length : Nat) : Int))) hf (by kernel_rfl) (fun hb6 => ?_) (fun hb6 => ?_)
            · replace hS := of_t hb6 hS
              refine wp_skip ?_
              refine sq ?_
              refine blk ?_
              refine sq ?_
              refine regQ mixed (by kernel_rfl) ?_
              refine stQ tbOk 2 [6, 9, 11, 53, 54] (L' := [(6, .slice ao3 z3.2.1.length cp3), (9, .slice ao5 z4.2.1.length cp5), (11, .int .i64 s3), (53, .slice ao3 z3.2.1.length cp3), (54, .int .i64 s3)]) hf (by kernel_rfl) ?_
              clear hf; clear a; intro a hf
              have hT := of_gd hS; clear hS; obtain ⟨hc1, hS⟩ := hT
              refine ixRQ tbOk u32 i23 rfl rfl (hs.raW 1 rfl) (k := .i64) (n := s3) hc1 hf (by kernel_rfl) (by kernel_rfl) (by kernel_rfl) (by kernel_rfl) ?_
              clear hf; clear a; intro pb1 po1 c1 a hp1 hr1 hf
              obtain rfl : c1 = [.int .u64 (gt z3.2.1 s3)] := hr1
              replace hf := Fr.keep (ks := [6, 9, 11, 55]) (L' := [(6, .slice ao3 z3.2.1.length cp3), (9, .slice ao5 z4.2.1.length cp5), (11, .int .i64 s3), (55, .pointer (some ⟨pb1, po1, none⟩))]) hf (by kernel_rfl)
              refine ldCQ tbOk (T := 23) hp1 (LeH.refl _) 0 (.int .u64 (gt z3.2.1 s3)) hf (by kernel_rfl) (by kernel_rfl) (by kernel_rfl) (by kernel_rfl) ?_
              clear hf; clear a; intro a hf
              replace hf := Fr.keep (ks := [6, 9, 11, 56]) (L' := [(6, .slice ao3 z3.2.1.length cp3), (9, .slice ao5 z4.2.1.length cp5), (11, .int .i64 s3), (56, .int .u64 (gt z3.2.1 s3))]) hf (by kernel_rfl)
              refine stQ tbOk 2 [6, 9, 11, 56, 57, 58] (L' := [(6, .slice ao3 z3.2.1.length cp3), (9, .slice ao5 z4.2.1.length cp5), (11, .int .i64 s3), (56, .int .u64 (gt z3.2.1 s3)), (57, .slice ao5 z4.2.1.length cp5), (58, .int .i64 s3)]) hf (by kernel_rfl) ?_
              clear hf; clear a; intro a hf
              have hT := of_gd hS; clear hS; obtain ⟨hc2, hS⟩ := hT
              refine ixRQ tbOk u32 i23 rfl rfl (hs.raW 0 rfl) (k := .i64) (n := s3) hc2 hf (by kernel_rfl) (by kernel_rfl) (by kernel_rfl) (by kernel_rfl) ?_
              clear hf; clear a; intro pb2 po2 c2 a hp2 hr2 hf
              obtain rfl : c2 = [.int .u64 (gt z4.2.1 s3)] := hr2
              replace hf := Fr.keep (ks := [6, 9, 11, 56, 59]) (L' := [(6, .slice ao3 z3.2.1.length cp3), (9, .slice ao5 z4.2.1.length cp5), (11, .int .i64 s3), (56, .int .u64 (gt z3.2.1 s3)), (59, .pointer (some ⟨pb2, po2, none⟩))]) hf (by kernel_rfl)
              refine ldCQ tbOk (T := 23) hp2 (LeH.refl _) 0 (.int .u64 (gt z4.2.1 s3)) hf (by kernel_rfl) (by kernel_rfl) (by kernel_rfl) (by kernel_rfl) ?_
              clear hf; clear a; intro a hf
              replace hf := Fr.keep (ks := [6, 9, 11, 56, 60]) (L' := [(6, .slice ao3 z3.2.1.length cp3), (9, .slice ao5 z4.2.1.length cp5), (11, .int .i64 s3), (56, .int .u64 (gt z3.2.1 s3)), (60, .int .u64 (gt z4.2.1 s3))]) hf (by kernel_rfl)
              refine stQ tbOk 1 [6, 9, 11, 61] (L' := [(6, .slice ao3 z3.2.1.length cp3), (9, .slice ao5 z4.2.1.length cp5), (11, .int .i64 s3), (61, .bool ((gt z3.2.1 s3) != (gt z4.2.1 s3)))]) hf (by kernel_rfl) ?_
              clear hf; clear a; intro a hf
              refine wpQuiet_nil ?_
              intro w7 hx
              replace hs : Sep w F R w7 F7 [.row 23 (tI .u64) (.slice ao5 z4.2.1.length cp5) z4.2.1, .row 23 (tI .u64) (.slice ao3 z3.2.1.length cp3) z3.2.1] := hs.ext hx
              clear hx
              refine cnd (b := (gt z3.2.1 s3) != (gt z4.2.1 s3)) hf (by kernel_rfl) (fun hb7 => ?_) (fun hb7 => ?_)
              · replace hS := of_t hb7 hS
                refine sq ?_
                refine reg ?_
                refine st tbOk 1 [2] (L' := [(2, .bool false)]) hf (by kernel_rfl) ?_
                clear hf; clear a; intro a hf
                refine wpList_nil ?_
                have hr := Option.some.inj hS; subst hr
                refine wp_ret ?_
                exact ret_ok hf (vs := [.bool false]) (by kernel_rfl) ⟨_, rfl, hs.sel [] rfl rfl⟩
              · replace hS := of_f hb7 hS
                refine wp_skip ?_
                refine reg ?_
                have hT := of_let hS; clear hS; obtain ⟨i_1, hl1, hS⟩ := hT
                refine st tbOk 3 [6, 9, 11] (L' := [(6, .slice ao3 z3.2.1.length cp3), (9, .slice ao5 z4.2.1.length cp5), (11, .int .i64 i_1)]) hf (by subst hl1; kernel_rfl) ?_
                clear hf; clear a; intro a hf
                refine wpList_nil ?_
                exact hK3 i_1 _ _ ⟨_, hs.sel [0, 1] rfl rfl, hf.keep (ks := [6, 9, 11]) (by kernel_rfl)⟩ hS
            · replace hS := of_f hb6 hS
              refine wp_exit ?_
              exact hK2 () _ _ ⟨_, hs.sel [] rfl rfl, hf.keep (ks := []) (by kernel_rfl)⟩ hS
      · clear hS; intro KK1 k1 hK1 hS
        refine reg ?_
        refine st tbOk 1 [6, 7, 8, 9, 10, 30] (L' := [(6, .slice ao3 z3.2.1.length cp3), (7, .int .i64 z3.2.2), (8, .slice ao4 z4.1.length cp4), (9, .slice ao5 z4.2.1.length cp5), (10, .int .i64 z4.2.2), (30, .slice ao2 z3.1.length cp2)]) hf (by kernel_rfl) ?_
        clear hf; clear a; intro a hf
        refine b2sR tbOk u22 u5 u9 (hs.raW 2 rfl) hf (by kernel_rfl) (by kernel_rfl) (by kernel_rfl) ?_
        clear hf; clear a; intro a hf
        replace hs : Sep w F R w4 F4 [.row 5 (tI .u8) (.slice ao4 z4.1.length cp4) z4.1, .row 23 (tI .u64) (.slice ao5 z4.2.1.length cp5) z4.2.1, .row 23 (tI .u64) (.slice ao3 z3.2.1.length cp3) z3.2.1] := hs.sel [0, 1, 3] rfl rfl
        replace hf := Fr.keep (ks := [6, 7, 8, 9, 10, 31]) (L' := [(6, .slice ao3 z3.2.1.length cp3), (7, .int .i64 z3.2.2), (8, .slice ao4 z4.1.length cp4), (9, .slice ao5 z4.2.1.length cp5), (10, .int .i64 z4.2.2), (31, strV (toStr z3.1))]) hf (by kernel_rfl)
        refine st tbOk 1 [6, 7, 9, 10, 31, 32] (L' := [(6, .slice ao3 z3.2.1.length cp3), (7, .int .i64 z3.2.2), (9, .slice ao5 z4.2.1.length cp5), (10, .int .i64 z4.2.2), (31, strV (toStr z3.1)), (32, .slice ao4 z4.1.length cp4)]) hf (by kernel_rfl) ?_
        clear hf; clear a; intro a hf
        refine b2sR tbOk u22 u5 u9 (hs.raW 0 rfl) hf (by kernel_rfl) (by kernel_rfl) (by kernel_rfl) ?_
        clear hf; clear a; intro a hf
        replace hs : Sep w F R w4 F4 [.row 23 (tI .u64) (.slice ao5 z4.2.1.length cp5) z4.2.1, .row 23 (tI .u64) (.slice ao3 z3.2.1.length cp3) z3.2.1] := hs.sel [1, 2] rfl rfl
        replace hf := Fr.keep (ks := [6, 7, 9, 10, 31, 33]) (L' := [(6, .slice ao3 z3.2.1.length cp3), (7, .int .i64 z3.2.2), (9, .slice ao5 z4.2.1.length cp5), (10, .int .i64 z4.2.2), (31, strV (toStr z3.1)), (33, strV (toStr z4.1))]) hf (by kernel_rfl)
        refine st tbOk 2 [6, 7, 9, 10, 35] (L' := [(6, .slice ao3 z3.2.1.length cp3), (7, .int .i64 z3.2.2), (9, .slice ao5 z4.2.1.length cp5), (10, .int .i64 z4.2.2), (35, .bool (!((toStr z3.1) == (toStr z4.1))))]) hf (by kernel_rfl) ?_
        clear hf; clear a; intro a hf
        rcases Bool.eq_false_or_eq_true (!((toStr z3.1) == (toStr z4.1))) with hb3 | hb3
        · replace hS := of_t hb3 hS
          replace hf := Fr.cast (L' := [(6, .slice ao3 z3.2.1.length cp3), (7, .int .i64 z3.2.2), (9, .slice ao5 z4.2.1.length cp5), (10, .int .i64 z4.2.2), (35, .bool true)]) hf (by rw [hb3])
          refine st tbOk 11 [6, 9, 46] (L' := [(6, .slice ao3 z3.2.1.length cp3), (9, .slice ao5 z4.2.1.length cp5), (46, .bool true)]) hf (by kernel_rfl) ?_
          clear hf; clear a; intro a hf
          refine wpList_nil ?_
          exact hK1 true _ _ ⟨_, hs.sel [0, 1] rfl rfl, hf.keep (ks := [6, 9, 46]) (by kernel_rfl)⟩ hS
        · replace hS := of_f hb3 hS
          replace hf := Fr.cast (L' := [(6, .slice ao3 z3.2.1.length cp3), (7, .int .i64 z3.2.2), (9, .slice ao5 z4.2.1.length cp5), (10, .int .i64 z4.2.2), (35, .bool false)]) hf (by rw [hb3])
          refine st tbOk 5 [6, 9, 40] (L' := [(6, .slice ao3 z3.2.1.length cp3), (9, .slice ao5 z4.2.1.length cp5), (40, .bool (z3.2.2 != z4.2.2))]) hf (by kernel_rfl) ?_
          clear hf; clear a; intro a hf
          rcases Bool.eq_false_or_eq_true (z3.2.2 != z4.2.2) with hb4 | hb4
          · replace hS := of_t hb4 hS
            replace hf := Fr.cast (L' := [(6, .slice ao3 z3.2.1.length cp3), (9, .slice ao5 z4.2.1.length cp5), (40, .bool true)]) hf (by rw [hb4])
            refine st tbOk 6 [6, 9, 46] (L' := [(6, .slice ao3 z3.2.1.length cp3), (9, .slice ao5 z4.2.1.length cp5), (46, .bool true)]) hf (by kernel_rfl) ?_
            clear hf; clear a; intro a hf
            refine wpList_nil ?_
            exact hK1 true _ _ ⟨_, hs.sel [0, 1] rfl rfl, hf.keep (ks := [6, 9, 46]) (by kernel_rfl)⟩ hS
          · replace hS := of_f hb4 hS
            replace hf := Fr.cast (L' := [(6, .slice ao3 z3.2.1.length cp3), (9, .slice ao5 z4.2.1.length cp5), (40, .bool false)]) hf (by rw [hb4])
            refine st tbOk 6 [6, 9, 46] (L' := [(6, .slice ao3 z3.2.1.length cp3), (9, .slice ao5 z4.2.1.length cp5), (46, .bool (((z3.2.1.length : Nat) : Int) != ((z4.2.1.length : Nat) : Int)))]) hf (by kernel_rfl) ?_
            clear hf; clear a; intro a hf
            refine wpList_nil ?_
            exact hK1 (((z3.2.1.length : Nat) : Int) != ((z4.2.1.length : Nat) : Int)) _ _ ⟨_, hs.sel [0, 1] rfl rfl, hf.keep (ks := [6, 9, 46]) (by kernel_rfl)⟩ hS

end Dm
