/-
  The walk of the law DedupSplits; printed by a program of this repo. No condition.
-/
import Derived.Test.YtmocofbneblccaaWT
import Derived.Test.YtmocofbneblccaaW2
import Derived.Test.YtmocofbneblccaaW4
import Derived.Test.YtmocofbneblccaaW6
import Derived.Test.YtmocofbneblccaaW7
import Derived.Test.YtmocofbneblccaaW8
namespace Dm
open Go Go.RowKit Go.Proofs

set_option maxHeartbeats 4000000 in
theorem law21_DedupSplits_ok {w : World} {F : SH} {p_l : List (Int × Int × Bool × (List UInt8) × Int × (List Int))} {files : List ((List UInt8) × (List Int))} {ao1 : Option Addr} {cp1 : Nat} {ao2 : Option Addr} {cp2 : Nat} (hs : Sep w F (blks [.ro ty55 (.slice ao1 p_l.length cp1) p_l, .ro ty60 (.slice ao2 files.length cp2) files]) w F [.ro ty55 (.slice ao1 p_l.length cp1) p_l, .ro ty60 (.slice ao2 files.length cp2) files]) {r : Bool} (hS : law21_DedupSplits p_l files = some r) :
    Calls Try.prog 4 [.slice ao1 p_l.length cp1, .slice ao2 files.length cp2].toArray w (Gives (fun u w' => ∃ (F' : SH), u = .bool r ∧ Sep w F (blks [.ro ty55 (.slice ao1 p_l.length cp1) p_l, .ro ty60 (.slice ao2 files.length cp2) files]) w' F' [])) := by
  generalize (blks [.ro ty55 (.slice ao1 p_l.length cp1) p_l, .ro ty60 (.slice ao2 files.length cp2) files]) = R at hs ⊢
  unfold law21_DedupSplits at hS
  refine fn_ok (vs := [.slice ao1 p_l.length cp1, .slice ao2 files.length cp2]) Try.func4 rfl 62 Try.ntmps4 (Nat.le_of_ble_eq_true rfl) ?_
  intro a hf
  replace hf := Fr.cast (L' := [(0, .slice ao1 p_l.length cp1), (1, .slice ao2 files.length cp2)]) hf (by kernel_rfl)
  refine sq ?_
  refine reg ?_
  refine st tbOk 1 [0, 1] (L' := [(0, .slice ao1 p_l.length cp1), (1, .slice ao2 files.length cp2)]) hf (by kernel_rfl) ?_
  clear hf; clear a; intro a hf
  refine wpList_nil ?_
  refine sq ?_
  refine reg ?_
  have hT := of_bd hS; clear hS; obtain ⟨z1, hz1, hS⟩ := hT
  refine clV ent13 (vs := []) (caps := []) hf (by kernel_rfl) (by kernel_rfl) (by kernel_rfl) (by kernel_rfl) (law21_awake_ok (hs.enter [] rfl rfl) hz1) ?_
  clear hf; clear a; intro v w1 a hT hf; obtain ⟨F1, rfl, hr⟩ := hT
  replace hs : Sep w F R w1 F1 [.ro ty55 (.slice ao1 p_l.length cp1) p_l, .ro ty60 (.slice ao2 files.length cp2) files] := hs.back [] [0, 1] rfl rfl rfl rfl hr
  clear hr
  replace hf := Fr.keep (ks := [0, 1, 13]) (L' := [(0, .slice ao1 p_l.length cp1), (1, .slice ao2 files.length cp2), (13, .bool z1)]) hf (by kernel_rfl)
  refine st tbOk 1 [0, 1, 5] (L' := [(0, .slice ao1 p_l.length cp1), (1, .slice ao2 files.length cp2), (5, .bool z1)]) hf (by kernel_rfl) ?_
  clear hf; clear a; intro a hf
  refine wpList_nil ?_
  refine sq ?_
  refine sq ?_
  refine reg ?_
  refine st tbOk 2 [0, 1, 15] (L' := [(0, .slice ao1 p_l.length cp1), (1, .slice ao2 files.length cp2), (15, .bool (!z1))]) hf (by kernel_rfl) ?_
  clear hf; clear a; intro a hf
  refine wpList_nil ?_
  refine cnd (b := !z1) hf (by kernel_rfl) (fun hb1 => ?_) (fun hb1 => ?_)
  · replace hS := of_t hb1 hS
    refine sq ?_
    refine reg ?_
    refine st tbOk 1 [4] (L' := [(4, .bool false)]) hf (by kernel_rfl) ?_
    clear hf; clear a; intro a hf
    refine wpList_nil ?_
    have hr := Option.some.inj hS; subst hr
    refine wp_ret ?_
    exact ret_ok hf (vs := [.bool false]) (by kernel_rfl) ⟨_, rfl, hs.sel [] rfl rfl⟩
  · replace hS := of_f hb1 hS
    refine wp_skip ?_
    refine sq ?_
    refine reg ?_
    refine st tbOk 2 [0, 1, 16, 17] (L' := [(0, .slice ao1 p_l.length cp1), (1, .slice ao2 files.length cp2), (16, .slice ao1 p_l.length cp1), (17, .slice ao2 files.length cp2)]) hf (by kernel_rfl) ?_
    clear hf; clear a; intro a hf
    have hT := of_bd hS; clear hS; obtain ⟨z2, hz2, hS⟩ := hT
    refine clV ent14 (vs := [.slice ao1 p_l.length cp1, .slice ao2 files.length cp2]) (caps := []) hf (by kernel_rfl) (by kernel_rfl) (by kernel_rfl) (by kernel_rfl) (law21_few_ok (p_l := p_l) (files := files) (hs.enter [0, 1] rfl rfl) hz2) ?_
    clear hf; clear a; intro v w2 a hT hf; obtain ⟨F2, rfl, hr⟩ := hT
    replace hs : Sep w F R w2 F2 [.ro ty55 (.slice ao1 p_l.length cp1) p_l, .ro ty60 (.slice ao2 files.length cp2) files] := hs.back [0, 1] [0, 1] rfl rfl rfl rfl hr
    clear hr
    replace hf := Fr.keep (ks := [0, 1, 18]) (L' := [(0, .slice ao1 p_l.length cp1), (1, .slice ao2 files.length cp2), (18, .bool z2)]) hf (by kernel_rfl)
    refine st tbOk 1 [0, 1, 6] (L' := [(0, .slice ao1 p_l.length cp1), (1, .slice ao2 files.length cp2), (6, .bool z2)]) hf (by kernel_rfl) ?_
    clear hf; clear a; intro a hf
    refine wpList_nil ?_
    refine sq ?_
    refine sq ?_
    refine reg ?_
    refine st tbOk 2 [0, 1, 20] (L' := [(0, .slice ao1 p_l.length cp1), (1, .slice ao2 files.length cp2), (20, .bool (!z2))]) hf (by kernel_rfl) ?_
    clear hf; clear a; intro a hf
    refine wpList_nil ?_
    refine cnd (b := !z2) hf (by kernel_rfl) (fun hb2 => ?_) (fun hb2 => ?_)
    · replace hS := of_t hb2 hS
      refine sq ?_
      refine reg ?_
      refine st tbOk 1 [4] (L' := [(4, .bool true)]) hf (by kernel_rfl) ?_
      clear hf; clear a; intro a hf
      refine wpList_nil ?_
      have hr := Option.some.inj hS; subst hr
      refine wp_ret ?_
      exact ret_ok hf (vs := [.bool true]) (by kernel_rfl) ⟨_, rfl, hs.sel [] rfl rfl⟩
    · replace hS := of_f hb2 hS
      refine wp_skip ?_
      refine sq ?_
      refine reg ?_
      refine st tbOk 2 [0, 1, 22, 23] (L' := [(0, .slice ao1 p_l.length cp1), (1, .slice ao2 files.length cp2), (22, .slice ao1 p_l.length cp1), (23, .slice ao2 files.length cp2)]) hf (by kernel_rfl) ?_
      clear hf; clear a; intro a hf
      have hT := of_bd hS; clear hS; obtain ⟨z3, hz3, hS⟩ := hT
      refine clV ent19 (vs := [.slice ao1 p_l.length cp1, .slice ao2 files.length cp2]) (caps := []) hf (by kernel_rfl) (by kernel_rfl) (by kernel_rfl) (by kernel_rfl) (dedup_Split_ok (p_l := p_l) (files := files) (hs.enter [0, 1] rfl rfl) hz3) ?_
      clear hf; clear a; intro v w3 a hT hf; obtain ⟨ao3, cp3, ao4, cp4, F3, rfl, hr⟩ := hT
      replace hs : Sep w F R w3 F3 [.row 58 ty57 (.slice ao3 z3.1.length cp3) z3.1, .row 5 (tI .u8) (.slice ao4 z3.2.length cp4) z3.2, .ro ty55 (.slice ao1 p_l.length cp1) p_l, .ro ty60 (.slice ao2 files.length cp2) files] := hs.back [0, 1] [0, 1] rfl rfl rfl rfl hr
      clear hr
      replace hf := Fr.keep (ks := [0, 1, 24]) (L' := [(0, .slice ao1 p_l.length cp1), (1, .slice ao2 files.length cp2), (24, .tuple #[.slice ao3 z3.1.length cp3, .slice ao4 z3.2.length cp4])]) hf (by kernel_rfl)
      refine st tbOk 5 [0, 1, 7, 8] (L' := [(0, .slice ao1 p_l.length cp1), (1, .slice ao2 files.length cp2), (7, .slice ao3 z3.1.length cp3), (8, .slice ao4 z3.2.length cp4)]) hf (by kernel_rfl) ?_
      clear hf; clear a; intro a hf
      refine wpList_nil ?_
      refine sq ?_
      refine reg ?_
      refine st tbOk 1 [1, 7, 8, 28] (L' := [(1, .slice ao2 files.length cp2), (7, .slice ao3 z3.1.length cp3), (8, .slice ao4 z3.2.length cp4), (28, .slice ao1 p_l.length cp1)]) hf (by kernel_rfl) ?_
      clear hf; clear a; intro a hf
      have hT := of_bd hS; clear hS; obtain ⟨z4, hz4, hS⟩ := hT
      refine clV ent21 (vs := [.slice ao1 p_l.length cp1]) (caps := []) hf (by kernel_rfl) (by kernel_rfl) (by kernel_rfl) (by kernel_rfl) (law21_pages_ok (p_l := p_l) (hs.enter [2] rfl rfl) hz4) ?_
      clear hf; clear a; intro v w4 a hT hf; obtain ⟨ao5, cp5, F4, rfl, hr⟩ := hT
      replace hs : Sep w F R w4 F4 [.row 46 ty45 (.slice ao5 z4.length cp5) z4, .row 58 ty57 (.slice ao3 z3.1.length cp3) z3.1, .row 5 (tI .u8) (.slice ao4 z3.2.length cp4) z3.2, .ro ty55 (.slice ao1 p_l.length cp1) p_l, .ro ty60 (.slice ao2 files.length cp2) files] := hs.back [2] [0, 1, 2, 3] rfl rfl rfl rfl hr
      clear hr
      replace hs : Sep w F R w4 F4 [.row 46 ty45 (.slice ao5 z4.length cp5) z4, .row 58 ty57 (.slice ao3 z3.1.length cp3) z3.1, .row 5 (tI .u8) (.slice ao4 z3.2.length cp4) z3.2, .ro ty60 (.slice ao2 files.length cp2) files] := hs.sel [0, 1, 2, 4] rfl rfl
      replace hf := Fr.keep (ks := [1, 7, 8, 29]) (L' := [(1, .slice ao2 files.length cp2), (7, .slice ao3 z3.1.length cp3), (8, .slice ao4 z3.2.length cp4), (29, .slice ao5 z4.length cp5)]) hf (by kernel_rfl)
      refine st tbOk 1 [7, 8, 29, 30] (L' := [(7, .slice ao3 z3.1.length cp3), (8, .slice ao4 z3.2.length cp4), (29, .slice ao5 z4.length cp5), (30, .slice ao2 files.length cp2)]) hf (by kernel_rfl) ?_
      clear hf; clear a; intro a hf
      have hT := of_bd hS; clear hS; obtain ⟨z5, hz5, hS⟩ := hT
      refine clV ent20 (vs := [.slice ao5 z4.length cp5, .slice ao2 files.length cp2]) (caps := []) hf (by kernel_rfl) (by kernel_rfl) (by kernel_rfl) (by kernel_rfl) (ref21_Split_ok (p_l := z4) (files := files) (hs.lend [0, 3] [] rfl rfl rfl rfl rfl) hz5) ?_
      clear hf; clear a; intro v w5 a hT hf; obtain ⟨ao6, cp6, F5, rfl, hr⟩ := hT
      replace hs : Sep w F R w5 F4 [.row 48 ty47 (.slice ao6 z5.1.length cp6) z5.1, .row 46 ty45 (.slice ao5 z4.length cp5) z4, .row 58 ty57 (.slice ao3 z3.1.length cp3) z3.1, .row 5 (tI .u8) (.slice ao4 z3.2.length cp4) z3.2, .ro ty60 (.slice ao2 files.length cp2) files] := hs.backL [0, 3] [] [0, 1, 2, 3] rfl rfl rfl rfl rfl rfl hr ⟨flat47, trivial⟩
      clear hr
      replace hs : Sep w F R w5 F4 [.row 48 ty47 (.slice ao6 z5.1.length cp6) z5.1, .row 58 ty57 (.slice ao3 z3.1.length cp3) z3.1, .row 5 (tI .u8) (.slice ao4 z3.2.length cp4) z3.2] := hs.sel [0, 2, 3] rfl rfl
      replace hf := Fr.keep (ks := [7, 8, 31]) (L' := [(7, .slice ao3 z3.1.length cp3), (8, .slice ao4 z3.2.length cp4), (31, .tuple #[.slice ao6 z5.1.length cp6, strV z5.2])]) hf (by kernel_rfl)
      refine st tbOk 5 [7, 8, 9, 10] (L' := [(7, .slice ao3 z3.1.length cp3), (8, .slice ao4 z3.2.length cp4), (9, .slice ao6 z5.1.length cp6), (10, strV z5.2)]) hf (by kernel_rfl) ?_
      clear hf; clear a; intro a hf
      refine wpList_nil ?_
      refine sq ?_
      refine reg ?_
      refine st tbOk 1 [8, 9, 10, 34] (L' := [(8, .slice ao4 z3.2.length cp4), (9, .slice ao6 z5.1.length cp6), (10, strV z5.2), (34, .slice ao3 z3.1.length cp3)]) hf (by kernel_rfl) ?_
      clear hf; clear a; intro a hf
      have hT := of_bd hS; clear hS; obtain ⟨z6, hz6, hS⟩ := hT
      refine clV ent22 (vs := [.slice ao3 z3.1.length cp3]) (caps := []) hf (by kernel_rfl) (by kernel_rfl) (by kernel_rfl) (by kernel_rfl) (law21_entries_ok (p_l := z3.1) (hs.lend [1] [] rfl rfl rfl rfl rfl) hz6) ?_
      clear hf; clear a; intro v w6 a hT hf; obtain ⟨ao7, cp7, F6, rfl, hr⟩ := hT
      replace hs : Sep w F R w6 F4 [.row 48 ty47 (.slice ao7 z6.length cp7) z6, .row 48 ty47 (.slice ao6 z5.1.length cp6) z5.1, .row 58 ty57 (.slice ao3 z3.1.length cp3) z3.1, .row 5 (tI .u8) (.slice ao4 z3.2.length cp4) z3.2] := hs.backL [1] [] [0, 1, 2] rfl rfl rfl rfl rfl rfl hr ⟨flat47, trivial⟩
      clear hr
      replace hs : Sep w F R w6 F4 [.row 48 ty47 (.slice ao7 z6.length cp7) z6, .row 48 ty47 (.slice ao6 z5.1.length cp6) z5.1, .row 5 (tI .u8) (.slice ao4 z3.2.length cp4) z3.2] := hs.sel [0, 1, 3] rfl rfl
      replace hf := Fr.keep (ks := [8, 9, 10, 35]) (L' := [(8, .slice ao4 z3.2.length cp4), (9, .slice ao6 z5.1.length cp6), (10, strV z5.2), (35, .slice ao7 z6.length cp7)]) hf (by kernel_rfl)
      refine st tbOk 1 [8, 9, 10, 11] (L' := [(8, .slice ao4 z3.2.length cp4), (9, .slice ao6 z5.1.length cp6), (10, strV z5.2), (11, .slice ao7 z6.length cp7)]) hf (by kernel_rfl) ?_
      clear hf; clear a; intro a hf
      refine wpList_nil ?_
      refine sq ?_
      refine sq ?_
      refine ctj (fun (s1 : Bool) (a : Act) (w' : World) => ∃ (F7 : SH), Sep w F R w' F7 [.row 48 ty47 (.slice ao7 z6.length cp7) z6, .row 48 ty47 (.slice ao6 z5.1.length cp6) z5.1] ∧ Fr 62 [(9, .slice ao6 z5.1.length cp6), (11, .slice ao7 z6.length cp7), (46, .bool s1)] a) hS ?_ ?_
      · clear hS hf hs; clear a; intro s1 a w7 hM hS
        obtain ⟨F7, hs, hf⟩ := hM
        refine cnd (b := s1) hf (by kernel_rfl) (fun hb4 => ?_) (fun hb4 => ?_)
        · replace hS := of_t hb4 hS
          refine sq ?_
          refine reg ?_
          refine st tbOk 1 [4] (L' := [(4, .bool false)]) hf (by kernel_rfl) ?_
          clear hf; clear a; intro a hf
          refine wpList_nil ?_
          have hr := Option.some.inj hS; subst hr
          refine wp_ret ?_
          exact ret_ok hf (vs := [.bool false]) (by kernel_rfl) ⟨_, rfl, hs.sel [] rfl rfl⟩
        · replace hS := of_f hb4 hS
          refine wp_skip ?_
          refine sq ?_
          refine sq ?_
          refine reg ?_
          refine st tbOk 1 [9, 11, 12] (L' := [(9, .slice ao6 z5.1.length cp6), (11, .slice ao7 z6.length cp7), (12, .int .i64 0)]) hf (by kernel_rfl) ?_
          clear hf; clear a; intro a hf
          refine wpList_nil ?_
          refine ctj (fun (s2 : Unit) (a : Act) (w' : World) => ∃ (F8 : SH), Sep w F R w' F8 [] ∧ Fr 62 [] a) hS ?_ ?_
          · clear hS hf hs; clear a; intro s2 a w10 hM hS
            obtain ⟨F8, hs, hf⟩ := hM
            refine sq ?_
            refine reg ?_
            refine st tbOk 1 [4] (L' := [(4, .bool true)]) hf (by kernel_rfl) ?_
            clear hf; clear a; intro a hf
            refine wpList_nil ?_
            have hr := Option.some.inj hS; subst hr
            refine wp_ret ?_
            exact ret_ok hf (vs := [.bool true]) (by kernel_rfl) ⟨_, rfl, hs.sel [] rfl rfl⟩
          · clear hS; intro KK2 k2 hK2 hS
            refine blk ?_
            refine lp (st := 0) (fun (s3 : Int) (a : Act) (w' : World) => ∃ (F9 : SH), Sep w F R w' F9 [.row 48 ty47 (.slice ao7 z6.length cp7) z6, .row 48 ty47 (.slice ao6 z5.1.length cp6) z5.1] ∧ Fr 62 [(9, .slice ao6 z5.1.length cp6), (11, .slice ao7 z6.length cp7), (12, .int .i64 s3)] a) ?_ ⟨_, hs.sel [0, 1] rfl rfl, hf.keep (ks := [9, 11, 12]) (by kernel_rfl)⟩ hS
            clear hS hf hs; clear a
            intro rec1 KK3 hK3 s3 a w8 hM hS
            obtain ⟨F9, hs, hf⟩ := hM
            refine sq ?_
            refine sq ?_
            refine reg ?_
            refine st tbOk 4 [9, 11, 12, 50] (L' := [(9, .slice ao6 z5.1.length cp6), (11, .slice ao7 z6.length cp7), (12, .int .i64 s3), (50, .bool (decide (s3 < ((z6.length : Nat) : Int))))]) hf (by kernel_rfl) ?_
            clear hf; clear a; intro a hf
            refine wpList_nil ?_
            refine cnd (b := decide (s3 < ((z6.length : Nat) : Int))) hf (by kernel_rfl) (fun hb5 => ?_) (fun hb5 => ?_)
            · replace hS := of_t hb5 hS
              refine wp_skip ?_
              refine sq ?_
              refine blk ?_
              refine sq ?_
              refine regQ mixed (by kernel_rfl) ?_
              refine stQ tbOk 2 [9, 11, 12, 53, 54] (L' := [(9, .slice ao6 z5.1.length cp6), (11, .slice ao7 z6.length cp7), (12, .int .i64 s3), (53, .slice ao7 z6.length cp7), (54, .int .i64 s3)]) hf (by kernel_rfl) ?_
              clear hf; clear a; intro a hf
              have hT := of_gd hS; clear hS; obtain ⟨hc1, hS⟩ := hT
              refine ixRQ tbOk u39 i48 rfl rfl (hs.raW 0 rfl) (k := .i64) (n := s3) hc1 hf (by kernel_rfl) (by kernel_rfl) (by kernel_rfl) (by kernel_rfl) ?_
              clear hf; clear a; intro pb1 po1 c1 a hp1 hr1 hf
              obtain rfl : c1 = [.int .u64 (((gt z6 s3).1).1), .int .i64 (((gt z6 s3).1).2.1), .bool (((gt z6 s3).1).2.2.1), strV (((gt z6 s3).1).2.2.2.1), .int .u64 (((gt z6 s3).1).2.2.2.2.1), strV (((gt z6 s3).1).2.2.2.2.2), .bool ((gt z6 s3).2.1), .int .u32 ((gt z6 s3).2.2)] := hr1
              replace hf := Fr.keep (ks := [9, 11, 12, 55]) (L' := [(9, .slice ao6 z5.1.length cp6), (11, .slice ao7 z6.length cp7), (12, .int .i64 s3), (55, .pointer (some ⟨pb1, po1, none⟩))]) hf (by kernel_rfl)
              refine ldCQ tbOk (T := 48) hp1 (LeH.refl _) 0 (.agg #[.int .u64 (((gt z6 s3).1).1), .int .i64 (((gt z6 s3).1).2.1), .bool (((gt z6 s3).1).2.2.1), strV (((gt z6 s3).1).2.2.2.1), .int .u64 (((gt z6 s3).1).2.2.2.2.1), strV (((gt z6 s3).1).2.2.2.2.2), .bool ((gt z6 s3).2.1), .int .u32 ((gt z6 s3).2.2)]) hf (by kernel_rfl) (by kernel_rfl) (by kernel_rfl) (by kernel_rfl) ?_
              clear hf; clear a; intro a hf
              replace hf := Fr.keep (ks := [9, 11, 12, 56]) (L' := [(9, .slice ao6 z5.1.length cp6), (11, .slice ao7 z6.length cp7), (12, .int .i64 s3), (56, .agg #[.int .u64 (((gt z6 s3).1).1), .int .i64 (((gt z6 s3).1).2.1), .bool (((gt z6 s3).1).2.2.1), strV (((gt z6 s3).1).2.2.2.1), .int .u64 (((gt z6 s3).1).2.2.2.2.1), strV (((gt z6 s3).1).2.2.2.2.2), .bool ((gt z6 s3).2.1), .int .u32 ((gt z6 s3).2.2)])]) hf (by kernel_rfl)
              refine stQ tbOk 2 [9, 11, 12, 56, 57, 58] (L' := [(9, .slice ao6 z5.1.length cp6), (11, .slice ao7 z6.length cp7), (12, .int .i64 s3), (56, .agg #[.int .u64 (((gt z6 s3).1).1), .int .i64 (((gt z6 s3).1).2.1), .bool (((gt z6 s3).1).2.2.1), strV (((gt z6 s3).1).2.2.2.1), .int .u64 (((gt z6 s3).1).2.2.2.2.1), strV (((gt z6 s3).1).2.2.2.2.2), .bool ((gt z6 s3).2.1), .int .u32 ((gt z6 s3).2.2)]), (57, .slice ao6 z5.1.length cp6), (58, .int .i64 s3)]) hf (by kernel_rfl) ?_
              clear hf; clear a; intro a hf
              have hT := of_gd hS; clear hS; obtain ⟨hc2, hS⟩ := hT
              refine ixRQ tbOk u39 i48 rfl rfl (hs.raW 1 rfl) (k := .i64) (n := s3) hc2 hf (by kernel_rfl) (by kernel_rfl) (by kernel_rfl) (by kernel_rfl) ?_
              clear hf; clear a; intro pb2 po2 c2 a hp2 hr2 hf
              obtain rfl : c2 = [.int .u64 (((gt z5.1 s3).1).1), .int .i64 (((gt z5.1 s3).1).2.1), .bool (((gt z5.1 s3).1).2.2.1), strV (((gt z5.1 s3).1).2.2.2.1), .int .u64 (((gt z5.1 s3).1).2.2.2.2.1), strV (((gt z5.1 s3).1).2.2.2.2.2), .bool ((gt z5.1 s3).2.1), .int .u32 ((gt z5.1 s3).2.2)] := hr2
              replace hf := Fr.keep (ks := [9, 11, 12, 56, 59]) (L' := [(9, .slice ao6 z5.1.length cp6), (11, .slice ao7 z6.length cp7), (12, .int .i64 s3), (56, .agg #[.int .u64 (((gt z6 s3).1).1), .int .i64 (((gt z6 s3).1).2.1), .bool (((gt z6 s3).1).2.2.1), strV (((gt z6 s3).1).2.2.2.1), .int .u64 (((gt z6 s3).1).2.2.2.2.1), strV (((gt z6 s3).1).2.2.2.2.2), .bool ((gt z6 s3).2.1), .int .u32 ((gt z6 s3).2.2)]), (59, .pointer (some ⟨pb2, po2, none⟩))]) hf (by kernel_rfl)
              refine ldCQ tbOk (T := 48) hp2 (LeH.refl _) 0 (.agg #[.int .u64 (((gt z5.1 s3).1).1), .int .i64 (((gt z5.1 s3).1).2.1), .bool (((gt z5.1 s3).1).2.2.1), strV (((gt z5.1 s3).1).2.2.2.1), .int .u64 (((gt z5.1 s3).1).2.2.2.2.1), strV (((gt z5.1 s3).1).2.2.2.2.2), .bool ((gt z5.1 s3).2.1), .int .u32 ((gt z5.1 s3).2.2)]) hf (by kernel_rfl) (by kernel_rfl) (by kernel_rfl) (by kernel_rfl) ?_
              clear hf; clear a; intro a hf
              replace hf := Fr.keep (ks := [9, 11, 12, 56, 60]) (L' := [(9, .slice ao6 z5.1.length cp6), (11, .slice ao7 z6.length cp7), (12, .int .i64 s3), (56, .agg #[.int .u64 (((gt z6 s3).1).1), .int .i64 (((gt z6 s3).1).2.1), .bool (((gt z6 s3).1).2.2.1), strV (((gt z6 s3).1).2.2.2.1), .int .u64 (((gt z6 s3).1).2.2.2.2.1), strV (((gt z6 s3).1).2.2.2.2.2), .bool ((gt z6 s3).2.1), .int .u32 ((gt z6 s3).2.2)]), (60, .agg #[.int .u64 (((gt z5.1 s3).1).1), .int .i64 (((gt z5.1 s3).1).2.1), .bool (((gt z5.1 s3).1).2.2.1), strV (((gt z5.1 s3).1).2.2.2.1), .int .u64 (((gt z5.1 s3).1).2.2.2.2.1), strV (((gt z5.1 s3).1).2.2.2.2.2), .bool ((gt z5.1 s3).2.1), .int .u32 ((gt z5.1 s3).2.2)])]) hf (by kernel_rfl)
              refine stQ tbOk 1 [9, 11, 12, 61] (L' := [(9, .slice ao6 z5.1.length cp6), (11, .slice ao7 z6.length cp7), (12, .int .i64 s3), (61, .bool (!((((((gt z6 s3).1).1) == (((gt z5.1 s3).1).1)) && (((((gt z6 s3).1).2.1) == (((gt z5.1 s3).1).2.1)) && (((((gt z6 s3).1).2.2.1) == (((gt z5.1 s3).1).2.2.1)) && (((((gt z6 s3).1).2.2.2.1) == (((gt z5.1 s3).1).2.2.2.1)) && (((((gt z6 s3).1).2.2.2.2.1) == (((gt z5.1 s3).1).2.2.2.2.1)) && ((((gt z6 s3).1).2.2.2.2.2) == (((gt z5.1 s3).1).2.2.2.2.2))))))) && ((((gt z6 s3).2.1) == ((gt z5.1 s3).2.1)) && (((gt z6 s3).2.2) == ((gt z5.1 s3).2.2))))))]) hf (by kernel_rfl) ?_
              clear hf; clear a; intro a hf
              refine wpQuiet_nil ?_
              intro w9 hx
              replace hs : Sep w F R w9 F9 [.row 48 ty47 (.slice ao7 z6.length cp7) z6, .row 48 ty47 (.slice ao6 z5.1.length cp6) z5.1] := hs.ext hx
              clear hx
              refine cnd (b := !((((((gt z6 s3).1).1) == (((gt z5.1 s3).1).1)) && (((((gt z6 s3).1).2.1) == (((gt z5.1 s3).1).2.1)) && (((((gt z6 s3).1).2.2.1) == (((gt z5.1 s3).1).2.2.1)) && (((((gt z6 s3).1).2.2.2.1) == (((gt z5.1 s3).1).2.2.2.1)) && (((((gt z6 s3).1).2.2.2.2.1) == (((gt z5.1 s3).1).2.2.2.2.1)) && ((((gt z6 s3).1).2.2.2.2.2) == (((gt z5.1 s3).1).2.2.2.2.2))))))) && ((((gt z6 s3).2.1) == ((gt z5.1 s3).2.1)) && (((gt z6 s3).2.2) == ((gt z5.1 s3).2.2))))) hf (by kernel_rfl) (fun hb6 => ?_) (fun hb6 => ?_)
              · replace hS := of_t hb6 hS
                refine sq ?_
                refine reg ?_
                refine st tbOk 1 [4] (L' := [(4, .bool false)]) hf (by kernel_rfl) ?_
                clear hf; clear a; intro a hf
                refine wpList_nil ?_
                have hr := Option.some.inj hS; subst hr
                refine wp_ret ?_
                exact ret_ok hf (vs := [.bool false]) (by kernel_rfl) ⟨_, rfl, hs.sel [] rfl rfl⟩
              · replace hS := of_f hb6 hS
                refine wp_skip ?_
                refine reg ?_
                have hT := of_let hS; clear hS; obtain ⟨i_1, hl1, hS⟩ := hT
                refine st tbOk 3 [9, 11, 12] (L' := [(9, .slice ao6 z5.1.length cp6), (11, .slice ao7 z6.length cp7), (12, .int .i64 i_1)]) hf (by subst hl1; kernel_rfl) ?_
                clear hf; clear a; intro a hf
                refine wpList_nil ?_
                exact hK3 i_1 _ _ ⟨_, hs.sel [0, 1] rfl rfl, hf.keep (ks := [9, 11, 12]) (by kernel_rfl)⟩ hS
            · replace hS := of_f hb5 hS
              refine wp_exit ?_
              exact hK2 () _ _ ⟨_, hs.sel [] rfl rfl, hf.keep (ks := []) (by kernel_rfl)⟩ hS
      · clear hS; intro KK1 k1 hK1 hS
        refine reg ?_
        refine st tbOk 1 [9, 10, 11, 36] (L' := [(9, .slice ao6 z5.1.length cp6), (10, strV z5.2), (11, .slice ao7 z6.length cp7), (36, .slice ao4 z3.2.length cp4)]) hf (by kernel_rfl) ?_
        clear hf; clear a; intro a hf
        refine b2sR tbOk u22 u5 u9 (hs.raW 2 rfl) hf (by kernel_rfl) (by kernel_rfl) (by kernel_rfl) ?_
        clear hf; clear a; intro a hf
        replace hs : Sep w F R w6 F4 [.row 48 ty47 (.slice ao7 z6.length cp7) z6, .row 48 ty47 (.slice ao6 z5.1.length cp6) z5.1] := hs.sel [0, 1] rfl rfl
        replace hf := Fr.keep (ks := [9, 10, 11, 37]) (L' := [(9, .slice ao6 z5.1.length cp6), (10, strV z5.2), (11, .slice ao7 z6.length cp7), (37, strV (toStr z3.2))]) hf (by kernel_rfl)
        refine st tbOk 3 [9, 11, 40] (L' := [(9, .slice ao6 z5.1.length cp6), (11, .slice ao7 z6.length cp7), (40, .bool (!((toStr z3.2) == z5.2)))]) hf (by kernel_rfl) ?_
        clear hf; clear a; intro a hf
        rcases Bool.eq_false_or_eq_true (!((toStr z3.2) == z5.2)) with hb3 | hb3
        · replace hS := of_t hb3 hS
          replace hf := Fr.cast (L' := [(9, .slice ao6 z5.1.length cp6), (11, .slice ao7 z6.length cp7), (40, .bool true)]) hf (by rw [hb3])
          refine st tbOk 6 [9, 11, 46] (L' := [(9, .slice ao6 z5.1.length cp6), (11, .slice ao7 z6.length cp7), (46, .bool true)]) hf (by kernel_rfl) ?_
          clear hf; clear a; intro a hf
          refine wpList_nil ?_
          exact hK1 true _ _ ⟨_, hs.sel [0, 1] rfl rfl, hf.keep (ks := [9, 11, 46]) (by kernel_rfl)⟩ hS
        · replace hS := of_f hb3 hS
          replace hf := Fr.cast (L' := [(9, .slice ao6 z5.1.length cp6), (11, .slice ao7 z6.length cp7), (40, .bool false)]) hf (by rw [hb3])
          refine st tbOk 6 [9, 11, 46] (L' := [(9, .slice ao6 z5.1.length cp6), (11, .slice ao7 z6.length cp7), (46, .bool (((z6.length : Nat) : Int) != ((z5.1.length : Nat) : Int)))]) hf (by kernel_rfl) ?_
          clear hf; clear a; intro a hf
          refine wpList_nil ?_
          exact hK1 (((z6.length : Nat) : Int) != ((z5.1.length : Nat) : Int)) _ _ ⟨_, hs.sel [0, 1] rfl rfl, hf.keep (ks := [9, 11, 46]) (by kernel_rfl)⟩ hS

end Dm
