/-
  The walk of the law DedupBack; printed by a program of this repo. No condition.
-/
import Derived.Test.YtmocofbneblccaaWT
import Derived.Test.YtmocofbneblccaaW2
import Derived.Test.YtmocofbneblccaaW4
import Derived.Test.YtmocofbneblccaaW6
namespace Dm
open Go Go.RowKit Go.Proofs

set_option maxHeartbeats 4000000 in
theorem law21_DedupBack_ok {w : World} {F : SH} {p_l : List (Int × Int × Bool × (List UInt8) × Int × (List Int))} {files : List ((List UInt8) × (List Int))} {ao1 : Option Addr} {cp1 : Nat} {ao2 : Option Addr} {cp2 : Nat} (hs : Sep w F (blks [.ro ty55 (.slice ao1 p_l.length cp1) p_l, .ro ty60 (.slice ao2 files.length cp2) files]) w F [.ro ty55 (.slice ao1 p_l.length cp1) p_l, .ro ty60 (.slice ao2 files.length cp2) files]) {r : Bool} (hS : law21_DedupBack p_l files = some r) :
    Calls Try.prog 6 [.slice ao1 p_l.length cp1, .slice ao2 files.length cp2].toArray w (Gives (fun u w' => ∃ (F' : SH), u = .bool r ∧ Sep w F (blks [.ro ty55 (.slice ao1 p_l.length cp1) p_l, .ro ty60 (.slice ao2 files.length cp2) files]) w' F' [])) := by
  generalize (blks [.ro ty55 (.slice ao1 p_l.length cp1) p_l, .ro ty60 (.slice ao2 files.length cp2) files]) = R at hs ⊢
  unfold law21_DedupBack at hS
  refine fn_ok (vs := [.slice ao1 p_l.length cp1, .slice ao2 files.length cp2]) Try.func6 rfl 117 Try.ntmps6 (Nat.le_of_ble_eq_true rfl) ?_
  intro a hf
  replace hf := Fr.cast (L' := [(0, .slice ao1 p_l.length cp1), (1, .slice ao2 files.length cp2)]) hf (by kernel_rfl)
  refine sq ?_
  refine reg ?_
  refine st tbOk 1 [0, 1] (L' := [(0, .slice ao1 p_l.length cp1), (1, .slice ao2 files.length cp2)]) hf (by kernel_rfl) ?_
  clear hf; clear a; intro a hf
  refine wpList_nil ?_
  refine sq ?_
  refine reg ?_
  have hT := of_bd hS; clear hS; obtain ⟨z1, hz1, hS⟩ := hT
  refine clV ent13 (vs := []) (caps := []) hf (by kernel_rfl) (by kernel_rfl) (by kernel_rfl) (by kernel_rfl) (law21_awake_ok (hs.enter [] rfl rfl) hz1) ?_
  clear hf; clear a; intro v w1 a hT hf; obtain ⟨F1, rfl, hr⟩ := hT
  replace hs : Sep w F R w1 F1 [.ro ty55 (.slice ao1 p_l.length cp1) p_l, .ro ty60 (.slice ao2 files.length cp2) files] := hs.back [] [0, 1] rfl rfl rfl rfl hr
  clear hr
  replace hf := Fr.keep (ks := [0, 1, 18]) (L' := [(0, .slice ao1 p_l.length cp1), (1, .slice ao2 files.length cp2), (18, .bool z1)]) hf (by kernel_rfl)
  refine st tbOk 1 [0, 1, 5] (L' := [(0, .slice ao1 p_l.length cp1), (1, .slice ao2 files.length cp2), (5, .bool z1)]) hf (by kernel_rfl) ?_
  clear hf; clear a; intro a hf
  refine wpList_nil ?_
  refine sq ?_
  refine sq ?_
  refine reg ?_
  refine st tbOk 2 [0, 1, 20] (L' := [(0, .slice ao1 p_l.length cp1), (1, .slice ao2 files.length cp2), (20, .bool (!z1))]) hf (by kernel_rfl) ?_
  clear hf; clear a; intro a hf
  refine wpList_nil ?_
  refine cnd (b := !z1) hf (by kernel_rfl) (fun hb1 => ?_) (fun hb1 => ?_)
  · replace hS := of_t hb1 hS
    refine sq ?_
    refine reg ?_
    refine st tbOk 1 [4] (L' := [(4, .bool false)]) hf (by kernel_rfl) ?_
    clear hf; clear a; intro a hf
    refine wpList_nil ?_
    have hr := Option.some.inj hS; subst hr
    refine wp_ret ?_
    exact ret_ok hf (vs := [.bool false]) (by kernel_rfl) ⟨_, rfl, hs.sel [] rfl rfl⟩
  · replace hS := of_f hb1 hS
    refine wp_skip ?_
    refine sq ?_
    refine reg ?_
    refine st tbOk 2 [0, 1, 21, 22] (L' := [(0, .slice ao1 p_l.length cp1), (1, .slice ao2 files.length cp2), (21, .slice ao1 p_l.length cp1), (22, .slice ao2 files.length cp2)]) hf (by kernel_rfl) ?_
    clear hf; clear a; intro a hf
    have hT := of_bd hS; clear hS; obtain ⟨z2, hz2, hS⟩ := hT
    refine clV ent14 (vs := [.slice ao1 p_l.length cp1, .slice ao2 files.length cp2]) (caps := []) hf (by kernel_rfl) (by kernel_rfl) (by kernel_rfl) (by kernel_rfl) (law21_few_ok (p_l := p_l) (files := files) (hs.enter [0, 1] rfl rfl) hz2) ?_
    clear hf; clear a; intro v w2 a hT hf; obtain ⟨F2, rfl, hr⟩ := hT
    replace hs : Sep w F R w2 F2 [.ro ty55 (.slice ao1 p_l.length cp1) p_l, .ro ty60 (.slice ao2 files.length cp2) files] := hs.back [0, 1] [0, 1] rfl rfl rfl rfl hr
    clear hr
    replace hf := Fr.keep (ks := [0, 1, 23]) (L' := [(0, .slice ao1 p_l.length cp1), (1, .slice ao2 files.length cp2), (23, .bool z2)]) hf (by kernel_rfl)
    refine st tbOk 1 [0, 1, 6] (L' := [(0, .slice ao1 p_l.length cp1), (1, .slice ao2 files.length cp2), (6, .bool z2)]) hf (by kernel_rfl) ?_
    clear hf; clear a; intro a hf
    refine wpList_nil ?_
    refine sq ?_
    refine sq ?_
    refine reg ?_
    refine st tbOk 2 [0, 1, 25] (L' := [(0, .slice ao1 p_l.length cp1), (1, .slice ao2 files.length cp2), (25, .bool (!z2))]) hf (by kernel_rfl) ?_
    clear hf; clear a; intro a hf
    refine wpList_nil ?_
    refine cnd (b := !z2) hf (by kernel_rfl) (fun hb2 => ?_) (fun hb2 => ?_)
    · replace hS := of_t hb2 hS
      refine sq ?_
      refine reg ?_
      refine st tbOk 1 [4] (L' := [(4, .bool true)]) hf (by kernel_rfl) ?_
      clear hf; clear a; intro a hf
      refine wpList_nil ?_
      have hr := Option.some.inj hS; subst hr
      refine wp_ret ?_
      exact ret_ok hf (vs := [.bool true]) (by kernel_rfl) ⟨_, rfl, hs.sel [] rfl rfl⟩
    · replace hS := of_f hb2 hS
      refine wp_skip ?_
      refine sq ?_
      refine sq ?_
      refine reg ?_
      refine st tbOk 1 [0, 1, 7] (L' := [(0, .slice ao1 p_l.length cp1), (1, .slice ao2 files.length cp2), (7, .int .i64 0)]) hf (by kernel_rfl) ?_
      clear hf; clear a; intro a hf
      refine wpList_nil ?_
      refine ctj (fun (s1 : Unit) (a : Act) (w' : World) => ∃ (F3 : SH), Sep w F R w' F3 [.ro ty55 (.slice ao1 p_l.length cp1) p_l, .ro ty60 (.slice ao2 files.length cp2) files] ∧ Fr 117 [(0, .slice ao1 p_l.length cp1), (1, .slice ao2 files.length cp2)] a) hS ?_ ?_
      · clear hS hf hs; clear a; intro s1 a w4 hM hS
        obtain ⟨F3, hs, hf⟩ := hM
        refine sq ?_
        refine reg ?_
        refine st tbOk 2 [0, 1, 40, 41] (L' := [(0, .slice ao1 p_l.length cp1), (1, .slice ao2 files.length cp2), (40, .slice ao1 p_l.length cp1), (41, .slice ao2 files.length cp2)]) hf (by kernel_rfl) ?_
        clear hf; clear a; intro a hf
        have hT := of_bd hS; clear hS; obtain ⟨z3, hz3, hS⟩ := hT
        refine clV ent19 (vs := [.slice ao1 p_l.length cp1, .slice ao2 files.length cp2]) (caps := []) hf (by kernel_rfl) (by kernel_rfl) (by kernel_rfl) (by kernel_rfl) (dedup_Split_ok (p_l := p_l) (files := files) (hs.enter [0, 1] rfl rfl) hz3) ?_
        clear hf; clear a; intro v w5 a hT hf; obtain ⟨ao4, cp4, ao5, cp5, F5, rfl, hr⟩ := hT
        replace hs : Sep w F R w5 F5 [.row 58 ty57 (.slice ao4 z3.1.length cp4) z3.1, .row 5 (tI .u8) (.slice ao5 z3.2.length cp5) z3.2, .ro ty55 (.slice ao1 p_l.length cp1) p_l, .ro ty60 (.slice ao2 files.length cp2) files] := hs.back [0, 1] [0, 1] rfl rfl rfl rfl hr
        clear hr
        replace hf := Fr.keep (ks := [0, 1, 42]) (L' := [(0, .slice ao1 p_l.length cp1), (1, .slice ao2 files.length cp2), (42, .tuple #[.slice ao4 z3.1.length cp4, .slice ao5 z3.2.length cp5])]) hf (by kernel_rfl)
        refine st tbOk 5 [0, 1, 8, 9] (L' := [(0, .slice ao1 p_l.length cp1), (1, .slice ao2 files.length cp2), (8, .slice ao4 z3.1.length cp4), (9, .slice ao5 z3.2.length cp5)]) hf (by kernel_rfl) ?_
        clear hf; clear a; intro a hf
        refine wpList_nil ?_
        refine sq ?_
        refine reg ?_
        refine st tbOk 3 [0, 1, 8, 9, 46, 47, 48] (L' := [(0, .slice ao1 p_l.length cp1), (1, .slice ao2 files.length cp2), (8, .slice ao4 z3.1.length cp4), (9, .slice ao5 z3.2.length cp5), (46, .slice ao4 z3.1.length cp4), (47, .slice ao5 z3.2.length cp5), (48, .slice ao2 files.length cp2)]) hf (by kernel_rfl) ?_
        clear hf; clear a; intro a hf
        have hT := of_bd hS; clear hS; obtain ⟨z4, hz4, hS⟩ := hT
        obtain ⟨F6, _, hs⟩ := hs.frz 0 rfl
        replace hs : Sep w F R w5 F6 [.ro ty57 (.slice ao4 z3.1.length cp4) z3.1, .row 5 (tI .u8) (.slice ao5 z3.2.length cp5) z3.2, .ro ty55 (.slice ao1 p_l.length cp1) p_l, .ro ty60 (.slice ao2 files.length cp2) files] := hs
        obtain ⟨F7, _, hs⟩ := hs.frz 1 rfl
        replace hs : Sep w F R w5 F7 [.ro ty57 (.slice ao4 z3.1.length cp4) z3.1, .ro (tI .u8) (.slice ao5 z3.2.length cp5) z3.2, .ro ty55 (.slice ao1 p_l.length cp1) p_l, .ro ty60 (.slice ao2 files.length cp2) files] := hs
        refine clV ent23 (vs := [.slice ao4 z3.1.length cp4, .slice ao5 z3.2.length cp5, .slice ao2 files.length cp2]) (caps := []) hf (by kernel_rfl) (by kernel_rfl) (by kernel_rfl) (by kernel_rfl) (dedup_Join_ok (p_l := z3.1) (kept := z3.2) (files := files) (hs.enter [0, 1, 3] rfl rfl) hz4) ?_
        clear hf; clear a; intro v w6 a hT hf; obtain ⟨ao6, cp6, F8, rfl, hr⟩ := hT
        replace hs : Sep w F R w6 F8 [.row 56 ty55 (.slice ao6 z4.1.length cp6) z4.1, .ro ty57 (.slice ao4 z3.1.length cp4) z3.1, .ro (tI .u8) (.slice ao5 z3.2.length cp5) z3.2, .ro ty55 (.slice ao1 p_l.length cp1) p_l, .ro ty60 (.slice ao2 files.length cp2) files] := hs.back [0, 1, 3] [0, 1, 2, 3] rfl rfl rfl rfl hr
        clear hr
        replace hf := Fr.keep (ks := [0, 1, 8, 9, 49]) (L' := [(0, .slice ao1 p_l.length cp1), (1, .slice ao2 files.length cp2), (8, .slice ao4 z3.1.length cp4), (9, .slice ao5 z3.2.length cp5), (49, .tuple #[.slice ao6 z4.1.length cp6, .int .i64 z4.2])]) hf (by kernel_rfl)
        refine st tbOk 5 [0, 1, 8, 9, 10, 11] (L' := [(0, .slice ao1 p_l.length cp1), (1, .slice ao2 files.length cp2), (8, .slice ao4 z3.1.length cp4), (9, .slice ao5 z3.2.length cp5), (10, .slice ao6 z4.1.length cp6), (11, .int .i64 z4.2)]) hf (by kernel_rfl) ?_
        clear hf; clear a; intro a hf
        refine wpList_nil ?_
        refine sq ?_
        refine reg ?_
        refine st tbOk 1 [1, 8, 9, 10, 11, 52] (L' := [(1, .slice ao2 files.length cp2), (8, .slice ao4 z3.1.length cp4), (9, .slice ao5 z3.2.length cp5), (10, .slice ao6 z4.1.length cp6), (11, .int .i64 z4.2), (52, .slice ao1 p_l.length cp1)]) hf (by kernel_rfl) ?_
        clear hf; clear a; intro a hf
        have hT := of_bd hS; clear hS; obtain ⟨z5, hz5, hS⟩ := hT
        refine clV ent21 (vs := [.slice ao1 p_l.length cp1]) (caps := []) hf (by kernel_rfl) (by kernel_rfl) (by kernel_rfl) (by kernel_rfl) (law21_pages_ok (p_l := p_l) (hs.enter [3] rfl rfl) hz5) ?_
        clear hf; clear a; intro v w7 a hT hf; obtain ⟨ao7, cp7, F9, rfl, hr⟩ := hT
        replace hs : Sep w F R w7 F9 [.row 46 ty45 (.slice ao7 z5.length cp7) z5, .row 56 ty55 (.slice ao6 z4.1.length cp6) z4.1, .ro ty57 (.slice ao4 z3.1.length cp4) z3.1, .ro (tI .u8) (.slice ao5 z3.2.length cp5) z3.2, .ro ty55 (.slice ao1 p_l.length cp1) p_l, .ro ty60 (.slice ao2 files.length cp2) files] := hs.back [3] [0, 1, 2, 3, 4] rfl rfl rfl rfl hr
        clear hr
        replace hs : Sep w F R w7 F9 [.row 46 ty45 (.slice ao7 z5.length cp7) z5, .row 56 ty55 (.slice ao6 z4.1.length cp6) z4.1, .ro ty57 (.slice ao4 z3.1.length cp4) z3.1, .ro (tI .u8) (.slice ao5 z3.2.length cp5) z3.2, .ro ty60 (.slice ao2 files.length cp2) files] := hs.sel [0, 1, 2, 3, 5] rfl rfl
        replace hf := Fr.keep (ks := [1, 8, 9, 10, 11, 53]) (L' := [(1, .slice ao2 files.length cp2), (8, .slice ao4 z3.1.length cp4), (9, .slice ao5 z3.2.length cp5), (10, .slice ao6 z4.1.length cp6), (11, .int .i64 z4.2), (53, .slice ao7 z5.length cp7)]) hf (by kernel_rfl)
        refine st tbOk 1 [1, 8, 9, 10, 11, 12] (L' := [(1, .slice ao2 files.length cp2), (8, .slice ao4 z3.1.length cp4), (9, .slice ao5 z3.2.length cp5), (10, .slice ao6 z4.1.length cp6), (11, .int .i64 z4.2), (12, .slice ao7 z5.length cp7)]) hf (by kernel_rfl) ?_
        clear hf; clear a; intro a hf
        refine wpList_nil ?_
        refine sq ?_
        refine reg ?_
        refine st tbOk 1 [1, 8, 9, 11, 12, 54] (L' := [(1, .slice ao2 files.length cp2), (8, .slice ao4 z3.1.length cp4), (9, .slice ao5 z3.2.length cp5), (11, .int .i64 z4.2), (12, .slice ao7 z5.length cp7), (54, .slice ao6 z4.1.length cp6)]) hf (by kernel_rfl) ?_
        clear hf; clear a; intro a hf
        have hT := of_bd hS; clear hS; obtain ⟨z6, hz6, hS⟩ := hT
        refine clV ent21 (vs := [.slice ao6 z4.1.length cp6]) (caps := []) hf (by kernel_rfl) (by kernel_rfl) (by kernel_rfl) (by kernel_rfl) (law21_pages_ok (p_l := z4.1) (hs.lend [1] [] rfl rfl rfl rfl rfl) hz6) ?_
        clear hf; clear a; intro v w8 a hT hf; obtain ⟨ao8, cp8, F10, rfl, hr⟩ := hT
        replace hs : Sep w F R w8 F9 [.row 46 ty45 (.slice ao8 z6.length cp8) z6, .row 46 ty45 (.slice ao7 z5.length cp7) z5, .row 56 ty55 (.slice ao6 z4.1.length cp6) z4.1, .ro ty57 (.slice ao4 z3.1.length cp4) z3.1, .ro (tI .u8) (.slice ao5 z3.2.length cp5) z3.2, .ro ty60 (.slice ao2 files.length cp2) files] := hs.backL [1] [] [0, 1, 2, 3, 4] rfl rfl rfl rfl rfl rfl hr ⟨flat45, trivial⟩
        clear hr
        replace hs : Sep w F R w8 F9 [.row 46 ty45 (.slice ao8 z6.length cp8) z6, .row 46 ty45 (.slice ao7 z5.length cp7) z5, .ro ty57 (.slice ao4 z3.1.length cp4) z3.1, .ro (tI .u8) (.slice ao5 z3.2.length cp5) z3.2, .ro ty60 (.slice ao2 files.length cp2) files] := hs.sel [0, 1, 3, 4, 5] rfl rfl
        replace hf := Fr.keep (ks := [1, 8, 9, 11, 12, 55]) (L' := [(1, .slice ao2 files.length cp2), (8, .slice ao4 z3.1.length cp4), (9, .slice ao5 z3.2.length cp5), (11, .int .i64 z4.2), (12, .slice ao7 z5.length cp7), (55, .slice ao8 z6.length cp8)]) hf (by kernel_rfl)
        refine st tbOk 1 [1, 8, 9, 11, 12, 13] (L' := [(1, .slice ao2 files.length cp2), (8, .slice ao4 z3.1.length cp4), (9, .slice ao5 z3.2.length cp5), (11, .int .i64 z4.2), (12, .slice ao7 z5.length cp7), (13, .slice ao8 z6.length cp8)]) hf (by kernel_rfl) ?_
        clear hf; clear a; intro a hf
        refine wpList_nil ?_
        refine sq ?_
        refine sq ?_
        refine ctj (fun (s3 : Bool) (a : Act) (w' : World) => ∃ (F11 : SH), Sep w F R w' F11 [.row 46 ty45 (.slice ao8 z6.length cp8) z6, .row 46 ty45 (.slice ao7 z5.length cp7) z5, .ro ty57 (.slice ao4 z3.1.length cp4) z3.1, .ro (tI .u8) (.slice ao5 z3.2.length cp5) z3.2, .ro ty60 (.slice ao2 files.length cp2) files] ∧ Fr 117 [(1, .slice ao2 files.length cp2), (8, .slice ao4 z3.1.length cp4), (9, .slice ao5 z3.2.length cp5), (12, .slice ao7 z5.length cp7), (13, .slice ao8 z6.length cp8), (64, .bool s3)] a) hS ?_ ?_
        · clear hS hf hs; clear a; intro s3 a w9 hM hS
          obtain ⟨F11, hs, hf⟩ := hM
          refine cnd (b := s3) hf (by kernel_rfl) (fun hb6 => ?_) (fun hb6 => ?_)
          · replace hS := of_t hb6 hS
            refine sq ?_
            refine reg ?_
            refine st tbOk 1 [4] (L' := [(4, .bool false)]) hf (by kernel_rfl) ?_
            clear hf; clear a; intro a hf
            refine wpList_nil ?_
            have hr := Option.some.inj hS; subst hr
            refine wp_ret ?_
            exact ret_ok hf (vs := [.bool false]) (by kernel_rfl) ⟨_, rfl, hs.sel [] rfl rfl⟩
          · replace hS := of_f hb6 hS
            refine wp_skip ?_
            refine sq ?_
            refine reg ?_
            refine st tbOk 1 [1, 8, 9, 12, 13, 14] (L' := [(1, .slice ao2 files.length cp2), (8, .slice ao4 z3.1.length cp4), (9, .slice ao5 z3.2.length cp5), (12, .slice ao7 z5.length cp7), (13, .slice ao8 z6.length cp8), (14, .int .i64 0)]) hf (by kernel_rfl) ?_
            clear hf; clear a; intro a hf
            refine wpList_nil ?_
            refine sq ?_
            refine sq ?_
            refine reg ?_
            refine st tbOk 1 [1, 8, 9, 12, 13, 14, 15] (L' := [(1, .slice ao2 files.length cp2), (8, .slice ao4 z3.1.length cp4), (9, .slice ao5 z3.2.length cp5), (12, .slice ao7 z5.length cp7), (13, .slice ao8 z6.length cp8), (14, .int .i64 0), (15, .int .i64 0)]) hf (by kernel_rfl) ?_
            clear hf; clear a; intro a hf
            refine wpList_nil ?_
            obtain ⟨F12, _, hs⟩ := hs.frz 1 rfl
            replace hs : Sep w F R w9 F12 [.row 46 ty45 (.slice ao8 z6.length cp8) z6, .ro ty45 (.slice ao7 z5.length cp7) z5, .ro ty57 (.slice ao4 z3.1.length cp4) z3.1, .ro (tI .u8) (.slice ao5 z3.2.length cp5) z3.2, .ro ty60 (.slice ao2 files.length cp2) files] := hs
            refine ctj (fun (s5 : Int) (a : Act) (w' : World) => ∃ (F13 : SH), Sep w F R w' F13 [.ro (tI .u8) (.slice ao5 z3.2.length cp5) z3.2] ∧ Fr 117 [(9, .slice ao5 z3.2.length cp5), (14, .int .i64 s5)] a) hS ?_ ?_
            · clear hS hf hs; clear a; intro s5 a w19 hM hS
              obtain ⟨F13, hs, hf⟩ := hM
              refine sq ?_
              refine reg ?_
              refine st tbOk 5 [4] (L' := [(4, .bool (s5 == ((z3.2.length : Nat) : Int)))]) hf (by kernel_rfl) ?_
              clear hf; clear a; intro a hf
              refine wpList_nil ?_
              have hr := Option.some.inj hS; subst hr
              refine wp_ret ?_
              exact ret_ok hf (vs := [.bool (s5 == ((z3.2.length : Nat) : Int))]) (by kernel_rfl) ⟨_, rfl, hs.sel [] rfl rfl⟩
            · clear hS; intro KK4 k4 hK4 hS
              refine blk ?_
              refine lp (st := (0, 0)) (fun (s6 : Int × Int) (a : Act) (w' : World) => ∃ (F14 : SH), Sep w F R w' F14 [.row 46 ty45 (.slice ao8 z6.length cp8) z6, .ro ty45 (.slice ao7 z5.length cp7) z5, .ro ty57 (.slice ao4 z3.1.length cp4) z3.1, .ro (tI .u8) (.slice ao5 z3.2.length cp5) z3.2, .ro ty60 (.slice ao2 files.length cp2) files] ∧ Fr 117 [(1, .slice ao2 files.length cp2), (8, .slice ao4 z3.1.length cp4), (9, .slice ao5 z3.2.length cp5), (12, .slice ao7 z5.length cp7), (13, .slice ao8 z6.length cp8), (14, .int .i64 s6.1), (15, .int .i64 s6.2)] a) ?_ ⟨_, hs.sel [0, 1, 2, 3, 4] rfl rfl, hf.keep (ks := [1, 8, 9, 12, 13, 14, 15]) (by kernel_rfl)⟩ hS
              clear hS hf hs; clear a
              intro rec2 KK5 hK5 s6 a w10 hM hS
              obtain ⟨F14, hs, hf⟩ := hM
              refine sq ?_
              refine sq ?_
              refine reg ?_
              refine st tbOk 4 [1, 8, 9, 12, 13, 14, 15, 68] (L' := [(1, .slice ao2 files.length cp2), (8, .slice ao4 z3.1.length cp4), (9, .slice ao5 z3.2.length cp5), (12, .slice ao7 z5.length cp7), (13, .slice ao8 z6.length cp8), (14, .int .i64 s6.1), (15, .int .i64 s6.2), (68, .bool (decide (s6.2 < ((z5.length : Nat) : Int))))]) hf (by kernel_rfl) ?_
              clear hf; clear a; intro a hf
              refine wpList_nil ?_
              refine cnd (b := decide (s6.2 < ((z5.length : Nat) : Int))) hf (by kernel_rfl) (fun hb7 => ?_) (fun hb7 => ?_)
              · replace hS := of_t hb7 hS
                refine wp_skip ?_
                refine sq ?_
                refine ctj (fun (s7 : Int) (a : Act) (w' : World) => ∃ (F15 : SH), Sep w F R w' F15 [.row 46 ty45 (.slice ao8 z6.length cp8) z6, .ro ty45 (.slice ao7 z5.length cp7) z5, .ro ty57 (.slice ao4 z3.1.length cp4) z3.1, .ro (tI .u8) (.slice ao5 z3.2.length cp5) z3.2, .ro ty60 (.slice ao2 files.length cp2) files] ∧ Fr 117 [(1, .slice ao2 files.length cp2), (8, .slice ao4 z3.1.length cp4), (9, .slice ao5 z3.2.length cp5), (12, .slice ao7 z5.length cp7), (13, .slice ao8 z6.length cp8), (14, .int .i64 s7), (15, .int .i64 s6.2)] a) hS ?_ ?_
                · clear hS hf hs; clear a; intro s7 a w18 hM hS
                  obtain ⟨F15, hs, hf⟩ := hM
                  refine reg ?_
                  have hT := of_let hS; clear hS; obtain ⟨i_2, hl3, hS⟩ := hT
                  refine st tbOk 3 [1, 8, 9, 12, 13, 14, 15] (L' := [(1, .slice ao2 files.length cp2), (8, .slice ao4 z3.1.length cp4), (9, .slice ao5 z3.2.length cp5), (12, .slice ao7 z5.length cp7), (13, .slice ao8 z6.length cp8), (14, .int .i64 s7), (15, .int .i64 i_2)]) hf (by subst hl3; kernel_rfl) ?_
                  clear hf; clear a; intro a hf
                  refine wpList_nil ?_
                  exact hK5 (s7, i_2) _ _ ⟨_, hs.sel [0, 1, 2, 3, 4] rfl rfl, hf.keep (ks := [1, 8, 9, 12, 13, 14, 15]) (by kernel_rfl)⟩ hS
                · clear hS; intro KK6 k5 hK6 hS
                  refine blk ?_
                  refine sq ?_
                  refine sq ?_
                  refine regQ mixed (by kernel_rfl) ?_
                  refine stQ tbOk 2 [1, 8, 9, 12, 13, 14, 15, 71, 72] (L' := [(1, .slice ao2 files.length cp2), (8, .slice ao4 z3.1.length cp4), (9, .slice ao5 z3.2.length cp5), (12, .slice ao7 z5.length cp7), (13, .slice ao8 z6.length cp8), (14, .int .i64 s6.1), (15, .int .i64 s6.2), (71, .slice ao7 z5.length cp7), (72, .int .i64 s6.2)]) hf (by kernel_rfl) ?_
                  clear hf; clear a; intro a hf
                  have hT := of_gd hS; clear hS; obtain ⟨hc2, hS⟩ := hT
                  refine ixRQ tbOk u42 i46 rfl rfl ((hs.ro 1 rfl).ra (LeH.refl _)) (k := .i64) (n := s6.2) hc2 hf (by kernel_rfl) (by kernel_rfl) (by kernel_rfl) (by kernel_rfl) ?_
                  clear hf; clear a; intro pb2 po2 c2 a hp2 hr3 hf
                  obtain rfl : c2 = [.int .u64 ((gt z5 s6.2).1), .int .i64 ((gt z5 s6.2).2.1), .bool ((gt z5 s6.2).2.2.1), strV ((gt z5 s6.2).2.2.2.1), .int .u64 ((gt z5 s6.2).2.2.2.2.1), strV ((gt z5 s6.2).2.2.2.2.2)] := hr3
                  replace hs : Sep w F R w10 F14 [.cel pb2 po2 [.int .u64 ((gt z5 s6.2).1), .int .i64 ((gt z5 s6.2).2.1), .bool ((gt z5 s6.2).2.2.1), strV ((gt z5 s6.2).2.2.2.1), .int .u64 ((gt z5 s6.2).2.2.2.2.1), strV ((gt z5 s6.2).2.2.2.2.2)], .row 46 ty45 (.slice ao8 z6.length cp8) z6, .ro ty45 (.slice ao7 z5.length cp7) z5, .ro ty57 (.slice ao4 z3.1.length cp4) z3.1, .ro (tI .u8) (.slice ao5 z3.2.length cp5) z3.2, .ro ty60 (.slice ao2 files.length cp2) files] := hs.addCel hp2
                  replace hf := Fr.keep (ks := [1, 8, 9, 12, 13, 14, 15, 73]) (L' := [(1, .slice ao2 files.length cp2), (8, .slice ao4 z3.1.length cp4), (9, .slice ao5 z3.2.length cp5), (12, .slice ao7 z5.length cp7), (13, .slice ao8 z6.length cp8), (14, .int .i64 s6.1), (15, .int .i64 s6.2), (73, .pointer (some ⟨pb2, po2, none⟩))]) hf (by kernel_rfl)
                  refine ldCQ tbOk (T := 46) (hs.ccel 0 rfl) (LeH.refl _) 0 (.agg #[.int .u64 ((gt z5 s6.2).1), .int .i64 ((gt z5 s6.2).2.1), .bool ((gt z5 s6.2).2.2.1), strV ((gt z5 s6.2).2.2.2.1), .int .u64 ((gt z5 s6.2).2.2.2.2.1), strV ((gt z5 s6.2).2.2.2.2.2)]) hf (by kernel_rfl) (by kernel_rfl) (by kernel_rfl) (by kernel_rfl) ?_
                  clear hf; clear a; intro a hf
                  replace hs : Sep w F R w10 F14 [.row 46 ty45 (.slice ao8 z6.length cp8) z6, .ro ty45 (.slice ao7 z5.length cp7) z5, .ro ty57 (.slice ao4 z3.1.length cp4) z3.1, .ro (tI .u8) (.slice ao5 z3.2.length cp5) z3.2, .ro ty60 (.slice ao2 files.length cp2) files] := hs.sel [1, 2, 3, 4, 5] rfl rfl
                  replace hf := Fr.keep (ks := [1, 8, 9, 12, 13, 14, 15, 74]) (L' := [(1, .slice ao2 files.length cp2), (8, .slice ao4 z3.1.length cp4), (9, .slice ao5 z3.2.length cp5), (12, .slice ao7 z5.length cp7), (13, .slice ao8 z6.length cp8), (14, .int .i64 s6.1), (15, .int .i64 s6.2), (74, .agg #[.int .u64 ((gt z5 s6.2).1), .int .i64 ((gt z5 s6.2).2.1), .bool ((gt z5 s6.2).2.2.1), strV ((gt z5 s6.2).2.2.2.1), .int .u64 ((gt z5 s6.2).2.2.2.2.1), strV ((gt z5 s6.2).2.2.2.2.2)])]) hf (by kernel_rfl)
                  refine stQ tbOk 2 [1, 8, 9, 12, 13, 14, 15, 74, 75, 76] (L' := [(1, .slice ao2 files.length cp2), (8, .slice ao4 z3.1.length cp4), (9, .slice ao5 z3.2.length cp5), (12, .slice ao7 z5.length cp7), (13, .slice ao8 z6.length cp8), (14, .int .i64 s6.1), (15, .int .i64 s6.2), (74, .agg #[.int .u64 ((gt z5 s6.2).1), .int .i64 ((gt z5 s6.2).2.1), .bool ((gt z5 s6.2).2.2.1), strV ((gt z5 s6.2).2.2.2.1), .int .u64 ((gt z5 s6.2).2.2.2.2.1), strV ((gt z5 s6.2).2.2.2.2.2)]), (75, .slice ao8 z6.length cp8), (76, .int .i64 s6.2)]) hf (by kernel_rfl) ?_
                  clear hf; clear a; intro a hf
                  have hT := of_gd hS; clear hS; obtain ⟨hc3, hS⟩ := hT
                  refine ixRQ tbOk u42 i46 rfl rfl (hs.raW 0 rfl) (k := .i64) (n := s6.2) hc3 hf (by kernel_rfl) (by kernel_rfl) (by kernel_rfl) (by kernel_rfl) ?_
                  clear hf; clear a; intro pb3 po3 c3 a hp3 hr4 hf
                  obtain rfl : c3 = [.int .u64 ((gt z6 s6.2).1), .int .i64 ((gt z6 s6.2).2.1), .bool ((gt z6 s6.2).2.2.1), strV ((gt z6 s6.2).2.2.2.1), .int .u64 ((gt z6 s6.2).2.2.2.2.1), strV ((gt z6 s6.2).2.2.2.2.2)] := hr4
                  replace hf := Fr.keep (ks := [1, 8, 9, 12, 13, 14, 15, 74, 77]) (L' := [(1, .slice ao2 files.length cp2), (8, .slice ao4 z3.1.length cp4), (9, .slice ao5 z3.2.length cp5), (12, .slice ao7 z5.length cp7), (13, .slice ao8 z6.length cp8), (14, .int .i64 s6.1), (15, .int .i64 s6.2), (74, .agg #[.int .u64 ((gt z5 s6.2).1), .int .i64 ((gt z5 s6.2).2.1), .bool ((gt z5 s6.2).2.2.1), strV ((gt z5 s6.2).2.2.2.1), .int .u64 ((gt z5 s6.2).2.2.2.2.1), strV ((gt z5 s6.2).2.2.2.2.2)]), (77, .pointer (some ⟨pb3, po3, none⟩))]) hf (by kernel_rfl)
                  refine ldCQ tbOk (T := 46) hp3 (LeH.refl _) 0 (.agg #[.int .u64 ((gt z6 s6.2).1), .int .i64 ((gt z6 s6.2).2.1), .bool ((gt z6 s6.2).2.2.1), strV ((gt z6 s6.2).2.2.2.1), .int .u64 ((gt z6 s6.2).2.2.2.2.1), strV ((gt z6 s6.2).2.2.2.2.2)]) hf (by kernel_rfl) (by kernel_rfl) (by kernel_rfl) (by kernel_rfl) ?_
                  clear hf; clear a; intro a hf
                  replace hf := Fr.keep (ks := [1, 8, 9, 12, 13, 14, 15, 74, 78]) (L' := [(1, .slice ao2 files.length cp2), (8, .slice ao4 z3.1.length cp4), (9, .slice ao5 z3.2.length cp5), (12, .slice ao7 z5.length cp7), (13, .slice ao8 z6.length cp8), (14, .int .i64 s6.1), (15, .int .i64 s6.2), (74, .agg #[.int .u64 ((gt z5 s6.2).1), .int .i64 ((gt z5 s6.2).2.1), .bool ((gt z5 s6.2).2.2.1), strV ((gt z5 s6.2).2.2.2.1), .int .u64 ((gt z5 s6.2).2.2.2.2.1), strV ((gt z5 s6.2).2.2.2.2.2)]), (78, .agg #[.int .u64 ((gt z6 s6.2).1), .int .i64 ((gt z6 s6.2).2.1), .bool ((gt z6 s6.2).2.2.1), strV ((gt z6 s6.2).2.2.2.1), .int .u64 ((gt z6 s6.2).2.2.2.2.1), strV ((gt z6 s6.2).2.2.2.2.2)])]) hf (by kernel_rfl)
                  refine stQ tbOk 1 [1, 8, 9, 12, 13, 14, 15, 79] (L' := [(1, .slice ao2 files.length cp2), (8, .slice ao4 z3.1.length cp4), (9, .slice ao5 z3.2.length cp5), (12, .slice ao7 z5.length cp7), (13, .slice ao8 z6.length cp8), (14, .int .i64 s6.1), (15, .int .i64 s6.2), (79, .bool (!((((gt z5 s6.2).1) == ((gt z6 s6.2).1)) && ((((gt z5 s6.2).2.1) == ((gt z6 s6.2).2.1)) && ((((gt z5 s6.2).2.2.1) == ((gt z6 s6.2).2.2.1)) && ((((gt z5 s6.2).2.2.2.1) == ((gt z6 s6.2).2.2.2.1)) && ((((gt z5 s6.2).2.2.2.2.1) == ((gt z6 s6.2).2.2.2.2.1)) && (((gt z5 s6.2).2.2.2.2.2) == ((gt z6 s6.2).2.2.2.2.2)))))))))]) hf (by kernel_rfl) ?_
                  clear hf; clear a; intro a hf
                  refine wpQuiet_nil ?_
                  intro w11 hx
                  replace hs : Sep w F R w11 F14 [.row 46 ty45 (.slice ao8 z6.length cp8) z6, .ro ty45 (.slice ao7 z5.length cp7) z5, .ro ty57 (.slice ao4 z3.1.length cp4) z3.1, .ro (tI .u8) (.slice ao5 z3.2.length cp5) z3.2, .ro ty60 (.slice ao2 files.length cp2) files] := hs.ext hx
                  clear hx
                  refine cnd (b := !((((gt z5 s6.2).1) == ((gt z6 s6.2).1)) && ((((gt z5 s6.2).2.1) == ((gt z6 s6.2).2.1)) && ((((gt z5 s6.2).2.2.1) == ((gt z6 s6.2).2.2.1)) && ((((gt z5 s6.2).2.2.2.1) == ((gt z6 s6.2).2.2.2.1)) && ((((gt z5 s6.2).2.2.2.2.1) == ((gt z6 s6.2).2.2.2.2.1)) && (((gt z5 s6.2).2.2.2.2.2) == ((gt z6 s6.2).2.2.2.2.2)))))))) hf (by kernel_rfl) (fun hb8 => ?_) (fun hb8 => ?_)
                  · replace hS := of_t hb8 hS
                    refine sq ?_
                    refine reg ?_
                    refine st tbOk 1 [4] (L' := [(4, .bool false)]) hf (by kernel_rfl) ?_
                    clear hf; clear a; intro a hf
                    refine wpList_nil ?_
                    have hr := Option.some.inj hS; subst hr
                    refine wp_ret ?_
                    exact ret_ok hf (vs := [.bool false]) (by kernel_rfl) ⟨_, rfl, hs.sel [] rfl rfl⟩
                  · replace hS := of_f hb8 hS
                    refine wp_skip ?_
                    refine sq ?_
                    refine reg ?_
                    refine st tbOk 2 [1, 8, 9, 12, 13, 14, 15, 80, 81] (L' := [(1, .slice ao2 files.length cp2), (8, .slice ao4 z3.1.length cp4), (9, .slice ao5 z3.2.length cp5), (12, .slice ao7 z5.length cp7), (13, .slice ao8 z6.length cp8), (14, .int .i64 s6.1), (15, .int .i64 s6.2), (80, .slice ao4 z3.1.length cp4), (81, .int .i64 s6.2)]) hf (by kernel_rfl) ?_
                    clear hf; clear a; intro a hf
                    have hT := of_gd hS; clear hS; obtain ⟨hc4, hS⟩ := hT
                    refine ixR tbOk u36 i58 rfl rfl ((hs.ro 2 rfl).ra (LeH.refl _)) (k := .i64) (n := s6.2) hc4 hf (by kernel_rfl) (by kernel_rfl) (by kernel_rfl) (by kernel_rfl) ?_
                    clear hf; clear a; intro pb4 po4 c4 a hp4 hr5 hf
                    obtain rfl : c4 = [.int .u64 ((gt z3.1 s6.2).1), .int .i64 ((gt z3.1 s6.2).2.1), .bool ((gt z3.1 s6.2).2.2.1), strV ((gt z3.1 s6.2).2.2.2.1), .int .u64 ((gt z3.1 s6.2).2.2.2.2.1), .bool ((gt z3.1 s6.2).2.2.2.2.2.1), .int .u32 ((gt z3.1 s6.2).2.2.2.2.2.2)] := hr5
                    replace hs : Sep w F R w11 F14 [.cel pb4 po4 [.int .u64 ((gt z3.1 s6.2).1), .int .i64 ((gt z3.1 s6.2).2.1), .bool ((gt z3.1 s6.2).2.2.1), strV ((gt z3.1 s6.2).2.2.2.1), .int .u64 ((gt z3.1 s6.2).2.2.2.2.1), .bool ((gt z3.1 s6.2).2.2.2.2.2.1), .int .u32 ((gt z3.1 s6.2).2.2.2.2.2.2)], .row 46 ty45 (.slice ao8 z6.length cp8) z6, .ro ty45 (.slice ao7 z5.length cp7) z5, .ro ty57 (.slice ao4 z3.1.length cp4) z3.1, .ro (tI .u8) (.slice ao5 z3.2.length cp5) z3.2, .ro ty60 (.slice ao2 files.length cp2) files] := hs.addCel hp4
                    replace hf := Fr.keep (ks := [1, 8, 9, 12, 13, 14, 15, 82]) (L' := [(1, .slice ao2 files.length cp2), (8, .slice ao4 z3.1.length cp4), (9, .slice ao5 z3.2.length cp5), (12, .slice ao7 z5.length cp7), (13, .slice ao8 z6.length cp8), (14, .int .i64 s6.1), (15, .int .i64 s6.2), (82, .pointer (some ⟨pb4, po4, none⟩))]) hf (by kernel_rfl)
                    refine st tbOk 1 [1, 8, 9, 12, 13, 14, 15, 83] (L' := [(1, .slice ao2 files.length cp2), (8, .slice ao4 z3.1.length cp4), (9, .slice ao5 z3.2.length cp5), (12, .slice ao7 z5.length cp7), (13, .slice ao8 z6.length cp8), (14, .int .i64 s6.1), (15, .int .i64 s6.2), (83, .pointer (some ⟨pb4, po4 + 5, none⟩))]) hf (by kernel_rfl) ?_
                    clear hf; clear a; intro a hf
                    refine ldC tbOk (T := 4) (hs.ccel 0 rfl) (LeH.refl _) 5 (.bool ((gt z3.1 s6.2).2.2.2.2.2.1)) hf (by kernel_rfl) (by kernel_rfl) (by kernel_rfl) (by kernel_rfl) ?_
                    clear hf; clear a; intro a hf
                    replace hs : Sep w F R w11 F14 [.row 46 ty45 (.slice ao8 z6.length cp8) z6, .ro ty45 (.slice ao7 z5.length cp7) z5, .ro ty57 (.slice ao4 z3.1.length cp4) z3.1, .ro (tI .u8) (.slice ao5 z3.2.length cp5) z3.2, .ro ty60 (.slice ao2 files.length cp2) files] := hs.sel [1, 2, 3, 4, 5] rfl rfl
                    replace hf := Fr.keep (ks := [1, 8, 9, 12, 13, 14, 15, 84]) (L' := [(1, .slice ao2 files.length cp2), (8, .slice ao4 z3.1.length cp4), (9, .slice ao5 z3.2.length cp5), (12, .slice ao7 z5.length cp7), (13, .slice ao8 z6.length cp8), (14, .int .i64 s6.1), (15, .int .i64 s6.2), (84, .bool ((gt z3.1 s6.2).2.2.2.2.2.1))]) hf (by kernel_rfl)
                    refine wpList_nil ?_
                    refine ctj (fun (s8 : Int) (a : Act) (w' : World) => ∃ (F16 : SH), Sep w F R w' F16 [.row 46 ty45 (.slice ao8 z6.length cp8) z6, .ro ty45 (.slice ao7 z5.length cp7) z5, .ro ty57 (.slice ao4 z3.1.length cp4) z3.1, .ro (tI .u8) (.slice ao5 z3.2.length cp5) z3.2, .ro ty60 (.slice ao2 files.length cp2) files] ∧ Fr 117 [(1, .slice ao2 files.length cp2), (8, .slice ao4 z3.1.length cp4), (9, .slice ao5 z3.2.length cp5), (12, .slice ao7 z5.length cp7), (13, .slice ao8 z6.length cp8), (14, .int .i64 s8), (15, .int .i64 s6.2)] a) hS ?_ ?_
                    · clear hS hf hs; clear a; intro s8 a w17 hM hS
                      obtain ⟨F16, hs, hf⟩ := hM
                      exact hK6 s8 _ _ ⟨_, hs.sel [0, 1, 2, 3, 4] rfl rfl, hf.keep (ks := [1, 8, 9, 12, 13, 14, 15]) (by kernel_rfl)⟩ hS
                    · clear hS; intro KK7 k6 hK7 hS
                      refine cnd (b := (gt z3.1 s6.2).2.2.2.2.2.1) hf (by kernel_rfl) (fun hb9 => ?_) (fun hb9 => ?_)
                      · replace hS := of_t hb9 hS
                        refine sq ?_
                        refine reg ?_
                        have hT := of_let hS; clear hS; obtain ⟨n_1, hl2, hS⟩ := hT
                        refine st tbOk 3 [1, 8, 9, 12, 13, 14, 15] (L' := [(1, .slice ao2 files.length cp2), (8, .slice ao4 z3.1.length cp4), (9, .slice ao5 z3.2.length cp5), (12, .slice ao7 z5.length cp7), (13, .slice ao8 z6.length cp8), (14, .int .i64 n_1), (15, .int .i64 s6.2)]) hf (by subst hl2; kernel_rfl) ?_
                        clear hf; clear a; intro a hf
                        refine wpList_nil ?_
                        refine sq ?_
                        have hT := of_gd hS; clear hS; obtain ⟨hc5, hS⟩ := hT
                        have hT := of_gd hS; clear hS; obtain ⟨hc6, hS⟩ := hT
                        have hT := of_bd hS; clear hS; obtain ⟨z7, hz7, hS⟩ := hT
                        have hs0 := hs
                        refine regF 17 [fun u uw => u = .slice ao7 z5.length cp7,
    fun u uw => u = .int .i64 s6.2,
    fun u uw => ∃ (pb6 : Nat) (po6 : Nat) (F' : SH), u = .pointer (some ⟨pb6, po6, none⟩) ∧ Sep w11 F14 noR uw F' [.cel pb6 po6 [.int .u64 ((gt z5 s6.2).1), .int .i64 ((gt z5 s6.2).2.1), .bool ((gt z5 s6.2).2.2.1), strV ((gt z5 s6.2).2.2.2.1), .int .u64 ((gt z5 s6.2).2.2.2.2.1), strV ((gt z5 s6.2).2.2.2.2.2)]],
    fun u uw => ∃ (pb7 : Nat) (po7 : Nat) (F' : SH), u = .pointer (some ⟨pb7, po7 + 3, none⟩) ∧ Sep w11 F14 noR uw F' [.cel pb7 po7 [.int .u64 ((gt z5 s6.2).1), .int .i64 ((gt z5 s6.2).2.1), .bool ((gt z5 s6.2).2.2.1), strV ((gt z5 s6.2).2.2.2.1), .int .u64 ((gt z5 s6.2).2.2.2.2.1), strV ((gt z5 s6.2).2.2.2.2.2)]],
    fun u uw => u = strV ((gt z5 s6.2).2.2.2.1),
    fun u uw => u = .slice ao7 z5.length cp7,
    fun u uw => u = .int .i64 s6.2,
    fun u uw => ∃ (pb9 : Nat) (po9 : Nat) (F' : SH), u = .pointer (some ⟨pb9, po9, none⟩) ∧ Sep w11 F14 noR uw F' [.cel pb9 po9 [.int .u64 ((gt z5 s6.2).1), .int .i64 ((gt z5 s6.2).2.1), .bool ((gt z5 s6.2).2.2.1), strV ((gt z5 s6.2).2.2.2.1), .int .u64 ((gt z5 s6.2).2.2.2.2.1), strV ((gt z5 s6.2).2.2.2.2.2)]],
    fun u uw => ∃ (pb10 : Nat) (po10 : Nat) (F' : SH), u = .pointer (some ⟨pb10, po10 + 4, none⟩) ∧ Sep w11 F14 noR uw F' [.cel pb10 po10 [.int .u64 ((gt z5 s6.2).1), .int .i64 ((gt z5 s6.2).2.1), .bool ((gt z5 s6.2).2.2.1), strV ((gt z5 s6.2).2.2.2.1), .int .u64 ((gt z5 s6.2).2.2.2.2.1), strV ((gt z5 s6.2).2.2.2.2.2)]],
    fun u uw => u = .int .u64 ((gt z5 s6.2).2.2.2.2.1),
    fun u uw => u = .slice ao2 files.length cp2,
    fun u uw => ∃ (ao10 : Option Addr) (cp10 : Nat) (F' : SH), u = .tuple #[.slice ao10 z7.1.length cp10, .bool z7.2] ∧ Sep w11 F14 noR uw F' [.row 5 (tI .u8) (.slice ao10 z7.1.length cp10) z7.1],
    fun u uw => ∃ (ao11 : Option Addr) (cp11 : Nat) (F' : SH), u = .tuple #[.slice ao11 z7.1.length cp11, .bool z7.2] ∧ Sep w11 F14 noR uw F' [.ro (tI .u8) (.slice ao11 z7.1.length cp11) z7.1],
    fun u uw => ∃ (ao12 : Option Addr) (cp12 : Nat) (F' : SH), u = .slice ao12 z7.1.length cp12 ∧ Sep w11 F14 noR uw F' [.ro (tI .u8) (.slice ao12 z7.1.length cp12) z7.1],
    fun u uw => u = .bool z7.2,
    fun u uw => ∃ (ao13 : Option Addr) (cp13 : Nat) (F' : SH), u = .slice ao13 z7.1.length cp13 ∧ Sep w11 F14 noR uw F' [.ro (tI .u8) (.slice ao13 z7.1.length cp13) z7.1],
    fun u uw => u = .bool z7.2] mixed (Fr.keep (ks := [1, 8, 9, 12, 13, 14, 15]) (L' := [(1, .slice ao2 files.length cp2), (8, .slice ao4 z3.1.length cp4), (9, .slice ao5 z3.2.length cp5), (12, .slice ao7 z5.length cp7), (13, .slice ao8 z6.length cp8), (14, .int .i64 n_1), (15, .int .i64 s6.2)]) hf (by kernel_rfl)) (by kernel_rfl) rfl ?_ ?_ ?_
                        · exact ⟨fun _ _ _ h _ => h, fun _ _ _ h _ => h, fun _ _ _ ⟨pb6, po6, F', e, h⟩ hx => ⟨pb6, po6, F', e, h.ext hx⟩, fun _ _ _ ⟨pb7, po7, F', e, h⟩ hx => ⟨pb7, po7, F', e, h.ext hx⟩, fun _ _ _ h _ => h, fun _ _ _ h _ => h, fun _ _ _ h _ => h, fun _ _ _ ⟨pb9, po9, F', e, h⟩ hx => ⟨pb9, po9, F', e, h.ext hx⟩, fun _ _ _ ⟨pb10, po10, F', e, h⟩ hx => ⟨pb10, po10, F', e, h.ext hx⟩, fun _ _ _ h _ => h, fun _ _ _ h _ => h, fun _ _ _ ⟨ao10, cp10, F', e, h⟩ hx => ⟨ao10, cp10, F', e, h.ext hx⟩, fun _ _ _ ⟨ao11, cp11, F', e, h⟩ hx => ⟨ao11, cp11, F', e, h.ext hx⟩, fun _ _ _ ⟨ao12, cp12, F', e, h⟩ hx => ⟨ao12, cp12, F', e, h.ext hx⟩, fun _ _ _ h _ => h, fun _ _ _ ⟨ao13, cp13, F', e, h⟩ hx => ⟨ao13, cp13, F', e, h.ext hx⟩, fun _ _ _ h _ => h, trivial⟩
                        · clear hS hf hs; clear a
                          refine ⟨?_, ?_, ?_, ?_, ?_, ?_, ?_, ?_, ?_, ?_, ?_, ?_, ?_, ?_, ?_, ?_, ?_, trivial⟩
                          · intro a wf hX hf hd
                            clear hd
                            have hs : Sep wf (star F14 w11 wf) noR wf (star F14 w11 wf) [.ro ty45 (.slice ao7 z5.length cp7) z5, .ro ty57 (.slice ao4 z3.1.length cp4) z3.1, .ro (tI .u8) (.slice ao5 z3.2.length cp5) z3.2, .ro ty60 (.slice ao2 files.length cp2) files] := hs0.fstart hX [1, 2, 3, 4] rfl rfl
                            refine st tbOk 1 [88] (L' := [(88, .slice ao7 z5.length cp7)]) hf (by kernel_rfl) ?_
                            clear hf; clear a; intro a hf
                            exact fq_ok (d := 88) rfl hf (hs.ex fun _ h => h) hf.1
                          · intro a wf hX hf hd
                            clear hd
                            have hs : Sep wf (star F14 w11 wf) noR wf (star F14 w11 wf) [.ro ty45 (.slice ao7 z5.length cp7) z5, .ro ty57 (.slice ao4 z3.1.length cp4) z3.1, .ro (tI .u8) (.slice ao5 z3.2.length cp5) z3.2, .ro ty60 (.slice ao2 files.length cp2) files] := hs0.fstart hX [1, 2, 3, 4] rfl rfl
                            refine st tbOk 1 [89] (L' := [(89, .int .i64 s6.2)]) hf (by kernel_rfl) ?_
                            clear hf; clear a; intro a hf
                            exact fq_ok (d := 89) rfl hf (hs.ex fun _ h => h) hf.1
                          · intro a wf hX hf hd
                            have e_88 : a.tmps.getD 88 undef = .slice ao7 z5.length cp7 := hd 0 88 (by kernel_rfl) (by kernel_rfl)
                            have e_89 : a.tmps.getD 89 undef = .int .i64 s6.2 := hd 1 89 (by kernel_rfl) (by kernel_rfl)
                            replace hf : Fr 117 [(88, .slice ao7 z5.length cp7), (89, .int .i64 s6.2), (1, .slice ao2 files.length cp2), (8, .slice ao4 z3.1.length cp4), (9, .slice ao5 z3.2.length cp5), (12, .slice ao7 z5.length cp7), (13, .slice ao8 z6.length cp8), (14, .int .i64 n_1), (15, .int .i64 s6.2)] a := ⟨e_88, e_89, hf⟩; clear e_88 e_89
                            clear hd
                            have hs : Sep wf (star F14 w11 wf) noR wf (star F14 w11 wf) [.ro ty45 (.slice ao7 z5.length cp7) z5, .ro ty57 (.slice ao4 z3.1.length cp4) z3.1, .ro (tI .u8) (.slice ao5 z3.2.length cp5) z3.2, .ro ty60 (.slice ao2 files.length cp2) files] := hs0.fstart hX [1, 2, 3, 4] rfl rfl
                            refine ixR tbOk u42 i46 rfl rfl ((hs.ro 0 rfl).ra (LeH.refl _)) (k := .i64) (n := s6.2) hc5 hf (by kernel_rfl) (by kernel_rfl) (by kernel_rfl) (by kernel_rfl) ?_
                            clear hf; clear a; intro pb5 po5 c5 a hp5 hr6 hf
                            obtain rfl : c5 = [.int .u64 ((gt z5 s6.2).1), .int .i64 ((gt z5 s6.2).2.1), .bool ((gt z5 s6.2).2.2.1), strV ((gt z5 s6.2).2.2.2.1), .int .u64 ((gt z5 s6.2).2.2.2.2.1), strV ((gt z5 s6.2).2.2.2.2.2)] := hr6
                            replace hs : Sep wf (star F14 w11 wf) noR wf (star F14 w11 wf) [.cel pb5 po5 [.int .u64 ((gt z5 s6.2).1), .int .i64 ((gt z5 s6.2).2.1), .bool ((gt z5 s6.2).2.2.1), strV ((gt z5 s6.2).2.2.2.1), .int .u64 ((gt z5 s6.2).2.2.2.2.1), strV ((gt z5 s6.2).2.2.2.2.2)], .ro ty45 (.slice ao7 z5.length cp7) z5, .ro ty57 (.slice ao4 z3.1.length cp4) z3.1, .ro (tI .u8) (.slice ao5 z3.2.length cp5) z3.2, .ro ty60 (.slice ao2 files.length cp2) files] := hs.addCel hp5
                            exact fq_ok (d := 90) rfl hf (hs.ex fun _ h => h) ⟨pb5, po5, _, hf.1, (hs.sel [0] rfl rfl).rebase hX⟩
                          · intro a wf hX hf hd
                            obtain ⟨pb6, po6, F_90, e_90, h_90⟩ : ∃ (pb6 : Nat) (po6 : Nat) (F' : SH), a.tmps.getD 90 undef = .pointer (some ⟨pb6, po6, none⟩) ∧ Sep w11 F14 noR wf F' [.cel pb6 po6 [.int .u64 ((gt z5 s6.2).1), .int .i64 ((gt z5 s6.2).2.1), .bool ((gt z5 s6.2).2.2.1), strV ((gt z5 s6.2).2.2.2.1), .int .u64 ((gt z5 s6.2).2.2.2.2.1), strV ((gt z5 s6.2).2.2.2.2.2)]] := hd 2 90 (by kernel_rfl) (by kernel_rfl)
                            replace hf : Fr 117 [(90, .pointer (some ⟨pb6, po6, none⟩)), (1, .slice ao2 files.length cp2), (8, .slice ao4 z3.1.length cp4), (9, .slice ao5 z3.2.length cp5), (12, .slice ao7 z5.length cp7), (13, .slice ao8 z6.length cp8), (14, .int .i64 n_1), (15, .int .i64 s6.2)] a := ⟨e_90, hf⟩; clear e_90
                            clear hd
                            have hs : Sep wf (star F14 w11 wf) noR wf (star F14 w11 wf) [.ro ty45 (.slice ao7 z5.length cp7) z5, .ro ty57 (.slice ao4 z3.1.length cp4) z3.1, .ro (tI .u8) (.slice ao5 z3.2.length cp5) z3.2, .ro ty60 (.slice ao2 files.length cp2) files] := hs0.fstart hX [1, 2, 3, 4] rfl rfl
                            replace hs : Sep wf (star F14 w11 wf) noR wf (star F14 w11 wf) [.cel pb6 po6 [.int .u64 ((gt z5 s6.2).1), .int .i64 ((gt z5 s6.2).2.1), .bool ((gt z5 s6.2).2.2.1), strV ((gt z5 s6.2).2.2.2.1), .int .u64 ((gt z5 s6.2).2.2.2.2.1), strV ((gt z5 s6.2).2.2.2.2.2)], .ro ty45 (.slice ao7 z5.length cp7) z5, .ro ty57 (.slice ao4 z3.1.length cp4) z3.1, .ro (tI .u8) (.slice ao5 z3.2.length cp5) z3.2, .ro ty60 (.slice ao2 files.length cp2) files] := hs.addStar h_90 0 rfl rfl
                            clear h_90
                            refine st tbOk 1 [91] (L' := [(91, .pointer (some ⟨pb6, po6 + 3, none⟩))]) hf (by kernel_rfl) ?_
                            clear hf; clear a; intro a hf
                            exact fq_ok (d := 91) rfl hf (hs.ex fun _ h => h) ⟨pb6, po6, _, hf.1, (hs.sel [0] rfl rfl).rebase hX⟩
                          · intro a wf hX hf hd
                            obtain ⟨pb7, po7, F_91, e_91, h_91⟩ : ∃ (pb7 : Nat) (po7 : Nat) (F' : SH), a.tmps.getD 91 undef = .pointer (some ⟨pb7, po7 + 3, none⟩) ∧ Sep w11 F14 noR wf F' [.cel pb7 po7 [.int .u64 ((gt z5 s6.2).1), .int .i64 ((gt z5 s6.2).2.1), .bool ((gt z5 s6.2).2.2.1), strV ((gt z5 s6.2).2.2.2.1), .int .u64 ((gt z5 s6.2).2.2.2.2.1), strV ((gt z5 s6.2).2.2.2.2.2)]] := hd 3 91 (by kernel_rfl) (by kernel_rfl)
                            replace hf : Fr 117 [(91, .pointer (some ⟨pb7, po7 + 3, none⟩)), (1, .slice ao2 files.length cp2), (8, .slice ao4 z3.1.length cp4), (9, .slice ao5 z3.2.length cp5), (12, .slice ao7 z5.length cp7), (13, .slice ao8 z6.length cp8), (14, .int .i64 n_1), (15, .int .i64 s6.2)] a := ⟨e_91, hf⟩; clear e_91
                            clear hd
                            have hs : Sep wf (star F14 w11 wf) noR wf (star F14 w11 wf) [.ro ty45 (.slice ao7 z5.length cp7) z5, .ro ty57 (.slice ao4 z3.1.length cp4) z3.1, .ro (tI .u8) (.slice ao5 z3.2.length cp5) z3.2, .ro ty60 (.slice ao2 files.length cp2) files] := hs0.fstart hX [1, 2, 3, 4] rfl rfl
                            replace hs : Sep wf (star F14 w11 wf) noR wf (star F14 w11 wf) [.cel pb7 po7 [.int .u64 ((gt z5 s6.2).1), .int .i64 ((gt z5 s6.2).2.1), .bool ((gt z5 s6.2).2.2.1), strV ((gt z5 s6.2).2.2.2.1), .int .u64 ((gt z5 s6.2).2.2.2.2.1), strV ((gt z5 s6.2).2.2.2.2.2)], .ro ty45 (.slice ao7 z5.length cp7) z5, .ro ty57 (.slice ao4 z3.1.length cp4) z3.1, .ro (tI .u8) (.slice ao5 z3.2.length cp5) z3.2, .ro ty60 (.slice ao2 files.length cp2) files] := hs.addStar h_91 0 rfl rfl
                            clear h_91
                            refine ldC tbOk (T := 9) (hs.ccel 0 rfl) (LeH.refl _) 3 (strV ((gt z5 s6.2).2.2.2.1)) hf (by kernel_rfl) (by kernel_rfl) (by kernel_rfl) (by kernel_rfl) ?_
                            clear hf; clear a; intro a hf
                            exact fq_ok (d := 92) rfl hf (hs.ex fun _ h => h) hf.1
                          · intro a wf hX hf hd
                            clear hd
                            have hs : Sep wf (star F14 w11 wf) noR wf (star F14 w11 wf) [.ro ty45 (.slice ao7 z5.length cp7) z5, .ro ty57 (.slice ao4 z3.1.length cp4) z3.1, .ro (tI .u8) (.slice ao5 z3.2.length cp5) z3.2, .ro ty60 (.slice ao2 files.length cp2) files] := hs0.fstart hX [1, 2, 3, 4] rfl rfl
                            refine st tbOk 1 [93] (L' := [(93, .slice ao7 z5.length cp7)]) hf (by kernel_rfl) ?_
                            clear hf; clear a; intro a hf
                            exact fq_ok (d := 93) rfl hf (hs.ex fun _ h => h) hf.1
                          · intro a wf hX hf hd
                            clear hd
                            have hs : Sep wf (star F14 w11 wf) noR wf (star F14 w11 wf) [.ro ty45 (.slice ao7 z5.length cp7) z5, .ro ty57 (.slice ao4 z3.1.length cp4) z3.1, .ro (tI .u8) (.slice ao5 z3.2.length cp5) z3.2, .ro ty60 (.slice ao2 files.length cp2) files] := hs0.fstart hX [1, 2, 3, 4] rfl rfl
                            refine st tbOk 1 [94] (L' := [(94, .int .i64 s6.2)]) hf (by kernel_rfl) ?_
                            clear hf; clear a; intro a hf
                            exact fq_ok (d := 94) rfl hf (hs.ex fun _ h => h) hf.1
                          · intro a wf hX hf hd
                            have e_93 : a.tmps.getD 93 undef = .slice ao7 z5.length cp7 := hd 5 93 (by kernel_rfl) (by kernel_rfl)
                            have e_94 : a.tmps.getD 94 undef = .int .i64 s6.2 := hd 6 94 (by kernel_rfl) (by kernel_rfl)
                            replace hf : Fr 117 [(93, .slice ao7 z5.length cp7), (94, .int .i64 s6.2), (1, .slice ao2 files.length cp2), (8, .slice ao4 z3.1.length cp4), (9, .slice ao5 z3.2.length cp5), (12, .slice ao7 z5.length cp7), (13, .slice ao8 z6.length cp8), (14, .int .i64 n_1), (15, .int .i64 s6.2)] a := ⟨e_93, e_94, hf⟩; clear e_93 e_94
                            clear hd
                            have hs : Sep wf (star F14 w11 wf) noR wf (star F14 w11 wf) [.ro ty45 (.slice ao7 z5.length cp7) z5, .ro ty57 (.slice ao4 z3.1.length cp4) z3.1, .ro (tI .u8) (.slice ao5 z3.2.length cp5) z3.2, .ro ty60 (.slice ao2 files.length cp2) files] := hs0.fstart hX [1, 2, 3, 4] rfl rfl
                            refine ixR tbOk u42 i46 rfl rfl ((hs.ro 0 rfl).ra (LeH.refl _)) (k := .i64) (n := s6.2) hc6 hf (by kernel_rfl) (by kernel_rfl) (by kernel_rfl) (by kernel_rfl) ?_
                            clear hf; clear a; intro pb8 po8 c6 a hp6 hr7 hf
                            obtain rfl : c6 = [.int .u64 ((gt z5 s6.2).1), .int .i64 ((gt z5 s6.2).2.1), .bool ((gt z5 s6.2).2.2.1), strV ((gt z5 s6.2).2.2.2.1), .int .u64 ((gt z5 s6.2).2.2.2.2.1), strV ((gt z5 s6.2).2.2.2.2.2)] := hr7
                            replace hs : Sep wf (star F14 w11 wf) noR wf (star F14 w11 wf) [.cel pb8 po8 [.int .u64 ((gt z5 s6.2).1), .int .i64 ((gt z5 s6.2).2.1), .bool ((gt z5 s6.2).2.2.1), strV ((gt z5 s6.2).2.2.2.1), .int .u64 ((gt z5 s6.2).2.2.2.2.1), strV ((gt z5 s6.2).2.2.2.2.2)], .ro ty45 (.slice ao7 z5.length cp7) z5, .ro ty57 (.slice ao4 z3.1.length cp4) z3.1, .ro (tI .u8) (.slice ao5 z3.2.length cp5) z3.2, .ro ty60 (.slice ao2 files.length cp2) files] := hs.addCel hp6
                            exact fq_ok (d := 95) rfl hf (hs.ex fun _ h => h) ⟨pb8, po8, _, hf.1, (hs.sel [0] rfl rfl).rebase hX⟩
                          · intro a wf hX hf hd
                            obtain ⟨pb9, po9, F_95, e_95, h_95⟩ : ∃ (pb9 : Nat) (po9 : Nat) (F' : SH), a.tmps.getD 95 undef = .pointer (some ⟨pb9, po9, none⟩) ∧ Sep w11 F14 noR wf F' [.cel pb9 po9 [.int .u64 ((gt z5 s6.2).1), .int .i64 ((gt z5 s6.2).2.1), .bool ((gt z5 s6.2).2.2.1), strV ((gt z5 s6.2).2.2.2.1), .int .u64 ((gt z5 s6.2).2.2.2.2.1), strV ((gt z5 s6.2).2.2.2.2.2)]] := hd 7 95 (by kernel_rfl) (by kernel_rfl)
                            replace hf : Fr 117 [(95, .pointer (some ⟨pb9, po9, none⟩)), (1, .slice ao2 files.length cp2), (8, .slice ao4 z3.1.length cp4), (9, .slice ao5 z3.2.length cp5), (12, .slice ao7 z5.length cp7), (13, .slice ao8 z6.length cp8), (14, .int .i64 n_1), (15, .int .i64 s6.2)] a := ⟨e_95, hf⟩; clear e_95
                            clear hd
                            have hs : Sep wf (star F14 w11 wf) noR wf (star F14 w11 wf) [.ro ty45 (.slice ao7 z5.length cp7) z5, .ro ty57 (.slice ao4 z3.1.length cp4) z3.1, .ro (tI .u8) (.slice ao5 z3.2.length cp5) z3.2, .ro ty60 (.slice ao2 files.length cp2) files] := hs0.fstart hX [1, 2, 3, 4] rfl rfl
                            replace hs : Sep wf (star F14 w11 wf) noR wf (star F14 w11 wf) [.cel pb9 po9 [.int .u64 ((gt z5 s6.2).1), .int .i64 ((gt z5 s6.2).2.1), .bool ((gt z5 s6.2).2.2.1), strV ((gt z5 s6.2).2.2.2.1), .int .u64 ((gt z5 s6.2).2.2.2.2.1), strV ((gt z5 s6.2).2.2.2.2.2)], .ro ty45 (.slice ao7 z5.length cp7) z5, .ro ty57 (.slice ao4 z3.1.length cp4) z3.1, .ro (tI .u8) (.slice ao5 z3.2.length cp5) z3.2, .ro ty60 (.slice ao2 files.length cp2) files] := hs.addStar h_95 0 rfl rfl
                            clear h_95
                            refine st tbOk 1 [96] (L' := [(96, .pointer (some ⟨pb9, po9 + 4, none⟩))]) hf (by kernel_rfl) ?_
                            clear hf; clear a; intro a hf
                            exact fq_ok (d := 96) rfl hf (hs.ex fun _ h => h) ⟨pb9, po9, _, hf.1, (hs.sel [0] rfl rfl).rebase hX⟩
                          · intro a wf hX hf hd
                            obtain ⟨pb10, po10, F_96, e_96, h_96⟩ : ∃ (pb10 : Nat) (po10 : Nat) (F' : SH), a.tmps.getD 96 undef = .pointer (some ⟨pb10, po10 + 4, none⟩) ∧ Sep w11 F14 noR wf F' [.cel pb10 po10 [.int .u64 ((gt z5 s6.2).1), .int .i64 ((gt z5 s6.2).2.1), .bool ((gt z5 s6.2).2.2.1), strV ((gt z5 s6.2).2.2.2.1), .int .u64 ((gt z5 s6.2).2.2.2.2.1), strV ((gt z5 s6.2).2.2.2.2.2)]] := hd 8 96 (by kernel_rfl) (by kernel_rfl)
                            replace hf : Fr 117 [(96, .pointer (some ⟨pb10, po10 + 4, none⟩)), (1, .slice ao2 files.length cp2), (8, .slice ao4 z3.1.length cp4), (9, .slice ao5 z3.2.length cp5), (12, .slice ao7 z5.length cp7), (13, .slice ao8 z6.length cp8), (14, .int .i64 n_1), (15, .int .i64 s6.2)] a := ⟨e_96, hf⟩; clear e_96
                            clear hd
                            have hs : Sep wf (star F14 w11 wf) noR wf (star F14 w11 wf) [.ro ty45 (.slice ao7 z5.length cp7) z5, .ro ty57 (.slice ao4 z3.1.length cp4) z3.1, .ro (tI .u8) (.slice ao5 z3.2.length cp5) z3.2, .ro ty60 (.slice ao2 files.length cp2) files] := hs0.fstart hX [1, 2, 3, 4] rfl rfl
                            replace hs : Sep wf (star F14 w11 wf) noR wf (star F14 w11 wf) [.cel pb10 po10 [.int .u64 ((gt z5 s6.2).1), .int .i64 ((gt z5 s6.2).2.1), .bool ((gt z5 s6.2).2.2.1), strV ((gt z5 s6.2).2.2.2.1), .int .u64 ((gt z5 s6.2).2.2.2.2.1), strV ((gt z5 s6.2).2.2.2.2.2)], .ro ty45 (.slice ao7 z5.length cp7) z5, .ro ty57 (.slice ao4 z3.1.length cp4) z3.1, .ro (tI .u8) (.slice ao5 z3.2.length cp5) z3.2, .ro ty60 (.slice ao2 files.length cp2) files] := hs.addStar h_96 0 rfl rfl
                            clear h_96
                            refine ldC tbOk (T := 23) (hs.ccel 0 rfl) (LeH.refl _) 4 (.int .u64 ((gt z5 s6.2).2.2.2.2.1)) hf (by kernel_rfl) (by kernel_rfl) (by kernel_rfl) (by kernel_rfl) ?_
                            clear hf; clear a; intro a hf
                            exact fq_ok (d := 97) rfl hf (hs.ex fun _ h => h) hf.1
                          · intro a wf hX hf hd
                            clear hd
                            have hs : Sep wf (star F14 w11 wf) noR wf (star F14 w11 wf) [.ro ty45 (.slice ao7 z5.length cp7) z5, .ro ty57 (.slice ao4 z3.1.length cp4) z3.1, .ro (tI .u8) (.slice ao5 z3.2.length cp5) z3.2, .ro ty60 (.slice ao2 files.length cp2) files] := hs0.fstart hX [1, 2, 3, 4] rfl rfl
                            refine st tbOk 1 [98] (L' := [(98, .slice ao2 files.length cp2)]) hf (by kernel_rfl) ?_
                            clear hf; clear a; intro a hf
                            exact fq_ok (d := 98) rfl hf (hs.ex fun _ h => h) hf.1
                          · intro a wf hX hf hd
                            have e_92 : a.tmps.getD 92 undef = strV ((gt z5 s6.2).2.2.2.1) := hd 4 92 (by kernel_rfl) (by kernel_rfl)
                            have e_97 : a.tmps.getD 97 undef = .int .u64 ((gt z5 s6.2).2.2.2.2.1) := hd 9 97 (by kernel_rfl) (by kernel_rfl)
                            have e_98 : a.tmps.getD 98 undef = .slice ao2 files.length cp2 := hd 10 98 (by kernel_rfl) (by kernel_rfl)
                            replace hf : Fr 117 [(92, strV ((gt z5 s6.2).2.2.2.1)), (97, .int .u64 ((gt z5 s6.2).2.2.2.2.1)), (98, .slice ao2 files.length cp2), (1, .slice ao2 files.length cp2), (8, .slice ao4 z3.1.length cp4), (9, .slice ao5 z3.2.length cp5), (12, .slice ao7 z5.length cp7), (13, .slice ao8 z6.length cp8), (14, .int .i64 n_1), (15, .int .i64 s6.2)] a := ⟨e_92, e_97, e_98, hf⟩; clear e_92 e_97 e_98
                            clear hd
                            have hs : Sep wf (star F14 w11 wf) noR wf (star F14 w11 wf) [.ro ty45 (.slice ao7 z5.length cp7) z5, .ro ty57 (.slice ao4 z3.1.length cp4) z3.1, .ro (tI .u8) (.slice ao5 z3.2.length cp5) z3.2, .ro ty60 (.slice ao2 files.length cp2) files] := hs0.fstart hX [1, 2, 3, 4] rfl rfl
                            refine clV ent15 (vs := [strV ((gt z5 s6.2).2.2.2.1), .int .u64 ((gt z5 s6.2).2.2.2.2.1), .slice ao2 files.length cp2]) (caps := []) hf (by kernel_rfl) (by kernel_rfl) (by kernel_rfl) (by kernel_rfl) (dedup_Origin_ok (file := (gt z5 s6.2).2.2.2.1) (off := (gt z5 s6.2).2.2.2.2.1) (files := files) (hs.enter [3] rfl rfl) hz7) ?_
                            clear hf; clear a; intro v w12 a hT hf; obtain ⟨ao9, cp9, F17, rfl, hr⟩ := hT
                            replace hs : Sep wf (star F14 w11 wf) noR w12 F17 [.row 5 (tI .u8) (.slice ao9 z7.1.length cp9) z7.1, .ro ty45 (.slice ao7 z5.length cp7) z5, .ro ty57 (.slice ao4 z3.1.length cp4) z3.1, .ro (tI .u8) (.slice ao5 z3.2.length cp5) z3.2, .ro ty60 (.slice ao2 files.length cp2) files] := hs.back [3] [0, 1, 2, 3] rfl rfl rfl rfl hr
                            clear hr
                            exact fq_ok (d := 99) rfl hf (hs.ex fun _ h => h) ⟨ao9, cp9, _, hf.1, (hs.sel [0] rfl rfl).rebase hX⟩
                          · intro a wf hX hf hd
                            obtain ⟨ao10, cp10, F_99, e_99, h_99⟩ : ∃ (ao10 : Option Addr) (cp10 : Nat) (F' : SH), a.tmps.getD 99 undef = .tuple #[.slice ao10 z7.1.length cp10, .bool z7.2] ∧ Sep w11 F14 noR wf F' [.row 5 (tI .u8) (.slice ao10 z7.1.length cp10) z7.1] := hd 11 99 (by kernel_rfl) (by kernel_rfl)
                            replace hf : Fr 117 [(99, .tuple #[.slice ao10 z7.1.length cp10, .bool z7.2]), (1, .slice ao2 files.length cp2), (8, .slice ao4 z3.1.length cp4), (9, .slice ao5 z3.2.length cp5), (12, .slice ao7 z5.length cp7), (13, .slice ao8 z6.length cp8), (14, .int .i64 n_1), (15, .int .i64 s6.2)] a := ⟨e_99, hf⟩; clear e_99
                            clear hd
                            have hs : Sep wf (star F14 w11 wf) noR wf (star F14 w11 wf) [.ro ty45 (.slice ao7 z5.length cp7) z5, .ro ty57 (.slice ao4 z3.1.length cp4) z3.1, .ro (tI .u8) (.slice ao5 z3.2.length cp5) z3.2, .ro ty60 (.slice ao2 files.length cp2) files] := hs0.fstart hX [1, 2, 3, 4] rfl rfl
                            replace hs : Sep wf (star F14 w11 wf) noR wf (star F14 w11 wf) [.ro (tI .u8) (.slice ao10 z7.1.length cp10) z7.1, .ro ty45 (.slice ao7 z5.length cp7) z5, .ro ty57 (.slice ao4 z3.1.length cp4) z3.1, .ro (tI .u8) (.slice ao5 z3.2.length cp5) z3.2, .ro ty60 (.slice ao2 files.length cp2) files] := hs.addStar h_99 0 rfl rfl
                            clear h_99
                            refine st tbOk 1 [87] (L' := [(87, .tuple #[.slice ao10 z7.1.length cp10, .bool z7.2])]) hf (by kernel_rfl) ?_
                            clear hf; clear a; intro a hf
                            exact fq_ok (d := 87) rfl hf (hs.ex fun _ h => h) ⟨ao10, cp10, _, hf.1, (hs.sel [0] rfl rfl).rebase hX⟩
                          · intro a wf hX hf hd
                            obtain ⟨ao11, cp11, F_87, e_87, h_87⟩ : ∃ (ao11 : Option Addr) (cp11 : Nat) (F' : SH), a.tmps.getD 87 undef = .tuple #[.slice ao11 z7.1.length cp11, .bool z7.2] ∧ Sep w11 F14 noR wf F' [.ro (tI .u8) (.slice ao11 z7.1.length cp11) z7.1] := hd 12 87 (by kernel_rfl) (by kernel_rfl)
                            replace hf : Fr 117 [(87, .tuple #[.slice ao11 z7.1.length cp11, .bool z7.2]), (1, .slice ao2 files.length cp2), (8, .slice ao4 z3.1.length cp4), (9, .slice ao5 z3.2.length cp5), (12, .slice ao7 z5.length cp7), (13, .slice ao8 z6.length cp8), (14, .int .i64 n_1), (15, .int .i64 s6.2)] a := ⟨e_87, hf⟩; clear e_87
                            clear hd
                            have hs : Sep wf (star F14 w11 wf) noR wf (star F14 w11 wf) [.ro ty45 (.slice ao7 z5.length cp7) z5, .ro ty57 (.slice ao4 z3.1.length cp4) z3.1, .ro (tI .u8) (.slice ao5 z3.2.length cp5) z3.2, .ro ty60 (.slice ao2 files.length cp2) files] := hs0.fstart hX [1, 2, 3, 4] rfl rfl
                            replace hs : Sep wf (star F14 w11 wf) noR wf (star F14 w11 wf) [.ro (tI .u8) (.slice ao11 z7.1.length cp11) z7.1, .ro ty45 (.slice ao7 z5.length cp7) z5, .ro ty57 (.slice ao4 z3.1.length cp4) z3.1, .ro (tI .u8) (.slice ao5 z3.2.length cp5) z3.2, .ro ty60 (.slice ao2 files.length cp2) files] := hs.addStar h_87 0 rfl rfl
                            clear h_87
                            refine st tbOk 1 [100] (L' := [(100, .slice ao11 z7.1.length cp11)]) hf (by kernel_rfl) ?_
                            clear hf; clear a; intro a hf
                            exact fq_ok (d := 100) rfl hf (hs.ex fun _ h => h) ⟨ao11, cp11, _, hf.1, (hs.sel [0] rfl rfl).rebase hX⟩
                          · intro a wf hX hf hd
                            obtain ⟨ao11, cp11, F_87, e_87, h_87⟩ : ∃ (ao11 : Option Addr) (cp11 : Nat) (F' : SH), a.tmps.getD 87 undef = .tuple #[.slice ao11 z7.1.length cp11, .bool z7.2] ∧ Sep w11 F14 noR wf F' [.ro (tI .u8) (.slice ao11 z7.1.length cp11) z7.1] := hd 12 87 (by kernel_rfl) (by kernel_rfl)
                            replace hf : Fr 117 [(87, .tuple #[.slice ao11 z7.1.length cp11, .bool z7.2]), (1, .slice ao2 files.length cp2), (8, .slice ao4 z3.1.length cp4), (9, .slice ao5 z3.2.length cp5), (12, .slice ao7 z5.length cp7), (13, .slice ao8 z6.length cp8), (14, .int .i64 n_1), (15, .int .i64 s6.2)] a := ⟨e_87, hf⟩; clear e_87
                            clear hd
                            have hs : Sep wf (star F14 w11 wf) noR wf (star F14 w11 wf) [.ro ty45 (.slice ao7 z5.length cp7) z5, .ro ty57 (.slice ao4 z3.1.length cp4) z3.1, .ro (tI .u8) (.slice ao5 z3.2.length cp5) z3.2, .ro ty60 (.slice ao2 files.length cp2) files] := hs0.fstart hX [1, 2, 3, 4] rfl rfl
                            replace hs : Sep wf (star F14 w11 wf) noR wf (star F14 w11 wf) [.ro (tI .u8) (.slice ao11 z7.1.length cp11) z7.1, .ro ty45 (.slice ao7 z5.length cp7) z5, .ro ty57 (.slice ao4 z3.1.length cp4) z3.1, .ro (tI .u8) (.slice ao5 z3.2.length cp5) z3.2, .ro ty60 (.slice ao2 files.length cp2) files] := hs.addStar h_87 0 rfl rfl
                            clear h_87
                            refine st tbOk 1 [101] (L' := [(101, .bool z7.2)]) hf (by kernel_rfl) ?_
                            clear hf; clear a; intro a hf
                            exact fq_ok (d := 101) rfl hf (hs.ex fun _ h => h) hf.1
                          · intro a wf hX hf hd
                            obtain ⟨ao12, cp12, F_100, e_100, h_100⟩ : ∃ (ao12 : Option Addr) (cp12 : Nat) (F' : SH), a.tmps.getD 100 undef = .slice ao12 z7.1.length cp12 ∧ Sep w11 F14 noR wf F' [.ro (tI .u8) (.slice ao12 z7.1.length cp12) z7.1] := hd 13 100 (by kernel_rfl) (by kernel_rfl)
                            replace hf : Fr 117 [(100, .slice ao12 z7.1.length cp12), (1, .slice ao2 files.length cp2), (8, .slice ao4 z3.1.length cp4), (9, .slice ao5 z3.2.length cp5), (12, .slice ao7 z5.length cp7), (13, .slice ao8 z6.length cp8), (14, .int .i64 n_1), (15, .int .i64 s6.2)] a := ⟨e_100, hf⟩; clear e_100
                            clear hd
                            have hs : Sep wf (star F14 w11 wf) noR wf (star F14 w11 wf) [.ro ty45 (.slice ao7 z5.length cp7) z5, .ro ty57 (.slice ao4 z3.1.length cp4) z3.1, .ro (tI .u8) (.slice ao5 z3.2.length cp5) z3.2, .ro ty60 (.slice ao2 files.length cp2) files] := hs0.fstart hX [1, 2, 3, 4] rfl rfl
                            replace hs : Sep wf (star F14 w11 wf) noR wf (star F14 w11 wf) [.ro (tI .u8) (.slice ao12 z7.1.length cp12) z7.1, .ro ty45 (.slice ao7 z5.length cp7) z5, .ro ty57 (.slice ao4 z3.1.length cp4) z3.1, .ro (tI .u8) (.slice ao5 z3.2.length cp5) z3.2, .ro ty60 (.slice ao2 files.length cp2) files] := hs.addStar h_100 0 rfl rfl
                            clear h_100
                            refine st tbOk 1 [16] (L' := [(16, .slice ao12 z7.1.length cp12)]) hf (by kernel_rfl) ?_
                            clear hf; clear a; intro a hf
                            exact fq_ok (d := 16) rfl hf (hs.ex fun _ h => h) ⟨ao12, cp12, _, hf.1, (hs.sel [0] rfl rfl).rebase hX⟩
                          · intro a wf hX hf hd
                            have e_101 : a.tmps.getD 101 undef = .bool z7.2 := hd 14 101 (by kernel_rfl) (by kernel_rfl)
                            replace hf : Fr 117 [(101, .bool z7.2), (1, .slice ao2 files.length cp2), (8, .slice ao4 z3.1.length cp4), (9, .slice ao5 z3.2.length cp5), (12, .slice ao7 z5.length cp7), (13, .slice ao8 z6.length cp8), (14, .int .i64 n_1), (15, .int .i64 s6.2)] a := ⟨e_101, hf⟩; clear e_101
                            clear hd
                            have hs : Sep wf (star F14 w11 wf) noR wf (star F14 w11 wf) [.ro ty45 (.slice ao7 z5.length cp7) z5, .ro ty57 (.slice ao4 z3.1.length cp4) z3.1, .ro (tI .u8) (.slice ao5 z3.2.length cp5) z3.2, .ro ty60 (.slice ao2 files.length cp2) files] := hs0.fstart hX [1, 2, 3, 4] rfl rfl
                            refine st tbOk 1 [17] (L' := [(17, .bool z7.2)]) hf (by kernel_rfl) ?_
                            clear hf; clear a; intro a hf
                            exact fq_ok (d := 17) rfl hf (hs.ex fun _ h => h) hf.1
                        · clear hf hs; clear a; intro a w13 hx hf hd
                          have hs : Sep w F R w13 (star F14 w11 w13) [.row 46 ty45 (.slice ao8 z6.length cp8) z6, .ro ty45 (.slice ao7 z5.length cp7) z5, .ro ty57 (.slice ao4 z3.1.length cp4) z3.1, .ro (tI .u8) (.slice ao5 z3.2.length cp5) z3.2, .ro ty60 (.slice ao2 files.length cp2) files] := hs0.starX hx
                          obtain ⟨ao13, cp13, F_16, e_16, h_16⟩ : ∃ (ao13 : Option Addr) (cp13 : Nat) (F' : SH), a.tmps.getD 16 undef = .slice ao13 z7.1.length cp13 ∧ Sep w11 F14 noR w13 F' [.ro (tI .u8) (.slice ao13 z7.1.length cp13) z7.1] := hd 15 16 (by kernel_rfl) (by kernel_rfl)
                          have e_17 : a.tmps.getD 17 undef = .bool z7.2 := hd 16 17 (by kernel_rfl) (by kernel_rfl)
                          clear hd hx
                          replace hs : Sep w F R w13 (star F14 w11 w13) [.ro (tI .u8) (.slice ao13 z7.1.length cp13) z7.1, .row 46 ty45 (.slice ao8 z6.length cp8) z6, .ro ty45 (.slice ao7 z5.length cp7) z5, .ro ty57 (.slice ao4 z3.1.length cp4) z3.1, .ro (tI .u8) (.slice ao5 z3.2.length cp5) z3.2, .ro ty60 (.slice ao2 files.length cp2) files] := hs.addStar h_16 0 rfl rfl
                          clear h_16
                          clear hs0
                          replace hf : Fr 117 [(16, .slice ao13 z7.1.length cp13), (17, .bool z7.2), (1, .slice ao2 files.length cp2), (8, .slice ao4 z3.1.length cp4), (9, .slice ao5 z3.2.length cp5), (12, .slice ao7 z5.length cp7), (13, .slice ao8 z6.length cp8), (14, .int .i64 n_1), (15, .int .i64 s6.2)] a := ⟨e_16, e_17, hf⟩
                          clear e_16 e_17
                          replace hf := Fr.keep (ks := [1, 8, 9, 12, 13, 14, 15, 16, 17]) (L' := [(1, .slice ao2 files.length cp2), (8, .slice ao4 z3.1.length cp4), (9, .slice ao5 z3.2.length cp5), (12, .slice ao7 z5.length cp7), (13, .slice ao8 z6.length cp8), (14, .int .i64 n_1), (15, .int .i64 s6.2), (16, .slice ao13 z7.1.length cp13), (17, .bool z7.2)]) hf (by kernel_rfl)
                          refine wpList_nil ?_
                          refine sq ?_
                          refine ctj (fun (s9 : Bool) (a : Act) (w' : World) => ∃ (F18 : SH), Sep w F R w' F18 [.row 46 ty45 (.slice ao8 z6.length cp8) z6, .ro ty45 (.slice ao7 z5.length cp7) z5, .ro ty57 (.slice ao4 z3.1.length cp4) z3.1, .ro (tI .u8) (.slice ao5 z3.2.length cp5) z3.2, .ro ty60 (.slice ao2 files.length cp2) files] ∧ Fr 117 [(1, .slice ao2 files.length cp2), (8, .slice ao4 z3.1.length cp4), (9, .slice ao5 z3.2.length cp5), (12, .slice ao7 z5.length cp7), (13, .slice ao8 z6.length cp8), (14, .int .i64 n_1), (15, .int .i64 s6.2), (112, .bool s9)] a) hS ?_ ?_
                          · clear hS hf hs; clear a; intro s9 a w16 hM hS
                            obtain ⟨F18, hs, hf⟩ := hM
                            refine cnd (b := s9) hf (by kernel_rfl) (fun hb11 => ?_) (fun hb11 => ?_)
                            · replace hS := of_t hb11 hS
                              refine sq ?_
                              refine reg ?_
                              refine st tbOk 1 [4] (L' := [(4, .bool false)]) hf (by kernel_rfl) ?_
                              clear hf; clear a; intro a hf
                              refine wpList_nil ?_
                              have hr := Option.some.inj hS; subst hr
                              refine wp_ret ?_
                              exact ret_ok hf (vs := [.bool false]) (by kernel_rfl) ⟨_, rfl, hs.sel [] rfl rfl⟩
                            · replace hS := of_f hb11 hS
                              refine wp_skip ?_
                              exact hK7 n_1 _ _ ⟨_, hs.sel [0, 1, 2, 3, 4] rfl rfl, hf.keep (ks := [1, 8, 9, 12, 13, 14, 15]) (by kernel_rfl)⟩ hS
                          · clear hS; intro KK8 k7 hK8 hS
                            refine regQ mixed (by kernel_rfl) ?_
                            refine stQ tbOk 2 [1, 8, 9, 12, 13, 14, 15, 16, 103] (L' := [(1, .slice ao2 files.length cp2), (8, .slice ao4 z3.1.length cp4), (9, .slice ao5 z3.2.length cp5), (12, .slice ao7 z5.length cp7), (13, .slice ao8 z6.length cp8), (14, .int .i64 n_1), (15, .int .i64 s6.2), (16, .slice ao13 z7.1.length cp13), (103, .bool z7.2)]) hf (by kernel_rfl) ?_
                            clear hf; clear a; intro a hf
                            rcases Bool.eq_false_or_eq_true (z7.2) with hb10 | hb10
                            · replace hS := of_t hb10 hS
                              replace hf := Fr.cast (L' := [(1, .slice ao2 files.length cp2), (8, .slice ao4 z3.1.length cp4), (9, .slice ao5 z3.2.length cp5), (12, .slice ao7 z5.length cp7), (13, .slice ao8 z6.length cp8), (14, .int .i64 n_1), (15, .int .i64 s6.2), (16, .slice ao13 z7.1.length cp13), (103, .bool true)]) hf (by rw [hb10])
                              refine stQ tbOk 1 [1, 8, 9, 12, 13, 14, 15, 103, 104] (L' := [(1, .slice ao2 files.length cp2), (8, .slice ao4 z3.1.length cp4), (9, .slice ao5 z3.2.length cp5), (12, .slice ao7 z5.length cp7), (13, .slice ao8 z6.length cp8), (14, .int .i64 n_1), (15, .int .i64 s6.2), (103, .bool true), (104, .slice ao13 z7.1.length cp13)]) hf (by kernel_rfl) ?_
                              clear hf; clear a; intro a hf
                              refine b2sRQ tbOk u22 u5 u9 (hs.raR 0 rfl) hf (by kernel_rfl) (by kernel_rfl) (by kernel_rfl) ?_
                              clear hf; clear a; intro a hf
                              replace hs : Sep w F R w13 (star F14 w11 w13) [.row 46 ty45 (.slice ao8 z6.length cp8) z6, .ro ty45 (.slice ao7 z5.length cp7) z5, .ro ty57 (.slice ao4 z3.1.length cp4) z3.1, .ro (tI .u8) (.slice ao5 z3.2.length cp5) z3.2, .ro ty60 (.slice ao2 files.length cp2) files] := hs.sel [1, 2, 3, 4, 5] rfl rfl
                              replace hf := Fr.keep (ks := [1, 8, 9, 12, 13, 14, 15, 103, 105]) (L' := [(1, .slice ao2 files.length cp2), (8, .slice ao4 z3.1.length cp4), (9, .slice ao5 z3.2.length cp5), (12, .slice ao7 z5.length cp7), (13, .slice ao8 z6.length cp8), (14, .int .i64 n_1), (15, .int .i64 s6.2), (103, .bool true), (105, strV (toStr z7.1))]) hf (by kernel_rfl)
                              refine stQ tbOk 2 [1, 8, 9, 12, 13, 14, 15, 103, 105, 106, 107] (L' := [(1, .slice ao2 files.length cp2), (8, .slice ao4 z3.1.length cp4), (9, .slice ao5 z3.2.length cp5), (12, .slice ao7 z5.length cp7), (13, .slice ao8 z6.length cp8), (14, .int .i64 n_1), (15, .int .i64 s6.2), (103, .bool true), (105, strV (toStr z7.1)), (106, .slice ao7 z5.length cp7), (107, .int .i64 s6.2)]) hf (by kernel_rfl) ?_
                              clear hf; clear a; intro a hf
                              have hT := of_gd hS; clear hS; obtain ⟨hc7, hS⟩ := hT
                              refine ixRQ tbOk u42 i46 rfl rfl ((hs.ro 1 rfl).ra (LeH.refl _)) (k := .i64) (n := s6.2) hc7 hf (by kernel_rfl) (by kernel_rfl) (by kernel_rfl) (by kernel_rfl) ?_
                              clear hf; clear a; intro pb11 po11 c7 a hp7 hr8 hf
                              obtain rfl : c7 = [.int .u64 ((gt z5 s6.2).1), .int .i64 ((gt z5 s6.2).2.1), .bool ((gt z5 s6.2).2.2.1), strV ((gt z5 s6.2).2.2.2.1), .int .u64 ((gt z5 s6.2).2.2.2.2.1), strV ((gt z5 s6.2).2.2.2.2.2)] := hr8
                              replace hs : Sep w F R w13 (star F14 w11 w13) [.cel pb11 po11 [.int .u64 ((gt z5 s6.2).1), .int .i64 ((gt z5 s6.2).2.1), .bool ((gt z5 s6.2).2.2.1), strV ((gt z5 s6.2).2.2.2.1), .int .u64 ((gt z5 s6.2).2.2.2.2.1), strV ((gt z5 s6.2).2.2.2.2.2)], .row 46 ty45 (.slice ao8 z6.length cp8) z6, .ro ty45 (.slice ao7 z5.length cp7) z5, .ro ty57 (.slice ao4 z3.1.length cp4) z3.1, .ro (tI .u8) (.slice ao5 z3.2.length cp5) z3.2, .ro ty60 (.slice ao2 files.length cp2) files] := hs.addCel hp7
                              replace hf := Fr.keep (ks := [1, 8, 9, 12, 13, 14, 15, 103, 105, 108]) (L' := [(1, .slice ao2 files.length cp2), (8, .slice ao4 z3.1.length cp4), (9, .slice ao5 z3.2.length cp5), (12, .slice ao7 z5.length cp7), (13, .slice ao8 z6.length cp8), (14, .int .i64 n_1), (15, .int .i64 s6.2), (103, .bool true), (105, strV (toStr z7.1)), (108, .pointer (some ⟨pb11, po11, none⟩))]) hf (by kernel_rfl)
                              refine stQ tbOk 1 [1, 8, 9, 12, 13, 14, 15, 103, 105, 109] (L' := [(1, .slice ao2 files.length cp2), (8, .slice ao4 z3.1.length cp4), (9, .slice ao5 z3.2.length cp5), (12, .slice ao7 z5.length cp7), (13, .slice ao8 z6.length cp8), (14, .int .i64 n_1), (15, .int .i64 s6.2), (103, .bool true), (105, strV (toStr z7.1)), (109, .pointer (some ⟨pb11, po11 + 5, none⟩))]) hf (by kernel_rfl) ?_
                              clear hf; clear a; intro a hf
                              refine ldCQ tbOk (T := 9) (hs.ccel 0 rfl) (LeH.refl _) 5 (strV ((gt z5 s6.2).2.2.2.2.2)) hf (by kernel_rfl) (by kernel_rfl) (by kernel_rfl) (by kernel_rfl) ?_
                              clear hf; clear a; intro a hf
                              replace hs : Sep w F R w13 (star F14 w11 w13) [.row 46 ty45 (.slice ao8 z6.length cp8) z6, .ro ty45 (.slice ao7 z5.length cp7) z5, .ro ty57 (.slice ao4 z3.1.length cp4) z3.1, .ro (tI .u8) (.slice ao5 z3.2.length cp5) z3.2, .ro ty60 (.slice ao2 files.length cp2) files] := hs.sel [1, 2, 3, 4, 5] rfl rfl
                              replace hf := Fr.keep (ks := [1, 8, 9, 12, 13, 14, 15, 103, 105, 110]) (L' := [(1, .slice ao2 files.length cp2), (8, .slice ao4 z3.1.length cp4), (9, .slice ao5 z3.2.length cp5), (12, .slice ao7 z5.length cp7), (13, .slice ao8 z6.length cp8), (14, .int .i64 n_1), (15, .int .i64 s6.2), (103, .bool true), (105, strV (toStr z7.1)), (110, strV ((gt z5 s6.2).2.2.2.2.2))]) hf (by kernel_rfl)
                              refine stQ tbOk 2 [1, 8, 9, 12, 13, 14, 15, 112] (L' := [(1, .slice ao2 files.length cp2), (8, .slice ao4 z3.1.length cp4), (9, .slice ao5 z3.2.length cp5), (12, .slice ao7 z5.length cp7), (13, .slice ao8 z6.length cp8), (14, .int .i64 n_1), (15, .int .i64 s6.2), (112, .bool ((toStr z7.1) == ((gt z5 s6.2).2.2.2.2.2)))]) hf (by kernel_rfl) ?_
                              clear hf; clear a; intro a hf
                              refine wpQuiet_nil ?_
                              intro w14 hx
                              replace hs : Sep w F R w14 (star F14 w11 w13) [.row 46 ty45 (.slice ao8 z6.length cp8) z6, .ro ty45 (.slice ao7 z5.length cp7) z5, .ro ty57 (.slice ao4 z3.1.length cp4) z3.1, .ro (tI .u8) (.slice ao5 z3.2.length cp5) z3.2, .ro ty60 (.slice ao2 files.length cp2) files] := hs.ext hx
                              clear hx
                              exact hK8 ((toStr z7.1) == ((gt z5 s6.2).2.2.2.2.2)) _ _ ⟨_, hs.sel [0, 1, 2, 3, 4] rfl rfl, hf.keep (ks := [1, 8, 9, 12, 13, 14, 15, 112]) (by kernel_rfl)⟩ hS
                            · replace hS := of_f hb10 hS
                              replace hf := Fr.cast (L' := [(1, .slice ao2 files.length cp2), (8, .slice ao4 z3.1.length cp4), (9, .slice ao5 z3.2.length cp5), (12, .slice ao7 z5.length cp7), (13, .slice ao8 z6.length cp8), (14, .int .i64 n_1), (15, .int .i64 s6.2), (16, .slice ao13 z7.1.length cp13), (103, .bool false)]) hf (by rw [hb10])
                              refine stQ tbOk 9 [1, 8, 9, 12, 13, 14, 15, 112] (L' := [(1, .slice ao2 files.length cp2), (8, .slice ao4 z3.1.length cp4), (9, .slice ao5 z3.2.length cp5), (12, .slice ao7 z5.length cp7), (13, .slice ao8 z6.length cp8), (14, .int .i64 n_1), (15, .int .i64 s6.2), (112, .bool false)]) hf (by kernel_rfl) ?_
                              clear hf; clear a; intro a hf
                              refine wpQuiet_nil ?_
                              intro w15 hx
                              replace hs : Sep w F R w15 (star F14 w11 w13) [.ro (tI .u8) (.slice ao13 z7.1.length cp13) z7.1, .row 46 ty45 (.slice ao8 z6.length cp8) z6, .ro ty45 (.slice ao7 z5.length cp7) z5, .ro ty57 (.slice ao4 z3.1.length cp4) z3.1, .ro (tI .u8) (.slice ao5 z3.2.length cp5) z3.2, .ro ty60 (.slice ao2 files.length cp2) files] := hs.ext hx
                              clear hx
                              exact hK8 false _ _ ⟨_, hs.sel [1, 2, 3, 4, 5] rfl rfl, hf.keep (ks := [1, 8, 9, 12, 13, 14, 15, 112]) (by kernel_rfl)⟩ hS
                      · replace hS := of_f hb9 hS
                        refine wp_skip ?_
                        exact hK7 s6.1 _ _ ⟨_, hs.sel [0, 1, 2, 3, 4] rfl rfl, hf.keep (ks := [1, 8, 9, 12, 13, 14, 15]) (by kernel_rfl)⟩ hS
              · replace hS := of_f hb7 hS
                refine wp_exit ?_
                exact hK4 s6.1 _ _ ⟨_, hs.sel [3] rfl rfl, hf.keep (ks := [9, 14]) (by kernel_rfl)⟩ hS
        · clear hS; intro KK3 k2 hK3 hS
          refine reg ?_
          refine st tbOk 3 [1, 8, 9, 12, 13, 58] (L' := [(1, .slice ao2 files.length cp2), (8, .slice ao4 z3.1.length cp4), (9, .slice ao5 z3.2.length cp5), (12, .slice ao7 z5.length cp7), (13, .slice ao8 z6.length cp8), (58, .bool (z4.2 != 0))]) hf (by kernel_rfl) ?_
          clear hf; clear a; intro a hf
          rcases Bool.eq_false_or_eq_true (z4.2 != 0) with hb5 | hb5
          · replace hS := of_t hb5 hS
            replace hf := Fr.cast (L' := [(1, .slice ao2 files.length cp2), (8, .slice ao4 z3.1.length cp4), (9, .slice ao5 z3.2.length cp5), (12, .slice ao7 z5.length cp7), (13, .slice ao8 z6.length cp8), (58, .bool true)]) hf (by rw [hb5])
            refine st tbOk 6 [1, 8, 9, 12, 13, 64] (L' := [(1, .slice ao2 files.length cp2), (8, .slice ao4 z3.1.length cp4), (9, .slice ao5 z3.2.length cp5), (12, .slice ao7 z5.length cp7), (13, .slice ao8 z6.length cp8), (64, .bool true)]) hf (by kernel_rfl) ?_
            clear hf; clear a; intro a hf
            refine wpList_nil ?_
            exact hK3 true _ _ ⟨_, hs.sel [0, 1, 2, 3, 4] rfl rfl, hf.keep (ks := [1, 8, 9, 12, 13, 64]) (by kernel_rfl)⟩ hS
          · replace hS := of_f hb5 hS
            replace hf := Fr.cast (L' := [(1, .slice ao2 files.length cp2), (8, .slice ao4 z3.1.length cp4), (9, .slice ao5 z3.2.length cp5), (12, .slice ao7 z5.length cp7), (13, .slice ao8 z6.length cp8), (58, .bool false)]) hf (by rw [hb5])
            refine st tbOk 6 [1, 8, 9, 12, 13, 64] (L' := [(1, .slice ao2 files.length cp2), (8, .slice ao4 z3.1.length cp4), (9, .slice ao5 z3.2.length cp5), (12, .slice ao7 z5.length cp7), (13, .slice ao8 z6.length cp8), (64, .bool (((z5.length : Nat) : Int) != ((z6.length : Nat) : Int)))]) hf (by kernel_rfl) ?_
            clear hf; clear a; intro a hf
            refine wpList_nil ?_
            exact hK3 (((z5.length : Nat) : Int) != ((z6.length : Nat) : Int)) _ _ ⟨_, hs.sel [0, 1, 2, 3, 4] rfl rfl, hf.keep (ks := [1, 8, 9, 12, 13, 64]) (by kernel_rfl)⟩ hS
      · clear hS; intro KK1 k1 hK1 hS
        refine blk ?_
        refine lp (st := 0) (fun (s2 : Int) (a : Act) (w' : World) => ∃ (F4 : SH), Sep w F R w' F4 [.ro ty55 (.slice ao1 p_l.length cp1) p_l, .ro ty60 (.slice ao2 files.length cp2) files] ∧ Fr 117 [(0, .slice ao1 p_l.length cp1), (1, .slice ao2 files.length cp2), (7, .int .i64 s2)] a) ?_ ⟨_, hs.sel [0, 1] rfl rfl, hf.keep (ks := [0, 1, 7]) (by kernel_rfl)⟩ hS
        clear hS hf hs; clear a
        intro rec1 KK2 hK2 s2 a w3 hM hS
        obtain ⟨F4, hs, hf⟩ := hM
        refine sq ?_
        refine sq ?_
        refine reg ?_
        refine st tbOk 4 [0, 1, 7, 29] (L' := [(0, .slice ao1 p_l.length cp1), (1, .slice ao2 files.length cp2), (7, .int .i64 s2), (29, .bool (decide (s2 < ((p_l.length : Nat) : Int))))]) hf (by kernel_rfl) ?_
        clear hf; clear a; intro a hf
        refine wpList_nil ?_
        refine cnd (b := decide (s2 < ((p_l.length : Nat) : Int))) hf (by kernel_rfl) (fun hb3 => ?_) (fun hb3 => ?_)
        · replace hS := of_t hb3 hS
          refine wp_skip ?_
          refine sq ?_
          refine blk ?_
          refine sq ?_
          refine reg ?_
          refine st tbOk 2 [0, 1, 7, 32, 33] (L' := [(0, .slice ao1 p_l.length cp1), (1, .slice ao2 files.length cp2), (7, .int .i64 s2), (32, .slice ao1 p_l.length cp1), (33, .int .i64 s2)]) hf (by kernel_rfl) ?_
          clear hf; clear a; intro a hf
          have hT := of_gd hS; clear hS; obtain ⟨hc1, hS⟩ := hT
          refine ixR tbOk u35 i56 rfl rfl ((hs.ro 0 rfl).ra (LeH.refl _)) (k := .i64) (n := s2) hc1 hf (by kernel_rfl) (by kernel_rfl) (by kernel_rfl) (by kernel_rfl) ?_
          clear hf; clear a; intro pb1 po1 c1 a hp1 hr1 hf
          obtain ⟨ao3, cp3, rfl, hr2⟩ := hr1
          replace hs : Sep w F R w3 F4 [.ro (tI .u8) (.slice ao3 ((gt p_l s2).2.2.2.2.2).length cp3) ((gt p_l s2).2.2.2.2.2), .ro ty55 (.slice ao1 p_l.length cp1) p_l, .ro ty60 (.slice ao2 files.length cp2) files] := hs.addRo hr2
          replace hs : Sep w F R w3 F4 [.cel pb1 po1 [.int .u64 ((gt p_l s2).1), .int .i64 ((gt p_l s2).2.1), .bool ((gt p_l s2).2.2.1), strV ((gt p_l s2).2.2.2.1), .int .u64 ((gt p_l s2).2.2.2.2.1), .slice ao3 ((gt p_l s2).2.2.2.2.2).length cp3], .ro (tI .u8) (.slice ao3 ((gt p_l s2).2.2.2.2.2).length cp3) ((gt p_l s2).2.2.2.2.2), .ro ty55 (.slice ao1 p_l.length cp1) p_l, .ro ty60 (.slice ao2 files.length cp2) files] := hs.addCel hp1
          replace hf := Fr.keep (ks := [0, 1, 7, 34]) (L' := [(0, .slice ao1 p_l.length cp1), (1, .slice ao2 files.length cp2), (7, .int .i64 s2), (34, .pointer (some ⟨pb1, po1, none⟩))]) hf (by kernel_rfl)
          refine st tbOk 1 [0, 1, 7, 35] (L' := [(0, .slice ao1 p_l.length cp1), (1, .slice ao2 files.length cp2), (7, .int .i64 s2), (35, .pointer (some ⟨pb1, po1 + 5, none⟩))]) hf (by kernel_rfl) ?_
          clear hf; clear a; intro a hf
          refine ldC tbOk (T := 22) (hs.ccel 0 rfl) (LeH.refl _) 5 (.slice ao3 ((gt p_l s2).2.2.2.2.2).length cp3) hf (by kernel_rfl) (by kernel_rfl) (by kernel_rfl) (by kernel_rfl) ?_
          clear hf; clear a; intro a hf
          replace hs : Sep w F R w3 F4 [.ro (tI .u8) (.slice ao3 ((gt p_l s2).2.2.2.2.2).length cp3) ((gt p_l s2).2.2.2.2.2), .ro ty55 (.slice ao1 p_l.length cp1) p_l, .ro ty60 (.slice ao2 files.length cp2) files] := hs.sel [1, 2, 3] rfl rfl
          replace hf := Fr.keep (ks := [0, 1, 7, 36]) (L' := [(0, .slice ao1 p_l.length cp1), (1, .slice ao2 files.length cp2), (7, .int .i64 s2), (36, .slice ao3 ((gt p_l s2).2.2.2.2.2).length cp3)]) hf (by kernel_rfl)
          refine st tbOk 2 [0, 1, 7, 38] (L' := [(0, .slice ao1 p_l.length cp1), (1, .slice ao2 files.length cp2), (7, .int .i64 s2), (38, .bool (((((gt p_l s2).2.2.2.2.2).length : Nat) : Int) != 256))]) hf (by kernel_rfl) ?_
          clear hf; clear a; intro a hf
          refine wpList_nil ?_
          refine cnd (b := ((((gt p_l s2).2.2.2.2.2).length : Nat) : Int) != 256) hf (by kernel_rfl) (fun hb4 => ?_) (fun hb4 => ?_)
          · replace hS := of_t hb4 hS
            refine sq ?_
            refine reg ?_
            refine st tbOk 1 [4] (L' := [(4, .bool true)]) hf (by kernel_rfl) ?_
            clear hf; clear a; intro a hf
            refine wpList_nil ?_
            have hr := Option.some.inj hS; subst hr
            refine wp_ret ?_
            exact ret_ok hf (vs := [.bool true]) (by kernel_rfl) ⟨_, rfl, hs.sel [] rfl rfl⟩
          · replace hS := of_f hb4 hS
            refine wp_skip ?_
            refine reg ?_
            have hT := of_let hS; clear hS; obtain ⟨i_1, hl1, hS⟩ := hT
            refine st tbOk 3 [0, 1, 7] (L' := [(0, .slice ao1 p_l.length cp1), (1, .slice ao2 files.length cp2), (7, .int .i64 i_1)]) hf (by subst hl1; kernel_rfl) ?_
            clear hf; clear a; intro a hf
            refine wpList_nil ?_
            exact hK2 i_1 _ _ ⟨_, hs.sel [1, 2] rfl rfl, hf.keep (ks := [0, 1, 7]) (by kernel_rfl)⟩ hS
        · replace hS := of_f hb3 hS
          refine wp_exit ?_
          exact hK1 () _ _ ⟨_, hs.sel [0, 1] rfl rfl, hf.keep (ks := [0, 1]) (by kernel_rfl)⟩ hS

end Dm
