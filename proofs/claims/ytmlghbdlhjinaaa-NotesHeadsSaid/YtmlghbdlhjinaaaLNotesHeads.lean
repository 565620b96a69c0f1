/-
  The walk of the law NotesHeads; printed by a program of this repo. No condition.
-/
import Derived.Test.YtmlghbdlhjinaaaWT
import Derived.Test.YtmlghbdlhjinaaaW5
import Derived.Test.YtmlghbdlhjinaaaW7
import Derived.Test.YtmlghbdlhjinaaaW9
import Derived.Test.YtmlghbdlhjinaaaW10
namespace Dm
open Go Go.RowKit Go.Proofs

set_option maxHeartbeats 4000000 in
theorem law08_NotesHeads_ok {w : World} {F : SH} {n : Int} {p_d : Int} {kind : Int} {b : List Int} {ao1 : Option Addr} {cp1 : Nat} (hs : Sep w F (blks [.ro (tI .u8) (.slice ao1 b.length cp1) b]) w F [.ro (tI .u8) (.slice ao1 b.length cp1) b]) {r : Bool} (hS : law08_NotesHeads n p_d kind b = some r) :
    Calls Try.prog 13 [.int .u32 n, .int .u32 p_d, .int .u32 kind, .slice ao1 b.length cp1].toArray w (Gives (fun u w' => ∃ (F' : SH), u = .bool r ∧ Sep w F (blks [.ro (tI .u8) (.slice ao1 b.length cp1) b]) w' F' [])) := by
  generalize (blks [.ro (tI .u8) (.slice ao1 b.length cp1) b]) = R at hs ⊢
  unfold law08_NotesHeads at hS
  refine fn_ok (vs := [.int .u32 n, .int .u32 p_d, .int .u32 kind, .slice ao1 b.length cp1]) Try.func13 rfl 85 Try.ntmps13 (Nat.le_of_ble_eq_true rfl) ?_
  intro a hf
  replace hf := Fr.cast (L' := [(0, .int .u32 n), (1, .int .u32 p_d), (2, .int .u32 kind), (3, .slice ao1 b.length cp1)]) hf (by kernel_rfl)
  refine sq ?_
  refine reg ?_
  refine st tbOk 1 [0, 1, 2, 3] (L' := [(0, .int .u32 n), (1, .int .u32 p_d), (2, .int .u32 kind), (3, .slice ao1 b.length cp1)]) hf (by kernel_rfl) ?_
  clear hf; clear a; intro a hf
  refine wpList_nil ?_
  refine sq ?_
  refine reg ?_
  have hT := of_bd hS; clear hS; obtain ⟨z1, hz1, hS⟩ := hT
  refine clV ent23 (vs := []) (caps := []) hf (by kernel_rfl) (by kernel_rfl) (by kernel_rfl) (by kernel_rfl) (law08_awake_ok (hs.enter [] rfl rfl) hz1) ?_
  clear hf; clear a; intro v w1 a hT hf; obtain ⟨F1, rfl, hr⟩ := hT
  replace hs : Sep w F R w1 F1 [.ro (tI .u8) (.slice ao1 b.length cp1) b] := hs.back [] [0] rfl rfl rfl rfl hr
  clear hr
  replace hf := Fr.keep (ks := [0, 1, 2, 3, 18]) (L' := [(0, .int .u32 n), (1, .int .u32 p_d), (2, .int .u32 kind), (3, .slice ao1 b.length cp1), (18, .bool z1)]) hf (by kernel_rfl)
  refine st tbOk 1 [0, 1, 2, 3, 9] (L' := [(0, .int .u32 n), (1, .int .u32 p_d), (2, .int .u32 kind), (3, .slice ao1 b.length cp1), (9, .bool z1)]) hf (by kernel_rfl) ?_
  clear hf; clear a; intro a hf
  refine wpList_nil ?_
  refine sq ?_
  refine sq ?_
  refine reg ?_
  refine st tbOk 2 [0, 1, 2, 3, 20] (L' := [(0, .int .u32 n), (1, .int .u32 p_d), (2, .int .u32 kind), (3, .slice ao1 b.length cp1), (20, .bool (!z1))]) hf (by kernel_rfl) ?_
  clear hf; clear a; intro a hf
  refine wpList_nil ?_
  refine cnd (b := !z1) hf (by kernel_rfl) (fun hb1 => ?_) (fun hb1 => ?_)
  · replace hS := of_t hb1 hS
    refine sq ?_
    refine reg ?_
    refine st tbOk 1 [8] (L' := [(8, .bool false)]) hf (by kernel_rfl) ?_
    clear hf; clear a; intro a hf
    refine wpList_nil ?_
    have hr := Option.some.inj hS; subst hr
    refine wp_ret ?_
    exact ret_ok hf (vs := [.bool false]) (by kernel_rfl) ⟨_, rfl, hs.sel [] rfl rfl⟩
  · replace hS := of_f hb1 hS
    refine wp_skip ?_
    refine sq ?_
    refine sq ?_
    refine reg ?_
    refine st tbOk 3 [0, 1, 2, 3, 23] (L' := [(0, .int .u32 n), (1, .int .u32 p_d), (2, .int .u32 kind), (3, .slice ao1 b.length cp1), (23, .bool (decide (((b.length : Nat) : Int) > 2000)))]) hf (by kernel_rfl) ?_
    clear hf; clear a; intro a hf
    refine wpList_nil ?_
    refine cnd (b := decide (((b.length : Nat) : Int) > 2000)) hf (by kernel_rfl) (fun hb2 => ?_) (fun hb2 => ?_)
    · replace hS := of_t hb2 hS
      refine sq ?_
      refine reg ?_
      refine st tbOk 1 [8] (L' := [(8, .bool true)]) hf (by kernel_rfl) ?_
      clear hf; clear a; intro a hf
      refine wpList_nil ?_
      have hr := Option.some.inj hS; subst hr
      refine wp_ret ?_
      exact ret_ok hf (vs := [.bool true]) (by kernel_rfl) ⟨_, rfl, hs.sel [] rfl rfl⟩
    · replace hS := of_f hb2 hS
      refine wp_skip ?_
      refine sq ?_
      refine reg ?_
      refine st tbOk 1 [0, 1, 2, 3, 10] (L' := [(0, .int .u32 n), (1, .int .u32 p_d), (2, .int .u32 kind), (3, .slice ao1 b.length cp1), (10, .slice none 0 0)]) hf (by kernel_rfl) ?_
      clear hf; clear a; intro a hf
      refine wpList_nil ?_
      refine sq ?_
      refine sq ?_
      refine reg ?_
      refine st tbOk 1 [0, 1, 2, 3, 10, 11] (L' := [(0, .int .u32 n), (1, .int .u32 p_d), (2, .int .u32 kind), (3, .slice ao1 b.length cp1), (10, .slice none 0 0), (11, .int .i64 0)]) hf (by kernel_rfl) ?_
      clear hf; clear a; intro a hf
      refine wpList_nil ?_
      refine ctj (fun (s1 : List Int) (a : Act) (w' : World) => ∃ (ao2 : Option Addr) (cp2 : Nat) (F2 : SH), Sep w F R w' F2 [.row 5 (tI .u8) (.slice ao2 s1.length cp2) s1, .ro (tI .u8) (.slice ao1 b.length cp1) b] ∧ Fr 85 [(1, .int .u32 p_d), (2, .int .u32 kind), (3, .slice ao1 b.length cp1), (10, .slice ao2 s1.length cp2)] a) hS ?_ ?_
      · clear hS hf hs; clear a; intro s1 a w5 hM hS
        obtain ⟨ao2, cp2, F2, hs, hf⟩ := hM
        refine sq ?_
        refine sq ?_
        refine reg ?_
        refine st tbOk 1 [1, 2, 3, 10, 12] (L' := [(1, .int .u32 p_d), (2, .int .u32 kind), (3, .slice ao1 b.length cp1), (10, .slice ao2 s1.length cp2), (12, .int .i64 0)]) hf (by kernel_rfl) ?_
        clear hf; clear a; intro a hf
        refine wpList_nil ?_
        refine ctj (fun (s3 : List Int) (a : Act) (w' : World) => ∃ (ao5 : Option Addr) (cp5 : Nat) (F4 : SH), Sep w F R w' F4 [.row 5 (tI .u8) (.slice ao5 s3.length cp5) s3, .ro (tI .u8) (.slice ao1 b.length cp1) b] ∧ Fr 85 [(2, .int .u32 kind), (3, .slice ao1 b.length cp1), (10, .slice ao5 s3.length cp5)] a) hS ?_ ?_
        · clear hS hf hs; clear a; intro s3 a w9 hM hS
          obtain ⟨ao5, cp5, F4, hs, hf⟩ := hM
          refine sq ?_
          refine sq ?_
          refine reg ?_
          refine st tbOk 1 [2, 3, 10, 13] (L' := [(2, .int .u32 kind), (3, .slice ao1 b.length cp1), (10, .slice ao5 s3.length cp5), (13, .int .i64 0)]) hf (by kernel_rfl) ?_
          clear hf; clear a; intro a hf
          refine wpList_nil ?_
          refine ctj (fun (s5 : List Int) (a : Act) (w' : World) => ∃ (ao8 : Option Addr) (cp8 : Nat) (F6 : SH), Sep w F R w' F6 [.row 5 (tI .u8) (.slice ao8 s5.length cp8) s5, .ro (tI .u8) (.slice ao1 b.length cp1) b] ∧ Fr 85 [(3, .slice ao1 b.length cp1), (10, .slice ao8 s5.length cp8)] a) hS ?_ ?_
          · clear hS hf hs; clear a; intro s5 a w13 hM hS
            obtain ⟨ao8, cp8, F6, hs, hf⟩ := hM
            refine sq ?_
            refine reg ?_
            refine st tbOk 2 [63, 64] (L' := [(63, .slice ao8 s5.length cp8), (64, .slice ao1 b.length cp1)]) hf (by kernel_rfl) ?_
            clear hf; clear a; intro a hf
            have hT := of_gd hS; clear hS; obtain ⟨hc7, hS⟩ := hT
            refine apR tbOk u22 i5 rfl rfl rfl rfl hs.le (hs.own 0 rfl) (hs.raR 1 rfl) hc7 hf (by kernel_rfl) (by kernel_rfl) (by kernel_rfl) (by kernel_rfl) ?_
            clear hf; clear a; intro ao11 cp11 w14 a ho hg hl hf
            replace hs : Sep w F R w14 F6 [.row 5 (tI .u8) (.slice ao11 (s5 ++ b).length cp11) (s5 ++ b), .ro (tI .u8) (.slice ao1 b.length cp1) b] := hs.updRow 0 rfl ho hg hl
            clear ho hg hl
            replace hs : Sep w F R w14 F6 [.row 5 (tI .u8) (.slice ao11 (s5 ++ b).length cp11) (s5 ++ b)] := hs.sel [0] rfl rfl
            replace hf := Fr.keep (ks := [65]) (L' := [(65, .slice ao11 (s5 ++ b).length cp11)]) hf (by kernel_rfl)
            refine st tbOk 1 [10] (L' := [(10, .slice ao11 (s5 ++ b).length cp11)]) hf (by kernel_rfl) ?_
            clear hf; clear a; intro a hf
            refine wpList_nil ?_
            refine sq ?_
            refine reg ?_
            refine st tbOk 1 [10, 67] (L' := [(10, .slice ao11 (s5 ++ b).length cp11), (67, .slice ao11 (s5 ++ b).length cp11)]) hf (by kernel_rfl) ?_
            clear hf; clear a; intro a hf
            have hT := of_bd hS; clear hS; obtain ⟨z2, hz2, hS⟩ := hT
            obtain ⟨F8, _, hs⟩ := hs.frz 0 rfl
            replace hs : Sep w F R w14 F8 [.ro (tI .u8) (.slice ao11 (s5 ++ b).length cp11) (s5 ++ b)] := hs
            refine clV ent28 (vs := [.slice ao11 (s5 ++ b).length cp11]) (caps := []) hf (by kernel_rfl) (by kernel_rfl) (by kernel_rfl) (by kernel_rfl) (notes_Get_ok (b := (s5 ++ b)) (hs.enter [0] rfl rfl) hz2) ?_
            clear hf; clear a; intro v w15 a hT hf; obtain ⟨ao12, cp12, F9, rfl, hr⟩ := hT
            replace hs : Sep w F R w15 F9 [.row 54 ty53 (.slice ao12 z2.1.length cp12) z2.1, .ro (tI .u8) (.slice ao11 (s5 ++ b).length cp11) (s5 ++ b)] := hs.back [0] [0] rfl rfl rfl rfl hr
            clear hr
            replace hf := Fr.keep (ks := [10, 68]) (L' := [(10, .slice ao11 (s5 ++ b).length cp11), (68, .tuple #[.slice ao12 z2.1.length cp12, .int .i64 z2.2])]) hf (by kernel_rfl)
            refine st tbOk 5 [10, 14, 15] (L' := [(10, .slice ao11 (s5 ++ b).length cp11), (14, .slice ao12 z2.1.length cp12), (15, .int .i64 z2.2)]) hf (by kernel_rfl) ?_
            clear hf; clear a; intro a hf
            refine wpList_nil ?_
            refine sq ?_
            refine reg ?_
            refine st tbOk 1 [14, 15, 72] (L' := [(14, .slice ao12 z2.1.length cp12), (15, .int .i64 z2.2), (72, .slice ao11 (s5 ++ b).length cp11)]) hf (by kernel_rfl) ?_
            clear hf; clear a; intro a hf
            have hT := of_bd hS; clear hS; obtain ⟨z3, hz3, hS⟩ := hT
            refine clV ent29 (vs := [.slice ao11 (s5 ++ b).length cp11]) (caps := []) hf (by kernel_rfl) (by kernel_rfl) (by kernel_rfl) (by kernel_rfl) (ref08_Get_ok (b := (s5 ++ b)) (hs.enter [1] rfl rfl) hz3) ?_
            clear hf; clear a; intro v w16 a hT hf; obtain ⟨ao13, cp13, F10, rfl, hr⟩ := hT
            replace hs : Sep w F R w16 F10 [.row 65 ty53 (.slice ao13 z3.1.length cp13) z3.1, .row 54 ty53 (.slice ao12 z2.1.length cp12) z2.1, .ro (tI .u8) (.slice ao11 (s5 ++ b).length cp11) (s5 ++ b)] := hs.back [1] [0, 1] rfl rfl rfl rfl hr
            clear hr
            replace hs : Sep w F R w16 F10 [.row 65 ty53 (.slice ao13 z3.1.length cp13) z3.1, .row 54 ty53 (.slice ao12 z2.1.length cp12) z2.1] := hs.sel [0, 1] rfl rfl
            replace hf := Fr.keep (ks := [14, 15, 73]) (L' := [(14, .slice ao12 z2.1.length cp12), (15, .int .i64 z2.2), (73, .tuple #[.slice ao13 z3.1.length cp13, .int .i64 z3.2])]) hf (by kernel_rfl)
            refine st tbOk 5 [14, 15, 16, 17] (L' := [(14, .slice ao12 z2.1.length cp12), (15, .int .i64 z2.2), (16, .slice ao13 z3.1.length cp13), (17, .int .i64 z3.2)]) hf (by kernel_rfl) ?_
            clear hf; clear a; intro a hf
            refine wpList_nil ?_
            refine sq ?_
            refine ctj (fun (s7 : Bool) (a : Act) (w' : World) => ∃ (F11 : SH), Sep w F R w' F11 [] ∧ Fr 85 [(8, .bool s7)] a) hS ?_ ?_
            · clear hS hf hs; clear a; intro s7 a w19 hM hS
              obtain ⟨F11, hs, hf⟩ := hM
              have hr := Option.some.inj hS; subst hr
              refine wp_ret ?_
              exact ret_ok hf (vs := [.bool s7]) (by kernel_rfl) ⟨_, rfl, hs.sel [] rfl rfl⟩
            · clear hS; intro KK7 k4 hK7 hS
              refine reg ?_
              refine st tbOk 4 [14, 16, 79] (L' := [(14, .slice ao12 z2.1.length cp12), (16, .slice ao13 z3.1.length cp13), (79, .bool (z2.2 == z3.2))]) hf (by kernel_rfl) ?_
              clear hf; clear a; intro a hf
              rcases Bool.eq_false_or_eq_true (z2.2 == z3.2) with hb6 | hb6
              · replace hS := of_t hb6 hS
                replace hf := Fr.cast (L' := [(14, .slice ao12 z2.1.length cp12), (16, .slice ao13 z3.1.length cp13), (79, .bool true)]) hf (by rw [hb6])
                refine st tbOk 1 [16, 79, 80] (L' := [(16, .slice ao13 z3.1.length cp13), (79, .bool true), (80, .slice ao12 z2.1.length cp12)]) hf (by kernel_rfl) ?_
                clear hf; clear a; intro a hf
                have hT := of_bd hS; clear hS; obtain ⟨z4, hz4, hS⟩ := hT
                obtain ⟨F12, _, hs⟩ := hs.frz 1 rfl
                replace hs : Sep w F R w16 F12 [.row 65 ty53 (.slice ao13 z3.1.length cp13) z3.1, .ro ty53 (.slice ao12 z2.1.length cp12) z2.1] := hs
                refine clV ent27 (vs := [.slice ao12 z2.1.length cp12]) (caps := []) hf (by kernel_rfl) (by kernel_rfl) (by kernel_rfl) (by kernel_rfl) (law08_model_ok (p_l := z2.1) (hs.enter [1] rfl rfl) hz4) ?_
                clear hf; clear a; intro v w17 a hT hf; obtain ⟨ao14, cp14, F13, rfl, hr⟩ := hT
                replace hs : Sep w F R w17 F13 [.row 65 ty53 (.slice ao14 z4.length cp14) z4, .row 65 ty53 (.slice ao13 z3.1.length cp13) z3.1, .ro ty53 (.slice ao12 z2.1.length cp12) z2.1] := hs.back [1] [0, 1] rfl rfl rfl rfl hr
                clear hr
                replace hs : Sep w F R w17 F13 [.row 65 ty53 (.slice ao14 z4.length cp14) z4, .row 65 ty53 (.slice ao13 z3.1.length cp13) z3.1] := hs.sel [0, 1] rfl rfl
                replace hf := Fr.keep (ks := [16, 79, 81]) (L' := [(16, .slice ao13 z3.1.length cp13), (79, .bool true), (81, .slice ao14 z4.length cp14)]) hf (by kernel_rfl)
                refine st tbOk 1 [79, 81, 82] (L' := [(79, .bool true), (81, .slice ao14 z4.length cp14), (82, .slice ao13 z3.1.length cp13)]) hf (by kernel_rfl) ?_
                clear hf; clear a; intro a hf
                have hT := of_bd hS; clear hS; obtain ⟨z5, hz5, hS⟩ := hT
                refine clV ent30 (vs := [.slice ao14 z4.length cp14, .slice ao13 z3.1.length cp13]) (caps := []) hf (by kernel_rfl) (by kernel_rfl) (by kernel_rfl) (by kernel_rfl) (law08_same_ok (p_a := z4) (b := z3.1) (hs.lend [0, 1] [] rfl rfl rfl rfl rfl) hz5) ?_
                clear hf; clear a; intro v w18 a hT hf; obtain ⟨F14, rfl, hr⟩ := hT
                replace hs : Sep w F R w18 F13 [.row 65 ty53 (.slice ao14 z4.length cp14) z4, .row 65 ty53 (.slice ao13 z3.1.length cp13) z3.1] := hs.backL [0, 1] [] [0, 1] rfl rfl rfl rfl rfl rfl hr trivial
                clear hr
                replace hs : Sep w F R w18 F13 [] := hs.sel [] rfl rfl
                replace hf := Fr.keep (ks := [79, 83]) (L' := [(79, .bool true), (83, .bool z5)]) hf (by kernel_rfl)
                refine st tbOk 2 [8] (L' := [(8, .bool z5)]) hf (by kernel_rfl) ?_
                clear hf; clear a; intro a hf
                refine wpList_nil ?_
                exact hK7 z5 _ _ ⟨_, hs.sel [] rfl rfl, hf.keep (ks := [8]) (by kernel_rfl)⟩ hS
              · replace hS := of_f hb6 hS
                replace hf := Fr.cast (L' := [(14, .slice ao12 z2.1.length cp12), (16, .slice ao13 z3.1.length cp13), (79, .bool false)]) hf (by rw [hb6])
                refine st tbOk 6 [8] (L' := [(8, .bool false)]) hf (by kernel_rfl) ?_
                clear hf; clear a; intro a hf
                refine wpList_nil ?_
                exact hK7 false _ _ ⟨_, hs.sel [] rfl rfl, hf.keep (ks := [8]) (by kernel_rfl)⟩ hS
          · clear hS; intro KK5 k3 hK5 hS
            refine blk ?_
            refine lp (st := (s3, 0)) (fun (s6 : (List Int) × Int) (a : Act) (w' : World) => ∃ (ao9 : Option Addr) (cp9 : Nat) (F7 : SH), Sep w F R w' F7 [.row 5 (tI .u8) (.slice ao9 s6.1.length cp9) s6.1, .ro (tI .u8) (.slice ao1 b.length cp1) b] ∧ Fr 85 [(2, .int .u32 kind), (3, .slice ao1 b.length cp1), (10, .slice ao9 s6.1.length cp9), (13, .int .i64 s6.2)] a) ?_ ⟨ao5, cp5, _, hs.sel [0, 1] rfl rfl, hf.keep (ks := [2, 3, 10, 13]) (by kernel_rfl)⟩ hS
            clear hS hf hs; clear a
            intro rec3 KK6 hK6 s6 a w10 hM hS
            obtain ⟨ao9, cp9, F7, hs, hf⟩ := hM
            refine sq ?_
            refine sq ?_
            refine reg ?_
            refine st tbOk 2 [2, 3, 10, 13, 51] (L' := [(2, .int .u32 kind), (3, .slice ao1 b.length cp1), (10, .slice ao9 s6.1.length cp9), (13, .int .i64 s6.2), (51, .bool (decide (s6.2 < 4)))]) hf (by kernel_rfl) ?_
            clear hf; clear a; intro a hf
            refine wpList_nil ?_
            refine cnd (b := decide (s6.2 < 4)) hf (by kernel_rfl) (fun hb5 => ?_) (fun hb5 => ?_)
            · replace hS := of_t hb5 hS
              refine wp_skip ?_
              refine sq ?_
              refine blk ?_
              refine reg ?_
              refine st tbOk 5 [2, 3, 13, 54, 55, 58] (L' := [(2, .int .u32 kind), (3, .slice ao1 b.length cp1), (13, .int .i64 s6.2), (54, .slice ao9 s6.1.length cp9), (55, .int .u32 kind), (58, .int .u64 (IntKind.u64.wrap (IntKind.i64.wrap (8 * s6.2))))]) hf (by kernel_rfl) ?_
              clear hf; clear a; intro a hf
              have hT := of_gd hS; clear hS; obtain ⟨hc5, hS⟩ := hT
              refine bin (run_shr (k := .u32) (k' := .u64) (x := kind) hc5 _) hf (by kernel_rfl) (by kernel_rfl) (by kernel_rfl) (by kernel_rfl) ?_
              clear hf; clear a; intro a hf
              replace hf := Fr.keep (ks := [2, 3, 13, 54, 59]) (L' := [(2, .int .u32 kind), (3, .slice ao1 b.length cp1), (13, .int .i64 s6.2), (54, .slice ao9 s6.1.length cp9), (59, .int .u32 (shr .u32 kind (IntKind.u64.wrap (IntKind.i64.wrap (8 * s6.2)))))]) hf (by kernel_rfl)
              refine st tbOk 1 [2, 3, 13, 54, 60] (L' := [(2, .int .u32 kind), (3, .slice ao1 b.length cp1), (13, .int .i64 s6.2), (54, .slice ao9 s6.1.length cp9), (60, .int .u8 (IntKind.u8.wrap (shr .u32 kind (IntKind.u64.wrap (IntKind.i64.wrap (8 * s6.2))))))]) hf (by kernel_rfl) ?_
              clear hf; clear a; intro a hf
              refine bsR tbOk u22 i5 rfl (t := (tI .u8)) (vs := [(0, .int .u8 (IntKind.u8.wrap (shr .u32 kind (IntKind.u64.wrap (IntKind.i64.wrap (8 * s6.2))))))]) (cells := #[.int .u8 (IntKind.u8.wrap (shr .u32 kind (IntKind.u64.wrap (IntKind.i64.wrap (8 * s6.2)))))]) ([IntKind.u8.wrap (shr .u32 kind (IntKind.u64.wrap (IntKind.i64.wrap (8 * s6.2))))] : List Int) hs.le hf (by kernel_rfl) (by kernel_rfl) (by kernel_rfl) rfl (by kernel_rfl) (reps_flat _) rfl ?_
              clear hf; clear a; intro w11 a ho hx hf
              replace hs : Sep w F R w11 F7 [.row 5 (tI .u8) (.slice (some ⟨w10.heap.size, 0, none⟩) ([IntKind.u8.wrap (shr .u32 kind (IntKind.u64.wrap (IntKind.i64.wrap (8 * s6.2))))] : List Int).length ([IntKind.u8.wrap (shr .u32 kind (IntKind.u64.wrap (IntKind.i64.wrap (8 * s6.2))))] : List Int).length) ([IntKind.u8.wrap (shr .u32 kind (IntKind.u64.wrap (IntKind.i64.wrap (8 * s6.2))))] : List Int), .row 5 (tI .u8) (.slice ao9 s6.1.length cp9) s6.1, .ro (tI .u8) (.slice ao1 b.length cp1) b] := hs.newRow ho hx
              clear ho hx
              replace hf := Fr.keep (ks := [2, 3, 13, 54, 61]) (L' := [(2, .int .u32 kind), (3, .slice ao1 b.length cp1), (13, .int .i64 s6.2), (54, .slice ao9 s6.1.length cp9), (61, .slice (some ⟨w10.heap.size, 0, none⟩) ([IntKind.u8.wrap (shr .u32 kind (IntKind.u64.wrap (IntKind.i64.wrap (8 * s6.2))))] : List Int).length ([IntKind.u8.wrap (shr .u32 kind (IntKind.u64.wrap (IntKind.i64.wrap (8 * s6.2))))] : List Int).length)]) hf (by kernel_rfl)
              have hT := of_gd hS; clear hS; obtain ⟨hc6, hS⟩ := hT
              refine apR tbOk u22 i5 rfl rfl rfl rfl hs.le (hs.own 1 rfl) (hs.raW 0 rfl) hc6 hf (by kernel_rfl) (by kernel_rfl) (by kernel_rfl) (by kernel_rfl) ?_
              clear hf; clear a; intro ao10 cp10 w12 a ho hg hl hf
              replace hs : Sep w F R w12 F7 [.row 5 (tI .u8) (.slice (some ⟨w10.heap.size, 0, none⟩) ([IntKind.u8.wrap (shr .u32 kind (IntKind.u64.wrap (IntKind.i64.wrap (8 * s6.2))))] : List Int).length ([IntKind.u8.wrap (shr .u32 kind (IntKind.u64.wrap (IntKind.i64.wrap (8 * s6.2))))] : List Int).length) ([IntKind.u8.wrap (shr .u32 kind (IntKind.u64.wrap (IntKind.i64.wrap (8 * s6.2))))] : List Int), .row 5 (tI .u8) (.slice ao10 (s6.1 ++ ([IntKind.u8.wrap (shr .u32 kind (IntKind.u64.wrap (IntKind.i64.wrap (8 * s6.2))))] : List Int)).length cp10) (s6.1 ++ ([IntKind.u8.wrap (shr .u32 kind (IntKind.u64.wrap (IntKind.i64.wrap (8 * s6.2))))] : List Int)), .ro (tI .u8) (.slice ao1 b.length cp1) b] := hs.updRow 1 rfl ho hg hl
              clear ho hg hl
              replace hs : Sep w F R w12 F7 [.row 5 (tI .u8) (.slice ao10 (s6.1 ++ ([IntKind.u8.wrap (shr .u32 kind (IntKind.u64.wrap (IntKind.i64.wrap (8 * s6.2))))] : List Int)).length cp10) (s6.1 ++ ([IntKind.u8.wrap (shr .u32 kind (IntKind.u64.wrap (IntKind.i64.wrap (8 * s6.2))))] : List Int)), .ro (tI .u8) (.slice ao1 b.length cp1) b] := hs.sel [1, 2] rfl rfl
              replace hf := Fr.keep (ks := [2, 3, 13, 62]) (L' := [(2, .int .u32 kind), (3, .slice ao1 b.length cp1), (13, .int .i64 s6.2), (62, .slice ao10 (s6.1 ++ ([IntKind.u8.wrap (shr .u32 kind (IntKind.u64.wrap (IntKind.i64.wrap (8 * s6.2))))] : List Int)).length cp10)]) hf (by kernel_rfl)
              refine st tbOk 1 [2, 3, 10, 13] (L' := [(2, .int .u32 kind), (3, .slice ao1 b.length cp1), (10, .slice ao10 (s6.1 ++ ([IntKind.u8.wrap (shr .u32 kind (IntKind.u64.wrap (IntKind.i64.wrap (8 * s6.2))))] : List Int)).length cp10), (13, .int .i64 s6.2)]) hf (by kernel_rfl) ?_
              clear hf; clear a; intro a hf
              refine wpList_nil ?_
              refine reg ?_
              have hT := of_let hS; clear hS; obtain ⟨i_3, hl3, hS⟩ := hT
              refine st tbOk 3 [2, 3, 10, 13] (L' := [(2, .int .u32 kind), (3, .slice ao1 b.length cp1), (10, .slice ao10 (s6.1 ++ ([IntKind.u8.wrap (shr .u32 kind (IntKind.u64.wrap (IntKind.i64.wrap (8 * s6.2))))] : List Int)).length cp10), (13, .int .i64 i_3)]) hf (by subst hl3; kernel_rfl) ?_
              clear hf; clear a; intro a hf
              refine wpList_nil ?_
              exact hK6 ((s6.1 ++ ([IntKind.u8.wrap (shr .u32 kind (IntKind.u64.wrap (IntKind.i64.wrap (8 * s6.2))))] : List Int)), i_3) _ _ ⟨ao10, cp10, _, hs.sel [0, 1] rfl rfl, hf.keep (ks := [2, 3, 10, 13]) (by kernel_rfl)⟩ hS
            · replace hS := of_f hb5 hS
              refine wp_exit ?_
              exact hK5 s6.1 _ _ ⟨ao9, cp9, _, hs.sel [0, 1] rfl rfl, hf.keep (ks := [3, 10]) (by kernel_rfl)⟩ hS
        · clear hS; intro KK3 k2 hK3 hS
          refine blk ?_
          refine lp (st := (s1, 0)) (fun (s4 : (List Int) × Int) (a : Act) (w' : World) => ∃ (ao6 : Option Addr) (cp6 : Nat) (F5 : SH), Sep w F R w' F5 [.row 5 (tI .u8) (.slice ao6 s4.1.length cp6) s4.1, .ro (tI .u8) (.slice ao1 b.length cp1) b] ∧ Fr 85 [(1, .int .u32 p_d), (2, .int .u32 kind), (3, .slice ao1 b.length cp1), (10, .slice ao6 s4.1.length cp6), (12, .int .i64 s4.2)] a) ?_ ⟨ao2, cp2, _, hs.sel [0, 1] rfl rfl, hf.keep (ks := [1, 2, 3, 10, 12]) (by kernel_rfl)⟩ hS
          clear hS hf hs; clear a
          intro rec2 KK4 hK4 s4 a w6 hM hS
          obtain ⟨ao6, cp6, F5, hs, hf⟩ := hM
          refine sq ?_
          refine sq ?_
          refine reg ?_
          refine st tbOk 2 [1, 2, 3, 10, 12, 38] (L' := [(1, .int .u32 p_d), (2, .int .u32 kind), (3, .slice ao1 b.length cp1), (10, .slice ao6 s4.1.length cp6), (12, .int .i64 s4.2), (38, .bool (decide (s4.2 < 4)))]) hf (by kernel_rfl) ?_
          clear hf; clear a; intro a hf
          refine wpList_nil ?_
          refine cnd (b := decide (s4.2 < 4)) hf (by kernel_rfl) (fun hb4 => ?_) (fun hb4 => ?_)
          · replace hS := of_t hb4 hS
            refine wp_skip ?_
            refine sq ?_
            refine blk ?_
            refine reg ?_
            refine st tbOk 5 [1, 2, 3, 12, 41, 42, 45] (L' := [(1, .int .u32 p_d), (2, .int .u32 kind), (3, .slice ao1 b.length cp1), (12, .int .i64 s4.2), (41, .slice ao6 s4.1.length cp6), (42, .int .u32 p_d), (45, .int .u64 (IntKind.u64.wrap (IntKind.i64.wrap (8 * s4.2))))]) hf (by kernel_rfl) ?_
            clear hf; clear a; intro a hf
            have hT := of_gd hS; clear hS; obtain ⟨hc3, hS⟩ := hT
            refine bin (run_shr (k := .u32) (k' := .u64) (x := p_d) hc3 _) hf (by kernel_rfl) (by kernel_rfl) (by kernel_rfl) (by kernel_rfl) ?_
            clear hf; clear a; intro a hf
            replace hf := Fr.keep (ks := [1, 2, 3, 12, 41, 46]) (L' := [(1, .int .u32 p_d), (2, .int .u32 kind), (3, .slice ao1 b.length cp1), (12, .int .i64 s4.2), (41, .slice ao6 s4.1.length cp6), (46, .int .u32 (shr .u32 p_d (IntKind.u64.wrap (IntKind.i64.wrap (8 * s4.2)))))]) hf (by kernel_rfl)
            refine st tbOk 1 [1, 2, 3, 12, 41, 47] (L' := [(1, .int .u32 p_d), (2, .int .u32 kind), (3, .slice ao1 b.length cp1), (12, .int .i64 s4.2), (41, .slice ao6 s4.1.length cp6), (47, .int .u8 (IntKind.u8.wrap (shr .u32 p_d (IntKind.u64.wrap (IntKind.i64.wrap (8 * s4.2))))))]) hf (by kernel_rfl) ?_
            clear hf; clear a; intro a hf
            refine bsR tbOk u22 i5 rfl (t := (tI .u8)) (vs := [(0, .int .u8 (IntKind.u8.wrap (shr .u32 p_d (IntKind.u64.wrap (IntKind.i64.wrap (8 * s4.2))))))]) (cells := #[.int .u8 (IntKind.u8.wrap (shr .u32 p_d (IntKind.u64.wrap (IntKind.i64.wrap (8 * s4.2)))))]) ([IntKind.u8.wrap (shr .u32 p_d (IntKind.u64.wrap (IntKind.i64.wrap (8 * s4.2))))] : List Int) hs.le hf (by kernel_rfl) (by kernel_rfl) (by kernel_rfl) rfl (by kernel_rfl) (reps_flat _) rfl ?_
            clear hf; clear a; intro w7 a ho hx hf
            replace hs : Sep w F R w7 F5 [.row 5 (tI .u8) (.slice (some ⟨w6.heap.size, 0, none⟩) ([IntKind.u8.wrap (shr .u32 p_d (IntKind.u64.wrap (IntKind.i64.wrap (8 * s4.2))))] : List Int).length ([IntKind.u8.wrap (shr .u32 p_d (IntKind.u64.wrap (IntKind.i64.wrap (8 * s4.2))))] : List Int).length) ([IntKind.u8.wrap (shr .u32 p_d (IntKind.u64.wrap (IntKind.i64.wrap (8 * s4.2))))] : List Int), .row 5 (tI .u8) (.slice ao6 s4.1.length cp6) s4.1, .ro (tI .u8) (.slice ao1 b.length cp1) b] := hs.newRow ho hx
            clear ho hx
            replace hf := Fr.keep (ks := [1, 2, 3, 12, 41, 48]) (L' := [(1, .int .u32 p_d), (2, .int .u32 kind), (3, .slice ao1 b.length cp1), (12, .int .i64 s4.2), (41, .slice ao6 s4.1.length cp6), (48, .slice (some ⟨w6.heap.size, 0, none⟩) ([IntKind.u8.wrap (shr .u32 p_d (IntKind.u64.wrap (IntKind.i64.wrap (8 * s4.2))))] : List Int).length ([IntKind.u8.wrap (shr .u32 p_d (IntKind.u64.wrap (IntKind.i64.wrap (8 * s4.2))))] : List Int).length)]) hf (by kernel_rfl)
            have hT := of_gd hS; clear hS; obtain ⟨hc4, hS⟩ := hT
            refine apR tbOk u22 i5 rfl rfl rfl rfl hs.le (hs.own 1 rfl) (hs.raW 0 rfl) hc4 hf (by kernel_rfl) (by kernel_rfl) (by kernel_rfl) (by kernel_rfl) ?_
            clear hf; clear a; intro ao7 cp7 w8 a ho hg hl hf
            replace hs : Sep w F R w8 F5 [.row 5 (tI .u8) (.slice (some ⟨w6.heap.size, 0, none⟩) ([IntKind.u8.wrap (shr .u32 p_d (IntKind.u64.wrap (IntKind.i64.wrap (8 * s4.2))))] : List Int).length ([IntKind.u8.wrap (shr .u32 p_d (IntKind.u64.wrap (IntKind.i64.wrap (8 * s4.2))))] : List Int).length) ([IntKind.u8.wrap (shr .u32 p_d (IntKind.u64.wrap (IntKind.i64.wrap (8 * s4.2))))] : List Int), .row 5 (tI .u8) (.slice ao7 (s4.1 ++ ([IntKind.u8.wrap (shr .u32 p_d (IntKind.u64.wrap (IntKind.i64.wrap (8 * s4.2))))] : List Int)).length cp7) (s4.1 ++ ([IntKind.u8.wrap (shr .u32 p_d (IntKind.u64.wrap (IntKind.i64.wrap (8 * s4.2))))] : List Int)), .ro (tI .u8) (.slice ao1 b.length cp1) b] := hs.updRow 1 rfl ho hg hl
            clear ho hg hl
            replace hs : Sep w F R w8 F5 [.row 5 (tI .u8) (.slice ao7 (s4.1 ++ ([IntKind.u8.wrap (shr .u32 p_d (IntKind.u64.wrap (IntKind.i64.wrap (8 * s4.2))))] : List Int)).length cp7) (s4.1 ++ ([IntKind.u8.wrap (shr .u32 p_d (IntKind.u64.wrap (IntKind.i64.wrap (8 * s4.2))))] : List Int)), .ro (tI .u8) (.slice ao1 b.length cp1) b] := hs.sel [1, 2] rfl rfl
            replace hf := Fr.keep (ks := [1, 2, 3, 12, 49]) (L' := [(1, .int .u32 p_d), (2, .int .u32 kind), (3, .slice ao1 b.length cp1), (12, .int .i64 s4.2), (49, .slice ao7 (s4.1 ++ ([IntKind.u8.wrap (shr .u32 p_d (IntKind.u64.wrap (IntKind.i64.wrap (8 * s4.2))))] : List Int)).length cp7)]) hf (by kernel_rfl)
            refine st tbOk 1 [1, 2, 3, 10, 12] (L' := [(1, .int .u32 p_d), (2, .int .u32 kind), (3, .slice ao1 b.length cp1), (10, .slice ao7 (s4.1 ++ ([IntKind.u8.wrap (shr .u32 p_d (IntKind.u64.wrap (IntKind.i64.wrap (8 * s4.2))))] : List Int)).length cp7), (12, .int .i64 s4.2)]) hf (by kernel_rfl) ?_
            clear hf; clear a; intro a hf
            refine wpList_nil ?_
            refine reg ?_
            have hT := of_let hS; clear hS; obtain ⟨i_2, hl2, hS⟩ := hT
            refine st tbOk 3 [1, 2, 3, 10, 12] (L' := [(1, .int .u32 p_d), (2, .int .u32 kind), (3, .slice ao1 b.length cp1), (10, .slice ao7 (s4.1 ++ ([IntKind.u8.wrap (shr .u32 p_d (IntKind.u64.wrap (IntKind.i64.wrap (8 * s4.2))))] : List Int)).length cp7), (12, .int .i64 i_2)]) hf (by subst hl2; kernel_rfl) ?_
            clear hf; clear a; intro a hf
            refine wpList_nil ?_
            exact hK4 ((s4.1 ++ ([IntKind.u8.wrap (shr .u32 p_d (IntKind.u64.wrap (IntKind.i64.wrap (8 * s4.2))))] : List Int)), i_2) _ _ ⟨ao7, cp7, _, hs.sel [0, 1] rfl rfl, hf.keep (ks := [1, 2, 3, 10, 12]) (by kernel_rfl)⟩ hS
          · replace hS := of_f hb4 hS
            refine wp_exit ?_
            exact hK3 s4.1 _ _ ⟨ao6, cp6, _, hs.sel [0, 1] rfl rfl, hf.keep (ks := [2, 3, 10]) (by kernel_rfl)⟩ hS
      · clear hS; intro KK1 k1 hK1 hS
        refine blk ?_
        replace hs : Sep w F R w1 F1 [.row 5 (tI .u8) (.slice none 0 0) ([] : List Int), .ro (tI .u8) (.slice ao1 b.length cp1) b] := hs.addNil 5 (tI .u8)
        refine lp (st := ([], 0)) (fun (s2 : (List Int) × Int) (a : Act) (w' : World) => ∃ (ao3 : Option Addr) (cp3 : Nat) (F3 : SH), Sep w F R w' F3 [.row 5 (tI .u8) (.slice ao3 s2.1.length cp3) s2.1, .ro (tI .u8) (.slice ao1 b.length cp1) b] ∧ Fr 85 [(0, .int .u32 n), (1, .int .u32 p_d), (2, .int .u32 kind), (3, .slice ao1 b.length cp1), (10, .slice ao3 s2.1.length cp3), (11, .int .i64 s2.2)] a) ?_ ⟨none, 0, _, hs.sel [0, 1] rfl rfl, hf.keep (ks := [0, 1, 2, 3, 10, 11]) (by kernel_rfl)⟩ hS
        clear hS hf hs; clear a
        intro rec1 KK2 hK2 s2 a w2 hM hS
        obtain ⟨ao3, cp3, F3, hs, hf⟩ := hM
        refine sq ?_
        refine sq ?_
        refine reg ?_
        refine st tbOk 2 [0, 1, 2, 3, 10, 11, 25] (L' := [(0, .int .u32 n), (1, .int .u32 p_d), (2, .int .u32 kind), (3, .slice ao1 b.length cp1), (10, .slice ao3 s2.1.length cp3), (11, .int .i64 s2.2), (25, .bool (decide (s2.2 < 4)))]) hf (by kernel_rfl) ?_
        clear hf; clear a; intro a hf
        refine wpList_nil ?_
        refine cnd (b := decide (s2.2 < 4)) hf (by kernel_rfl) (fun hb3 => ?_) (fun hb3 => ?_)
        · replace hS := of_t hb3 hS
          refine wp_skip ?_
          refine sq ?_
          refine blk ?_
          refine reg ?_
          refine st tbOk 5 [0, 1, 2, 3, 11, 28, 29, 32] (L' := [(0, .int .u32 n), (1, .int .u32 p_d), (2, .int .u32 kind), (3, .slice ao1 b.length cp1), (11, .int .i64 s2.2), (28, .slice ao3 s2.1.length cp3), (29, .int .u32 n), (32, .int .u64 (IntKind.u64.wrap (IntKind.i64.wrap (8 * s2.2))))]) hf (by kernel_rfl) ?_
          clear hf; clear a; intro a hf
          have hT := of_gd hS; clear hS; obtain ⟨hc1, hS⟩ := hT
          refine bin (run_shr (k := .u32) (k' := .u64) (x := n) hc1 _) hf (by kernel_rfl) (by kernel_rfl) (by kernel_rfl) (by kernel_rfl) ?_
          clear hf; clear a; intro a hf
          replace hf := Fr.keep (ks := [0, 1, 2, 3, 11, 28, 33]) (L' := [(0, .int .u32 n), (1, .int .u32 p_d), (2, .int .u32 kind), (3, .slice ao1 b.length cp1), (11, .int .i64 s2.2), (28, .slice ao3 s2.1.length cp3), (33, .int .u32 (shr .u32 n (IntKind.u64.wrap (IntKind.i64.wrap (8 * s2.2)))))]) hf (by kernel_rfl)
          refine st tbOk 1 [0, 1, 2, 3, 11, 28, 34] (L' := [(0, .int .u32 n), (1, .int .u32 p_d), (2, .int .u32 kind), (3, .slice ao1 b.length cp1), (11, .int .i64 s2.2), (28, .slice ao3 s2.1.length cp3), (34, .int .u8 (IntKind.u8.wrap (shr .u32 n (IntKind.u64.wrap (IntKind.i64.wrap (8 * s2.2))))))]) hf (by kernel_rfl) ?_
          clear hf; clear a; intro a hf
          refine bsR tbOk u22 i5 rfl (t := (tI .u8)) (vs := [(0, .int .u8 (IntKind.u8.wrap (shr .u32 n (IntKind.u64.wrap (IntKind.i64.wrap (8 * s2.2))))))]) (cells := #[.int .u8 (IntKind.u8.wrap (shr .u32 n (IntKind.u64.wrap (IntKind.i64.wrap (8 * s2.2)))))]) ([IntKind.u8.wrap (shr .u32 n (IntKind.u64.wrap (IntKind.i64.wrap (8 * s2.2))))] : List Int) hs.le hf (by kernel_rfl) (by kernel_rfl) (by kernel_rfl) rfl (by kernel_rfl) (reps_flat _) rfl ?_
          clear hf; clear a; intro w3 a ho hx hf
          replace hs : Sep w F R w3 F3 [.row 5 (tI .u8) (.slice (some ⟨w2.heap.size, 0, none⟩) ([IntKind.u8.wrap (shr .u32 n (IntKind.u64.wrap (IntKind.i64.wrap (8 * s2.2))))] : List Int).length ([IntKind.u8.wrap (shr .u32 n (IntKind.u64.wrap (IntKind.i64.wrap (8 * s2.2))))] : List Int).length) ([IntKind.u8.wrap (shr .u32 n (IntKind.u64.wrap (IntKind.i64.wrap (8 * s2.2))))] : List Int), .row 5 (tI .u8) (.slice ao3 s2.1.length cp3) s2.1, .ro (tI .u8) (.slice ao1 b.length cp1) b] := hs.newRow ho hx
          clear ho hx
          replace hf := Fr.keep (ks := [0, 1, 2, 3, 11, 28, 35]) (L' := [(0, .int .u32 n), (1, .int .u32 p_d), (2, .int .u32 kind), (3, .slice ao1 b.length cp1), (11, .int .i64 s2.2), (28, .slice ao3 s2.1.length cp3), (35, .slice (some ⟨w2.heap.size, 0, none⟩) ([IntKind.u8.wrap (shr .u32 n (IntKind.u64.wrap (IntKind.i64.wrap (8 * s2.2))))] : List Int).length ([IntKind.u8.wrap (shr .u32 n (IntKind.u64.wrap (IntKind.i64.wrap (8 * s2.2))))] : List Int).length)]) hf (by kernel_rfl)
          have hT := of_gd hS; clear hS; obtain ⟨hc2, hS⟩ := hT
          refine apR tbOk u22 i5 rfl rfl rfl rfl hs.le (hs.own 1 rfl) (hs.raW 0 rfl) hc2 hf (by kernel_rfl) (by kernel_rfl) (by kernel_rfl) (by kernel_rfl) ?_
          clear hf; clear a; intro ao4 cp4 w4 a ho hg hl hf
          replace hs : Sep w F R w4 F3 [.row 5 (tI .u8) (.slice (some ⟨w2.heap.size, 0, none⟩) ([IntKind.u8.wrap (shr .u32 n (IntKind.u64.wrap (IntKind.i64.wrap (8 * s2.2))))] : List Int).length ([IntKind.u8.wrap (shr .u32 n (IntKind.u64.wrap (IntKind.i64.wrap (8 * s2.2))))] : List Int).length) ([IntKind.u8.wrap (shr .u32 n (IntKind.u64.wrap (IntKind.i64.wrap (8 * s2.2))))] : List Int), .row 5 (tI .u8) (.slice ao4 (s2.1 ++ ([IntKind.u8.wrap (shr .u32 n (IntKind.u64.wrap (IntKind.i64.wrap (8 * s2.2))))] : List Int)).length cp4) (s2.1 ++ ([IntKind.u8.wrap (shr .u32 n (IntKind.u64.wrap (IntKind.i64.wrap (8 * s2.2))))] : List Int)), .ro (tI .u8) (.slice ao1 b.length cp1) b] := hs.updRow 1 rfl ho hg hl
          clear ho hg hl
          replace hs : Sep w F R w4 F3 [.row 5 (tI .u8) (.slice ao4 (s2.1 ++ ([IntKind.u8.wrap (shr .u32 n (IntKind.u64.wrap (IntKind.i64.wrap (8 * s2.2))))] : List Int)).length cp4) (s2.1 ++ ([IntKind.u8.wrap (shr .u32 n (IntKind.u64.wrap (IntKind.i64.wrap (8 * s2.2))))] : List Int)), .ro (tI .u8) (.slice ao1 b.length cp1) b] := hs.sel [1, 2] rfl rfl
          replace hf := Fr.keep (ks := [0, 1, 2, 3, 11, 36]) (L' := [(0, .int .u32 n), (1, .int .u32 p_d), (2, .int .u32 kind), (3, .slice ao1 b.length cp1), (11, .int .i64 s2.2), (36, .slice ao4 (s2.1 ++ ([IntKind.u8.wrap (shr .u32 n (IntKind.u64.wrap (IntKind.i64.wrap (8 * s2.2))))] : List Int)).length cp4)]) hf (by kernel_rfl)
          refine st tbOk 1 [0, 1, 2, 3, 10, 11] (L' := [(0, .int .u32 n), (1, .int .u32 p_d), (2, .int .u32 kind), (3, .slice ao1 b.length cp1), (10, .slice ao4 (s2.1 ++ ([IntKind.u8.wrap (shr .u32 n (IntKind.u64.wrap (IntKind.i64.wrap (8 * s2.2))))] : List Int)).length cp4), (11, .int .i64 s2.2)]) hf (by kernel_rfl) ?_
          clear hf; clear a; intro a hf
          refine wpList_nil ?_
          refine reg ?_
          have hT := of_let hS; clear hS; obtain ⟨i_1, hl1, hS⟩ := hT
          refine st tbOk 3 [0, 1, 2, 3, 10, 11] (L' := [(0, .int .u32 n), (1, .int .u32 p_d), (2, .int .u32 kind), (3, .slice ao1 b.length cp1), (10, .slice ao4 (s2.1 ++ ([IntKind.u8.wrap (shr .u32 n (IntKind.u64.wrap (IntKind.i64.wrap (8 * s2.2))))] : List Int)).length cp4), (11, .int .i64 i_1)]) hf (by subst hl1; kernel_rfl) ?_
          clear hf; clear a; intro a hf
          refine wpList_nil ?_
          exact hK2 ((s2.1 ++ ([IntKind.u8.wrap (shr .u32 n (IntKind.u64.wrap (IntKind.i64.wrap (8 * s2.2))))] : List Int)), i_1) _ _ ⟨ao4, cp4, _, hs.sel [0, 1] rfl rfl, hf.keep (ks := [0, 1, 2, 3, 10, 11]) (by kernel_rfl)⟩ hS
        · replace hS := of_f hb3 hS
          refine wp_exit ?_
          exact hK1 s2.1 _ _ ⟨ao3, cp3, _, hs.sel [0, 1] rfl rfl, hf.keep (ks := [1, 2, 3, 10]) (by kernel_rfl)⟩ hS

end Dm
