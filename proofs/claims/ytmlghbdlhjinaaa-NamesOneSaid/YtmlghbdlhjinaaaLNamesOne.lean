/-
  The walk of the law NamesOne; printed by a program of this repo. No condition.
-/
import Derived.Test.YtmlghbdlhjinaaaWT
import Derived.Test.YtmlghbdlhjinaaaW1
import Derived.Test.YtmlghbdlhjinaaaW4
namespace Dm
open Go Go.RowKit Go.Proofs

set_option maxHeartbeats 4000000 in
theorem law02_NamesOne_ok {w : World} {F : SH} {p_s : List UInt8}  (hs : Sep w F (blks []) w F []) {r : Bool} (hS : law02_NamesOne p_s = some r) :
    Calls Try.prog 7 [strV p_s].toArray w (Gives (fun u w' => ∃ (F' : SH), u = .bool r ∧ Sep w F (blks []) w' F' [])) := by
  generalize (blks []) = R at hs ⊢
  unfold law02_NamesOne at hS
  refine fn_ok (vs := [strV p_s]) Try.func7 rfl 79 Try.ntmps7 (Nat.le_of_ble_eq_true rfl) ?_
  intro a hf
  replace hf := Fr.cast (L' := [(0, strV p_s)]) hf (by kernel_rfl)
  refine sq ?_
  refine reg ?_
  refine st tbOk 1 [0] (L' := [(0, strV p_s)]) hf (by kernel_rfl) ?_
  clear hf; clear a; intro a hf
  refine wpList_nil ?_
  refine sq ?_
  refine reg ?_
  have hT := of_bd hS; clear hS; obtain ⟨z1, hz1, hS⟩ := hT
  refine clV ent15 (vs := []) (caps := []) hf (by kernel_rfl) (by kernel_rfl) (by kernel_rfl) (by kernel_rfl) (law02_awake_ok (hs.enter [] rfl rfl) hz1) ?_
  clear hf; clear a; intro v w1 a hT hf; obtain ⟨F1, rfl, hr⟩ := hT
  replace hs : Sep w F R w1 F1 [] := hs.back [] [] rfl rfl rfl rfl hr
  clear hr
  replace hf := Fr.keep (ks := [0, 13]) (L' := [(0, strV p_s), (13, .bool z1)]) hf (by kernel_rfl)
  refine st tbOk 1 [0, 3] (L' := [(0, strV p_s), (3, .bool z1)]) hf (by kernel_rfl) ?_
  clear hf; clear a; intro a hf
  refine wpList_nil ?_
  refine sq ?_
  refine sq ?_
  refine reg ?_
  refine st tbOk 2 [0, 15] (L' := [(0, strV p_s), (15, .bool (!z1))]) hf (by kernel_rfl) ?_
  clear hf; clear a; intro a hf
  refine wpList_nil ?_
  refine cnd (b := !z1) hf (by kernel_rfl) (fun hb1 => ?_) (fun hb1 => ?_)
  · replace hS := of_t hb1 hS
    refine sq ?_
    refine reg ?_
    refine st tbOk 1 [2] (L' := [(2, .bool false)]) hf (by kernel_rfl) ?_
    clear hf; clear a; intro a hf
    refine wpList_nil ?_
    have hr := Option.some.inj hS; subst hr
    refine wp_ret ?_
    exact ret_ok hf (vs := [.bool false]) (by kernel_rfl) ⟨_, rfl, hs.sel [] rfl rfl⟩
  · replace hS := of_f hb1 hS
    refine wp_skip ?_
    refine sq ?_
    refine sq ?_
    refine reg ?_
    refine st tbOk 3 [0, 18] (L' := [(0, strV p_s), (18, .bool (decide (((p_s.length : Nat) : Int) > 2000)))]) hf (by kernel_rfl) ?_
    clear hf; clear a; intro a hf
    refine wpList_nil ?_
    refine cnd (b := decide (((p_s.length : Nat) : Int) > 2000)) hf (by kernel_rfl) (fun hb2 => ?_) (fun hb2 => ?_)
    · replace hS := of_t hb2 hS
      refine sq ?_
      refine reg ?_
      refine st tbOk 1 [2] (L' := [(2, .bool true)]) hf (by kernel_rfl) ?_
      clear hf; clear a; intro a hf
      refine wpList_nil ?_
      have hr := Option.some.inj hS; subst hr
      refine wp_ret ?_
      exact ret_ok hf (vs := [.bool true]) (by kernel_rfl) ⟨_, rfl, hs.sel [] rfl rfl⟩
    · replace hS := of_f hb2 hS
      refine wp_skip ?_
      refine sq ?_
      refine reg ?_
      refine st tbOk 1 [0, 20] (L' := [(0, strV p_s), (20, strV p_s)]) hf (by kernel_rfl) ?_
      clear hf; clear a; intro a hf
      refine bsR tbOk u30 i9 rfl (t := tS) (vs := [(0, strV p_s)]) (cells := #[strV p_s]) ([p_s] : List (List UInt8)) hs.le hf (by kernel_rfl) (by kernel_rfl) (by kernel_rfl) rfl (by kernel_rfl) (reps_flat _) rfl ?_
      clear hf; clear a; intro w2 a ho hx hf
      replace hs : Sep w F R w2 F1 [.row 9 tS (.slice (some ⟨w1.heap.size, 0, none⟩) ([p_s] : List (List UInt8)).length ([p_s] : List (List UInt8)).length) ([p_s] : List (List UInt8))] := hs.newRow ho hx
      clear ho hx
      replace hf := Fr.keep (ks := [0, 21]) (L' := [(0, strV p_s), (21, .slice (some ⟨w1.heap.size, 0, none⟩) ([p_s] : List (List UInt8)).length ([p_s] : List (List UInt8)).length)]) hf (by kernel_rfl)
      have hT := of_bd hS; clear hS; obtain ⟨z2, hz2, hS⟩ := hT
      refine clV ent21 (vs := [.slice (some ⟨w1.heap.size, 0, none⟩) ([p_s] : List (List UInt8)).length ([p_s] : List (List UInt8)).length]) (caps := []) hf (by kernel_rfl) (by kernel_rfl) (by kernel_rfl) (by kernel_rfl) (names_Build_ok (p_l := ([p_s] : List (List UInt8))) (hs.lend [0] [] rfl rfl rfl rfl rfl) hz2) ?_
      clear hf; clear a; intro v w3 a hT hf; obtain ⟨ao1, cp1, ao2, cp2, F2, rfl, hr⟩ := hT
      replace hs : Sep w F R w3 F1 [.row 5 (tI .u8) (.slice ao1 z2.1.length cp1) z2.1, .row 23 (tI .u64) (.slice ao2 z2.2.1.length cp2) z2.2.1, .row 9 tS (.slice (some ⟨w1.heap.size, 0, none⟩) ([p_s] : List (List UInt8)).length ([p_s] : List (List UInt8)).length) ([p_s] : List (List UInt8))] := hs.backL [0] [] [0] rfl rfl rfl rfl rfl rfl hr ⟨(flat_I .u8), ⟨(flat_I .u64), trivial⟩⟩
      clear hr
      replace hs : Sep w F R w3 F1 [.row 5 (tI .u8) (.slice ao1 z2.1.length cp1) z2.1, .row 23 (tI .u64) (.slice ao2 z2.2.1.length cp2) z2.2.1] := hs.sel [0, 1] rfl rfl
      replace hf := Fr.keep (ks := [0, 22]) (L' := [(0, strV p_s), (22, .tuple #[.slice ao1 z2.1.length cp1, .slice ao2 z2.2.1.length cp2, .int .i64 z2.2.2])]) hf (by kernel_rfl)
      refine st tbOk 7 [0, 4, 5, 6] (L' := [(0, strV p_s), (4, .slice ao1 z2.1.length cp1), (5, .slice ao2 z2.2.1.length cp2), (6, .int .i64 z2.2.2)]) hf (by kernel_rfl) ?_
      clear hf; clear a; intro a hf
      refine wpList_nil ?_
      refine sq ?_
      refine reg ?_
      refine st tbOk 1 [0, 4, 5, 6, 27] (L' := [(0, strV p_s), (4, .slice ao1 z2.1.length cp1), (5, .slice ao2 z2.2.1.length cp2), (6, .int .i64 z2.2.2), (27, strV p_s)]) hf (by kernel_rfl) ?_
      clear hf; clear a; intro a hf
      refine bsR tbOk u30 i9 rfl (t := tS) (vs := [(0, strV p_s)]) (cells := #[strV p_s]) ([p_s] : List (List UInt8)) hs.le hf (by kernel_rfl) (by kernel_rfl) (by kernel_rfl) rfl (by kernel_rfl) (reps_flat _) rfl ?_
      clear hf; clear a; intro w4 a ho hx hf
      replace hs : Sep w F R w4 F1 [.row 9 tS (.slice (some ⟨w3.heap.size, 0, none⟩) ([p_s] : List (List UInt8)).length ([p_s] : List (List UInt8)).length) ([p_s] : List (List UInt8)), .row 5 (tI .u8) (.slice ao1 z2.1.length cp1) z2.1, .row 23 (tI .u64) (.slice ao2 z2.2.1.length cp2) z2.2.1] := hs.newRow ho hx
      clear ho hx
      replace hf := Fr.keep (ks := [0, 4, 5, 6, 28]) (L' := [(0, strV p_s), (4, .slice ao1 z2.1.length cp1), (5, .slice ao2 z2.2.1.length cp2), (6, .int .i64 z2.2.2), (28, .slice (some ⟨w3.heap.size, 0, none⟩) ([p_s] : List (List UInt8)).length ([p_s] : List (List UInt8)).length)]) hf (by kernel_rfl)
      have hT := of_bd hS; clear hS; obtain ⟨z3, hz3, hS⟩ := hT
      refine clV ent22 (vs := [.slice (some ⟨w3.heap.size, 0, none⟩) ([p_s] : List (List UInt8)).length ([p_s] : List (List UInt8)).length]) (caps := []) hf (by kernel_rfl) (by kernel_rfl) (by kernel_rfl) (by kernel_rfl) (ref02_Build_ok (p_l := ([p_s] : List (List UInt8))) (hs.lend [0] [] rfl rfl rfl rfl rfl) hz3) ?_
      clear hf; clear a; intro v w5 a hT hf; obtain ⟨ao3, cp3, ao4, cp4, F3, rfl, hr⟩ := hT
      replace hs : Sep w F R w5 F1 [.row 5 (tI .u8) (.slice ao3 z3.1.length cp3) z3.1, .row 23 (tI .u64) (.slice ao4 z3.2.1.length cp4) z3.2.1, .row 9 tS (.slice (some ⟨w3.heap.size, 0, none⟩) ([p_s] : List (List UInt8)).length ([p_s] : List (List UInt8)).length) ([p_s] : List (List UInt8)), .row 5 (tI .u8) (.slice ao1 z2.1.length cp1) z2.1, .row 23 (tI .u64) (.slice ao2 z2.2.1.length cp2) z2.2.1] := hs.backL [0] [] [0, 1, 2] rfl rfl rfl rfl rfl rfl hr ⟨(flat_I .u8), ⟨(flat_I .u64), trivial⟩⟩
      clear hr
      replace hs : Sep w F R w5 F1 [.row 5 (tI .u8) (.slice ao3 z3.1.length cp3) z3.1, .row 23 (tI .u64) (.slice ao4 z3.2.1.length cp4) z3.2.1, .row 5 (tI .u8) (.slice ao1 z2.1.length cp1) z2.1, .row 23 (tI .u64) (.slice ao2 z2.2.1.length cp2) z2.2.1] := hs.sel [0, 1, 3, 4] rfl rfl
      replace hf := Fr.keep (ks := [0, 4, 5, 6, 29]) (L' := [(0, strV p_s), (4, .slice ao1 z2.1.length cp1), (5, .slice ao2 z2.2.1.length cp2), (6, .int .i64 z2.2.2), (29, .tuple #[.slice ao3 z3.1.length cp3, .slice ao4 z3.2.1.length cp4, .int .i64 z3.2.2])]) hf (by kernel_rfl)
      refine st tbOk 7 [0, 4, 5, 6, 7, 8, 9] (L' := [(0, strV p_s), (4, .slice ao1 z2.1.length cp1), (5, .slice ao2 z2.2.1.length cp2), (6, .int .i64 z2.2.2), (7, .slice ao3 z3.1.length cp3), (8, .slice ao4 z3.2.1.length cp4), (9, .int .i64 z3.2.2)]) hf (by kernel_rfl) ?_
      clear hf; clear a; intro a hf
      refine wpList_nil ?_
      refine sq ?_
      refine sq ?_
      refine ctj (fun (s1 : Bool) (a : Act) (w' : World) => ∃ (F4 : SH), Sep w F R w' F4 [.row 5 (tI .u8) (.slice ao1 z2.1.length cp1) z2.1, .row 23 (tI .u64) (.slice ao2 z2.2.1.length cp2) z2.2.1] ∧ Fr 79 [(0, strV p_s), (4, .slice ao1 z2.1.length cp1), (5, .slice ao2 z2.2.1.length cp2), (6, .int .i64 z2.2.2), (49, .bool s1)] a) hS ?_ ?_
      · clear hS hf hs; clear a; intro s1 a w6 hM hS
        obtain ⟨F4, hs, hf⟩ := hM
        refine cnd (b := s1) hf (by kernel_rfl) (fun hb5 => ?_) (fun hb5 => ?_)
        · replace hS := of_t hb5 hS
          refine sq ?_
          refine reg ?_
          refine st tbOk 1 [2] (L' := [(2, .bool false)]) hf (by kernel_rfl) ?_
          clear hf; clear a; intro a hf
          refine wpList_nil ?_
          have hr := Option.some.inj hS; subst hr
          refine wp_ret ?_
          exact ret_ok hf (vs := [.bool false]) (by kernel_rfl) ⟨_, rfl, hs.sel [] rfl rfl⟩
        · replace hS := of_f hb5 hS
          refine wp_skip ?_
          refine sq ?_
          refine sq ?_
          refine reg ?_
          refine st tbOk 2 [0, 4, 5, 51] (L' := [(0, strV p_s), (4, .slice ao1 z2.1.length cp1), (5, .slice ao2 z2.2.1.length cp2), (51, .bool (z2.2.2 != 0))]) hf (by kernel_rfl) ?_
          clear hf; clear a; intro a hf
          refine wpList_nil ?_
          refine cnd (b := z2.2.2 != 0) hf (by kernel_rfl) (fun hb6 => ?_) (fun hb6 => ?_)
          · replace hS := of_t hb6 hS
            refine sq ?_
            refine reg ?_
            refine st tbOk 4 [2] (L' := [(2, .bool (((z2.2.1.length : Nat) : Int) == 0))]) hf (by kernel_rfl) ?_
            clear hf; clear a; intro a hf
            refine wpList_nil ?_
            have hr := Option.some.inj hS; subst hr
            refine wp_ret ?_
            exact ret_ok hf (vs := [.bool (((z2.2.1.length : Nat) : Int) == 0)]) (by kernel_rfl) ⟨_, rfl, hs.sel [] rfl rfl⟩
          · replace hS := of_f hb6 hS
            refine wp_skip ?_
            refine sq ?_
            refine reg ?_
            refine st tbOk 1 [0, 4, 5, 10] (L' := [(0, strV p_s), (4, .slice ao1 z2.1.length cp1), (5, .slice ao2 z2.2.1.length cp2), (10, .int .u64 1)]) hf (by kernel_rfl) ?_
            clear hf; clear a; intro a hf
            refine wpList_nil ?_
            refine sq ?_
            refine sq ?_
            refine reg ?_
            refine st tbOk 2 [0, 4, 5, 10, 56] (L' := [(0, strV p_s), (4, .slice ao1 z2.1.length cp1), (5, .slice ao2 z2.2.1.length cp2), (10, .int .u64 1), (56, .bool (p_s == []))]) hf (by kernel_rfl) ?_
            clear hf; clear a; intro a hf
            refine wpList_nil ?_
            refine ctj (fun (s2 : Int) (a : Act) (w' : World) => ∃ (F5 : SH), Sep w F R w' F5 [.row 5 (tI .u8) (.slice ao1 z2.1.length cp1) z2.1, .row 23 (tI .u64) (.slice ao2 z2.2.1.length cp2) z2.2.1] ∧ Fr 79 [(0, strV p_s), (4, .slice ao1 z2.1.length cp1), (5, .slice ao2 z2.2.1.length cp2), (10, .int .u64 s2)] a) hS ?_ ?_
            · clear hS hf hs; clear a; intro s2 a w7 hM hS
              obtain ⟨F5, hs, hf⟩ := hM
              refine sq ?_
              refine reg ?_
              refine st tbOk 2 [0, 5, 10, 58, 59] (L' := [(0, strV p_s), (5, .slice ao2 z2.2.1.length cp2), (10, .int .u64 s2), (58, .slice ao1 z2.1.length cp1), (59, .slice ao2 z2.2.1.length cp2)]) hf (by kernel_rfl) ?_
              clear hf; clear a; intro a hf
              have hT := of_gd hS; clear hS; obtain ⟨hc1, hS⟩ := hT
              refine ixR tbOk u32 i23 rfl rfl (hs.raW 1 rfl) (k := .i64) (n := 0) hc1 hf (by kernel_rfl) (by kernel_rfl) (by kernel_rfl) (by kernel_rfl) ?_
              clear hf; clear a; intro pb1 po1 c1 a hp1 hr1 hf
              obtain rfl : c1 = [.int .u64 (gt z2.2.1 0)] := hr1
              replace hf := Fr.keep (ks := [0, 5, 10, 58, 60]) (L' := [(0, strV p_s), (5, .slice ao2 z2.2.1.length cp2), (10, .int .u64 s2), (58, .slice ao1 z2.1.length cp1), (60, .pointer (some ⟨pb1, po1, none⟩))]) hf (by kernel_rfl)
              refine ldC tbOk (T := 23) hp1 (LeH.refl _) 0 (.int .u64 (gt z2.2.1 0)) hf (by kernel_rfl) (by kernel_rfl) (by kernel_rfl) (by kernel_rfl) ?_
              clear hf; clear a; intro a hf
              replace hf := Fr.keep (ks := [0, 5, 10, 58, 61]) (L' := [(0, strV p_s), (5, .slice ao2 z2.2.1.length cp2), (10, .int .u64 s2), (58, .slice ao1 z2.1.length cp1), (61, .int .u64 (gt z2.2.1 0))]) hf (by kernel_rfl)
              have hT := of_bd hS; clear hS; obtain ⟨z4, hz4, hS⟩ := hT
              refine clV ent16 (vs := [.slice ao1 z2.1.length cp1, .int .u64 (gt z2.2.1 0)]) (caps := []) hf (by kernel_rfl) (by kernel_rfl) (by kernel_rfl) (by kernel_rfl) (names_At_ok (table := z2.1) (p_at := gt z2.2.1 0) (hs.lend [0] [] rfl rfl rfl rfl rfl) hz4) ?_
              clear hf; clear a; intro v w8 a hT hf; obtain ⟨F6, rfl, hr⟩ := hT
              replace hs : Sep w F R w8 F5 [.row 5 (tI .u8) (.slice ao1 z2.1.length cp1) z2.1, .row 23 (tI .u64) (.slice ao2 z2.2.1.length cp2) z2.2.1] := hs.backL [0] [] [0, 1] rfl rfl rfl rfl rfl rfl hr trivial
              clear hr
              replace hs : Sep w F R w8 F5 [.row 23 (tI .u64) (.slice ao2 z2.2.1.length cp2) z2.2.1] := hs.sel [1] rfl rfl
              replace hf := Fr.keep (ks := [0, 5, 10, 62]) (L' := [(0, strV p_s), (5, .slice ao2 z2.2.1.length cp2), (10, .int .u64 s2), (62, .tuple #[strV z4.1, .int .i64 z4.2])]) hf (by kernel_rfl)
              refine st tbOk 5 [0, 5, 10, 11, 12] (L' := [(0, strV p_s), (5, .slice ao2 z2.2.1.length cp2), (10, .int .u64 s2), (11, strV z4.1), (12, .int .i64 z4.2)]) hf (by kernel_rfl) ?_
              clear hf; clear a; intro a hf
              refine wpList_nil ?_
              refine sq ?_
              refine ctj (fun (s3 : Bool) (a : Act) (w' : World) => ∃ (F7 : SH), Sep w F R w' F7 [] ∧ Fr 79 [(2, .bool s3)] a) hS ?_ ?_
              · clear hS hf hs; clear a; intro s3 a w9 hM hS
                obtain ⟨F7, hs, hf⟩ := hM
                have hr := Option.some.inj hS; subst hr
                refine wp_ret ?_
                exact ret_ok hf (vs := [.bool s3]) (by kernel_rfl) ⟨_, rfl, hs.sel [] rfl rfl⟩
              · clear hS; intro KK3 k3 hK3 hS
                refine reg ?_
                refine st tbOk 1 [0, 10, 11, 12, 65] (L' := [(0, strV p_s), (10, .int .u64 s2), (11, strV z4.1), (12, .int .i64 z4.2), (65, .slice ao2 z2.2.1.length cp2)]) hf (by kernel_rfl) ?_
                clear hf; clear a; intro a hf
                have hT := of_gd hS; clear hS; obtain ⟨hc2, hS⟩ := hT
                refine ixR tbOk u32 i23 rfl rfl (hs.raW 0 rfl) (k := .i64) (n := 0) hc2 hf (by kernel_rfl) (by kernel_rfl) (by kernel_rfl) (by kernel_rfl) ?_
                clear hf; clear a; intro pb2 po2 c2 a hp2 hr2 hf
                obtain rfl : c2 = [.int .u64 (gt z2.2.1 0)] := hr2
                replace hs : Sep w F R w8 F5 [] := hs.sel [] rfl rfl
                replace hf := Fr.keep (ks := [0, 10, 11, 12, 66]) (L' := [(0, strV p_s), (10, .int .u64 s2), (11, strV z4.1), (12, .int .i64 z4.2), (66, .pointer (some ⟨pb2, po2, none⟩))]) hf (by kernel_rfl)
                refine ldC tbOk (T := 23) hp2 (LeH.refl _) 0 (.int .u64 (gt z2.2.1 0)) hf (by kernel_rfl) (by kernel_rfl) (by kernel_rfl) (by kernel_rfl) ?_
                clear hf; clear a; intro a hf
                replace hf := Fr.keep (ks := [0, 10, 11, 12, 67]) (L' := [(0, strV p_s), (10, .int .u64 s2), (11, strV z4.1), (12, .int .i64 z4.2), (67, .int .u64 (gt z2.2.1 0))]) hf (by kernel_rfl)
                refine st tbOk 3 [0, 11, 12, 70] (L' := [(0, strV p_s), (11, strV z4.1), (12, .int .i64 z4.2), (70, .bool ((gt z2.2.1 0) == s2))]) hf (by kernel_rfl) ?_
                clear hf; clear a; intro a hf
                rcases Bool.eq_false_or_eq_true ((gt z2.2.1 0) == s2) with hb8 | hb8
                · replace hS := of_t hb8 hS
                  replace hf := Fr.cast (L' := [(0, strV p_s), (11, strV z4.1), (12, .int .i64 z4.2), (70, .bool true)]) hf (by rw [hb8])
                  refine st tbOk 5 [12, 75] (L' := [(12, .int .i64 z4.2), (75, .bool (z4.1 == p_s))]) hf (by kernel_rfl) ?_
                  clear hf; clear a; intro a hf
                  rcases Bool.eq_false_or_eq_true (z4.1 == p_s) with hb9 | hb9
                  · replace hS := of_t hb9 hS
                    replace hf := Fr.cast (L' := [(12, .int .i64 z4.2), (75, .bool true)]) hf (by rw [hb9])
                    refine st tbOk 4 [2] (L' := [(2, .bool (z4.2 == 0))]) hf (by kernel_rfl) ?_
                    clear hf; clear a; intro a hf
                    refine wpList_nil ?_
                    exact hK3 (z4.2 == 0) _ _ ⟨_, hs.sel [] rfl rfl, hf.keep (ks := [2]) (by kernel_rfl)⟩ hS
                  · replace hS := of_f hb9 hS
                    replace hf := Fr.cast (L' := [(12, .int .i64 z4.2), (75, .bool false)]) hf (by rw [hb9])
                    refine st tbOk 4 [2] (L' := [(2, .bool false)]) hf (by kernel_rfl) ?_
                    clear hf; clear a; intro a hf
                    refine wpList_nil ?_
                    exact hK3 false _ _ ⟨_, hs.sel [] rfl rfl, hf.keep (ks := [2]) (by kernel_rfl)⟩ hS
                · replace hS := of_f hb8 hS
                  replace hf := Fr.cast (L' := [(0, strV p_s), (11, strV z4.1), (12, .int .i64 z4.2), (70, .bool false)]) hf (by rw [hb8])
                  refine st tbOk 9 [2] (L' := [(2, .bool false)]) hf (by kernel_rfl) ?_
                  clear hf; clear a; intro a hf
                  refine wpList_nil ?_
                  exact hK3 false _ _ ⟨_, hs.sel [] rfl rfl, hf.keep (ks := [2]) (by kernel_rfl)⟩ hS
            · clear hS; intro KK2 k2 hK2 hS
              refine cnd (b := p_s == []) hf (by kernel_rfl) (fun hb7 => ?_) (fun hb7 => ?_)
              · replace hS := of_t hb7 hS
                refine reg ?_
                refine st tbOk 1 [0, 4, 5, 10] (L' := [(0, strV p_s), (4, .slice ao1 z2.1.length cp1), (5, .slice ao2 z2.2.1.length cp2), (10, .int .u64 0)]) hf (by kernel_rfl) ?_
                clear hf; clear a; intro a hf
                refine wpList_nil ?_
                exact hK2 0 _ _ ⟨_, hs.sel [0, 1] rfl rfl, hf.keep (ks := [0, 4, 5, 10]) (by kernel_rfl)⟩ hS
              · replace hS := of_f hb7 hS
                refine wp_skip ?_
                exact hK2 1 _ _ ⟨_, hs.sel [0, 1] rfl rfl, hf.keep (ks := [0, 4, 5, 10]) (by kernel_rfl)⟩ hS
      · clear hS; intro KK1 k1 hK1 hS
        refine reg ?_
        refine st tbOk 4 [0, 4, 5, 6, 7, 8, 36] (L' := [(0, strV p_s), (4, .slice ao1 z2.1.length cp1), (5, .slice ao2 z2.2.1.length cp2), (6, .int .i64 z2.2.2), (7, .slice ao3 z3.1.length cp3), (8, .slice ao4 z3.2.1.length cp4), (36, .bool (z2.2.2 != z3.2.2))]) hf (by kernel_rfl) ?_
        clear hf; clear a; intro a hf
        rcases Bool.eq_false_or_eq_true (z2.2.2 != z3.2.2) with hb3 | hb3
        · replace hS := of_t hb3 hS
          replace hf := Fr.cast (L' := [(0, strV p_s), (4, .slice ao1 z2.1.length cp1), (5, .slice ao2 z2.2.1.length cp2), (6, .int .i64 z2.2.2), (7, .slice ao3 z3.1.length cp3), (8, .slice ao4 z3.2.1.length cp4), (36, .bool true)]) hf (by rw [hb3])
          refine st tbOk 13 [0, 4, 5, 6, 49] (L' := [(0, strV p_s), (4, .slice ao1 z2.1.length cp1), (5, .slice ao2 z2.2.1.length cp2), (6, .int .i64 z2.2.2), (49, .bool true)]) hf (by kernel_rfl) ?_
          clear hf; clear a; intro a hf
          refine wpList_nil ?_
          exact hK1 true _ _ ⟨_, hs.sel [2, 3] rfl rfl, hf.keep (ks := [0, 4, 5, 6, 49]) (by kernel_rfl)⟩ hS
        · replace hS := of_f hb3 hS
          replace hf := Fr.cast (L' := [(0, strV p_s), (4, .slice ao1 z2.1.length cp1), (5, .slice ao2 z2.2.1.length cp2), (6, .int .i64 z2.2.2), (7, .slice ao3 z3.1.length cp3), (8, .slice ao4 z3.2.1.length cp4), (36, .bool false)]) hf (by rw [hb3])
          refine st tbOk 1 [0, 4, 5, 6, 7, 8, 36, 37] (L' := [(0, strV p_s), (4, .slice ao1 z2.1.length cp1), (5, .slice ao2 z2.2.1.length cp2), (6, .int .i64 z2.2.2), (7, .slice ao3 z3.1.length cp3), (8, .slice ao4 z3.2.1.length cp4), (36, .bool false), (37, .slice ao1 z2.1.length cp1)]) hf (by kernel_rfl) ?_
          clear hf; clear a; intro a hf
          refine b2sR tbOk u22 u5 u9 (hs.raW 2 rfl) hf (by kernel_rfl) (by kernel_rfl) (by kernel_rfl) ?_
          clear hf; clear a; intro a hf
          replace hf := Fr.keep (ks := [0, 4, 5, 6, 7, 8, 36, 38]) (L' := [(0, strV p_s), (4, .slice ao1 z2.1.length cp1), (5, .slice ao2 z2.2.1.length cp2), (6, .int .i64 z2.2.2), (7, .slice ao3 z3.1.length cp3), (8, .slice ao4 z3.2.1.length cp4), (36, .bool false), (38, strV (toStr z2.1))]) hf (by kernel_rfl)
          refine st tbOk 1 [0, 4, 5, 6, 8, 36, 38, 39] (L' := [(0, strV p_s), (4, .slice ao1 z2.1.length cp1), (5, .slice ao2 z2.2.1.length cp2), (6, .int .i64 z2.2.2), (8, .slice ao4 z3.2.1.length cp4), (36, .bool false), (38, strV (toStr z2.1)), (39, .slice ao3 z3.1.length cp3)]) hf (by kernel_rfl) ?_
          clear hf; clear a; intro a hf
          refine b2sR tbOk u22 u5 u9 (hs.raW 0 rfl) hf (by kernel_rfl) (by kernel_rfl) (by kernel_rfl) ?_
          clear hf; clear a; intro a hf
          replace hs : Sep w F R w5 F1 [.row 23 (tI .u64) (.slice ao4 z3.2.1.length cp4) z3.2.1, .row 5 (tI .u8) (.slice ao1 z2.1.length cp1) z2.1, .row 23 (tI .u64) (.slice ao2 z2.2.1.length cp2) z2.2.1] := hs.sel [1, 2, 3] rfl rfl
          replace hf := Fr.keep (ks := [0, 4, 5, 6, 8, 36, 38, 40]) (L' := [(0, strV p_s), (4, .slice ao1 z2.1.length cp1), (5, .slice ao2 z2.2.1.length cp2), (6, .int .i64 z2.2.2), (8, .slice ao4 z3.2.1.length cp4), (36, .bool false), (38, strV (toStr z2.1)), (40, strV (toStr z3.1))]) hf (by kernel_rfl)
          refine st tbOk 3 [0, 4, 5, 6, 8, 43] (L' := [(0, strV p_s), (4, .slice ao1 z2.1.length cp1), (5, .slice ao2 z2.2.1.length cp2), (6, .int .i64 z2.2.2), (8, .slice ao4 z3.2.1.length cp4), (43, .bool (!((toStr z2.1) == (toStr z3.1))))]) hf (by kernel_rfl) ?_
          clear hf; clear a; intro a hf
          rcases Bool.eq_false_or_eq_true (!((toStr z2.1) == (toStr z3.1))) with hb4 | hb4
          · replace hS := of_t hb4 hS
            replace hf := Fr.cast (L' := [(0, strV p_s), (4, .slice ao1 z2.1.length cp1), (5, .slice ao2 z2.2.1.length cp2), (6, .int .i64 z2.2.2), (8, .slice ao4 z3.2.1.length cp4), (43, .bool true)]) hf (by rw [hb4])
            refine st tbOk 6 [0, 4, 5, 6, 49] (L' := [(0, strV p_s), (4, .slice ao1 z2.1.length cp1), (5, .slice ao2 z2.2.1.length cp2), (6, .int .i64 z2.2.2), (49, .bool true)]) hf (by kernel_rfl) ?_
            clear hf; clear a; intro a hf
            refine wpList_nil ?_
            exact hK1 true _ _ ⟨_, hs.sel [1, 2] rfl rfl, hf.keep (ks := [0, 4, 5, 6, 49]) (by kernel_rfl)⟩ hS
          · replace hS := of_f hb4 hS
            replace hf := Fr.cast (L' := [(0, strV p_s), (4, .slice ao1 z2.1.length cp1), (5, .slice ao2 z2.2.1.length cp2), (6, .int .i64 z2.2.2), (8, .slice ao4 z3.2.1.length cp4), (43, .bool false)]) hf (by rw [hb4])
            refine st tbOk 6 [0, 4, 5, 6, 49] (L' := [(0, strV p_s), (4, .slice ao1 z2.1.length cp1), (5, .slice ao2 z2.2.1.length cp2), (6, .int .i64 z2.2.2), (49, .bool (((z2.2.1.length : Nat) : Int) != ((z3.2.1.length : Nat) : Int)))]) hf (by kernel_rfl) ?_
            clear hf; clear a; intro a hf
            refine wpList_nil ?_
            exact hK1 (((z2.2.1.length : Nat) : Int) != ((z3.2.1.length : Nat) : Int)) _ _ ⟨_, hs.sel [1, 2] rfl rfl, hf.keep (ks := [0, 4, 5, 6, 49]) (by kernel_rfl)⟩ hS

end Dm
