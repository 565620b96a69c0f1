/-
  The walk of the law NamesBack; printed by a program of this repo. No condition.
-/
import Derived.Test.YtmlghbdlhjinaaaWT
import Derived.Test.YtmlghbdlhjinaaaW1
import Derived.Test.YtmlghbdlhjinaaaW3
namespace Dm
open Go Go.RowKit Go.Proofs

set_option maxHeartbeats 4000000 in
theorem law02_NamesBack_ok {w : World} {F : SH} {p_l : List (List UInt8)} {ao1 : Option Addr} {cp1 : Nat} (hs : Sep w F (blks [.ro tS (.slice ao1 p_l.length cp1) p_l]) w F [.ro tS (.slice ao1 p_l.length cp1) p_l]) {r : Bool} (hS : law02_NamesBack p_l = some r) :
    Calls Try.prog 5 [.slice ao1 p_l.length cp1].toArray w (Gives (fun u w' => ∃ (F' : SH), u = .bool r ∧ Sep w F (blks [.ro tS (.slice ao1 p_l.length cp1) p_l]) w' F' [])) := by
  generalize (blks [.ro tS (.slice ao1 p_l.length cp1) p_l]) = R at hs ⊢
  unfold law02_NamesBack at hS
  refine fn_ok (vs := [.slice ao1 p_l.length cp1]) Try.func5 rfl 68 Try.ntmps5 (Nat.le_of_ble_eq_true rfl) ?_
  intro a hf
  replace hf := Fr.cast (L' := [(0, .slice ao1 p_l.length cp1)]) hf (by kernel_rfl)
  refine sq ?_
  refine reg ?_
  refine st tbOk 1 [0] (L' := [(0, .slice ao1 p_l.length cp1)]) hf (by kernel_rfl) ?_
  clear hf; clear a; intro a hf
  refine wpList_nil ?_
  refine sq ?_
  refine reg ?_
  have hT := of_bd hS; clear hS; obtain ⟨z1, hz1, hS⟩ := hT
  refine clV ent15 (vs := []) (caps := []) hf (by kernel_rfl) (by kernel_rfl) (by kernel_rfl) (by kernel_rfl) (law02_awake_ok (hs.enter [] rfl rfl) hz1) ?_
  clear hf; clear a; intro v w1 a hT hf; obtain ⟨F1, rfl, hr⟩ := hT
  replace hs : Sep w F R w1 F1 [.ro tS (.slice ao1 p_l.length cp1) p_l] := hs.back [] [0] rfl rfl rfl rfl hr
  clear hr
  replace hf := Fr.keep (ks := [0, 11]) (L' := [(0, .slice ao1 p_l.length cp1), (11, .bool z1)]) hf (by kernel_rfl)
  refine st tbOk 1 [0, 3] (L' := [(0, .slice ao1 p_l.length cp1), (3, .bool z1)]) hf (by kernel_rfl) ?_
  clear hf; clear a; intro a hf
  refine wpList_nil ?_
  refine sq ?_
  refine sq ?_
  refine reg ?_
  refine st tbOk 2 [0, 13] (L' := [(0, .slice ao1 p_l.length cp1), (13, .bool (!z1))]) hf (by kernel_rfl) ?_
  clear hf; clear a; intro a hf
  refine wpList_nil ?_
  refine cnd (b := !z1) hf (by kernel_rfl) (fun hb1 => ?_) (fun hb1 => ?_)
  · replace hS := of_t hb1 hS
    refine sq ?_
    refine reg ?_
    refine st tbOk 1 [2] (L' := [(2, .bool false)]) hf (by kernel_rfl) ?_
    clear hf; clear a; intro a hf
    refine wpList_nil ?_
    have hr := Option.some.inj hS; subst hr
    refine wp_ret ?_
    exact ret_ok hf (vs := [.bool false]) (by kernel_rfl) ⟨_, rfl, hs.sel [] rfl rfl⟩
  · replace hS := of_f hb1 hS
    refine wp_skip ?_
    refine sq ?_
    refine reg ?_
    refine st tbOk 1 [0, 14] (L' := [(0, .slice ao1 p_l.length cp1), (14, .slice ao1 p_l.length cp1)]) hf (by kernel_rfl) ?_
    clear hf; clear a; intro a hf
    have hT := of_bd hS; clear hS; obtain ⟨z2, hz2, hS⟩ := hT
    refine clV ent20 (vs := [.slice ao1 p_l.length cp1]) (caps := []) hf (by kernel_rfl) (by kernel_rfl) (by kernel_rfl) (by kernel_rfl) (law02_long_ok (p_l := p_l) (hs.enter [0] rfl rfl) hz2) ?_
    clear hf; clear a; intro v w2 a hT hf; obtain ⟨F2, rfl, hr⟩ := hT
    replace hs : Sep w F R w2 F2 [.ro tS (.slice ao1 p_l.length cp1) p_l] := hs.back [0] [0] rfl rfl rfl rfl hr
    clear hr
    replace hf := Fr.keep (ks := [0, 15]) (L' := [(0, .slice ao1 p_l.length cp1), (15, .bool z2)]) hf (by kernel_rfl)
    refine st tbOk 1 [0, 4] (L' := [(0, .slice ao1 p_l.length cp1), (4, .bool z2)]) hf (by kernel_rfl) ?_
    clear hf; clear a; intro a hf
    refine wpList_nil ?_
    refine sq ?_
    refine sq ?_
    refine reg ?_
    refine st tbOk 1 [0, 16] (L' := [(0, .slice ao1 p_l.length cp1), (16, .bool z2)]) hf (by kernel_rfl) ?_
    clear hf; clear a; intro a hf
    refine wpList_nil ?_
    refine cnd (b := z2) hf (by kernel_rfl) (fun hb2 => ?_) (fun hb2 => ?_)
    · replace hS := of_t hb2 hS
      refine sq ?_
      refine reg ?_
      refine st tbOk 1 [2] (L' := [(2, .bool true)]) hf (by kernel_rfl) ?_
      clear hf; clear a; intro a hf
      refine wpList_nil ?_
      have hr := Option.some.inj hS; subst hr
      refine wp_ret ?_
      exact ret_ok hf (vs := [.bool true]) (by kernel_rfl) ⟨_, rfl, hs.sel [] rfl rfl⟩
    · replace hS := of_f hb2 hS
      refine wp_skip ?_
      refine sq ?_
      refine reg ?_
      refine st tbOk 1 [0, 18] (L' := [(0, .slice ao1 p_l.length cp1), (18, .slice ao1 p_l.length cp1)]) hf (by kernel_rfl) ?_
      clear hf; clear a; intro a hf
      have hT := of_bd hS; clear hS; obtain ⟨z3, hz3, hS⟩ := hT
      refine clV ent21 (vs := [.slice ao1 p_l.length cp1]) (caps := []) hf (by kernel_rfl) (by kernel_rfl) (by kernel_rfl) (by kernel_rfl) (names_Build_ok (p_l := p_l) (hs.enter [0] rfl rfl) hz3) ?_
      clear hf; clear a; intro v w3 a hT hf; obtain ⟨ao2, cp2, ao3, cp3, F3, rfl, hr⟩ := hT
      replace hs : Sep w F R w3 F3 [.row 5 (tI .u8) (.slice ao2 z3.1.length cp2) z3.1, .row 23 (tI .u64) (.slice ao3 z3.2.1.length cp3) z3.2.1, .ro tS (.slice ao1 p_l.length cp1) p_l] := hs.back [0] [0] rfl rfl rfl rfl hr
      clear hr
      replace hf := Fr.keep (ks := [0, 19]) (L' := [(0, .slice ao1 p_l.length cp1), (19, .tuple #[.slice ao2 z3.1.length cp2, .slice ao3 z3.2.1.length cp3, .int .i64 z3.2.2])]) hf (by kernel_rfl)
      refine st tbOk 7 [0, 5, 6, 7] (L' := [(0, .slice ao1 p_l.length cp1), (5, .slice ao2 z3.1.length cp2), (6, .slice ao3 z3.2.1.length cp3), (7, .int .i64 z3.2.2)]) hf (by kernel_rfl) ?_
      clear hf; clear a; intro a hf
      refine wpList_nil ?_
      refine sq ?_
      refine sq ?_
      refine reg ?_
      refine st tbOk 2 [0, 5, 6, 24] (L' := [(0, .slice ao1 p_l.length cp1), (5, .slice ao2 z3.1.length cp2), (6, .slice ao3 z3.2.1.length cp3), (24, .bool (z3.2.2 != 0))]) hf (by kernel_rfl) ?_
      clear hf; clear a; intro a hf
      refine wpList_nil ?_
      refine cnd (b := z3.2.2 != 0) hf (by kernel_rfl) (fun hb3 => ?_) (fun hb3 => ?_)
      · replace hS := of_t hb3 hS
        refine sq ?_
        refine ctj (fun (s1 : Bool) (a : Act) (w' : World) => ∃ (F4 : SH), Sep w F R w' F4 [] ∧ Fr 68 [(2, .bool s1)] a) hS ?_ ?_
        · clear hS hf hs; clear a; intro s1 a w4 hM hS
          obtain ⟨F4, hs, hf⟩ := hM
          have hr := Option.some.inj hS; subst hr
          refine wp_ret ?_
          exact ret_ok hf (vs := [.bool s1]) (by kernel_rfl) ⟨_, rfl, hs.sel [] rfl rfl⟩
        · clear hS; intro KK1 k1 hK1 hS
          refine reg ?_
          refine st tbOk 4 [6, 28] (L' := [(6, .slice ao3 z3.2.1.length cp3), (28, .bool (((z3.1.length : Nat) : Int) == 0))]) hf (by kernel_rfl) ?_
          clear hf; clear a; intro a hf
          rcases Bool.eq_false_or_eq_true (((z3.1.length : Nat) : Int) == 0) with hb4 | hb4
          · replace hS := of_t hb4 hS
            replace hf := Fr.cast (L' := [(6, .slice ao3 z3.2.1.length cp3), (28, .bool true)]) hf (by rw [hb4])
            refine st tbOk 5 [2] (L' := [(2, .bool (((z3.2.1.length : Nat) : Int) == 0))]) hf (by kernel_rfl) ?_
            clear hf; clear a; intro a hf
            refine wpList_nil ?_
            exact hK1 (((z3.2.1.length : Nat) : Int) == 0) _ _ ⟨_, hs.sel [] rfl rfl, hf.keep (ks := [2]) (by kernel_rfl)⟩ hS
          · replace hS := of_f hb4 hS
            replace hf := Fr.cast (L' := [(6, .slice ao3 z3.2.1.length cp3), (28, .bool false)]) hf (by rw [hb4])
            refine st tbOk 5 [2] (L' := [(2, .bool false)]) hf (by kernel_rfl) ?_
            clear hf; clear a; intro a hf
            refine wpList_nil ?_
            exact hK1 false _ _ ⟨_, hs.sel [] rfl rfl, hf.keep (ks := [2]) (by kernel_rfl)⟩ hS
      · replace hS := of_f hb3 hS
        refine wp_skip ?_
        refine sq ?_
        refine sq ?_
        refine ctj (fun (s2 : Bool) (a : Act) (w' : World) => ∃ (F5 : SH), Sep w F R w' F5 [.row 5 (tI .u8) (.slice ao2 z3.1.length cp2) z3.1, .row 23 (tI .u64) (.slice ao3 z3.2.1.length cp3) z3.2.1, .ro tS (.slice ao1 p_l.length cp1) p_l] ∧ Fr 68 [(0, .slice ao1 p_l.length cp1), (5, .slice ao2 z3.1.length cp2), (6, .slice ao3 z3.2.1.length cp3), (42, .bool s2)] a) hS ?_ ?_
        · clear hS hf hs; clear a; intro s2 a w6 hM hS
          obtain ⟨F5, hs, hf⟩ := hM
          refine cnd (b := s2) hf (by kernel_rfl) (fun hb6 => ?_) (fun hb6 => ?_)
          · replace hS := of_t hb6 hS
            refine sq ?_
            refine reg ?_
            refine st tbOk 1 [2] (L' := [(2, .bool false)]) hf (by kernel_rfl) ?_
            clear hf; clear a; intro a hf
            refine wpList_nil ?_
            have hr := Option.some.inj hS; subst hr
            refine wp_ret ?_
            exact ret_ok hf (vs := [.bool false]) (by kernel_rfl) ⟨_, rfl, hs.sel [] rfl rfl⟩
          · replace hS := of_f hb6 hS
            refine wp_skip ?_
            refine sq ?_
            refine sq ?_
            refine reg ?_
            refine st tbOk 1 [0, 5, 6, 8] (L' := [(0, .slice ao1 p_l.length cp1), (5, .slice ao2 z3.1.length cp2), (6, .slice ao3 z3.2.1.length cp3), (8, .int .i64 0)]) hf (by kernel_rfl) ?_
            clear hf; clear a; intro a hf
            refine wpList_nil ?_
            refine ctj (fun (s3 : Unit) (a : Act) (w' : World) => ∃ (F7 : SH), Sep w F R w' F7 [] ∧ Fr 68 [] a) hS ?_ ?_
            · clear hS hf hs; clear a; intro s3 a w10 hM hS
              obtain ⟨F7, hs, hf⟩ := hM
              refine sq ?_
              refine reg ?_
              refine st tbOk 1 [2] (L' := [(2, .bool true)]) hf (by kernel_rfl) ?_
              clear hf; clear a; intro a hf
              refine wpList_nil ?_
              have hr := Option.some.inj hS; subst hr
              refine wp_ret ?_
              exact ret_ok hf (vs := [.bool true]) (by kernel_rfl) ⟨_, rfl, hs.sel [] rfl rfl⟩
            · clear hS; intro KK3 k3 hK3 hS
              refine blk ?_
              refine lp (st := 0) (fun (s4 : Int) (a : Act) (w' : World) => ∃ (F8 : SH), Sep w F R w' F8 [.row 5 (tI .u8) (.slice ao2 z3.1.length cp2) z3.1, .row 23 (tI .u64) (.slice ao3 z3.2.1.length cp3) z3.2.1, .ro tS (.slice ao1 p_l.length cp1) p_l] ∧ Fr 68 [(0, .slice ao1 p_l.length cp1), (5, .slice ao2 z3.1.length cp2), (6, .slice ao3 z3.2.1.length cp3), (8, .int .i64 s4)] a) ?_ ⟨_, hs.sel [0, 1, 2] rfl rfl, hf.keep (ks := [0, 5, 6, 8]) (by kernel_rfl)⟩ hS
              clear hS hf hs; clear a
              intro rec1 KK4 hK4 s4 a w7 hM hS
              obtain ⟨F8, hs, hf⟩ := hM
              refine sq ?_
              refine sq ?_
              refine reg ?_
              refine st tbOk 4 [0, 5, 6, 8, 46] (L' := [(0, .slice ao1 p_l.length cp1), (5, .slice ao2 z3.1.length cp2), (6, .slice ao3 z3.2.1.length cp3), (8, .int .i64 s4), (46, .bool (decide (s4 < ((p_l.length : Nat) : Int))))]) hf (by kernel_rfl) ?_
              clear hf; clear a; intro a hf
              refine wpList_nil ?_
              refine cnd (b := decide (s4 < ((p_l.length : Nat) : Int))) hf (by kernel_rfl) (fun hb7 => ?_) (fun hb7 => ?_)
              · replace hS := of_t hb7 hS
                refine wp_skip ?_
                refine sq ?_
                refine blk ?_
                refine sq ?_
                refine reg ?_
                refine st tbOk 3 [0, 5, 6, 8, 50, 51, 52] (L' := [(0, .slice ao1 p_l.length cp1), (5, .slice ao2 z3.1.length cp2), (6, .slice ao3 z3.2.1.length cp3), (8, .int .i64 s4), (50, .slice ao2 z3.1.length cp2), (51, .slice ao3 z3.2.1.length cp3), (52, .int .i64 s4)]) hf (by kernel_rfl) ?_
                clear hf; clear a; intro a hf
                have hT := of_gd hS; clear hS; obtain ⟨hc1, hS⟩ := hT
                refine ixR tbOk u32 i23 rfl rfl (hs.raW 1 rfl) (k := .i64) (n := s4) hc1 hf (by kernel_rfl) (by kernel_rfl) (by kernel_rfl) (by kernel_rfl) ?_
                clear hf; clear a; intro pb1 po1 c1 a hp1 hr1 hf
                obtain rfl : c1 = [.int .u64 (gt z3.2.1 s4)] := hr1
                replace hf := Fr.keep (ks := [0, 5, 6, 8, 50, 53]) (L' := [(0, .slice ao1 p_l.length cp1), (5, .slice ao2 z3.1.length cp2), (6, .slice ao3 z3.2.1.length cp3), (8, .int .i64 s4), (50, .slice ao2 z3.1.length cp2), (53, .pointer (some ⟨pb1, po1, none⟩))]) hf (by kernel_rfl)
                refine ldC tbOk (T := 23) hp1 (LeH.refl _) 0 (.int .u64 (gt z3.2.1 s4)) hf (by kernel_rfl) (by kernel_rfl) (by kernel_rfl) (by kernel_rfl) ?_
                clear hf; clear a; intro a hf
                replace hf := Fr.keep (ks := [0, 5, 6, 8, 50, 54]) (L' := [(0, .slice ao1 p_l.length cp1), (5, .slice ao2 z3.1.length cp2), (6, .slice ao3 z3.2.1.length cp3), (8, .int .i64 s4), (50, .slice ao2 z3.1.length cp2), (54, .int .u64 (gt z3.2.1 s4))]) hf (by kernel_rfl)
                have hT := of_bd hS; clear hS; obtain ⟨z5, hz5, hS⟩ := hT
                refine clV ent16 (vs := [.slice ao2 z3.1.length cp2, .int .u64 (gt z3.2.1 s4)]) (caps := []) hf (by kernel_rfl) (by kernel_rfl) (by kernel_rfl) (by kernel_rfl) (names_At_ok (table := z3.1) (p_at := gt z3.2.1 s4) (hs.lend [0] [] rfl rfl rfl rfl rfl) hz5) ?_
                clear hf; clear a; intro v w8 a hT hf; obtain ⟨F9, rfl, hr⟩ := hT
                replace hs : Sep w F R w8 F8 [.row 5 (tI .u8) (.slice ao2 z3.1.length cp2) z3.1, .row 23 (tI .u64) (.slice ao3 z3.2.1.length cp3) z3.2.1, .ro tS (.slice ao1 p_l.length cp1) p_l] := hs.backL [0] [] [0, 1, 2] rfl rfl rfl rfl rfl rfl hr trivial
                clear hr
                replace hf := Fr.keep (ks := [0, 5, 6, 8, 55]) (L' := [(0, .slice ao1 p_l.length cp1), (5, .slice ao2 z3.1.length cp2), (6, .slice ao3 z3.2.1.length cp3), (8, .int .i64 s4), (55, .tuple #[strV z5.1, .int .i64 z5.2])]) hf (by kernel_rfl)
                refine st tbOk 5 [0, 5, 6, 8, 9, 10] (L' := [(0, .slice ao1 p_l.length cp1), (5, .slice ao2 z3.1.length cp2), (6, .slice ao3 z3.2.1.length cp3), (8, .int .i64 s4), (9, strV z5.1), (10, .int .i64 z5.2)]) hf (by kernel_rfl) ?_
                clear hf; clear a; intro a hf
                refine wpList_nil ?_
                refine sq ?_
                refine ctj (fun (s5 : Bool) (a : Act) (w' : World) => ∃ (F10 : SH), Sep w F R w' F10 [.row 5 (tI .u8) (.slice ao2 z3.1.length cp2) z3.1, .row 23 (tI .u64) (.slice ao3 z3.2.1.length cp3) z3.2.1, .ro tS (.slice ao1 p_l.length cp1) p_l] ∧ Fr 68 [(0, .slice ao1 p_l.length cp1), (5, .slice ao2 z3.1.length cp2), (6, .slice ao3 z3.2.1.length cp3), (8, .int .i64 s4), (67, .bool s5)] a) hS ?_ ?_
                · clear hS hf hs; clear a; intro s5 a w9 hM hS
                  obtain ⟨F10, hs, hf⟩ := hM
                  refine cnd (b := s5) hf (by kernel_rfl) (fun hb9 => ?_) (fun hb9 => ?_)
                  · replace hS := of_t hb9 hS
                    refine sq ?_
                    refine reg ?_
                    refine st tbOk 1 [2] (L' := [(2, .bool false)]) hf (by kernel_rfl) ?_
                    clear hf; clear a; intro a hf
                    refine wpList_nil ?_
                    have hr := Option.some.inj hS; subst hr
                    refine wp_ret ?_
                    exact ret_ok hf (vs := [.bool false]) (by kernel_rfl) ⟨_, rfl, hs.sel [] rfl rfl⟩
                  · replace hS := of_f hb9 hS
                    refine wp_skip ?_
                    refine reg ?_
                    have hT := of_let hS; clear hS; obtain ⟨i_1, hl1, hS⟩ := hT
                    refine st tbOk 3 [0, 5, 6, 8] (L' := [(0, .slice ao1 p_l.length cp1), (5, .slice ao2 z3.1.length cp2), (6, .slice ao3 z3.2.1.length cp3), (8, .int .i64 i_1)]) hf (by subst hl1; kernel_rfl) ?_
                    clear hf; clear a; intro a hf
                    refine wpList_nil ?_
                    exact hK4 i_1 _ _ ⟨_, hs.sel [0, 1, 2] rfl rfl, hf.keep (ks := [0, 5, 6, 8]) (by kernel_rfl)⟩ hS
                · clear hS; intro KK5 k4 hK5 hS
                  refine reg ?_
                  refine st tbOk 3 [0, 5, 6, 8, 9, 60] (L' := [(0, .slice ao1 p_l.length cp1), (5, .slice ao2 z3.1.length cp2), (6, .slice ao3 z3.2.1.length cp3), (8, .int .i64 s4), (9, strV z5.1), (60, .bool (z5.2 != 0))]) hf (by kernel_rfl) ?_
                  clear hf; clear a; intro a hf
                  rcases Bool.eq_false_or_eq_true (z5.2 != 0) with hb8 | hb8
                  · replace hS := of_t hb8 hS
                    replace hf := Fr.cast (L' := [(0, .slice ao1 p_l.length cp1), (5, .slice ao2 z3.1.length cp2), (6, .slice ao3 z3.2.1.length cp3), (8, .int .i64 s4), (9, strV z5.1), (60, .bool true)]) hf (by rw [hb8])
                    refine st tbOk 7 [0, 5, 6, 8, 67] (L' := [(0, .slice ao1 p_l.length cp1), (5, .slice ao2 z3.1.length cp2), (6, .slice ao3 z3.2.1.length cp3), (8, .int .i64 s4), (67, .bool true)]) hf (by kernel_rfl) ?_
                    clear hf; clear a; intro a hf
                    refine wpList_nil ?_
                    exact hK5 true _ _ ⟨_, hs.sel [0, 1, 2] rfl rfl, hf.keep (ks := [0, 5, 6, 8, 67]) (by kernel_rfl)⟩ hS
                  · replace hS := of_f hb8 hS
                    replace hf := Fr.cast (L' := [(0, .slice ao1 p_l.length cp1), (5, .slice ao2 z3.1.length cp2), (6, .slice ao3 z3.2.1.length cp3), (8, .int .i64 s4), (9, strV z5.1), (60, .bool false)]) hf (by rw [hb8])
                    refine st tbOk 3 [0, 5, 6, 8, 60, 61, 62, 63] (L' := [(0, .slice ao1 p_l.length cp1), (5, .slice ao2 z3.1.length cp2), (6, .slice ao3 z3.2.1.length cp3), (8, .int .i64 s4), (60, .bool false), (61, strV z5.1), (62, .slice ao1 p_l.length cp1), (63, .int .i64 s4)]) hf (by kernel_rfl) ?_
                    clear hf; clear a; intro a hf
                    have hT := of_gd hS; clear hS; obtain ⟨hc2, hS⟩ := hT
                    refine ixR tbOk u30 i9 rfl rfl ((hs.ro 2 rfl).ra (LeH.refl _)) (k := .i64) (n := s4) hc2 hf (by kernel_rfl) (by kernel_rfl) (by kernel_rfl) (by kernel_rfl) ?_
                    clear hf; clear a; intro pb2 po2 c2 a hp2 hr2 hf
                    obtain rfl : c2 = [strV (gt p_l s4)] := hr2
                    replace hs : Sep w F R w8 F8 [.cel pb2 po2 [strV (gt p_l s4)], .row 5 (tI .u8) (.slice ao2 z3.1.length cp2) z3.1, .row 23 (tI .u64) (.slice ao3 z3.2.1.length cp3) z3.2.1, .ro tS (.slice ao1 p_l.length cp1) p_l] := hs.addCel hp2
                    replace hf := Fr.keep (ks := [0, 5, 6, 8, 60, 61, 64]) (L' := [(0, .slice ao1 p_l.length cp1), (5, .slice ao2 z3.1.length cp2), (6, .slice ao3 z3.2.1.length cp3), (8, .int .i64 s4), (60, .bool false), (61, strV z5.1), (64, .pointer (some ⟨pb2, po2, none⟩))]) hf (by kernel_rfl)
                    refine ldC tbOk (T := 9) (hs.ccel 0 rfl) (LeH.refl _) 0 (strV (gt p_l s4)) hf (by kernel_rfl) (by kernel_rfl) (by kernel_rfl) (by kernel_rfl) ?_
                    clear hf; clear a; intro a hf
                    replace hs : Sep w F R w8 F8 [.row 5 (tI .u8) (.slice ao2 z3.1.length cp2) z3.1, .row 23 (tI .u64) (.slice ao3 z3.2.1.length cp3) z3.2.1, .ro tS (.slice ao1 p_l.length cp1) p_l] := hs.sel [1, 2, 3] rfl rfl
                    replace hf := Fr.keep (ks := [0, 5, 6, 8, 60, 61, 65]) (L' := [(0, .slice ao1 p_l.length cp1), (5, .slice ao2 z3.1.length cp2), (6, .slice ao3 z3.2.1.length cp3), (8, .int .i64 s4), (60, .bool false), (61, strV z5.1), (65, strV (gt p_l s4))]) hf (by kernel_rfl)
                    refine st tbOk 2 [0, 5, 6, 8, 67] (L' := [(0, .slice ao1 p_l.length cp1), (5, .slice ao2 z3.1.length cp2), (6, .slice ao3 z3.2.1.length cp3), (8, .int .i64 s4), (67, .bool (!(z5.1 == (gt p_l s4))))]) hf (by kernel_rfl) ?_
                    clear hf; clear a; intro a hf
                    refine wpList_nil ?_
                    exact hK5 (!(z5.1 == (gt p_l s4))) _ _ ⟨_, hs.sel [0, 1, 2] rfl rfl, hf.keep (ks := [0, 5, 6, 8, 67]) (by kernel_rfl)⟩ hS
              · replace hS := of_f hb7 hS
                refine wp_exit ?_
                exact hK3 () _ _ ⟨_, hs.sel [] rfl rfl, hf.keep (ks := []) (by kernel_rfl)⟩ hS
        · clear hS; intro KK2 k2 hK2 hS
          refine reg ?_
          refine st tbOk 6 [0, 5, 6, 38] (L' := [(0, .slice ao1 p_l.length cp1), (5, .slice ao2 z3.1.length cp2), (6, .slice ao3 z3.2.1.length cp3), (38, .bool (((z3.2.1.length : Nat) : Int) != ((p_l.length : Nat) : Int)))]) hf (by kernel_rfl) ?_
          clear hf; clear a; intro a hf
          rcases Bool.eq_false_or_eq_true (((z3.2.1.length : Nat) : Int) != ((p_l.length : Nat) : Int)) with hb5 | hb5
          · replace hS := of_t hb5 hS
            replace hf := Fr.cast (L' := [(0, .slice ao1 p_l.length cp1), (5, .slice ao2 z3.1.length cp2), (6, .slice ao3 z3.2.1.length cp3), (38, .bool true)]) hf (by rw [hb5])
            refine st tbOk 4 [0, 5, 6, 42] (L' := [(0, .slice ao1 p_l.length cp1), (5, .slice ao2 z3.1.length cp2), (6, .slice ao3 z3.2.1.length cp3), (42, .bool true)]) hf (by kernel_rfl) ?_
            clear hf; clear a; intro a hf
            refine wpList_nil ?_
            exact hK2 true _ _ ⟨_, hs.sel [0, 1, 2] rfl rfl, hf.keep (ks := [0, 5, 6, 42]) (by kernel_rfl)⟩ hS
          · replace hS := of_f hb5 hS
            replace hf := Fr.cast (L' := [(0, .slice ao1 p_l.length cp1), (5, .slice ao2 z3.1.length cp2), (6, .slice ao3 z3.2.1.length cp3), (38, .bool false)]) hf (by rw [hb5])
            refine st tbOk 1 [0, 5, 6, 38, 39] (L' := [(0, .slice ao1 p_l.length cp1), (5, .slice ao2 z3.1.length cp2), (6, .slice ao3 z3.2.1.length cp3), (38, .bool false), (39, .slice ao2 z3.1.length cp2)]) hf (by kernel_rfl) ?_
            clear hf; clear a; intro a hf
            have hT := of_bd hS; clear hS; obtain ⟨z4, hz4, hS⟩ := hT
            refine clV ent18 (vs := [.slice ao2 z3.1.length cp2]) (caps := []) hf (by kernel_rfl) (by kernel_rfl) (by kernel_rfl) (by kernel_rfl) (names_Check_ok (table := z3.1) (hs.lend [0] [] rfl rfl rfl rfl rfl) hz4) ?_
            clear hf; clear a; intro v w5 a hT hf; obtain ⟨F6, rfl, hr⟩ := hT
            replace hs : Sep w F R w5 F3 [.row 5 (tI .u8) (.slice ao2 z3.1.length cp2) z3.1, .row 23 (tI .u64) (.slice ao3 z3.2.1.length cp3) z3.2.1, .ro tS (.slice ao1 p_l.length cp1) p_l] := hs.backL [0] [] [0, 1, 2] rfl rfl rfl rfl rfl rfl hr trivial
            clear hr
            replace hf := Fr.keep (ks := [0, 5, 6, 38, 40]) (L' := [(0, .slice ao1 p_l.length cp1), (5, .slice ao2 z3.1.length cp2), (6, .slice ao3 z3.2.1.length cp3), (38, .bool false), (40, .int .i64 z4)]) hf (by kernel_rfl)
            refine st tbOk 2 [0, 5, 6, 42] (L' := [(0, .slice ao1 p_l.length cp1), (5, .slice ao2 z3.1.length cp2), (6, .slice ao3 z3.2.1.length cp3), (42, .bool (z4 != 0))]) hf (by kernel_rfl) ?_
            clear hf; clear a; intro a hf
            refine wpList_nil ?_
            exact hK2 (z4 != 0) _ _ ⟨_, hs.sel [0, 1, 2] rfl rfl, hf.keep (ks := [0, 5, 6, 42]) (by kernel_rfl)⟩ hS

end Dm
