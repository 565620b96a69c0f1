/-
  The walk of the law NotesBack; printed by a program of this repo. No condition.
-/
import Derived.Test.YtmlghbdlhjinaaaWT
import Derived.Test.YtmlghbdlhjinaaaW5
import Derived.Test.YtmlghbdlhjinaaaW6
import Derived.Test.YtmlghbdlhjinaaaW7
import Derived.Test.YtmlghbdlhjinaaaW10
namespace Dm
open Go Go.RowKit Go.Proofs

set_option maxHeartbeats 4000000 in
theorem law08_NotesBack_ok {w : World} {F : SH} {p_l : List ((List UInt8) × Int × (List Int))} {b : List Int} {ao1 : Option Addr} {cp1 : Nat} {ao2 : Option Addr} {cp2 : Nat} (hs : Sep w F (blks [.ro ty53 (.slice ao1 p_l.length cp1) p_l, .ro (tI .u8) (.slice ao2 b.length cp2) b]) w F [.ro ty53 (.slice ao1 p_l.length cp1) p_l, .ro (tI .u8) (.slice ao2 b.length cp2) b]) {r : Bool} (hS : law08_NotesBack p_l b = some r) :
    Calls Try.prog 12 [.slice ao1 p_l.length cp1, .slice ao2 b.length cp2].toArray w (Gives (fun u w' => ∃ (F' : SH), u = .bool r ∧ Sep w F (blks [.ro ty53 (.slice ao1 p_l.length cp1) p_l, .ro (tI .u8) (.slice ao2 b.length cp2) b]) w' F' [])) := by
  generalize (blks [.ro ty53 (.slice ao1 p_l.length cp1) p_l, .ro (tI .u8) (.slice ao2 b.length cp2) b]) = R at hs ⊢
  unfold law08_NotesBack at hS
  refine fn_ok (vs := [.slice ao1 p_l.length cp1, .slice ao2 b.length cp2]) Try.func12 rfl 75 Try.ntmps12 (Nat.le_of_ble_eq_true rfl) ?_
  intro a hf
  replace hf := Fr.cast (L' := [(0, .slice ao1 p_l.length cp1), (1, .slice ao2 b.length cp2)]) hf (by kernel_rfl)
  refine sq ?_
  refine reg ?_
  refine st tbOk 1 [0, 1] (L' := [(0, .slice ao1 p_l.length cp1), (1, .slice ao2 b.length cp2)]) hf (by kernel_rfl) ?_
  clear hf; clear a; intro a hf
  refine wpList_nil ?_
  refine sq ?_
  refine reg ?_
  have hT := of_bd hS; clear hS; obtain ⟨z1, hz1, hS⟩ := hT
  refine clV ent23 (vs := []) (caps := []) hf (by kernel_rfl) (by kernel_rfl) (by kernel_rfl) (by kernel_rfl) (law08_awake_ok (hs.enter [] rfl rfl) hz1) ?_
  clear hf; clear a; intro v w1 a hT hf; obtain ⟨F1, rfl, hr⟩ := hT
  replace hs : Sep w F R w1 F1 [.ro ty53 (.slice ao1 p_l.length cp1) p_l, .ro (tI .u8) (.slice ao2 b.length cp2) b] := hs.back [] [0, 1] rfl rfl rfl rfl hr
  clear hr
  replace hf := Fr.keep (ks := [0, 1, 15]) (L' := [(0, .slice ao1 p_l.length cp1), (1, .slice ao2 b.length cp2), (15, .bool z1)]) hf (by kernel_rfl)
  refine st tbOk 1 [0, 1, 5] (L' := [(0, .slice ao1 p_l.length cp1), (1, .slice ao2 b.length cp2), (5, .bool z1)]) hf (by kernel_rfl) ?_
  clear hf; clear a; intro a hf
  refine wpList_nil ?_
  refine sq ?_
  refine sq ?_
  refine reg ?_
  refine st tbOk 2 [0, 1, 17] (L' := [(0, .slice ao1 p_l.length cp1), (1, .slice ao2 b.length cp2), (17, .bool (!z1))]) hf (by kernel_rfl) ?_
  clear hf; clear a; intro a hf
  refine wpList_nil ?_
  refine cnd (b := !z1) hf (by kernel_rfl) (fun hb1 => ?_) (fun hb1 => ?_)
  · replace hS := of_t hb1 hS
    refine sq ?_
    refine reg ?_
    refine st tbOk 1 [4] (L' := [(4, .bool false)]) hf (by kernel_rfl) ?_
    clear hf; clear a; intro a hf
    refine wpList_nil ?_
    have hr := Option.some.inj hS; subst hr
    refine wp_ret ?_
    exact ret_ok hf (vs := [.bool false]) (by kernel_rfl) ⟨_, rfl, hs.sel [] rfl rfl⟩
  · replace hS := of_f hb1 hS
    refine wp_skip ?_
    refine sq ?_
    refine reg ?_
    refine st tbOk 1 [0, 1, 18] (L' := [(0, .slice ao1 p_l.length cp1), (1, .slice ao2 b.length cp2), (18, .slice ao1 p_l.length cp1)]) hf (by kernel_rfl) ?_
    clear hf; clear a; intro a hf
    have hT := of_bd hS; clear hS; obtain ⟨z2, hz2, hS⟩ := hT
    refine clV ent24 (vs := [.slice ao1 p_l.length cp1]) (caps := []) hf (by kernel_rfl) (by kernel_rfl) (by kernel_rfl) (by kernel_rfl) (law08_few_ok (p_l := p_l) (hs.enter [0] rfl rfl) hz2) ?_
    clear hf; clear a; intro v w2 a hT hf; obtain ⟨F2, rfl, hr⟩ := hT
    replace hs : Sep w F R w2 F2 [.ro ty53 (.slice ao1 p_l.length cp1) p_l, .ro (tI .u8) (.slice ao2 b.length cp2) b] := hs.back [0] [0, 1] rfl rfl rfl rfl hr
    clear hr
    replace hf := Fr.keep (ks := [0, 1, 19]) (L' := [(0, .slice ao1 p_l.length cp1), (1, .slice ao2 b.length cp2), (19, .bool z2)]) hf (by kernel_rfl)
    refine st tbOk 1 [0, 1, 6] (L' := [(0, .slice ao1 p_l.length cp1), (1, .slice ao2 b.length cp2), (6, .bool z2)]) hf (by kernel_rfl) ?_
    clear hf; clear a; intro a hf
    refine wpList_nil ?_
    refine sq ?_
    refine sq ?_
    refine ctj (fun (s1 : Bool) (a : Act) (w' : World) => ∃ (F3 : SH), Sep w F R w' F3 [.ro ty53 (.slice ao1 p_l.length cp1) p_l, .ro (tI .u8) (.slice ao2 b.length cp2) b] ∧ Fr 75 [(0, .slice ao1 p_l.length cp1), (1, .slice ao2 b.length cp2), (26, .bool s1)] a) hS ?_ ?_
    · clear hS hf hs; clear a; intro s1 a w3 hM hS
      obtain ⟨F3, hs, hf⟩ := hM
      refine cnd (b := s1) hf (by kernel_rfl) (fun hb3 => ?_) (fun hb3 => ?_)
      · replace hS := of_t hb3 hS
        refine sq ?_
        refine reg ?_
        refine st tbOk 1 [4] (L' := [(4, .bool true)]) hf (by kernel_rfl) ?_
        clear hf; clear a; intro a hf
        refine wpList_nil ?_
        have hr := Option.some.inj hS; subst hr
        refine wp_ret ?_
        exact ret_ok hf (vs := [.bool true]) (by kernel_rfl) ⟨_, rfl, hs.sel [] rfl rfl⟩
      · replace hS := of_f hb3 hS
        refine wp_skip ?_
        refine sq ?_
        refine reg ?_
        refine st tbOk 1 [0, 1, 28] (L' := [(0, .slice ao1 p_l.length cp1), (1, .slice ao2 b.length cp2), (28, .slice ao1 p_l.length cp1)]) hf (by kernel_rfl) ?_
        clear hf; clear a; intro a hf
        have hT := of_bd hS; clear hS; obtain ⟨z3, hz3, hS⟩ := hT
        refine clV ent25 (vs := [.slice ao1 p_l.length cp1]) (caps := []) hf (by kernel_rfl) (by kernel_rfl) (by kernel_rfl) (by kernel_rfl) (notes_Put_ok (p_l := p_l) (hs.enter [0] rfl rfl) hz3) ?_
        clear hf; clear a; intro v w4 a hT hf; obtain ⟨ao3, cp3, F4, rfl, hr⟩ := hT
        replace hs : Sep w F R w4 F4 [.row 5 (tI .u8) (.slice ao3 z3.1.length cp3) z3.1, .ro ty53 (.slice ao1 p_l.length cp1) p_l, .ro (tI .u8) (.slice ao2 b.length cp2) b] := hs.back [0] [0, 1] rfl rfl rfl rfl hr
        clear hr
        replace hf := Fr.keep (ks := [0, 1, 29]) (L' := [(0, .slice ao1 p_l.length cp1), (1, .slice ao2 b.length cp2), (29, .tuple #[.slice ao3 z3.1.length cp3, .int .i64 z3.2])]) hf (by kernel_rfl)
        refine st tbOk 5 [0, 1, 7, 8] (L' := [(0, .slice ao1 p_l.length cp1), (1, .slice ao2 b.length cp2), (7, .slice ao3 z3.1.length cp3), (8, .int .i64 z3.2)]) hf (by kernel_rfl) ?_
        clear hf; clear a; intro a hf
        refine wpList_nil ?_
        refine sq ?_
        refine reg ?_
        refine st tbOk 1 [0, 1, 8, 33] (L' := [(0, .slice ao1 p_l.length cp1), (1, .slice ao2 b.length cp2), (8, .int .i64 z3.2), (33, .slice ao3 z3.1.length cp3)]) hf (by kernel_rfl) ?_
        clear hf; clear a; intro a hf
        have hT := of_bd hS; clear hS; obtain ⟨z4, hz4, hS⟩ := hT
        obtain ⟨F5, _, hs⟩ := hs.frz 0 rfl
        replace hs : Sep w F R w4 F5 [.ro (tI .u8) (.slice ao3 z3.1.length cp3) z3.1, .ro ty53 (.slice ao1 p_l.length cp1) p_l, .ro (tI .u8) (.slice ao2 b.length cp2) b] := hs
        refine clV ent28 (vs := [.slice ao3 z3.1.length cp3]) (caps := []) hf (by kernel_rfl) (by kernel_rfl) (by kernel_rfl) (by kernel_rfl) (notes_Get_ok (b := z3.1) (hs.enter [0] rfl rfl) hz4) ?_
        clear hf; clear a; intro v w5 a hT hf; obtain ⟨ao4, cp4, F6, rfl, hr⟩ := hT
        replace hs : Sep w F R w5 F6 [.row 54 ty53 (.slice ao4 z4.1.length cp4) z4.1, .ro (tI .u8) (.slice ao3 z3.1.length cp3) z3.1, .ro ty53 (.slice ao1 p_l.length cp1) p_l, .ro (tI .u8) (.slice ao2 b.length cp2) b] := hs.back [0] [0, 1, 2] rfl rfl rfl rfl hr
        clear hr
        replace hs : Sep w F R w5 F6 [.row 54 ty53 (.slice ao4 z4.1.length cp4) z4.1, .ro ty53 (.slice ao1 p_l.length cp1) p_l, .ro (tI .u8) (.slice ao2 b.length cp2) b] := hs.sel [0, 2, 3] rfl rfl
        replace hf := Fr.keep (ks := [0, 1, 8, 34]) (L' := [(0, .slice ao1 p_l.length cp1), (1, .slice ao2 b.length cp2), (8, .int .i64 z3.2), (34, .tuple #[.slice ao4 z4.1.length cp4, .int .i64 z4.2])]) hf (by kernel_rfl)
        refine st tbOk 5 [0, 1, 8, 9, 10] (L' := [(0, .slice ao1 p_l.length cp1), (1, .slice ao2 b.length cp2), (8, .int .i64 z3.2), (9, .slice ao4 z4.1.length cp4), (10, .int .i64 z4.2)]) hf (by kernel_rfl) ?_
        clear hf; clear a; intro a hf
        refine wpList_nil ?_
        refine sq ?_
        refine sq ?_
        refine ctj (fun (s2 : Bool) (a : Act) (w' : World) => ∃ (F7 : SH), Sep w F R w' F7 [.ro (tI .u8) (.slice ao2 b.length cp2) b] ∧ Fr 75 [(1, .slice ao2 b.length cp2), (50, .bool s2)] a) hS ?_ ?_
        · clear hS hf hs; clear a; intro s2 a w9 hM hS
          obtain ⟨F7, hs, hf⟩ := hM
          refine cnd (b := s2) hf (by kernel_rfl) (fun hb6 => ?_) (fun hb6 => ?_)
          · replace hS := of_t hb6 hS
            refine sq ?_
            refine reg ?_
            refine st tbOk 1 [4] (L' := [(4, .bool false)]) hf (by kernel_rfl) ?_
            clear hf; clear a; intro a hf
            refine wpList_nil ?_
            have hr := Option.some.inj hS; subst hr
            refine wp_ret ?_
            exact ret_ok hf (vs := [.bool false]) (by kernel_rfl) ⟨_, rfl, hs.sel [] rfl rfl⟩
          · replace hS := of_f hb6 hS
            refine wp_skip ?_
            refine sq ?_
            refine reg ?_
            refine st tbOk 1 [1, 52] (L' := [(1, .slice ao2 b.length cp2), (52, .slice ao2 b.length cp2)]) hf (by kernel_rfl) ?_
            clear hf; clear a; intro a hf
            have hT := of_bd hS; clear hS; obtain ⟨z8, hz8, hS⟩ := hT
            refine clV ent28 (vs := [.slice ao2 b.length cp2]) (caps := []) hf (by kernel_rfl) (by kernel_rfl) (by kernel_rfl) (by kernel_rfl) (notes_Get_ok (b := b) (hs.enter [0] rfl rfl) hz8) ?_
            clear hf; clear a; intro v w10 a hT hf; obtain ⟨ao7, cp7, F12, rfl, hr⟩ := hT
            replace hs : Sep w F R w10 F12 [.row 54 ty53 (.slice ao7 z8.1.length cp7) z8.1, .ro (tI .u8) (.slice ao2 b.length cp2) b] := hs.back [0] [0] rfl rfl rfl rfl hr
            clear hr
            replace hf := Fr.keep (ks := [1, 53]) (L' := [(1, .slice ao2 b.length cp2), (53, .tuple #[.slice ao7 z8.1.length cp7, .int .i64 z8.2])]) hf (by kernel_rfl)
            refine st tbOk 5 [1, 11, 12] (L' := [(1, .slice ao2 b.length cp2), (11, .slice ao7 z8.1.length cp7), (12, .int .i64 z8.2)]) hf (by kernel_rfl) ?_
            clear hf; clear a; intro a hf
            refine wpList_nil ?_
            refine sq ?_
            refine sq ?_
            refine reg ?_
            refine st tbOk 2 [1, 11, 57] (L' := [(1, .slice ao2 b.length cp2), (11, .slice ao7 z8.1.length cp7), (57, .bool (z8.2 != 0))]) hf (by kernel_rfl) ?_
            clear hf; clear a; intro a hf
            refine wpList_nil ?_
            refine cnd (b := z8.2 != 0) hf (by kernel_rfl) (fun hb7 => ?_) (fun hb7 => ?_)
            · replace hS := of_t hb7 hS
              refine sq ?_
              refine reg ?_
              refine st tbOk 4 [4] (L' := [(4, .bool (((z8.1.length : Nat) : Int) == 0))]) hf (by kernel_rfl) ?_
              clear hf; clear a; intro a hf
              refine wpList_nil ?_
              have hr := Option.some.inj hS; subst hr
              refine wp_ret ?_
              exact ret_ok hf (vs := [.bool (((z8.1.length : Nat) : Int) == 0)]) (by kernel_rfl) ⟨_, rfl, hs.sel [] rfl rfl⟩
            · replace hS := of_f hb7 hS
              refine wp_skip ?_
              refine sq ?_
              refine reg ?_
              refine st tbOk 1 [1, 62] (L' := [(1, .slice ao2 b.length cp2), (62, .slice ao7 z8.1.length cp7)]) hf (by kernel_rfl) ?_
              clear hf; clear a; intro a hf
              have hT := of_bd hS; clear hS; obtain ⟨z9, hz9, hS⟩ := hT
              refine clV ent25 (vs := [.slice ao7 z8.1.length cp7]) (caps := []) hf (by kernel_rfl) (by kernel_rfl) (by kernel_rfl) (by kernel_rfl) (notes_Put_ok (p_l := z8.1) (hs.lend [0] [] rfl rfl rfl rfl rfl) hz9) ?_
              clear hf; clear a; intro v w11 a hT hf; obtain ⟨ao8, cp8, F13, rfl, hr⟩ := hT
              replace hs : Sep w F R w11 F12 [.row 5 (tI .u8) (.slice ao8 z9.1.length cp8) z9.1, .row 54 ty53 (.slice ao7 z8.1.length cp7) z8.1, .ro (tI .u8) (.slice ao2 b.length cp2) b] := hs.backL [0] [] [0, 1] rfl rfl rfl rfl rfl rfl hr ⟨(flat_I .u8), trivial⟩
              clear hr
              replace hs : Sep w F R w11 F12 [.row 5 (tI .u8) (.slice ao8 z9.1.length cp8) z9.1, .ro (tI .u8) (.slice ao2 b.length cp2) b] := hs.sel [0, 2] rfl rfl
              replace hf := Fr.keep (ks := [1, 63]) (L' := [(1, .slice ao2 b.length cp2), (63, .tuple #[.slice ao8 z9.1.length cp8, .int .i64 z9.2])]) hf (by kernel_rfl)
              refine st tbOk 5 [1, 13, 14] (L' := [(1, .slice ao2 b.length cp2), (13, .slice ao8 z9.1.length cp8), (14, .int .i64 z9.2)]) hf (by kernel_rfl) ?_
              clear hf; clear a; intro a hf
              refine wpList_nil ?_
              refine sq ?_
              refine ctj (fun (s3 : Bool) (a : Act) (w' : World) => ∃ (F14 : SH), Sep w F R w' F14 [] ∧ Fr 75 [(4, .bool s3)] a) hS ?_ ?_
              · clear hS hf hs; clear a; intro s3 a w12 hM hS
                obtain ⟨F14, hs, hf⟩ := hM
                have hr := Option.some.inj hS; subst hr
                refine wp_ret ?_
                exact ret_ok hf (vs := [.bool s3]) (by kernel_rfl) ⟨_, rfl, hs.sel [] rfl rfl⟩
              · clear hS; intro KK3 k3 hK3 hS
                refine reg ?_
                refine st tbOk 3 [1, 13, 68] (L' := [(1, .slice ao2 b.length cp2), (13, .slice ao8 z9.1.length cp8), (68, .bool (z9.2 == 0))]) hf (by kernel_rfl) ?_
                clear hf; clear a; intro a hf
                rcases Bool.eq_false_or_eq_true (z9.2 == 0) with hb8 | hb8
                · replace hS := of_t hb8 hS
                  replace hf := Fr.cast (L' := [(1, .slice ao2 b.length cp2), (13, .slice ao8 z9.1.length cp8), (68, .bool true)]) hf (by rw [hb8])
                  refine st tbOk 1 [1, 68, 69] (L' := [(1, .slice ao2 b.length cp2), (68, .bool true), (69, .slice ao8 z9.1.length cp8)]) hf (by kernel_rfl) ?_
                  clear hf; clear a; intro a hf
                  refine b2sR tbOk u22 u5 u9 (hs.raW 0 rfl) hf (by kernel_rfl) (by kernel_rfl) (by kernel_rfl) ?_
                  clear hf; clear a; intro a hf
                  replace hs : Sep w F R w11 F12 [.ro (tI .u8) (.slice ao2 b.length cp2) b] := hs.sel [1] rfl rfl
                  replace hf := Fr.keep (ks := [1, 68, 70]) (L' := [(1, .slice ao2 b.length cp2), (68, .bool true), (70, strV (toStr z9.1))]) hf (by kernel_rfl)
                  refine st tbOk 1 [68, 70, 71] (L' := [(68, .bool true), (70, strV (toStr z9.1)), (71, .slice ao2 b.length cp2)]) hf (by kernel_rfl) ?_
                  clear hf; clear a; intro a hf
                  refine b2sR tbOk u22 u5 u9 (hs.raR 0 rfl) hf (by kernel_rfl) (by kernel_rfl) (by kernel_rfl) ?_
                  clear hf; clear a; intro a hf
                  replace hs : Sep w F R w11 F12 [] := hs.sel [] rfl rfl
                  replace hf := Fr.keep (ks := [68, 70, 72]) (L' := [(68, .bool true), (70, strV (toStr z9.1)), (72, strV (toStr b))]) hf (by kernel_rfl)
                  refine st tbOk 3 [4] (L' := [(4, .bool ((toStr z9.1) == (toStr b)))]) hf (by kernel_rfl) ?_
                  clear hf; clear a; intro a hf
                  refine wpList_nil ?_
                  exact hK3 ((toStr z9.1) == (toStr b)) _ _ ⟨_, hs.sel [] rfl rfl, hf.keep (ks := [4]) (by kernel_rfl)⟩ hS
                · replace hS := of_f hb8 hS
                  replace hf := Fr.cast (L' := [(1, .slice ao2 b.length cp2), (13, .slice ao8 z9.1.length cp8), (68, .bool false)]) hf (by rw [hb8])
                  refine st tbOk 7 [4] (L' := [(4, .bool false)]) hf (by kernel_rfl) ?_
                  clear hf; clear a; intro a hf
                  refine wpList_nil ?_
                  exact hK3 false _ _ ⟨_, hs.sel [] rfl rfl, hf.keep (ks := [4]) (by kernel_rfl)⟩ hS
        · clear hS; intro KK2 k2 hK2 hS
          refine reg ?_
          refine st tbOk 3 [0, 1, 9, 10, 39] (L' := [(0, .slice ao1 p_l.length cp1), (1, .slice ao2 b.length cp2), (9, .slice ao4 z4.1.length cp4), (10, .int .i64 z4.2), (39, .bool (z3.2 == 0))]) hf (by kernel_rfl) ?_
          clear hf; clear a; intro a hf
          rcases Bool.eq_false_or_eq_true (z3.2 == 0) with hb4 | hb4
          · replace hS := of_t hb4 hS
            replace hf := Fr.cast (L' := [(0, .slice ao1 p_l.length cp1), (1, .slice ao2 b.length cp2), (9, .slice ao4 z4.1.length cp4), (10, .int .i64 z4.2), (39, .bool true)]) hf (by rw [hb4])
            refine st tbOk 3 [0, 1, 9, 39, 42] (L' := [(0, .slice ao1 p_l.length cp1), (1, .slice ao2 b.length cp2), (9, .slice ao4 z4.1.length cp4), (39, .bool true), (42, .bool (z4.2 != 0))]) hf (by kernel_rfl) ?_
            clear hf; clear a; intro a hf
            rcases Bool.eq_false_or_eq_true (z4.2 != 0) with hb5 | hb5
            · replace hS := of_t hb5 hS
              replace hf := Fr.cast (L' := [(0, .slice ao1 p_l.length cp1), (1, .slice ao2 b.length cp2), (9, .slice ao4 z4.1.length cp4), (39, .bool true), (42, .bool true)]) hf (by rw [hb5])
              refine st tbOk 8 [1, 50] (L' := [(1, .slice ao2 b.length cp2), (50, .bool true)]) hf (by kernel_rfl) ?_
              clear hf; clear a; intro a hf
              refine wpList_nil ?_
              exact hK2 true _ _ ⟨_, hs.sel [2] rfl rfl, hf.keep (ks := [1, 50]) (by kernel_rfl)⟩ hS
            · replace hS := of_f hb5 hS
              replace hf := Fr.cast (L' := [(0, .slice ao1 p_l.length cp1), (1, .slice ao2 b.length cp2), (9, .slice ao4 z4.1.length cp4), (39, .bool true), (42, .bool false)]) hf (by rw [hb5])
              refine st tbOk 1 [0, 1, 39, 42, 43] (L' := [(0, .slice ao1 p_l.length cp1), (1, .slice ao2 b.length cp2), (39, .bool true), (42, .bool false), (43, .slice ao4 z4.1.length cp4)]) hf (by kernel_rfl) ?_
              clear hf; clear a; intro a hf
              have hT := of_bd hS; clear hS; obtain ⟨z5, hz5, hS⟩ := hT
              obtain ⟨F8, _, hs⟩ := hs.frz 0 rfl
              replace hs : Sep w F R w5 F8 [.ro ty53 (.slice ao4 z4.1.length cp4) z4.1, .ro ty53 (.slice ao1 p_l.length cp1) p_l, .ro (tI .u8) (.slice ao2 b.length cp2) b] := hs
              refine clV ent27 (vs := [.slice ao4 z4.1.length cp4]) (caps := []) hf (by kernel_rfl) (by kernel_rfl) (by kernel_rfl) (by kernel_rfl) (law08_model_ok (p_l := z4.1) (hs.enter [0] rfl rfl) hz5) ?_
              clear hf; clear a; intro v w6 a hT hf; obtain ⟨ao5, cp5, F9, rfl, hr⟩ := hT
              replace hs : Sep w F R w6 F9 [.row 65 ty53 (.slice ao5 z5.length cp5) z5, .ro ty53 (.slice ao4 z4.1.length cp4) z4.1, .ro ty53 (.slice ao1 p_l.length cp1) p_l, .ro (tI .u8) (.slice ao2 b.length cp2) b] := hs.back [0] [0, 1, 2] rfl rfl rfl rfl hr
              clear hr
              replace hs : Sep w F R w6 F9 [.row 65 ty53 (.slice ao5 z5.length cp5) z5, .ro ty53 (.slice ao1 p_l.length cp1) p_l, .ro (tI .u8) (.slice ao2 b.length cp2) b] := hs.sel [0, 2, 3] rfl rfl
              replace hf := Fr.keep (ks := [0, 1, 39, 42, 44]) (L' := [(0, .slice ao1 p_l.length cp1), (1, .slice ao2 b.length cp2), (39, .bool true), (42, .bool false), (44, .slice ao5 z5.length cp5)]) hf (by kernel_rfl)
              refine st tbOk 1 [1, 39, 42, 44, 45] (L' := [(1, .slice ao2 b.length cp2), (39, .bool true), (42, .bool false), (44, .slice ao5 z5.length cp5), (45, .slice ao1 p_l.length cp1)]) hf (by kernel_rfl) ?_
              clear hf; clear a; intro a hf
              have hT := of_bd hS; clear hS; obtain ⟨z6, hz6, hS⟩ := hT
              refine clV ent27 (vs := [.slice ao1 p_l.length cp1]) (caps := []) hf (by kernel_rfl) (by kernel_rfl) (by kernel_rfl) (by kernel_rfl) (law08_model_ok (p_l := p_l) (hs.enter [1] rfl rfl) hz6) ?_
              clear hf; clear a; intro v w7 a hT hf; obtain ⟨ao6, cp6, F10, rfl, hr⟩ := hT
              replace hs : Sep w F R w7 F10 [.row 65 ty53 (.slice ao6 z6.length cp6) z6, .row 65 ty53 (.slice ao5 z5.length cp5) z5, .ro ty53 (.slice ao1 p_l.length cp1) p_l, .ro (tI .u8) (.slice ao2 b.length cp2) b] := hs.back [1] [0, 1, 2] rfl rfl rfl rfl hr
              clear hr
              replace hs : Sep w F R w7 F10 [.row 65 ty53 (.slice ao6 z6.length cp6) z6, .row 65 ty53 (.slice ao5 z5.length cp5) z5, .ro (tI .u8) (.slice ao2 b.length cp2) b] := hs.sel [0, 1, 3] rfl rfl
              replace hf := Fr.keep (ks := [1, 39, 42, 44, 46]) (L' := [(1, .slice ao2 b.length cp2), (39, .bool true), (42, .bool false), (44, .slice ao5 z5.length cp5), (46, .slice ao6 z6.length cp6)]) hf (by kernel_rfl)
              have hT := of_bd hS; clear hS; obtain ⟨z7, hz7, hS⟩ := hT
              refine clV ent30 (vs := [.slice ao5 z5.length cp5, .slice ao6 z6.length cp6]) (caps := []) hf (by kernel_rfl) (by kernel_rfl) (by kernel_rfl) (by kernel_rfl) (law08_same_ok (p_a := z5) (b := z6) (hs.lend [1, 0] [] rfl rfl rfl rfl rfl) hz7) ?_
              clear hf; clear a; intro v w8 a hT hf; obtain ⟨F11, rfl, hr⟩ := hT
              replace hs : Sep w F R w8 F10 [.row 65 ty53 (.slice ao6 z6.length cp6) z6, .row 65 ty53 (.slice ao5 z5.length cp5) z5, .ro (tI .u8) (.slice ao2 b.length cp2) b] := hs.backL [1, 0] [] [0, 1, 2] rfl rfl rfl rfl rfl rfl hr trivial
              clear hr
              replace hs : Sep w F R w8 F10 [.ro (tI .u8) (.slice ao2 b.length cp2) b] := hs.sel [2] rfl rfl
              replace hf := Fr.keep (ks := [1, 39, 42, 47]) (L' := [(1, .slice ao2 b.length cp2), (39, .bool true), (42, .bool false), (47, .bool z7)]) hf (by kernel_rfl)
              refine st tbOk 3 [1, 50] (L' := [(1, .slice ao2 b.length cp2), (50, .bool (!z7))]) hf (by kernel_rfl) ?_
              clear hf; clear a; intro a hf
              refine wpList_nil ?_
              exact hK2 (!z7) _ _ ⟨_, hs.sel [0] rfl rfl, hf.keep (ks := [1, 50]) (by kernel_rfl)⟩ hS
          · replace hS := of_f hb4 hS
            replace hf := Fr.cast (L' := [(0, .slice ao1 p_l.length cp1), (1, .slice ao2 b.length cp2), (9, .slice ao4 z4.1.length cp4), (10, .int .i64 z4.2), (39, .bool false)]) hf (by rw [hb4])
            refine st tbOk 11 [1, 50] (L' := [(1, .slice ao2 b.length cp2), (50, .bool false)]) hf (by kernel_rfl) ?_
            clear hf; clear a; intro a hf
            refine wpList_nil ?_
            exact hK2 false _ _ ⟨_, hs.sel [2] rfl rfl, hf.keep (ks := [1, 50]) (by kernel_rfl)⟩ hS
    · clear hS; intro KK1 k1 hK1 hS
      refine reg ?_
      refine st tbOk 3 [0, 1, 22] (L' := [(0, .slice ao1 p_l.length cp1), (1, .slice ao2 b.length cp2), (22, .bool (!z2))]) hf (by kernel_rfl) ?_
      clear hf; clear a; intro a hf
      rcases Bool.eq_false_or_eq_true (!z2) with hb2 | hb2
      · replace hS := of_t hb2 hS
        replace hf := Fr.cast (L' := [(0, .slice ao1 p_l.length cp1), (1, .slice ao2 b.length cp2), (22, .bool true)]) hf (by rw [hb2])
        refine st tbOk 4 [0, 1, 26] (L' := [(0, .slice ao1 p_l.length cp1), (1, .slice ao2 b.length cp2), (26, .bool true)]) hf (by kernel_rfl) ?_
        clear hf; clear a; intro a hf
        refine wpList_nil ?_
        exact hK1 true _ _ ⟨_, hs.sel [0, 1] rfl rfl, hf.keep (ks := [0, 1, 26]) (by kernel_rfl)⟩ hS
      · replace hS := of_f hb2 hS
        replace hf := Fr.cast (L' := [(0, .slice ao1 p_l.length cp1), (1, .slice ao2 b.length cp2), (22, .bool false)]) hf (by rw [hb2])
        refine st tbOk 4 [0, 1, 26] (L' := [(0, .slice ao1 p_l.length cp1), (1, .slice ao2 b.length cp2), (26, .bool (decide (((b.length : Nat) : Int) > 5000)))]) hf (by kernel_rfl) ?_
        clear hf; clear a; intro a hf
        refine wpList_nil ?_
        exact hK1 (decide (((b.length : Nat) : Int) > 5000)) _ _ ⟨_, hs.sel [0, 1] rfl rfl, hf.keep (ks := [0, 1, 26]) (by kernel_rfl)⟩ hS

end Dm
