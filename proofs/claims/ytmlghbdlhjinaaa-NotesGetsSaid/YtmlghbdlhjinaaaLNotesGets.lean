/-
  The walk of the law NotesGets; printed by a program of this repo. No condition.
-/
import Derived.Test.YtmlghbdlhjinaaaWT
import Derived.Test.YtmlghbdlhjinaaaW5
import Derived.Test.YtmlghbdlhjinaaaW7
import Derived.Test.YtmlghbdlhjinaaaW9
import Derived.Test.YtmlghbdlhjinaaaW10
namespace Dm
open Go Go.RowKit Go.Proofs

set_option maxHeartbeats 4000000 in
theorem law08_NotesGets_ok {w : World} {F : SH} {b : List Int} {ao1 : Option Addr} {cp1 : Nat} (hs : Sep w F (blks [.ro (tI .u8) (.slice ao1 b.length cp1) b]) w F [.ro (tI .u8) (.slice ao1 b.length cp1) b]) {r : Bool} (hS : law08_NotesGets b = some r) :
    Calls Try.prog 10 [.slice ao1 b.length cp1].toArray w (Gives (fun u w' => ∃ (F' : SH), u = .bool r ∧ Sep w F (blks [.ro (tI .u8) (.slice ao1 b.length cp1) b]) w' F' [])) := by
  generalize (blks [.ro (tI .u8) (.slice ao1 b.length cp1) b]) = R at hs ⊢
  unfold law08_NotesGets at hS
  refine fn_ok (vs := [.slice ao1 b.length cp1]) Try.func10 rfl 33 Try.ntmps10 (Nat.le_of_ble_eq_true rfl) ?_
  intro a hf
  replace hf := Fr.cast (L' := [(0, .slice ao1 b.length cp1)]) hf (by kernel_rfl)
  refine sq ?_
  refine reg ?_
  refine st tbOk 1 [0] (L' := [(0, .slice ao1 b.length cp1)]) hf (by kernel_rfl) ?_
  clear hf; clear a; intro a hf
  refine wpList_nil ?_
  refine sq ?_
  refine reg ?_
  have hT := of_bd hS; clear hS; obtain ⟨z1, hz1, hS⟩ := hT
  refine clV ent23 (vs := []) (caps := []) hf (by kernel_rfl) (by kernel_rfl) (by kernel_rfl) (by kernel_rfl) (law08_awake_ok (hs.enter [] rfl rfl) hz1) ?_
  clear hf; clear a; intro v w1 a hT hf; obtain ⟨F1, rfl, hr⟩ := hT
  replace hs : Sep w F R w1 F1 [.ro (tI .u8) (.slice ao1 b.length cp1) b] := hs.back [] [0] rfl rfl rfl rfl hr
  clear hr
  replace hf := Fr.keep (ks := [0, 8]) (L' := [(0, .slice ao1 b.length cp1), (8, .bool z1)]) hf (by kernel_rfl)
  refine st tbOk 1 [0, 3] (L' := [(0, .slice ao1 b.length cp1), (3, .bool z1)]) hf (by kernel_rfl) ?_
  clear hf; clear a; intro a hf
  refine wpList_nil ?_
  refine sq ?_
  refine sq ?_
  refine reg ?_
  refine st tbOk 2 [0, 10] (L' := [(0, .slice ao1 b.length cp1), (10, .bool (!z1))]) hf (by kernel_rfl) ?_
  clear hf; clear a; intro a hf
  refine wpList_nil ?_
  refine cnd (b := !z1) hf (by kernel_rfl) (fun hb1 => ?_) (fun hb1 => ?_)
  · replace hS := of_t hb1 hS
    refine sq ?_
    refine reg ?_
    refine st tbOk 1 [2] (L' := [(2, .bool false)]) hf (by kernel_rfl) ?_
    clear hf; clear a; intro a hf
    refine wpList_nil ?_
    have hr := Option.some.inj hS; subst hr
    refine wp_ret ?_
    exact ret_ok hf (vs := [.bool false]) (by kernel_rfl) ⟨_, rfl, hs.sel [] rfl rfl⟩
  · replace hS := of_f hb1 hS
    refine wp_skip ?_
    refine sq ?_
    refine sq ?_
    refine reg ?_
    refine st tbOk 3 [0, 13] (L' := [(0, .slice ao1 b.length cp1), (13, .bool (decide (((b.length : Nat) : Int) > 5000)))]) hf (by kernel_rfl) ?_
    clear hf; clear a; intro a hf
    refine wpList_nil ?_
    refine cnd (b := decide (((b.length : Nat) : Int) > 5000)) hf (by kernel_rfl) (fun hb2 => ?_) (fun hb2 => ?_)
    · replace hS := of_t hb2 hS
      refine sq ?_
      refine reg ?_
      refine st tbOk 1 [2] (L' := [(2, .bool true)]) hf (by kernel_rfl) ?_
      clear hf; clear a; intro a hf
      refine wpList_nil ?_
      have hr := Option.some.inj hS; subst hr
      refine wp_ret ?_
      exact ret_ok hf (vs := [.bool true]) (by kernel_rfl) ⟨_, rfl, hs.sel [] rfl rfl⟩
    · replace hS := of_f hb2 hS
      refine wp_skip ?_
      refine sq ?_
      refine reg ?_
      refine st tbOk 1 [0, 15] (L' := [(0, .slice ao1 b.length cp1), (15, .slice ao1 b.length cp1)]) hf (by kernel_rfl) ?_
      clear hf; clear a; intro a hf
      have hT := of_bd hS; clear hS; obtain ⟨z2, hz2, hS⟩ := hT
      refine clV ent28 (vs := [.slice ao1 b.length cp1]) (caps := []) hf (by kernel_rfl) (by kernel_rfl) (by kernel_rfl) (by kernel_rfl) (notes_Get_ok (b := b) (hs.enter [0] rfl rfl) hz2) ?_
      clear hf; clear a; intro v w2 a hT hf; obtain ⟨ao2, cp2, F2, rfl, hr⟩ := hT
      replace hs : Sep w F R w2 F2 [.row 54 ty53 (.slice ao2 z2.1.length cp2) z2.1, .ro (tI .u8) (.slice ao1 b.length cp1) b] := hs.back [0] [0] rfl rfl rfl rfl hr
      clear hr
      replace hf := Fr.keep (ks := [0, 16]) (L' := [(0, .slice ao1 b.length cp1), (16, .tuple #[.slice ao2 z2.1.length cp2, .int .i64 z2.2])]) hf (by kernel_rfl)
      refine st tbOk 5 [0, 4, 5] (L' := [(0, .slice ao1 b.length cp1), (4, .slice ao2 z2.1.length cp2), (5, .int .i64 z2.2)]) hf (by kernel_rfl) ?_
      clear hf; clear a; intro a hf
      refine wpList_nil ?_
      refine sq ?_
      refine reg ?_
      refine st tbOk 1 [4, 5, 20] (L' := [(4, .slice ao2 z2.1.length cp2), (5, .int .i64 z2.2), (20, .slice ao1 b.length cp1)]) hf (by kernel_rfl) ?_
      clear hf; clear a; intro a hf
      have hT := of_bd hS; clear hS; obtain ⟨z3, hz3, hS⟩ := hT
      refine clV ent29 (vs := [.slice ao1 b.length cp1]) (caps := []) hf (by kernel_rfl) (by kernel_rfl) (by kernel_rfl) (by kernel_rfl) (ref08_Get_ok (b := b) (hs.enter [1] rfl rfl) hz3) ?_
      clear hf; clear a; intro v w3 a hT hf; obtain ⟨ao3, cp3, F3, rfl, hr⟩ := hT
      replace hs : Sep w F R w3 F3 [.row 65 ty53 (.slice ao3 z3.1.length cp3) z3.1, .row 54 ty53 (.slice ao2 z2.1.length cp2) z2.1, .ro (tI .u8) (.slice ao1 b.length cp1) b] := hs.back [1] [0, 1] rfl rfl rfl rfl hr
      clear hr
      replace hs : Sep w F R w3 F3 [.row 65 ty53 (.slice ao3 z3.1.length cp3) z3.1, .row 54 ty53 (.slice ao2 z2.1.length cp2) z2.1] := hs.sel [0, 1] rfl rfl
      replace hf := Fr.keep (ks := [4, 5, 21]) (L' := [(4, .slice ao2 z2.1.length cp2), (5, .int .i64 z2.2), (21, .tuple #[.slice ao3 z3.1.length cp3, .int .i64 z3.2])]) hf (by kernel_rfl)
      refine st tbOk 5 [4, 5, 6, 7] (L' := [(4, .slice ao2 z2.1.length cp2), (5, .int .i64 z2.2), (6, .slice ao3 z3.1.length cp3), (7, .int .i64 z3.2)]) hf (by kernel_rfl) ?_
      clear hf; clear a; intro a hf
      refine wpList_nil ?_
      refine sq ?_
      refine ctj (fun (s1 : Bool) (a : Act) (w' : World) => ∃ (F4 : SH), Sep w F R w' F4 [] ∧ Fr 33 [(2, .bool s1)] a) hS ?_ ?_
      · clear hS hf hs; clear a; intro s1 a w6 hM hS
        obtain ⟨F4, hs, hf⟩ := hM
        have hr := Option.some.inj hS; subst hr
        refine wp_ret ?_
        exact ret_ok hf (vs := [.bool s1]) (by kernel_rfl) ⟨_, rfl, hs.sel [] rfl rfl⟩
      · clear hS; intro KK1 k1 hK1 hS
        refine reg ?_
        refine st tbOk 4 [4, 6, 27] (L' := [(4, .slice ao2 z2.1.length cp2), (6, .slice ao3 z3.1.length cp3), (27, .bool (z2.2 == z3.2))]) hf (by kernel_rfl) ?_
        clear hf; clear a; intro a hf
        rcases Bool.eq_false_or_eq_true (z2.2 == z3.2) with hb3 | hb3
        · replace hS := of_t hb3 hS
          replace hf := Fr.cast (L' := [(4, .slice ao2 z2.1.length cp2), (6, .slice ao3 z3.1.length cp3), (27, .bool true)]) hf (by rw [hb3])
          refine st tbOk 1 [6, 27, 28] (L' := [(6, .slice ao3 z3.1.length cp3), (27, .bool true), (28, .slice ao2 z2.1.length cp2)]) hf (by kernel_rfl) ?_
          clear hf; clear a; intro a hf
          have hT := of_bd hS; clear hS; obtain ⟨z4, hz4, hS⟩ := hT
          obtain ⟨F5, _, hs⟩ := hs.frz 1 rfl
          replace hs : Sep w F R w3 F5 [.row 65 ty53 (.slice ao3 z3.1.length cp3) z3.1, .ro ty53 (.slice ao2 z2.1.length cp2) z2.1] := hs
          refine clV ent27 (vs := [.slice ao2 z2.1.length cp2]) (caps := []) hf (by kernel_rfl) (by kernel_rfl) (by kernel_rfl) (by kernel_rfl) (law08_model_ok (p_l := z2.1) (hs.enter [1] rfl rfl) hz4) ?_
          clear hf; clear a; intro v w4 a hT hf; obtain ⟨ao4, cp4, F6, rfl, hr⟩ := hT
          replace hs : Sep w F R w4 F6 [.row 65 ty53 (.slice ao4 z4.length cp4) z4, .row 65 ty53 (.slice ao3 z3.1.length cp3) z3.1, .ro ty53 (.slice ao2 z2.1.length cp2) z2.1] := hs.back [1] [0, 1] rfl rfl rfl rfl hr
          clear hr
          replace hs : Sep w F R w4 F6 [.row 65 ty53 (.slice ao4 z4.length cp4) z4, .row 65 ty53 (.slice ao3 z3.1.length cp3) z3.1] := hs.sel [0, 1] rfl rfl
          replace hf := Fr.keep (ks := [6, 27, 29]) (L' := [(6, .slice ao3 z3.1.length cp3), (27, .bool true), (29, .slice ao4 z4.length cp4)]) hf (by kernel_rfl)
          refine st tbOk 1 [27, 29, 30] (L' := [(27, .bool true), (29, .slice ao4 z4.length cp4), (30, .slice ao3 z3.1.length cp3)]) hf (by kernel_rfl) ?_
          clear hf; clear a; intro a hf
          have hT := of_bd hS; clear hS; obtain ⟨z5, hz5, hS⟩ := hT
          refine clV ent30 (vs := [.slice ao4 z4.length cp4, .slice ao3 z3.1.length cp3]) (caps := []) hf (by kernel_rfl) (by kernel_rfl) (by kernel_rfl) (by kernel_rfl) (law08_same_ok (p_a := z4) (b := z3.1) (hs.lend [0, 1] [] rfl rfl rfl rfl rfl) hz5) ?_
          clear hf; clear a; intro v w5 a hT hf; obtain ⟨F7, rfl, hr⟩ := hT
          replace hs : Sep w F R w5 F6 [.row 65 ty53 (.slice ao4 z4.length cp4) z4, .row 65 ty53 (.slice ao3 z3.1.length cp3) z3.1] := hs.backL [0, 1] [] [0, 1] rfl rfl rfl rfl rfl rfl hr trivial
          clear hr
          replace hs : Sep w F R w5 F6 [] := hs.sel [] rfl rfl
          replace hf := Fr.keep (ks := [27, 31]) (L' := [(27, .bool true), (31, .bool z5)]) hf (by kernel_rfl)
          refine st tbOk 2 [2] (L' := [(2, .bool z5)]) hf (by kernel_rfl) ?_
          clear hf; clear a; intro a hf
          refine wpList_nil ?_
          exact hK1 z5 _ _ ⟨_, hs.sel [] rfl rfl, hf.keep (ks := [2]) (by kernel_rfl)⟩ hS
        · replace hS := of_f hb3 hS
          replace hf := Fr.cast (L' := [(4, .slice ao2 z2.1.length cp2), (6, .slice ao3 z3.1.length cp3), (27, .bool false)]) hf (by rw [hb3])
          refine st tbOk 6 [2] (L' := [(2, .bool false)]) hf (by kernel_rfl) ?_
          clear hf; clear a; intro a hf
          refine wpList_nil ?_
          exact hK1 false _ _ ⟨_, hs.sel [] rfl rfl, hf.keep (ks := [2]) (by kernel_rfl)⟩ hS

end Dm
