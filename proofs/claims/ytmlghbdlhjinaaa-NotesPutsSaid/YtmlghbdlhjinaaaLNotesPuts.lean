/-
  The walk of the law NotesPuts; printed by a program of this repo. No condition.
-/
import Derived.Test.YtmlghbdlhjinaaaWT
import Derived.Test.YtmlghbdlhjinaaaW5
import Derived.Test.YtmlghbdlhjinaaaW6
import Derived.Test.YtmlghbdlhjinaaaW7
import Derived.Test.YtmlghbdlhjinaaaW8
namespace Dm
open Go Go.RowKit Go.Proofs

set_option maxHeartbeats 4000000 in
theorem law08_NotesPuts_ok {w : World} {F : SH} {p_l : List ((List UInt8) × Int × (List Int))} {ao1 : Option Addr} {cp1 : Nat} (hs : Sep w F (blks [.ro ty53 (.slice ao1 p_l.length cp1) p_l]) w F [.ro ty53 (.slice ao1 p_l.length cp1) p_l]) {r : Bool} (hS : law08_NotesPuts p_l = some r) :
    Calls Try.prog 9 [.slice ao1 p_l.length cp1].toArray w (Gives (fun u w' => ∃ (F' : SH), u = .bool r ∧ Sep w F (blks [.ro ty53 (.slice ao1 p_l.length cp1) p_l]) w' F' [])) := by
  generalize (blks [.ro ty53 (.slice ao1 p_l.length cp1) p_l]) = R at hs ⊢
  unfold law08_NotesPuts at hS
  refine fn_ok (vs := [.slice ao1 p_l.length cp1]) Try.func9 rfl 37 Try.ntmps9 (Nat.le_of_ble_eq_true rfl) ?_
  intro a hf
  replace hf := Fr.cast (L' := [(0, .slice ao1 p_l.length cp1)]) hf (by kernel_rfl)
  refine sq ?_
  refine reg ?_
  refine st tbOk 1 [0] (L' := [(0, .slice ao1 p_l.length cp1)]) hf (by kernel_rfl) ?_
  clear hf; clear a; intro a hf
  refine wpList_nil ?_
  refine sq ?_
  refine reg ?_
  have hT := of_bd hS; clear hS; obtain ⟨z1, hz1, hS⟩ := hT
  refine clV ent23 (vs := []) (caps := []) hf (by kernel_rfl) (by kernel_rfl) (by kernel_rfl) (by kernel_rfl) (law08_awake_ok (hs.enter [] rfl rfl) hz1) ?_
  clear hf; clear a; intro v w1 a hT hf; obtain ⟨F1, rfl, hr⟩ := hT
  replace hs : Sep w F R w1 F1 [.ro ty53 (.slice ao1 p_l.length cp1) p_l] := hs.back [] [0] rfl rfl rfl rfl hr
  clear hr
  replace hf := Fr.keep (ks := [0, 9]) (L' := [(0, .slice ao1 p_l.length cp1), (9, .bool z1)]) hf (by kernel_rfl)
  refine st tbOk 1 [0, 3] (L' := [(0, .slice ao1 p_l.length cp1), (3, .bool z1)]) hf (by kernel_rfl) ?_
  clear hf; clear a; intro a hf
  refine wpList_nil ?_
  refine sq ?_
  refine sq ?_
  refine reg ?_
  refine st tbOk 2 [0, 11] (L' := [(0, .slice ao1 p_l.length cp1), (11, .bool (!z1))]) hf (by kernel_rfl) ?_
  clear hf; clear a; intro a hf
  refine wpList_nil ?_
  refine cnd (b := !z1) hf (by kernel_rfl) (fun hb1 => ?_) (fun hb1 => ?_)
  · replace hS := of_t hb1 hS
    refine sq ?_
    refine reg ?_
    refine st tbOk 1 [2] (L' := [(2, .bool false)]) hf (by kernel_rfl) ?_
    clear hf; clear a; intro a hf
    refine wpList_nil ?_
    have hr := Option.some.inj hS; subst hr
    refine wp_ret ?_
    exact ret_ok hf (vs := [.bool false]) (by kernel_rfl) ⟨_, rfl, hs.sel [] rfl rfl⟩
  · replace hS := of_f hb1 hS
    refine wp_skip ?_
    refine sq ?_
    refine reg ?_
    refine st tbOk 1 [0, 12] (L' := [(0, .slice ao1 p_l.length cp1), (12, .slice ao1 p_l.length cp1)]) hf (by kernel_rfl) ?_
    clear hf; clear a; intro a hf
    have hT := of_bd hS; clear hS; obtain ⟨z2, hz2, hS⟩ := hT
    refine clV ent24 (vs := [.slice ao1 p_l.length cp1]) (caps := []) hf (by kernel_rfl) (by kernel_rfl) (by kernel_rfl) (by kernel_rfl) (law08_few_ok (p_l := p_l) (hs.enter [0] rfl rfl) hz2) ?_
    clear hf; clear a; intro v w2 a hT hf; obtain ⟨F2, rfl, hr⟩ := hT
    replace hs : Sep w F R w2 F2 [.ro ty53 (.slice ao1 p_l.length cp1) p_l] := hs.back [0] [0] rfl rfl rfl rfl hr
    clear hr
    replace hf := Fr.keep (ks := [0, 13]) (L' := [(0, .slice ao1 p_l.length cp1), (13, .bool z2)]) hf (by kernel_rfl)
    refine st tbOk 1 [0, 4] (L' := [(0, .slice ao1 p_l.length cp1), (4, .bool z2)]) hf (by kernel_rfl) ?_
    clear hf; clear a; intro a hf
    refine wpList_nil ?_
    refine sq ?_
    refine sq ?_
    refine reg ?_
    refine st tbOk 2 [0, 15] (L' := [(0, .slice ao1 p_l.length cp1), (15, .bool (!z2))]) hf (by kernel_rfl) ?_
    clear hf; clear a; intro a hf
    refine wpList_nil ?_
    refine cnd (b := !z2) hf (by kernel_rfl) (fun hb2 => ?_) (fun hb2 => ?_)
    · replace hS := of_t hb2 hS
      refine sq ?_
      refine reg ?_
      refine st tbOk 1 [2] (L' := [(2, .bool true)]) hf (by kernel_rfl) ?_
      clear hf; clear a; intro a hf
      refine wpList_nil ?_
      have hr := Option.some.inj hS; subst hr
      refine wp_ret ?_
      exact ret_ok hf (vs := [.bool true]) (by kernel_rfl) ⟨_, rfl, hs.sel [] rfl rfl⟩
    · replace hS := of_f hb2 hS
      refine wp_skip ?_
      refine sq ?_
      refine reg ?_
      refine st tbOk 1 [0, 17] (L' := [(0, .slice ao1 p_l.length cp1), (17, .slice ao1 p_l.length cp1)]) hf (by kernel_rfl) ?_
      clear hf; clear a; intro a hf
      have hT := of_bd hS; clear hS; obtain ⟨z3, hz3, hS⟩ := hT
      refine clV ent25 (vs := [.slice ao1 p_l.length cp1]) (caps := []) hf (by kernel_rfl) (by kernel_rfl) (by kernel_rfl) (by kernel_rfl) (notes_Put_ok (p_l := p_l) (hs.enter [0] rfl rfl) hz3) ?_
      clear hf; clear a; intro v w3 a hT hf; obtain ⟨ao2, cp2, F3, rfl, hr⟩ := hT
      replace hs : Sep w F R w3 F3 [.row 5 (tI .u8) (.slice ao2 z3.1.length cp2) z3.1, .ro ty53 (.slice ao1 p_l.length cp1) p_l] := hs.back [0] [0] rfl rfl rfl rfl hr
      clear hr
      replace hf := Fr.keep (ks := [0, 18]) (L' := [(0, .slice ao1 p_l.length cp1), (18, .tuple #[.slice ao2 z3.1.length cp2, .int .i64 z3.2])]) hf (by kernel_rfl)
      refine st tbOk 5 [0, 5, 6] (L' := [(0, .slice ao1 p_l.length cp1), (5, .slice ao2 z3.1.length cp2), (6, .int .i64 z3.2)]) hf (by kernel_rfl) ?_
      clear hf; clear a; intro a hf
      refine wpList_nil ?_
      refine sq ?_
      refine reg ?_
      refine st tbOk 1 [5, 6, 22] (L' := [(5, .slice ao2 z3.1.length cp2), (6, .int .i64 z3.2), (22, .slice ao1 p_l.length cp1)]) hf (by kernel_rfl) ?_
      clear hf; clear a; intro a hf
      have hT := of_bd hS; clear hS; obtain ⟨z4, hz4, hS⟩ := hT
      refine clV ent27 (vs := [.slice ao1 p_l.length cp1]) (caps := []) hf (by kernel_rfl) (by kernel_rfl) (by kernel_rfl) (by kernel_rfl) (law08_model_ok (p_l := p_l) (hs.enter [1] rfl rfl) hz4) ?_
      clear hf; clear a; intro v w4 a hT hf; obtain ⟨ao3, cp3, F4, rfl, hr⟩ := hT
      replace hs : Sep w F R w4 F4 [.row 65 ty53 (.slice ao3 z4.length cp3) z4, .row 5 (tI .u8) (.slice ao2 z3.1.length cp2) z3.1, .ro ty53 (.slice ao1 p_l.length cp1) p_l] := hs.back [1] [0, 1] rfl rfl rfl rfl hr
      clear hr
      replace hs : Sep w F R w4 F4 [.row 65 ty53 (.slice ao3 z4.length cp3) z4, .row 5 (tI .u8) (.slice ao2 z3.1.length cp2) z3.1] := hs.sel [0, 1] rfl rfl
      replace hf := Fr.keep (ks := [5, 6, 23]) (L' := [(5, .slice ao2 z3.1.length cp2), (6, .int .i64 z3.2), (23, .slice ao3 z4.length cp3)]) hf (by kernel_rfl)
      have hT := of_bd hS; clear hS; obtain ⟨z5, hz5, hS⟩ := hT
      refine clV ent26 (vs := [.slice ao3 z4.length cp3]) (caps := []) hf (by kernel_rfl) (by kernel_rfl) (by kernel_rfl) (by kernel_rfl) (ref08_Put_ok (p_l := z4) (hs.lend [0] [] rfl rfl rfl rfl rfl) hz5) ?_
      clear hf; clear a; intro v w5 a hT hf; obtain ⟨ao4, cp4, F5, rfl, hr⟩ := hT
      replace hs : Sep w F R w5 F4 [.row 5 (tI .u8) (.slice ao4 z5.1.length cp4) z5.1, .row 65 ty53 (.slice ao3 z4.length cp3) z4, .row 5 (tI .u8) (.slice ao2 z3.1.length cp2) z3.1] := hs.backL [0] [] [0, 1] rfl rfl rfl rfl rfl rfl hr ⟨(flat_I .u8), trivial⟩
      clear hr
      replace hs : Sep w F R w5 F4 [.row 5 (tI .u8) (.slice ao4 z5.1.length cp4) z5.1, .row 5 (tI .u8) (.slice ao2 z3.1.length cp2) z3.1] := hs.sel [0, 2] rfl rfl
      replace hf := Fr.keep (ks := [5, 6, 24]) (L' := [(5, .slice ao2 z3.1.length cp2), (6, .int .i64 z3.2), (24, .tuple #[.slice ao4 z5.1.length cp4, .int .i64 z5.2])]) hf (by kernel_rfl)
      refine st tbOk 5 [5, 6, 7, 8] (L' := [(5, .slice ao2 z3.1.length cp2), (6, .int .i64 z3.2), (7, .slice ao4 z5.1.length cp4), (8, .int .i64 z5.2)]) hf (by kernel_rfl) ?_
      clear hf; clear a; intro a hf
      refine wpList_nil ?_
      refine sq ?_
      refine ctj (fun (s1 : Bool) (a : Act) (w' : World) => ∃ (F6 : SH), Sep w F R w' F6 [] ∧ Fr 37 [(2, .bool s1)] a) hS ?_ ?_
      · clear hS hf hs; clear a; intro s1 a w6 hM hS
        obtain ⟨F6, hs, hf⟩ := hM
        have hr := Option.some.inj hS; subst hr
        refine wp_ret ?_
        exact ret_ok hf (vs := [.bool s1]) (by kernel_rfl) ⟨_, rfl, hs.sel [] rfl rfl⟩
      · clear hS; intro KK1 k1 hK1 hS
        refine reg ?_
        refine st tbOk 1 [6, 7, 8, 27] (L' := [(6, .int .i64 z3.2), (7, .slice ao4 z5.1.length cp4), (8, .int .i64 z5.2), (27, .slice ao2 z3.1.length cp2)]) hf (by kernel_rfl) ?_
        clear hf; clear a; intro a hf
        refine b2sR tbOk u22 u5 u9 (hs.raW 1 rfl) hf (by kernel_rfl) (by kernel_rfl) (by kernel_rfl) ?_
        clear hf; clear a; intro a hf
        replace hs : Sep w F R w5 F4 [.row 5 (tI .u8) (.slice ao4 z5.1.length cp4) z5.1] := hs.sel [0] rfl rfl
        replace hf := Fr.keep (ks := [6, 7, 8, 28]) (L' := [(6, .int .i64 z3.2), (7, .slice ao4 z5.1.length cp4), (8, .int .i64 z5.2), (28, strV (toStr z3.1))]) hf (by kernel_rfl)
        refine st tbOk 1 [6, 8, 28, 29] (L' := [(6, .int .i64 z3.2), (8, .int .i64 z5.2), (28, strV (toStr z3.1)), (29, .slice ao4 z5.1.length cp4)]) hf (by kernel_rfl) ?_
        clear hf; clear a; intro a hf
        refine b2sR tbOk u22 u5 u9 (hs.raW 0 rfl) hf (by kernel_rfl) (by kernel_rfl) (by kernel_rfl) ?_
        clear hf; clear a; intro a hf
        replace hs : Sep w F R w5 F4 [] := hs.sel [] rfl rfl
        replace hf := Fr.keep (ks := [6, 8, 28, 30]) (L' := [(6, .int .i64 z3.2), (8, .int .i64 z5.2), (28, strV (toStr z3.1)), (30, strV (toStr z5.1))]) hf (by kernel_rfl)
        refine st tbOk 2 [6, 8, 32] (L' := [(6, .int .i64 z3.2), (8, .int .i64 z5.2), (32, .bool ((toStr z3.1) == (toStr z5.1)))]) hf (by kernel_rfl) ?_
        clear hf; clear a; intro a hf
        rcases Bool.eq_false_or_eq_true ((toStr z3.1) == (toStr z5.1)) with hb3 | hb3
        · replace hS := of_t hb3 hS
          replace hf := Fr.cast (L' := [(6, .int .i64 z3.2), (8, .int .i64 z5.2), (32, .bool true)]) hf (by rw [hb3])
          refine st tbOk 5 [2] (L' := [(2, .bool (z3.2 == z5.2))]) hf (by kernel_rfl) ?_
          clear hf; clear a; intro a hf
          refine wpList_nil ?_
          exact hK1 (z3.2 == z5.2) _ _ ⟨_, hs.sel [] rfl rfl, hf.keep (ks := [2]) (by kernel_rfl)⟩ hS
        · replace hS := of_f hb3 hS
          replace hf := Fr.cast (L' := [(6, .int .i64 z3.2), (8, .int .i64 z5.2), (32, .bool false)]) hf (by rw [hb3])
          refine st tbOk 5 [2] (L' := [(2, .bool false)]) hf (by kernel_rfl) ?_
          clear hf; clear a; intro a hf
          refine wpList_nil ?_
          exact hK1 false _ _ ⟨_, hs.sel [] rfl rfl, hf.keep (ks := [2]) (by kernel_rfl)⟩ hS

end Dm
