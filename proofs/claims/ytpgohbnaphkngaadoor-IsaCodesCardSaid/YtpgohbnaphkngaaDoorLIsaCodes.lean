/-
  The walk of the law IsaCodes; printed by a program of this repo. No condition.
-/
import Derived.Test.YtpgohbnaphkngaaDoorWT
import Derived.Test.YtpgohbnaphkngaaDoorW0
import Derived.Test.YtpgohbnaphkngaaDoorW8
namespace Dm
open Go Go.RowKit Go.Proofs

set_option maxHeartbeats 4000000 in
theorem law12_IsaCodes_ok {w : World} {F : SH} {text : List UInt8}  (hs : Sep w F (blks [gth0, gth1, gth2]) w F [gth0, gth1, gth2]) {r : Bool} (hS : law12_IsaCodes text = some r) :
    Calls Tryd.prog 7 [strV text].toArray w (Gives (fun u w' => ∃ (F' : SH), u = .bool r ∧ Sep w F (blks [gth0, gth1, gth2]) w' F' [])) := by
  generalize (blks [gth0, gth1, gth2]) = R at hs ⊢
  unfold law12_IsaCodes at hS
  refine fn_ok (vs := [strV text]) Tryd.func7 rfl 43 Tryd.ntmps7 (Nat.le_of_ble_eq_true rfl) ?_
  intro a hf
  replace hf := Fr.cast (L' := [(0, strV text)]) hf (by kernel_rfl)
  refine sq ?_
  refine reg ?_
  refine st tbOk 1 [0] hf rfl ?_
  clear hf a; intro a hf
  refine wpList_nil ?_
  refine sq ?_
  refine reg ?_
  have hT := of_bd hS; clear hS; obtain ⟨z1, hz1, hS⟩ := hT
  refine clV ent10 (vs := []) (caps := []) hf (by kernel_rfl) (by kernel_rfl) (by kernel_rfl) (by kernel_rfl) (law12_awake_ok (hs.enter [0, 1, 2] rfl rfl) hz1) ?_
  clear hf; clear a; intro v w1 a hT hf; obtain ⟨F1, rfl, hr⟩ := hT
  replace hs := (hs.back [0, 1, 2] [0, 1, 2] rfl rfl rfl rfl hr).nf rfl
  clear hr
  replace hf := hf.keep (ks := [0, 10]) rfl
  refine st tbOk 1 [0, 3] hf rfl ?_
  clear hf a; intro a hf
  refine wpList_nil ?_
  refine sq ?_
  refine sq ?_
  refine reg ?_
  refine st tbOk 2 [0, 12] hf rfl ?_
  clear hf a; intro a hf
  refine wpList_nil ?_
  refine cnd (b := !z1) hf (by kernel_rfl) (fun hb1 => ?_) (fun hb1 => ?_)
  · replace hS := of_t hb1 hS
    refine sq ?_
    refine reg ?_
    refine st tbOk 1 [2] hf rfl ?_
    clear hf a; intro a hf
    refine wpList_nil ?_
    have hr := Option.some.inj hS; subst hr
    refine wp_ret ?_
    exact ret_ok hf (vs := [.bool false]) (by kernel_rfl) ⟨_, rfl, hs.sel [] rfl rfl⟩
  replace hS := of_f hb1 hS
  refine wp_skip ?_
  refine sq ?_
  refine sq ?_
  refine reg ?_
  refine st tbOk 3 [0, 15] hf rfl ?_
  clear hf a; intro a hf
  refine wpList_nil ?_
  refine cnd (b := decide (((text.length : Nat) : Int) > 3000)) hf (by kernel_rfl) (fun hb2 => ?_) (fun hb2 => ?_)
  · replace hS := of_t hb2 hS
    refine sq ?_
    refine reg ?_
    refine st tbOk 1 [2] hf rfl ?_
    clear hf a; intro a hf
    refine wpList_nil ?_
    have hr := Option.some.inj hS; subst hr
    refine wp_ret ?_
    exact ret_ok hf (vs := [.bool true]) (by kernel_rfl) ⟨_, rfl, hs.sel [] rfl rfl⟩
  replace hS := of_f hb2 hS
  refine wp_skip ?_
  refine sq ?_
  refine reg ?_
  refine st tbOk 1 [0, 17] hf rfl ?_
  clear hf a; intro a hf
  have hT := of_bd hS; clear hS; obtain ⟨z2, hz2, hS⟩ := hT
  refine clV ent20 (vs := [strV text]) (caps := []) hf (by kernel_rfl) (by kernel_rfl) (by kernel_rfl) (by kernel_rfl) (isa_Code_ok (text := text) (hs.enter [0, 1, 2] rfl rfl) hz2) ?_
  clear hf; clear a; intro v w2 a hT hf; obtain ⟨ao1, cp1, F2, rfl, hr⟩ := hT
  replace hs := (hs.back [0, 1, 2] [0, 1, 2] rfl rfl rfl rfl hr).nf rfl
  clear hr
  replace hf := hf.keep (ks := [0, 18]) rfl
  refine st tbOk 5 [0, 4, 20, 21] hf rfl ?_
  clear hf a; intro a hf
  refine st tbOk 2 [0, 4, 5, 6] hf rfl ?_
  clear hf a; intro a hf
  refine wpList_nil ?_
  refine sq ?_
  refine reg ?_
  refine st tbOk 1 [4, 5, 6, 23] hf rfl ?_
  clear hf a; intro a hf
  have hT := of_bd hS; clear hS; obtain ⟨z3, hz3, hS⟩ := hT
  refine clV ent21 (vs := [strV text]) (caps := []) hf (by kernel_rfl) (by kernel_rfl) (by kernel_rfl) (by kernel_rfl) (ref12_Code_ok (text := text) (hs.enter [] rfl rfl) hz3) ?_
  clear hf; clear a; intro v w3 a hT hf; obtain ⟨ao2, cp2, F3, rfl, hr⟩ := hT
  replace hs := (hs.back [] [0, 1, 2, 3] rfl rfl rfl rfl hr).nf rfl
  clear hr
  replace hf := hf.keep (ks := [4, 5, 6, 24]) rfl
  refine st tbOk 5 [4, 5, 6, 7, 26, 27] hf rfl ?_
  clear hf a; intro a hf
  refine st tbOk 2 [4, 5, 6, 7, 8, 9] hf rfl ?_
  clear hf a; intro a hf
  refine wpList_nil ?_
  refine sq ?_
  refine ctj (fun (s1 : Bool) (a : Act) (w' : World) => ∃ (F4 : SH), Sep w F R w' F4 [gth0, gth1, gth2] ∧ Fr 43 [(2, .bool s1)] a) hS ?_ ?_
  · clear hS hf hs; clear a; intro s1 a w4 hM hS
    obtain ⟨F4, hs, hf⟩ := hM
    have hr := Option.some.inj hS; subst hr
    refine wp_ret ?_
    exact ret_ok hf (vs := [.bool s1]) (by kernel_rfl) ⟨_, rfl, hs.sel [] rfl rfl⟩
  clear hS; intro KK1 k1 hK1 hS
  refine reg ?_
  refine st tbOk 1 [5, 6, 7, 8, 9, 28] hf rfl ?_
  clear hf a; intro a hf
  refine b2sR tbOk u49 u5 u9 (hs.raW 1 rfl) hf (by kernel_rfl) (by kernel_rfl) (by kernel_rfl) ?_
  clear hf a; intro a hf
  replace hs := hs.sel [0, 2, 3, 4] rfl rfl
  replace hf := hf.keep (ks := [5, 6, 7, 8, 9, 29]) rfl
  refine st tbOk 1 [5, 6, 8, 9, 29, 30] hf rfl ?_
  clear hf a; intro a hf
  refine b2sR tbOk u49 u5 u9 (hs.raW 0 rfl) hf (by kernel_rfl) (by kernel_rfl) (by kernel_rfl) ?_
  clear hf a; intro a hf
  replace hs := hs.sel [1, 2, 3] rfl rfl
  replace hf := hf.keep (ks := [5, 6, 8, 9, 29, 31]) rfl
  refine st tbOk 2 [5, 6, 8, 9, 33] hf rfl ?_
  clear hf a; intro a hf
  rcases Bool.eq_false_or_eq_true ((toStr z2.1) == (toStr z3.1)) with hb3 | hb3
  rotate_left
  · replace hS := of_f hb3 hS
    replace hf := hf.castB hb3 (fun qb => [(5, .int .i64 z2.2.1), (6, .int .i64 z2.2.2), (8, .int .i64 z3.2.1), (9, .int .i64 z3.2.2), (33, .bool qb)]) (by kernel_rfl)
    refine st tbOk 5 [6, 9, 38] hf rfl ?_
    clear hf a; intro a hf
    refine st tbOk 5 [2] hf rfl ?_
    clear hf a; intro a hf
    refine wpList_nil ?_
    exact hK1 false _ _ ⟨_, hs.sel [0, 1, 2] rfl rfl, hf.keep (ks := [2]) (by kernel_rfl)⟩ hS
  replace hS := of_t hb3 hS
  replace hf := hf.castB hb3 (fun qb => [(5, .int .i64 z2.2.1), (6, .int .i64 z2.2.2), (8, .int .i64 z3.2.1), (9, .int .i64 z3.2.2), (33, .bool qb)]) (by kernel_rfl)
  refine st tbOk 5 [6, 9, 38] hf rfl ?_
  clear hf a; intro a hf
  rcases Bool.eq_false_or_eq_true (z2.2.1 == z3.2.1) with hb4 | hb4
  rotate_left
  · replace hS := of_f hb4 hS
    replace hf := hf.castB hb4 (fun qb => [(6, .int .i64 z2.2.2), (9, .int .i64 z3.2.2), (38, .bool qb)]) (by kernel_rfl)
    refine st tbOk 5 [2] hf rfl ?_
    clear hf a; intro a hf
    refine wpList_nil ?_
    exact hK1 false _ _ ⟨_, hs.sel [0, 1, 2] rfl rfl, hf.keep (ks := [2]) (by kernel_rfl)⟩ hS
  replace hS := of_t hb4 hS
  replace hf := hf.castB hb4 (fun qb => [(6, .int .i64 z2.2.2), (9, .int .i64 z3.2.2), (38, .bool qb)]) (by kernel_rfl)
  refine st tbOk 5 [2] hf rfl ?_
  clear hf a; intro a hf
  refine wpList_nil ?_
  exact hK1 (z2.2.2 == z3.2.2) _ _ ⟨_, hs.sel [0, 1, 2] rfl rfl, hf.keep (ks := [2]) (by kernel_rfl)⟩ hS

end Dm
