/-
  The walk of the law IsaNumbers; printed by a program of this repo. No condition.
-/
import Derived.Test.YtpgohbnaphkngaaDoorWT
import Derived.Test.YtpgohbnaphkngaaDoorW0
import Derived.Test.YtpgohbnaphkngaaDoorW1
import Derived.Test.YtpgohbnaphkngaaDoorW7
namespace Dm
open Go Go.RowKit Go.Proofs

set_option maxHeartbeats 4000000 in
theorem law12_IsaNumbers_ok {w : World} {F : SH} {p_s : List UInt8} {p_which : Int}  (hs : Sep w F (blks [gth0, gth1, gth2]) w F [gth0, gth1, gth2]) {r : Bool} (hS : law12_IsaNumbers p_s p_which = some r) :
    Calls Tryd.prog 9 [strV p_s, .int .i64 p_which].toArray w (Gives (fun u w' => ∃ (F' : SH), u = .bool r ∧ Sep w F (blks [gth0, gth1, gth2]) w' F' [])) := by
  generalize (blks [gth0, gth1, gth2]) = R at hs ⊢
  unfold law12_IsaNumbers at hS
  refine fn_ok (vs := [strV p_s, .int .i64 p_which]) Tryd.func9 rfl 44 Tryd.ntmps9 (Nat.le_of_ble_eq_true rfl) ?_
  intro a hf
  replace hf := Fr.cast (L' := [(0, strV p_s), (1, .int .i64 p_which)]) hf (by kernel_rfl)
  refine sq ?_
  refine reg ?_
  refine st tbOk 1 [0, 1] hf rfl ?_
  clear hf a; intro a hf
  refine wpList_nil ?_
  refine sq ?_
  refine reg ?_
  have hT := of_bd hS; clear hS; obtain ⟨z1, hz1, hS⟩ := hT
  refine clV ent10 (vs := []) (caps := []) hf (by kernel_rfl) (by kernel_rfl) (by kernel_rfl) (by kernel_rfl) (law12_awake_ok (hs.enter [0, 1, 2] rfl rfl) hz1) ?_
  clear hf; clear a; intro v w1 a hT hf; obtain ⟨F1, rfl, hr⟩ := hT
  replace hs := (hs.back [0, 1, 2] [0, 1, 2] rfl rfl rfl rfl hr).nf rfl
  clear hr
  replace hf := hf.keep (ks := [0, 1, 11]) rfl
  refine st tbOk 1 [0, 1, 5] hf rfl ?_
  clear hf a; intro a hf
  refine wpList_nil ?_
  refine sq ?_
  refine sq ?_
  refine reg ?_
  refine st tbOk 2 [0, 1, 13] hf rfl ?_
  clear hf a; intro a hf
  refine wpList_nil ?_
  refine cnd (b := !z1) hf (by kernel_rfl) (fun hb1 => ?_) (fun hb1 => ?_)
  · replace hS := of_t hb1 hS
    refine sq ?_
    refine reg ?_
    refine st tbOk 1 [4] hf rfl ?_
    clear hf a; intro a hf
    refine wpList_nil ?_
    have hr := Option.some.inj hS; subst hr
    refine wp_ret ?_
    exact ret_ok hf (vs := [.bool false]) (by kernel_rfl) ⟨_, rfl, hs.sel [] rfl rfl⟩
  replace hS := of_f hb1 hS
  refine wp_skip ?_
  refine sq ?_
  refine sq ?_
  refine reg ?_
  refine st tbOk 3 [0, 1, 16] hf rfl ?_
  clear hf a; intro a hf
  refine wpList_nil ?_
  refine cnd (b := decide (((p_s.length : Nat) : Int) > 100)) hf (by kernel_rfl) (fun hb2 => ?_) (fun hb2 => ?_)
  · replace hS := of_t hb2 hS
    refine sq ?_
    refine reg ?_
    refine st tbOk 1 [4] hf rfl ?_
    clear hf a; intro a hf
    refine wpList_nil ?_
    have hr := Option.some.inj hS; subst hr
    refine wp_ret ?_
    exact ret_ok hf (vs := [.bool true]) (by kernel_rfl) ⟨_, rfl, hs.sel [] rfl rfl⟩
  replace hS := of_f hb2 hS
  refine wp_skip ?_
  refine sq ?_
  refine reg ?_
  refine bsR tbOk u53 i9 rfl (t := tS) (vs := [(0, strV [109, 111, 118, 105, 32, 49, 32]), (1, strV [106, 109, 112, 32]), (2, strV [106, 114, 32]), (3, strV [97, 100, 100, 105, 32, 49, 32, 50, 32]), (4, strV [109, 111, 118, 32, 51, 32])]) (cells := #[strV [109, 111, 118, 105, 32, 49, 32], strV [106, 109, 112, 32], strV [106, 114, 32], strV [97, 100, 100, 105, 32, 49, 32, 50, 32], strV [109, 111, 118, 32, 51, 32]]) ([[109, 111, 118, 105, 32, 49, 32], [106, 109, 112, 32], [106, 114, 32], [97, 100, 100, 105, 32, 49, 32, 50, 32], [109, 111, 118, 32, 51, 32]] : List (List UInt8)) hs.le hf (by kernel_rfl) (by kernel_rfl) (by kernel_rfl) rfl (by kernel_rfl) (reps_flat _) rfl ?_
  clear hf; clear a; intro w2 a ho hx hf
  replace hs := hs.newRow ho hx
  clear ho hx
  replace hf := hf.keep (ks := [0, 1, 17]) rfl
  refine st tbOk 3 [0, 17, 20] hf rfl ?_
  clear hf a; intro a hf
  have hT := of_gd hS; clear hS; obtain ⟨hc1, hS⟩ := hT
  refine ixR tbOk u53 i9 rfl rfl (hs.raW 0 rfl) (k := .i64) (n := Int.tmod (band .i64 p_which 255) 5) hc1 hf (by kernel_rfl) (by kernel_rfl) (by kernel_rfl) (by kernel_rfl) ?_
  clear hf; clear a; intro pb1 po1 c1 a hp1 hr1 hf
  obtain rfl : c1 = [strV (gt ([[109, 111, 118, 105, 32, 49, 32], [106, 109, 112, 32], [106, 114, 32], [97, 100, 100, 105, 32, 49, 32, 50, 32], [109, 111, 118, 32, 51, 32]] : List (List UInt8)) (Int.tmod (band .i64 p_which 255) 5))] := hr1
  replace hs := hs.sel [1, 2, 3] rfl rfl
  replace hf := hf.keep (ks := [0, 21]) rfl
  refine ldC tbOk (T := 9) hp1 (LeH.refl _) 0 (strV (gt ([[109, 111, 118, 105, 32, 49, 32], [106, 109, 112, 32], [106, 114, 32], [97, 100, 100, 105, 32, 49, 32, 50, 32], [109, 111, 118, 32, 51, 32]] : List (List UInt8)) (Int.tmod (band .i64 p_which 255) 5))) hf (by kernel_rfl) (by kernel_rfl) (by kernel_rfl) (by kernel_rfl) ?_
  clear hf a; intro a hf
  replace hf := hf.keep (ks := [0, 22]) rfl
  refine st tbOk 1 [22, 23] hf rfl ?_
  clear hf a; intro a hf
  have hT := of_gd hS; clear hS; obtain ⟨hc2, hS⟩ := hT
  refine addS hc2 hf (by kernel_rfl) (by kernel_rfl) (by kernel_rfl) (by kernel_rfl) ?_
  clear hf a; intro a hf
  replace hf := hf.keep (ks := [24]) rfl
  have hT := of_let hS; clear hS; obtain ⟨t_1, hl1, hS⟩ := hT
  refine st tbOk 1 [6] (L' := [(6, strV t_1)]) hf (by subst hl1; kernel_rfl) ?_
  clear hf a; intro a hf
  refine wpList_nil ?_
  refine sq ?_
  refine reg ?_
  refine st tbOk 1 [6, 26] hf rfl ?_
  clear hf a; intro a hf
  have hT := of_bd hS; clear hS; obtain ⟨z2, hz2, hS⟩ := hT
  refine clV ent18 (vs := [strV t_1]) (caps := []) hf (by kernel_rfl) (by kernel_rfl) (by kernel_rfl) (by kernel_rfl) (isa_Parse_ok (p_s := t_1) (hs.enter [0, 2] rfl rfl) hz2) ?_
  clear hf; clear a; intro v w3 a hT hf; obtain ⟨F2, rfl, hr⟩ := hT
  replace hs := (hs.back [0, 2] [0, 1, 2] rfl rfl rfl rfl hr).nf rfl
  clear hr
  replace hf := hf.keep (ks := [6, 27]) rfl
  refine st tbOk 3 [6, 28, 29] hf rfl ?_
  clear hf a; intro a hf
  refine al tbOk i24 [.int .i64 0, .int .i64 0, .int .i64 0, .int .i64 0, .int .i32 0] rfl (by kernel_rfl) hf (by kernel_rfl) (by kernel_rfl) ?_
  clear hf; clear a; intro w4 a hb hx _ hf
  replace hs := hs.newBox hb hx
  clear hb hx
  replace hf := hf.keep (ks := [6, 7, 28, 29]) rfl
  refine stB tbOk i24 (hs.bx 0 rfl) 0 [.int .i64 z2.1.1, .int .i64 z2.1.2.1, .int .i64 z2.1.2.2.1, .int .i64 z2.1.2.2.2.1, .int .i32 z2.1.2.2.2.2] [.int .i64 z2.1.1, .int .i64 z2.1.2.1, .int .i64 z2.1.2.2.1, .int .i64 z2.1.2.2.2.1, .int .i32 z2.1.2.2.2.2] (v := .agg #[.int .i64 z2.1.1, .int .i64 z2.1.2.1, .int .i64 z2.1.2.2.1, .int .i64 z2.1.2.2.2.1, .int .i32 z2.1.2.2.2.2]) rfl rfl (by kernel_rfl) (by kernel_rfl) (by kernel_rfl) (by kernel_rfl) hf (by kernel_rfl) (by kernel_rfl) (by kernel_rfl) ?_
  clear hf; clear a; intro w5 a hb hg _ hf
  replace hs := (hs.updBox 0 rfl hb hg).nf rfl
  clear hb hg
  replace hf := hf.keep (ks := [6, 7, 29]) rfl
  refine st tbOk 1 [6, 7, 8] hf rfl ?_
  clear hf a; intro a hf
  refine wpList_nil ?_
  refine sq ?_
  refine reg ?_
  refine st tbOk 1 [7, 8, 31] hf rfl ?_
  clear hf a; intro a hf
  have hT := of_bd hS; clear hS; obtain ⟨z3, hz3, hS⟩ := hT
  refine clV ent19 (vs := [strV t_1]) (caps := []) hf (by kernel_rfl) (by kernel_rfl) (by kernel_rfl) (by kernel_rfl) (ref12_Parse_ok (p_s := t_1) (hs.enter [] rfl rfl) hz3) ?_
  clear hf; clear a; intro v w6 a hT hf; obtain ⟨F3, rfl, hr⟩ := hT
  replace hs := (hs.back [] [0, 1, 2, 3] rfl rfl rfl rfl hr).nf rfl
  clear hr
  replace hf := hf.keep (ks := [7, 8, 32]) rfl
  refine st tbOk 3 [7, 8, 33, 34] hf rfl ?_
  clear hf a; intro a hf
  refine al tbOk i31 [.int .i64 0, .int .i64 0, .int .i64 0, .int .i64 0, .int .i64 0] rfl (by kernel_rfl) hf (by kernel_rfl) (by kernel_rfl) ?_
  clear hf; clear a; intro w7 a hb hx _ hf
  replace hs := hs.newBox hb hx
  clear hb hx
  replace hf := hf.keep (ks := [7, 8, 9, 33, 34]) rfl
  refine stB tbOk i31 (hs.bx 0 rfl) 0 [.int .i64 z3.1.1, .int .i64 z3.1.2.1, .int .i64 z3.1.2.2.1, .int .i64 z3.1.2.2.2.1, .int .i64 z3.1.2.2.2.2] [.int .i64 z3.1.1, .int .i64 z3.1.2.1, .int .i64 z3.1.2.2.1, .int .i64 z3.1.2.2.2.1, .int .i64 z3.1.2.2.2.2] (v := .agg #[.int .i64 z3.1.1, .int .i64 z3.1.2.1, .int .i64 z3.1.2.2.1, .int .i64 z3.1.2.2.2.1, .int .i64 z3.1.2.2.2.2]) rfl rfl (by kernel_rfl) (by kernel_rfl) (by kernel_rfl) (by kernel_rfl) hf (by kernel_rfl) (by kernel_rfl) (by kernel_rfl) ?_
  clear hf; clear a; intro w8 a hb hg _ hf
  replace hs := (hs.updBox 0 rfl hb hg).nf rfl
  clear hb hg
  replace hf := hf.keep (ks := [7, 8, 9, 34]) rfl
  refine st tbOk 1 [7, 8, 9, 10] hf rfl ?_
  clear hf a; intro a hf
  refine wpList_nil ?_
  refine sq ?_
  refine ctj (fun (s1 : Bool) (a : Act) (w' : World) => ∃ (F4 : SH), Sep w F R w' F4 [gth0, gth1, gth2] ∧ Fr 44 [(4, .bool s1)] a) hS ?_ ?_
  · clear hS hf hs; clear a; intro s1 a w11 hM hS
    obtain ⟨F4, hs, hf⟩ := hM
    have hr := Option.some.inj hS; subst hr
    refine wp_ret ?_
    exact ret_ok hf (vs := [.bool s1]) (by kernel_rfl) ⟨_, rfl, hs.sel [] rfl rfl⟩
  clear hS; intro KK1 k1 hK1 hS
  refine regQ mixed (by kernel_rfl) ?_
  refine stQ tbOk 4 [7, 9, 38] hf rfl ?_
  clear hf a; intro a hf
  rcases Bool.eq_false_or_eq_true (z2.2 == z3.2) with hb3 | hb3
  rotate_left
  · replace hS := of_f hb3 hS
    replace hf := hf.castB hb3 (fun qb => [(7, .pointer (some ⟨w3.heap.size, 0, none⟩)), (9, .pointer (some ⟨w6.heap.size, 0, none⟩)), (38, .bool qb)]) (by kernel_rfl)
    refine stQ tbOk 5 [43] hf rfl ?_
    clear hf a; intro a hf
    refine stQ tbOk 1 [4] hf rfl ?_
    clear hf a; intro a hf
    refine wpQuiet_nil ?_
    intro w10 hx
    replace hs := hs.ext hx
    clear hx
    exact hK1 false _ _ ⟨_, hs.sel [2, 3, 4] rfl rfl, hf.keep (ks := [4]) (by kernel_rfl)⟩ hS
  replace hS := of_t hb3 hS
  replace hf := hf.castB hb3 (fun qb => [(7, .pointer (some ⟨w3.heap.size, 0, none⟩)), (9, .pointer (some ⟨w6.heap.size, 0, none⟩)), (38, .bool qb)]) (by kernel_rfl)
  refine ldCQ tbOk (T := 24) (hs.cbx 1 rfl) (LeH.refl _) 0 (.agg #[.int .i64 z2.1.1, .int .i64 z2.1.2.1, .int .i64 z2.1.2.2.1, .int .i64 z2.1.2.2.2.1, .int .i32 z2.1.2.2.2.2]) hf (by kernel_rfl) (by kernel_rfl) (by kernel_rfl) (by kernel_rfl) ?_
  clear hf a; intro a hf
  replace hs := hs.sel [0, 2, 3, 4] rfl rfl
  replace hf := hf.keep (ks := [9, 38, 39]) rfl
  have hT := of_bd hS; clear hS; obtain ⟨z4, hz4, hS⟩ := hT
  refine clVQ ent13 (vs := [.agg #[.int .i64 z2.1.1, .int .i64 z2.1.2.1, .int .i64 z2.1.2.2.1, .int .i64 z2.1.2.2.2.1, .int .i32 z2.1.2.2.2.2]]) (caps := []) hf (by kernel_rfl) (by kernel_rfl) (by kernel_rfl) (by kernel_rfl) (.agg #[.int .i64 z4.1, .int .i64 z4.2.1, .int .i64 z4.2.2.1, .int .i64 z4.2.2.2.1, .int .i64 z4.2.2.2.2]) (fun wq hq => (law12_model_ok (i := (z2.1.1, z2.1.2.1, z2.1.2.2.1, z2.1.2.2.2.1, z2.1.2.2.2.2)) (hs.lendQ hq [] rfl rfl) hz4).mono fun _ _ h => Gives.mono (fun _ ⟨_, e, h⟩ => ⟨e, h.ex (pers_blks rfl)⟩) h) ?_
  clear hf a; intro a hf
  replace hf := hf.keep (ks := [9, 38, 40]) rfl
  refine ldCQ tbOk (T := 31) (hs.cbx 0 rfl) (LeH.refl _) 0 (.agg #[.int .i64 z3.1.1, .int .i64 z3.1.2.1, .int .i64 z3.1.2.2.1, .int .i64 z3.1.2.2.2.1, .int .i64 z3.1.2.2.2.2]) hf (by kernel_rfl) (by kernel_rfl) (by kernel_rfl) (by kernel_rfl) ?_
  clear hf a; intro a hf
  replace hs := hs.sel [1, 2, 3] rfl rfl
  replace hf := hf.keep (ks := [38, 40, 41]) rfl
  refine stQ tbOk 3 [4] hf rfl ?_
  clear hf a; intro a hf
  refine wpQuiet_nil ?_
  intro w9 hx
  replace hs := hs.ext hx
  clear hx
  exact hK1 ((z4.1 == z3.1.1) && ((z4.2.1 == z3.1.2.1) && ((z4.2.2.1 == z3.1.2.2.1) && ((z4.2.2.2.1 == z3.1.2.2.2.1) && (z4.2.2.2.2 == z3.1.2.2.2.2))))) _ _ ⟨_, hs.sel [0, 1, 2] rfl rfl, hf.keep (ks := [4]) (by kernel_rfl)⟩ hS

end Dm
