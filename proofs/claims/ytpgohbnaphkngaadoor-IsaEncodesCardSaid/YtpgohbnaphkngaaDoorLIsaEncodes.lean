/-
  The walk of the law IsaEncodes; printed by a program of this repo. No condition.
-/
import Derived.Test.YtpgohbnaphkngaaDoorWT
import Derived.Test.YtpgohbnaphkngaaDoorW0
import Derived.Test.YtpgohbnaphkngaaDoorW1
import Derived.Test.YtpgohbnaphkngaaDoorW3
import Derived.Test.YtpgohbnaphkngaaDoorW5
namespace Dm
open Go Go.RowKit Go.Proofs

set_option maxHeartbeats 4000000 in
theorem law12_IsaEncodes_ok {w : World} {F : SH} {op : Int} {p_a : Int} {b : Int} {p_c : Int} {imm : Int}  (hs : Sep w F (blks [gth0, gth1, gth2]) w F [gth0, gth1, gth2]) {r : Bool} (hS : law12_IsaEncodes op p_a b p_c imm = some r) :
    Calls Tryd.prog 3 [.int .i64 op, .int .i64 p_a, .int .i64 b, .int .i64 p_c, .int .i32 imm].toArray w (Gives (fun u w' => ∃ (F' : SH), u = .bool r ∧ Sep w F (blks [gth0, gth1, gth2]) w' F' [])) := by
  generalize (blks [gth0, gth1, gth2]) = R at hs ⊢
  unfold law12_IsaEncodes at hS
  refine fn_ok (vs := [.int .i64 op, .int .i64 p_a, .int .i64 b, .int .i64 p_c, .int .i32 imm]) Tryd.func3 rfl 70 Tryd.ntmps3 (Nat.le_of_ble_eq_true rfl) ?_
  intro a hf
  replace hf := Fr.cast (L' := [(0, .int .i64 op), (1, .int .i64 p_a), (2, .int .i64 b), (3, .int .i64 p_c), (4, .int .i32 imm)]) hf (by kernel_rfl)
  refine sq ?_
  refine reg ?_
  refine st tbOk 1 [0, 1, 2, 3, 4] hf rfl ?_
  clear hf a; intro a hf
  refine wpList_nil ?_
  refine sq ?_
  refine reg ?_
  have hT := of_bd hS; clear hS; obtain ⟨z1, hz1, hS⟩ := hT
  refine clV ent10 (vs := []) (caps := []) hf (by kernel_rfl) (by kernel_rfl) (by kernel_rfl) (by kernel_rfl) (law12_awake_ok (hs.enter [0, 1, 2] rfl rfl) hz1) ?_
  clear hf; clear a; intro v w1 a hT hf; obtain ⟨F1, rfl, hr⟩ := hT
  replace hs := (hs.back [0, 1, 2] [0, 1, 2] rfl rfl rfl rfl hr).nf rfl
  clear hr
  replace hf := hf.keep (ks := [0, 1, 2, 3, 4, 21]) rfl
  refine st tbOk 1 [0, 1, 2, 3, 4, 11] hf rfl ?_
  clear hf a; intro a hf
  refine wpList_nil ?_
  refine sq ?_
  refine sq ?_
  refine reg ?_
  refine st tbOk 2 [0, 1, 2, 3, 4, 23] hf rfl ?_
  clear hf a; intro a hf
  refine wpList_nil ?_
  refine cnd (b := !z1) hf (by kernel_rfl) (fun hb1 => ?_) (fun hb1 => ?_)
  · replace hS := of_t hb1 hS
    refine sq ?_
    refine reg ?_
    refine st tbOk 1 [10] hf rfl ?_
    clear hf a; intro a hf
    refine wpList_nil ?_
    have hr := Option.some.inj hS; subst hr
    refine wp_ret ?_
    exact ret_ok hf (vs := [.bool false]) (by kernel_rfl) ⟨_, rfl, hs.sel [] rfl rfl⟩
  replace hS := of_f hb1 hS
  refine wp_skip ?_
  refine sq ?_
  refine reg ?_
  refine st tbOk 5 [24, 25, 26, 27, 28] hf rfl ?_
  clear hf a; intro a hf
  refine st tbOk 1 [29] hf rfl ?_
  clear hf a; intro a hf
  refine al tbOk i24 [.int .i64 0, .int .i64 0, .int .i64 0, .int .i64 0, .int .i32 0] rfl (by kernel_rfl) hf (by kernel_rfl) (by kernel_rfl) ?_
  clear hf; clear a; intro w2 a hb hx _ hf
  replace hs := hs.newBox hb hx
  clear hb hx
  replace hf := hf.keep (ks := [12, 29]) rfl
  refine stB tbOk i24 (hs.bx 0 rfl) 0 [.int .i64 op, .int .i64 p_a, .int .i64 b, .int .i64 p_c, .int .i32 imm] [.int .i64 op, .int .i64 p_a, .int .i64 b, .int .i64 p_c, .int .i32 imm] (v := .agg #[.int .i64 op, .int .i64 p_a, .int .i64 b, .int .i64 p_c, .int .i32 imm]) rfl rfl (by kernel_rfl) (by kernel_rfl) (by kernel_rfl) (by kernel_rfl) hf (by kernel_rfl) (by kernel_rfl) (by kernel_rfl) ?_
  clear hf; clear a; intro w3 a hb hg _ hf
  replace hs := (hs.updBox 0 rfl hb hg).nf rfl
  clear hb hg
  replace hf := hf.keep (ks := [12]) rfl
  refine wpList_nil ?_
  refine sq ?_
  refine reg ?_
  refine ldC tbOk (T := 24) (hs.cbx 0 rfl) (LeH.refl _) 0 (.agg #[.int .i64 op, .int .i64 p_a, .int .i64 b, .int .i64 p_c, .int .i32 imm]) hf (by kernel_rfl) (by kernel_rfl) (by kernel_rfl) (by kernel_rfl) ?_
  clear hf a; intro a hf
  replace hf := hf.keep (ks := [12, 31]) rfl
  have hT := of_bd hS; clear hS; obtain ⟨z2, hz2, hS⟩ := hT
  refine clV ent11 (vs := [.agg #[.int .i64 op, .int .i64 p_a, .int .i64 b, .int .i64 p_c, .int .i32 imm]]) (caps := []) hf (by kernel_rfl) (by kernel_rfl) (by kernel_rfl) (by kernel_rfl) (isa_Encode_ok (i := (op, p_a, b, p_c, imm)) (hs.enter [1] rfl rfl) hz2) ?_
  clear hf; clear a; intro v w4 a hT hf; obtain ⟨F2, rfl, hr⟩ := hT
  replace hs := (hs.back [1] [0, 1, 2, 3] rfl rfl rfl rfl hr).nf rfl
  clear hr
  replace hf := hf.keep (ks := [12, 32]) rfl
  refine st tbOk 5 [12, 13, 14] hf rfl ?_
  clear hf a; intro a hf
  refine wpList_nil ?_
  refine sq ?_
  refine reg ?_
  refine ldC tbOk (T := 24) (hs.cbx 0 rfl) (LeH.refl _) 0 (.agg #[.int .i64 op, .int .i64 p_a, .int .i64 b, .int .i64 p_c, .int .i32 imm]) hf (by kernel_rfl) (by kernel_rfl) (by kernel_rfl) (by kernel_rfl) ?_
  clear hf a; intro a hf
  replace hf := hf.keep (ks := [12, 13, 14, 36]) rfl
  have hT := of_bd hS; clear hS; obtain ⟨z3, hz3, hS⟩ := hT
  refine clV ent13 (vs := [.agg #[.int .i64 op, .int .i64 p_a, .int .i64 b, .int .i64 p_c, .int .i32 imm]]) (caps := []) hf (by kernel_rfl) (by kernel_rfl) (by kernel_rfl) (by kernel_rfl) (law12_model_ok (i := (op, p_a, b, p_c, imm)) (hs.enter [] rfl rfl) hz3) ?_
  clear hf; clear a; intro v w5 a hT hf; obtain ⟨F3, rfl, hr⟩ := hT
  replace hs := (hs.back [] [0, 1, 2, 3] rfl rfl rfl rfl hr).nf rfl
  clear hr
  replace hf := hf.keep (ks := [12, 13, 14, 37]) rfl
  have hT := of_bd hS; clear hS; obtain ⟨z4, hz4, hS⟩ := hT
  refine clV ent12 (vs := [.agg #[.int .i64 z3.1, .int .i64 z3.2.1, .int .i64 z3.2.2.1, .int .i64 z3.2.2.2.1, .int .i64 z3.2.2.2.2]]) (caps := []) hf (by kernel_rfl) (by kernel_rfl) (by kernel_rfl) (by kernel_rfl) (ref12_Encode_ok (i := z3) (hs.enter [] rfl rfl) hz4) ?_
  clear hf; clear a; intro v w6 a hT hf; obtain ⟨F4, rfl, hr⟩ := hT
  replace hs := (hs.back [] [0, 1, 2, 3] rfl rfl rfl rfl hr).nf rfl
  clear hr
  replace hf := hf.keep (ks := [12, 13, 14, 38]) rfl
  refine st tbOk 5 [12, 13, 14, 15, 16] hf rfl ?_
  clear hf a; intro a hf
  refine wpList_nil ?_
  refine sq ?_
  refine reg ?_
  refine ldC tbOk (T := 24) (hs.cbx 0 rfl) (LeH.refl _) 0 (.agg #[.int .i64 op, .int .i64 p_a, .int .i64 b, .int .i64 p_c, .int .i32 imm]) hf (by kernel_rfl) (by kernel_rfl) (by kernel_rfl) (by kernel_rfl) ?_
  clear hf a; intro a hf
  replace hf := hf.keep (ks := [12, 13, 14, 15, 16, 42]) rfl
  have hT := of_bd hS; clear hS; obtain ⟨z5, hz5, hS⟩ := hT
  refine clV ent14 (vs := [.agg #[.int .i64 op, .int .i64 p_a, .int .i64 b, .int .i64 p_c, .int .i32 imm]]) (caps := []) hf (by kernel_rfl) (by kernel_rfl) (by kernel_rfl) (by kernel_rfl) (isa_Text_ok (i := (op, p_a, b, p_c, imm)) (hs.enter [1, 3] rfl rfl) hz5) ?_
  clear hf; clear a; intro v w7 a hT hf; obtain ⟨F5, rfl, hr⟩ := hT
  replace hs := (hs.back [1, 3] [0, 1, 2, 3] rfl rfl rfl rfl hr).nf rfl
  clear hr
  replace hf := hf.keep (ks := [12, 13, 14, 15, 16, 43]) rfl
  refine st tbOk 5 [12, 13, 14, 15, 16, 17, 18] hf rfl ?_
  clear hf a; intro a hf
  refine wpList_nil ?_
  refine sq ?_
  refine reg ?_
  refine ldC tbOk (T := 24) (hs.cbx 0 rfl) (LeH.refl _) 0 (.agg #[.int .i64 op, .int .i64 p_a, .int .i64 b, .int .i64 p_c, .int .i32 imm]) hf (by kernel_rfl) (by kernel_rfl) (by kernel_rfl) (by kernel_rfl) ?_
  clear hf a; intro a hf
  replace hs := hs.sel [1, 2, 3] rfl rfl
  replace hf := hf.keep (ks := [13, 14, 15, 16, 17, 18, 47]) rfl
  have hT := of_bd hS; clear hS; obtain ⟨z6, hz6, hS⟩ := hT
  refine clV ent13 (vs := [.agg #[.int .i64 op, .int .i64 p_a, .int .i64 b, .int .i64 p_c, .int .i32 imm]]) (caps := []) hf (by kernel_rfl) (by kernel_rfl) (by kernel_rfl) (by kernel_rfl) (law12_model_ok (i := (op, p_a, b, p_c, imm)) (hs.enter [] rfl rfl) hz6) ?_
  clear hf; clear a; intro v w8 a hT hf; obtain ⟨F6, rfl, hr⟩ := hT
  replace hs := (hs.back [] [0, 1, 2] rfl rfl rfl rfl hr).nf rfl
  clear hr
  replace hf := hf.keep (ks := [13, 14, 15, 16, 17, 18, 48]) rfl
  have hT := of_bd hS; clear hS; obtain ⟨z7, hz7, hS⟩ := hT
  refine clV ent15 (vs := [.agg #[.int .i64 z6.1, .int .i64 z6.2.1, .int .i64 z6.2.2.1, .int .i64 z6.2.2.2.1, .int .i64 z6.2.2.2.2]]) (caps := []) hf (by kernel_rfl) (by kernel_rfl) (by kernel_rfl) (by kernel_rfl) (ref12_Text_ok (i := z6) (hs.enter [] rfl rfl) hz7) ?_
  clear hf; clear a; intro v w9 a hT hf; obtain ⟨F7, rfl, hr⟩ := hT
  replace hs := (hs.back [] [0, 1, 2] rfl rfl rfl rfl hr).nf rfl
  clear hr
  replace hf := hf.keep (ks := [13, 14, 15, 16, 17, 18, 49]) rfl
  refine st tbOk 5 [13, 14, 15, 16, 17, 18, 19, 20] hf rfl ?_
  clear hf a; intro a hf
  refine wpList_nil ?_
  refine sq ?_
  refine ctj (fun (s1 : Bool) (a : Act) (w' : World) => ∃ (F8 : SH), Sep w F R w' F8 [gth0, gth1, gth2] ∧ Fr 70 [(10, .bool s1)] a) hS ?_ ?_
  · clear hS hf hs; clear a; intro s1 a w10 hM hS
    obtain ⟨F8, hs, hf⟩ := hM
    have hr := Option.some.inj hS; subst hr
    refine wp_ret ?_
    exact ret_ok hf (vs := [.bool s1]) (by kernel_rfl) ⟨_, rfl, hs.sel [] rfl rfl⟩
  clear hS; intro KK1 k1 hK1 hS
  refine reg ?_
  refine st tbOk 4 [14, 16, 17, 18, 19, 20, 55] hf rfl ?_
  clear hf a; intro a hf
  rcases Bool.eq_false_or_eq_true (z2.1 == z4.1) with hb2 | hb2
  rotate_left
  · replace hS := of_f hb2 hS
    replace hf := hf.castB hb2 (fun qb => [(14, .int .i64 z2.2), (16, .int .i64 z4.2), (17, strV z5.1), (18, .int .i64 z5.2), (19, strV z7.1), (20, .int .i64 z7.2), (55, .bool qb)]) (by kernel_rfl)
    refine st tbOk 5 [17, 18, 19, 20, 60] hf rfl ?_
    clear hf a; intro a hf
    refine st tbOk 5 [18, 20, 65] hf rfl ?_
    clear hf a; intro a hf
    refine st tbOk 5 [10] hf rfl ?_
    clear hf a; intro a hf
    refine wpList_nil ?_
    exact hK1 false _ _ ⟨_, hs.sel [0, 1, 2] rfl rfl, hf.keep (ks := [10]) (by kernel_rfl)⟩ hS
  replace hS := of_t hb2 hS
  replace hf := hf.castB hb2 (fun qb => [(14, .int .i64 z2.2), (16, .int .i64 z4.2), (17, strV z5.1), (18, .int .i64 z5.2), (19, strV z7.1), (20, .int .i64 z7.2), (55, .bool qb)]) (by kernel_rfl)
  refine st tbOk 5 [17, 18, 19, 20, 60] hf rfl ?_
  clear hf a; intro a hf
  rcases Bool.eq_false_or_eq_true (z2.2 == z4.2) with hb3 | hb3
  rotate_left
  · replace hS := of_f hb3 hS
    replace hf := hf.castB hb3 (fun qb => [(17, strV z5.1), (18, .int .i64 z5.2), (19, strV z7.1), (20, .int .i64 z7.2), (60, .bool qb)]) (by kernel_rfl)
    refine st tbOk 5 [18, 20, 65] hf rfl ?_
    clear hf a; intro a hf
    refine st tbOk 5 [10] hf rfl ?_
    clear hf a; intro a hf
    refine wpList_nil ?_
    exact hK1 false _ _ ⟨_, hs.sel [0, 1, 2] rfl rfl, hf.keep (ks := [10]) (by kernel_rfl)⟩ hS
  replace hS := of_t hb3 hS
  replace hf := hf.castB hb3 (fun qb => [(17, strV z5.1), (18, .int .i64 z5.2), (19, strV z7.1), (20, .int .i64 z7.2), (60, .bool qb)]) (by kernel_rfl)
  refine st tbOk 5 [18, 20, 65] hf rfl ?_
  clear hf a; intro a hf
  rcases Bool.eq_false_or_eq_true (z5.1 == z7.1) with hb4 | hb4
  rotate_left
  · replace hS := of_f hb4 hS
    replace hf := hf.castB hb4 (fun qb => [(18, .int .i64 z5.2), (20, .int .i64 z7.2), (65, .bool qb)]) (by kernel_rfl)
    refine st tbOk 5 [10] hf rfl ?_
    clear hf a; intro a hf
    refine wpList_nil ?_
    exact hK1 false _ _ ⟨_, hs.sel [0, 1, 2] rfl rfl, hf.keep (ks := [10]) (by kernel_rfl)⟩ hS
  replace hS := of_t hb4 hS
  replace hf := hf.castB hb4 (fun qb => [(18, .int .i64 z5.2), (20, .int .i64 z7.2), (65, .bool qb)]) (by kernel_rfl)
  refine st tbOk 5 [10] hf rfl ?_
  clear hf a; intro a hf
  refine wpList_nil ?_
  exact hK1 (z5.2 == z7.2) _ _ ⟨_, hs.sel [0, 1, 2] rfl rfl, hf.keep (ks := [10]) (by kernel_rfl)⟩ hS

end Dm
