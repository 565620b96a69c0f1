/-
  The walk of the law IsaBack; printed by a program of this repo. No condition.
-/
import Derived.Test.YtpgohbnaphkngaaDoorWT
import Derived.Test.YtpgohbnaphkngaaDoorW0
namespace Dm
open Go Go.RowKit Go.Proofs

set_option maxHeartbeats 4000000 in
theorem law12_IsaBack_ok {w : World} {F : SH} {op : Int} {p_a : Int} {b : Int} {p_c : Int} {imm : Int} {p_w : Int}  (hs : Sep w F (blks [gth0, gth1, gth2]) w F [gth0, gth1, gth2]) {r : Bool} (hS : law12_IsaBack op p_a b p_c imm p_w = some r) :
    Calls Tryd.prog 8 [.int .i64 op, .int .i64 p_a, .int .i64 b, .int .i64 p_c, .int .i32 imm, .int .u64 p_w].toArray w (Gives (fun u w' => ∃ (F' : SH), u = .bool r ∧ Sep w F (blks [gth0, gth1, gth2]) w' F' [])) := by
  generalize (blks [gth0, gth1, gth2]) = R at hs ⊢
  unfold law12_IsaBack at hS
  refine fn_ok (vs := [.int .i64 op, .int .i64 p_a, .int .i64 b, .int .i64 p_c, .int .i32 imm, .int .u64 p_w]) Tryd.func8 rfl 99 Tryd.ntmps8 (Nat.le_of_ble_eq_true rfl) ?_
  intro a hf
  replace hf := Fr.cast (L' := [(0, .int .i64 op), (1, .int .i64 p_a), (2, .int .i64 b), (3, .int .i64 p_c), (4, .int .i32 imm), (5, .int .u64 p_w)]) hf (by kernel_rfl)
  refine sq ?_
  refine reg ?_
  refine st tbOk 1 [0, 1, 2, 3, 4, 5] hf rfl ?_
  clear hf a; intro a hf
  refine wpList_nil ?_
  refine sq ?_
  refine reg ?_
  have hT := of_bd hS; clear hS; obtain ⟨z1, hz1, hS⟩ := hT
  refine clV ent10 (vs := []) (caps := []) hf (by kernel_rfl) (by kernel_rfl) (by kernel_rfl) (by kernel_rfl) (law12_awake_ok (hs.enter [0, 1, 2] rfl rfl) hz1) ?_
  clear hf; clear a; intro v w1 a hT hf; obtain ⟨F1, rfl, hr⟩ := hT
  replace hs := (hs.back [0, 1, 2] [0, 1, 2] rfl rfl rfl rfl hr).nf rfl
  clear hr
  replace hf := hf.keep (ks := [0, 1, 2, 3, 4, 5, 27]) rfl
  refine st tbOk 1 [0, 1, 2, 3, 4, 5, 13] hf rfl ?_
  clear hf a; intro a hf
  refine wpList_nil ?_
  refine sq ?_
  refine sq ?_
  refine reg ?_
  refine st tbOk 2 [0, 1, 2, 3, 4, 5, 29] hf rfl ?_
  clear hf a; intro a hf
  refine wpList_nil ?_
  refine cnd (b := !z1) hf (by kernel_rfl) (fun hb1 => ?_) (fun hb1 => ?_)
  · replace hS := of_t hb1 hS
    refine sq ?_
    refine reg ?_
    refine st tbOk 1 [12] hf rfl ?_
    clear hf a; intro a hf
    refine wpList_nil ?_
    have hr := Option.some.inj hS; subst hr
    refine wp_ret ?_
    exact ret_ok hf (vs := [.bool false]) (by kernel_rfl) ⟨_, rfl, hs.sel [] rfl rfl⟩
  replace hS := of_f hb1 hS
  refine wp_skip ?_
  refine sq ?_
  refine reg ?_
  refine st tbOk 5 [5, 30, 31, 32, 33, 34] hf rfl ?_
  clear hf a; intro a hf
  refine st tbOk 1 [5, 35] hf rfl ?_
  clear hf a; intro a hf
  refine al tbOk i24 [.int .i64 0, .int .i64 0, .int .i64 0, .int .i64 0, .int .i32 0] rfl (by kernel_rfl) hf (by kernel_rfl) (by kernel_rfl) ?_
  clear hf; clear a; intro w2 a hb hx _ hf
  replace hs := hs.newBox hb hx
  clear hb hx
  replace hf := hf.keep (ks := [5, 14, 35]) rfl
  refine stB tbOk i24 (hs.bx 0 rfl) 0 [.int .i64 op, .int .i64 p_a, .int .i64 b, .int .i64 p_c, .int .i32 imm] [.int .i64 op, .int .i64 p_a, .int .i64 b, .int .i64 p_c, .int .i32 imm] (v := .agg #[.int .i64 op, .int .i64 p_a, .int .i64 b, .int .i64 p_c, .int .i32 imm]) rfl rfl (by kernel_rfl) (by kernel_rfl) (by kernel_rfl) (by kernel_rfl) hf (by kernel_rfl) (by kernel_rfl) (by kernel_rfl) ?_
  clear hf; clear a; intro w3 a hb hg _ hf
  replace hs := (hs.updBox 0 rfl hb hg).nf rfl
  clear hb hg
  replace hf := hf.keep (ks := [5, 14]) rfl
  refine wpList_nil ?_
  refine sq ?_
  refine reg ?_
  refine ldC tbOk (T := 24) (hs.cbx 0 rfl) (LeH.refl _) 0 (.agg #[.int .i64 op, .int .i64 p_a, .int .i64 b, .int .i64 p_c, .int .i32 imm]) hf (by kernel_rfl) (by kernel_rfl) (by kernel_rfl) (by kernel_rfl) ?_
  clear hf a; intro a hf
  replace hf := hf.keep (ks := [5, 14, 37]) rfl
  have hT := of_bd hS; clear hS; obtain ⟨z2, hz2, hS⟩ := hT
  refine clV ent11 (vs := [.agg #[.int .i64 op, .int .i64 p_a, .int .i64 b, .int .i64 p_c, .int .i32 imm]]) (caps := []) hf (by kernel_rfl) (by kernel_rfl) (by kernel_rfl) (by kernel_rfl) (isa_Encode_ok (i := (op, p_a, b, p_c, imm)) (hs.enter [1] rfl rfl) hz2) ?_
  clear hf; clear a; intro v w4 a hT hf; obtain ⟨F2, rfl, hr⟩ := hT
  replace hs := (hs.back [1] [0, 1, 2, 3] rfl rfl rfl rfl hr).nf rfl
  clear hr
  replace hf := hf.keep (ks := [5, 14, 38]) rfl
  refine st tbOk 5 [5, 14, 15, 16] hf rfl ?_
  clear hf a; intro a hf
  refine wpList_nil ?_
  refine sq ?_
  refine reg ?_
  refine ldC tbOk (T := 24) (hs.cbx 0 rfl) (LeH.refl _) 0 (.agg #[.int .i64 op, .int .i64 p_a, .int .i64 b, .int .i64 p_c, .int .i32 imm]) hf (by kernel_rfl) (by kernel_rfl) (by kernel_rfl) (by kernel_rfl) ?_
  clear hf a; intro a hf
  replace hf := hf.keep (ks := [5, 14, 15, 16, 42]) rfl
  have hT := of_bd hS; clear hS; obtain ⟨z3, hz3, hS⟩ := hT
  refine clV ent14 (vs := [.agg #[.int .i64 op, .int .i64 p_a, .int .i64 b, .int .i64 p_c, .int .i32 imm]]) (caps := []) hf (by kernel_rfl) (by kernel_rfl) (by kernel_rfl) (by kernel_rfl) (isa_Text_ok (i := (op, p_a, b, p_c, imm)) (hs.enter [1, 3] rfl rfl) hz3) ?_
  clear hf; clear a; intro v w5 a hT hf; obtain ⟨F3, rfl, hr⟩ := hT
  replace hs := (hs.back [1, 3] [0, 1, 2, 3] rfl rfl rfl rfl hr).nf rfl
  clear hr
  replace hf := hf.keep (ks := [5, 14, 15, 16, 43]) rfl
  refine st tbOk 5 [5, 14, 15, 16, 17, 18] hf rfl ?_
  clear hf a; intro a hf
  refine wpList_nil ?_
  refine sq ?_
  refine sq ?_
  refine reg ?_
  refine st tbOk 3 [5, 14, 15, 16, 17, 48] hf rfl ?_
  clear hf a; intro a hf
  refine wpList_nil ?_
  refine cnd (b := z2.2 != z3.2) hf (by kernel_rfl) (fun hb2 => ?_) (fun hb2 => ?_)
  · replace hS := of_t hb2 hS
    refine sq ?_
    refine reg ?_
    refine st tbOk 1 [12] hf rfl ?_
    clear hf a; intro a hf
    refine wpList_nil ?_
    have hr := Option.some.inj hS; subst hr
    refine wp_ret ?_
    exact ret_ok hf (vs := [.bool false]) (by kernel_rfl) ⟨_, rfl, hs.sel [] rfl rfl⟩
  replace hS := of_f hb2 hS
  refine wp_skip ?_
  refine sq ?_
  refine sq ?_
  refine reg ?_
  refine st tbOk 2 [5, 14, 15, 17, 50] hf rfl ?_
  clear hf a; intro a hf
  refine wpList_nil ?_
  refine ctj (fun (s1 : Unit) (a : Act) (w' : World) => ∃ (F4 : SH), Sep w F R w' F4 [gth0, gth1, gth2] ∧ Fr 99 [(5, .int .u64 p_w)] a) hS ?_ ?_
  · clear hS hf hs; clear a; intro s1 a w13 hM hS
    obtain ⟨F4, hs, hf⟩ := hM
    refine sq ?_
    refine reg ?_
    refine st tbOk 1 [5, 78] hf rfl ?_
    clear hf a; intro a hf
    have hT := of_bd hS; clear hS; obtain ⟨z6, hz6, hS⟩ := hT
    refine clV ent16 (vs := [.int .u64 p_w]) (caps := []) hf (by kernel_rfl) (by kernel_rfl) (by kernel_rfl) (by kernel_rfl) (isa_Decode_ok (p_w := p_w) (hs.enter [0] rfl rfl) hz6) ?_
    clear hf; clear a; intro v w14 a hT hf; obtain ⟨F8, rfl, hr⟩ := hT
    replace hs := (hs.back [0] [0, 1, 2] rfl rfl rfl rfl hr).nf rfl
    clear hr
    replace hf := hf.keep (ks := [5, 79]) rfl
    refine st tbOk 3 [5, 80, 81] hf rfl ?_
    clear hf a; intro a hf
    refine al tbOk i24 [.int .i64 0, .int .i64 0, .int .i64 0, .int .i64 0, .int .i32 0] rfl (by kernel_rfl) hf (by kernel_rfl) (by kernel_rfl) ?_
    clear hf; clear a; intro w15 a hb hx _ hf
    replace hs := hs.newBox hb hx
    clear hb hx
    replace hf := hf.keep (ks := [5, 23, 80, 81]) rfl
    refine stB tbOk i24 (hs.bx 0 rfl) 0 [.int .i64 z6.1.1, .int .i64 z6.1.2.1, .int .i64 z6.1.2.2.1, .int .i64 z6.1.2.2.2.1, .int .i32 z6.1.2.2.2.2] [.int .i64 z6.1.1, .int .i64 z6.1.2.1, .int .i64 z6.1.2.2.1, .int .i64 z6.1.2.2.2.1, .int .i32 z6.1.2.2.2.2] (v := .agg #[.int .i64 z6.1.1, .int .i64 z6.1.2.1, .int .i64 z6.1.2.2.1, .int .i64 z6.1.2.2.2.1, .int .i32 z6.1.2.2.2.2]) rfl rfl (by kernel_rfl) (by kernel_rfl) (by kernel_rfl) (by kernel_rfl) hf (by kernel_rfl) (by kernel_rfl) (by kernel_rfl) ?_
    clear hf; clear a; intro w16 a hb hg _ hf
    replace hs := (hs.updBox 0 rfl hb hg).nf rfl
    clear hb hg
    replace hf := hf.keep (ks := [5, 23, 81]) rfl
    refine st tbOk 1 [5, 23, 24] hf rfl ?_
    clear hf a; intro a hf
    refine wpList_nil ?_
    refine sq ?_
    refine sq ?_
    refine reg ?_
    refine st tbOk 2 [5, 23, 83] hf rfl ?_
    clear hf a; intro a hf
    refine wpList_nil ?_
    refine cnd (b := z6.2 != 0) hf (by kernel_rfl) (fun hb8 => ?_) (fun hb8 => ?_)
    · replace hS := of_t hb8 hS
      refine sq ?_
      refine reg ?_
      refine ldC tbOk (T := 24) (hs.cbx 0 rfl) (LeH.refl _) 0 (.agg #[.int .i64 z6.1.1, .int .i64 z6.1.2.1, .int .i64 z6.1.2.2.1, .int .i64 z6.1.2.2.2.1, .int .i32 z6.1.2.2.2.2]) hf (by kernel_rfl) (by kernel_rfl) (by kernel_rfl) (by kernel_rfl) ?_
      clear hf a; intro a hf
      replace hs := hs.sel [1, 2, 3] rfl rfl
      replace hf := hf.keep (ks := [84]) rfl
      refine st tbOk 3 [12] hf rfl ?_
      clear hf a; intro a hf
      refine wpList_nil ?_
      have hr := Option.some.inj hS; subst hr
      refine wp_ret ?_
      exact ret_ok hf (vs := [.bool ((z6.1.1 == 0) && ((z6.1.2.1 == 0) && ((z6.1.2.2.1 == 0) && ((z6.1.2.2.2.1 == 0) && (z6.1.2.2.2.2 == 0)))))]) (by kernel_rfl) ⟨_, rfl, hs.sel [] rfl rfl⟩
    replace hS := of_f hb8 hS
    refine wp_skip ?_
    refine sq ?_
    refine reg ?_
    refine ldC tbOk (T := 24) (hs.cbx 0 rfl) (LeH.refl _) 0 (.agg #[.int .i64 z6.1.1, .int .i64 z6.1.2.1, .int .i64 z6.1.2.2.1, .int .i64 z6.1.2.2.2.1, .int .i32 z6.1.2.2.2.2]) hf (by kernel_rfl) (by kernel_rfl) (by kernel_rfl) (by kernel_rfl) ?_
    clear hf a; intro a hf
    replace hs := hs.sel [1, 2, 3] rfl rfl
    replace hf := hf.keep (ks := [5, 88]) rfl
    have hT := of_bd hS; clear hS; obtain ⟨z7, hz7, hS⟩ := hT
    refine clV ent11 (vs := [.agg #[.int .i64 z6.1.1, .int .i64 z6.1.2.1, .int .i64 z6.1.2.2.1, .int .i64 z6.1.2.2.2.1, .int .i32 z6.1.2.2.2.2]]) (caps := []) hf (by kernel_rfl) (by kernel_rfl) (by kernel_rfl) (by kernel_rfl) (isa_Encode_ok (i := (z6.1.1, z6.1.2.1, z6.1.2.2.1, z6.1.2.2.2.1, z6.1.2.2.2.2)) (hs.enter [0] rfl rfl) hz7) ?_
    clear hf; clear a; intro v w17 a hT hf; obtain ⟨F9, rfl, hr⟩ := hT
    replace hs := (hs.back [0] [0, 1, 2] rfl rfl rfl rfl hr).nf rfl
    clear hr
    replace hf := hf.keep (ks := [5, 89]) rfl
    refine st tbOk 5 [5, 25, 26] hf rfl ?_
    clear hf a; intro a hf
    refine wpList_nil ?_
    refine sq ?_
    refine ctj (fun (s3 : Bool) (a : Act) (w' : World) => ∃ (F10 : SH), Sep w F R w' F10 [gth0, gth1, gth2] ∧ Fr 99 [(12, .bool s3)] a) hS ?_ ?_
    · clear hS hf hs; clear a; intro s3 a w18 hM hS
      obtain ⟨F10, hs, hf⟩ := hM
      have hr := Option.some.inj hS; subst hr
      refine wp_ret ?_
      exact ret_ok hf (vs := [.bool s3]) (by kernel_rfl) ⟨_, rfl, hs.sel [] rfl rfl⟩
    clear hS; intro KK3 k3 hK3 hS
    refine reg ?_
    refine st tbOk 3 [5, 25, 94] hf rfl ?_
    clear hf a; intro a hf
    rcases Bool.eq_false_or_eq_true (z7.2 == 0) with hb9 | hb9
    rotate_left
    · replace hS := of_f hb9 hS
      replace hf := hf.castB hb9 (fun qb => [(5, .int .u64 p_w), (25, .int .u64 z7.1), (94, .bool qb)]) (by kernel_rfl)
      refine st tbOk 5 [12] hf rfl ?_
      clear hf a; intro a hf
      refine wpList_nil ?_
      exact hK3 false _ _ ⟨_, hs.sel [0, 1, 2] rfl rfl, hf.keep (ks := [12]) (by kernel_rfl)⟩ hS
    replace hS := of_t hb9 hS
    replace hf := hf.castB hb9 (fun qb => [(5, .int .u64 p_w), (25, .int .u64 z7.1), (94, .bool qb)]) (by kernel_rfl)
    refine st tbOk 5 [12] hf rfl ?_
    clear hf a; intro a hf
    refine wpList_nil ?_
    exact hK3 (z7.1 == p_w) _ _ ⟨_, hs.sel [0, 1, 2] rfl rfl, hf.keep (ks := [12]) (by kernel_rfl)⟩ hS
  clear hS; intro KK1 k1 hK1 hS
  refine cnd (b := z2.2 == 0) hf (by kernel_rfl) (fun hb3 => ?_) (fun hb3 => ?_)
  rotate_left
  · replace hS := of_f hb3 hS
    refine wp_skip ?_
    exact hK1 () _ _ ⟨_, hs.sel [1, 2, 3] rfl rfl, hf.keep (ks := [5]) (by kernel_rfl)⟩ hS
  replace hS := of_t hb3 hS
  refine sq ?_
  refine reg ?_
  refine st tbOk 1 [5, 14, 17, 52] hf rfl ?_
  clear hf a; intro a hf
  have hT := of_bd hS; clear hS; obtain ⟨z4, hz4, hS⟩ := hT
  refine clV ent16 (vs := [.int .u64 z2.1]) (caps := []) hf (by kernel_rfl) (by kernel_rfl) (by kernel_rfl) (by kernel_rfl) (isa_Decode_ok (p_w := z2.1) (hs.enter [1] rfl rfl) hz4) ?_
  clear hf; clear a; intro v w6 a hT hf; obtain ⟨F5, rfl, hr⟩ := hT
  replace hs := (hs.back [1] [0, 1, 2, 3] rfl rfl rfl rfl hr).nf rfl
  clear hr
  replace hf := hf.keep (ks := [5, 14, 17, 53]) rfl
  refine st tbOk 3 [5, 14, 17, 54, 55] hf rfl ?_
  clear hf a; intro a hf
  refine al tbOk i24 [.int .i64 0, .int .i64 0, .int .i64 0, .int .i64 0, .int .i32 0] rfl (by kernel_rfl) hf (by kernel_rfl) (by kernel_rfl) ?_
  clear hf; clear a; intro w7 a hb hx _ hf
  replace hs := hs.newBox hb hx
  clear hb hx
  replace hf := hf.keep (ks := [5, 14, 17, 19, 54, 55]) rfl
  refine stB tbOk i24 (hs.bx 0 rfl) 0 [.int .i64 z4.1.1, .int .i64 z4.1.2.1, .int .i64 z4.1.2.2.1, .int .i64 z4.1.2.2.2.1, .int .i32 z4.1.2.2.2.2] [.int .i64 z4.1.1, .int .i64 z4.1.2.1, .int .i64 z4.1.2.2.1, .int .i64 z4.1.2.2.2.1, .int .i32 z4.1.2.2.2.2] (v := .agg #[.int .i64 z4.1.1, .int .i64 z4.1.2.1, .int .i64 z4.1.2.2.1, .int .i64 z4.1.2.2.2.1, .int .i32 z4.1.2.2.2.2]) rfl rfl (by kernel_rfl) (by kernel_rfl) (by kernel_rfl) (by kernel_rfl) hf (by kernel_rfl) (by kernel_rfl) (by kernel_rfl) ?_
  clear hf; clear a; intro w8 a hb hg _ hf
  replace hs := (hs.updBox 0 rfl hb hg).nf rfl
  clear hb hg
  replace hf := hf.keep (ks := [5, 14, 17, 19, 55]) rfl
  refine st tbOk 1 [5, 14, 17, 19, 20] hf rfl ?_
  clear hf a; intro a hf
  refine wpList_nil ?_
  refine sq ?_
  refine reg ?_
  refine st tbOk 1 [5, 14, 19, 20, 57] hf rfl ?_
  clear hf a; intro a hf
  have hT := of_bd hS; clear hS; obtain ⟨z5, hz5, hS⟩ := hT
  refine clV ent18 (vs := [strV z3.1]) (caps := []) hf (by kernel_rfl) (by kernel_rfl) (by kernel_rfl) (by kernel_rfl) (isa_Parse_ok (p_s := z3.1) (hs.enter [2, 4] rfl rfl) hz5) ?_
  clear hf; clear a; intro v w9 a hT hf; obtain ⟨F6, rfl, hr⟩ := hT
  replace hs := (hs.back [2, 4] [0, 1, 2, 3, 4] rfl rfl rfl rfl hr).nf rfl
  clear hr
  replace hf := hf.keep (ks := [5, 14, 19, 20, 58]) rfl
  refine st tbOk 3 [5, 14, 19, 20, 59, 60] hf rfl ?_
  clear hf a; intro a hf
  refine al tbOk i24 [.int .i64 0, .int .i64 0, .int .i64 0, .int .i64 0, .int .i32 0] rfl (by kernel_rfl) hf (by kernel_rfl) (by kernel_rfl) ?_
  clear hf; clear a; intro w10 a hb hx _ hf
  replace hs := hs.newBox hb hx
  clear hb hx
  replace hf := hf.keep (ks := [5, 14, 19, 20, 21, 59, 60]) rfl
  refine stB tbOk i24 (hs.bx 0 rfl) 0 [.int .i64 z5.1.1, .int .i64 z5.1.2.1, .int .i64 z5.1.2.2.1, .int .i64 z5.1.2.2.2.1, .int .i32 z5.1.2.2.2.2] [.int .i64 z5.1.1, .int .i64 z5.1.2.1, .int .i64 z5.1.2.2.1, .int .i64 z5.1.2.2.2.1, .int .i32 z5.1.2.2.2.2] (v := .agg #[.int .i64 z5.1.1, .int .i64 z5.1.2.1, .int .i64 z5.1.2.2.1, .int .i64 z5.1.2.2.2.1, .int .i32 z5.1.2.2.2.2]) rfl rfl (by kernel_rfl) (by kernel_rfl) (by kernel_rfl) (by kernel_rfl) hf (by kernel_rfl) (by kernel_rfl) (by kernel_rfl) ?_
  clear hf; clear a; intro w11 a hb hg _ hf
  replace hs := (hs.updBox 0 rfl hb hg).nf rfl
  clear hb hg
  replace hf := hf.keep (ks := [5, 14, 19, 20, 21, 60]) rfl
  refine st tbOk 1 [5, 14, 19, 20, 21, 22] hf rfl ?_
  clear hf a; intro a hf
  refine wpList_nil ?_
  refine sq ?_
  refine ctj (fun (s2 : Bool) (a : Act) (w' : World) => ∃ (F7 : SH), Sep w F R w' F7 [gth0, gth1, gth2] ∧ Fr 99 [(5, .int .u64 p_w), (76, .bool s2)] a) hS ?_ ?_
  · clear hS hf hs; clear a; intro s2 a w12 hM hS
    obtain ⟨F7, hs, hf⟩ := hM
    refine cnd (b := s2) hf (by kernel_rfl) (fun hb7 => ?_) (fun hb7 => ?_)
    rotate_left
    · replace hS := of_f hb7 hS
      refine wp_skip ?_
      exact hK1 () _ _ ⟨_, hs.sel [0, 1, 2] rfl rfl, hf.keep (ks := [5]) (by kernel_rfl)⟩ hS
    replace hS := of_t hb7 hS
    refine sq ?_
    refine reg ?_
    refine st tbOk 1 [12] hf rfl ?_
    clear hf a; intro a hf
    refine wpList_nil ?_
    have hr := Option.some.inj hS; subst hr
    refine wp_ret ?_
    exact ret_ok hf (vs := [.bool false]) (by kernel_rfl) ⟨_, rfl, hs.sel [] rfl rfl⟩
  clear hS; intro KK2 k2 hK2 hS
  refine reg ?_
  refine st tbOk 3 [5, 14, 19, 21, 22, 63] hf rfl ?_
  clear hf a; intro a hf
  rcases Bool.eq_false_or_eq_true (z4.2 != 0) with hb4 | hb4
  · replace hS := of_t hb4 hS
    replace hf := hf.castB hb4 (fun qb => [(5, .int .u64 p_w), (14, .pointer (some ⟨w1.heap.size, 0, none⟩)), (19, .pointer (some ⟨w6.heap.size, 0, none⟩)), (21, .pointer (some ⟨w9.heap.size, 0, none⟩)), (22, .int .i64 z5.2), (63, .bool qb)]) (by kernel_rfl)
    refine st tbOk 5 [5, 14, 21, 67, 68] hf rfl ?_
    clear hf a; intro a hf
    refine st tbOk 5 [5, 14, 72, 73] hf rfl ?_
    clear hf a; intro a hf
    refine st tbOk 3 [5, 76] hf rfl ?_
    clear hf a; intro a hf
    refine wpList_nil ?_
    exact hK2 true _ _ ⟨_, hs.sel [3, 4, 5] rfl rfl, hf.keep (ks := [5, 76]) (by kernel_rfl)⟩ hS
  replace hS := of_f hb4 hS
  replace hf := hf.castB hb4 (fun qb => [(5, .int .u64 p_w), (14, .pointer (some ⟨w1.heap.size, 0, none⟩)), (19, .pointer (some ⟨w6.heap.size, 0, none⟩)), (21, .pointer (some ⟨w9.heap.size, 0, none⟩)), (22, .int .i64 z5.2), (63, .bool qb)]) (by kernel_rfl)
  refine st tbOk 4 [5, 14, 19, 21, 67] hf rfl ?_
  clear hf a; intro a hf
  rcases Bool.eq_false_or_eq_true (z5.2 != 0) with hb5 | hb5
  · replace hS := of_t hb5 hS
    replace hf := hf.castB hb5 (fun qb => [(5, .int .u64 p_w), (14, .pointer (some ⟨w1.heap.size, 0, none⟩)), (19, .pointer (some ⟨w6.heap.size, 0, none⟩)), (21, .pointer (some ⟨w9.heap.size, 0, none⟩)), (67, .bool qb)]) (by kernel_rfl)
    refine st tbOk 5 [5, 14, 21, 72] hf rfl ?_
    clear hf a; intro a hf
    refine st tbOk 4 [5, 76] hf rfl ?_
    clear hf a; intro a hf
    refine wpList_nil ?_
    exact hK2 true _ _ ⟨_, hs.sel [3, 4, 5] rfl rfl, hf.keep (ks := [5, 76]) (by kernel_rfl)⟩ hS
  replace hS := of_f hb5 hS
  replace hf := hf.castB hb5 (fun qb => [(5, .int .u64 p_w), (14, .pointer (some ⟨w1.heap.size, 0, none⟩)), (19, .pointer (some ⟨w6.heap.size, 0, none⟩)), (21, .pointer (some ⟨w9.heap.size, 0, none⟩)), (67, .bool qb)]) (by kernel_rfl)
  refine ldC tbOk (T := 24) (hs.cbx 1 rfl) (LeH.refl _) 0 (.agg #[.int .i64 z4.1.1, .int .i64 z4.1.2.1, .int .i64 z4.1.2.2.1, .int .i64 z4.1.2.2.2.1, .int .i32 z4.1.2.2.2.2]) hf (by kernel_rfl) (by kernel_rfl) (by kernel_rfl) (by kernel_rfl) ?_
  clear hf a; intro a hf
  replace hs := hs.sel [0, 2, 3, 4, 5] rfl rfl
  replace hf := hf.keep (ks := [5, 14, 21, 67, 68]) rfl
  refine ldC tbOk (T := 24) (hs.cbx 1 rfl) (LeH.refl _) 0 (.agg #[.int .i64 op, .int .i64 p_a, .int .i64 b, .int .i64 p_c, .int .i32 imm]) hf (by kernel_rfl) (by kernel_rfl) (by kernel_rfl) (by kernel_rfl) ?_
  clear hf a; intro a hf
  replace hf := hf.keep (ks := [5, 14, 21, 67, 68, 69]) rfl
  refine st tbOk 3 [5, 14, 21, 72] hf rfl ?_
  clear hf a; intro a hf
  rcases Bool.eq_false_or_eq_true (!((z4.1.1 == op) && ((z4.1.2.1 == p_a) && ((z4.1.2.2.1 == b) && ((z4.1.2.2.2.1 == p_c) && (z4.1.2.2.2.2 == imm)))))) with hb6 | hb6
  · replace hS := of_t hb6 hS
    replace hf := hf.castB hb6 (fun qb => [(5, .int .u64 p_w), (14, .pointer (some ⟨w1.heap.size, 0, none⟩)), (21, .pointer (some ⟨w9.heap.size, 0, none⟩)), (72, .bool qb)]) (by kernel_rfl)
    refine st tbOk 4 [5, 76] hf rfl ?_
    clear hf a; intro a hf
    refine wpList_nil ?_
    exact hK2 true _ _ ⟨_, hs.sel [2, 3, 4] rfl rfl, hf.keep (ks := [5, 76]) (by kernel_rfl)⟩ hS
  replace hS := of_f hb6 hS
  replace hf := hf.castB hb6 (fun qb => [(5, .int .u64 p_w), (14, .pointer (some ⟨w1.heap.size, 0, none⟩)), (21, .pointer (some ⟨w9.heap.size, 0, none⟩)), (72, .bool qb)]) (by kernel_rfl)
  refine ldC tbOk (T := 24) (hs.cbx 0 rfl) (LeH.refl _) 0 (.agg #[.int .i64 z5.1.1, .int .i64 z5.1.2.1, .int .i64 z5.1.2.2.1, .int .i64 z5.1.2.2.2.1, .int .i32 z5.1.2.2.2.2]) hf (by kernel_rfl) (by kernel_rfl) (by kernel_rfl) (by kernel_rfl) ?_
  clear hf a; intro a hf
  replace hs := hs.sel [1, 2, 3, 4] rfl rfl
  replace hf := hf.keep (ks := [5, 14, 72, 73]) rfl
  refine ldC tbOk (T := 24) (hs.cbx 0 rfl) (LeH.refl _) 0 (.agg #[.int .i64 op, .int .i64 p_a, .int .i64 b, .int .i64 p_c, .int .i32 imm]) hf (by kernel_rfl) (by kernel_rfl) (by kernel_rfl) (by kernel_rfl) ?_
  clear hf a; intro a hf
  replace hs := hs.sel [1, 2, 3] rfl rfl
  replace hf := hf.keep (ks := [5, 72, 73, 74]) rfl
  refine st tbOk 2 [5, 76] hf rfl ?_
  clear hf a; intro a hf
  refine wpList_nil ?_
  exact hK2 (!((z5.1.1 == op) && ((z5.1.2.1 == p_a) && ((z5.1.2.2.1 == b) && ((z5.1.2.2.2.1 == p_c) && (z5.1.2.2.2.2 == imm)))))) _ _ ⟨_, hs.sel [0, 1, 2] rfl rfl, hf.keep (ks := [5, 76]) (by kernel_rfl)⟩ hS

end Dm
