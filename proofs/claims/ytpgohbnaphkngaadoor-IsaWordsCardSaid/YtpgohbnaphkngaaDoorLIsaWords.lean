/-
  The walk of the law IsaWords; printed by a program of this repo. No condition.
-/
import Derived.Test.YtpgohbnaphkngaaDoorWT
import Derived.Test.YtpgohbnaphkngaaDoorW0
import Derived.Test.YtpgohbnaphkngaaDoorW1
import Derived.Test.YtpgohbnaphkngaaDoorW6
namespace Dm
open Go Go.RowKit Go.Proofs

set_option maxHeartbeats 4000000 in
theorem law12_IsaWords_ok {w : World} {F : SH} {op : Int} {fields : Int} {rest : Int} {imm : Int} {p_which : Int}  (hs : Sep w F (blks [gth0, gth1, gth2]) w F [gth0, gth1, gth2]) {r : Bool} (hS : law12_IsaWords op fields rest imm p_which = some r) :
    Calls Tryd.prog 5 [.int .u8 op, .int .u16 fields, .int .u16 rest, .int .u32 imm, .int .u8 p_which].toArray w (Gives (fun u w' => ∃ (F' : SH), u = .bool r ∧ Sep w F (blks [gth0, gth1, gth2]) w' F' [])) := by
  generalize (blks [gth0, gth1, gth2]) = R at hs ⊢
  unfold law12_IsaWords at hS
  refine fn_ok (vs := [.int .u8 op, .int .u16 fields, .int .u16 rest, .int .u32 imm, .int .u8 p_which]) Tryd.func5 rfl 89 Tryd.ntmps5 (Nat.le_of_ble_eq_true rfl) ?_
  intro a hf
  replace hf := Fr.cast (L' := [(0, .int .u8 op), (1, .int .u16 fields), (2, .int .u16 rest), (3, .int .u32 imm), (4, .int .u8 p_which)]) hf (by kernel_rfl)
  refine sq ?_
  refine reg ?_
  refine st tbOk 1 [0, 1, 2, 3, 4] hf rfl ?_
  clear hf a; intro a hf
  refine wpList_nil ?_
  refine sq ?_
  refine reg ?_
  have hT := of_bd hS; clear hS; obtain ⟨z1, hz1, hS⟩ := hT
  refine clV ent10 (vs := []) (caps := []) hf (by kernel_rfl) (by kernel_rfl) (by kernel_rfl) (by kernel_rfl) (law12_awake_ok (hs.enter [0, 1, 2] rfl rfl) hz1) ?_
  clear hf; clear a; intro v w1 a hT hf; obtain ⟨F1, rfl, hr⟩ := hT
  replace hs := (hs.back [0, 1, 2] [0, 1, 2] rfl rfl rfl rfl hr).nf rfl
  clear hr
  replace hf := hf.keep (ks := [0, 1, 2, 3, 4, 17]) rfl
  refine st tbOk 1 [0, 1, 2, 3, 4, 11] hf rfl ?_
  clear hf a; intro a hf
  refine wpList_nil ?_
  refine sq ?_
  refine sq ?_
  refine reg ?_
  refine st tbOk 2 [0, 1, 2, 3, 4, 19] hf rfl ?_
  clear hf a; intro a hf
  refine wpList_nil ?_
  refine cnd (b := !z1) hf (by kernel_rfl) (fun hb1 => ?_) (fun hb1 => ?_)
  · replace hS := of_t hb1 hS
    refine sq ?_
    refine reg ?_
    refine st tbOk 1 [10] hf rfl ?_
    clear hf a; intro a hf
    refine wpList_nil ?_
    have hr := Option.some.inj hS; subst hr
    refine wp_ret ?_
    exact ret_ok hf (vs := [.bool false]) (by kernel_rfl) ⟨_, rfl, hs.sel [] rfl rfl⟩
  replace hS := of_f hb1 hS
  refine wp_skip ?_
  refine sq ?_
  refine reg ?_
  have hT := of_let hS; clear hS; obtain ⟨w_1, hl1, hS⟩ := hT
  refine st tbOk 8 [1, 2, 4, 12] (L' := [(1, .int .u16 fields), (2, .int .u16 rest), (4, .int .u8 p_which), (12, .int .u64 w_1)]) hf (by subst hl1; kernel_rfl) ?_
  clear hf a; intro a hf
  refine wpList_nil ?_
  refine sq ?_
  refine sq ?_
  refine reg ?_
  refine st tbOk 3 [1, 2, 4, 12, 29] hf rfl ?_
  clear hf a; intro a hf
  refine wpList_nil ?_
  refine ctj (fun (s1 : Int) (a : Act) (w' : World) => ∃ (F2 : SH), Sep w F R w' F2 [gth0, gth1, gth2] ∧ Fr 89 [(1, .int .u16 fields), (2, .int .u16 rest), (4, .int .u8 p_which), (12, .int .u64 s1)] a) hS ?_ ?_
  rotate_left
  · clear hS; intro KK1 k1 hK1 hS
    refine cnd (b := decide ((band .u8 p_which 1) > 0)) hf (by kernel_rfl) (fun hb2 => ?_) (fun hb2 => ?_)
    rotate_left
    · replace hS := of_f hb2 hS
      refine wp_skip ?_
      exact hK1 w_1 _ _ ⟨_, hs.sel [0, 1, 2] rfl rfl, hf.keep (ks := [1, 2, 4, 12]) (by kernel_rfl)⟩ hS
    replace hS := of_t hb2 hS
    refine reg ?_
    have hT := of_let hS; clear hS; obtain ⟨w_2, hl2, hS⟩ := hT
    refine st tbOk 7 [1, 2, 4, 12] (L' := [(1, .int .u16 fields), (2, .int .u16 rest), (4, .int .u8 p_which), (12, .int .u64 w_2)]) hf (by subst hl2; kernel_rfl) ?_
    clear hf a; intro a hf
    refine wpList_nil ?_
    exact hK1 w_2 _ _ ⟨_, hs.sel [0, 1, 2] rfl rfl, hf.keep (ks := [1, 2, 4, 12]) (by kernel_rfl)⟩ hS
  clear hS hf hs; clear a; intro s1 a w2 hM hS
  obtain ⟨F2, hs, hf⟩ := hM
  refine sq ?_
  refine sq ?_
  refine reg ?_
  refine st tbOk 3 [1, 2, 4, 12, 38] hf rfl ?_
  clear hf a; intro a hf
  refine wpList_nil ?_
  refine ctj (fun (s2 : Int) (a : Act) (w' : World) => ∃ (F3 : SH), Sep w F R w' F3 [gth0, gth1, gth2] ∧ Fr 89 [(1, .int .u16 fields), (2, .int .u16 rest), (4, .int .u8 p_which), (12, .int .u64 s2)] a) hS ?_ ?_
  rotate_left
  · clear hS; intro KK2 k2 hK2 hS
    refine cnd (b := decide ((band .u8 p_which 2) > 0)) hf (by kernel_rfl) (fun hb3 => ?_) (fun hb3 => ?_)
    rotate_left
    · replace hS := of_f hb3 hS
      refine wp_skip ?_
      exact hK2 s1 _ _ ⟨_, hs.sel [0, 1, 2] rfl rfl, hf.keep (ks := [1, 2, 4, 12]) (by kernel_rfl)⟩ hS
    replace hS := of_t hb3 hS
    refine reg ?_
    have hT := of_let hS; clear hS; obtain ⟨w_3, hl3, hS⟩ := hT
    refine st tbOk 8 [1, 2, 4, 12] (L' := [(1, .int .u16 fields), (2, .int .u16 rest), (4, .int .u8 p_which), (12, .int .u64 w_3)]) hf (by subst hl3; kernel_rfl) ?_
    clear hf a; intro a hf
    refine wpList_nil ?_
    exact hK2 w_3 _ _ ⟨_, hs.sel [0, 1, 2] rfl rfl, hf.keep (ks := [1, 2, 4, 12]) (by kernel_rfl)⟩ hS
  clear hS hf hs; clear a; intro s2 a w3 hM hS
  obtain ⟨F3, hs, hf⟩ := hM
  refine sq ?_
  refine sq ?_
  refine reg ?_
  refine st tbOk 3 [1, 2, 4, 12, 48] hf rfl ?_
  clear hf a; intro a hf
  refine wpList_nil ?_
  refine ctj (fun (s3 : Int) (a : Act) (w' : World) => ∃ (F4 : SH), Sep w F R w' F4 [gth0, gth1, gth2] ∧ Fr 89 [(2, .int .u16 rest), (4, .int .u8 p_which), (12, .int .u64 s3)] a) hS ?_ ?_
  rotate_left
  · clear hS; intro KK3 k3 hK3 hS
    refine cnd (b := decide ((band .u8 p_which 4) > 0)) hf (by kernel_rfl) (fun hb4 => ?_) (fun hb4 => ?_)
    rotate_left
    · replace hS := of_f hb4 hS
      refine wp_skip ?_
      exact hK3 s2 _ _ ⟨_, hs.sel [0, 1, 2] rfl rfl, hf.keep (ks := [2, 4, 12]) (by kernel_rfl)⟩ hS
    replace hS := of_t hb4 hS
    refine reg ?_
    have hT := of_let hS; clear hS; obtain ⟨w_4, hl4, hS⟩ := hT
    refine st tbOk 8 [2, 4, 12] (L' := [(2, .int .u16 rest), (4, .int .u8 p_which), (12, .int .u64 w_4)]) hf (by subst hl4; kernel_rfl) ?_
    clear hf a; intro a hf
    refine wpList_nil ?_
    exact hK3 w_4 _ _ ⟨_, hs.sel [0, 1, 2] rfl rfl, hf.keep (ks := [2, 4, 12]) (by kernel_rfl)⟩ hS
  clear hS hf hs; clear a; intro s3 a w4 hM hS
  obtain ⟨F4, hs, hf⟩ := hM
  refine sq ?_
  refine sq ?_
  refine reg ?_
  refine st tbOk 3 [2, 4, 12, 58] hf rfl ?_
  clear hf a; intro a hf
  refine wpList_nil ?_
  refine ctj (fun (s4 : Int) (a : Act) (w' : World) => ∃ (F5 : SH), Sep w F R w' F5 [gth0, gth1, gth2] ∧ Fr 89 [(4, .int .u8 p_which), (12, .int .u64 s4)] a) hS ?_ ?_
  rotate_left
  · clear hS; intro KK4 k4 hK4 hS
    refine cnd (b := (band .u8 p_which 24) == 24) hf (by kernel_rfl) (fun hb5 => ?_) (fun hb5 => ?_)
    rotate_left
    · replace hS := of_f hb5 hS
      refine wp_skip ?_
      exact hK4 s3 _ _ ⟨_, hs.sel [0, 1, 2] rfl rfl, hf.keep (ks := [4, 12]) (by kernel_rfl)⟩ hS
    replace hS := of_t hb5 hS
    refine reg ?_
    have hT := of_let hS; clear hS; obtain ⟨w_5, hl5, hS⟩ := hT
    refine st tbOk 7 [4, 12] (L' := [(4, .int .u8 p_which), (12, .int .u64 w_5)]) hf (by subst hl5; kernel_rfl) ?_
    clear hf a; intro a hf
    refine wpList_nil ?_
    exact hK4 w_5 _ _ ⟨_, hs.sel [0, 1, 2] rfl rfl, hf.keep (ks := [4, 12]) (by kernel_rfl)⟩ hS
  clear hS hf hs; clear a; intro s4 a w5 hM hS
  obtain ⟨F5, hs, hf⟩ := hM
  refine sq ?_
  refine sq ?_
  refine reg ?_
  refine st tbOk 3 [12, 67] hf rfl ?_
  clear hf a; intro a hf
  refine wpList_nil ?_
  refine ctj (fun (s5 : Int) (a : Act) (w' : World) => ∃ (F6 : SH), Sep w F R w' F6 [gth0, gth1, gth2] ∧ Fr 89 [(12, .int .u64 s5)] a) hS ?_ ?_
  rotate_left
  · clear hS; intro KK5 k5 hK5 hS
    refine cnd (b := decide ((band .u8 p_which 32) > 0)) hf (by kernel_rfl) (fun hb6 => ?_) (fun hb6 => ?_)
    rotate_left
    · replace hS := of_f hb6 hS
      refine wp_skip ?_
      exact hK5 s4 _ _ ⟨_, hs.sel [0, 1, 2] rfl rfl, hf.keep (ks := [12]) (by kernel_rfl)⟩ hS
    replace hS := of_t hb6 hS
    refine reg ?_
    have hT := of_let hS; clear hS; obtain ⟨w_6, hl6, hS⟩ := hT
    refine st tbOk 3 [12] (L' := [(12, .int .u64 w_6)]) hf (by subst hl6; kernel_rfl) ?_
    clear hf a; intro a hf
    refine wpList_nil ?_
    exact hK5 w_6 _ _ ⟨_, hs.sel [0, 1, 2] rfl rfl, hf.keep (ks := [12]) (by kernel_rfl)⟩ hS
  clear hS hf hs; clear a; intro s5 a w6 hM hS
  obtain ⟨F6, hs, hf⟩ := hM
  refine sq ?_
  refine reg ?_
  refine st tbOk 1 [12, 71] hf rfl ?_
  clear hf a; intro a hf
  have hT := of_bd hS; clear hS; obtain ⟨z2, hz2, hS⟩ := hT
  refine clV ent16 (vs := [.int .u64 s5]) (caps := []) hf (by kernel_rfl) (by kernel_rfl) (by kernel_rfl) (by kernel_rfl) (isa_Decode_ok (p_w := s5) (hs.enter [0] rfl rfl) hz2) ?_
  clear hf; clear a; intro v w7 a hT hf; obtain ⟨F7, rfl, hr⟩ := hT
  replace hs := (hs.back [0] [0, 1, 2] rfl rfl rfl rfl hr).nf rfl
  clear hr
  replace hf := hf.keep (ks := [12, 72]) rfl
  refine st tbOk 3 [12, 73, 74] hf rfl ?_
  clear hf a; intro a hf
  refine al tbOk i24 [.int .i64 0, .int .i64 0, .int .i64 0, .int .i64 0, .int .i32 0] rfl (by kernel_rfl) hf (by kernel_rfl) (by kernel_rfl) ?_
  clear hf; clear a; intro w8 a hb hx _ hf
  replace hs := hs.newBox hb hx
  clear hb hx
  replace hf := hf.keep (ks := [12, 13, 73, 74]) rfl
  refine stB tbOk i24 (hs.bx 0 rfl) 0 [.int .i64 z2.1.1, .int .i64 z2.1.2.1, .int .i64 z2.1.2.2.1, .int .i64 z2.1.2.2.2.1, .int .i32 z2.1.2.2.2.2] [.int .i64 z2.1.1, .int .i64 z2.1.2.1, .int .i64 z2.1.2.2.1, .int .i64 z2.1.2.2.2.1, .int .i32 z2.1.2.2.2.2] (v := .agg #[.int .i64 z2.1.1, .int .i64 z2.1.2.1, .int .i64 z2.1.2.2.1, .int .i64 z2.1.2.2.2.1, .int .i32 z2.1.2.2.2.2]) rfl rfl (by kernel_rfl) (by kernel_rfl) (by kernel_rfl) (by kernel_rfl) hf (by kernel_rfl) (by kernel_rfl) (by kernel_rfl) ?_
  clear hf; clear a; intro w9 a hb hg _ hf
  replace hs := (hs.updBox 0 rfl hb hg).nf rfl
  clear hb hg
  replace hf := hf.keep (ks := [12, 13, 74]) rfl
  refine st tbOk 1 [12, 13, 14] hf rfl ?_
  clear hf a; intro a hf
  refine wpList_nil ?_
  refine sq ?_
  refine reg ?_
  refine st tbOk 1 [13, 14, 76] hf rfl ?_
  clear hf a; intro a hf
  have hT := of_bd hS; clear hS; obtain ⟨z3, hz3, hS⟩ := hT
  refine clV ent17 (vs := [.int .u64 s5]) (caps := []) hf (by kernel_rfl) (by kernel_rfl) (by kernel_rfl) (by kernel_rfl) (ref12_Decode_ok (p_w := s5) (hs.enter [] rfl rfl) hz3) ?_
  clear hf; clear a; intro v w10 a hT hf; obtain ⟨F8, rfl, hr⟩ := hT
  replace hs := (hs.back [] [0, 1, 2, 3] rfl rfl rfl rfl hr).nf rfl
  clear hr
  replace hf := hf.keep (ks := [13, 14, 77]) rfl
  refine st tbOk 3 [13, 14, 78, 79] hf rfl ?_
  clear hf a; intro a hf
  refine al tbOk i31 [.int .i64 0, .int .i64 0, .int .i64 0, .int .i64 0, .int .i64 0] rfl (by kernel_rfl) hf (by kernel_rfl) (by kernel_rfl) ?_
  clear hf; clear a; intro w11 a hb hx _ hf
  replace hs := hs.newBox hb hx
  clear hb hx
  replace hf := hf.keep (ks := [13, 14, 15, 78, 79]) rfl
  refine stB tbOk i31 (hs.bx 0 rfl) 0 [.int .i64 z3.1.1, .int .i64 z3.1.2.1, .int .i64 z3.1.2.2.1, .int .i64 z3.1.2.2.2.1, .int .i64 z3.1.2.2.2.2] [.int .i64 z3.1.1, .int .i64 z3.1.2.1, .int .i64 z3.1.2.2.1, .int .i64 z3.1.2.2.2.1, .int .i64 z3.1.2.2.2.2] (v := .agg #[.int .i64 z3.1.1, .int .i64 z3.1.2.1, .int .i64 z3.1.2.2.1, .int .i64 z3.1.2.2.2.1, .int .i64 z3.1.2.2.2.2]) rfl rfl (by kernel_rfl) (by kernel_rfl) (by kernel_rfl) (by kernel_rfl) hf (by kernel_rfl) (by kernel_rfl) (by kernel_rfl) ?_
  clear hf; clear a; intro w12 a hb hg _ hf
  replace hs := (hs.updBox 0 rfl hb hg).nf rfl
  clear hb hg
  replace hf := hf.keep (ks := [13, 14, 15, 79]) rfl
  refine st tbOk 1 [13, 14, 15, 16] hf rfl ?_
  clear hf a; intro a hf
  refine wpList_nil ?_
  refine sq ?_
  refine ctj (fun (s6 : Bool) (a : Act) (w' : World) => ∃ (F9 : SH), Sep w F R w' F9 [gth0, gth1, gth2] ∧ Fr 89 [(10, .bool s6)] a) hS ?_ ?_
  · clear hS hf hs; clear a; intro s6 a w15 hM hS
    obtain ⟨F9, hs, hf⟩ := hM
    have hr := Option.some.inj hS; subst hr
    refine wp_ret ?_
    exact ret_ok hf (vs := [.bool s6]) (by kernel_rfl) ⟨_, rfl, hs.sel [] rfl rfl⟩
  clear hS; intro KK6 k6 hK6 hS
  refine regQ mixed (by kernel_rfl) ?_
  refine ldCQ tbOk (T := 24) (hs.cbx 1 rfl) (LeH.refl _) 0 (.agg #[.int .i64 z2.1.1, .int .i64 z2.1.2.1, .int .i64 z2.1.2.2.1, .int .i64 z2.1.2.2.2.1, .int .i32 z2.1.2.2.2.2]) hf (by kernel_rfl) (by kernel_rfl) (by kernel_rfl) (by kernel_rfl) ?_
  clear hf a; intro a hf
  replace hs := hs.sel [0, 2, 3, 4] rfl rfl
  replace hf := hf.keep (ks := [14, 15, 16, 80]) rfl
  have hT := of_bd hS; clear hS; obtain ⟨z4, hz4, hS⟩ := hT
  refine clVQ ent13 (vs := [.agg #[.int .i64 z2.1.1, .int .i64 z2.1.2.1, .int .i64 z2.1.2.2.1, .int .i64 z2.1.2.2.2.1, .int .i32 z2.1.2.2.2.2]]) (caps := []) hf (by kernel_rfl) (by kernel_rfl) (by kernel_rfl) (by kernel_rfl) (.agg #[.int .i64 z4.1, .int .i64 z4.2.1, .int .i64 z4.2.2.1, .int .i64 z4.2.2.2.1, .int .i64 z4.2.2.2.2]) (fun wq hq => (law12_model_ok (i := (z2.1.1, z2.1.2.1, z2.1.2.2.1, z2.1.2.2.2.1, z2.1.2.2.2.2)) (hs.lendQ hq [] rfl rfl) hz4).mono fun _ _ h => Gives.mono (fun _ ⟨_, e, h⟩ => ⟨e, h.ex (pers_blks rfl)⟩) h) ?_
  clear hf a; intro a hf
  replace hf := hf.keep (ks := [14, 15, 16, 81]) rfl
  refine ldCQ tbOk (T := 31) (hs.cbx 0 rfl) (LeH.refl _) 0 (.agg #[.int .i64 z3.1.1, .int .i64 z3.1.2.1, .int .i64 z3.1.2.2.1, .int .i64 z3.1.2.2.2.1, .int .i64 z3.1.2.2.2.2]) hf (by kernel_rfl) (by kernel_rfl) (by kernel_rfl) (by kernel_rfl) ?_
  clear hf a; intro a hf
  replace hs := hs.sel [1, 2, 3] rfl rfl
  replace hf := hf.keep (ks := [14, 16, 81, 82]) rfl
  refine stQ tbOk 2 [14, 16, 84] hf rfl ?_
  clear hf a; intro a hf
  rcases Bool.eq_false_or_eq_true ((z4.1 == z3.1.1) && ((z4.2.1 == z3.1.2.1) && ((z4.2.2.1 == z3.1.2.2.1) && ((z4.2.2.2.1 == z3.1.2.2.2.1) && (z4.2.2.2.2 == z3.1.2.2.2.2))))) with hb7 | hb7
  rotate_left
  · replace hS := of_f hb7 hS
    replace hf := hf.castB hb7 (fun qb => [(14, .int .i64 z2.2), (16, .int .i64 z3.2), (84, .bool qb)]) (by kernel_rfl)
    refine stQ tbOk 5 [10] hf rfl ?_
    clear hf a; intro a hf
    refine wpQuiet_nil ?_
    intro w14 hx
    replace hs := hs.ext hx
    clear hx
    exact hK6 false _ _ ⟨_, hs.sel [0, 1, 2] rfl rfl, hf.keep (ks := [10]) (by kernel_rfl)⟩ hS
  replace hS := of_t hb7 hS
  replace hf := hf.castB hb7 (fun qb => [(14, .int .i64 z2.2), (16, .int .i64 z3.2), (84, .bool qb)]) (by kernel_rfl)
  refine stQ tbOk 5 [10] hf rfl ?_
  clear hf a; intro a hf
  refine wpQuiet_nil ?_
  intro w13 hx
  replace hs := hs.ext hx
  clear hx
  exact hK6 (z2.2 == z3.2) _ _ ⟨_, hs.sel [0, 1, 2] rfl rfl, hf.keep (ks := [10]) (by kernel_rfl)⟩ hS

end Dm
