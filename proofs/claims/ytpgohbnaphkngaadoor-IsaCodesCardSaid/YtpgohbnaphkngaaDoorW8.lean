/-
  The walks: a call of each Go function gives what its shallow form gives, where that form gives something; printed by a program of this repo. No condition.
-/
import Derived.Test.YtpgohbnaphkngaaDoorWT
import Derived.Test.YtpgohbnaphkngaaDoorW3
import Derived.Test.YtpgohbnaphkngaaDoorW7
namespace Dm
open Go Go.RowKit Go.Proofs

set_option maxHeartbeats 4000000 in
theorem ref12_Code_ok {w : World} {F : SH} {text : List UInt8}  (hs : Sep w F (blks []) w F []) {r : (List Int) × Int × Int} (hS : ref12_Code text = some r) :
    Calls Tryd.prog 21 [strV text].toArray w (Gives (fun u w' => ∃ (ao8 : Option Addr) (cp8 : Nat) (F' : SH), u = .tuple #[.slice ao8 r.1.length cp8, .int .i64 r.2.1, .int .i64 r.2.2] ∧ Sep w F (blks []) w' F' [.row 5 (tI .u8) (.slice ao8 r.1.length cp8) r.1])) := by
  generalize (blks []) = R at hs ⊢
  unfold ref12_Code at hS
  refine fn_ok (vs := [strV text]) Tryd.func21 rfl 82 Tryd.ntmps21 (Nat.le_of_ble_eq_true rfl) ?_
  intro a hf
  replace hf := Fr.cast (L' := [(0, strV text)]) hf (by kernel_rfl)
  refine sq ?_
  refine reg ?_
  refine st tbOk 3 [0] hf rfl ?_
  clear hf a; intro a hf
  refine wpList_nil ?_
  refine sq ?_
  refine sq ?_
  refine reg ?_
  refine st tbOk 3 [0, 18] hf rfl ?_
  clear hf a; intro a hf
  refine wpList_nil ?_
  refine cnd (b := decide (((text.length : Nat) : Int) > 65536)) hf (by kernel_rfl) (fun hb1 => ?_) (fun hb1 => ?_)
  · replace hS := of_t hb1 hS
    refine sq ?_
    refine reg ?_
    refine st tbOk 3 [2, 3, 4] hf rfl ?_
    clear hf a; intro a hf
    refine wpList_nil ?_
    have hr := Option.some.inj hS; subst hr
    refine wp_ret ?_
    replace hs := hs.addNil 5 (tI .u8)
    exact ret_ok hf (vs := [.slice none 0 0, .int .i64 13, .int .i64 0]) (by kernel_rfl) ⟨none, 0, _, rfl, hs.sel [0] rfl rfl⟩
  replace hS := of_f hb1 hS
  refine wp_skip ?_
  refine sq ?_
  refine reg ?_
  refine st tbOk 1 [0, 5] hf rfl ?_
  clear hf a; intro a hf
  refine wpList_nil ?_
  refine sq ?_
  refine reg ?_
  refine st tbOk 1 [0, 5, 6] hf rfl ?_
  clear hf a; intro a hf
  refine wpList_nil ?_
  refine sq ?_
  refine reg ?_
  refine st tbOk 1 [0, 5, 6, 7] hf rfl ?_
  clear hf a; intro a hf
  refine wpList_nil ?_
  refine sq ?_
  refine sq ?_
  refine reg ?_
  refine st tbOk 1 [0, 5, 6, 7, 8] hf rfl ?_
  clear hf a; intro a hf
  refine wpList_nil ?_
  refine ctj (fun (s1 : List Int) (a : Act) (w' : World) => ∃ (ao1 : Option Addr) (cp1 : Nat) (F1 : SH), Sep w F R w' F1 [.row 5 (tI .u8) (.slice ao1 s1.length cp1) s1] ∧ Fr 82 [(5, .slice ao1 s1.length cp1)] a) hS ?_ ?_
  · clear hS hf hs; clear a; intro s1 a w14 hM hS
    obtain ⟨ao1, cp1, F1, hs, hf⟩ := hM
    refine sq ?_
    refine reg ?_
    refine st tbOk 4 [2, 3, 4] hf rfl ?_
    clear hf a; intro a hf
    refine wpList_nil ?_
    have hr := Option.some.inj hS; subst hr
    refine wp_ret ?_
    exact ret_ok hf (vs := [.slice ao1 s1.length cp1, .int .i64 0, .int .i64 0]) (by kernel_rfl) ⟨ao1, cp1, _, rfl, hs.sel [0] rfl rfl⟩
  clear hS; intro KK1 k1 hK1 hS
  refine blk ?_
  replace hs := hs.addNil 5 (tI .u8)
  refine lp (st := ([], 0, 0, 0)) (fun (s2 : (List Int) × Int × Int × Int) (a : Act) (w' : World) => ∃ (ao2 : Option Addr) (cp2 : Nat) (F2 : SH), Sep w F R w' F2 [.row 5 (tI .u8) (.slice ao2 s2.1.length cp2) s2.1] ∧ Fr 82 [(0, strV text), (5, .slice ao2 s2.1.length cp2), (6, .int .i64 s2.2.1), (7, .int .i64 s2.2.2.1), (8, .int .i64 s2.2.2.2)] a) ?_ ⟨none, 0, _, hs.sel [0] rfl rfl, hf.keep (ks := [0, 5, 6, 7, 8]) (by kernel_rfl)⟩ hS
  clear hS hf hs; clear a
  intro rec1 KK2 hK2 s2 a w1 hM hS
  obtain ⟨ao2, cp2, F2, hs, hf⟩ := hM
  refine sq ?_
  refine sq ?_
  refine reg ?_
  refine st tbOk 4 [0, 5, 6, 7, 8, 22] hf rfl ?_
  clear hf a; intro a hf
  refine wpList_nil ?_
  refine cnd (b := decide (s2.2.2.2 ≤ ((text.length : Nat) : Int))) hf (by kernel_rfl) (fun hb2 => ?_) (fun hb2 => ?_)
  rotate_left
  · replace hS := of_f hb2 hS
    refine wp_exit ?_
    exact hK1 s2.1 _ _ ⟨ao2, cp2, _, hs.sel [0] rfl rfl, hf.keep (ks := [5]) (by kernel_rfl)⟩ hS
  replace hS := of_t hb2 hS
  refine wp_skip ?_
  refine sq ?_
  refine ctj (fun (s3 : (List Int) × Int × Int) (a : Act) (w' : World) => ∃ (ao3 : Option Addr) (cp3 : Nat) (F3 : SH), Sep w F R w' F3 [.row 5 (tI .u8) (.slice ao3 s3.1.length cp3) s3.1] ∧ Fr 82 [(0, strV text), (5, .slice ao3 s3.1.length cp3), (6, .int .i64 s3.2.1), (7, .int .i64 s3.2.2), (8, .int .i64 s2.2.2.2)] a) hS ?_ ?_
  · clear hS hf hs; clear a; intro s3 a w13 hM hS
    obtain ⟨ao3, cp3, F3, hs, hf⟩ := hM
    refine reg ?_
    have hT := of_let hS; clear hS; obtain ⟨i_1, hl6, hS⟩ := hT
    refine st tbOk 3 [0, 5, 6, 7, 8] (L' := [(0, strV text), (5, .slice ao3 s3.1.length cp3), (6, .int .i64 s3.2.1), (7, .int .i64 s3.2.2), (8, .int .i64 i_1)]) hf (by subst hl6; kernel_rfl) ?_
    clear hf a; intro a hf
    refine wpList_nil ?_
    exact hK2 (s3.1, s3.2.1, s3.2.2, i_1) _ _ ⟨ao3, cp3, _, hs.sel [0] rfl rfl, hf.keep (ks := [0, 5, 6, 7, 8]) (by kernel_rfl)⟩ hS
  clear hS; intro KK3 k2 hK3 hS
  refine blk ?_
  refine sq ?_
  refine sq ?_
  refine ctj (fun (s4 : Bool) (a : Act) (w' : World) => ∃ (F4 : SH), Sep w F R w' F4 [.row 5 (tI .u8) (.slice ao2 s2.1.length cp2) s2.1] ∧ Fr 82 [(0, strV text), (5, .slice ao2 s2.1.length cp2), (6, .int .i64 s2.2.1), (7, .int .i64 s2.2.2.1), (8, .int .i64 s2.2.2.2), (34, .bool s4)] a) hS ?_ ?_
  rotate_left
  · clear hS; intro KK4 k3 hK4 hS
    refine reg ?_
    refine st tbOk 5 [0, 5, 6, 7, 8, 29] hf rfl ?_
    clear hf a; intro a hf
    rcases Bool.eq_false_or_eq_true (decide (s2.2.2.2 < ((text.length : Nat) : Int))) with hb3 | hb3
    rotate_left
    · replace hS := of_f hb3 hS
      replace hf := hf.castB hb3 (fun qb => [(0, strV text), (5, .slice ao2 s2.1.length cp2), (6, .int .i64 s2.2.1), (7, .int .i64 s2.2.2.1), (8, .int .i64 s2.2.2.2), (29, .bool qb)]) (by kernel_rfl)
      refine st tbOk 5 [0, 5, 6, 7, 8, 34] hf rfl ?_
      clear hf a; intro a hf
      refine wpList_nil ?_
      exact hK4 false _ _ ⟨_, hs.sel [0] rfl rfl, hf.keep (ks := [0, 5, 6, 7, 8, 34]) (by kernel_rfl)⟩ hS
    replace hS := of_t hb3 hS
    replace hf := hf.castB hb3 (fun qb => [(0, strV text), (5, .slice ao2 s2.1.length cp2), (6, .int .i64 s2.2.1), (7, .int .i64 s2.2.2.1), (8, .int .i64 s2.2.2.2), (29, .bool qb)]) (by kernel_rfl)
    refine st tbOk 2 [0, 5, 6, 7, 8, 29, 30, 31] hf rfl ?_
    clear hf a; intro a hf
    have hT := of_gd hS; clear hS; obtain ⟨hc1, hS⟩ := hT
    refine ixS tbOk u9 (p := text) (k := .i64) (n := s2.2.2.2) hc1 hf (by kernel_rfl) (by kernel_rfl) (by kernel_rfl) (by kernel_rfl) ?_
    clear hf a; intro a hf
    replace hf := hf.keep (ks := [0, 5, 6, 7, 8, 29, 32]) rfl
    refine st tbOk 2 [0, 5, 6, 7, 8, 34] hf rfl ?_
    clear hf a; intro a hf
    refine wpList_nil ?_
    exact hK4 (((text.getD (Int.toNat s2.2.2.2) 0).toNat : Int) != 10) _ _ ⟨_, hs.sel [0] rfl rfl, hf.keep (ks := [0, 5, 6, 7, 8, 34]) (by kernel_rfl)⟩ hS
  clear hS hf hs; clear a; intro s4 a w2 hM hS
  obtain ⟨F4, hs, hf⟩ := hM
  refine cnd (b := s4) hf (by kernel_rfl) (fun hb4 => ?_) (fun hb4 => ?_)
  · replace hS := of_t hb4 hS
    refine wp_exit ?_
    exact hK3 (s2.1, s2.2.1, s2.2.2.1) _ _ ⟨ao2, cp2, _, hs.sel [0] rfl rfl, hf.keep (ks := [0, 5, 6, 7, 8]) (by kernel_rfl)⟩ hS
  replace hS := of_f hb4 hS
  refine wp_skip ?_
  refine sq ?_
  refine reg ?_
  have hT := of_let hS; clear hS; obtain ⟨line_1, hl1, hS⟩ := hT
  refine st tbOk 3 [0, 5, 6, 7, 8] (L' := [(0, strV text), (5, .slice ao2 s2.1.length cp2), (6, .int .i64 s2.2.1), (7, .int .i64 line_1), (8, .int .i64 s2.2.2.2)]) hf (by subst hl1; kernel_rfl) ?_
  clear hf a; intro a hf
  refine wpList_nil ?_
  refine sq ?_
  refine reg ?_
  refine st tbOk 3 [0, 5, 7, 8, 37, 38, 39] hf rfl ?_
  clear hf a; intro a hf
  have hT := of_gd hS; clear hS; obtain ⟨hc2, hS⟩ := hT
  refine cutS tbOk u9 (p := text) (lo := s2.2.1) (hi := s2.2.2.2) hc2 (.inr ⟨_, .i64, rfl, by kernel_rfl⟩) (.inr ⟨_, .i64, rfl, by kernel_rfl⟩) hf (by kernel_rfl) (by kernel_rfl) (by kernel_rfl) ?_
  clear hf a; intro a hf
  replace hf := hf.keep (ks := [0, 5, 7, 8, 40]) rfl
  have hT := of_let hS; clear hS; obtain ⟨s_1, hl2, hS⟩ := hT
  refine st tbOk 1 [0, 5, 7, 8, 9] (L' := [(0, strV text), (5, .slice ao2 s2.1.length cp2), (7, .int .i64 line_1), (8, .int .i64 s2.2.2.2), (9, strV s_1)]) hf (by subst hl2; kernel_rfl) ?_
  clear hf a; intro a hf
  refine wpList_nil ?_
  refine sq ?_
  refine reg ?_
  have hT := of_let hS; clear hS; obtain ⟨from_1, hl3, hS⟩ := hT
  refine st tbOk 3 [0, 5, 6, 7, 8, 9] (L' := [(0, strV text), (5, .slice ao2 s2.1.length cp2), (6, .int .i64 from_1), (7, .int .i64 line_1), (8, .int .i64 s2.2.2.2), (9, strV s_1)]) hf (by subst hl3; kernel_rfl) ?_
  clear hf a; intro a hf
  refine wpList_nil ?_
  refine sq ?_
  refine reg ?_
  refine st tbOk 1 [0, 5, 6, 7, 8, 9, 43] hf rfl ?_
  clear hf a; intro a hf
  have hT := of_bd hS; clear hS; obtain ⟨z1, hz1, hS⟩ := hT
  refine clV ent34 (vs := [strV s_1]) (caps := []) hf (by kernel_rfl) (by kernel_rfl) (by kernel_rfl) (by kernel_rfl) (ref12_Split_ok (p_s := s_1) (hs.enter [] rfl rfl) hz1) ?_
  clear hf; clear a; intro v w3 a hT hf; obtain ⟨ao4, cp4, F5, rfl, hr⟩ := hT
  replace hs := (hs.back [] [0] rfl rfl rfl rfl hr).nf rfl
  clear hr
  replace hf := hf.keep (ks := [0, 5, 6, 7, 8, 9, 44]) rfl
  refine st tbOk 1 [0, 5, 6, 7, 8, 9, 10] hf rfl ?_
  clear hf a; intro a hf
  refine wpList_nil ?_
  refine sq ?_
  refine sq ?_
  refine ctj (fun (s5 : Bool) (a : Act) (w' : World) => ∃ (F6 : SH), Sep w F R w' F6 [.row 5 (tI .u8) (.slice ao2 s2.1.length cp2) s2.1] ∧ Fr 82 [(0, strV text), (5, .slice ao2 s2.1.length cp2), (6, .int .i64 from_1), (7, .int .i64 line_1), (8, .int .i64 s2.2.2.2), (9, strV s_1), (54, .bool s5)] a) hS ?_ ?_
  rotate_left
  · clear hS; intro KK5 k4 hK5 hS
    refine reg ?_
    refine st tbOk 4 [0, 5, 6, 7, 8, 9, 10, 48] hf rfl ?_
    clear hf a; intro a hf
    rcases Bool.eq_false_or_eq_true (((z1.length : Nat) : Int) == 0) with hb5 | hb5
    · replace hS := of_t hb5 hS
      replace hf := hf.castB hb5 (fun qb => [(0, strV text), (5, .slice ao2 s2.1.length cp2), (6, .int .i64 from_1), (7, .int .i64 line_1), (8, .int .i64 s2.2.2.2), (9, strV s_1), (10, .slice ao4 z1.length cp4), (48, .bool qb)]) (by kernel_rfl)
      refine st tbOk 5 [0, 5, 6, 7, 8, 9, 48, 53] hf rfl ?_
      clear hf a; intro a hf
      refine st tbOk 1 [0, 5, 6, 7, 8, 9, 54] hf rfl ?_
      clear hf a; intro a hf
      refine wpList_nil ?_
      exact hK5 true _ _ ⟨_, hs.sel [1] rfl rfl, hf.keep (ks := [0, 5, 6, 7, 8, 9, 54]) (by kernel_rfl)⟩ hS
    replace hS := of_f hb5 hS
    replace hf := hf.castB hb5 (fun qb => [(0, strV text), (5, .slice ao2 s2.1.length cp2), (6, .int .i64 from_1), (7, .int .i64 line_1), (8, .int .i64 s2.2.2.2), (9, strV s_1), (10, .slice ao4 z1.length cp4), (48, .bool qb)]) (by kernel_rfl)
    refine st tbOk 1 [0, 5, 6, 7, 8, 9, 48, 49] hf rfl ?_
    clear hf a; intro a hf
    have hT := of_gd hS; clear hS; obtain ⟨hc3, hS⟩ := hT
    refine ixR tbOk u53 i9 rfl rfl (hs.raW 0 rfl) (k := .i64) (n := 0) hc3 hf (by kernel_rfl) (by kernel_rfl) (by kernel_rfl) (by kernel_rfl) ?_
    clear hf; clear a; intro pb1 po1 c1 a hp1 hr1 hf
    obtain rfl : c1 = [strV (gt z1 0)] := hr1
    replace hs := hs.sel [1] rfl rfl
    replace hf := hf.keep (ks := [0, 5, 6, 7, 8, 9, 48, 50]) rfl
    refine ldC tbOk (T := 9) hp1 (LeH.refl _) 0 (strV (gt z1 0)) hf (by kernel_rfl) (by kernel_rfl) (by kernel_rfl) (by kernel_rfl) ?_
    clear hf a; intro a hf
    replace hf := hf.keep (ks := [0, 5, 6, 7, 8, 9, 48, 51]) rfl
    have hT := of_gd hS; clear hS; obtain ⟨hc4, hS⟩ := hT
    refine ixS tbOk u9 (p := (gt z1 0)) (k := .i64) (n := 0) hc4 hf (by kernel_rfl) (by kernel_rfl) (by kernel_rfl) (by kernel_rfl) ?_
    clear hf a; intro a hf
    replace hf := hf.keep (ks := [0, 5, 6, 7, 8, 9, 48, 52]) rfl
    refine st tbOk 2 [0, 5, 6, 7, 8, 9, 54] hf rfl ?_
    clear hf a; intro a hf
    refine wpList_nil ?_
    exact hK5 ((((gt z1 0).getD (Int.toNat 0) 0).toNat : Int) == 35) _ _ ⟨_, hs.sel [0] rfl rfl, hf.keep (ks := [0, 5, 6, 7, 8, 9, 54]) (by kernel_rfl)⟩ hS
  clear hS hf hs; clear a; intro s5 a w4 hM hS
  obtain ⟨F6, hs, hf⟩ := hM
  refine cnd (b := s5) hf (by kernel_rfl) (fun hb6 => ?_) (fun hb6 => ?_)
  · replace hS := of_t hb6 hS
    refine wp_exit ?_
    exact hK3 (s2.1, from_1, line_1) _ _ ⟨ao2, cp2, _, hs.sel [0] rfl rfl, hf.keep (ks := [0, 5, 6, 7, 8]) (by kernel_rfl)⟩ hS
  replace hS := of_f hb6 hS
  refine wp_skip ?_
  refine sq ?_
  refine reg ?_
  refine st tbOk 1 [0, 5, 6, 7, 8, 56] hf rfl ?_
  clear hf a; intro a hf
  have hT := of_bd hS; clear hS; obtain ⟨z2, hz2, hS⟩ := hT
  refine clV ent19 (vs := [strV s_1]) (caps := []) hf (by kernel_rfl) (by kernel_rfl) (by kernel_rfl) (by kernel_rfl) (ref12_Parse_ok (p_s := s_1) (hs.enter [] rfl rfl) hz2) ?_
  clear hf; clear a; intro v w5 a hT hf; obtain ⟨F7, rfl, hr⟩ := hT
  replace hs := (hs.back [] [0] rfl rfl rfl rfl hr).nf rfl
  clear hr
  replace hf := hf.keep (ks := [0, 5, 6, 7, 8, 57]) rfl
  refine st tbOk 3 [0, 5, 6, 7, 8, 58, 59] hf rfl ?_
  clear hf a; intro a hf
  refine al tbOk i31 [.int .i64 0, .int .i64 0, .int .i64 0, .int .i64 0, .int .i64 0] rfl (by kernel_rfl) hf (by kernel_rfl) (by kernel_rfl) ?_
  clear hf; clear a; intro w6 a hb hx _ hf
  replace hs := hs.newBox hb hx
  clear hb hx
  replace hf := hf.keep (ks := [0, 5, 6, 7, 8, 11, 58, 59]) rfl
  refine stB tbOk i31 (hs.bx 0 rfl) 0 [.int .i64 z2.1.1, .int .i64 z2.1.2.1, .int .i64 z2.1.2.2.1, .int .i64 z2.1.2.2.2.1, .int .i64 z2.1.2.2.2.2] [.int .i64 z2.1.1, .int .i64 z2.1.2.1, .int .i64 z2.1.2.2.1, .int .i64 z2.1.2.2.2.1, .int .i64 z2.1.2.2.2.2] (v := .agg #[.int .i64 z2.1.1, .int .i64 z2.1.2.1, .int .i64 z2.1.2.2.1, .int .i64 z2.1.2.2.2.1, .int .i64 z2.1.2.2.2.2]) rfl rfl (by kernel_rfl) (by kernel_rfl) (by kernel_rfl) (by kernel_rfl) hf (by kernel_rfl) (by kernel_rfl) (by kernel_rfl) ?_
  clear hf; clear a; intro w7 a hb hg _ hf
  replace hs := (hs.updBox 0 rfl hb hg).nf rfl
  clear hb hg
  replace hf := hf.keep (ks := [0, 5, 6, 7, 8, 11, 59]) rfl
  refine st tbOk 1 [0, 5, 6, 7, 8, 11, 12] hf rfl ?_
  clear hf a; intro a hf
  refine wpList_nil ?_
  refine sq ?_
  refine sq ?_
  refine reg ?_
  refine st tbOk 2 [0, 5, 6, 7, 8, 11, 12, 61] hf rfl ?_
  clear hf a; intro a hf
  refine wpList_nil ?_
  refine cnd (b := z2.2 != 0) hf (by kernel_rfl) (fun hb7 => ?_) (fun hb7 => ?_)
  · replace hS := of_t hb7 hS
    refine sq ?_
    refine reg ?_
    refine st tbOk 5 [2, 3, 4] hf rfl ?_
    clear hf a; intro a hf
    refine wpList_nil ?_
    have hr := Option.some.inj hS; subst hr
    refine wp_ret ?_
    replace hs := hs.addNil 5 (tI .u8)
    exact ret_ok hf (vs := [.slice none 0 0, .int .i64 z2.2, .int .i64 line_1]) (by kernel_rfl) ⟨none, 0, _, rfl, hs.sel [0] rfl rfl⟩
  replace hS := of_f hb7 hS
  refine wp_skip ?_
  refine sq ?_
  refine reg ?_
  refine ldC tbOk (T := 31) (hs.cbx 0 rfl) (LeH.refl _) 0 (.agg #[.int .i64 z2.1.1, .int .i64 z2.1.2.1, .int .i64 z2.1.2.2.1, .int .i64 z2.1.2.2.2.1, .int .i64 z2.1.2.2.2.2]) hf (by kernel_rfl) (by kernel_rfl) (by kernel_rfl) (by kernel_rfl) ?_
  clear hf a; intro a hf
  replace hs := hs.sel [1] rfl rfl
  replace hf := hf.keep (ks := [0, 5, 6, 7, 8, 65]) rfl
  have hT := of_bd hS; clear hS; obtain ⟨z3, hz3, hS⟩ := hT
  refine clV ent12 (vs := [.agg #[.int .i64 z2.1.1, .int .i64 z2.1.2.1, .int .i64 z2.1.2.2.1, .int .i64 z2.1.2.2.2.1, .int .i64 z2.1.2.2.2.2]]) (caps := []) hf (by kernel_rfl) (by kernel_rfl) (by kernel_rfl) (by kernel_rfl) (ref12_Encode_ok (i := (z2.1.1, z2.1.2.1, z2.1.2.2.1, z2.1.2.2.2.1, z2.1.2.2.2.2)) (hs.enter [] rfl rfl) hz3) ?_
  clear hf; clear a; intro v w8 a hT hf; obtain ⟨F8, rfl, hr⟩ := hT
  replace hs := (hs.back [] [0] rfl rfl rfl rfl hr).nf rfl
  clear hr
  replace hf := hf.keep (ks := [0, 5, 6, 7, 8, 66]) rfl
  refine st tbOk 5 [0, 5, 6, 7, 8, 13] hf rfl ?_
  clear hf a; intro a hf
  refine wpList_nil ?_
  refine sq ?_
  refine reg ?_
  refine st tbOk 1 [0, 5, 6, 7, 8, 13, 15] hf rfl ?_
  clear hf a; intro a hf
  refine wpList_nil ?_
  refine ctj (fun (s6 : List Int) (a : Act) (w' : World) => ∃ (ao5 : Option Addr) (cp5 : Nat) (F9 : SH), Sep w F R w' F9 [.row 5 (tI .u8) (.slice ao5 s6.length cp5) s6] ∧ Fr 82 [(0, strV text), (5, .slice ao5 s6.length cp5), (6, .int .i64 from_1), (7, .int .i64 line_1), (8, .int .i64 s2.2.2.2)] a) hS ?_ ?_
  · clear hS hf hs; clear a; intro s6 a w12 hM hS
    obtain ⟨ao5, cp5, F9, hs, hf⟩ := hM
    exact hK3 (s6, from_1, line_1) _ _ ⟨ao5, cp5, _, hs.sel [0] rfl rfl, hf.keep (ks := [0, 5, 6, 7, 8]) (by kernel_rfl)⟩ hS
  clear hS; intro KK6 k5 hK6 hS
  refine blk ?_
  refine lp (st := (s2.1, z3.1, 0)) (fun (s7 : (List Int) × Int × Int) (a : Act) (w' : World) => ∃ (ao6 : Option Addr) (cp6 : Nat) (F10 : SH), Sep w F R w' F10 [.row 5 (tI .u8) (.slice ao6 s7.1.length cp6) s7.1] ∧ Fr 82 [(0, strV text), (5, .slice ao6 s7.1.length cp6), (6, .int .i64 from_1), (7, .int .i64 line_1), (8, .int .i64 s2.2.2.2), (13, .int .u64 s7.2.1), (15, .int .i64 s7.2.2)] a) ?_ ⟨ao2, cp2, _, hs.sel [0] rfl rfl, hf.keep (ks := [0, 5, 6, 7, 8, 13, 15]) (by kernel_rfl)⟩ hS
  clear hS hf hs; clear a
  intro rec2 KK7 hK7 s7 a w9 hM hS
  obtain ⟨ao6, cp6, F10, hs, hf⟩ := hM
  refine sq ?_
  refine sq ?_
  refine reg ?_
  refine st tbOk 2 [0, 5, 6, 7, 8, 13, 15, 70] hf rfl ?_
  clear hf a; intro a hf
  refine wpList_nil ?_
  refine cnd (b := decide (s7.2.2 < 8)) hf (by kernel_rfl) (fun hb8 => ?_) (fun hb8 => ?_)
  rotate_left
  · replace hS := of_f hb8 hS
    refine wp_exit ?_
    exact hK6 s7.1 _ _ ⟨ao6, cp6, _, hs.sel [0] rfl rfl, hf.keep (ks := [0, 5, 6, 7, 8]) (by kernel_rfl)⟩ hS
  replace hS := of_t hb8 hS
  refine wp_skip ?_
  refine sq ?_
  refine blk ?_
  refine sq ?_
  refine reg ?_
  refine st tbOk 4 [0, 6, 7, 8, 13, 15, 73, 76] hf rfl ?_
  clear hf a; intro a hf
  refine bsR tbOk u49 i5 rfl (t := (tI .u8)) (vs := [(0, .int .u8 (IntKind.u8.wrap (Int.tmod s7.2.1 256)))]) (cells := #[.int .u8 (IntKind.u8.wrap (Int.tmod s7.2.1 256))]) ([IntKind.u8.wrap (Int.tmod s7.2.1 256)] : List Int) hs.le hf (by kernel_rfl) (by kernel_rfl) (by kernel_rfl) rfl (by kernel_rfl) (reps_flat _) rfl ?_
  clear hf; clear a; intro w10 a ho hx hf
  replace hs := hs.newRow ho hx
  clear ho hx
  replace hf := hf.keep (ks := [0, 6, 7, 8, 13, 15, 73, 77]) rfl
  have hT := of_gd hS; clear hS; obtain ⟨hc5, hS⟩ := hT
  refine apR tbOk u49 i5 rfl rfl rfl rfl hs.le (hs.own 1 rfl) (hs.raW 0 rfl) hc5 hf (by kernel_rfl) (by kernel_rfl) (by kernel_rfl) (by kernel_rfl) ?_
  clear hf; clear a; intro ao7 cp7 w11 a ho hg hl hf
  replace hs := (hs.updRow 1 rfl ho hg hl).nf rfl
  clear ho hg hl
  replace hs := hs.sel [1] rfl rfl
  replace hf := hf.keep (ks := [0, 6, 7, 8, 13, 15, 78]) rfl
  refine st tbOk 1 [0, 5, 6, 7, 8, 13, 15] hf rfl ?_
  clear hf a; intro a hf
  refine wpList_nil ?_
  refine reg ?_
  have hT := of_let hS; clear hS; obtain ⟨n_1, hl4, hS⟩ := hT
  refine st tbOk 3 [0, 5, 6, 7, 8, 13, 15] (L' := [(0, strV text), (5, .slice ao7 (s7.1 ++ ([IntKind.u8.wrap (Int.tmod s7.2.1 256)] : List Int)).length cp7), (6, .int .i64 from_1), (7, .int .i64 line_1), (8, .int .i64 s2.2.2.2), (13, .int .u64 n_1), (15, .int .i64 s7.2.2)]) hf (by subst hl4; kernel_rfl) ?_
  clear hf a; intro a hf
  refine wpList_nil ?_
  refine reg ?_
  have hT := of_let hS; clear hS; obtain ⟨k_1, hl5, hS⟩ := hT
  refine st tbOk 3 [0, 5, 6, 7, 8, 13, 15] (L' := [(0, strV text), (5, .slice ao7 (s7.1 ++ ([IntKind.u8.wrap (Int.tmod s7.2.1 256)] : List Int)).length cp7), (6, .int .i64 from_1), (7, .int .i64 line_1), (8, .int .i64 s2.2.2.2), (13, .int .u64 n_1), (15, .int .i64 k_1)]) hf (by subst hl5; kernel_rfl) ?_
  clear hf a; intro a hf
  refine wpList_nil ?_
  exact hK7 ((s7.1 ++ ([IntKind.u8.wrap (Int.tmod s7.2.1 256)] : List Int)), n_1, k_1) _ _ ⟨ao7, cp7, _, hs.sel [0] rfl rfl, hf.keep (ks := [0, 5, 6, 7, 8, 13, 15]) (by kernel_rfl)⟩ hS

end Dm
