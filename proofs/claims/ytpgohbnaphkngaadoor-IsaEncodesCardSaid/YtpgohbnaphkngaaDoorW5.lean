/-
  The walks: a call of each Go function gives what its shallow form gives, where that form gives something; printed by a program of this repo. No condition.
-/
import Derived.Test.YtpgohbnaphkngaaDoorWT
import Derived.Test.YtpgohbnaphkngaaDoorW2
import Derived.Test.YtpgohbnaphkngaaDoorW4
namespace Dm
open Go Go.RowKit Go.Proofs

set_option maxHeartbeats 4000000 in
theorem ref12_Text_ok {w : World} {F : SH} {i : Int × Int × Int × Int × Int}  (hs : Sep w F (blks []) w F []) {r : (List UInt8) × Int} (hS : ref12_Text i = some r) :
    Calls Tryd.prog 15 [.agg #[.int .i64 i.1, .int .i64 i.2.1, .int .i64 i.2.2.1, .int .i64 i.2.2.2.1, .int .i64 i.2.2.2.2]].toArray w (Gives (fun u w' => ∃ (F' : SH), u = .tuple #[strV r.1, .int .i64 r.2] ∧ Sep w F (blks []) w' F' [])) := by
  generalize (blks []) = R at hs ⊢
  unfold ref12_Text at hS
  refine fn_ok (vs := [.agg #[.int .i64 i.1, .int .i64 i.2.1, .int .i64 i.2.2.1, .int .i64 i.2.2.2.1, .int .i64 i.2.2.2.2]]) Tryd.func15 rfl 46 Tryd.ntmps15 (Nat.le_of_ble_eq_true rfl) ?_
  intro a hf
  replace hf := Fr.cast (L' := [(0, .agg #[.int .i64 i.1, .int .i64 i.2.1, .int .i64 i.2.2.1, .int .i64 i.2.2.2.1, .int .i64 i.2.2.2.2])]) hf (by kernel_rfl)
  refine sq ?_
  refine reg ?_
  refine bx (T := 31) [.int .i64 i.1, .int .i64 i.2.1, .int .i64 i.2.2.1, .int .i64 i.2.2.2.1, .int .i64 i.2.2.2.2] (v := .agg #[.int .i64 i.1, .int .i64 i.2.1, .int .i64 i.2.2.1, .int .i64 i.2.2.2.1, .int .i64 i.2.2.2.2]) rfl (by kernel_rfl) hf (by kernel_rfl) (by kernel_rfl) (by kernel_rfl) ?_
  clear hf; clear a; intro w1 a hb hx _ hf
  replace hs := hs.newBox hb hx
  clear hb hx
  replace hf := hf.keep (ks := [1]) rfl
  refine st tbOk 2 [1] hf rfl ?_
  clear hf a; intro a hf
  refine wpList_nil ?_
  refine sq ?_
  refine reg ?_
  refine ldC tbOk (T := 31) (hs.cbx 0 rfl) (LeH.refl _) 0 (.agg #[.int .i64 i.1, .int .i64 i.2.1, .int .i64 i.2.2.1, .int .i64 i.2.2.2.1, .int .i64 i.2.2.2.2]) hf (by kernel_rfl) (by kernel_rfl) (by kernel_rfl) (by kernel_rfl) ?_
  clear hf a; intro a hf
  replace hf := hf.keep (ks := [1, 9]) rfl
  have hT := of_bd hS; clear hS; obtain ⟨z1, hz1, hS⟩ := hT
  refine clV ent23 (vs := [.agg #[.int .i64 i.1, .int .i64 i.2.1, .int .i64 i.2.2.1, .int .i64 i.2.2.2.1, .int .i64 i.2.2.2.2]]) (caps := []) hf (by kernel_rfl) (by kernel_rfl) (by kernel_rfl) (by kernel_rfl) (ref12_May_ok (i := (i.1, i.2.1, i.2.2.1, i.2.2.2.1, i.2.2.2.2)) (hs.enter [] rfl rfl) hz1) ?_
  clear hf; clear a; intro v w2 a hT hf; obtain ⟨F1, rfl, hr⟩ := hT
  replace hs := (hs.back [] [0] rfl rfl rfl rfl hr).nf rfl
  clear hr
  replace hf := hf.keep (ks := [1, 10]) rfl
  refine st tbOk 1 [1, 4] hf rfl ?_
  clear hf a; intro a hf
  refine wpList_nil ?_
  refine sq ?_
  refine sq ?_
  refine reg ?_
  refine st tbOk 2 [1, 12] hf rfl ?_
  clear hf a; intro a hf
  refine wpList_nil ?_
  refine cnd (b := !z1) hf (by kernel_rfl) (fun hb1 => ?_) (fun hb1 => ?_)
  · replace hS := of_t hb1 hS
    refine sq ?_
    refine reg ?_
    refine st tbOk 2 [2, 3] hf rfl ?_
    clear hf a; intro a hf
    refine wpList_nil ?_
    have hr := Option.some.inj hS; subst hr
    refine wp_ret ?_
    exact ret_ok hf (vs := [strV [], .int .i64 42]) (by kernel_rfl) ⟨_, rfl, hs.sel [] rfl rfl⟩
  replace hS := of_f hb1 hS
  refine wp_skip ?_
  refine sq ?_
  refine reg ?_
  refine st tbOk 1 [1, 13] hf rfl ?_
  clear hf a; intro a hf
  refine ldC tbOk (T := 3) (hs.cbx 0 rfl) (LeH.refl _) 0 (.int .i64 i.1) hf (by kernel_rfl) (by kernel_rfl) (by kernel_rfl) (by kernel_rfl) ?_
  clear hf a; intro a hf
  replace hf := hf.keep (ks := [1, 14]) rfl
  have hT := of_bd hS; clear hS; obtain ⟨z2, hz2, hS⟩ := hT
  refine clV ent26 (vs := [.int .i64 i.1]) (caps := []) hf (by kernel_rfl) (by kernel_rfl) (by kernel_rfl) (by kernel_rfl) (ref12_Word_ok (op := i.1) (hs.enter [] rfl rfl) hz2) ?_
  clear hf; clear a; intro v w3 a hT hf; obtain ⟨F2, rfl, hr⟩ := hT
  replace hs := (hs.back [] [0] rfl rfl rfl rfl hr).nf rfl
  clear hr
  replace hf := hf.keep (ks := [1, 15]) rfl
  refine st tbOk 1 [1, 5] hf rfl ?_
  clear hf a; intro a hf
  refine wpList_nil ?_
  refine sq ?_
  refine reg ?_
  refine st tbOk 1 [1, 5, 16] hf rfl ?_
  clear hf a; intro a hf
  refine ldC tbOk (T := 3) (hs.cbx 0 rfl) (LeH.refl _) 1 (.int .i64 i.2.1) hf (by kernel_rfl) (by kernel_rfl) (by kernel_rfl) (by kernel_rfl) ?_
  clear hf a; intro a hf
  replace hf := hf.keep (ks := [1, 5, 17]) rfl
  refine st tbOk 1 [1, 5, 17, 18] hf rfl ?_
  clear hf a; intro a hf
  refine ldC tbOk (T := 3) (hs.cbx 0 rfl) (LeH.refl _) 2 (.int .i64 i.2.2.1) hf (by kernel_rfl) (by kernel_rfl) (by kernel_rfl) (by kernel_rfl) ?_
  clear hf a; intro a hf
  replace hf := hf.keep (ks := [1, 5, 17, 19]) rfl
  refine st tbOk 1 [1, 5, 17, 19, 20] hf rfl ?_
  clear hf a; intro a hf
  refine ldC tbOk (T := 3) (hs.cbx 0 rfl) (LeH.refl _) 3 (.int .i64 i.2.2.2.1) hf (by kernel_rfl) (by kernel_rfl) (by kernel_rfl) (by kernel_rfl) ?_
  clear hf a; intro a hf
  replace hf := hf.keep (ks := [1, 5, 17, 19, 21]) rfl
  refine st tbOk 1 [1, 5, 17, 19, 21, 22] hf rfl ?_
  clear hf a; intro a hf
  refine ldC tbOk (T := 2) (hs.cbx 0 rfl) (LeH.refl _) 4 (.int .i64 i.2.2.2.2) hf (by kernel_rfl) (by kernel_rfl) (by kernel_rfl) (by kernel_rfl) ?_
  clear hf a; intro a hf
  replace hf := hf.keep (ks := [1, 5, 17, 19, 21, 23]) rfl
  refine bsR tbOk u63 i2 rfl (t := (tI .i64)) (vs := [(0, .int .i64 i.2.1), (1, .int .i64 i.2.2.1), (2, .int .i64 i.2.2.2.1), (3, .int .i64 i.2.2.2.2)]) (cells := #[.int .i64 i.2.1, .int .i64 i.2.2.1, .int .i64 i.2.2.2.1, .int .i64 i.2.2.2.2]) ([i.2.1, i.2.2.1, i.2.2.2.1, i.2.2.2.2] : List Int) hs.le hf (by kernel_rfl) (by kernel_rfl) (by kernel_rfl) rfl (by kernel_rfl) (reps_flat _) rfl ?_
  clear hf; clear a; intro w4 a ho hx hf
  replace hs := hs.newRow ho hx
  clear ho hx
  replace hf := hf.keep (ks := [1, 5, 24]) rfl
  refine st tbOk 1 [1, 5, 6] hf rfl ?_
  clear hf a; intro a hf
  refine wpList_nil ?_
  refine sq ?_
  refine reg ?_
  refine st tbOk 1 [5, 6, 25] hf rfl ?_
  clear hf a; intro a hf
  refine ldC tbOk (T := 3) (hs.cbx 1 rfl) (LeH.refl _) 0 (.int .i64 i.1) hf (by kernel_rfl) (by kernel_rfl) (by kernel_rfl) (by kernel_rfl) ?_
  clear hf a; intro a hf
  replace hs := hs.sel [0] rfl rfl
  replace hf := hf.keep (ks := [5, 6, 26]) rfl
  have hT := of_bd hS; clear hS; obtain ⟨z3, hz3, hS⟩ := hT
  refine clV ent27 (vs := [.int .i64 i.1]) (caps := []) hf (by kernel_rfl) (by kernel_rfl) (by kernel_rfl) (by kernel_rfl) (ref12_has_ok (op := i.1) (hs.enter [] rfl rfl) hz3) ?_
  clear hf; clear a; intro v w5 a hT hf; obtain ⟨F3, rfl, hr⟩ := hT
  replace hs := (hs.back [] [0] rfl rfl rfl rfl hr).nf rfl
  clear hr
  replace hf := hf.keep (ks := [5, 6, 27]) rfl
  refine st tbOk 1 [5, 6, 7] hf rfl ?_
  clear hf a; intro a hf
  refine wpList_nil ?_
  refine sq ?_
  refine sq ?_
  refine reg ?_
  refine st tbOk 1 [5, 6, 7, 8] hf rfl ?_
  clear hf a; intro a hf
  refine wpList_nil ?_
  refine ctj (fun (s1 : List UInt8) (a : Act) (w' : World) => ∃ (F4 : SH), Sep w F R w' F4 [] ∧ Fr 46 [(5, strV s1)] a) hS ?_ ?_
  · clear hS hf hs; clear a; intro s1 a w9 hM hS
    obtain ⟨F4, hs, hf⟩ := hM
    refine sq ?_
    refine reg ?_
    refine st tbOk 3 [2, 3] hf rfl ?_
    clear hf a; intro a hf
    refine wpList_nil ?_
    have hr := Option.some.inj hS; subst hr
    refine wp_ret ?_
    exact ret_ok hf (vs := [strV s1, .int .i64 0]) (by kernel_rfl) ⟨_, rfl, hs.sel [] rfl rfl⟩
  clear hS; intro KK1 k1 hK1 hS
  refine blk ?_
  refine lp (st := (z2, z3, 0)) (fun (s2 : (List UInt8) × Int × Int) (a : Act) (w' : World) => ∃ (F5 : SH), Sep w F R w' F5 [.row 2 (tI .i64) (.slice (some ⟨w3.heap.size, 0, none⟩) ([i.2.1, i.2.2.1, i.2.2.2.1, i.2.2.2.2] : List Int).length ([i.2.1, i.2.2.1, i.2.2.2.1, i.2.2.2.2] : List Int).length) ([i.2.1, i.2.2.1, i.2.2.2.1, i.2.2.2.2] : List Int)] ∧ Fr 46 [(5, strV s2.1), (6, .slice (some ⟨w3.heap.size, 0, none⟩) ([i.2.1, i.2.2.1, i.2.2.2.1, i.2.2.2.2] : List Int).length ([i.2.1, i.2.2.1, i.2.2.2.1, i.2.2.2.2] : List Int).length), (7, .int .i64 s2.2.1), (8, .int .i64 s2.2.2)] a) ?_ ⟨_, hs.sel [0] rfl rfl, hf.keep (ks := [5, 6, 7, 8]) (by kernel_rfl)⟩ hS
  clear hS hf hs; clear a
  intro rec1 KK2 hK2 s2 a w6 hM hS
  obtain ⟨F5, hs, hf⟩ := hM
  refine sq ?_
  refine sq ?_
  refine reg ?_
  refine st tbOk 2 [5, 6, 7, 8, 29] hf rfl ?_
  clear hf a; intro a hf
  refine wpList_nil ?_
  refine cnd (b := decide (s2.2.2 < 4)) hf (by kernel_rfl) (fun hb2 => ?_) (fun hb2 => ?_)
  rotate_left
  · replace hS := of_f hb2 hS
    refine wp_exit ?_
    exact hK1 s2.1 _ _ ⟨_, hs.sel [] rfl rfl, hf.keep (ks := [5]) (by kernel_rfl)⟩ hS
  replace hS := of_t hb2 hS
  refine wp_skip ?_
  refine sq ?_
  refine blk ?_
  refine sq ?_
  refine sq ?_
  refine reg ?_
  refine st tbOk 3 [5, 6, 7, 8, 34] hf rfl ?_
  clear hf a; intro a hf
  refine wpList_nil ?_
  refine ctj (fun (s3 : List UInt8) (a : Act) (w' : World) => ∃ (F6 : SH), Sep w F R w' F6 [.row 2 (tI .i64) (.slice (some ⟨w3.heap.size, 0, none⟩) ([i.2.1, i.2.2.1, i.2.2.2.1, i.2.2.2.2] : List Int).length ([i.2.1, i.2.2.1, i.2.2.2.1, i.2.2.2.2] : List Int).length) ([i.2.1, i.2.2.1, i.2.2.2.1, i.2.2.2.2] : List Int)] ∧ Fr 46 [(5, strV s3), (6, .slice (some ⟨w3.heap.size, 0, none⟩) ([i.2.1, i.2.2.1, i.2.2.2.1, i.2.2.2.2] : List Int).length ([i.2.1, i.2.2.1, i.2.2.2.1, i.2.2.2.2] : List Int).length), (7, .int .i64 s2.2.1), (8, .int .i64 s2.2.2)] a) hS ?_ ?_
  · clear hS hf hs; clear a; intro s3 a w8 hM hS
    obtain ⟨F6, hs, hf⟩ := hM
    refine reg ?_
    have hT := of_let hS; clear hS; obtain ⟨h_1, hl2, hS⟩ := hT
    refine st tbOk 3 [5, 6, 7, 8] (L' := [(5, strV s3), (6, .slice (some ⟨w3.heap.size, 0, none⟩) ([i.2.1, i.2.2.1, i.2.2.2.1, i.2.2.2.2] : List Int).length ([i.2.1, i.2.2.1, i.2.2.2.1, i.2.2.2.2] : List Int).length), (7, .int .i64 h_1), (8, .int .i64 s2.2.2)]) hf (by subst hl2; kernel_rfl) ?_
    clear hf a; intro a hf
    refine wpList_nil ?_
    refine reg ?_
    have hT := of_let hS; clear hS; obtain ⟨k_1, hl3, hS⟩ := hT
    refine st tbOk 3 [5, 6, 7, 8] (L' := [(5, strV s3), (6, .slice (some ⟨w3.heap.size, 0, none⟩) ([i.2.1, i.2.2.1, i.2.2.2.1, i.2.2.2.2] : List Int).length ([i.2.1, i.2.2.1, i.2.2.2.1, i.2.2.2.2] : List Int).length), (7, .int .i64 h_1), (8, .int .i64 k_1)]) hf (by subst hl3; kernel_rfl) ?_
    clear hf a; intro a hf
    refine wpList_nil ?_
    exact hK2 (s3, h_1, k_1) _ _ ⟨_, hs.sel [0] rfl rfl, hf.keep (ks := [5, 6, 7, 8]) (by kernel_rfl)⟩ hS
  clear hS; intro KK3 k2 hK3 hS
  refine cnd (b := (Int.tmod s2.2.1 2) == 1) hf (by kernel_rfl) (fun hb3 => ?_) (fun hb3 => ?_)
  rotate_left
  · replace hS := of_f hb3 hS
    refine wp_skip ?_
    exact hK3 s2.1 _ _ ⟨_, hs.sel [0] rfl rfl, hf.keep (ks := [5, 6, 7, 8]) (by kernel_rfl)⟩ hS
  replace hS := of_t hb3 hS
  refine reg ?_
  refine st tbOk 3 [6, 7, 8, 35, 36, 37] hf rfl ?_
  clear hf a; intro a hf
  have hT := of_gd hS; clear hS; obtain ⟨hc1, hS⟩ := hT
  refine ixR tbOk u63 i2 rfl rfl (hs.raW 0 rfl) (k := .i64) (n := s2.2.2) hc1 hf (by kernel_rfl) (by kernel_rfl) (by kernel_rfl) (by kernel_rfl) ?_
  clear hf; clear a; intro pb1 po1 c1 a hp1 hr1 hf
  obtain rfl : c1 = [.int .i64 (gt ([i.2.1, i.2.2.1, i.2.2.2.1, i.2.2.2.2] : List Int) s2.2.2)] := hr1
  replace hf := hf.keep (ks := [6, 7, 8, 35, 38]) rfl
  refine ldC tbOk (T := 2) hp1 (LeH.refl _) 0 (.int .i64 (gt ([i.2.1, i.2.2.1, i.2.2.2.1, i.2.2.2.2] : List Int) s2.2.2)) hf (by kernel_rfl) (by kernel_rfl) (by kernel_rfl) (by kernel_rfl) ?_
  clear hf a; intro a hf
  replace hf := hf.keep (ks := [6, 7, 8, 35, 39]) rfl
  have hT := of_bd hS; clear hS; obtain ⟨z4, hz4, hS⟩ := hT
  refine clV ent28 (vs := [.int .i64 (gt ([i.2.1, i.2.2.1, i.2.2.2.1, i.2.2.2.2] : List Int) s2.2.2)]) (caps := []) hf (by kernel_rfl) (by kernel_rfl) (by kernel_rfl) (by kernel_rfl) (ref12_Number_ok (n := gt ([i.2.1, i.2.2.1, i.2.2.2.1, i.2.2.2.2] : List Int) s2.2.2) (hs.enter [] rfl rfl) hz4) ?_
  clear hf; clear a; intro v w7 a hT hf; obtain ⟨F7, rfl, hr⟩ := hT
  replace hs := (hs.back [] [0] rfl rfl rfl rfl hr).nf rfl
  clear hr
  replace hf := hf.keep (ks := [6, 7, 8, 35, 40]) rfl
  have hT := of_gd hS; clear hS; obtain ⟨hc2, hS⟩ := hT
  refine addS hc2 hf (by kernel_rfl) (by kernel_rfl) (by kernel_rfl) (by kernel_rfl) ?_
  clear hf a; intro a hf
  replace hf := hf.keep (ks := [6, 7, 8, 35, 41]) rfl
  have hT := of_gd hS; clear hS; obtain ⟨hc3, hS⟩ := hT
  refine addS hc3 hf (by kernel_rfl) (by kernel_rfl) (by kernel_rfl) (by kernel_rfl) ?_
  clear hf a; intro a hf
  replace hf := hf.keep (ks := [6, 7, 8, 42]) rfl
  have hT := of_let hS; clear hS; obtain ⟨s_1, hl1, hS⟩ := hT
  refine st tbOk 1 [5, 6, 7, 8] (L' := [(5, strV s_1), (6, .slice (some ⟨w3.heap.size, 0, none⟩) ([i.2.1, i.2.2.1, i.2.2.2.1, i.2.2.2.2] : List Int).length ([i.2.1, i.2.2.1, i.2.2.2.1, i.2.2.2.2] : List Int).length), (7, .int .i64 s2.2.1), (8, .int .i64 s2.2.2)]) hf (by subst hl1; kernel_rfl) ?_
  clear hf a; intro a hf
  refine wpList_nil ?_
  exact hK3 s_1 _ _ ⟨_, hs.sel [0] rfl rfl, hf.keep (ks := [5, 6, 7, 8]) (by kernel_rfl)⟩ hS

end Dm
