/-
  The walks: a call of each Go function gives what its shallow form gives, where that form gives something; printed by a program of this repo. No condition.
-/
import Derived.Test.YtpgohbnaphkngaaDoorWT
namespace Dm
open Go Go.RowKit Go.Proofs

set_option maxHeartbeats 4000000 in
theorem ref12_Word_ok {w : World} {F : SH} {op : Int}  (hs : Sep w F (blks []) w F []) {r : List UInt8} (hS : ref12_Word op = some r) :
    Calls Tryd.prog 26 [.int .i64 op].toArray w (Gives (fun u w' => ∃ (F' : SH), u = strV r ∧ Sep w F (blks []) w' F' [])) := by
  generalize (blks []) = R at hs ⊢
  unfold ref12_Word at hS
  refine fn_ok (vs := [.int .i64 op]) Tryd.func26 rfl 17 Tryd.ntmps26 (Nat.le_of_ble_eq_true rfl) ?_
  intro a hf
  replace hf := Fr.cast (L' := [(0, .int .i64 op)]) hf (by kernel_rfl)
  refine sq ?_
  refine reg ?_
  refine st tbOk 1 [0] hf rfl ?_
  clear hf a; intro a hf
  refine wpList_nil ?_
  refine sq ?_
  refine reg ?_
  refine bsR tbOk u53 i9 rfl (t := tS) (vs := [(0, strV []), (1, strV [110, 111, 112]), (2, strV [109, 111, 118]), (3, strV [97, 100, 100]), (4, strV [115, 117, 98]), (5, strV [109, 117, 108]), (6, strV [100, 105, 118]), (7, strV [114, 101, 109]), (8, strV [97, 110, 100]), (9, strV [111, 114]), (10, strV [120, 111, 114]), (11, strV [115, 104, 108]), (12, strV [115, 104, 114]), (13, strV [115, 97, 114]), (14, strV [115, 108, 116]), (15, strV [115, 108, 116, 117]), (16, strV [97, 100, 100, 105]), (17, strV [109, 111, 118, 105]), (18, strV [109, 111, 118, 104, 105]), (19, strV []), (20, strV [108, 100, 49]), (21, strV [108, 100, 50]), (22, strV [108, 100, 52]), (23, strV [108, 100, 56]), (24, strV [115, 116, 49]), (25, strV [115, 116, 50]), (26, strV [115, 116, 52]), (27, strV [115, 116, 56]), (28, strV []), (29, strV []), (30, strV [98, 101, 113]), (31, strV [98, 110, 101]), (32, strV [98, 108, 116]), (33, strV [98, 108, 116, 117]), (34, strV [106, 109, 112]), (35, strV [99, 97, 108, 108]), (36, strV [106, 114]), (37, strV [99, 97, 108, 108, 114]), (38, strV [108, 101, 97]), (39, strV [116, 108, 115]), (40, strV [115, 121, 115]), (41, strV [116, 114, 97, 112])]) (cells := #[strV [], strV [110, 111, 112], strV [109, 111, 118], strV [97, 100, 100], strV [115, 117, 98], strV [109, 117, 108], strV [100, 105, 118], strV [114, 101, 109], strV [97, 110, 100], strV [111, 114], strV [120, 111, 114], strV [115, 104, 108], strV [115, 104, 114], strV [115, 97, 114], strV [115, 108, 116], strV [115, 108, 116, 117], strV [97, 100, 100, 105], strV [109, 111, 118, 105], strV [109, 111, 118, 104, 105], strV [], strV [108, 100, 49], strV [108, 100, 50], strV [108, 100, 52], strV [108, 100, 56], strV [115, 116, 49], strV [115, 116, 50], strV [115, 116, 52], strV [115, 116, 56], strV [], strV [], strV [98, 101, 113], strV [98, 110, 101], strV [98, 108, 116], strV [98, 108, 116, 117], strV [106, 109, 112], strV [99, 97, 108, 108], strV [106, 114], strV [99, 97, 108, 108, 114], strV [108, 101, 97], strV [116, 108, 115], strV [115, 121, 115], strV [116, 114, 97, 112]]) ([[], [110, 111, 112], [109, 111, 118], [97, 100, 100], [115, 117, 98], [109, 117, 108], [100, 105, 118], [114, 101, 109], [97, 110, 100], [111, 114], [120, 111, 114], [115, 104, 108], [115, 104, 114], [115, 97, 114], [115, 108, 116], [115, 108, 116, 117], [97, 100, 100, 105], [109, 111, 118, 105], [109, 111, 118, 104, 105], [], [108, 100, 49], [108, 100, 50], [108, 100, 52], [108, 100, 56], [115, 116, 49], [115, 116, 50], [115, 116, 52], [115, 116, 56], [], [], [98, 101, 113], [98, 110, 101], [98, 108, 116], [98, 108, 116, 117], [106, 109, 112], [99, 97, 108, 108], [106, 114], [99, 97, 108, 108, 114], [108, 101, 97], [116, 108, 115], [115, 121, 115], [116, 114, 97, 112]] : List (List UInt8)) hs.le hf (by kernel_rfl) (by kernel_rfl) (by kernel_rfl) rfl (by kernel_rfl) (reps_flat _) rfl ?_
  clear hf; clear a; intro w1 a ho hx hf
  replace hs := hs.newRow ho hx
  clear ho hx
  replace hf := hf.keep (ks := [0, 4]) rfl
  refine st tbOk 1 [0, 3] hf rfl ?_
  clear hf a; intro a hf
  refine wpList_nil ?_
  refine sq ?_
  refine sq ?_
  refine ctj (fun (s1 : Bool) (a : Act) (w' : World) => ∃ (F1 : SH), Sep w F R w' F1 [.row 9 tS (.slice (some ⟨w.heap.size, 0, none⟩) ([[], [110, 111, 112], [109, 111, 118], [97, 100, 100], [115, 117, 98], [109, 117, 108], [100, 105, 118], [114, 101, 109], [97, 110, 100], [111, 114], [120, 111, 114], [115, 104, 108], [115, 104, 114], [115, 97, 114], [115, 108, 116], [115, 108, 116, 117], [97, 100, 100, 105], [109, 111, 118, 105], [109, 111, 118, 104, 105], [], [108, 100, 49], [108, 100, 50], [108, 100, 52], [108, 100, 56], [115, 116, 49], [115, 116, 50], [115, 116, 52], [115, 116, 56], [], [], [98, 101, 113], [98, 110, 101], [98, 108, 116], [98, 108, 116, 117], [106, 109, 112], [99, 97, 108, 108], [106, 114], [99, 97, 108, 108, 114], [108, 101, 97], [116, 108, 115], [115, 121, 115], [116, 114, 97, 112]] : List (List UInt8)).length ([[], [110, 111, 112], [109, 111, 118], [97, 100, 100], [115, 117, 98], [109, 117, 108], [100, 105, 118], [114, 101, 109], [97, 110, 100], [111, 114], [120, 111, 114], [115, 104, 108], [115, 104, 114], [115, 97, 114], [115, 108, 116], [115, 108, 116, 117], [97, 100, 100, 105], [109, 111, 118, 105], [109, 111, 118, 104, 105], [], [108, 100, 49], [108, 100, 50], [108, 100, 52], [108, 100, 56], [115, 116, 49], [115, 116, 50], [115, 116, 52], [115, 116, 56], [], [], [98, 101, 113], [98, 110, 101], [98, 108, 116], [98, 108, 116, 117], [106, 109, 112], [99, 97, 108, 108], [106, 114], [99, 97, 108, 108, 114], [108, 101, 97], [116, 108, 115], [115, 121, 115], [116, 114, 97, 112]] : List (List UInt8)).length) ([[], [110, 111, 112], [109, 111, 118], [97, 100, 100], [115, 117, 98], [109, 117, 108], [100, 105, 118], [114, 101, 109], [97, 110, 100], [111, 114], [120, 111, 114], [115, 104, 108], [115, 104, 114], [115, 97, 114], [115, 108, 116], [115, 108, 116, 117], [97, 100, 100, 105], [109, 111, 118, 105], [109, 111, 118, 104, 105], [], [108, 100, 49], [108, 100, 50], [108, 100, 52], [108, 100, 56], [115, 116, 49], [115, 116, 50], [115, 116, 52], [115, 116, 56], [], [], [98, 101, 113], [98, 110, 101], [98, 108, 116], [98, 108, 116, 117], [106, 109, 112], [99, 97, 108, 108], [106, 114], [99, 97, 108, 108, 114], [108, 101, 97], [116, 108, 115], [115, 121, 115], [116, 114, 97, 112]] : List (List UInt8))] ∧ Fr 17 [(0, .int .i64 op), (3, .slice (some ⟨w.heap.size, 0, none⟩) ([[], [110, 111, 112], [109, 111, 118], [97, 100, 100], [115, 117, 98], [109, 117, 108], [100, 105, 118], [114, 101, 109], [97, 110, 100], [111, 114], [120, 111, 114], [115, 104, 108], [115, 104, 114], [115, 97, 114], [115, 108, 116], [115, 108, 116, 117], [97, 100, 100, 105], [109, 111, 118, 105], [109, 111, 118, 104, 105], [], [108, 100, 49], [108, 100, 50], [108, 100, 52], [108, 100, 56], [115, 116, 49], [115, 116, 50], [115, 116, 52], [115, 116, 56], [], [], [98, 101, 113], [98, 110, 101], [98, 108, 116], [98, 108, 116, 117], [106, 109, 112], [99, 97, 108, 108], [106, 114], [99, 97, 108, 108, 114], [108, 101, 97], [116, 108, 115], [115, 121, 115], [116, 114, 97, 112]] : List (List UInt8)).length ([[], [110, 111, 112], [109, 111, 118], [97, 100, 100], [115, 117, 98], [109, 117, 108], [100, 105, 118], [114, 101, 109], [97, 110, 100], [111, 114], [120, 111, 114], [115, 104, 108], [115, 104, 114], [115, 97, 114], [115, 108, 116], [115, 108, 116, 117], [97, 100, 100, 105], [109, 111, 118, 105], [109, 111, 118, 104, 105], [], [108, 100, 49], [108, 100, 50], [108, 100, 52], [108, 100, 56], [115, 116, 49], [115, 116, 50], [115, 116, 52], [115, 116, 56], [], [], [98, 101, 113], [98, 110, 101], [98, 108, 116], [98, 108, 116, 117], [106, 109, 112], [99, 97, 108, 108], [106, 114], [99, 97, 108, 108, 114], [108, 101, 97], [116, 108, 115], [115, 121, 115], [116, 114, 97, 112]] : List (List UInt8)).length), (12, .bool s1)] a) hS ?_ ?_
  · clear hS hf hs; clear a; intro s1 a w2 hM hS
    obtain ⟨F1, hs, hf⟩ := hM
    refine cnd (b := s1) hf (by kernel_rfl) (fun hb2 => ?_) (fun hb2 => ?_)
    · replace hS := of_t hb2 hS
      refine sq ?_
      refine reg ?_
      refine st tbOk 1 [2] hf rfl ?_
      clear hf a; intro a hf
      refine wpList_nil ?_
      have hr := Option.some.inj hS; subst hr
      refine wp_ret ?_
      exact ret_ok hf (vs := [strV []]) (by kernel_rfl) ⟨_, rfl, hs.sel [] rfl rfl⟩
    replace hS := of_f hb2 hS
    refine wp_skip ?_
    refine sq ?_
    refine reg ?_
    refine st tbOk 2 [13, 14] hf rfl ?_
    clear hf a; intro a hf
    have hT := of_gd hS; clear hS; obtain ⟨hc1, hS⟩ := hT
    refine ixR tbOk u53 i9 rfl rfl (hs.raW 0 rfl) (k := .i64) (n := op) hc1 hf (by kernel_rfl) (by kernel_rfl) (by kernel_rfl) (by kernel_rfl) ?_
    clear hf; clear a; intro pb1 po1 c1 a hp1 hr1 hf
    obtain rfl : c1 = [strV (gt ([[], [110, 111, 112], [109, 111, 118], [97, 100, 100], [115, 117, 98], [109, 117, 108], [100, 105, 118], [114, 101, 109], [97, 110, 100], [111, 114], [120, 111, 114], [115, 104, 108], [115, 104, 114], [115, 97, 114], [115, 108, 116], [115, 108, 116, 117], [97, 100, 100, 105], [109, 111, 118, 105], [109, 111, 118, 104, 105], [], [108, 100, 49], [108, 100, 50], [108, 100, 52], [108, 100, 56], [115, 116, 49], [115, 116, 50], [115, 116, 52], [115, 116, 56], [], [], [98, 101, 113], [98, 110, 101], [98, 108, 116], [98, 108, 116, 117], [106, 109, 112], [99, 97, 108, 108], [106, 114], [99, 97, 108, 108, 114], [108, 101, 97], [116, 108, 115], [115, 121, 115], [116, 114, 97, 112]] : List (List UInt8)) op)] := hr1
    replace hs := hs.sel [] rfl rfl
    replace hf := hf.keep (ks := [15]) rfl
    refine ldC tbOk (T := 9) hp1 (LeH.refl _) 0 (strV (gt ([[], [110, 111, 112], [109, 111, 118], [97, 100, 100], [115, 117, 98], [109, 117, 108], [100, 105, 118], [114, 101, 109], [97, 110, 100], [111, 114], [120, 111, 114], [115, 104, 108], [115, 104, 114], [115, 97, 114], [115, 108, 116], [115, 108, 116, 117], [97, 100, 100, 105], [109, 111, 118, 105], [109, 111, 118, 104, 105], [], [108, 100, 49], [108, 100, 50], [108, 100, 52], [108, 100, 56], [115, 116, 49], [115, 116, 50], [115, 116, 52], [115, 116, 56], [], [], [98, 101, 113], [98, 110, 101], [98, 108, 116], [98, 108, 116, 117], [106, 109, 112], [99, 97, 108, 108], [106, 114], [99, 97, 108, 108, 114], [108, 101, 97], [116, 108, 115], [115, 121, 115], [116, 114, 97, 112]] : List (List UInt8)) op)) hf (by kernel_rfl) (by kernel_rfl) (by kernel_rfl) (by kernel_rfl) ?_
    clear hf a; intro a hf
    replace hf := hf.keep (ks := [16]) rfl
    refine st tbOk 1 [2] hf rfl ?_
    clear hf a; intro a hf
    refine wpList_nil ?_
    have hr := Option.some.inj hS; subst hr
    refine wp_ret ?_
    exact ret_ok hf (vs := [strV (gt ([[], [110, 111, 112], [109, 111, 118], [97, 100, 100], [115, 117, 98], [109, 117, 108], [100, 105, 118], [114, 101, 109], [97, 110, 100], [111, 114], [120, 111, 114], [115, 104, 108], [115, 104, 114], [115, 97, 114], [115, 108, 116], [115, 108, 116, 117], [97, 100, 100, 105], [109, 111, 118, 105], [109, 111, 118, 104, 105], [], [108, 100, 49], [108, 100, 50], [108, 100, 52], [108, 100, 56], [115, 116, 49], [115, 116, 50], [115, 116, 52], [115, 116, 56], [], [], [98, 101, 113], [98, 110, 101], [98, 108, 116], [98, 108, 116, 117], [106, 109, 112], [99, 97, 108, 108], [106, 114], [99, 97, 108, 108, 114], [108, 101, 97], [116, 108, 115], [115, 121, 115], [116, 114, 97, 112]] : List (List UInt8)) op)]) (by kernel_rfl) ⟨_, rfl, hs.sel [] rfl rfl⟩
  clear hS; intro KK1 k1 hK1 hS
  refine reg ?_
  refine st tbOk 3 [0, 3, 7] hf rfl ?_
  clear hf a; intro a hf
  rcases Bool.eq_false_or_eq_true (decide (op < 0)) with hb1 | hb1
  · replace hS := of_t hb1 hS
    replace hf := hf.castB hb1 (fun qb => [(0, .int .i64 op), (3, .slice (some ⟨w.heap.size, 0, none⟩) ([[], [110, 111, 112], [109, 111, 118], [97, 100, 100], [115, 117, 98], [109, 117, 108], [100, 105, 118], [114, 101, 109], [97, 110, 100], [111, 114], [120, 111, 114], [115, 104, 108], [115, 104, 114], [115, 97, 114], [115, 108, 116], [115, 108, 116, 117], [97, 100, 100, 105], [109, 111, 118, 105], [109, 111, 118, 104, 105], [], [108, 100, 49], [108, 100, 50], [108, 100, 52], [108, 100, 56], [115, 116, 49], [115, 116, 50], [115, 116, 52], [115, 116, 56], [], [], [98, 101, 113], [98, 110, 101], [98, 108, 116], [98, 108, 116, 117], [106, 109, 112], [99, 97, 108, 108], [106, 114], [99, 97, 108, 108, 114], [108, 101, 97], [116, 108, 115], [115, 121, 115], [116, 114, 97, 112]] : List (List UInt8)).length ([[], [110, 111, 112], [109, 111, 118], [97, 100, 100], [115, 117, 98], [109, 117, 108], [100, 105, 118], [114, 101, 109], [97, 110, 100], [111, 114], [120, 111, 114], [115, 104, 108], [115, 104, 114], [115, 97, 114], [115, 108, 116], [115, 108, 116, 117], [97, 100, 100, 105], [109, 111, 118, 105], [109, 111, 118, 104, 105], [], [108, 100, 49], [108, 100, 50], [108, 100, 52], [108, 100, 56], [115, 116, 49], [115, 116, 50], [115, 116, 52], [115, 116, 56], [], [], [98, 101, 113], [98, 110, 101], [98, 108, 116], [98, 108, 116, 117], [106, 109, 112], [99, 97, 108, 108], [106, 114], [99, 97, 108, 108, 114], [108, 101, 97], [116, 108, 115], [115, 121, 115], [116, 114, 97, 112]] : List (List UInt8)).length), (7, .bool qb)]) (by kernel_rfl)
    refine st tbOk 5 [0, 3, 12] hf rfl ?_
    clear hf a; intro a hf
    refine wpList_nil ?_
    exact hK1 true _ _ ⟨_, hs.sel [0] rfl rfl, hf.keep (ks := [0, 3, 12]) (by kernel_rfl)⟩ hS
  replace hS := of_f hb1 hS
  replace hf := hf.castB hb1 (fun qb => [(0, .int .i64 op), (3, .slice (some ⟨w.heap.size, 0, none⟩) ([[], [110, 111, 112], [109, 111, 118], [97, 100, 100], [115, 117, 98], [109, 117, 108], [100, 105, 118], [114, 101, 109], [97, 110, 100], [111, 114], [120, 111, 114], [115, 104, 108], [115, 104, 114], [115, 97, 114], [115, 108, 116], [115, 108, 116, 117], [97, 100, 100, 105], [109, 111, 118, 105], [109, 111, 118, 104, 105], [], [108, 100, 49], [108, 100, 50], [108, 100, 52], [108, 100, 56], [115, 116, 49], [115, 116, 50], [115, 116, 52], [115, 116, 56], [], [], [98, 101, 113], [98, 110, 101], [98, 108, 116], [98, 108, 116, 117], [106, 109, 112], [99, 97, 108, 108], [106, 114], [99, 97, 108, 108, 114], [108, 101, 97], [116, 108, 115], [115, 121, 115], [116, 114, 97, 112]] : List (List UInt8)).length ([[], [110, 111, 112], [109, 111, 118], [97, 100, 100], [115, 117, 98], [109, 117, 108], [100, 105, 118], [114, 101, 109], [97, 110, 100], [111, 114], [120, 111, 114], [115, 104, 108], [115, 104, 114], [115, 97, 114], [115, 108, 116], [115, 108, 116, 117], [97, 100, 100, 105], [109, 111, 118, 105], [109, 111, 118, 104, 105], [], [108, 100, 49], [108, 100, 50], [108, 100, 52], [108, 100, 56], [115, 116, 49], [115, 116, 50], [115, 116, 52], [115, 116, 56], [], [], [98, 101, 113], [98, 110, 101], [98, 108, 116], [98, 108, 116, 117], [106, 109, 112], [99, 97, 108, 108], [106, 114], [99, 97, 108, 108, 114], [108, 101, 97], [116, 108, 115], [115, 121, 115], [116, 114, 97, 112]] : List (List UInt8)).length), (7, .bool qb)]) (by kernel_rfl)
  refine st tbOk 5 [0, 3, 12] hf rfl ?_
  clear hf a; intro a hf
  refine wpList_nil ?_
  exact hK1 (decide (op ≥ ((([[], [110, 111, 112], [109, 111, 118], [97, 100, 100], [115, 117, 98], [109, 117, 108], [100, 105, 118], [114, 101, 109], [97, 110, 100], [111, 114], [120, 111, 114], [115, 104, 108], [115, 104, 114], [115, 97, 114], [115, 108, 116], [115, 108, 116, 117], [97, 100, 100, 105], [109, 111, 118, 105], [109, 111, 118, 104, 105], [], [108, 100, 49], [108, 100, 50], [108, 100, 52], [108, 100, 56], [115, 116, 49], [115, 116, 50], [115, 116, 52], [115, 116, 56], [], [], [98, 101, 113], [98, 110, 101], [98, 108, 116], [98, 108, 116, 117], [106, 109, 112], [99, 97, 108, 108], [106, 114], [99, 97, 108, 108, 114], [108, 101, 97], [116, 108, 115], [115, 121, 115], [116, 114, 97, 112]] : List (List UInt8)).length : Nat) : Int))) _ _ ⟨_, hs.sel [0] rfl rfl, hf.keep (ks := [0, 3, 12]) (by kernel_rfl)⟩ hS

set_option maxHeartbeats 4000000 in
theorem ref12_has_ok {w : World} {F : SH} {op : Int}  (hs : Sep w F (blks []) w F []) {r : Int} (hS : ref12_has op = some r) :
    Calls Tryd.prog 27 [.int .i64 op].toArray w (Gives (fun u w' => ∃ (F' : SH), u = .int .i64 r ∧ Sep w F (blks []) w' F' [])) := by
  generalize (blks []) = R at hs ⊢
  unfold ref12_has at hS
  refine fn_ok (vs := [.int .i64 op]) Tryd.func27 rfl 57 Tryd.ntmps27 (Nat.le_of_ble_eq_true rfl) ?_
  intro a hf
  replace hf := Fr.cast (L' := [(0, .int .i64 op)]) hf (by kernel_rfl)
  refine sq ?_
  refine reg ?_
  refine st tbOk 1 [0] hf rfl ?_
  clear hf a; intro a hf
  refine wpList_nil ?_
  refine sq ?_
  refine blk ?_
  refine sq ?_
  refine ctj (fun (s1 : Bool) (a : Act) (w' : World) => ∃ (F1 : SH), Sep w F R w' F1 [] ∧ Fr 57 [(0, .int .i64 op), (3, .bool s1)] a) hS ?_ ?_
  rotate_left
  · clear hS; intro KK1 k1 hK1 hS
    refine reg ?_
    refine st tbOk 3 [0, 6] hf rfl ?_
    clear hf a; intro a hf
    rcases Bool.eq_false_or_eq_true (op == 1) with hb1 | hb1
    · replace hS := of_t hb1 hS
      replace hf := hf.castB hb1 (fun qb => [(0, .int .i64 op), (6, .bool qb)]) (by kernel_rfl)
      refine st tbOk 4 [0, 3] hf rfl ?_
      clear hf a; intro a hf
      refine wpList_nil ?_
      exact hK1 true _ _ ⟨_, hs.sel [] rfl rfl, hf.keep (ks := [0, 3]) (by kernel_rfl)⟩ hS
    replace hS := of_f hb1 hS
    replace hf := hf.castB hb1 (fun qb => [(0, .int .i64 op), (6, .bool qb)]) (by kernel_rfl)
    refine st tbOk 4 [0, 3] hf rfl ?_
    clear hf a; intro a hf
    refine wpList_nil ?_
    exact hK1 (op == 40) _ _ ⟨_, hs.sel [] rfl rfl, hf.keep (ks := [0, 3]) (by kernel_rfl)⟩ hS
  clear hS hf hs; clear a; intro s1 a w1 hM hS
  obtain ⟨F1, hs, hf⟩ := hM
  refine cnd (b := s1) hf (by kernel_rfl) (fun hb2 => ?_) (fun hb2 => ?_)
  · replace hS := of_t hb2 hS
    refine sq ?_
    refine reg ?_
    refine st tbOk 1 [2] hf rfl ?_
    clear hf a; intro a hf
    refine wpList_nil ?_
    have hr := Option.some.inj hS; subst hr
    refine wp_ret ?_
    exact ret_ok hf (vs := [.int .i64 0]) (by kernel_rfl) ⟨_, rfl, hs.sel [] rfl rfl⟩
  replace hS := of_f hb2 hS
  refine sq ?_
  refine ctj (fun (s2 : Bool) (a : Act) (w' : World) => ∃ (F2 : SH), Sep w F R w' F2 [] ∧ Fr 57 [(0, .int .i64 op), (10, .bool s2)] a) hS ?_ ?_
  rotate_left
  · clear hS; intro KK2 k2 hK2 hS
    refine reg ?_
    refine st tbOk 3 [0, 13] hf rfl ?_
    clear hf a; intro a hf
    rcases Bool.eq_false_or_eq_true (op == 2) with hb3 | hb3
    · replace hS := of_t hb3 hS
      replace hf := hf.castB hb3 (fun qb => [(0, .int .i64 op), (13, .bool qb)]) (by kernel_rfl)
      refine st tbOk 4 [0, 10] hf rfl ?_
      clear hf a; intro a hf
      refine wpList_nil ?_
      exact hK2 true _ _ ⟨_, hs.sel [] rfl rfl, hf.keep (ks := [0, 10]) (by kernel_rfl)⟩ hS
    replace hS := of_f hb3 hS
    replace hf := hf.castB hb3 (fun qb => [(0, .int .i64 op), (13, .bool qb)]) (by kernel_rfl)
    refine st tbOk 4 [0, 10] hf rfl ?_
    clear hf a; intro a hf
    refine wpList_nil ?_
    exact hK2 (op == 37) _ _ ⟨_, hs.sel [] rfl rfl, hf.keep (ks := [0, 10]) (by kernel_rfl)⟩ hS
  clear hS hf hs; clear a; intro s2 a w2 hM hS
  obtain ⟨F2, hs, hf⟩ := hM
  refine cnd (b := s2) hf (by kernel_rfl) (fun hb4 => ?_) (fun hb4 => ?_)
  · replace hS := of_t hb4 hS
    refine sq ?_
    refine reg ?_
    refine st tbOk 1 [2] hf rfl ?_
    clear hf a; intro a hf
    refine wpList_nil ?_
    have hr := Option.some.inj hS; subst hr
    refine wp_ret ?_
    exact ret_ok hf (vs := [.int .i64 3]) (by kernel_rfl) ⟨_, rfl, hs.sel [] rfl rfl⟩
  replace hS := of_f hb4 hS
  refine sq ?_
  refine reg ?_
  refine st tbOk 3 [0, 17] hf rfl ?_
  clear hf a; intro a hf
  refine wpList_nil ?_
  refine cnd (b := decide (op ≤ 15)) hf (by kernel_rfl) (fun hb5 => ?_) (fun hb5 => ?_)
  · replace hS := of_t hb5 hS
    refine sq ?_
    refine reg ?_
    refine st tbOk 1 [2] hf rfl ?_
    clear hf a; intro a hf
    refine wpList_nil ?_
    have hr := Option.some.inj hS; subst hr
    refine wp_ret ?_
    exact ret_ok hf (vs := [.int .i64 7]) (by kernel_rfl) ⟨_, rfl, hs.sel [] rfl rfl⟩
  replace hS := of_f hb5 hS
  refine sq ?_
  refine ctj (fun (s3 : Bool) (a : Act) (w' : World) => ∃ (F3 : SH), Sep w F R w' F3 [] ∧ Fr 57 [(0, .int .i64 op), (20, .bool s3)] a) hS ?_ ?_
  rotate_left
  · clear hS; intro KK3 k3 hK3 hS
    refine reg ?_
    refine st tbOk 3 [0, 23] hf rfl ?_
    clear hf a; intro a hf
    rcases Bool.eq_false_or_eq_true (op == 16) with hb6 | hb6
    · replace hS := of_t hb6 hS
      replace hf := hf.castB hb6 (fun qb => [(0, .int .i64 op), (23, .bool qb)]) (by kernel_rfl)
      refine st tbOk 5 [0, 23, 26, 28] hf rfl ?_
      clear hf a; intro a hf
      refine st tbOk 3 [0, 20] hf rfl ?_
      clear hf a; intro a hf
      refine wpList_nil ?_
      exact hK3 true _ _ ⟨_, hs.sel [] rfl rfl, hf.keep (ks := [0, 20]) (by kernel_rfl)⟩ hS
    replace hS := of_f hb6 hS
    replace hf := hf.castB hb6 (fun qb => [(0, .int .i64 op), (23, .bool qb)]) (by kernel_rfl)
    refine st tbOk 3 [0, 23, 26] hf rfl ?_
    clear hf a; intro a hf
    rcases Bool.eq_false_or_eq_true (decide (op ≥ 20)) with hb7 | hb7
    rotate_left
    · replace hS := of_f hb7 hS
      replace hf := hf.castB hb7 (fun qb => [(0, .int .i64 op), (23, .bool false), (26, .bool qb)]) (by kernel_rfl)
      refine st tbOk 5 [0, 20] hf rfl ?_
      clear hf a; intro a hf
      refine wpList_nil ?_
      exact hK3 false _ _ ⟨_, hs.sel [] rfl rfl, hf.keep (ks := [0, 20]) (by kernel_rfl)⟩ hS
    replace hS := of_t hb7 hS
    replace hf := hf.castB hb7 (fun qb => [(0, .int .i64 op), (23, .bool false), (26, .bool qb)]) (by kernel_rfl)
    refine st tbOk 5 [0, 20] hf rfl ?_
    clear hf a; intro a hf
    refine wpList_nil ?_
    exact hK3 (decide (op ≤ 33)) _ _ ⟨_, hs.sel [] rfl rfl, hf.keep (ks := [0, 20]) (by kernel_rfl)⟩ hS
  clear hS hf hs; clear a; intro s3 a w3 hM hS
  obtain ⟨F3, hs, hf⟩ := hM
  refine cnd (b := s3) hf (by kernel_rfl) (fun hb8 => ?_) (fun hb8 => ?_)
  · replace hS := of_t hb8 hS
    refine sq ?_
    refine reg ?_
    refine st tbOk 1 [2] hf rfl ?_
    clear hf a; intro a hf
    refine wpList_nil ?_
    have hr := Option.some.inj hS; subst hr
    refine wp_ret ?_
    exact ret_ok hf (vs := [.int .i64 11]) (by kernel_rfl) ⟨_, rfl, hs.sel [] rfl rfl⟩
  replace hS := of_f hb8 hS
  refine sq ?_
  refine ctj (fun (s4 : Bool) (a : Act) (w' : World) => ∃ (F4 : SH), Sep w F R w' F4 [] ∧ Fr 57 [(0, .int .i64 op), (31, .bool s4)] a) hS ?_ ?_
  · clear hS hf hs; clear a; intro s4 a w4 hM hS
    obtain ⟨F4, hs, hf⟩ := hM
    refine cnd (b := s4) hf (by kernel_rfl) (fun hb13 => ?_) (fun hb13 => ?_)
    · replace hS := of_t hb13 hS
      refine sq ?_
      refine reg ?_
      refine st tbOk 1 [2] hf rfl ?_
      clear hf a; intro a hf
      refine wpList_nil ?_
      have hr := Option.some.inj hS; subst hr
      refine wp_ret ?_
      exact ret_ok hf (vs := [.int .i64 9]) (by kernel_rfl) ⟨_, rfl, hs.sel [] rfl rfl⟩
    replace hS := of_f hb13 hS
    refine sq ?_
    refine ctj (fun (s5 : Bool) (a : Act) (w' : World) => ∃ (F5 : SH), Sep w F R w' F5 [] ∧ Fr 57 [(50, .bool s5)] a) hS ?_ ?_
    · clear hS hf hs; clear a; intro s5 a w5 hM hS
      obtain ⟨F5, hs, hf⟩ := hM
      refine cnd (b := s5) hf (by kernel_rfl) (fun hb15 => ?_) (fun hb15 => ?_)
      · replace hS := of_t hb15 hS
        refine sq ?_
        refine reg ?_
        refine st tbOk 1 [2] hf rfl ?_
        clear hf a; intro a hf
        refine wpList_nil ?_
        have hr := Option.some.inj hS; subst hr
        refine wp_ret ?_
        exact ret_ok hf (vs := [.int .i64 8]) (by kernel_rfl) ⟨_, rfl, hs.sel [] rfl rfl⟩
      replace hS := of_f hb15 hS
      refine wp_skip ?_
      refine sq ?_
      refine reg ?_
      refine st tbOk 1 [2] hf rfl ?_
      clear hf a; intro a hf
      refine wpList_nil ?_
      have hr := Option.some.inj hS; subst hr
      refine wp_ret ?_
      exact ret_ok hf (vs := [.int .i64 2]) (by kernel_rfl) ⟨_, rfl, hs.sel [] rfl rfl⟩
    clear hS; intro KK5 k5 hK5 hS
    refine reg ?_
    refine st tbOk 3 [0, 53] hf rfl ?_
    clear hf a; intro a hf
    rcases Bool.eq_false_or_eq_true (op == 34) with hb14 | hb14
    · replace hS := of_t hb14 hS
      replace hf := hf.castB hb14 (fun qb => [(0, .int .i64 op), (53, .bool qb)]) (by kernel_rfl)
      refine st tbOk 4 [50] hf rfl ?_
      clear hf a; intro a hf
      refine wpList_nil ?_
      exact hK5 true _ _ ⟨_, hs.sel [] rfl rfl, hf.keep (ks := [50]) (by kernel_rfl)⟩ hS
    replace hS := of_f hb14 hS
    replace hf := hf.castB hb14 (fun qb => [(0, .int .i64 op), (53, .bool qb)]) (by kernel_rfl)
    refine st tbOk 4 [50] hf rfl ?_
    clear hf a; intro a hf
    refine wpList_nil ?_
    exact hK5 (op == 41) _ _ ⟨_, hs.sel [] rfl rfl, hf.keep (ks := [50]) (by kernel_rfl)⟩ hS
  clear hS; intro KK4 k4 hK4 hS
  refine reg ?_
  refine st tbOk 3 [0, 34] hf rfl ?_
  clear hf a; intro a hf
  rcases Bool.eq_false_or_eq_true (op == 17) with hb9 | hb9
  · replace hS := of_t hb9 hS
    replace hf := hf.castB hb9 (fun qb => [(0, .int .i64 op), (34, .bool qb)]) (by kernel_rfl)
    refine st tbOk 5 [0, 38, 39] hf rfl ?_
    clear hf a; intro a hf
    refine st tbOk 5 [0, 42, 44] hf rfl ?_
    clear hf a; intro a hf
    refine st tbOk 5 [0, 49] hf rfl ?_
    clear hf a; intro a hf
    refine st tbOk 1 [0, 31] hf rfl ?_
    clear hf a; intro a hf
    refine wpList_nil ?_
    exact hK4 true _ _ ⟨_, hs.sel [] rfl rfl, hf.keep (ks := [0, 31]) (by kernel_rfl)⟩ hS
  replace hS := of_f hb9 hS
  replace hf := hf.castB hb9 (fun qb => [(0, .int .i64 op), (34, .bool qb)]) (by kernel_rfl)
  refine st tbOk 4 [0, 38] hf rfl ?_
  clear hf a; intro a hf
  rcases Bool.eq_false_or_eq_true (op == 18) with hb10 | hb10
  · replace hS := of_t hb10 hS
    replace hf := hf.castB hb10 (fun qb => [(0, .int .i64 op), (38, .bool qb)]) (by kernel_rfl)
    refine st tbOk 5 [0, 42, 43] hf rfl ?_
    clear hf a; intro a hf
    refine st tbOk 5 [0, 46, 48] hf rfl ?_
    clear hf a; intro a hf
    refine st tbOk 2 [0, 31] hf rfl ?_
    clear hf a; intro a hf
    refine wpList_nil ?_
    exact hK4 true _ _ ⟨_, hs.sel [] rfl rfl, hf.keep (ks := [0, 31]) (by kernel_rfl)⟩ hS
  replace hS := of_f hb10 hS
  replace hf := hf.castB hb10 (fun qb => [(0, .int .i64 op), (38, .bool qb)]) (by kernel_rfl)
  refine st tbOk 4 [0, 42] hf rfl ?_
  clear hf a; intro a hf
  rcases Bool.eq_false_or_eq_true (op == 35) with hb11 | hb11
  · replace hS := of_t hb11 hS
    replace hf := hf.castB hb11 (fun qb => [(0, .int .i64 op), (42, .bool qb)]) (by kernel_rfl)
    refine st tbOk 5 [0, 46, 47] hf rfl ?_
    clear hf a; intro a hf
    refine st tbOk 3 [0, 31] hf rfl ?_
    clear hf a; intro a hf
    refine wpList_nil ?_
    exact hK4 true _ _ ⟨_, hs.sel [] rfl rfl, hf.keep (ks := [0, 31]) (by kernel_rfl)⟩ hS
  replace hS := of_f hb11 hS
  replace hf := hf.castB hb11 (fun qb => [(0, .int .i64 op), (42, .bool qb)]) (by kernel_rfl)
  refine st tbOk 4 [0, 46] hf rfl ?_
  clear hf a; intro a hf
  rcases Bool.eq_false_or_eq_true (op == 38) with hb12 | hb12
  · replace hS := of_t hb12 hS
    replace hf := hf.castB hb12 (fun qb => [(0, .int .i64 op), (46, .bool qb)]) (by kernel_rfl)
    refine st tbOk 4 [0, 31] hf rfl ?_
    clear hf a; intro a hf
    refine wpList_nil ?_
    exact hK4 true _ _ ⟨_, hs.sel [] rfl rfl, hf.keep (ks := [0, 31]) (by kernel_rfl)⟩ hS
  replace hS := of_f hb12 hS
  replace hf := hf.castB hb12 (fun qb => [(0, .int .i64 op), (46, .bool qb)]) (by kernel_rfl)
  refine st tbOk 4 [0, 31] hf rfl ?_
  clear hf a; intro a hf
  refine wpList_nil ?_
  exact hK4 (op == 39) _ _ ⟨_, hs.sel [] rfl rfl, hf.keep (ks := [0, 31]) (by kernel_rfl)⟩ hS

set_option maxHeartbeats 4000000 in
theorem ref12_May_ok {w : World} {F : SH} {i : Int × Int × Int × Int × Int}  (hs : Sep w F (blks []) w F []) {r : Bool} (hS : ref12_May i = some r) :
    Calls Tryd.prog 23 [.agg #[.int .i64 i.1, .int .i64 i.2.1, .int .i64 i.2.2.1, .int .i64 i.2.2.2.1, .int .i64 i.2.2.2.2]].toArray w (Gives (fun u w' => ∃ (F' : SH), u = .bool r ∧ Sep w F (blks []) w' F' [])) := by
  generalize (blks []) = R at hs ⊢
  unfold ref12_May at hS
  refine fn_ok (vs := [.agg #[.int .i64 i.1, .int .i64 i.2.1, .int .i64 i.2.2.1, .int .i64 i.2.2.2.1, .int .i64 i.2.2.2.2]]) Tryd.func23 rfl 64 Tryd.ntmps23 (Nat.le_of_ble_eq_true rfl) ?_
  intro a hf
  replace hf := Fr.cast (L' := [(0, .agg #[.int .i64 i.1, .int .i64 i.2.1, .int .i64 i.2.2.1, .int .i64 i.2.2.2.1, .int .i64 i.2.2.2.2])]) hf (by kernel_rfl)
  refine sq ?_
  refine reg ?_
  refine bx (T := 31) [.int .i64 i.1, .int .i64 i.2.1, .int .i64 i.2.2.1, .int .i64 i.2.2.2.1, .int .i64 i.2.2.2.2] (v := .agg #[.int .i64 i.1, .int .i64 i.2.1, .int .i64 i.2.2.1, .int .i64 i.2.2.2.1, .int .i64 i.2.2.2.2]) rfl (by kernel_rfl) hf (by kernel_rfl) (by kernel_rfl) (by kernel_rfl) ?_
  clear hf; clear a; intro w1 a hb hx _ hf
  replace hs := hs.newBox hb hx
  clear hb hx
  replace hf := hf.keep (ks := [1]) rfl
  refine st tbOk 1 [1] hf rfl ?_
  clear hf a; intro a hf
  refine wpList_nil ?_
  refine sq ?_
  refine sq ?_
  refine reg ?_
  refine st tbOk 1 [1, 6] hf rfl ?_
  clear hf a; intro a hf
  refine ldC tbOk (T := 3) (hs.cbx 0 rfl) (LeH.refl _) 0 (.int .i64 i.1) hf (by kernel_rfl) (by kernel_rfl) (by kernel_rfl) (by kernel_rfl) ?_
  clear hf a; intro a hf
  replace hf := hf.keep (ks := [1, 7]) rfl
  have hT := of_bd hS; clear hS; obtain ⟨z1, hz1, hS⟩ := hT
  refine clV ent26 (vs := [.int .i64 i.1]) (caps := []) hf (by kernel_rfl) (by kernel_rfl) (by kernel_rfl) (by kernel_rfl) (ref12_Word_ok (op := i.1) (hs.enter [] rfl rfl) hz1) ?_
  clear hf; clear a; intro v w2 a hT hf; obtain ⟨F1, rfl, hr⟩ := hT
  replace hs := (hs.back [] [0] rfl rfl rfl rfl hr).nf rfl
  clear hr
  replace hf := hf.keep (ks := [1, 8]) rfl
  refine st tbOk 1 [1, 9] hf rfl ?_
  clear hf a; intro a hf
  refine wpList_nil ?_
  refine cnd (b := z1 == []) hf (by kernel_rfl) (fun hb1 => ?_) (fun hb1 => ?_)
  · replace hS := of_t hb1 hS
    refine sq ?_
    refine reg ?_
    refine st tbOk 1 [2] hf rfl ?_
    clear hf a; intro a hf
    refine wpList_nil ?_
    have hr := Option.some.inj hS; subst hr
    refine wp_ret ?_
    exact ret_ok hf (vs := [.bool false]) (by kernel_rfl) ⟨_, rfl, hs.sel [] rfl rfl⟩
  replace hS := of_f hb1 hS
  refine wp_skip ?_
  refine sq ?_
  refine reg ?_
  refine st tbOk 1 [1, 10] hf rfl ?_
  clear hf a; intro a hf
  refine ldC tbOk (T := 3) (hs.cbx 0 rfl) (LeH.refl _) 1 (.int .i64 i.2.1) hf (by kernel_rfl) (by kernel_rfl) (by kernel_rfl) (by kernel_rfl) ?_
  clear hf a; intro a hf
  replace hf := hf.keep (ks := [1, 11]) rfl
  refine st tbOk 1 [1, 11, 12] hf rfl ?_
  clear hf a; intro a hf
  refine ldC tbOk (T := 3) (hs.cbx 0 rfl) (LeH.refl _) 2 (.int .i64 i.2.2.1) hf (by kernel_rfl) (by kernel_rfl) (by kernel_rfl) (by kernel_rfl) ?_
  clear hf a; intro a hf
  replace hf := hf.keep (ks := [1, 11, 13]) rfl
  refine st tbOk 1 [1, 11, 13, 14] hf rfl ?_
  clear hf a; intro a hf
  refine ldC tbOk (T := 3) (hs.cbx 0 rfl) (LeH.refl _) 3 (.int .i64 i.2.2.2.1) hf (by kernel_rfl) (by kernel_rfl) (by kernel_rfl) (by kernel_rfl) ?_
  clear hf a; intro a hf
  replace hf := hf.keep (ks := [1, 11, 13, 15]) rfl
  refine st tbOk 1 [1, 11, 13, 15, 16] hf rfl ?_
  clear hf a; intro a hf
  refine ldC tbOk (T := 2) (hs.cbx 0 rfl) (LeH.refl _) 4 (.int .i64 i.2.2.2.2) hf (by kernel_rfl) (by kernel_rfl) (by kernel_rfl) (by kernel_rfl) ?_
  clear hf a; intro a hf
  replace hf := hf.keep (ks := [1, 11, 13, 15, 17]) rfl
  refine bsR tbOk u63 i2 rfl (t := (tI .i64)) (vs := [(0, .int .i64 i.2.1), (1, .int .i64 i.2.2.1), (2, .int .i64 i.2.2.2.1), (3, .int .i64 i.2.2.2.2)]) (cells := #[.int .i64 i.2.1, .int .i64 i.2.2.1, .int .i64 i.2.2.2.1, .int .i64 i.2.2.2.2]) ([i.2.1, i.2.2.1, i.2.2.2.1, i.2.2.2.2] : List Int) hs.le hf (by kernel_rfl) (by kernel_rfl) (by kernel_rfl) rfl (by kernel_rfl) (reps_flat _) rfl ?_
  clear hf; clear a; intro w3 a ho hx hf
  replace hs := hs.newRow ho hx
  clear ho hx
  replace hf := hf.keep (ks := [1, 18]) rfl
  refine st tbOk 1 [1, 3] hf rfl ?_
  clear hf a; intro a hf
  refine wpList_nil ?_
  refine sq ?_
  refine reg ?_
  refine st tbOk 1 [1, 3, 19] hf rfl ?_
  clear hf a; intro a hf
  refine ldC tbOk (T := 3) (hs.cbx 1 rfl) (LeH.refl _) 0 (.int .i64 i.1) hf (by kernel_rfl) (by kernel_rfl) (by kernel_rfl) (by kernel_rfl) ?_
  clear hf a; intro a hf
  replace hf := hf.keep (ks := [1, 3, 20]) rfl
  have hT := of_bd hS; clear hS; obtain ⟨z2, hz2, hS⟩ := hT
  refine clV ent27 (vs := [.int .i64 i.1]) (caps := []) hf (by kernel_rfl) (by kernel_rfl) (by kernel_rfl) (by kernel_rfl) (ref12_has_ok (op := i.1) (hs.enter [] rfl rfl) hz2) ?_
  clear hf; clear a; intro v w4 a hT hf; obtain ⟨F2, rfl, hr⟩ := hT
  replace hs := (hs.back [] [0, 1] rfl rfl rfl rfl hr).nf rfl
  clear hr
  replace hf := hf.keep (ks := [1, 3, 21]) rfl
  refine st tbOk 1 [1, 3, 4] hf rfl ?_
  clear hf a; intro a hf
  refine wpList_nil ?_
  refine sq ?_
  refine sq ?_
  refine reg ?_
  refine st tbOk 1 [1, 3, 4, 5] hf rfl ?_
  clear hf a; intro a hf
  refine wpList_nil ?_
  refine ctj (fun (s1 : Unit) (a : Act) (w' : World) => ∃ (F3 : SH), Sep w F R w' F3 [.box w.heap.size 31 [.int .i64 i.1, .int .i64 i.2.1, .int .i64 i.2.2.1, .int .i64 i.2.2.2.1, .int .i64 i.2.2.2.2]] ∧ Fr 64 [(1, .pointer (some ⟨w.heap.size, 0, none⟩))] a) hS ?_ ?_
  · clear hS hf hs; clear a; intro s1 a w7 hM hS
    obtain ⟨F3, hs, hf⟩ := hM
    refine sq ?_
    refine ctj (fun (s4 : Bool) (a : Act) (w' : World) => ∃ (F6 : SH), Sep w F R w' F6 [] ∧ Fr 64 [(2, .bool s4)] a) hS ?_ ?_
    · clear hS hf hs; clear a; intro s4 a w8 hM hS
      obtain ⟨F6, hs, hf⟩ := hM
      have hr := Option.some.inj hS; subst hr
      refine wp_ret ?_
      exact ret_ok hf (vs := [.bool s4]) (by kernel_rfl) ⟨_, rfl, hs.sel [] rfl rfl⟩
    clear hS; intro KK4 k3 hK4 hS
    refine reg ?_
    refine st tbOk 1 [1, 56] hf rfl ?_
    clear hf a; intro a hf
    refine ldC tbOk (T := 2) (hs.cbx 0 rfl) (LeH.refl _) 4 (.int .i64 i.2.2.2.2) hf (by kernel_rfl) (by kernel_rfl) (by kernel_rfl) (by kernel_rfl) ?_
    clear hf a; intro a hf
    replace hf := hf.keep (ks := [1, 57]) rfl
    refine st tbOk 2 [1, 59] hf rfl ?_
    clear hf a; intro a hf
    rcases Bool.eq_false_or_eq_true (decide (i.2.2.2.2 ≥ (-2147483648))) with hb10 | hb10
    rotate_left
    · replace hS := of_f hb10 hS
      replace hf := hf.castB hb10 (fun qb => [(1, .pointer (some ⟨w.heap.size, 0, none⟩)), (59, .bool qb)]) (by kernel_rfl)
      refine st tbOk 5 [2] hf rfl ?_
      clear hf a; intro a hf
      refine wpList_nil ?_
      exact hK4 false _ _ ⟨_, hs.sel [] rfl rfl, hf.keep (ks := [2]) (by kernel_rfl)⟩ hS
    replace hS := of_t hb10 hS
    replace hf := hf.castB hb10 (fun qb => [(1, .pointer (some ⟨w.heap.size, 0, none⟩)), (59, .bool qb)]) (by kernel_rfl)
    refine st tbOk 1 [59, 60] hf rfl ?_
    clear hf a; intro a hf
    refine ldC tbOk (T := 2) (hs.cbx 0 rfl) (LeH.refl _) 4 (.int .i64 i.2.2.2.2) hf (by kernel_rfl) (by kernel_rfl) (by kernel_rfl) (by kernel_rfl) ?_
    clear hf a; intro a hf
    replace hs := hs.sel [] rfl rfl
    replace hf := hf.keep (ks := [59, 61]) rfl
    refine st tbOk 3 [2] hf rfl ?_
    clear hf a; intro a hf
    refine wpList_nil ?_
    exact hK4 (decide (i.2.2.2.2 ≤ 2147483647)) _ _ ⟨_, hs.sel [] rfl rfl, hf.keep (ks := [2]) (by kernel_rfl)⟩ hS
  clear hS; intro KK1 k1 hK1 hS
  refine blk ?_
  refine lp (st := (z2, 0)) (fun (s2 : Int × Int) (a : Act) (w' : World) => ∃ (F4 : SH), Sep w F R w' F4 [.row 2 (tI .i64) (.slice (some ⟨w2.heap.size, 0, none⟩) ([i.2.1, i.2.2.1, i.2.2.2.1, i.2.2.2.2] : List Int).length ([i.2.1, i.2.2.1, i.2.2.2.1, i.2.2.2.2] : List Int).length) ([i.2.1, i.2.2.1, i.2.2.2.1, i.2.2.2.2] : List Int), .box w.heap.size 31 [.int .i64 i.1, .int .i64 i.2.1, .int .i64 i.2.2.1, .int .i64 i.2.2.2.1, .int .i64 i.2.2.2.2]] ∧ Fr 64 [(1, .pointer (some ⟨w.heap.size, 0, none⟩)), (3, .slice (some ⟨w2.heap.size, 0, none⟩) ([i.2.1, i.2.2.1, i.2.2.2.1, i.2.2.2.2] : List Int).length ([i.2.1, i.2.2.1, i.2.2.2.1, i.2.2.2.2] : List Int).length), (4, .int .i64 s2.1), (5, .int .i64 s2.2)] a) ?_ ⟨_, hs.sel [0, 1] rfl rfl, hf.keep (ks := [1, 3, 4, 5]) (by kernel_rfl)⟩ hS
  clear hS hf hs; clear a
  intro rec1 KK2 hK2 s2 a w5 hM hS
  obtain ⟨F4, hs, hf⟩ := hM
  refine sq ?_
  refine sq ?_
  refine reg ?_
  refine st tbOk 2 [1, 3, 4, 5, 23] hf rfl ?_
  clear hf a; intro a hf
  refine wpList_nil ?_
  refine cnd (b := decide (s2.2 < 4)) hf (by kernel_rfl) (fun hb2 => ?_) (fun hb2 => ?_)
  rotate_left
  · replace hS := of_f hb2 hS
    refine wp_exit ?_
    exact hK1 () _ _ ⟨_, hs.sel [1] rfl rfl, hf.keep (ks := [1]) (by kernel_rfl)⟩ hS
  replace hS := of_t hb2 hS
  refine wp_skip ?_
  refine sq ?_
  refine blk ?_
  refine sq ?_
  refine sq ?_
  refine ctj (fun (s3 : Bool) (a : Act) (w' : World) => ∃ (F5 : SH), Sep w F R w' F5 [.row 2 (tI .i64) (.slice (some ⟨w2.heap.size, 0, none⟩) ([i.2.1, i.2.2.1, i.2.2.2.1, i.2.2.2.2] : List Int).length ([i.2.1, i.2.2.1, i.2.2.2.1, i.2.2.2.2] : List Int).length) ([i.2.1, i.2.2.1, i.2.2.2.1, i.2.2.2.2] : List Int), .box w.heap.size 31 [.int .i64 i.1, .int .i64 i.2.1, .int .i64 i.2.2.1, .int .i64 i.2.2.2.1, .int .i64 i.2.2.2.2]] ∧ Fr 64 [(1, .pointer (some ⟨w.heap.size, 0, none⟩)), (3, .slice (some ⟨w2.heap.size, 0, none⟩) ([i.2.1, i.2.2.1, i.2.2.2.1, i.2.2.2.2] : List Int).length ([i.2.1, i.2.2.1, i.2.2.2.1, i.2.2.2.2] : List Int).length), (4, .int .i64 s2.1), (5, .int .i64 s2.2), (53, .bool s3)] a) hS ?_ ?_
  · clear hS hf hs; clear a; intro s3 a w6 hM hS
    obtain ⟨F5, hs, hf⟩ := hM
    refine cnd (b := s3) hf (by kernel_rfl) (fun hb9 => ?_) (fun hb9 => ?_)
    · replace hS := of_t hb9 hS
      refine sq ?_
      refine reg ?_
      refine st tbOk 1 [2] hf rfl ?_
      clear hf a; intro a hf
      refine wpList_nil ?_
      have hr := Option.some.inj hS; subst hr
      refine wp_ret ?_
      exact ret_ok hf (vs := [.bool false]) (by kernel_rfl) ⟨_, rfl, hs.sel [] rfl rfl⟩
    replace hS := of_f hb9 hS
    refine wp_skip ?_
    refine reg ?_
    have hT := of_let hS; clear hS; obtain ⟨h_1, hl1, hS⟩ := hT
    refine st tbOk 3 [1, 3, 4, 5] (L' := [(1, .pointer (some ⟨w.heap.size, 0, none⟩)), (3, .slice (some ⟨w2.heap.size, 0, none⟩) ([i.2.1, i.2.2.1, i.2.2.2.1, i.2.2.2.2] : List Int).length ([i.2.1, i.2.2.1, i.2.2.2.1, i.2.2.2.2] : List Int).length), (4, .int .i64 h_1), (5, .int .i64 s2.2)]) hf (by subst hl1; kernel_rfl) ?_
    clear hf a; intro a hf
    refine wpList_nil ?_
    refine reg ?_
    have hT := of_let hS; clear hS; obtain ⟨k_1, hl2, hS⟩ := hT
    refine st tbOk 3 [1, 3, 4, 5] (L' := [(1, .pointer (some ⟨w.heap.size, 0, none⟩)), (3, .slice (some ⟨w2.heap.size, 0, none⟩) ([i.2.1, i.2.2.1, i.2.2.2.1, i.2.2.2.2] : List Int).length ([i.2.1, i.2.2.1, i.2.2.2.1, i.2.2.2.2] : List Int).length), (4, .int .i64 h_1), (5, .int .i64 k_1)]) hf (by subst hl2; kernel_rfl) ?_
    clear hf a; intro a hf
    refine wpList_nil ?_
    exact hK2 (h_1, k_1) _ _ ⟨_, hs.sel [0, 1] rfl rfl, hf.keep (ks := [1, 3, 4, 5]) (by kernel_rfl)⟩ hS
  clear hS; intro KK3 k2 hK3 hS
  refine reg ?_
  refine st tbOk 4 [1, 3, 4, 5, 29] hf rfl ?_
  clear hf a; intro a hf
  rcases Bool.eq_false_or_eq_true ((Int.tmod s2.1 2) == 0) with hb3 | hb3
  rotate_left
  · replace hS := of_f hb3 hS
    replace hf := hf.castB hb3 (fun qb => [(1, .pointer (some ⟨w.heap.size, 0, none⟩)), (3, .slice (some ⟨w2.heap.size, 0, none⟩) ([i.2.1, i.2.2.1, i.2.2.2.1, i.2.2.2.2] : List Int).length ([i.2.1, i.2.2.1, i.2.2.2.1, i.2.2.2.2] : List Int).length), (4, .int .i64 s2.1), (5, .int .i64 s2.2), (29, .bool qb)]) (by kernel_rfl)
    refine st tbOk 5 [1, 3, 4, 5, 29, 34] hf rfl ?_
    clear hf a; intro a hf
    refine st tbOk 5 [1, 3, 4, 5, 36, 39] hf rfl ?_
    clear hf a; intro a hf
    rcases Bool.eq_false_or_eq_true (decide (s2.2 < 3)) with hb7 | hb7
    rotate_left
    · replace hS := of_f hb7 hS
      replace hf := hf.castB hb7 (fun qb => [(1, .pointer (some ⟨w.heap.size, 0, none⟩)), (3, .slice (some ⟨w2.heap.size, 0, none⟩) ([i.2.1, i.2.2.1, i.2.2.2.1, i.2.2.2.2] : List Int).length ([i.2.1, i.2.2.1, i.2.2.2.1, i.2.2.2.2] : List Int).length), (4, .int .i64 s2.1), (5, .int .i64 s2.2), (36, .bool false), (39, .bool qb)]) (by kernel_rfl)
      refine st tbOk 5 [1, 3, 4, 5, 36, 39, 44] hf rfl ?_
      clear hf a; intro a hf
      refine st tbOk 5 [1, 3, 4, 5, 36, 39, 45, 49] hf rfl ?_
      clear hf a; intro a hf
      refine st tbOk 4 [1, 3, 4, 5, 53] hf rfl ?_
      clear hf a; intro a hf
      refine wpList_nil ?_
      exact hK3 false _ _ ⟨_, hs.sel [0, 1] rfl rfl, hf.keep (ks := [1, 3, 4, 5, 53]) (by kernel_rfl)⟩ hS
    replace hS := of_t hb7 hS
    replace hf := hf.castB hb7 (fun qb => [(1, .pointer (some ⟨w.heap.size, 0, none⟩)), (3, .slice (some ⟨w2.heap.size, 0, none⟩) ([i.2.1, i.2.2.1, i.2.2.2.1, i.2.2.2.2] : List Int).length ([i.2.1, i.2.2.1, i.2.2.2.1, i.2.2.2.2] : List Int).length), (4, .int .i64 s2.1), (5, .int .i64 s2.2), (36, .bool false), (39, .bool qb)]) (by kernel_rfl)
    refine st tbOk 2 [1, 3, 4, 5, 36, 39, 40, 41] hf rfl ?_
    clear hf a; intro a hf
    have hT := of_gd hS; clear hS; obtain ⟨hc4, hS⟩ := hT
    refine ixR tbOk u63 i2 rfl rfl (hs.raW 0 rfl) (k := .i64) (n := s2.2) hc4 hf (by kernel_rfl) (by kernel_rfl) (by kernel_rfl) (by kernel_rfl) ?_
    clear hf; clear a; intro pb4 po4 c4 a hp4 hr4 hf
    obtain rfl : c4 = [.int .i64 (gt ([i.2.1, i.2.2.1, i.2.2.2.1, i.2.2.2.2] : List Int) s2.2)] := hr4
    replace hf := hf.keep (ks := [1, 3, 4, 5, 36, 39, 42]) rfl
    refine ldC tbOk (T := 2) hp4 (LeH.refl _) 0 (.int .i64 (gt ([i.2.1, i.2.2.1, i.2.2.2.1, i.2.2.2.2] : List Int) s2.2)) hf (by kernel_rfl) (by kernel_rfl) (by kernel_rfl) (by kernel_rfl) ?_
    clear hf a; intro a hf
    replace hf := hf.keep (ks := [1, 3, 4, 5, 36, 39, 43]) rfl
    refine st tbOk 2 [1, 3, 4, 5, 36, 39, 45] hf rfl ?_
    clear hf a; intro a hf
    rcases Bool.eq_false_or_eq_true (decide ((gt ([i.2.1, i.2.2.1, i.2.2.2.1, i.2.2.2.2] : List Int) s2.2) < 0)) with hb8 | hb8
    · replace hS := of_t hb8 hS
      replace hf := hf.castB hb8 (fun qb => [(1, .pointer (some ⟨w.heap.size, 0, none⟩)), (3, .slice (some ⟨w2.heap.size, 0, none⟩) ([i.2.1, i.2.2.1, i.2.2.2.1, i.2.2.2.2] : List Int).length ([i.2.1, i.2.2.1, i.2.2.2.1, i.2.2.2.2] : List Int).length), (4, .int .i64 s2.1), (5, .int .i64 s2.2), (36, .bool false), (39, .bool true), (45, .bool qb)]) (by kernel_rfl)
      refine st tbOk 5 [1, 3, 4, 5, 36, 39, 45, 50] hf rfl ?_
      clear hf a; intro a hf
      refine st tbOk 3 [1, 3, 4, 5, 53] hf rfl ?_
      clear hf a; intro a hf
      refine wpList_nil ?_
      exact hK3 true _ _ ⟨_, hs.sel [0, 1] rfl rfl, hf.keep (ks := [1, 3, 4, 5, 53]) (by kernel_rfl)⟩ hS
    replace hS := of_f hb8 hS
    replace hf := hf.castB hb8 (fun qb => [(1, .pointer (some ⟨w.heap.size, 0, none⟩)), (3, .slice (some ⟨w2.heap.size, 0, none⟩) ([i.2.1, i.2.2.1, i.2.2.2.1, i.2.2.2.2] : List Int).length ([i.2.1, i.2.2.1, i.2.2.2.1, i.2.2.2.2] : List Int).length), (4, .int .i64 s2.1), (5, .int .i64 s2.2), (36, .bool false), (39, .bool true), (45, .bool qb)]) (by kernel_rfl)
    refine st tbOk 2 [1, 3, 4, 5, 36, 39, 45, 46, 47] hf rfl ?_
    clear hf a; intro a hf
    have hT := of_gd hS; clear hS; obtain ⟨hc5, hS⟩ := hT
    refine ixR tbOk u63 i2 rfl rfl (hs.raW 0 rfl) (k := .i64) (n := s2.2) hc5 hf (by kernel_rfl) (by kernel_rfl) (by kernel_rfl) (by kernel_rfl) ?_
    clear hf; clear a; intro pb5 po5 c5 a hp5 hr5 hf
    obtain rfl : c5 = [.int .i64 (gt ([i.2.1, i.2.2.1, i.2.2.2.1, i.2.2.2.2] : List Int) s2.2)] := hr5
    replace hf := hf.keep (ks := [1, 3, 4, 5, 36, 39, 45, 48]) rfl
    refine ldC tbOk (T := 2) hp5 (LeH.refl _) 0 (.int .i64 (gt ([i.2.1, i.2.2.1, i.2.2.2.1, i.2.2.2.2] : List Int) s2.2)) hf (by kernel_rfl) (by kernel_rfl) (by kernel_rfl) (by kernel_rfl) ?_
    clear hf a; intro a hf
    replace hf := hf.keep (ks := [1, 3, 4, 5, 36, 39, 45, 49]) rfl
    refine st tbOk 4 [1, 3, 4, 5, 53] hf rfl ?_
    clear hf a; intro a hf
    refine wpList_nil ?_
    exact hK3 (decide ((gt ([i.2.1, i.2.2.1, i.2.2.2.1, i.2.2.2.2] : List Int) s2.2) > 31)) _ _ ⟨_, hs.sel [0, 1] rfl rfl, hf.keep (ks := [1, 3, 4, 5, 53]) (by kernel_rfl)⟩ hS
  replace hS := of_t hb3 hS
  replace hf := hf.castB hb3 (fun qb => [(1, .pointer (some ⟨w.heap.size, 0, none⟩)), (3, .slice (some ⟨w2.heap.size, 0, none⟩) ([i.2.1, i.2.2.1, i.2.2.2.1, i.2.2.2.2] : List Int).length ([i.2.1, i.2.2.1, i.2.2.2.1, i.2.2.2.2] : List Int).length), (4, .int .i64 s2.1), (5, .int .i64 s2.2), (29, .bool qb)]) (by kernel_rfl)
  refine st tbOk 2 [1, 3, 4, 5, 29, 30, 31] hf rfl ?_
  clear hf a; intro a hf
  have hT := of_gd hS; clear hS; obtain ⟨hc1, hS⟩ := hT
  refine ixR tbOk u63 i2 rfl rfl (hs.raW 0 rfl) (k := .i64) (n := s2.2) hc1 hf (by kernel_rfl) (by kernel_rfl) (by kernel_rfl) (by kernel_rfl) ?_
  clear hf; clear a; intro pb1 po1 c1 a hp1 hr1 hf
  obtain rfl : c1 = [.int .i64 (gt ([i.2.1, i.2.2.1, i.2.2.2.1, i.2.2.2.2] : List Int) s2.2)] := hr1
  replace hf := hf.keep (ks := [1, 3, 4, 5, 29, 32]) rfl
  refine ldC tbOk (T := 2) hp1 (LeH.refl _) 0 (.int .i64 (gt ([i.2.1, i.2.2.1, i.2.2.2.1, i.2.2.2.2] : List Int) s2.2)) hf (by kernel_rfl) (by kernel_rfl) (by kernel_rfl) (by kernel_rfl) ?_
  clear hf a; intro a hf
  replace hf := hf.keep (ks := [1, 3, 4, 5, 29, 33]) rfl
  refine st tbOk 3 [1, 3, 4, 5, 36] hf rfl ?_
  clear hf a; intro a hf
  rcases Bool.eq_false_or_eq_true ((gt ([i.2.1, i.2.2.1, i.2.2.2.1, i.2.2.2.2] : List Int) s2.2) != 0) with hb4 | hb4
  · replace hS := of_t hb4 hS
    replace hf := hf.castB hb4 (fun qb => [(1, .pointer (some ⟨w.heap.size, 0, none⟩)), (3, .slice (some ⟨w2.heap.size, 0, none⟩) ([i.2.1, i.2.2.1, i.2.2.2.1, i.2.2.2.2] : List Int).length ([i.2.1, i.2.2.1, i.2.2.2.1, i.2.2.2.2] : List Int).length), (4, .int .i64 s2.1), (5, .int .i64 s2.2), (36, .bool qb)]) (by kernel_rfl)
    refine st tbOk 5 [1, 3, 4, 5, 36, 39, 40, 41] hf rfl ?_
    clear hf a; intro a hf
    refine st tbOk 5 [1, 3, 4, 5, 36, 39, 45, 46] hf rfl ?_
    clear hf a; intro a hf
    refine st tbOk 5 [1, 3, 4, 5, 36, 39, 51] hf rfl ?_
    clear hf a; intro a hf
    refine st tbOk 2 [1, 3, 4, 5, 53] hf rfl ?_
    clear hf a; intro a hf
    refine wpList_nil ?_
    exact hK3 true _ _ ⟨_, hs.sel [0, 1] rfl rfl, hf.keep (ks := [1, 3, 4, 5, 53]) (by kernel_rfl)⟩ hS
  replace hS := of_f hb4 hS
  replace hf := hf.castB hb4 (fun qb => [(1, .pointer (some ⟨w.heap.size, 0, none⟩)), (3, .slice (some ⟨w2.heap.size, 0, none⟩) ([i.2.1, i.2.2.1, i.2.2.2.1, i.2.2.2.2] : List Int).length ([i.2.1, i.2.2.1, i.2.2.2.1, i.2.2.2.2] : List Int).length), (4, .int .i64 s2.1), (5, .int .i64 s2.2), (36, .bool qb)]) (by kernel_rfl)
  refine st tbOk 3 [1, 3, 4, 5, 36, 39] hf rfl ?_
  clear hf a; intro a hf
  rcases Bool.eq_false_or_eq_true (decide (s2.2 < 3)) with hb5 | hb5
  rotate_left
  · replace hS := of_f hb5 hS
    replace hf := hf.castB hb5 (fun qb => [(1, .pointer (some ⟨w.heap.size, 0, none⟩)), (3, .slice (some ⟨w2.heap.size, 0, none⟩) ([i.2.1, i.2.2.1, i.2.2.2.1, i.2.2.2.2] : List Int).length ([i.2.1, i.2.2.1, i.2.2.2.1, i.2.2.2.2] : List Int).length), (4, .int .i64 s2.1), (5, .int .i64 s2.2), (36, .bool false), (39, .bool qb)]) (by kernel_rfl)
    refine st tbOk 5 [1, 3, 4, 5, 36, 39, 44] hf rfl ?_
    clear hf a; intro a hf
    refine st tbOk 5 [1, 3, 4, 5, 36, 39, 45, 49] hf rfl ?_
    clear hf a; intro a hf
    refine st tbOk 4 [1, 3, 4, 5, 53] hf rfl ?_
    clear hf a; intro a hf
    refine wpList_nil ?_
    exact hK3 false _ _ ⟨_, hs.sel [0, 1] rfl rfl, hf.keep (ks := [1, 3, 4, 5, 53]) (by kernel_rfl)⟩ hS
  replace hS := of_t hb5 hS
  replace hf := hf.castB hb5 (fun qb => [(1, .pointer (some ⟨w.heap.size, 0, none⟩)), (3, .slice (some ⟨w2.heap.size, 0, none⟩) ([i.2.1, i.2.2.1, i.2.2.2.1, i.2.2.2.2] : List Int).length ([i.2.1, i.2.2.1, i.2.2.2.1, i.2.2.2.2] : List Int).length), (4, .int .i64 s2.1), (5, .int .i64 s2.2), (36, .bool false), (39, .bool qb)]) (by kernel_rfl)
  refine st tbOk 2 [1, 3, 4, 5, 36, 39, 40, 41] hf rfl ?_
  clear hf a; intro a hf
  have hT := of_gd hS; clear hS; obtain ⟨hc2, hS⟩ := hT
  refine ixR tbOk u63 i2 rfl rfl (hs.raW 0 rfl) (k := .i64) (n := s2.2) hc2 hf (by kernel_rfl) (by kernel_rfl) (by kernel_rfl) (by kernel_rfl) ?_
  clear hf; clear a; intro pb2 po2 c2 a hp2 hr2 hf
  obtain rfl : c2 = [.int .i64 (gt ([i.2.1, i.2.2.1, i.2.2.2.1, i.2.2.2.2] : List Int) s2.2)] := hr2
  replace hf := hf.keep (ks := [1, 3, 4, 5, 36, 39, 42]) rfl
  refine ldC tbOk (T := 2) hp2 (LeH.refl _) 0 (.int .i64 (gt ([i.2.1, i.2.2.1, i.2.2.2.1, i.2.2.2.2] : List Int) s2.2)) hf (by kernel_rfl) (by kernel_rfl) (by kernel_rfl) (by kernel_rfl) ?_
  clear hf a; intro a hf
  replace hf := hf.keep (ks := [1, 3, 4, 5, 36, 39, 43]) rfl
  refine st tbOk 2 [1, 3, 4, 5, 36, 39, 45] hf rfl ?_
  clear hf a; intro a hf
  rcases Bool.eq_false_or_eq_true (decide ((gt ([i.2.1, i.2.2.1, i.2.2.2.1, i.2.2.2.2] : List Int) s2.2) < 0)) with hb6 | hb6
  · replace hS := of_t hb6 hS
    replace hf := hf.castB hb6 (fun qb => [(1, .pointer (some ⟨w.heap.size, 0, none⟩)), (3, .slice (some ⟨w2.heap.size, 0, none⟩) ([i.2.1, i.2.2.1, i.2.2.2.1, i.2.2.2.2] : List Int).length ([i.2.1, i.2.2.1, i.2.2.2.1, i.2.2.2.2] : List Int).length), (4, .int .i64 s2.1), (5, .int .i64 s2.2), (36, .bool false), (39, .bool true), (45, .bool qb)]) (by kernel_rfl)
    refine st tbOk 5 [1, 3, 4, 5, 36, 39, 45, 50] hf rfl ?_
    clear hf a; intro a hf
    refine st tbOk 3 [1, 3, 4, 5, 53] hf rfl ?_
    clear hf a; intro a hf
    refine wpList_nil ?_
    exact hK3 true _ _ ⟨_, hs.sel [0, 1] rfl rfl, hf.keep (ks := [1, 3, 4, 5, 53]) (by kernel_rfl)⟩ hS
  replace hS := of_f hb6 hS
  replace hf := hf.castB hb6 (fun qb => [(1, .pointer (some ⟨w.heap.size, 0, none⟩)), (3, .slice (some ⟨w2.heap.size, 0, none⟩) ([i.2.1, i.2.2.1, i.2.2.2.1, i.2.2.2.2] : List Int).length ([i.2.1, i.2.2.1, i.2.2.2.1, i.2.2.2.2] : List Int).length), (4, .int .i64 s2.1), (5, .int .i64 s2.2), (36, .bool false), (39, .bool true), (45, .bool qb)]) (by kernel_rfl)
  refine st tbOk 2 [1, 3, 4, 5, 36, 39, 45, 46, 47] hf rfl ?_
  clear hf a; intro a hf
  have hT := of_gd hS; clear hS; obtain ⟨hc3, hS⟩ := hT
  refine ixR tbOk u63 i2 rfl rfl (hs.raW 0 rfl) (k := .i64) (n := s2.2) hc3 hf (by kernel_rfl) (by kernel_rfl) (by kernel_rfl) (by kernel_rfl) ?_
  clear hf; clear a; intro pb3 po3 c3 a hp3 hr3 hf
  obtain rfl : c3 = [.int .i64 (gt ([i.2.1, i.2.2.1, i.2.2.2.1, i.2.2.2.2] : List Int) s2.2)] := hr3
  replace hf := hf.keep (ks := [1, 3, 4, 5, 36, 39, 45, 48]) rfl
  refine ldC tbOk (T := 2) hp3 (LeH.refl _) 0 (.int .i64 (gt ([i.2.1, i.2.2.1, i.2.2.2.1, i.2.2.2.2] : List Int) s2.2)) hf (by kernel_rfl) (by kernel_rfl) (by kernel_rfl) (by kernel_rfl) ?_
  clear hf a; intro a hf
  replace hf := hf.keep (ks := [1, 3, 4, 5, 36, 39, 45, 49]) rfl
  refine st tbOk 4 [1, 3, 4, 5, 53] hf rfl ?_
  clear hf a; intro a hf
  refine wpList_nil ?_
  exact hK3 (decide ((gt ([i.2.1, i.2.2.1, i.2.2.2.1, i.2.2.2.2] : List Int) s2.2) > 31)) _ _ ⟨_, hs.sel [0, 1] rfl rfl, hf.keep (ks := [1, 3, 4, 5, 53]) (by kernel_rfl)⟩ hS

end Dm
