/-
  The walk of the law SegsOne; printed by a program of this repo. No condition.
-/
import Derived.Test.YtljdbjimdidigaaWT
import Derived.Test.YtljdbjimdidigaaW1
import Derived.Test.YtljdbjimdidigaaW6
namespace Dm
open Go Go.RowKit Go.Proofs

set_option maxHeartbeats 4000000 in
theorem law04_SegsOne_ok {w : World} {F : SH} {p_s : Int × Int × Int × Int × Int × Int × Int} {size : Int}  (hs : Sep w F (blks []) w F []) {r : Bool} (hS : law04_SegsOne p_s size = some r) :
    Calls Try.prog 9 [.agg #[.int .u32 p_s.1, .int .u32 p_s.2.1, .int .u64 p_s.2.2.1, .int .u64 p_s.2.2.2.1, .int .u64 p_s.2.2.2.2.1, .int .u64 p_s.2.2.2.2.2.1, .int .u64 p_s.2.2.2.2.2.2], .int .u64 size].toArray w (Gives (fun u w' => ∃ (F' : SH), u = .bool r ∧ Sep w F (blks []) w' F' [])) := by
  generalize (blks []) = R at hs ⊢
  unfold law04_SegsOne at hS
  refine fn_ok (vs := [.agg #[.int .u32 p_s.1, .int .u32 p_s.2.1, .int .u64 p_s.2.2.1, .int .u64 p_s.2.2.2.1, .int .u64 p_s.2.2.2.2.1, .int .u64 p_s.2.2.2.2.2.1, .int .u64 p_s.2.2.2.2.2.2], .int .u64 size]) Try.func9 rfl 19 Try.ntmps9 (Nat.le_of_ble_eq_true rfl) ?_
  intro a hf
  replace hf := Fr.cast (L' := [(0, .agg #[.int .u32 p_s.1, .int .u32 p_s.2.1, .int .u64 p_s.2.2.1, .int .u64 p_s.2.2.2.1, .int .u64 p_s.2.2.2.2.1, .int .u64 p_s.2.2.2.2.2.1, .int .u64 p_s.2.2.2.2.2.2]), (1, .int .u64 size)]) hf (by kernel_rfl)
  refine sq ?_
  refine reg ?_
  refine bx (T := 25) [.int .u32 p_s.1, .int .u32 p_s.2.1, .int .u64 p_s.2.2.1, .int .u64 p_s.2.2.2.1, .int .u64 p_s.2.2.2.2.1, .int .u64 p_s.2.2.2.2.2.1, .int .u64 p_s.2.2.2.2.2.2] (v := .agg #[.int .u32 p_s.1, .int .u32 p_s.2.1, .int .u64 p_s.2.2.1, .int .u64 p_s.2.2.2.1, .int .u64 p_s.2.2.2.2.1, .int .u64 p_s.2.2.2.2.2.1, .int .u64 p_s.2.2.2.2.2.2]) rfl (by kernel_rfl) hf (by kernel_rfl) (by kernel_rfl) (by kernel_rfl) ?_
  clear hf; clear a; intro w1 a hb hx _ hf
  replace hs : Sep w F R w1 F [.box w.heap.size 25 [.int .u32 p_s.1, .int .u32 p_s.2.1, .int .u64 p_s.2.2.1, .int .u64 p_s.2.2.2.1, .int .u64 p_s.2.2.2.2.1, .int .u64 p_s.2.2.2.2.2.1, .int .u64 p_s.2.2.2.2.2.2]] := hs.newBox hb hx
  clear hb hx
  replace hf := Fr.keep (ks := [1, 2]) (L' := [(1, .int .u64 size), (2, .pointer (some ⟨w.heap.size, 0, none⟩))]) hf (by kernel_rfl)
  refine st tbOk 1 [1, 2] (L' := [(1, .int .u64 size), (2, .pointer (some ⟨w.heap.size, 0, none⟩))]) hf (by kernel_rfl) ?_
  clear hf; clear a; intro a hf
  refine wpList_nil ?_
  refine sq ?_
  refine reg ?_
  have hT := of_bd hS; clear hS; obtain ⟨z1, hz1, hS⟩ := hT
  refine clV ent11 (vs := []) (caps := []) hf (by kernel_rfl) (by kernel_rfl) (by kernel_rfl) (by kernel_rfl) (law04_awake_ok (hs.enter [] rfl rfl) hz1) ?_
  clear hf; clear a; intro v w2 a hT hf; obtain ⟨F1, rfl, hr⟩ := hT
  replace hs : Sep w F R w2 F1 [.box w.heap.size 25 [.int .u32 p_s.1, .int .u32 p_s.2.1, .int .u64 p_s.2.2.1, .int .u64 p_s.2.2.2.1, .int .u64 p_s.2.2.2.2.1, .int .u64 p_s.2.2.2.2.2.1, .int .u64 p_s.2.2.2.2.2.2]] := hs.back [] [0] rfl rfl rfl rfl hr
  clear hr
  replace hf := Fr.keep (ks := [1, 2, 7]) (L' := [(1, .int .u64 size), (2, .pointer (some ⟨w.heap.size, 0, none⟩)), (7, .bool z1)]) hf (by kernel_rfl)
  refine st tbOk 1 [1, 2, 5] (L' := [(1, .int .u64 size), (2, .pointer (some ⟨w.heap.size, 0, none⟩)), (5, .bool z1)]) hf (by kernel_rfl) ?_
  clear hf; clear a; intro a hf
  refine wpList_nil ?_
  refine sq ?_
  refine sq ?_
  refine reg ?_
  refine st tbOk 2 [1, 2, 9] (L' := [(1, .int .u64 size), (2, .pointer (some ⟨w.heap.size, 0, none⟩)), (9, .bool (!z1))]) hf (by kernel_rfl) ?_
  clear hf; clear a; intro a hf
  refine wpList_nil ?_
  refine cnd (b := !z1) hf (by kernel_rfl) (fun hb1 => ?_) (fun hb1 => ?_)
  · replace hS := of_t hb1 hS
    refine sq ?_
    refine reg ?_
    refine st tbOk 1 [4] (L' := [(4, .bool false)]) hf (by kernel_rfl) ?_
    clear hf; clear a; intro a hf
    refine wpList_nil ?_
    have hr := Option.some.inj hS; subst hr
    refine wp_ret ?_
    exact ret_ok hf (vs := [.bool false]) (by kernel_rfl) ⟨_, rfl, hs.sel [] rfl rfl⟩
  · replace hS := of_f hb1 hS
    refine wp_skip ?_
    refine sq ?_
    refine reg ?_
    refine ldC tbOk (T := 25) (hs.cbx 0 rfl) (LeH.refl _) 0 (.agg #[.int .u32 p_s.1, .int .u32 p_s.2.1, .int .u64 p_s.2.2.1, .int .u64 p_s.2.2.2.1, .int .u64 p_s.2.2.2.2.1, .int .u64 p_s.2.2.2.2.2.1, .int .u64 p_s.2.2.2.2.2.2]) hf (by kernel_rfl) (by kernel_rfl) (by kernel_rfl) (by kernel_rfl) ?_
    clear hf; clear a; intro a hf
    replace hs : Sep w F R w2 F1 [] := hs.sel [] rfl rfl
    replace hf := Fr.keep (ks := [1, 10]) (L' := [(1, .int .u64 size), (10, .agg #[.int .u32 p_s.1, .int .u32 p_s.2.1, .int .u64 p_s.2.2.1, .int .u64 p_s.2.2.2.1, .int .u64 p_s.2.2.2.2.1, .int .u64 p_s.2.2.2.2.2.1, .int .u64 p_s.2.2.2.2.2.2])]) hf (by kernel_rfl)
    refine bsR tbOk u33 i25 rfl (t := ty24) (vs := [(0, .agg #[.int .u32 p_s.1, .int .u32 p_s.2.1, .int .u64 p_s.2.2.1, .int .u64 p_s.2.2.2.1, .int .u64 p_s.2.2.2.2.1, .int .u64 p_s.2.2.2.2.2.1, .int .u64 p_s.2.2.2.2.2.2])]) (cells := #[.int .u32 p_s.1, .int .u32 p_s.2.1, .int .u64 p_s.2.2.1, .int .u64 p_s.2.2.2.1, .int .u64 p_s.2.2.2.2.1, .int .u64 p_s.2.2.2.2.2.1, .int .u64 p_s.2.2.2.2.2.2]) ([(p_s.1, p_s.2.1, p_s.2.2.1, p_s.2.2.2.1, p_s.2.2.2.2.1, p_s.2.2.2.2.2.1, p_s.2.2.2.2.2.2)] : List (Int × Int × Int × Int × Int × Int × Int)) hs.le hf (by kernel_rfl) (by kernel_rfl) (by kernel_rfl) rfl (by kernel_rfl) (reps_flat _) rfl ?_
    clear hf; clear a; intro w3 a ho hx hf
    replace hs : Sep w F R w3 F1 [.row 25 ty24 (.slice (some ⟨w2.heap.size, 0, none⟩) ([(p_s.1, p_s.2.1, p_s.2.2.1, p_s.2.2.2.1, p_s.2.2.2.2.1, p_s.2.2.2.2.2.1, p_s.2.2.2.2.2.2)] : List (Int × Int × Int × Int × Int × Int × Int)).length ([(p_s.1, p_s.2.1, p_s.2.2.1, p_s.2.2.2.1, p_s.2.2.2.2.1, p_s.2.2.2.2.2.1, p_s.2.2.2.2.2.2)] : List (Int × Int × Int × Int × Int × Int × Int)).length) ([(p_s.1, p_s.2.1, p_s.2.2.1, p_s.2.2.2.1, p_s.2.2.2.2.1, p_s.2.2.2.2.2.1, p_s.2.2.2.2.2.2)] : List (Int × Int × Int × Int × Int × Int × Int))] := hs.newRow ho hx
    clear ho hx
    replace hf := Fr.keep (ks := [1, 11]) (L' := [(1, .int .u64 size), (11, .slice (some ⟨w2.heap.size, 0, none⟩) ([(p_s.1, p_s.2.1, p_s.2.2.1, p_s.2.2.2.1, p_s.2.2.2.2.1, p_s.2.2.2.2.2.1, p_s.2.2.2.2.2.2)] : List (Int × Int × Int × Int × Int × Int × Int)).length ([(p_s.1, p_s.2.1, p_s.2.2.1, p_s.2.2.2.1, p_s.2.2.2.2.1, p_s.2.2.2.2.2.1, p_s.2.2.2.2.2.2)] : List (Int × Int × Int × Int × Int × Int × Int)).length)]) hf (by kernel_rfl)
    refine st tbOk 1 [1, 6] (L' := [(1, .int .u64 size), (6, .slice (some ⟨w2.heap.size, 0, none⟩) ([(p_s.1, p_s.2.1, p_s.2.2.1, p_s.2.2.2.1, p_s.2.2.2.2.1, p_s.2.2.2.2.2.1, p_s.2.2.2.2.2.2)] : List (Int × Int × Int × Int × Int × Int × Int)).length ([(p_s.1, p_s.2.1, p_s.2.2.1, p_s.2.2.2.1, p_s.2.2.2.2.1, p_s.2.2.2.2.2.1, p_s.2.2.2.2.2.2)] : List (Int × Int × Int × Int × Int × Int × Int)).length)]) hf (by kernel_rfl) ?_
    clear hf; clear a; intro a hf
    refine wpList_nil ?_
    refine sq ?_
    refine reg ?_
    refine st tbOk 2 [1, 6, 12, 13] (L' := [(1, .int .u64 size), (6, .slice (some ⟨w2.heap.size, 0, none⟩) ([(p_s.1, p_s.2.1, p_s.2.2.1, p_s.2.2.2.1, p_s.2.2.2.2.1, p_s.2.2.2.2.2.1, p_s.2.2.2.2.2.2)] : List (Int × Int × Int × Int × Int × Int × Int)).length ([(p_s.1, p_s.2.1, p_s.2.2.1, p_s.2.2.2.1, p_s.2.2.2.2.1, p_s.2.2.2.2.2.1, p_s.2.2.2.2.2.2)] : List (Int × Int × Int × Int × Int × Int × Int)).length), (12, .slice (some ⟨w2.heap.size, 0, none⟩) ([(p_s.1, p_s.2.1, p_s.2.2.1, p_s.2.2.2.1, p_s.2.2.2.2.1, p_s.2.2.2.2.2.1, p_s.2.2.2.2.2.2)] : List (Int × Int × Int × Int × Int × Int × Int)).length ([(p_s.1, p_s.2.1, p_s.2.2.1, p_s.2.2.2.1, p_s.2.2.2.2.1, p_s.2.2.2.2.2.1, p_s.2.2.2.2.2.2)] : List (Int × Int × Int × Int × Int × Int × Int)).length), (13, .int .u64 size)]) hf (by kernel_rfl) ?_
    clear hf; clear a; intro a hf
    have hT := of_bd hS; clear hS; obtain ⟨z2, hz2, hS⟩ := hT
    refine clV ent18 (vs := [.slice (some ⟨w2.heap.size, 0, none⟩) ([(p_s.1, p_s.2.1, p_s.2.2.1, p_s.2.2.2.1, p_s.2.2.2.2.1, p_s.2.2.2.2.2.1, p_s.2.2.2.2.2.2)] : List (Int × Int × Int × Int × Int × Int × Int)).length ([(p_s.1, p_s.2.1, p_s.2.2.1, p_s.2.2.2.1, p_s.2.2.2.2.1, p_s.2.2.2.2.2.1, p_s.2.2.2.2.2.2)] : List (Int × Int × Int × Int × Int × Int × Int)).length, .int .u64 size]) (caps := []) hf (by kernel_rfl) (by kernel_rfl) (by kernel_rfl) (by kernel_rfl) (segs_Check_ok (p_l := ([(p_s.1, p_s.2.1, p_s.2.2.1, p_s.2.2.2.1, p_s.2.2.2.2.1, p_s.2.2.2.2.2.1, p_s.2.2.2.2.2.2)] : List (Int × Int × Int × Int × Int × Int × Int))) (size := size) (hs.lend [0] [] rfl rfl rfl rfl rfl) hz2) ?_
    clear hf; clear a; intro v w4 a hT hf; obtain ⟨F2, rfl, hr⟩ := hT
    replace hs : Sep w F R w4 F1 [.row 25 ty24 (.slice (some ⟨w2.heap.size, 0, none⟩) ([(p_s.1, p_s.2.1, p_s.2.2.1, p_s.2.2.2.1, p_s.2.2.2.2.1, p_s.2.2.2.2.2.1, p_s.2.2.2.2.2.2)] : List (Int × Int × Int × Int × Int × Int × Int)).length ([(p_s.1, p_s.2.1, p_s.2.2.1, p_s.2.2.2.1, p_s.2.2.2.2.1, p_s.2.2.2.2.2.1, p_s.2.2.2.2.2.2)] : List (Int × Int × Int × Int × Int × Int × Int)).length) ([(p_s.1, p_s.2.1, p_s.2.2.1, p_s.2.2.2.1, p_s.2.2.2.2.1, p_s.2.2.2.2.2.1, p_s.2.2.2.2.2.2)] : List (Int × Int × Int × Int × Int × Int × Int))] := hs.backL [0] [] [0] rfl rfl rfl rfl rfl rfl hr trivial
    clear hr
    replace hf := Fr.keep (ks := [1, 6, 14]) (L' := [(1, .int .u64 size), (6, .slice (some ⟨w2.heap.size, 0, none⟩) ([(p_s.1, p_s.2.1, p_s.2.2.1, p_s.2.2.2.1, p_s.2.2.2.2.1, p_s.2.2.2.2.2.1, p_s.2.2.2.2.2.2)] : List (Int × Int × Int × Int × Int × Int × Int)).length ([(p_s.1, p_s.2.1, p_s.2.2.1, p_s.2.2.2.1, p_s.2.2.2.2.1, p_s.2.2.2.2.2.1, p_s.2.2.2.2.2.2)] : List (Int × Int × Int × Int × Int × Int × Int)).length), (14, .int .i64 z2)]) hf (by kernel_rfl)
    refine st tbOk 2 [14, 15, 16] (L' := [(14, .int .i64 z2), (15, .slice (some ⟨w2.heap.size, 0, none⟩) ([(p_s.1, p_s.2.1, p_s.2.2.1, p_s.2.2.2.1, p_s.2.2.2.2.1, p_s.2.2.2.2.2.1, p_s.2.2.2.2.2.2)] : List (Int × Int × Int × Int × Int × Int × Int)).length ([(p_s.1, p_s.2.1, p_s.2.2.1, p_s.2.2.2.1, p_s.2.2.2.2.1, p_s.2.2.2.2.2.1, p_s.2.2.2.2.2.2)] : List (Int × Int × Int × Int × Int × Int × Int)).length), (16, .int .u64 size)]) hf (by kernel_rfl) ?_
    clear hf; clear a; intro a hf
    have hT := of_bd hS; clear hS; obtain ⟨z3, hz3, hS⟩ := hT
    refine clV ent19 (vs := [.slice (some ⟨w2.heap.size, 0, none⟩) ([(p_s.1, p_s.2.1, p_s.2.2.1, p_s.2.2.2.1, p_s.2.2.2.2.1, p_s.2.2.2.2.2.1, p_s.2.2.2.2.2.2)] : List (Int × Int × Int × Int × Int × Int × Int)).length ([(p_s.1, p_s.2.1, p_s.2.2.1, p_s.2.2.2.1, p_s.2.2.2.2.1, p_s.2.2.2.2.2.1, p_s.2.2.2.2.2.2)] : List (Int × Int × Int × Int × Int × Int × Int)).length, .int .u64 size]) (caps := []) hf (by kernel_rfl) (by kernel_rfl) (by kernel_rfl) (by kernel_rfl) (ref04_Check_ok (p_l := ([(p_s.1, p_s.2.1, p_s.2.2.1, p_s.2.2.2.1, p_s.2.2.2.2.1, p_s.2.2.2.2.2.1, p_s.2.2.2.2.2.2)] : List (Int × Int × Int × Int × Int × Int × Int))) (size := size) (hs.lend [0] [] rfl rfl rfl rfl rfl) hz3) ?_
    clear hf; clear a; intro v w5 a hT hf; obtain ⟨F3, rfl, hr⟩ := hT
    replace hs : Sep w F R w5 F1 [.row 25 ty24 (.slice (some ⟨w2.heap.size, 0, none⟩) ([(p_s.1, p_s.2.1, p_s.2.2.1, p_s.2.2.2.1, p_s.2.2.2.2.1, p_s.2.2.2.2.2.1, p_s.2.2.2.2.2.2)] : List (Int × Int × Int × Int × Int × Int × Int)).length ([(p_s.1, p_s.2.1, p_s.2.2.1, p_s.2.2.2.1, p_s.2.2.2.2.1, p_s.2.2.2.2.2.1, p_s.2.2.2.2.2.2)] : List (Int × Int × Int × Int × Int × Int × Int)).length) ([(p_s.1, p_s.2.1, p_s.2.2.1, p_s.2.2.2.1, p_s.2.2.2.2.1, p_s.2.2.2.2.2.1, p_s.2.2.2.2.2.2)] : List (Int × Int × Int × Int × Int × Int × Int))] := hs.backL [0] [] [0] rfl rfl rfl rfl rfl rfl hr trivial
    clear hr
    replace hs : Sep w F R w5 F1 [] := hs.sel [] rfl rfl
    replace hf := Fr.keep (ks := [14, 17]) (L' := [(14, .int .i64 z2), (17, .int .i64 z3)]) hf (by kernel_rfl)
    refine st tbOk 2 [4] (L' := [(4, .bool (z2 == z3))]) hf (by kernel_rfl) ?_
    clear hf; clear a; intro a hf
    refine wpList_nil ?_
    have hr := Option.some.inj hS; subst hr
    refine wp_ret ?_
    exact ret_ok hf (vs := [.bool (z2 == z3)]) (by kernel_rfl) ⟨_, rfl, hs.sel [] rfl rfl⟩

end Dm
