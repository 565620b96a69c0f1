/-
  The walk of the law SymbolsOne; printed by a program of this repo. No condition.
-/
import Derived.Test.YtmocofbneblccaaWT
import Derived.Test.YtmocofbneblccaaW10
import Derived.Test.YtmocofbneblccaaW13
namespace Dm
open Go Go.RowKit Go.Proofs

set_option maxHeartbeats 4000000 in
theorem law06_SymbolsOne_ok {w : World} {F : SH} {p_s : Int × Int × Int × Int × Int × Int}  (hs : Sep w F (blks []) w F []) {r : Bool} (hS : law06_SymbolsOne p_s = some r) :
    Calls Try.prog 12 [.agg #[.int .u32 p_s.1, .int .u8 p_s.2.1, .int .u8 p_s.2.2.1, .int .u16 p_s.2.2.2.1, .int .u64 p_s.2.2.2.2.1, .int .u64 p_s.2.2.2.2.2]].toArray w (Gives (fun u w' => ∃ (F' : SH), u = .bool r ∧ Sep w F (blks []) w' F' [])) := by
  generalize (blks []) = R at hs ⊢
  unfold law06_SymbolsOne at hS
  refine fn_ok (vs := [.agg #[.int .u32 p_s.1, .int .u8 p_s.2.1, .int .u8 p_s.2.2.1, .int .u16 p_s.2.2.2.1, .int .u64 p_s.2.2.2.2.1, .int .u64 p_s.2.2.2.2.2]]) Try.func12 rfl 25 Try.ntmps12 (Nat.le_of_ble_eq_true rfl) ?_
  intro a hf
  replace hf := Fr.cast (L' := [(0, .agg #[.int .u32 p_s.1, .int .u8 p_s.2.1, .int .u8 p_s.2.2.1, .int .u16 p_s.2.2.2.1, .int .u64 p_s.2.2.2.2.1, .int .u64 p_s.2.2.2.2.2])]) hf (by kernel_rfl)
  refine sq ?_
  refine reg ?_
  refine bx (T := 65) [.int .u32 p_s.1, .int .u8 p_s.2.1, .int .u8 p_s.2.2.1, .int .u16 p_s.2.2.2.1, .int .u64 p_s.2.2.2.2.1, .int .u64 p_s.2.2.2.2.2] (v := .agg #[.int .u32 p_s.1, .int .u8 p_s.2.1, .int .u8 p_s.2.2.1, .int .u16 p_s.2.2.2.1, .int .u64 p_s.2.2.2.2.1, .int .u64 p_s.2.2.2.2.2]) rfl (by kernel_rfl) hf (by kernel_rfl) (by kernel_rfl) (by kernel_rfl) ?_
  clear hf; clear a; intro w1 a hb hx _ hf
  replace hs : Sep w F R w1 F [.box w.heap.size 65 [.int .u32 p_s.1, .int .u8 p_s.2.1, .int .u8 p_s.2.2.1, .int .u16 p_s.2.2.2.1, .int .u64 p_s.2.2.2.2.1, .int .u64 p_s.2.2.2.2.2]] := hs.newBox hb hx
  clear hb hx
  replace hf := Fr.keep (ks := [1]) (L' := [(1, .pointer (some ⟨w.heap.size, 0, none⟩))]) hf (by kernel_rfl)
  refine st tbOk 1 [1] (L' := [(1, .pointer (some ⟨w.heap.size, 0, none⟩))]) hf (by kernel_rfl) ?_
  clear hf; clear a; intro a hf
  refine wpList_nil ?_
  refine sq ?_
  refine reg ?_
  have hT := of_bd hS; clear hS; obtain ⟨z1, hz1, hS⟩ := hT
  refine clV ent25 (vs := []) (caps := []) hf (by kernel_rfl) (by kernel_rfl) (by kernel_rfl) (by kernel_rfl) (law06_awake_ok (hs.enter [] rfl rfl) hz1) ?_
  clear hf; clear a; intro v w2 a hT hf; obtain ⟨F1, rfl, hr⟩ := hT
  replace hs : Sep w F R w2 F1 [.box w.heap.size 65 [.int .u32 p_s.1, .int .u8 p_s.2.1, .int .u8 p_s.2.2.1, .int .u16 p_s.2.2.2.1, .int .u64 p_s.2.2.2.2.1, .int .u64 p_s.2.2.2.2.2]] := hs.back [] [0] rfl rfl rfl rfl hr
  clear hr
  replace hf := Fr.keep (ks := [1, 5]) (L' := [(1, .pointer (some ⟨w.heap.size, 0, none⟩)), (5, .bool z1)]) hf (by kernel_rfl)
  refine st tbOk 1 [1, 3] (L' := [(1, .pointer (some ⟨w.heap.size, 0, none⟩)), (3, .bool z1)]) hf (by kernel_rfl) ?_
  clear hf; clear a; intro a hf
  refine wpList_nil ?_
  refine sq ?_
  refine sq ?_
  refine reg ?_
  refine st tbOk 2 [1, 7] (L' := [(1, .pointer (some ⟨w.heap.size, 0, none⟩)), (7, .bool (!z1))]) hf (by kernel_rfl) ?_
  clear hf; clear a; intro a hf
  refine wpList_nil ?_
  refine cnd (b := !z1) hf (by kernel_rfl) (fun hb1 => ?_) (fun hb1 => ?_)
  · replace hS := of_t hb1 hS
    refine sq ?_
    refine reg ?_
    refine st tbOk 1 [2] (L' := [(2, .bool false)]) hf (by kernel_rfl) ?_
    clear hf; clear a; intro a hf
    refine wpList_nil ?_
    have hr := Option.some.inj hS; subst hr
    refine wp_ret ?_
    exact ret_ok hf (vs := [.bool false]) (by kernel_rfl) ⟨_, rfl, hs.sel [] rfl rfl⟩
  · replace hS := of_f hb1 hS
    refine wp_skip ?_
    refine sq ?_
    refine reg ?_
    refine st tbOk 1 [1, 8] (L' := [(1, .pointer (some ⟨w.heap.size, 0, none⟩)), (8, .agg #[.int .u32 0, .int .u8 0, .int .u8 0, .int .u16 0, .int .u64 0, .int .u64 0])]) hf (by kernel_rfl) ?_
    clear hf; clear a; intro a hf
    refine ldC tbOk (T := 65) (hs.cbx 0 rfl) (LeH.refl _) 0 (.agg #[.int .u32 p_s.1, .int .u8 p_s.2.1, .int .u8 p_s.2.2.1, .int .u16 p_s.2.2.2.1, .int .u64 p_s.2.2.2.2.1, .int .u64 p_s.2.2.2.2.2]) hf (by kernel_rfl) (by kernel_rfl) (by kernel_rfl) (by kernel_rfl) ?_
    clear hf; clear a; intro a hf
    replace hs : Sep w F R w2 F1 [] := hs.sel [] rfl rfl
    replace hf := Fr.keep (ks := [8, 9]) (L' := [(8, .agg #[.int .u32 0, .int .u8 0, .int .u8 0, .int .u16 0, .int .u64 0, .int .u64 0]), (9, .agg #[.int .u32 p_s.1, .int .u8 p_s.2.1, .int .u8 p_s.2.2.1, .int .u16 p_s.2.2.2.1, .int .u64 p_s.2.2.2.2.1, .int .u64 p_s.2.2.2.2.2])]) hf (by kernel_rfl)
    refine bsR tbOk u69 i65 rfl (t := ty64) (vs := [(0, .agg #[.int .u32 0, .int .u8 0, .int .u8 0, .int .u16 0, .int .u64 0, .int .u64 0]), (1, .agg #[.int .u32 p_s.1, .int .u8 p_s.2.1, .int .u8 p_s.2.2.1, .int .u16 p_s.2.2.2.1, .int .u64 p_s.2.2.2.2.1, .int .u64 p_s.2.2.2.2.2])]) (cells := #[.int .u32 0, .int .u8 0, .int .u8 0, .int .u16 0, .int .u64 0, .int .u64 0, .int .u32 p_s.1, .int .u8 p_s.2.1, .int .u8 p_s.2.2.1, .int .u16 p_s.2.2.2.1, .int .u64 p_s.2.2.2.2.1, .int .u64 p_s.2.2.2.2.2]) ([(0, 0, 0, 0, 0, 0), (p_s.1, p_s.2.1, p_s.2.2.1, p_s.2.2.2.1, p_s.2.2.2.2.1, p_s.2.2.2.2.2)] : List (Int × Int × Int × Int × Int × Int)) hs.le hf (by kernel_rfl) (by kernel_rfl) (by kernel_rfl) rfl (by kernel_rfl) (reps_flat _) rfl ?_
    clear hf; clear a; intro w3 a ho hx hf
    replace hs : Sep w F R w3 F1 [.row 65 ty64 (.slice (some ⟨w2.heap.size, 0, none⟩) ([(0, 0, 0, 0, 0, 0), (p_s.1, p_s.2.1, p_s.2.2.1, p_s.2.2.2.1, p_s.2.2.2.2.1, p_s.2.2.2.2.2)] : List (Int × Int × Int × Int × Int × Int)).length ([(0, 0, 0, 0, 0, 0), (p_s.1, p_s.2.1, p_s.2.2.1, p_s.2.2.2.1, p_s.2.2.2.2.1, p_s.2.2.2.2.2)] : List (Int × Int × Int × Int × Int × Int)).length) ([(0, 0, 0, 0, 0, 0), (p_s.1, p_s.2.1, p_s.2.2.1, p_s.2.2.2.1, p_s.2.2.2.2.1, p_s.2.2.2.2.2)] : List (Int × Int × Int × Int × Int × Int))] := hs.newRow ho hx
    clear ho hx
    replace hf := Fr.keep (ks := [10]) (L' := [(10, .slice (some ⟨w2.heap.size, 0, none⟩) ([(0, 0, 0, 0, 0, 0), (p_s.1, p_s.2.1, p_s.2.2.1, p_s.2.2.2.1, p_s.2.2.2.2.1, p_s.2.2.2.2.2)] : List (Int × Int × Int × Int × Int × Int)).length ([(0, 0, 0, 0, 0, 0), (p_s.1, p_s.2.1, p_s.2.2.1, p_s.2.2.2.1, p_s.2.2.2.2.1, p_s.2.2.2.2.2)] : List (Int × Int × Int × Int × Int × Int)).length)]) hf (by kernel_rfl)
    refine st tbOk 1 [4] (L' := [(4, .slice (some ⟨w2.heap.size, 0, none⟩) ([(0, 0, 0, 0, 0, 0), (p_s.1, p_s.2.1, p_s.2.2.1, p_s.2.2.2.1, p_s.2.2.2.2.1, p_s.2.2.2.2.2)] : List (Int × Int × Int × Int × Int × Int)).length ([(0, 0, 0, 0, 0, 0), (p_s.1, p_s.2.1, p_s.2.2.1, p_s.2.2.2.1, p_s.2.2.2.2.1, p_s.2.2.2.2.2)] : List (Int × Int × Int × Int × Int × Int)).length)]) hf (by kernel_rfl) ?_
    clear hf; clear a; intro a hf
    refine wpList_nil ?_
    refine sq ?_
    refine ctj (fun (s1 : Bool) (a : Act) (w' : World) => ∃ (F2 : SH), Sep w F R w' F2 [] ∧ Fr 25 [(2, .bool s1)] a) hS ?_ ?_
    · clear hS hf hs; clear a; intro s1 a w6 hM hS
      obtain ⟨F2, hs, hf⟩ := hM
      have hr := Option.some.inj hS; subst hr
      refine wp_ret ?_
      exact ret_ok hf (vs := [.bool s1]) (by kernel_rfl) ⟨_, rfl, hs.sel [] rfl rfl⟩
    · clear hS; intro KK1 k1 hK1 hS
      refine regQ mixed (by kernel_rfl) ?_
      refine stQ tbOk 1 [4, 11] (L' := [(4, .slice (some ⟨w2.heap.size, 0, none⟩) ([(0, 0, 0, 0, 0, 0), (p_s.1, p_s.2.1, p_s.2.2.1, p_s.2.2.2.1, p_s.2.2.2.2.1, p_s.2.2.2.2.2)] : List (Int × Int × Int × Int × Int × Int)).length ([(0, 0, 0, 0, 0, 0), (p_s.1, p_s.2.1, p_s.2.2.1, p_s.2.2.2.1, p_s.2.2.2.2.1, p_s.2.2.2.2.2)] : List (Int × Int × Int × Int × Int × Int)).length), (11, .slice (some ⟨w2.heap.size, 0, none⟩) ([(0, 0, 0, 0, 0, 0), (p_s.1, p_s.2.1, p_s.2.2.1, p_s.2.2.2.1, p_s.2.2.2.2.1, p_s.2.2.2.2.2)] : List (Int × Int × Int × Int × Int × Int)).length ([(0, 0, 0, 0, 0, 0), (p_s.1, p_s.2.1, p_s.2.2.1, p_s.2.2.2.1, p_s.2.2.2.2.1, p_s.2.2.2.2.2)] : List (Int × Int × Int × Int × Int × Int)).length)]) hf (by kernel_rfl) ?_
      clear hf; clear a; intro a hf
      have hT := of_bd hS; clear hS; obtain ⟨z2, hz2, hS⟩ := hT
      refine clVQ ent33 (vs := [.slice (some ⟨w2.heap.size, 0, none⟩) ([(0, 0, 0, 0, 0, 0), (p_s.1, p_s.2.1, p_s.2.2.1, p_s.2.2.2.1, p_s.2.2.2.2.1, p_s.2.2.2.2.2)] : List (Int × Int × Int × Int × Int × Int)).length ([(0, 0, 0, 0, 0, 0), (p_s.1, p_s.2.1, p_s.2.2.1, p_s.2.2.2.1, p_s.2.2.2.2.1, p_s.2.2.2.2.2)] : List (Int × Int × Int × Int × Int × Int)).length]) (caps := []) hf (by kernel_rfl) (by kernel_rfl) (by kernel_rfl) (by kernel_rfl) (.int .i64 z2) (fun wq hq => (symbols_Check_ok (p_l := ([(0, 0, 0, 0, 0, 0), (p_s.1, p_s.2.1, p_s.2.2.1, p_s.2.2.2.1, p_s.2.2.2.2.1, p_s.2.2.2.2.2)] : List (Int × Int × Int × Int × Int × Int))) (hs.lendQ hq [0] rfl rfl) hz2).mono fun _ _ h => Gives.mono (fun _ ⟨_, e, h⟩ => ⟨e, h.ex (pers_blks rfl)⟩) h) ?_
      clear hf; clear a; intro a hf
      replace hf := Fr.keep (ks := [4, 12]) (L' := [(4, .slice (some ⟨w2.heap.size, 0, none⟩) ([(0, 0, 0, 0, 0, 0), (p_s.1, p_s.2.1, p_s.2.2.1, p_s.2.2.2.1, p_s.2.2.2.2.1, p_s.2.2.2.2.2)] : List (Int × Int × Int × Int × Int × Int)).length ([(0, 0, 0, 0, 0, 0), (p_s.1, p_s.2.1, p_s.2.2.1, p_s.2.2.2.1, p_s.2.2.2.2.1, p_s.2.2.2.2.2)] : List (Int × Int × Int × Int × Int × Int)).length), (12, .int .i64 z2)]) hf (by kernel_rfl)
      refine stQ tbOk 1 [4, 12, 13] (L' := [(4, .slice (some ⟨w2.heap.size, 0, none⟩) ([(0, 0, 0, 0, 0, 0), (p_s.1, p_s.2.1, p_s.2.2.1, p_s.2.2.2.1, p_s.2.2.2.2.1, p_s.2.2.2.2.2)] : List (Int × Int × Int × Int × Int × Int)).length ([(0, 0, 0, 0, 0, 0), (p_s.1, p_s.2.1, p_s.2.2.1, p_s.2.2.2.1, p_s.2.2.2.2.1, p_s.2.2.2.2.2)] : List (Int × Int × Int × Int × Int × Int)).length), (12, .int .i64 z2), (13, .slice (some ⟨w2.heap.size, 0, none⟩) ([(0, 0, 0, 0, 0, 0), (p_s.1, p_s.2.1, p_s.2.2.1, p_s.2.2.2.1, p_s.2.2.2.2.1, p_s.2.2.2.2.2)] : List (Int × Int × Int × Int × Int × Int)).length ([(0, 0, 0, 0, 0, 0), (p_s.1, p_s.2.1, p_s.2.2.1, p_s.2.2.2.1, p_s.2.2.2.2.1, p_s.2.2.2.2.2)] : List (Int × Int × Int × Int × Int × Int)).length)]) hf (by kernel_rfl) ?_
      clear hf; clear a; intro a hf
      have hT := of_bd hS; clear hS; obtain ⟨z3, hz3, hS⟩ := hT
      refine clVQ ent34 (vs := [.slice (some ⟨w2.heap.size, 0, none⟩) ([(0, 0, 0, 0, 0, 0), (p_s.1, p_s.2.1, p_s.2.2.1, p_s.2.2.2.1, p_s.2.2.2.2.1, p_s.2.2.2.2.2)] : List (Int × Int × Int × Int × Int × Int)).length ([(0, 0, 0, 0, 0, 0), (p_s.1, p_s.2.1, p_s.2.2.1, p_s.2.2.2.1, p_s.2.2.2.2.1, p_s.2.2.2.2.2)] : List (Int × Int × Int × Int × Int × Int)).length]) (caps := []) hf (by kernel_rfl) (by kernel_rfl) (by kernel_rfl) (by kernel_rfl) (.int .i64 z3) (fun wq hq => (ref06_Check_ok (p_l := ([(0, 0, 0, 0, 0, 0), (p_s.1, p_s.2.1, p_s.2.2.1, p_s.2.2.2.1, p_s.2.2.2.2.1, p_s.2.2.2.2.2)] : List (Int × Int × Int × Int × Int × Int))) (hs.lendQ hq [0] rfl rfl) hz3).mono fun _ _ h => Gives.mono (fun _ ⟨_, e, h⟩ => ⟨e, h.ex (pers_blks rfl)⟩) h) ?_
      clear hf; clear a; intro a hf
      replace hf := Fr.keep (ks := [4, 12, 14]) (L' := [(4, .slice (some ⟨w2.heap.size, 0, none⟩) ([(0, 0, 0, 0, 0, 0), (p_s.1, p_s.2.1, p_s.2.2.1, p_s.2.2.2.1, p_s.2.2.2.2.1, p_s.2.2.2.2.2)] : List (Int × Int × Int × Int × Int × Int)).length ([(0, 0, 0, 0, 0, 0), (p_s.1, p_s.2.1, p_s.2.2.1, p_s.2.2.2.1, p_s.2.2.2.2.1, p_s.2.2.2.2.2)] : List (Int × Int × Int × Int × Int × Int)).length), (12, .int .i64 z2), (14, .int .i64 z3)]) hf (by kernel_rfl)
      refine stQ tbOk 2 [4, 16] (L' := [(4, .slice (some ⟨w2.heap.size, 0, none⟩) ([(0, 0, 0, 0, 0, 0), (p_s.1, p_s.2.1, p_s.2.2.1, p_s.2.2.2.1, p_s.2.2.2.2.1, p_s.2.2.2.2.2)] : List (Int × Int × Int × Int × Int × Int)).length ([(0, 0, 0, 0, 0, 0), (p_s.1, p_s.2.1, p_s.2.2.1, p_s.2.2.2.1, p_s.2.2.2.2.1, p_s.2.2.2.2.2)] : List (Int × Int × Int × Int × Int × Int)).length), (16, .bool (z2 == z3))]) hf (by kernel_rfl) ?_
      clear hf; clear a; intro a hf
      rcases Bool.eq_false_or_eq_true (z2 == z3) with hb2 | hb2
      · replace hS := of_t hb2 hS
        replace hf := Fr.cast (L' := [(4, .slice (some ⟨w2.heap.size, 0, none⟩) ([(0, 0, 0, 0, 0, 0), (p_s.1, p_s.2.1, p_s.2.2.1, p_s.2.2.2.1, p_s.2.2.2.2.1, p_s.2.2.2.2.2)] : List (Int × Int × Int × Int × Int × Int)).length ([(0, 0, 0, 0, 0, 0), (p_s.1, p_s.2.1, p_s.2.2.1, p_s.2.2.2.1, p_s.2.2.2.2.1, p_s.2.2.2.2.2)] : List (Int × Int × Int × Int × Int × Int)).length), (16, .bool true)]) hf (by rw [hb2])
        refine stQ tbOk 1 [4, 16, 17] (L' := [(4, .slice (some ⟨w2.heap.size, 0, none⟩) ([(0, 0, 0, 0, 0, 0), (p_s.1, p_s.2.1, p_s.2.2.1, p_s.2.2.2.1, p_s.2.2.2.2.1, p_s.2.2.2.2.2)] : List (Int × Int × Int × Int × Int × Int)).length ([(0, 0, 0, 0, 0, 0), (p_s.1, p_s.2.1, p_s.2.2.1, p_s.2.2.2.1, p_s.2.2.2.2.1, p_s.2.2.2.2.2)] : List (Int × Int × Int × Int × Int × Int)).length), (16, .bool true), (17, .slice (some ⟨w2.heap.size, 0, none⟩) ([(0, 0, 0, 0, 0, 0), (p_s.1, p_s.2.1, p_s.2.2.1, p_s.2.2.2.1, p_s.2.2.2.2.1, p_s.2.2.2.2.2)] : List (Int × Int × Int × Int × Int × Int)).length ([(0, 0, 0, 0, 0, 0), (p_s.1, p_s.2.1, p_s.2.2.1, p_s.2.2.2.1, p_s.2.2.2.2.1, p_s.2.2.2.2.2)] : List (Int × Int × Int × Int × Int × Int)).length)]) hf (by kernel_rfl) ?_
        clear hf; clear a; intro a hf
        have hT := of_gd hS; clear hS; obtain ⟨hc1, hS⟩ := hT
        obtain ⟨F3, _, hs⟩ := hs.frz 0 rfl
        replace hs : Sep w F R w3 F3 [.ro ty64 (.slice (some ⟨w2.heap.size, 0, none⟩) ([(0, 0, 0, 0, 0, 0), (p_s.1, p_s.2.1, p_s.2.2.1, p_s.2.2.2.1, p_s.2.2.2.2.1, p_s.2.2.2.2.2)] : List (Int × Int × Int × Int × Int × Int)).length ([(0, 0, 0, 0, 0, 0), (p_s.1, p_s.2.1, p_s.2.2.1, p_s.2.2.2.1, p_s.2.2.2.2.1, p_s.2.2.2.2.2)] : List (Int × Int × Int × Int × Int × Int)).length) ([(0, 0, 0, 0, 0, 0), (p_s.1, p_s.2.1, p_s.2.2.1, p_s.2.2.2.1, p_s.2.2.2.2.1, p_s.2.2.2.2.2)] : List (Int × Int × Int × Int × Int × Int))] := hs
        refine slQ tbOk u69 i65 rfl (hs.ro 0 rfl) (lo := 1) (hi := ((([(0, 0, 0, 0, 0, 0), (p_s.1, p_s.2.1, p_s.2.2.1, p_s.2.2.2.1, p_s.2.2.2.2.1, p_s.2.2.2.2.2)] : List (Int × Int × Int × Int × Int × Int)).length : Nat) : Int)) (m := 0) hc1 (.inr ⟨_, .i64, rfl, by kernel_rfl⟩) (.inl ⟨rfl, rfl⟩) (.inl rfl) hf (by kernel_rfl) (by kernel_rfl) (by kernel_rfl) ?_
        clear hf; clear a; intro ao1 cp1 a hr1 hf
        replace hs : Sep w F R w3 F3 [.ro ty64 (.slice ao1 (cutL ([(0, 0, 0, 0, 0, 0), (p_s.1, p_s.2.1, p_s.2.2.1, p_s.2.2.2.1, p_s.2.2.2.2.1, p_s.2.2.2.2.2)] : List (Int × Int × Int × Int × Int × Int)) 1 ((([(0, 0, 0, 0, 0, 0), (p_s.1, p_s.2.1, p_s.2.2.1, p_s.2.2.2.1, p_s.2.2.2.2.1, p_s.2.2.2.2.2)] : List (Int × Int × Int × Int × Int × Int)).length : Nat) : Int)).length cp1) (cutL ([(0, 0, 0, 0, 0, 0), (p_s.1, p_s.2.1, p_s.2.2.1, p_s.2.2.2.1, p_s.2.2.2.2.1, p_s.2.2.2.2.2)] : List (Int × Int × Int × Int × Int × Int)) 1 ((([(0, 0, 0, 0, 0, 0), (p_s.1, p_s.2.1, p_s.2.2.1, p_s.2.2.2.1, p_s.2.2.2.2.1, p_s.2.2.2.2.2)] : List (Int × Int × Int × Int × Int × Int)).length : Nat) : Int)), .ro ty64 (.slice (some ⟨w2.heap.size, 0, none⟩) ([(0, 0, 0, 0, 0, 0), (p_s.1, p_s.2.1, p_s.2.2.1, p_s.2.2.2.1, p_s.2.2.2.2.1, p_s.2.2.2.2.2)] : List (Int × Int × Int × Int × Int × Int)).length ([(0, 0, 0, 0, 0, 0), (p_s.1, p_s.2.1, p_s.2.2.1, p_s.2.2.2.1, p_s.2.2.2.2.1, p_s.2.2.2.2.2)] : List (Int × Int × Int × Int × Int × Int)).length) ([(0, 0, 0, 0, 0, 0), (p_s.1, p_s.2.1, p_s.2.2.1, p_s.2.2.2.1, p_s.2.2.2.2.1, p_s.2.2.2.2.2)] : List (Int × Int × Int × Int × Int × Int))] := hs.addRo hr1
        replace hf := Fr.keep (ks := [4, 16, 18]) (L' := [(4, .slice (some ⟨w2.heap.size, 0, none⟩) ([(0, 0, 0, 0, 0, 0), (p_s.1, p_s.2.1, p_s.2.2.1, p_s.2.2.2.1, p_s.2.2.2.2.1, p_s.2.2.2.2.2)] : List (Int × Int × Int × Int × Int × Int)).length ([(0, 0, 0, 0, 0, 0), (p_s.1, p_s.2.1, p_s.2.2.1, p_s.2.2.2.1, p_s.2.2.2.2.1, p_s.2.2.2.2.2)] : List (Int × Int × Int × Int × Int × Int)).length), (16, .bool true), (18, .slice ao1 (cutL ([(0, 0, 0, 0, 0, 0), (p_s.1, p_s.2.1, p_s.2.2.1, p_s.2.2.2.1, p_s.2.2.2.2.1, p_s.2.2.2.2.2)] : List (Int × Int × Int × Int × Int × Int)) 1 ((([(0, 0, 0, 0, 0, 0), (p_s.1, p_s.2.1, p_s.2.2.1, p_s.2.2.2.1, p_s.2.2.2.2.1, p_s.2.2.2.2.2)] : List (Int × Int × Int × Int × Int × Int)).length : Nat) : Int)).length cp1)]) hf (by kernel_rfl)
        have hT := of_bd hS; clear hS; obtain ⟨z4, hz4, hS⟩ := hT
        refine clVQ ent33 (vs := [.slice ao1 (cutL ([(0, 0, 0, 0, 0, 0), (p_s.1, p_s.2.1, p_s.2.2.1, p_s.2.2.2.1, p_s.2.2.2.2.1, p_s.2.2.2.2.2)] : List (Int × Int × Int × Int × Int × Int)) 1 ((([(0, 0, 0, 0, 0, 0), (p_s.1, p_s.2.1, p_s.2.2.1, p_s.2.2.2.1, p_s.2.2.2.2.1, p_s.2.2.2.2.2)] : List (Int × Int × Int × Int × Int × Int)).length : Nat) : Int)).length cp1]) (caps := []) hf (by kernel_rfl) (by kernel_rfl) (by kernel_rfl) (by kernel_rfl) (.int .i64 z4) (fun wq hq => (symbols_Check_ok (p_l := (cutL ([(0, 0, 0, 0, 0, 0), (p_s.1, p_s.2.1, p_s.2.2.1, p_s.2.2.2.1, p_s.2.2.2.2.1, p_s.2.2.2.2.2)] : List (Int × Int × Int × Int × Int × Int)) 1 ((([(0, 0, 0, 0, 0, 0), (p_s.1, p_s.2.1, p_s.2.2.1, p_s.2.2.2.1, p_s.2.2.2.2.1, p_s.2.2.2.2.2)] : List (Int × Int × Int × Int × Int × Int)).length : Nat) : Int))) (hs.lendQ hq [0] rfl rfl) hz4).mono fun _ _ h => Gives.mono (fun _ ⟨_, e, h⟩ => ⟨e, h.ex (pers_blks rfl)⟩) h) ?_
        clear hf; clear a; intro a hf
        replace hs : Sep w F R w3 F3 [.ro ty64 (.slice (some ⟨w2.heap.size, 0, none⟩) ([(0, 0, 0, 0, 0, 0), (p_s.1, p_s.2.1, p_s.2.2.1, p_s.2.2.2.1, p_s.2.2.2.2.1, p_s.2.2.2.2.2)] : List (Int × Int × Int × Int × Int × Int)).length ([(0, 0, 0, 0, 0, 0), (p_s.1, p_s.2.1, p_s.2.2.1, p_s.2.2.2.1, p_s.2.2.2.2.1, p_s.2.2.2.2.2)] : List (Int × Int × Int × Int × Int × Int)).length) ([(0, 0, 0, 0, 0, 0), (p_s.1, p_s.2.1, p_s.2.2.1, p_s.2.2.2.1, p_s.2.2.2.2.1, p_s.2.2.2.2.2)] : List (Int × Int × Int × Int × Int × Int))] := hs.sel [1] rfl rfl
        replace hf := Fr.keep (ks := [4, 16, 19]) (L' := [(4, .slice (some ⟨w2.heap.size, 0, none⟩) ([(0, 0, 0, 0, 0, 0), (p_s.1, p_s.2.1, p_s.2.2.1, p_s.2.2.2.1, p_s.2.2.2.2.1, p_s.2.2.2.2.2)] : List (Int × Int × Int × Int × Int × Int)).length ([(0, 0, 0, 0, 0, 0), (p_s.1, p_s.2.1, p_s.2.2.1, p_s.2.2.2.1, p_s.2.2.2.2.1, p_s.2.2.2.2.2)] : List (Int × Int × Int × Int × Int × Int)).length), (16, .bool true), (19, .int .i64 z4)]) hf (by kernel_rfl)
        refine stQ tbOk 1 [16, 19, 20] (L' := [(16, .bool true), (19, .int .i64 z4), (20, .slice (some ⟨w2.heap.size, 0, none⟩) ([(0, 0, 0, 0, 0, 0), (p_s.1, p_s.2.1, p_s.2.2.1, p_s.2.2.2.1, p_s.2.2.2.2.1, p_s.2.2.2.2.2)] : List (Int × Int × Int × Int × Int × Int)).length ([(0, 0, 0, 0, 0, 0), (p_s.1, p_s.2.1, p_s.2.2.1, p_s.2.2.2.1, p_s.2.2.2.2.1, p_s.2.2.2.2.2)] : List (Int × Int × Int × Int × Int × Int)).length)]) hf (by kernel_rfl) ?_
        clear hf; clear a; intro a hf
        have hT := of_gd hS; clear hS; obtain ⟨hc2, hS⟩ := hT
        refine slQ tbOk u69 i65 rfl (hs.ro 0 rfl) (lo := 1) (hi := ((([(0, 0, 0, 0, 0, 0), (p_s.1, p_s.2.1, p_s.2.2.1, p_s.2.2.2.1, p_s.2.2.2.2.1, p_s.2.2.2.2.2)] : List (Int × Int × Int × Int × Int × Int)).length : Nat) : Int)) (m := 0) hc2 (.inr ⟨_, .i64, rfl, by kernel_rfl⟩) (.inl ⟨rfl, rfl⟩) (.inl rfl) hf (by kernel_rfl) (by kernel_rfl) (by kernel_rfl) ?_
        clear hf; clear a; intro ao2 cp2 a hr2 hf
        replace hs : Sep w F R w3 F3 [.ro ty64 (.slice ao2 (cutL ([(0, 0, 0, 0, 0, 0), (p_s.1, p_s.2.1, p_s.2.2.1, p_s.2.2.2.1, p_s.2.2.2.2.1, p_s.2.2.2.2.2)] : List (Int × Int × Int × Int × Int × Int)) 1 ((([(0, 0, 0, 0, 0, 0), (p_s.1, p_s.2.1, p_s.2.2.1, p_s.2.2.2.1, p_s.2.2.2.2.1, p_s.2.2.2.2.2)] : List (Int × Int × Int × Int × Int × Int)).length : Nat) : Int)).length cp2) (cutL ([(0, 0, 0, 0, 0, 0), (p_s.1, p_s.2.1, p_s.2.2.1, p_s.2.2.2.1, p_s.2.2.2.2.1, p_s.2.2.2.2.2)] : List (Int × Int × Int × Int × Int × Int)) 1 ((([(0, 0, 0, 0, 0, 0), (p_s.1, p_s.2.1, p_s.2.2.1, p_s.2.2.2.1, p_s.2.2.2.2.1, p_s.2.2.2.2.2)] : List (Int × Int × Int × Int × Int × Int)).length : Nat) : Int)), .ro ty64 (.slice (some ⟨w2.heap.size, 0, none⟩) ([(0, 0, 0, 0, 0, 0), (p_s.1, p_s.2.1, p_s.2.2.1, p_s.2.2.2.1, p_s.2.2.2.2.1, p_s.2.2.2.2.2)] : List (Int × Int × Int × Int × Int × Int)).length ([(0, 0, 0, 0, 0, 0), (p_s.1, p_s.2.1, p_s.2.2.1, p_s.2.2.2.1, p_s.2.2.2.2.1, p_s.2.2.2.2.2)] : List (Int × Int × Int × Int × Int × Int)).length) ([(0, 0, 0, 0, 0, 0), (p_s.1, p_s.2.1, p_s.2.2.1, p_s.2.2.2.1, p_s.2.2.2.2.1, p_s.2.2.2.2.2)] : List (Int × Int × Int × Int × Int × Int))] := hs.addRo hr2
        replace hs : Sep w F R w3 F3 [.ro ty64 (.slice ao2 (cutL ([(0, 0, 0, 0, 0, 0), (p_s.1, p_s.2.1, p_s.2.2.1, p_s.2.2.2.1, p_s.2.2.2.2.1, p_s.2.2.2.2.2)] : List (Int × Int × Int × Int × Int × Int)) 1 ((([(0, 0, 0, 0, 0, 0), (p_s.1, p_s.2.1, p_s.2.2.1, p_s.2.2.2.1, p_s.2.2.2.2.1, p_s.2.2.2.2.2)] : List (Int × Int × Int × Int × Int × Int)).length : Nat) : Int)).length cp2) (cutL ([(0, 0, 0, 0, 0, 0), (p_s.1, p_s.2.1, p_s.2.2.1, p_s.2.2.2.1, p_s.2.2.2.2.1, p_s.2.2.2.2.2)] : List (Int × Int × Int × Int × Int × Int)) 1 ((([(0, 0, 0, 0, 0, 0), (p_s.1, p_s.2.1, p_s.2.2.1, p_s.2.2.2.1, p_s.2.2.2.2.1, p_s.2.2.2.2.2)] : List (Int × Int × Int × Int × Int × Int)).length : Nat) : Int))] := hs.sel [0] rfl rfl
        replace hf := Fr.keep (ks := [16, 19, 21]) (L' := [(16, .bool true), (19, .int .i64 z4), (21, .slice ao2 (cutL ([(0, 0, 0, 0, 0, 0), (p_s.1, p_s.2.1, p_s.2.2.1, p_s.2.2.2.1, p_s.2.2.2.2.1, p_s.2.2.2.2.2)] : List (Int × Int × Int × Int × Int × Int)) 1 ((([(0, 0, 0, 0, 0, 0), (p_s.1, p_s.2.1, p_s.2.2.1, p_s.2.2.2.1, p_s.2.2.2.2.1, p_s.2.2.2.2.2)] : List (Int × Int × Int × Int × Int × Int)).length : Nat) : Int)).length cp2)]) hf (by kernel_rfl)
        have hT := of_bd hS; clear hS; obtain ⟨z5, hz5, hS⟩ := hT
        refine clVQ ent34 (vs := [.slice ao2 (cutL ([(0, 0, 0, 0, 0, 0), (p_s.1, p_s.2.1, p_s.2.2.1, p_s.2.2.2.1, p_s.2.2.2.2.1, p_s.2.2.2.2.2)] : List (Int × Int × Int × Int × Int × Int)) 1 ((([(0, 0, 0, 0, 0, 0), (p_s.1, p_s.2.1, p_s.2.2.1, p_s.2.2.2.1, p_s.2.2.2.2.1, p_s.2.2.2.2.2)] : List (Int × Int × Int × Int × Int × Int)).length : Nat) : Int)).length cp2]) (caps := []) hf (by kernel_rfl) (by kernel_rfl) (by kernel_rfl) (by kernel_rfl) (.int .i64 z5) (fun wq hq => (ref06_Check_ok (p_l := (cutL ([(0, 0, 0, 0, 0, 0), (p_s.1, p_s.2.1, p_s.2.2.1, p_s.2.2.2.1, p_s.2.2.2.2.1, p_s.2.2.2.2.2)] : List (Int × Int × Int × Int × Int × Int)) 1 ((([(0, 0, 0, 0, 0, 0), (p_s.1, p_s.2.1, p_s.2.2.1, p_s.2.2.2.1, p_s.2.2.2.2.1, p_s.2.2.2.2.2)] : List (Int × Int × Int × Int × Int × Int)).length : Nat) : Int))) (hs.lendQ hq [0] rfl rfl) hz5).mono fun _ _ h => Gives.mono (fun _ ⟨_, e, h⟩ => ⟨e, h.ex (pers_blks rfl)⟩) h) ?_
        clear hf; clear a; intro a hf
        replace hs : Sep w F R w3 F3 [] := hs.sel [] rfl rfl
        replace hf := Fr.keep (ks := [16, 19, 22]) (L' := [(16, .bool true), (19, .int .i64 z4), (22, .int .i64 z5)]) hf (by kernel_rfl)
        refine stQ tbOk 3 [2] (L' := [(2, .bool (z4 == z5))]) hf (by kernel_rfl) ?_
        clear hf; clear a; intro a hf
        refine wpQuiet_nil ?_
        intro w4 hx
        replace hs : Sep w F R w4 F3 [] := hs.ext hx
        clear hx
        exact hK1 (z4 == z5) _ _ ⟨_, hs.sel [] rfl rfl, hf.keep (ks := [2]) (by kernel_rfl)⟩ hS
      · replace hS := of_f hb2 hS
        replace hf := Fr.cast (L' := [(4, .slice (some ⟨w2.heap.size, 0, none⟩) ([(0, 0, 0, 0, 0, 0), (p_s.1, p_s.2.1, p_s.2.2.1, p_s.2.2.2.1, p_s.2.2.2.2.1, p_s.2.2.2.2.2)] : List (Int × Int × Int × Int × Int × Int)).length ([(0, 0, 0, 0, 0, 0), (p_s.1, p_s.2.1, p_s.2.2.1, p_s.2.2.2.1, p_s.2.2.2.2.1, p_s.2.2.2.2.2)] : List (Int × Int × Int × Int × Int × Int)).length), (16, .bool false)]) hf (by rw [hb2])
        refine stQ tbOk 9 [2] (L' := [(2, .bool false)]) hf (by kernel_rfl) ?_
        clear hf; clear a; intro a hf
        refine wpQuiet_nil ?_
        intro w5 hx
        replace hs : Sep w F R w5 F1 [.row 65 ty64 (.slice (some ⟨w2.heap.size, 0, none⟩) ([(0, 0, 0, 0, 0, 0), (p_s.1, p_s.2.1, p_s.2.2.1, p_s.2.2.2.1, p_s.2.2.2.2.1, p_s.2.2.2.2.2)] : List (Int × Int × Int × Int × Int × Int)).length ([(0, 0, 0, 0, 0, 0), (p_s.1, p_s.2.1, p_s.2.2.1, p_s.2.2.2.1, p_s.2.2.2.2.1, p_s.2.2.2.2.2)] : List (Int × Int × Int × Int × Int × Int)).length) ([(0, 0, 0, 0, 0, 0), (p_s.1, p_s.2.1, p_s.2.2.1, p_s.2.2.2.1, p_s.2.2.2.2.1, p_s.2.2.2.2.2)] : List (Int × Int × Int × Int × Int × Int))] := hs.ext hx
        clear hx
        exact hK1 false _ _ ⟨_, hs.sel [] rfl rfl, hf.keep (ks := [2]) (by kernel_rfl)⟩ hS

end Dm
