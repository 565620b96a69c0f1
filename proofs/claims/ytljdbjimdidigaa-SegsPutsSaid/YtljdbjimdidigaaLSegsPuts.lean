/-
  The walk of the law SegsPuts; printed by a program of this repo. No condition.
-/
import Derived.Test.YtljdbjimdidigaaWT
import Derived.Test.YtljdbjimdidigaaW0
import Derived.Test.YtljdbjimdidigaaW1
import Derived.Test.YtljdbjimdidigaaW2
namespace Dm
open Go Go.RowKit Go.Proofs

set_option maxHeartbeats 4000000 in
theorem law04_SegsPuts_ok {w : World} {F : SH} {p_s : Int × Int × Int × Int × Int × Int × Int}  (hs : Sep w F (blks []) w F []) {r : Bool} (hS : law04_SegsPuts p_s = some r) :
    Calls Try.prog 3 [.agg #[.int .u32 p_s.1, .int .u32 p_s.2.1, .int .u64 p_s.2.2.1, .int .u64 p_s.2.2.2.1, .int .u64 p_s.2.2.2.2.1, .int .u64 p_s.2.2.2.2.2.1, .int .u64 p_s.2.2.2.2.2.2]].toArray w (Gives (fun u w' => ∃ (F' : SH), u = .bool r ∧ Sep w F (blks []) w' F' [])) := by
  generalize (blks []) = R at hs ⊢
  unfold law04_SegsPuts at hS
  refine fn_ok (vs := [.agg #[.int .u32 p_s.1, .int .u32 p_s.2.1, .int .u64 p_s.2.2.1, .int .u64 p_s.2.2.2.1, .int .u64 p_s.2.2.2.2.1, .int .u64 p_s.2.2.2.2.2.1, .int .u64 p_s.2.2.2.2.2.2]]) Try.func3 rfl 32 Try.ntmps3 (Nat.le_of_ble_eq_true rfl) ?_
  intro a hf
  replace hf := Fr.cast (L' := [(0, .agg #[.int .u32 p_s.1, .int .u32 p_s.2.1, .int .u64 p_s.2.2.1, .int .u64 p_s.2.2.2.1, .int .u64 p_s.2.2.2.2.1, .int .u64 p_s.2.2.2.2.2.1, .int .u64 p_s.2.2.2.2.2.2])]) hf (by kernel_rfl)
  refine sq ?_
  refine reg ?_
  refine bx (T := 25) [.int .u32 p_s.1, .int .u32 p_s.2.1, .int .u64 p_s.2.2.1, .int .u64 p_s.2.2.2.1, .int .u64 p_s.2.2.2.2.1, .int .u64 p_s.2.2.2.2.2.1, .int .u64 p_s.2.2.2.2.2.2] (v := .agg #[.int .u32 p_s.1, .int .u32 p_s.2.1, .int .u64 p_s.2.2.1, .int .u64 p_s.2.2.2.1, .int .u64 p_s.2.2.2.2.1, .int .u64 p_s.2.2.2.2.2.1, .int .u64 p_s.2.2.2.2.2.2]) rfl (by kernel_rfl) hf (by kernel_rfl) (by kernel_rfl) (by kernel_rfl) ?_
  clear hf; clear a; intro w1 a hb hx _ hf
  replace hs : Sep w F R w1 F [.box w.heap.size 25 [.int .u32 p_s.1, .int .u32 p_s.2.1, .int .u64 p_s.2.2.1, .int .u64 p_s.2.2.2.1, .int .u64 p_s.2.2.2.2.1, .int .u64 p_s.2.2.2.2.2.1, .int .u64 p_s.2.2.2.2.2.2]] := hs.newBox hb hx
  clear hb hx
  replace hf := Fr.keep (ks := [1]) (L' := [(1, .pointer (some ⟨w.heap.size, 0, none⟩))]) hf (by kernel_rfl)
  refine st tbOk 1 [1] (L' := [(1, .pointer (some ⟨w.heap.size, 0, none⟩))]) hf (by kernel_rfl) ?_
  clear hf; clear a; intro a hf
  refine wpList_nil ?_
  refine sq ?_
  refine reg ?_
  have hT := of_bd hS; clear hS; obtain ⟨z1, hz1, hS⟩ := hT
  refine clV ent11 (vs := []) (caps := []) hf (by kernel_rfl) (by kernel_rfl) (by kernel_rfl) (by kernel_rfl) (law04_awake_ok (hs.enter [] rfl rfl) hz1) ?_
  clear hf; clear a; intro v w2 a hT hf; obtain ⟨F1, rfl, hr⟩ := hT
  replace hs : Sep w F R w2 F1 [.box w.heap.size 25 [.int .u32 p_s.1, .int .u32 p_s.2.1, .int .u64 p_s.2.2.1, .int .u64 p_s.2.2.2.1, .int .u64 p_s.2.2.2.2.1, .int .u64 p_s.2.2.2.2.2.1, .int .u64 p_s.2.2.2.2.2.2]] := hs.back [] [0] rfl rfl rfl rfl hr
  clear hr
  replace hf := Fr.keep (ks := [1, 7]) (L' := [(1, .pointer (some ⟨w.heap.size, 0, none⟩)), (7, .bool z1)]) hf (by kernel_rfl)
  refine st tbOk 1 [1, 3] (L' := [(1, .pointer (some ⟨w.heap.size, 0, none⟩)), (3, .bool z1)]) hf (by kernel_rfl) ?_
  clear hf; clear a; intro a hf
  refine wpList_nil ?_
  refine sq ?_
  refine sq ?_
  refine reg ?_
  refine st tbOk 2 [1, 9] (L' := [(1, .pointer (some ⟨w.heap.size, 0, none⟩)), (9, .bool (!z1))]) hf (by kernel_rfl) ?_
  clear hf; clear a; intro a hf
  refine wpList_nil ?_
  refine cnd (b := !z1) hf (by kernel_rfl) (fun hb1 => ?_) (fun hb1 => ?_)
  · replace hS := of_t hb1 hS
    refine sq ?_
    refine reg ?_
    refine st tbOk 1 [2] (L' := [(2, .bool false)]) hf (by kernel_rfl) ?_
    clear hf; clear a; intro a hf
    refine wpList_nil ?_
    have hr := Option.some.inj hS; subst hr
    refine wp_ret ?_
    exact ret_ok hf (vs := [.bool false]) (by kernel_rfl) ⟨_, rfl, hs.sel [] rfl rfl⟩
  · replace hS := of_f hb1 hS
    refine wp_skip ?_
    refine sq ?_
    refine reg ?_
    refine ldC tbOk (T := 25) (hs.cbx 0 rfl) (LeH.refl _) 0 (.agg #[.int .u32 p_s.1, .int .u32 p_s.2.1, .int .u64 p_s.2.2.1, .int .u64 p_s.2.2.2.1, .int .u64 p_s.2.2.2.2.1, .int .u64 p_s.2.2.2.2.2.1, .int .u64 p_s.2.2.2.2.2.2]) hf (by kernel_rfl) (by kernel_rfl) (by kernel_rfl) (by kernel_rfl) ?_
    clear hf; clear a; intro a hf
    replace hf := Fr.keep (ks := [1, 10]) (L' := [(1, .pointer (some ⟨w.heap.size, 0, none⟩)), (10, .agg #[.int .u32 p_s.1, .int .u32 p_s.2.1, .int .u64 p_s.2.2.1, .int .u64 p_s.2.2.2.1, .int .u64 p_s.2.2.2.2.1, .int .u64 p_s.2.2.2.2.2.1, .int .u64 p_s.2.2.2.2.2.2])]) hf (by kernel_rfl)
    have hT := of_bd hS; clear hS; obtain ⟨z2, hz2, hS⟩ := hT
    refine clV ent12 (vs := [.agg #[.int .u32 p_s.1, .int .u32 p_s.2.1, .int .u64 p_s.2.2.1, .int .u64 p_s.2.2.2.1, .int .u64 p_s.2.2.2.2.1, .int .u64 p_s.2.2.2.2.2.1, .int .u64 p_s.2.2.2.2.2.2]]) (caps := []) hf (by kernel_rfl) (by kernel_rfl) (by kernel_rfl) (by kernel_rfl) (segs_Put_ok (p_s := (p_s.1, p_s.2.1, p_s.2.2.1, p_s.2.2.2.1, p_s.2.2.2.2.1, p_s.2.2.2.2.2.1, p_s.2.2.2.2.2.2)) (hs.enter [] rfl rfl) hz2) ?_
    clear hf; clear a; intro v w3 a hT hf; obtain ⟨ao1, cp1, F2, rfl, hr⟩ := hT
    replace hs : Sep w F R w3 F2 [.row 5 (tI .u8) (.slice ao1 z2.length cp1) z2, .box w.heap.size 25 [.int .u32 p_s.1, .int .u32 p_s.2.1, .int .u64 p_s.2.2.1, .int .u64 p_s.2.2.2.1, .int .u64 p_s.2.2.2.2.1, .int .u64 p_s.2.2.2.2.2.1, .int .u64 p_s.2.2.2.2.2.2]] := hs.back [] [0] rfl rfl rfl rfl hr
    clear hr
    replace hf := Fr.keep (ks := [1, 11]) (L' := [(1, .pointer (some ⟨w.heap.size, 0, none⟩)), (11, .slice ao1 z2.length cp1)]) hf (by kernel_rfl)
    refine st tbOk 1 [1, 4] (L' := [(1, .pointer (some ⟨w.heap.size, 0, none⟩)), (4, .slice ao1 z2.length cp1)]) hf (by kernel_rfl) ?_
    clear hf; clear a; intro a hf
    refine wpList_nil ?_
    refine sq ?_
    refine reg ?_
    refine st tbOk 1 [1, 4, 13] (L' := [(1, .pointer (some ⟨w.heap.size, 0, none⟩)), (4, .slice ao1 z2.length cp1), (13, .slice ao1 z2.length cp1)]) hf (by kernel_rfl) ?_
    clear hf; clear a; intro a hf
    have hT := of_bd hS; clear hS; obtain ⟨z3, hz3, hS⟩ := hT
    refine clV ent13 (vs := [.slice ao1 z2.length cp1]) (caps := []) hf (by kernel_rfl) (by kernel_rfl) (by kernel_rfl) (by kernel_rfl) (segs_Get_ok (b := z2) (hs.lend [0] [] rfl rfl rfl rfl rfl) hz3) ?_
    clear hf; clear a; intro v w4 a hT hf; obtain ⟨F3, rfl, hr⟩ := hT
    replace hs : Sep w F R w4 F2 [.row 5 (tI .u8) (.slice ao1 z2.length cp1) z2, .box w.heap.size 25 [.int .u32 p_s.1, .int .u32 p_s.2.1, .int .u64 p_s.2.2.1, .int .u64 p_s.2.2.2.1, .int .u64 p_s.2.2.2.2.1, .int .u64 p_s.2.2.2.2.2.1, .int .u64 p_s.2.2.2.2.2.2]] := hs.backL [0] [] [0, 1] rfl rfl rfl rfl rfl rfl hr trivial
    clear hr
    replace hf := Fr.keep (ks := [1, 4, 14]) (L' := [(1, .pointer (some ⟨w.heap.size, 0, none⟩)), (4, .slice ao1 z2.length cp1), (14, .tuple #[.agg #[.int .u32 z3.1.1, .int .u32 z3.1.2.1, .int .u64 z3.1.2.2.1, .int .u64 z3.1.2.2.2.1, .int .u64 z3.1.2.2.2.2.1, .int .u64 z3.1.2.2.2.2.2.1, .int .u64 z3.1.2.2.2.2.2.2], .int .i64 z3.2])]) hf (by kernel_rfl)
    refine st tbOk 3 [1, 4, 15, 16] (L' := [(1, .pointer (some ⟨w.heap.size, 0, none⟩)), (4, .slice ao1 z2.length cp1), (15, .agg #[.int .u32 z3.1.1, .int .u32 z3.1.2.1, .int .u64 z3.1.2.2.1, .int .u64 z3.1.2.2.2.1, .int .u64 z3.1.2.2.2.2.1, .int .u64 z3.1.2.2.2.2.2.1, .int .u64 z3.1.2.2.2.2.2.2]), (16, .int .i64 z3.2)]) hf (by kernel_rfl) ?_
    clear hf; clear a; intro a hf
    refine al tbOk i25 [.int .u32 0, .int .u32 0, .int .u64 0, .int .u64 0, .int .u64 0, .int .u64 0, .int .u64 0] rfl (by kernel_rfl) hf (by kernel_rfl) (by kernel_rfl) ?_
    clear hf; clear a; intro w5 a hb hx _ hf
    replace hs : Sep w F R w5 F2 [.box w4.heap.size 25 [.int .u32 0, .int .u32 0, .int .u64 0, .int .u64 0, .int .u64 0, .int .u64 0, .int .u64 0], .row 5 (tI .u8) (.slice ao1 z2.length cp1) z2, .box w.heap.size 25 [.int .u32 p_s.1, .int .u32 p_s.2.1, .int .u64 p_s.2.2.1, .int .u64 p_s.2.2.2.1, .int .u64 p_s.2.2.2.2.1, .int .u64 p_s.2.2.2.2.2.1, .int .u64 p_s.2.2.2.2.2.2]] := hs.newBox hb hx
    clear hb hx
    replace hf := Fr.keep (ks := [1, 4, 5, 15, 16]) (L' := [(1, .pointer (some ⟨w.heap.size, 0, none⟩)), (4, .slice ao1 z2.length cp1), (5, .pointer (some ⟨w4.heap.size, 0, none⟩)), (15, .agg #[.int .u32 z3.1.1, .int .u32 z3.1.2.1, .int .u64 z3.1.2.2.1, .int .u64 z3.1.2.2.2.1, .int .u64 z3.1.2.2.2.2.1, .int .u64 z3.1.2.2.2.2.2.1, .int .u64 z3.1.2.2.2.2.2.2]), (16, .int .i64 z3.2)]) hf (by kernel_rfl)
    refine stB tbOk i25 (hs.bx 0 rfl) 0 [.int .u32 z3.1.1, .int .u32 z3.1.2.1, .int .u64 z3.1.2.2.1, .int .u64 z3.1.2.2.2.1, .int .u64 z3.1.2.2.2.2.1, .int .u64 z3.1.2.2.2.2.2.1, .int .u64 z3.1.2.2.2.2.2.2] [.int .u32 z3.1.1, .int .u32 z3.1.2.1, .int .u64 z3.1.2.2.1, .int .u64 z3.1.2.2.2.1, .int .u64 z3.1.2.2.2.2.1, .int .u64 z3.1.2.2.2.2.2.1, .int .u64 z3.1.2.2.2.2.2.2] (v := .agg #[.int .u32 z3.1.1, .int .u32 z3.1.2.1, .int .u64 z3.1.2.2.1, .int .u64 z3.1.2.2.2.1, .int .u64 z3.1.2.2.2.2.1, .int .u64 z3.1.2.2.2.2.2.1, .int .u64 z3.1.2.2.2.2.2.2]) rfl rfl (by kernel_rfl) (by kernel_rfl) (by kernel_rfl) (by kernel_rfl) hf (by kernel_rfl) (by kernel_rfl) (by kernel_rfl) ?_
    clear hf; clear a; intro w6 a hb hg _ hf
    replace hs : Sep w F R w6 F2 [.box w4.heap.size 25 [.int .u32 z3.1.1, .int .u32 z3.1.2.1, .int .u64 z3.1.2.2.1, .int .u64 z3.1.2.2.2.1, .int .u64 z3.1.2.2.2.2.1, .int .u64 z3.1.2.2.2.2.2.1, .int .u64 z3.1.2.2.2.2.2.2], .row 5 (tI .u8) (.slice ao1 z2.length cp1) z2, .box w.heap.size 25 [.int .u32 p_s.1, .int .u32 p_s.2.1, .int .u64 p_s.2.2.1, .int .u64 p_s.2.2.2.1, .int .u64 p_s.2.2.2.2.1, .int .u64 p_s.2.2.2.2.2.1, .int .u64 p_s.2.2.2.2.2.2]] := hs.updBox 0 rfl hb hg
    clear hb hg
    replace hf := Fr.keep (ks := [1, 4, 5, 16]) (L' := [(1, .pointer (some ⟨w.heap.size, 0, none⟩)), (4, .slice ao1 z2.length cp1), (5, .pointer (some ⟨w4.heap.size, 0, none⟩)), (16, .int .i64 z3.2)]) hf (by kernel_rfl)
    refine st tbOk 1 [1, 4, 5, 6] (L' := [(1, .pointer (some ⟨w.heap.size, 0, none⟩)), (4, .slice ao1 z2.length cp1), (5, .pointer (some ⟨w4.heap.size, 0, none⟩)), (6, .int .i64 z3.2)]) hf (by kernel_rfl) ?_
    clear hf; clear a; intro a hf
    refine wpList_nil ?_
    refine sq ?_
    refine ctj (fun (s1 : Bool) (a : Act) (w' : World) => ∃ (F4 : SH), Sep w F R w' F4 [] ∧ Fr 32 [(2, .bool s1)] a) hS ?_ ?_
    · clear hS hf hs; clear a; intro s1 a w11 hM hS
      obtain ⟨F4, hs, hf⟩ := hM
      have hr := Option.some.inj hS; subst hr
      refine wp_ret ?_
      exact ret_ok hf (vs := [.bool s1]) (by kernel_rfl) ⟨_, rfl, hs.sel [] rfl rfl⟩
    · clear hS; intro KK1 k1 hK1 hS
      have hT := of_bd hS; clear hS; obtain ⟨z4, hz4, hS⟩ := hT
      rcases Bool.eq_false_or_eq_true ((toStr z2) == (toStr z4)) with hb2 | hb2
      · replace hS := of_t hb2 hS
        rcases Bool.eq_false_or_eq_true (z3.2 == 0) with hb3 | hb3
        · replace hS := of_t hb3 hS
          have hs0 := hs
          refine regF 16 [fun u uw => u = .slice ao1 z2.length cp1,
    fun u uw => u = strV (toStr z2),
    fun u uw => u = .agg #[.int .u32 p_s.1, .int .u32 p_s.2.1, .int .u64 p_s.2.2.1, .int .u64 p_s.2.2.2.1, .int .u64 p_s.2.2.2.2.1, .int .u64 p_s.2.2.2.2.2.1, .int .u64 p_s.2.2.2.2.2.2],
    fun u uw => ∃ (ao3 : Option Addr) (cp3 : Nat) (F' : SH), u = .slice ao3 z4.length cp3 ∧ Sep w6 F2 noR uw F' [.row 5 (tI .u8) (.slice ao3 z4.length cp3) z4],
    fun u uw => u = strV (toStr z4),
    fun u uw => u = .bool ((toStr z2) == (toStr z4)),
    fun u uw => u = .bool ((toStr z2) == (toStr z4)),
    fun u uw => u = .int .i64 z3.2,
    fun u uw => u = .bool (z3.2 == 0),
    fun u uw => u = .bool (z3.2 == 0),
    fun u uw => u = .bool (z3.2 == 0),
    fun u uw => u = .agg #[.int .u32 z3.1.1, .int .u32 z3.1.2.1, .int .u64 z3.1.2.2.1, .int .u64 z3.1.2.2.2.1, .int .u64 z3.1.2.2.2.2.1, .int .u64 z3.1.2.2.2.2.2.1, .int .u64 z3.1.2.2.2.2.2.2],
    fun u uw => u = .agg #[.int .u32 p_s.1, .int .u32 p_s.2.1, .int .u64 p_s.2.2.1, .int .u64 p_s.2.2.2.1, .int .u64 p_s.2.2.2.2.1, .int .u64 p_s.2.2.2.2.2.1, .int .u64 p_s.2.2.2.2.2.2],
    fun u uw => u = .bool ((z3.1.1 == p_s.1) && ((z3.1.2.1 == p_s.2.1) && ((z3.1.2.2.1 == p_s.2.2.1) && ((z3.1.2.2.2.1 == p_s.2.2.2.1) && ((z3.1.2.2.2.2.1 == p_s.2.2.2.2.1) && ((z3.1.2.2.2.2.2.1 == p_s.2.2.2.2.2.1) && (z3.1.2.2.2.2.2.2 == p_s.2.2.2.2.2.2))))))),
    fun u uw => u = .bool ((z3.1.1 == p_s.1) && ((z3.1.2.1 == p_s.2.1) && ((z3.1.2.2.1 == p_s.2.2.1) && ((z3.1.2.2.2.1 == p_s.2.2.2.1) && ((z3.1.2.2.2.2.1 == p_s.2.2.2.2.1) && ((z3.1.2.2.2.2.2.1 == p_s.2.2.2.2.2.1) && (z3.1.2.2.2.2.2.2 == p_s.2.2.2.2.2.2))))))),
    fun u uw => u = .bool ((z3.1.1 == p_s.1) && ((z3.1.2.1 == p_s.2.1) && ((z3.1.2.2.1 == p_s.2.2.1) && ((z3.1.2.2.2.1 == p_s.2.2.2.1) && ((z3.1.2.2.2.2.1 == p_s.2.2.2.2.1) && ((z3.1.2.2.2.2.2.1 == p_s.2.2.2.2.2.1) && (z3.1.2.2.2.2.2.2 == p_s.2.2.2.2.2.2)))))))] mixed (Fr.keep (ks := [1, 4, 5, 6]) (L' := [(1, .pointer (some ⟨w.heap.size, 0, none⟩)), (4, .slice ao1 z2.length cp1), (5, .pointer (some ⟨w4.heap.size, 0, none⟩)), (6, .int .i64 z3.2)]) hf (by kernel_rfl)) (by kernel_rfl) rfl ?_ ?_ ?_
          · exact ⟨fun _ _ _ h _ => h, fun _ _ _ h _ => h, fun _ _ _ h _ => h, fun _ _ _ ⟨ao3, cp3, F', e, h⟩ hx => ⟨ao3, cp3, F', e, h.ext hx⟩, fun _ _ _ h _ => h, fun _ _ _ h _ => h, fun _ _ _ h _ => h, fun _ _ _ h _ => h, fun _ _ _ h _ => h, fun _ _ _ h _ => h, fun _ _ _ h _ => h, fun _ _ _ h _ => h, fun _ _ _ h _ => h, fun _ _ _ h _ => h, fun _ _ _ h _ => h, fun _ _ _ h _ => h, trivial⟩
          · clear hS hf hs; clear a
            refine ⟨?_, ?_, ?_, ?_, ?_, ?_, ?_, ?_, ?_, ?_, ?_, ?_, ?_, ?_, ?_, ?_, trivial⟩
            · intro a wf hX hf hd
              clear hd
              have hs : Sep wf (star F2 w6 wf) noR wf (star F2 w6 wf) [] := hs0.fstart hX [] rfl rfl
              refine st tbOk 1 [17] (L' := [(17, .slice ao1 z2.length cp1)]) hf (by kernel_rfl) ?_
              clear hf; clear a; intro a hf
              exact fq_ok (d := 17) rfl hf (hs.ex fun _ h => h) hf.1
            · intro a wf hX hf hd
              have e_17 : a.tmps.getD 17 undef = .slice ao1 z2.length cp1 := hd 0 17 (by kernel_rfl) (by kernel_rfl)
              replace hf : Fr 32 [(17, .slice ao1 z2.length cp1), (1, .pointer (some ⟨w.heap.size, 0, none⟩)), (4, .slice ao1 z2.length cp1), (5, .pointer (some ⟨w4.heap.size, 0, none⟩)), (6, .int .i64 z3.2)] a := ⟨e_17, hf⟩; clear e_17
              clear hd
              have hs : Sep wf (star F2 w6 wf) noR wf (star F2 w6 wf) [] := hs0.fstart hX [] rfl rfl
              refine b2sR tbOk u27 u5 u9 ((hs0.raW 1 rfl).mono hX.le (star_ge _ w6 wf)) hf (by kernel_rfl) (by kernel_rfl) (by kernel_rfl) ?_
              clear hf; clear a; intro a hf
              exact fq_ok (d := 18) rfl hf (hs.ex fun _ h => h) hf.1
            · intro a wf hX hf hd
              clear hd
              have hs : Sep wf (star F2 w6 wf) noR wf (star F2 w6 wf) [] := hs0.fstart hX [] rfl rfl
              refine ldC tbOk (T := 25) ((hs0.cbx 2 rfl).mono hX.le) (LeH.refl _) 0 (.agg #[.int .u32 p_s.1, .int .u32 p_s.2.1, .int .u64 p_s.2.2.1, .int .u64 p_s.2.2.2.1, .int .u64 p_s.2.2.2.2.1, .int .u64 p_s.2.2.2.2.2.1, .int .u64 p_s.2.2.2.2.2.2]) hf (by kernel_rfl) (by kernel_rfl) (by kernel_rfl) (by kernel_rfl) ?_
              clear hf; clear a; intro a hf
              exact fq_ok (d := 19) rfl hf (hs.ex fun _ h => h) hf.1
            · intro a wf hX hf hd
              have e_19 : a.tmps.getD 19 undef = .agg #[.int .u32 p_s.1, .int .u32 p_s.2.1, .int .u64 p_s.2.2.1, .int .u64 p_s.2.2.2.1, .int .u64 p_s.2.2.2.2.1, .int .u64 p_s.2.2.2.2.2.1, .int .u64 p_s.2.2.2.2.2.2] := hd 2 19 (by kernel_rfl) (by kernel_rfl)
              replace hf : Fr 32 [(19, .agg #[.int .u32 p_s.1, .int .u32 p_s.2.1, .int .u64 p_s.2.2.1, .int .u64 p_s.2.2.2.1, .int .u64 p_s.2.2.2.2.1, .int .u64 p_s.2.2.2.2.2.1, .int .u64 p_s.2.2.2.2.2.2]), (1, .pointer (some ⟨w.heap.size, 0, none⟩)), (4, .slice ao1 z2.length cp1), (5, .pointer (some ⟨w4.heap.size, 0, none⟩)), (6, .int .i64 z3.2)] a := ⟨e_19, hf⟩; clear e_19
              clear hd
              have hs : Sep wf (star F2 w6 wf) noR wf (star F2 w6 wf) [] := hs0.fstart hX [] rfl rfl
              refine clV ent14 (vs := [.agg #[.int .u32 p_s.1, .int .u32 p_s.2.1, .int .u64 p_s.2.2.1, .int .u64 p_s.2.2.2.1, .int .u64 p_s.2.2.2.2.1, .int .u64 p_s.2.2.2.2.2.1, .int .u64 p_s.2.2.2.2.2.2]]) (caps := []) hf (by kernel_rfl) (by kernel_rfl) (by kernel_rfl) (by kernel_rfl) (ref04_Put_ok (p_s := (p_s.1, p_s.2.1, p_s.2.2.1, p_s.2.2.2.1, p_s.2.2.2.2.1, p_s.2.2.2.2.2.1, p_s.2.2.2.2.2.2)) (hs.enter [] rfl rfl) hz4) ?_
              clear hf; clear a; intro v w7 a hT hf; obtain ⟨ao2, cp2, F5, rfl, hr⟩ := hT
              replace hs : Sep wf (star F2 w6 wf) noR w7 F5 [.row 5 (tI .u8) (.slice ao2 z4.length cp2) z4] := hs.back [] [] rfl rfl rfl rfl hr
              clear hr
              exact fq_ok (d := 20) rfl hf (hs.ex fun _ h => h) ⟨ao2, cp2, _, hf.1, (hs.sel [0] rfl rfl).rebase hX⟩
            · intro a wf hX hf hd
              obtain ⟨ao3, cp3, F_20, e_20, h_20⟩ : ∃ (ao3 : Option Addr) (cp3 : Nat) (F' : SH), a.tmps.getD 20 undef = .slice ao3 z4.length cp3 ∧ Sep w6 F2 noR wf F' [.row 5 (tI .u8) (.slice ao3 z4.length cp3) z4] := hd 3 20 (by kernel_rfl) (by kernel_rfl)
              replace hf : Fr 32 [(20, .slice ao3 z4.length cp3), (1, .pointer (some ⟨w.heap.size, 0, none⟩)), (4, .slice ao1 z2.length cp1), (5, .pointer (some ⟨w4.heap.size, 0, none⟩)), (6, .int .i64 z3.2)] a := ⟨e_20, hf⟩; clear e_20
              clear hd
              have hs : Sep wf (star F2 w6 wf) noR wf (star F2 w6 wf) [] := hs0.fstart hX [] rfl rfl
              replace hs : Sep wf (star F2 w6 wf) noR wf (star F2 w6 wf) [.ro (tI .u8) (.slice ao3 z4.length cp3) z4] := hs.addStar h_20 0 rfl rfl
              clear h_20
              refine b2sR tbOk u27 u5 u9 (hs.raR 0 rfl) hf (by kernel_rfl) (by kernel_rfl) (by kernel_rfl) ?_
              clear hf; clear a; intro a hf
              exact fq_ok (d := 21) rfl hf (hs.ex fun _ h => h) hf.1
            · intro a wf hX hf hd
              have e_18 : a.tmps.getD 18 undef = strV (toStr z2) := hd 1 18 (by kernel_rfl) (by kernel_rfl)
              have e_21 : a.tmps.getD 21 undef = strV (toStr z4) := hd 4 21 (by kernel_rfl) (by kernel_rfl)
              replace hf : Fr 32 [(18, strV (toStr z2)), (21, strV (toStr z4)), (1, .pointer (some ⟨w.heap.size, 0, none⟩)), (4, .slice ao1 z2.length cp1), (5, .pointer (some ⟨w4.heap.size, 0, none⟩)), (6, .int .i64 z3.2)] a := ⟨e_18, e_21, hf⟩; clear e_18 e_21
              clear hd
              have hs : Sep wf (star F2 w6 wf) noR wf (star F2 w6 wf) [] := hs0.fstart hX [] rfl rfl
              refine st tbOk 1 [22] (L' := [(22, .bool ((toStr z2) == (toStr z4)))]) hf (by kernel_rfl) ?_
              clear hf; clear a; intro a hf
              exact fq_ok (d := 22) rfl hf (hs.ex fun _ h => h) hf.1
            · intro a wf hX hf hd
              have e_22 : a.tmps.getD 22 undef = .bool ((toStr z2) == (toStr z4)) := hd 5 22 (by kernel_rfl) (by kernel_rfl)
              replace hf : Fr 32 [(22, .bool ((toStr z2) == (toStr z4))), (1, .pointer (some ⟨w.heap.size, 0, none⟩)), (4, .slice ao1 z2.length cp1), (5, .pointer (some ⟨w4.heap.size, 0, none⟩)), (6, .int .i64 z3.2)] a := ⟨e_22, hf⟩; clear e_22
              clear hd
              have hs : Sep wf (star F2 w6 wf) noR wf (star F2 w6 wf) [] := hs0.fstart hX [] rfl rfl
              refine st tbOk 1 [23] (L' := [(23, .bool ((toStr z2) == (toStr z4)))]) hf (by kernel_rfl) ?_
              clear hf; clear a; intro a hf
              exact fq_ok (d := 23) rfl hf (hs.ex fun _ h => h) hf.1
            · intro a wf hX hf hd
              have e_23 : a.tmps.getD 23 undef = .bool ((toStr z2) == (toStr z4)) := hd 6 23 (by kernel_rfl) (by kernel_rfl)
              rw [hb2] at e_23
              replace hf : Fr 32 [(23, .bool true), (1, .pointer (some ⟨w.heap.size, 0, none⟩)), (4, .slice ao1 z2.length cp1), (5, .pointer (some ⟨w4.heap.size, 0, none⟩)), (6, .int .i64 z3.2)] a := ⟨e_23, hf⟩; clear e_23
              clear hd
              have hs : Sep wf (star F2 w6 wf) noR wf (star F2 w6 wf) [] := hs0.fstart hX [] rfl rfl
              refine st tbOk 1 [24] (L' := [(24, .int .i64 z3.2)]) hf (by kernel_rfl) ?_
              clear hf; clear a; intro a hf
              exact fq_ok (d := 24) rfl hf (hs.ex fun _ h => h) hf.1
            · intro a wf hX hf hd
              have e_24 : a.tmps.getD 24 undef = .int .i64 z3.2 := hd 7 24 (by kernel_rfl) (by kernel_rfl)
              have e_23 : a.tmps.getD 23 undef = .bool ((toStr z2) == (toStr z4)) := hd 6 23 (by kernel_rfl) (by kernel_rfl)
              rw [hb2] at e_23
              replace hf : Fr 32 [(24, .int .i64 z3.2), (23, .bool true), (1, .pointer (some ⟨w.heap.size, 0, none⟩)), (4, .slice ao1 z2.length cp1), (5, .pointer (some ⟨w4.heap.size, 0, none⟩)), (6, .int .i64 z3.2)] a := ⟨e_24, e_23, hf⟩; clear e_24 e_23
              clear hd
              have hs : Sep wf (star F2 w6 wf) noR wf (star F2 w6 wf) [] := hs0.fstart hX [] rfl rfl
              refine st tbOk 1 [25] (L' := [(25, .bool (z3.2 == 0))]) hf (by kernel_rfl) ?_
              clear hf; clear a; intro a hf
              exact fq_ok (d := 25) rfl hf (hs.ex fun _ h => h) hf.1
            · intro a wf hX hf hd
              have e_23 : a.tmps.getD 23 undef = .bool ((toStr z2) == (toStr z4)) := hd 6 23 (by kernel_rfl) (by kernel_rfl)
              rw [hb2] at e_23
              have e_25 : a.tmps.getD 25 undef = .bool (z3.2 == 0) := hd 8 25 (by kernel_rfl) (by kernel_rfl)
              replace hf : Fr 32 [(23, .bool true), (25, .bool (z3.2 == 0)), (1, .pointer (some ⟨w.heap.size, 0, none⟩)), (4, .slice ao1 z2.length cp1), (5, .pointer (some ⟨w4.heap.size, 0, none⟩)), (6, .int .i64 z3.2)] a := ⟨e_23, e_25, hf⟩; clear e_23 e_25
              clear hd
              have hs : Sep wf (star F2 w6 wf) noR wf (star F2 w6 wf) [] := hs0.fstart hX [] rfl rfl
              refine st tbOk 1 [26] (L' := [(26, .bool (z3.2 == 0))]) hf (by kernel_rfl) ?_
              clear hf; clear a; intro a hf
              exact fq_ok (d := 26) rfl hf (hs.ex fun _ h => h) hf.1
            · intro a wf hX hf hd
              have e_26 : a.tmps.getD 26 undef = .bool (z3.2 == 0) := hd 9 26 (by kernel_rfl) (by kernel_rfl)
              replace hf : Fr 32 [(26, .bool (z3.2 == 0)), (1, .pointer (some ⟨w.heap.size, 0, none⟩)), (4, .slice ao1 z2.length cp1), (5, .pointer (some ⟨w4.heap.size, 0, none⟩)), (6, .int .i64 z3.2)] a := ⟨e_26, hf⟩; clear e_26
              clear hd
              have hs : Sep wf (star F2 w6 wf) noR wf (star F2 w6 wf) [] := hs0.fstart hX [] rfl rfl
              refine st tbOk 1 [27] (L' := [(27, .bool (z3.2 == 0))]) hf (by kernel_rfl) ?_
              clear hf; clear a; intro a hf
              exact fq_ok (d := 27) rfl hf (hs.ex fun _ h => h) hf.1
            · intro a wf hX hf hd
              have e_27 : a.tmps.getD 27 undef = .bool (z3.2 == 0) := hd 10 27 (by kernel_rfl) (by kernel_rfl)
              rw [hb3] at e_27
              replace hf : Fr 32 [(27, .bool true), (1, .pointer (some ⟨w.heap.size, 0, none⟩)), (4, .slice ao1 z2.length cp1), (5, .pointer (some ⟨w4.heap.size, 0, none⟩)), (6, .int .i64 z3.2)] a := ⟨e_27, hf⟩; clear e_27
              clear hd
              have hs : Sep wf (star F2 w6 wf) noR wf (star F2 w6 wf) [] := hs0.fstart hX [] rfl rfl
              refine ldC tbOk (T := 25) ((hs0.cbx 0 rfl).mono hX.le) (LeH.refl _) 0 (.agg #[.int .u32 z3.1.1, .int .u32 z3.1.2.1, .int .u64 z3.1.2.2.1, .int .u64 z3.1.2.2.2.1, .int .u64 z3.1.2.2.2.2.1, .int .u64 z3.1.2.2.2.2.2.1, .int .u64 z3.1.2.2.2.2.2.2]) hf (by kernel_rfl) (by kernel_rfl) (by kernel_rfl) (by kernel_rfl) ?_
              clear hf; clear a; intro a hf
              exact fq_ok (d := 28) rfl hf (hs.ex fun _ h => h) hf.1
            · intro a wf hX hf hd
              have e_27 : a.tmps.getD 27 undef = .bool (z3.2 == 0) := hd 10 27 (by kernel_rfl) (by kernel_rfl)
              rw [hb3] at e_27
              replace hf : Fr 32 [(27, .bool true), (1, .pointer (some ⟨w.heap.size, 0, none⟩)), (4, .slice ao1 z2.length cp1), (5, .pointer (some ⟨w4.heap.size, 0, none⟩)), (6, .int .i64 z3.2)] a := ⟨e_27, hf⟩; clear e_27
              clear hd
              have hs : Sep wf (star F2 w6 wf) noR wf (star F2 w6 wf) [] := hs0.fstart hX [] rfl rfl
              refine ldC tbOk (T := 25) ((hs0.cbx 2 rfl).mono hX.le) (LeH.refl _) 0 (.agg #[.int .u32 p_s.1, .int .u32 p_s.2.1, .int .u64 p_s.2.2.1, .int .u64 p_s.2.2.2.1, .int .u64 p_s.2.2.2.2.1, .int .u64 p_s.2.2.2.2.2.1, .int .u64 p_s.2.2.2.2.2.2]) hf (by kernel_rfl) (by kernel_rfl) (by kernel_rfl) (by kernel_rfl) ?_
              clear hf; clear a; intro a hf
              exact fq_ok (d := 29) rfl hf (hs.ex fun _ h => h) hf.1
            · intro a wf hX hf hd
              have e_28 : a.tmps.getD 28 undef = .agg #[.int .u32 z3.1.1, .int .u32 z3.1.2.1, .int .u64 z3.1.2.2.1, .int .u64 z3.1.2.2.2.1, .int .u64 z3.1.2.2.2.2.1, .int .u64 z3.1.2.2.2.2.2.1, .int .u64 z3.1.2.2.2.2.2.2] := hd 11 28 (by kernel_rfl) (by kernel_rfl)
              have e_29 : a.tmps.getD 29 undef = .agg #[.int .u32 p_s.1, .int .u32 p_s.2.1, .int .u64 p_s.2.2.1, .int .u64 p_s.2.2.2.1, .int .u64 p_s.2.2.2.2.1, .int .u64 p_s.2.2.2.2.2.1, .int .u64 p_s.2.2.2.2.2.2] := hd 12 29 (by kernel_rfl) (by kernel_rfl)
              have e_27 : a.tmps.getD 27 undef = .bool (z3.2 == 0) := hd 10 27 (by kernel_rfl) (by kernel_rfl)
              rw [hb3] at e_27
              replace hf : Fr 32 [(28, .agg #[.int .u32 z3.1.1, .int .u32 z3.1.2.1, .int .u64 z3.1.2.2.1, .int .u64 z3.1.2.2.2.1, .int .u64 z3.1.2.2.2.2.1, .int .u64 z3.1.2.2.2.2.2.1, .int .u64 z3.1.2.2.2.2.2.2]), (29, .agg #[.int .u32 p_s.1, .int .u32 p_s.2.1, .int .u64 p_s.2.2.1, .int .u64 p_s.2.2.2.1, .int .u64 p_s.2.2.2.2.1, .int .u64 p_s.2.2.2.2.2.1, .int .u64 p_s.2.2.2.2.2.2]), (27, .bool true), (1, .pointer (some ⟨w.heap.size, 0, none⟩)), (4, .slice ao1 z2.length cp1), (5, .pointer (some ⟨w4.heap.size, 0, none⟩)), (6, .int .i64 z3.2)] a := ⟨e_28, e_29, e_27, hf⟩; clear e_28 e_29 e_27
              clear hd
              have hs : Sep wf (star F2 w6 wf) noR wf (star F2 w6 wf) [] := hs0.fstart hX [] rfl rfl
              refine st tbOk 1 [30] (L' := [(30, .bool ((z3.1.1 == p_s.1) && ((z3.1.2.1 == p_s.2.1) && ((z3.1.2.2.1 == p_s.2.2.1) && ((z3.1.2.2.2.1 == p_s.2.2.2.1) && ((z3.1.2.2.2.2.1 == p_s.2.2.2.2.1) && ((z3.1.2.2.2.2.2.1 == p_s.2.2.2.2.2.1) && (z3.1.2.2.2.2.2.2 == p_s.2.2.2.2.2.2))))))))]) hf (by kernel_rfl) ?_
              clear hf; clear a; intro a hf
              exact fq_ok (d := 30) rfl hf (hs.ex fun _ h => h) hf.1
            · intro a wf hX hf hd
              have e_27 : a.tmps.getD 27 undef = .bool (z3.2 == 0) := hd 10 27 (by kernel_rfl) (by kernel_rfl)
              rw [hb3] at e_27
              have e_30 : a.tmps.getD 30 undef = .bool ((z3.1.1 == p_s.1) && ((z3.1.2.1 == p_s.2.1) && ((z3.1.2.2.1 == p_s.2.2.1) && ((z3.1.2.2.2.1 == p_s.2.2.2.1) && ((z3.1.2.2.2.2.1 == p_s.2.2.2.2.1) && ((z3.1.2.2.2.2.2.1 == p_s.2.2.2.2.2.1) && (z3.1.2.2.2.2.2.2 == p_s.2.2.2.2.2.2))))))) := hd 13 30 (by kernel_rfl) (by kernel_rfl)
              replace hf : Fr 32 [(27, .bool true), (30, .bool ((z3.1.1 == p_s.1) && ((z3.1.2.1 == p_s.2.1) && ((z3.1.2.2.1 == p_s.2.2.1) && ((z3.1.2.2.2.1 == p_s.2.2.2.1) && ((z3.1.2.2.2.2.1 == p_s.2.2.2.2.1) && ((z3.1.2.2.2.2.2.1 == p_s.2.2.2.2.2.1) && (z3.1.2.2.2.2.2.2 == p_s.2.2.2.2.2.2)))))))), (1, .pointer (some ⟨w.heap.size, 0, none⟩)), (4, .slice ao1 z2.length cp1), (5, .pointer (some ⟨w4.heap.size, 0, none⟩)), (6, .int .i64 z3.2)] a := ⟨e_27, e_30, hf⟩; clear e_27 e_30
              clear hd
              have hs : Sep wf (star F2 w6 wf) noR wf (star F2 w6 wf) [] := hs0.fstart hX [] rfl rfl
              refine st tbOk 1 [31] (L' := [(31, .bool ((z3.1.1 == p_s.1) && ((z3.1.2.1 == p_s.2.1) && ((z3.1.2.2.1 == p_s.2.2.1) && ((z3.1.2.2.2.1 == p_s.2.2.2.1) && ((z3.1.2.2.2.2.1 == p_s.2.2.2.2.1) && ((z3.1.2.2.2.2.2.1 == p_s.2.2.2.2.2.1) && (z3.1.2.2.2.2.2.2 == p_s.2.2.2.2.2.2))))))))]) hf (by kernel_rfl) ?_
              clear hf; clear a; intro a hf
              exact fq_ok (d := 31) rfl hf (hs.ex fun _ h => h) hf.1
            · intro a wf hX hf hd
              have e_31 : a.tmps.getD 31 undef = .bool ((z3.1.1 == p_s.1) && ((z3.1.2.1 == p_s.2.1) && ((z3.1.2.2.1 == p_s.2.2.1) && ((z3.1.2.2.2.1 == p_s.2.2.2.1) && ((z3.1.2.2.2.2.1 == p_s.2.2.2.2.1) && ((z3.1.2.2.2.2.2.1 == p_s.2.2.2.2.2.1) && (z3.1.2.2.2.2.2.2 == p_s.2.2.2.2.2.2))))))) := hd 14 31 (by kernel_rfl) (by kernel_rfl)
              replace hf : Fr 32 [(31, .bool ((z3.1.1 == p_s.1) && ((z3.1.2.1 == p_s.2.1) && ((z3.1.2.2.1 == p_s.2.2.1) && ((z3.1.2.2.2.1 == p_s.2.2.2.1) && ((z3.1.2.2.2.2.1 == p_s.2.2.2.2.1) && ((z3.1.2.2.2.2.2.1 == p_s.2.2.2.2.2.1) && (z3.1.2.2.2.2.2.2 == p_s.2.2.2.2.2.2)))))))), (1, .pointer (some ⟨w.heap.size, 0, none⟩)), (4, .slice ao1 z2.length cp1), (5, .pointer (some ⟨w4.heap.size, 0, none⟩)), (6, .int .i64 z3.2)] a := ⟨e_31, hf⟩; clear e_31
              clear hd
              have hs : Sep wf (star F2 w6 wf) noR wf (star F2 w6 wf) [] := hs0.fstart hX [] rfl rfl
              refine st tbOk 1 [2] (L' := [(2, .bool ((z3.1.1 == p_s.1) && ((z3.1.2.1 == p_s.2.1) && ((z3.1.2.2.1 == p_s.2.2.1) && ((z3.1.2.2.2.1 == p_s.2.2.2.1) && ((z3.1.2.2.2.2.1 == p_s.2.2.2.2.1) && ((z3.1.2.2.2.2.2.1 == p_s.2.2.2.2.2.1) && (z3.1.2.2.2.2.2.2 == p_s.2.2.2.2.2.2))))))))]) hf (by kernel_rfl) ?_
              clear hf; clear a; intro a hf
              exact fq_ok (d := 2) rfl hf (hs.ex fun _ h => h) hf.1
          · clear hf hs; clear a; intro a w8 hx hf hd
            have hs : Sep w F R w8 (star F2 w6 w8) [.box w4.heap.size 25 [.int .u32 z3.1.1, .int .u32 z3.1.2.1, .int .u64 z3.1.2.2.1, .int .u64 z3.1.2.2.2.1, .int .u64 z3.1.2.2.2.2.1, .int .u64 z3.1.2.2.2.2.2.1, .int .u64 z3.1.2.2.2.2.2.2], .row 5 (tI .u8) (.slice ao1 z2.length cp1) z2, .box w.heap.size 25 [.int .u32 p_s.1, .int .u32 p_s.2.1, .int .u64 p_s.2.2.1, .int .u64 p_s.2.2.2.1, .int .u64 p_s.2.2.2.2.1, .int .u64 p_s.2.2.2.2.2.1, .int .u64 p_s.2.2.2.2.2.2]] := hs0.starX hx
            have e_2 : a.tmps.getD 2 undef = .bool ((z3.1.1 == p_s.1) && ((z3.1.2.1 == p_s.2.1) && ((z3.1.2.2.1 == p_s.2.2.1) && ((z3.1.2.2.2.1 == p_s.2.2.2.1) && ((z3.1.2.2.2.2.1 == p_s.2.2.2.2.1) && ((z3.1.2.2.2.2.2.1 == p_s.2.2.2.2.2.1) && (z3.1.2.2.2.2.2.2 == p_s.2.2.2.2.2.2))))))) := hd 15 2 (by kernel_rfl) (by kernel_rfl)
            clear hd hx
            clear hs0
            replace hf : Fr 32 [(2, .bool ((z3.1.1 == p_s.1) && ((z3.1.2.1 == p_s.2.1) && ((z3.1.2.2.1 == p_s.2.2.1) && ((z3.1.2.2.2.1 == p_s.2.2.2.1) && ((z3.1.2.2.2.2.1 == p_s.2.2.2.2.1) && ((z3.1.2.2.2.2.2.1 == p_s.2.2.2.2.2.1) && (z3.1.2.2.2.2.2.2 == p_s.2.2.2.2.2.2)))))))), (1, .pointer (some ⟨w.heap.size, 0, none⟩)), (4, .slice ao1 z2.length cp1), (5, .pointer (some ⟨w4.heap.size, 0, none⟩)), (6, .int .i64 z3.2)] a := ⟨e_2, hf⟩
            clear e_2
            replace hs : Sep w F R w8 (star F2 w6 w8) [] := hs.sel [] rfl rfl
            replace hf := Fr.keep (ks := [2]) (L' := [(2, .bool ((z3.1.1 == p_s.1) && ((z3.1.2.1 == p_s.2.1) && ((z3.1.2.2.1 == p_s.2.2.1) && ((z3.1.2.2.2.1 == p_s.2.2.2.1) && ((z3.1.2.2.2.2.1 == p_s.2.2.2.2.1) && ((z3.1.2.2.2.2.2.1 == p_s.2.2.2.2.2.1) && (z3.1.2.2.2.2.2.2 == p_s.2.2.2.2.2.2))))))))]) hf (by kernel_rfl)
            refine wpList_nil ?_
            exact hK1 ((z3.1.1 == p_s.1) && ((z3.1.2.1 == p_s.2.1) && ((z3.1.2.2.1 == p_s.2.2.1) && ((z3.1.2.2.2.1 == p_s.2.2.2.1) && ((z3.1.2.2.2.2.1 == p_s.2.2.2.2.1) && ((z3.1.2.2.2.2.2.1 == p_s.2.2.2.2.2.1) && (z3.1.2.2.2.2.2.2 == p_s.2.2.2.2.2.2))))))) _ _ ⟨_, hs.sel [] rfl rfl, hf.keep (ks := [2]) (by kernel_rfl)⟩ hS
        · replace hS := of_f hb3 hS
          have hs0 := hs
          refine regF 16 [fun u uw => u = .slice ao1 z2.length cp1,
    fun u uw => u = strV (toStr z2),
    fun u uw => u = .agg #[.int .u32 p_s.1, .int .u32 p_s.2.1, .int .u64 p_s.2.2.1, .int .u64 p_s.2.2.2.1, .int .u64 p_s.2.2.2.2.1, .int .u64 p_s.2.2.2.2.2.1, .int .u64 p_s.2.2.2.2.2.2],
    fun u uw => ∃ (ao3 : Option Addr) (cp3 : Nat) (F' : SH), u = .slice ao3 z4.length cp3 ∧ Sep w6 F2 noR uw F' [.row 5 (tI .u8) (.slice ao3 z4.length cp3) z4],
    fun u uw => u = strV (toStr z4),
    fun u uw => u = .bool ((toStr z2) == (toStr z4)),
    fun u uw => u = .bool ((toStr z2) == (toStr z4)),
    fun u uw => u = .int .i64 z3.2,
    fun u uw => u = .bool (z3.2 == 0),
    fun u uw => u = .bool (z3.2 == 0),
    fun u uw => u = .bool (z3.2 == 0),
    fun u uw => u = undef,
    fun u uw => u = undef,
    fun u uw => u = undef,
    fun u uw => u = .bool false,
    fun u uw => u = .bool false] mixed (Fr.keep (ks := [1, 4, 5, 6]) (L' := [(1, .pointer (some ⟨w.heap.size, 0, none⟩)), (4, .slice ao1 z2.length cp1), (5, .pointer (some ⟨w4.heap.size, 0, none⟩)), (6, .int .i64 z3.2)]) hf (by kernel_rfl)) (by kernel_rfl) rfl ?_ ?_ ?_
          · exact ⟨fun _ _ _ h _ => h, fun _ _ _ h _ => h, fun _ _ _ h _ => h, fun _ _ _ ⟨ao3, cp3, F', e, h⟩ hx => ⟨ao3, cp3, F', e, h.ext hx⟩, fun _ _ _ h _ => h, fun _ _ _ h _ => h, fun _ _ _ h _ => h, fun _ _ _ h _ => h, fun _ _ _ h _ => h, fun _ _ _ h _ => h, fun _ _ _ h _ => h, fun _ _ _ h _ => h, fun _ _ _ h _ => h, fun _ _ _ h _ => h, fun _ _ _ h _ => h, fun _ _ _ h _ => h, trivial⟩
          · clear hS hf hs; clear a
            refine ⟨?_, ?_, ?_, ?_, ?_, ?_, ?_, ?_, ?_, ?_, ?_, ?_, ?_, ?_, ?_, ?_, trivial⟩
            · intro a wf hX hf hd
              clear hd
              have hs : Sep wf (star F2 w6 wf) noR wf (star F2 w6 wf) [] := hs0.fstart hX [] rfl rfl
              refine st tbOk 1 [17] (L' := [(17, .slice ao1 z2.length cp1)]) hf (by kernel_rfl) ?_
              clear hf; clear a; intro a hf
              exact fq_ok (d := 17) rfl hf (hs.ex fun _ h => h) hf.1
            · intro a wf hX hf hd
              have e_17 : a.tmps.getD 17 undef = .slice ao1 z2.length cp1 := hd 0 17 (by kernel_rfl) (by kernel_rfl)
              replace hf : Fr 32 [(17, .slice ao1 z2.length cp1), (1, .pointer (some ⟨w.heap.size, 0, none⟩)), (4, .slice ao1 z2.length cp1), (5, .pointer (some ⟨w4.heap.size, 0, none⟩)), (6, .int .i64 z3.2)] a := ⟨e_17, hf⟩; clear e_17
              clear hd
              have hs : Sep wf (star F2 w6 wf) noR wf (star F2 w6 wf) [] := hs0.fstart hX [] rfl rfl
              refine b2sR tbOk u27 u5 u9 ((hs0.raW 1 rfl).mono hX.le (star_ge _ w6 wf)) hf (by kernel_rfl) (by kernel_rfl) (by kernel_rfl) ?_
              clear hf; clear a; intro a hf
              exact fq_ok (d := 18) rfl hf (hs.ex fun _ h => h) hf.1
            · intro a wf hX hf hd
              clear hd
              have hs : Sep wf (star F2 w6 wf) noR wf (star F2 w6 wf) [] := hs0.fstart hX [] rfl rfl
              refine ldC tbOk (T := 25) ((hs0.cbx 2 rfl).mono hX.le) (LeH.refl _) 0 (.agg #[.int .u32 p_s.1, .int .u32 p_s.2.1, .int .u64 p_s.2.2.1, .int .u64 p_s.2.2.2.1, .int .u64 p_s.2.2.2.2.1, .int .u64 p_s.2.2.2.2.2.1, .int .u64 p_s.2.2.2.2.2.2]) hf (by kernel_rfl) (by kernel_rfl) (by kernel_rfl) (by kernel_rfl) ?_
              clear hf; clear a; intro a hf
              exact fq_ok (d := 19) rfl hf (hs.ex fun _ h => h) hf.1
            · intro a wf hX hf hd
              have e_19 : a.tmps.getD 19 undef = .agg #[.int .u32 p_s.1, .int .u32 p_s.2.1, .int .u64 p_s.2.2.1, .int .u64 p_s.2.2.2.1, .int .u64 p_s.2.2.2.2.1, .int .u64 p_s.2.2.2.2.2.1, .int .u64 p_s.2.2.2.2.2.2] := hd 2 19 (by kernel_rfl) (by kernel_rfl)
              replace hf : Fr 32 [(19, .agg #[.int .u32 p_s.1, .int .u32 p_s.2.1, .int .u64 p_s.2.2.1, .int .u64 p_s.2.2.2.1, .int .u64 p_s.2.2.2.2.1, .int .u64 p_s.2.2.2.2.2.1, .int .u64 p_s.2.2.2.2.2.2]), (1, .pointer (some ⟨w.heap.size, 0, none⟩)), (4, .slice ao1 z2.length cp1), (5, .pointer (some ⟨w4.heap.size, 0, none⟩)), (6, .int .i64 z3.2)] a := ⟨e_19, hf⟩; clear e_19
              clear hd
              have hs : Sep wf (star F2 w6 wf) noR wf (star F2 w6 wf) [] := hs0.fstart hX [] rfl rfl
              refine clV ent14 (vs := [.agg #[.int .u32 p_s.1, .int .u32 p_s.2.1, .int .u64 p_s.2.2.1, .int .u64 p_s.2.2.2.1, .int .u64 p_s.2.2.2.2.1, .int .u64 p_s.2.2.2.2.2.1, .int .u64 p_s.2.2.2.2.2.2]]) (caps := []) hf (by kernel_rfl) (by kernel_rfl) (by kernel_rfl) (by kernel_rfl) (ref04_Put_ok (p_s := (p_s.1, p_s.2.1, p_s.2.2.1, p_s.2.2.2.1, p_s.2.2.2.2.1, p_s.2.2.2.2.2.1, p_s.2.2.2.2.2.2)) (hs.enter [] rfl rfl) hz4) ?_
              clear hf; clear a; intro v w7 a hT hf; obtain ⟨ao2, cp2, F5, rfl, hr⟩ := hT
              replace hs : Sep wf (star F2 w6 wf) noR w7 F5 [.row 5 (tI .u8) (.slice ao2 z4.length cp2) z4] := hs.back [] [] rfl rfl rfl rfl hr
              clear hr
              exact fq_ok (d := 20) rfl hf (hs.ex fun _ h => h) ⟨ao2, cp2, _, hf.1, (hs.sel [0] rfl rfl).rebase hX⟩
            · intro a wf hX hf hd
              obtain ⟨ao3, cp3, F_20, e_20, h_20⟩ : ∃ (ao3 : Option Addr) (cp3 : Nat) (F' : SH), a.tmps.getD 20 undef = .slice ao3 z4.length cp3 ∧ Sep w6 F2 noR wf F' [.row 5 (tI .u8) (.slice ao3 z4.length cp3) z4] := hd 3 20 (by kernel_rfl) (by kernel_rfl)
              replace hf : Fr 32 [(20, .slice ao3 z4.length cp3), (1, .pointer (some ⟨w.heap.size, 0, none⟩)), (4, .slice ao1 z2.length cp1), (5, .pointer (some ⟨w4.heap.size, 0, none⟩)), (6, .int .i64 z3.2)] a := ⟨e_20, hf⟩; clear e_20
              clear hd
              have hs : Sep wf (star F2 w6 wf) noR wf (star F2 w6 wf) [] := hs0.fstart hX [] rfl rfl
              replace hs : Sep wf (star F2 w6 wf) noR wf (star F2 w6 wf) [.ro (tI .u8) (.slice ao3 z4.length cp3) z4] := hs.addStar h_20 0 rfl rfl
              clear h_20
              refine b2sR tbOk u27 u5 u9 (hs.raR 0 rfl) hf (by kernel_rfl) (by kernel_rfl) (by kernel_rfl) ?_
              clear hf; clear a; intro a hf
              exact fq_ok (d := 21) rfl hf (hs.ex fun _ h => h) hf.1
            · intro a wf hX hf hd
              have e_18 : a.tmps.getD 18 undef = strV (toStr z2) := hd 1 18 (by kernel_rfl) (by kernel_rfl)
              have e_21 : a.tmps.getD 21 undef = strV (toStr z4) := hd 4 21 (by kernel_rfl) (by kernel_rfl)
              replace hf : Fr 32 [(18, strV (toStr z2)), (21, strV (toStr z4)), (1, .pointer (some ⟨w.heap.size, 0, none⟩)), (4, .slice ao1 z2.length cp1), (5, .pointer (some ⟨w4.heap.size, 0, none⟩)), (6, .int .i64 z3.2)] a := ⟨e_18, e_21, hf⟩; clear e_18 e_21
              clear hd
              have hs : Sep wf (star F2 w6 wf) noR wf (star F2 w6 wf) [] := hs0.fstart hX [] rfl rfl
              refine st tbOk 1 [22] (L' := [(22, .bool ((toStr z2) == (toStr z4)))]) hf (by kernel_rfl) ?_
              clear hf; clear a; intro a hf
              exact fq_ok (d := 22) rfl hf (hs.ex fun _ h => h) hf.1
            · intro a wf hX hf hd
              have e_22 : a.tmps.getD 22 undef = .bool ((toStr z2) == (toStr z4)) := hd 5 22 (by kernel_rfl) (by kernel_rfl)
              replace hf : Fr 32 [(22, .bool ((toStr z2) == (toStr z4))), (1, .pointer (some ⟨w.heap.size, 0, none⟩)), (4, .slice ao1 z2.length cp1), (5, .pointer (some ⟨w4.heap.size, 0, none⟩)), (6, .int .i64 z3.2)] a := ⟨e_22, hf⟩; clear e_22
              clear hd
              have hs : Sep wf (star F2 w6 wf) noR wf (star F2 w6 wf) [] := hs0.fstart hX [] rfl rfl
              refine st tbOk 1 [23] (L' := [(23, .bool ((toStr z2) == (toStr z4)))]) hf (by kernel_rfl) ?_
              clear hf; clear a; intro a hf
              exact fq_ok (d := 23) rfl hf (hs.ex fun _ h => h) hf.1
            · intro a wf hX hf hd
              have e_23 : a.tmps.getD 23 undef = .bool ((toStr z2) == (toStr z4)) := hd 6 23 (by kernel_rfl) (by kernel_rfl)
              rw [hb2] at e_23
              replace hf : Fr 32 [(23, .bool true), (1, .pointer (some ⟨w.heap.size, 0, none⟩)), (4, .slice ao1 z2.length cp1), (5, .pointer (some ⟨w4.heap.size, 0, none⟩)), (6, .int .i64 z3.2)] a := ⟨e_23, hf⟩; clear e_23
              clear hd
              have hs : Sep wf (star F2 w6 wf) noR wf (star F2 w6 wf) [] := hs0.fstart hX [] rfl rfl
              refine st tbOk 1 [24] (L' := [(24, .int .i64 z3.2)]) hf (by kernel_rfl) ?_
              clear hf; clear a; intro a hf
              exact fq_ok (d := 24) rfl hf (hs.ex fun _ h => h) hf.1
            · intro a wf hX hf hd
              have e_24 : a.tmps.getD 24 undef = .int .i64 z3.2 := hd 7 24 (by kernel_rfl) (by kernel_rfl)
              have e_23 : a.tmps.getD 23 undef = .bool ((toStr z2) == (toStr z4)) := hd 6 23 (by kernel_rfl) (by kernel_rfl)
              rw [hb2] at e_23
              replace hf : Fr 32 [(24, .int .i64 z3.2), (23, .bool true), (1, .pointer (some ⟨w.heap.size, 0, none⟩)), (4, .slice ao1 z2.length cp1), (5, .pointer (some ⟨w4.heap.size, 0, none⟩)), (6, .int .i64 z3.2)] a := ⟨e_24, e_23, hf⟩; clear e_24 e_23
              clear hd
              have hs : Sep wf (star F2 w6 wf) noR wf (star F2 w6 wf) [] := hs0.fstart hX [] rfl rfl
              refine st tbOk 1 [25] (L' := [(25, .bool (z3.2 == 0))]) hf (by kernel_rfl) ?_
              clear hf; clear a; intro a hf
              exact fq_ok (d := 25) rfl hf (hs.ex fun _ h => h) hf.1
            · intro a wf hX hf hd
              have e_23 : a.tmps.getD 23 undef = .bool ((toStr z2) == (toStr z4)) := hd 6 23 (by kernel_rfl) (by kernel_rfl)
              rw [hb2] at e_23
              have e_25 : a.tmps.getD 25 undef = .bool (z3.2 == 0) := hd 8 25 (by kernel_rfl) (by kernel_rfl)
              replace hf : Fr 32 [(23, .bool true), (25, .bool (z3.2 == 0)), (1, .pointer (some ⟨w.heap.size, 0, none⟩)), (4, .slice ao1 z2.length cp1), (5, .pointer (some ⟨w4.heap.size, 0, none⟩)), (6, .int .i64 z3.2)] a := ⟨e_23, e_25, hf⟩; clear e_23 e_25
              clear hd
              have hs : Sep wf (star F2 w6 wf) noR wf (star F2 w6 wf) [] := hs0.fstart hX [] rfl rfl
              refine st tbOk 1 [26] (L' := [(26, .bool (z3.2 == 0))]) hf (by kernel_rfl) ?_
              clear hf; clear a; intro a hf
              exact fq_ok (d := 26) rfl hf (hs.ex fun _ h => h) hf.1
            · intro a wf hX hf hd
              have e_26 : a.tmps.getD 26 undef = .bool (z3.2 == 0) := hd 9 26 (by kernel_rfl) (by kernel_rfl)
              replace hf : Fr 32 [(26, .bool (z3.2 == 0)), (1, .pointer (some ⟨w.heap.size, 0, none⟩)), (4, .slice ao1 z2.length cp1), (5, .pointer (some ⟨w4.heap.size, 0, none⟩)), (6, .int .i64 z3.2)] a := ⟨e_26, hf⟩; clear e_26
              clear hd
              have hs : Sep wf (star F2 w6 wf) noR wf (star F2 w6 wf) [] := hs0.fstart hX [] rfl rfl
              refine st tbOk 1 [27] (L' := [(27, .bool (z3.2 == 0))]) hf (by kernel_rfl) ?_
              clear hf; clear a; intro a hf
              exact fq_ok (d := 27) rfl hf (hs.ex fun _ h => h) hf.1
            · intro a wf hX hf hd
              have e_27 : a.tmps.getD 27 undef = .bool (z3.2 == 0) := hd 10 27 (by kernel_rfl) (by kernel_rfl)
              rw [hb3] at e_27
              replace hf : Fr 32 [(27, .bool false), (1, .pointer (some ⟨w.heap.size, 0, none⟩)), (4, .slice ao1 z2.length cp1), (5, .pointer (some ⟨w4.heap.size, 0, none⟩)), (6, .int .i64 z3.2)] a := ⟨e_27, hf⟩; clear e_27
              clear hd
              have hs : Sep wf (star F2 w6 wf) noR wf (star F2 w6 wf) [] := hs0.fstart hX [] rfl rfl
              refine st tbOk 1 [28] (L' := [(28, undef)]) hf (by kernel_rfl) ?_
              clear hf; clear a; intro a hf
              exact fq_ok (d := 28) rfl hf (hs.ex fun _ h => h) hf.1
            · intro a wf hX hf hd
              have e_27 : a.tmps.getD 27 undef = .bool (z3.2 == 0) := hd 10 27 (by kernel_rfl) (by kernel_rfl)
              rw [hb3] at e_27
              replace hf : Fr 32 [(27, .bool false), (1, .pointer (some ⟨w.heap.size, 0, none⟩)), (4, .slice ao1 z2.length cp1), (5, .pointer (some ⟨w4.heap.size, 0, none⟩)), (6, .int .i64 z3.2)] a := ⟨e_27, hf⟩; clear e_27
              clear hd
              have hs : Sep wf (star F2 w6 wf) noR wf (star F2 w6 wf) [] := hs0.fstart hX [] rfl rfl
              refine st tbOk 1 [29] (L' := [(29, undef)]) hf (by kernel_rfl) ?_
              clear hf; clear a; intro a hf
              exact fq_ok (d := 29) rfl hf (hs.ex fun _ h => h) hf.1
            · intro a wf hX hf hd
              have e_28 : a.tmps.getD 28 undef = undef := hd 11 28 (by kernel_rfl) (by kernel_rfl)
              have e_29 : a.tmps.getD 29 undef = undef := hd 12 29 (by kernel_rfl) (by kernel_rfl)
              have e_27 : a.tmps.getD 27 undef = .bool (z3.2 == 0) := hd 10 27 (by kernel_rfl) (by kernel_rfl)
              rw [hb3] at e_27
              replace hf : Fr 32 [(28, undef), (29, undef), (27, .bool false), (1, .pointer (some ⟨w.heap.size, 0, none⟩)), (4, .slice ao1 z2.length cp1), (5, .pointer (some ⟨w4.heap.size, 0, none⟩)), (6, .int .i64 z3.2)] a := ⟨e_28, e_29, e_27, hf⟩; clear e_28 e_29 e_27
              clear hd
              have hs : Sep wf (star F2 w6 wf) noR wf (star F2 w6 wf) [] := hs0.fstart hX [] rfl rfl
              refine st tbOk 1 [30] (L' := [(30, undef)]) hf (by kernel_rfl) ?_
              clear hf; clear a; intro a hf
              exact fq_ok (d := 30) rfl hf (hs.ex fun _ h => h) hf.1
            · intro a wf hX hf hd
              have e_27 : a.tmps.getD 27 undef = .bool (z3.2 == 0) := hd 10 27 (by kernel_rfl) (by kernel_rfl)
              rw [hb3] at e_27
              have e_30 : a.tmps.getD 30 undef = undef := hd 13 30 (by kernel_rfl) (by kernel_rfl)
              replace hf : Fr 32 [(27, .bool false), (30, undef), (1, .pointer (some ⟨w.heap.size, 0, none⟩)), (4, .slice ao1 z2.length cp1), (5, .pointer (some ⟨w4.heap.size, 0, none⟩)), (6, .int .i64 z3.2)] a := ⟨e_27, e_30, hf⟩; clear e_27 e_30
              clear hd
              have hs : Sep wf (star F2 w6 wf) noR wf (star F2 w6 wf) [] := hs0.fstart hX [] rfl rfl
              refine st tbOk 1 [31] (L' := [(31, .bool false)]) hf (by kernel_rfl) ?_
              clear hf; clear a; intro a hf
              exact fq_ok (d := 31) rfl hf (hs.ex fun _ h => h) hf.1
            · intro a wf hX hf hd
              have e_31 : a.tmps.getD 31 undef = .bool false := hd 14 31 (by kernel_rfl) (by kernel_rfl)
              replace hf : Fr 32 [(31, .bool false), (1, .pointer (some ⟨w.heap.size, 0, none⟩)), (4, .slice ao1 z2.length cp1), (5, .pointer (some ⟨w4.heap.size, 0, none⟩)), (6, .int .i64 z3.2)] a := ⟨e_31, hf⟩; clear e_31
              clear hd
              have hs : Sep wf (star F2 w6 wf) noR wf (star F2 w6 wf) [] := hs0.fstart hX [] rfl rfl
              refine st tbOk 1 [2] (L' := [(2, .bool false)]) hf (by kernel_rfl) ?_
              clear hf; clear a; intro a hf
              exact fq_ok (d := 2) rfl hf (hs.ex fun _ h => h) hf.1
          · clear hf hs; clear a; intro a w9 hx hf hd
            have hs : Sep w F R w9 (star F2 w6 w9) [.box w4.heap.size 25 [.int .u32 z3.1.1, .int .u32 z3.1.2.1, .int .u64 z3.1.2.2.1, .int .u64 z3.1.2.2.2.1, .int .u64 z3.1.2.2.2.2.1, .int .u64 z3.1.2.2.2.2.2.1, .int .u64 z3.1.2.2.2.2.2.2], .row 5 (tI .u8) (.slice ao1 z2.length cp1) z2, .box w.heap.size 25 [.int .u32 p_s.1, .int .u32 p_s.2.1, .int .u64 p_s.2.2.1, .int .u64 p_s.2.2.2.1, .int .u64 p_s.2.2.2.2.1, .int .u64 p_s.2.2.2.2.2.1, .int .u64 p_s.2.2.2.2.2.2]] := hs0.starX hx
            have e_2 : a.tmps.getD 2 undef = .bool false := hd 15 2 (by kernel_rfl) (by kernel_rfl)
            clear hd hx
            clear hs0
            replace hf : Fr 32 [(2, .bool false), (1, .pointer (some ⟨w.heap.size, 0, none⟩)), (4, .slice ao1 z2.length cp1), (5, .pointer (some ⟨w4.heap.size, 0, none⟩)), (6, .int .i64 z3.2)] a := ⟨e_2, hf⟩
            clear e_2
            replace hs : Sep w F R w9 (star F2 w6 w9) [] := hs.sel [] rfl rfl
            replace hf := Fr.keep (ks := [2]) (L' := [(2, .bool false)]) hf (by kernel_rfl)
            refine wpList_nil ?_
            exact hK1 false _ _ ⟨_, hs.sel [] rfl rfl, hf.keep (ks := [2]) (by kernel_rfl)⟩ hS
      · replace hS := of_f hb2 hS
        have hs0 := hs
        refine regF 16 [fun u uw => u = .slice ao1 z2.length cp1,
    fun u uw => u = strV (toStr z2),
    fun u uw => u = .agg #[.int .u32 p_s.1, .int .u32 p_s.2.1, .int .u64 p_s.2.2.1, .int .u64 p_s.2.2.2.1, .int .u64 p_s.2.2.2.2.1, .int .u64 p_s.2.2.2.2.2.1, .int .u64 p_s.2.2.2.2.2.2],
    fun u uw => ∃ (ao3 : Option Addr) (cp3 : Nat) (F' : SH), u = .slice ao3 z4.length cp3 ∧ Sep w6 F2 noR uw F' [.row 5 (tI .u8) (.slice ao3 z4.length cp3) z4],
    fun u uw => u = strV (toStr z4),
    fun u uw => u = .bool ((toStr z2) == (toStr z4)),
    fun u uw => u = .bool ((toStr z2) == (toStr z4)),
    fun u uw => u = undef,
    fun u uw => u = undef,
    fun u uw => u = .bool false,
    fun u uw => u = .bool false,
    fun u uw => u = undef,
    fun u uw => u = undef,
    fun u uw => u = undef,
    fun u uw => u = .bool false,
    fun u uw => u = .bool false] mixed (Fr.keep (ks := [1, 4, 5, 6]) (L' := [(1, .pointer (some ⟨w.heap.size, 0, none⟩)), (4, .slice ao1 z2.length cp1), (5, .pointer (some ⟨w4.heap.size, 0, none⟩)), (6, .int .i64 z3.2)]) hf (by kernel_rfl)) (by kernel_rfl) rfl ?_ ?_ ?_
        · exact ⟨fun _ _ _ h _ => h, fun _ _ _ h _ => h, fun _ _ _ h _ => h, fun _ _ _ ⟨ao3, cp3, F', e, h⟩ hx => ⟨ao3, cp3, F', e, h.ext hx⟩, fun _ _ _ h _ => h, fun _ _ _ h _ => h, fun _ _ _ h _ => h, fun _ _ _ h _ => h, fun _ _ _ h _ => h, fun _ _ _ h _ => h, fun _ _ _ h _ => h, fun _ _ _ h _ => h, fun _ _ _ h _ => h, fun _ _ _ h _ => h, fun _ _ _ h _ => h, fun _ _ _ h _ => h, trivial⟩
        · clear hS hf hs; clear a
          refine ⟨?_, ?_, ?_, ?_, ?_, ?_, ?_, ?_, ?_, ?_, ?_, ?_, ?_, ?_, ?_, ?_, trivial⟩
          · intro a wf hX hf hd
            clear hd
            have hs : Sep wf (star F2 w6 wf) noR wf (star F2 w6 wf) [] := hs0.fstart hX [] rfl rfl
            refine st tbOk 1 [17] (L' := [(17, .slice ao1 z2.length cp1)]) hf (by kernel_rfl) ?_
            clear hf; clear a; intro a hf
            exact fq_ok (d := 17) rfl hf (hs.ex fun _ h => h) hf.1
          · intro a wf hX hf hd
            have e_17 : a.tmps.getD 17 undef = .slice ao1 z2.length cp1 := hd 0 17 (by kernel_rfl) (by kernel_rfl)
            replace hf : Fr 32 [(17, .slice ao1 z2.length cp1), (1, .pointer (some ⟨w.heap.size, 0, none⟩)), (4, .slice ao1 z2.length cp1), (5, .pointer (some ⟨w4.heap.size, 0, none⟩)), (6, .int .i64 z3.2)] a := ⟨e_17, hf⟩; clear e_17
            clear hd
            have hs : Sep wf (star F2 w6 wf) noR wf (star F2 w6 wf) [] := hs0.fstart hX [] rfl rfl
            refine b2sR tbOk u27 u5 u9 ((hs0.raW 1 rfl).mono hX.le (star_ge _ w6 wf)) hf (by kernel_rfl) (by kernel_rfl) (by kernel_rfl) ?_
            clear hf; clear a; intro a hf
            exact fq_ok (d := 18) rfl hf (hs.ex fun _ h => h) hf.1
          · intro a wf hX hf hd
            clear hd
            have hs : Sep wf (star F2 w6 wf) noR wf (star F2 w6 wf) [] := hs0.fstart hX [] rfl rfl
            refine ldC tbOk (T := 25) ((hs0.cbx 2 rfl).mono hX.le) (LeH.refl _) 0 (.agg #[.int .u32 p_s.1, .int .u32 p_s.2.1, .int .u64 p_s.2.2.1, .int .u64 p_s.2.2.2.1, .int .u64 p_s.2.2.2.2.1, .int .u64 p_s.2.2.2.2.2.1, .int .u64 p_s.2.2.2.2.2.2]) hf (by kernel_rfl) (by kernel_rfl) (by kernel_rfl) (by kernel_rfl) ?_
            clear hf; clear a; intro a hf
            exact fq_ok (d := 19) rfl hf (hs.ex fun _ h => h) hf.1
          · intro a wf hX hf hd
            have e_19 : a.tmps.getD 19 undef = .agg #[.int .u32 p_s.1, .int .u32 p_s.2.1, .int .u64 p_s.2.2.1, .int .u64 p_s.2.2.2.1, .int .u64 p_s.2.2.2.2.1, .int .u64 p_s.2.2.2.2.2.1, .int .u64 p_s.2.2.2.2.2.2] := hd 2 19 (by kernel_rfl) (by kernel_rfl)
            replace hf : Fr 32 [(19, .agg #[.int .u32 p_s.1, .int .u32 p_s.2.1, .int .u64 p_s.2.2.1, .int .u64 p_s.2.2.2.1, .int .u64 p_s.2.2.2.2.1, .int .u64 p_s.2.2.2.2.2.1, .int .u64 p_s.2.2.2.2.2.2]), (1, .pointer (some ⟨w.heap.size, 0, none⟩)), (4, .slice ao1 z2.length cp1), (5, .pointer (some ⟨w4.heap.size, 0, none⟩)), (6, .int .i64 z3.2)] a := ⟨e_19, hf⟩; clear e_19
            clear hd
            have hs : Sep wf (star F2 w6 wf) noR wf (star F2 w6 wf) [] := hs0.fstart hX [] rfl rfl
            refine clV ent14 (vs := [.agg #[.int .u32 p_s.1, .int .u32 p_s.2.1, .int .u64 p_s.2.2.1, .int .u64 p_s.2.2.2.1, .int .u64 p_s.2.2.2.2.1, .int .u64 p_s.2.2.2.2.2.1, .int .u64 p_s.2.2.2.2.2.2]]) (caps := []) hf (by kernel_rfl) (by kernel_rfl) (by kernel_rfl) (by kernel_rfl) (ref04_Put_ok (p_s := (p_s.1, p_s.2.1, p_s.2.2.1, p_s.2.2.2.1, p_s.2.2.2.2.1, p_s.2.2.2.2.2.1, p_s.2.2.2.2.2.2)) (hs.enter [] rfl rfl) hz4) ?_
            clear hf; clear a; intro v w7 a hT hf; obtain ⟨ao2, cp2, F5, rfl, hr⟩ := hT
            replace hs : Sep wf (star F2 w6 wf) noR w7 F5 [.row 5 (tI .u8) (.slice ao2 z4.length cp2) z4] := hs.back [] [] rfl rfl rfl rfl hr
            clear hr
            exact fq_ok (d := 20) rfl hf (hs.ex fun _ h => h) ⟨ao2, cp2, _, hf.1, (hs.sel [0] rfl rfl).rebase hX⟩
          · intro a wf hX hf hd
            obtain ⟨ao3, cp3, F_20, e_20, h_20⟩ : ∃ (ao3 : Option Addr) (cp3 : Nat) (F' : SH), a.tmps.getD 20 undef = .slice ao3 z4.length cp3 ∧ Sep w6 F2 noR wf F' [.row 5 (tI .u8) (.slice ao3 z4.length cp3) z4] := hd 3 20 (by kernel_rfl) (by kernel_rfl)
            replace hf : Fr 32 [(20, .slice ao3 z4.length cp3), (1, .pointer (some ⟨w.heap.size, 0, none⟩)), (4, .slice ao1 z2.length cp1), (5, .pointer (some ⟨w4.heap.size, 0, none⟩)), (6, .int .i64 z3.2)] a := ⟨e_20, hf⟩; clear e_20
            clear hd
            have hs : Sep wf (star F2 w6 wf) noR wf (star F2 w6 wf) [] := hs0.fstart hX [] rfl rfl
            replace hs : Sep wf (star F2 w6 wf) noR wf (star F2 w6 wf) [.ro (tI .u8) (.slice ao3 z4.length cp3) z4] := hs.addStar h_20 0 rfl rfl
            clear h_20
            refine b2sR tbOk u27 u5 u9 (hs.raR 0 rfl) hf (by kernel_rfl) (by kernel_rfl) (by kernel_rfl) ?_
            clear hf; clear a; intro a hf
            exact fq_ok (d := 21) rfl hf (hs.ex fun _ h => h) hf.1
          · intro a wf hX hf hd
            have e_18 : a.tmps.getD 18 undef = strV (toStr z2) := hd 1 18 (by kernel_rfl) (by kernel_rfl)
            have e_21 : a.tmps.getD 21 undef = strV (toStr z4) := hd 4 21 (by kernel_rfl) (by kernel_rfl)
            replace hf : Fr 32 [(18, strV (toStr z2)), (21, strV (toStr z4)), (1, .pointer (some ⟨w.heap.size, 0, none⟩)), (4, .slice ao1 z2.length cp1), (5, .pointer (some ⟨w4.heap.size, 0, none⟩)), (6, .int .i64 z3.2)] a := ⟨e_18, e_21, hf⟩; clear e_18 e_21
            clear hd
            have hs : Sep wf (star F2 w6 wf) noR wf (star F2 w6 wf) [] := hs0.fstart hX [] rfl rfl
            refine st tbOk 1 [22] (L' := [(22, .bool ((toStr z2) == (toStr z4)))]) hf (by kernel_rfl) ?_
            clear hf; clear a; intro a hf
            exact fq_ok (d := 22) rfl hf (hs.ex fun _ h => h) hf.1
          · intro a wf hX hf hd
            have e_22 : a.tmps.getD 22 undef = .bool ((toStr z2) == (toStr z4)) := hd 5 22 (by kernel_rfl) (by kernel_rfl)
            replace hf : Fr 32 [(22, .bool ((toStr z2) == (toStr z4))), (1, .pointer (some ⟨w.heap.size, 0, none⟩)), (4, .slice ao1 z2.length cp1), (5, .pointer (some ⟨w4.heap.size, 0, none⟩)), (6, .int .i64 z3.2)] a := ⟨e_22, hf⟩; clear e_22
            clear hd
            have hs : Sep wf (star F2 w6 wf) noR wf (star F2 w6 wf) [] := hs0.fstart hX [] rfl rfl
            refine st tbOk 1 [23] (L' := [(23, .bool ((toStr z2) == (toStr z4)))]) hf (by kernel_rfl) ?_
            clear hf; clear a; intro a hf
            exact fq_ok (d := 23) rfl hf (hs.ex fun _ h => h) hf.1
          · intro a wf hX hf hd
            have e_23 : a.tmps.getD 23 undef = .bool ((toStr z2) == (toStr z4)) := hd 6 23 (by kernel_rfl) (by kernel_rfl)
            rw [hb2] at e_23
            replace hf : Fr 32 [(23, .bool false), (1, .pointer (some ⟨w.heap.size, 0, none⟩)), (4, .slice ao1 z2.length cp1), (5, .pointer (some ⟨w4.heap.size, 0, none⟩)), (6, .int .i64 z3.2)] a := ⟨e_23, hf⟩; clear e_23
            clear hd
            have hs : Sep wf (star F2 w6 wf) noR wf (star F2 w6 wf) [] := hs0.fstart hX [] rfl rfl
            refine st tbOk 1 [24] (L' := [(24, undef)]) hf (by kernel_rfl) ?_
            clear hf; clear a; intro a hf
            exact fq_ok (d := 24) rfl hf (hs.ex fun _ h => h) hf.1
          · intro a wf hX hf hd
            have e_24 : a.tmps.getD 24 undef = undef := hd 7 24 (by kernel_rfl) (by kernel_rfl)
            have e_23 : a.tmps.getD 23 undef = .bool ((toStr z2) == (toStr z4)) := hd 6 23 (by kernel_rfl) (by kernel_rfl)
            rw [hb2] at e_23
            replace hf : Fr 32 [(24, undef), (23, .bool false), (1, .pointer (some ⟨w.heap.size, 0, none⟩)), (4, .slice ao1 z2.length cp1), (5, .pointer (some ⟨w4.heap.size, 0, none⟩)), (6, .int .i64 z3.2)] a := ⟨e_24, e_23, hf⟩; clear e_24 e_23
            clear hd
            have hs : Sep wf (star F2 w6 wf) noR wf (star F2 w6 wf) [] := hs0.fstart hX [] rfl rfl
            refine st tbOk 1 [25] (L' := [(25, undef)]) hf (by kernel_rfl) ?_
            clear hf; clear a; intro a hf
            exact fq_ok (d := 25) rfl hf (hs.ex fun _ h => h) hf.1
          · intro a wf hX hf hd
            have e_23 : a.tmps.getD 23 undef = .bool ((toStr z2) == (toStr z4)) := hd 6 23 (by kernel_rfl) (by kernel_rfl)
            rw [hb2] at e_23
            have e_25 : a.tmps.getD 25 undef = undef := hd 8 25 (by kernel_rfl) (by kernel_rfl)
            replace hf : Fr 32 [(23, .bool false), (25, undef), (1, .pointer (some ⟨w.heap.size, 0, none⟩)), (4, .slice ao1 z2.length cp1), (5, .pointer (some ⟨w4.heap.size, 0, none⟩)), (6, .int .i64 z3.2)] a := ⟨e_23, e_25, hf⟩; clear e_23 e_25
            clear hd
            have hs : Sep wf (star F2 w6 wf) noR wf (star F2 w6 wf) [] := hs0.fstart hX [] rfl rfl
            refine st tbOk 1 [26] (L' := [(26, .bool false)]) hf (by kernel_rfl) ?_
            clear hf; clear a; intro a hf
            exact fq_ok (d := 26) rfl hf (hs.ex fun _ h => h) hf.1
          · intro a wf hX hf hd
            have e_26 : a.tmps.getD 26 undef = .bool false := hd 9 26 (by kernel_rfl) (by kernel_rfl)
            replace hf : Fr 32 [(26, .bool false), (1, .pointer (some ⟨w.heap.size, 0, none⟩)), (4, .slice ao1 z2.length cp1), (5, .pointer (some ⟨w4.heap.size, 0, none⟩)), (6, .int .i64 z3.2)] a := ⟨e_26, hf⟩; clear e_26
            clear hd
            have hs : Sep wf (star F2 w6 wf) noR wf (star F2 w6 wf) [] := hs0.fstart hX [] rfl rfl
            refine st tbOk 1 [27] (L' := [(27, .bool false)]) hf (by kernel_rfl) ?_
            clear hf; clear a; intro a hf
            exact fq_ok (d := 27) rfl hf (hs.ex fun _ h => h) hf.1
          · intro a wf hX hf hd
            have e_27 : a.tmps.getD 27 undef = .bool false := hd 10 27 (by kernel_rfl) (by kernel_rfl)
            replace hf : Fr 32 [(27, .bool false), (1, .pointer (some ⟨w.heap.size, 0, none⟩)), (4, .slice ao1 z2.length cp1), (5, .pointer (some ⟨w4.heap.size, 0, none⟩)), (6, .int .i64 z3.2)] a := ⟨e_27, hf⟩; clear e_27
            clear hd
            have hs : Sep wf (star F2 w6 wf) noR wf (star F2 w6 wf) [] := hs0.fstart hX [] rfl rfl
            refine st tbOk 1 [28] (L' := [(28, undef)]) hf (by kernel_rfl) ?_
            clear hf; clear a; intro a hf
            exact fq_ok (d := 28) rfl hf (hs.ex fun _ h => h) hf.1
          · intro a wf hX hf hd
            have e_27 : a.tmps.getD 27 undef = .bool false := hd 10 27 (by kernel_rfl) (by kernel_rfl)
            replace hf : Fr 32 [(27, .bool false), (1, .pointer (some ⟨w.heap.size, 0, none⟩)), (4, .slice ao1 z2.length cp1), (5, .pointer (some ⟨w4.heap.size, 0, none⟩)), (6, .int .i64 z3.2)] a := ⟨e_27, hf⟩; clear e_27
            clear hd
            have hs : Sep wf (star F2 w6 wf) noR wf (star F2 w6 wf) [] := hs0.fstart hX [] rfl rfl
            refine st tbOk 1 [29] (L' := [(29, undef)]) hf (by kernel_rfl) ?_
            clear hf; clear a; intro a hf
            exact fq_ok (d := 29) rfl hf (hs.ex fun _ h => h) hf.1
          · intro a wf hX hf hd
            have e_28 : a.tmps.getD 28 undef = undef := hd 11 28 (by kernel_rfl) (by kernel_rfl)
            have e_29 : a.tmps.getD 29 undef = undef := hd 12 29 (by kernel_rfl) (by kernel_rfl)
            have e_27 : a.tmps.getD 27 undef = .bool false := hd 10 27 (by kernel_rfl) (by kernel_rfl)
            replace hf : Fr 32 [(28, undef), (29, undef), (27, .bool false), (1, .pointer (some ⟨w.heap.size, 0, none⟩)), (4, .slice ao1 z2.length cp1), (5, .pointer (some ⟨w4.heap.size, 0, none⟩)), (6, .int .i64 z3.2)] a := ⟨e_28, e_29, e_27, hf⟩; clear e_28 e_29 e_27
            clear hd
            have hs : Sep wf (star F2 w6 wf) noR wf (star F2 w6 wf) [] := hs0.fstart hX [] rfl rfl
            refine st tbOk 1 [30] (L' := [(30, undef)]) hf (by kernel_rfl) ?_
            clear hf; clear a; intro a hf
            exact fq_ok (d := 30) rfl hf (hs.ex fun _ h => h) hf.1
          · intro a wf hX hf hd
            have e_27 : a.tmps.getD 27 undef = .bool false := hd 10 27 (by kernel_rfl) (by kernel_rfl)
            have e_30 : a.tmps.getD 30 undef = undef := hd 13 30 (by kernel_rfl) (by kernel_rfl)
            replace hf : Fr 32 [(27, .bool false), (30, undef), (1, .pointer (some ⟨w.heap.size, 0, none⟩)), (4, .slice ao1 z2.length cp1), (5, .pointer (some ⟨w4.heap.size, 0, none⟩)), (6, .int .i64 z3.2)] a := ⟨e_27, e_30, hf⟩; clear e_27 e_30
            clear hd
            have hs : Sep wf (star F2 w6 wf) noR wf (star F2 w6 wf) [] := hs0.fstart hX [] rfl rfl
            refine st tbOk 1 [31] (L' := [(31, .bool false)]) hf (by kernel_rfl) ?_
            clear hf; clear a; intro a hf
            exact fq_ok (d := 31) rfl hf (hs.ex fun _ h => h) hf.1
          · intro a wf hX hf hd
            have e_31 : a.tmps.getD 31 undef = .bool false := hd 14 31 (by kernel_rfl) (by kernel_rfl)
            replace hf : Fr 32 [(31, .bool false), (1, .pointer (some ⟨w.heap.size, 0, none⟩)), (4, .slice ao1 z2.length cp1), (5, .pointer (some ⟨w4.heap.size, 0, none⟩)), (6, .int .i64 z3.2)] a := ⟨e_31, hf⟩; clear e_31
            clear hd
            have hs : Sep wf (star F2 w6 wf) noR wf (star F2 w6 wf) [] := hs0.fstart hX [] rfl rfl
            refine st tbOk 1 [2] (L' := [(2, .bool false)]) hf (by kernel_rfl) ?_
            clear hf; clear a; intro a hf
            exact fq_ok (d := 2) rfl hf (hs.ex fun _ h => h) hf.1
        · clear hf hs; clear a; intro a w10 hx hf hd
          have hs : Sep w F R w10 (star F2 w6 w10) [.box w4.heap.size 25 [.int .u32 z3.1.1, .int .u32 z3.1.2.1, .int .u64 z3.1.2.2.1, .int .u64 z3.1.2.2.2.1, .int .u64 z3.1.2.2.2.2.1, .int .u64 z3.1.2.2.2.2.2.1, .int .u64 z3.1.2.2.2.2.2.2], .row 5 (tI .u8) (.slice ao1 z2.length cp1) z2, .box w.heap.size 25 [.int .u32 p_s.1, .int .u32 p_s.2.1, .int .u64 p_s.2.2.1, .int .u64 p_s.2.2.2.1, .int .u64 p_s.2.2.2.2.1, .int .u64 p_s.2.2.2.2.2.1, .int .u64 p_s.2.2.2.2.2.2]] := hs0.starX hx
          have e_2 : a.tmps.getD 2 undef = .bool false := hd 15 2 (by kernel_rfl) (by kernel_rfl)
          clear hd hx
          clear hs0
          replace hf : Fr 32 [(2, .bool false), (1, .pointer (some ⟨w.heap.size, 0, none⟩)), (4, .slice ao1 z2.length cp1), (5, .pointer (some ⟨w4.heap.size, 0, none⟩)), (6, .int .i64 z3.2)] a := ⟨e_2, hf⟩
          clear e_2
          replace hs : Sep w F R w10 (star F2 w6 w10) [] := hs.sel [] rfl rfl
          replace hf := Fr.keep (ks := [2]) (L' := [(2, .bool false)]) hf (by kernel_rfl)
          refine wpList_nil ?_
          exact hK1 false _ _ ⟨_, hs.sel [] rfl rfl, hf.keep (ks := [2]) (by kernel_rfl)⟩ hS

end Dm
