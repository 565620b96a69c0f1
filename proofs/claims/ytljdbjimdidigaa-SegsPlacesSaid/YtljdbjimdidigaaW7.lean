/-
  The walks: a call of each Go function gives what its shallow form gives, where that form gives something; printed by a program of this repo. No condition.
-/
import Derived.Test.YtljdbjimdidigaaWT
namespace Dm
open Go Go.RowKit Go.Proofs

set_option maxHeartbeats 4000000 in
theorem ref04_Place_ok {w : World} {F : SH} {p_l : List (Int × Int × Int × Int × Int × Int × Int)} {addr : Int} {size : Int} {ao1 : Option Addr} {cp1 : Nat} (hs : Sep w F (blks [.ro ty24 (.slice ao1 p_l.length cp1) p_l]) w F [.ro ty24 (.slice ao1 p_l.length cp1) p_l]) {r : Int × Int} (hS : ref04_Place p_l addr size = some r) :
    Calls Try.prog 21 [.slice ao1 p_l.length cp1, .int .u64 addr, .int .u64 size].toArray w (Gives (fun u w' => ∃ (F' : SH), u = .tuple #[.int .u64 r.1, .int .i64 r.2] ∧ Sep w F (blks [.ro ty24 (.slice ao1 p_l.length cp1) p_l]) w' F' [])) := by
  generalize (blks [.ro ty24 (.slice ao1 p_l.length cp1) p_l]) = R at hs ⊢
  unfold ref04_Place at hS
  refine fn_ok (vs := [.slice ao1 p_l.length cp1, .int .u64 addr, .int .u64 size]) Try.func21 rfl 58 Try.ntmps21 (Nat.le_of_ble_eq_true rfl) ?_
  intro a hf
  replace hf := Fr.cast (L' := [(0, .slice ao1 p_l.length cp1), (1, .int .u64 addr), (2, .int .u64 size)]) hf (by kernel_rfl)
  refine sq ?_
  refine reg ?_
  refine st tbOk 2 [0, 1, 2] (L' := [(0, .slice ao1 p_l.length cp1), (1, .int .u64 addr), (2, .int .u64 size)]) hf (by kernel_rfl) ?_
  clear hf; clear a; intro a hf
  refine wpList_nil ?_
  refine sq ?_
  refine sq ?_
  refine reg ?_
  refine st tbOk 2 [0, 1, 2, 11] (L' := [(0, .slice ao1 p_l.length cp1), (1, .int .u64 addr), (2, .int .u64 size), (11, .bool (size == 0))]) hf (by kernel_rfl) ?_
  clear hf; clear a; intro a hf
  refine wpList_nil ?_
  refine cnd (b := size == 0) hf (by kernel_rfl) (fun hb1 => ?_) (fun hb1 => ?_)
  · replace hS := of_t hb1 hS
    refine sq ?_
    refine reg ?_
    refine st tbOk 2 [6, 7] (L' := [(6, .int .u64 0), (7, .int .i64 40)]) hf (by kernel_rfl) ?_
    clear hf; clear a; intro a hf
    refine wpList_nil ?_
    have hr := Option.some.inj hS; subst hr
    refine wp_ret ?_
    exact ret_ok hf (vs := [.int .u64 0, .int .i64 40]) (by kernel_rfl) ⟨_, rfl, hs.sel [] rfl rfl⟩
  · replace hS := of_f hb1 hS
    refine wp_skip ?_
    refine sq ?_
    refine sq ?_
    refine reg ?_
    refine st tbOk 1 [0, 1, 2, 8] (L' := [(0, .slice ao1 p_l.length cp1), (1, .int .u64 addr), (2, .int .u64 size), (8, .int .i64 0)]) hf (by kernel_rfl) ?_
    clear hf; clear a; intro a hf
    refine wpList_nil ?_
    refine ctj (fun (s1 : Unit) (a : Act) (w' : World) => ∃ (F1 : SH), Sep w F R w' F1 [] ∧ Fr 58 [] a) hS ?_ ?_
    · clear hS hf hs; clear a; intro s1 a w5 hM hS
      obtain ⟨F1, hs, hf⟩ := hM
      refine sq ?_
      refine reg ?_
      refine st tbOk 2 [6, 7] (L' := [(6, .int .u64 0), (7, .int .i64 40)]) hf (by kernel_rfl) ?_
      clear hf; clear a; intro a hf
      refine wpList_nil ?_
      have hr := Option.some.inj hS; subst hr
      refine wp_ret ?_
      exact ret_ok hf (vs := [.int .u64 0, .int .i64 40]) (by kernel_rfl) ⟨_, rfl, hs.sel [] rfl rfl⟩
    · clear hS; intro KK1 k1 hK1 hS
      refine blk ?_
      refine lp (st := 0) (fun (s2 : Int) (a : Act) (w' : World) => ∃ (F2 : SH), Sep w F R w' F2 [.ro ty24 (.slice ao1 p_l.length cp1) p_l] ∧ Fr 58 [(0, .slice ao1 p_l.length cp1), (1, .int .u64 addr), (2, .int .u64 size), (8, .int .i64 s2)] a) ?_ ⟨_, hs.sel [0] rfl rfl, hf.keep (ks := [0, 1, 2, 8]) (by kernel_rfl)⟩ hS
      clear hS hf hs; clear a
      intro rec1 KK2 hK2 s2 a w1 hM hS
      obtain ⟨F2, hs, hf⟩ := hM
      refine sq ?_
      refine sq ?_
      refine reg ?_
      refine st tbOk 4 [0, 1, 2, 8, 15] (L' := [(0, .slice ao1 p_l.length cp1), (1, .int .u64 addr), (2, .int .u64 size), (8, .int .i64 s2), (15, .bool (decide (s2 < ((p_l.length : Nat) : Int))))]) hf (by kernel_rfl) ?_
      clear hf; clear a; intro a hf
      refine wpList_nil ?_
      refine cnd (b := decide (s2 < ((p_l.length : Nat) : Int))) hf (by kernel_rfl) (fun hb2 => ?_) (fun hb2 => ?_)
      · replace hS := of_t hb2 hS
        refine wp_skip ?_
        refine sq ?_
        refine blk ?_
        refine sq ?_
        refine reg ?_
        refine st tbOk 2 [0, 1, 2, 8, 18, 19] (L' := [(0, .slice ao1 p_l.length cp1), (1, .int .u64 addr), (2, .int .u64 size), (8, .int .i64 s2), (18, .slice ao1 p_l.length cp1), (19, .int .i64 s2)]) hf (by kernel_rfl) ?_
        clear hf; clear a; intro a hf
        have hT := of_gd hS; clear hS; obtain ⟨hc1, hS⟩ := hT
        refine ixR tbOk u33 i25 rfl rfl ((hs.ro 0 rfl).ra (LeH.refl _)) (k := .i64) (n := s2) hc1 hf (by kernel_rfl) (by kernel_rfl) (by kernel_rfl) (by kernel_rfl) ?_
        clear hf; clear a; intro pb1 po1 c1 a hp1 hr1 hf
        obtain rfl : c1 = [.int .u32 ((gt p_l s2).1), .int .u32 ((gt p_l s2).2.1), .int .u64 ((gt p_l s2).2.2.1), .int .u64 ((gt p_l s2).2.2.2.1), .int .u64 ((gt p_l s2).2.2.2.2.1), .int .u64 ((gt p_l s2).2.2.2.2.2.1), .int .u64 ((gt p_l s2).2.2.2.2.2.2)] := hr1
        replace hs : Sep w F R w1 F2 [.cel pb1 po1 [.int .u32 ((gt p_l s2).1), .int .u32 ((gt p_l s2).2.1), .int .u64 ((gt p_l s2).2.2.1), .int .u64 ((gt p_l s2).2.2.2.1), .int .u64 ((gt p_l s2).2.2.2.2.1), .int .u64 ((gt p_l s2).2.2.2.2.2.1), .int .u64 ((gt p_l s2).2.2.2.2.2.2)], .ro ty24 (.slice ao1 p_l.length cp1) p_l] := hs.addCel hp1
        replace hf := Fr.keep (ks := [0, 1, 2, 8, 20]) (L' := [(0, .slice ao1 p_l.length cp1), (1, .int .u64 addr), (2, .int .u64 size), (8, .int .i64 s2), (20, .pointer (some ⟨pb1, po1, none⟩))]) hf (by kernel_rfl)
        refine ldC tbOk (T := 25) (hs.ccel 0 rfl) (LeH.refl _) 0 (.agg #[.int .u32 ((gt p_l s2).1), .int .u32 ((gt p_l s2).2.1), .int .u64 ((gt p_l s2).2.2.1), .int .u64 ((gt p_l s2).2.2.2.1), .int .u64 ((gt p_l s2).2.2.2.2.1), .int .u64 ((gt p_l s2).2.2.2.2.2.1), .int .u64 ((gt p_l s2).2.2.2.2.2.2)]) hf (by kernel_rfl) (by kernel_rfl) (by kernel_rfl) (by kernel_rfl) ?_
        clear hf; clear a; intro a hf
        replace hs : Sep w F R w1 F2 [.ro ty24 (.slice ao1 p_l.length cp1) p_l] := hs.sel [1] rfl rfl
        replace hf := Fr.keep (ks := [0, 1, 2, 8, 21]) (L' := [(0, .slice ao1 p_l.length cp1), (1, .int .u64 addr), (2, .int .u64 size), (8, .int .i64 s2), (21, .agg #[.int .u32 ((gt p_l s2).1), .int .u32 ((gt p_l s2).2.1), .int .u64 ((gt p_l s2).2.2.1), .int .u64 ((gt p_l s2).2.2.2.1), .int .u64 ((gt p_l s2).2.2.2.2.1), .int .u64 ((gt p_l s2).2.2.2.2.2.1), .int .u64 ((gt p_l s2).2.2.2.2.2.2)])]) hf (by kernel_rfl)
        refine al tbOk i25 [.int .u32 0, .int .u32 0, .int .u64 0, .int .u64 0, .int .u64 0, .int .u64 0, .int .u64 0] rfl (by kernel_rfl) hf (by kernel_rfl) (by kernel_rfl) ?_
        clear hf; clear a; intro w2 a hb hx _ hf
        replace hs : Sep w F R w2 F2 [.box w1.heap.size 25 [.int .u32 0, .int .u32 0, .int .u64 0, .int .u64 0, .int .u64 0, .int .u64 0, .int .u64 0], .ro ty24 (.slice ao1 p_l.length cp1) p_l] := hs.newBox hb hx
        clear hb hx
        replace hf := Fr.keep (ks := [0, 1, 2, 8, 9, 21]) (L' := [(0, .slice ao1 p_l.length cp1), (1, .int .u64 addr), (2, .int .u64 size), (8, .int .i64 s2), (9, .pointer (some ⟨w1.heap.size, 0, none⟩)), (21, .agg #[.int .u32 ((gt p_l s2).1), .int .u32 ((gt p_l s2).2.1), .int .u64 ((gt p_l s2).2.2.1), .int .u64 ((gt p_l s2).2.2.2.1), .int .u64 ((gt p_l s2).2.2.2.2.1), .int .u64 ((gt p_l s2).2.2.2.2.2.1), .int .u64 ((gt p_l s2).2.2.2.2.2.2)])]) hf (by kernel_rfl)
        refine stB tbOk i25 (hs.bx 0 rfl) 0 [.int .u32 ((gt p_l s2).1), .int .u32 ((gt p_l s2).2.1), .int .u64 ((gt p_l s2).2.2.1), .int .u64 ((gt p_l s2).2.2.2.1), .int .u64 ((gt p_l s2).2.2.2.2.1), .int .u64 ((gt p_l s2).2.2.2.2.2.1), .int .u64 ((gt p_l s2).2.2.2.2.2.2)] [.int .u32 ((gt p_l s2).1), .int .u32 ((gt p_l s2).2.1), .int .u64 ((gt p_l s2).2.2.1), .int .u64 ((gt p_l s2).2.2.2.1), .int .u64 ((gt p_l s2).2.2.2.2.1), .int .u64 ((gt p_l s2).2.2.2.2.2.1), .int .u64 ((gt p_l s2).2.2.2.2.2.2)] (v := .agg #[.int .u32 ((gt p_l s2).1), .int .u32 ((gt p_l s2).2.1), .int .u64 ((gt p_l s2).2.2.1), .int .u64 ((gt p_l s2).2.2.2.1), .int .u64 ((gt p_l s2).2.2.2.2.1), .int .u64 ((gt p_l s2).2.2.2.2.2.1), .int .u64 ((gt p_l s2).2.2.2.2.2.2)]) rfl rfl (by kernel_rfl) (by kernel_rfl) (by kernel_rfl) (by kernel_rfl) hf (by kernel_rfl) (by kernel_rfl) (by kernel_rfl) ?_
        clear hf; clear a; intro w3 a hb hg _ hf
        replace hs : Sep w F R w3 F2 [.box w1.heap.size 25 [.int .u32 ((gt p_l s2).1), .int .u32 ((gt p_l s2).2.1), .int .u64 ((gt p_l s2).2.2.1), .int .u64 ((gt p_l s2).2.2.2.1), .int .u64 ((gt p_l s2).2.2.2.2.1), .int .u64 ((gt p_l s2).2.2.2.2.2.1), .int .u64 ((gt p_l s2).2.2.2.2.2.2)], .ro ty24 (.slice ao1 p_l.length cp1) p_l] := hs.updBox 0 rfl hb hg
        clear hb hg
        replace hf := Fr.keep (ks := [0, 1, 2, 8, 9]) (L' := [(0, .slice ao1 p_l.length cp1), (1, .int .u64 addr), (2, .int .u64 size), (8, .int .i64 s2), (9, .pointer (some ⟨w1.heap.size, 0, none⟩))]) hf (by kernel_rfl)
        refine wpList_nil ?_
        refine sq ?_
        refine sq ?_
        refine ctj (fun (s3 : Bool) (a : Act) (w' : World) => ∃ (F3 : SH), Sep w F R w' F3 [.box w1.heap.size 25 [.int .u32 ((gt p_l s2).1), .int .u32 ((gt p_l s2).2.1), .int .u64 ((gt p_l s2).2.2.1), .int .u64 ((gt p_l s2).2.2.2.1), .int .u64 ((gt p_l s2).2.2.2.2.1), .int .u64 ((gt p_l s2).2.2.2.2.2.1), .int .u64 ((gt p_l s2).2.2.2.2.2.2)], .ro ty24 (.slice ao1 p_l.length cp1) p_l] ∧ Fr 58 [(0, .slice ao1 p_l.length cp1), (1, .int .u64 addr), (2, .int .u64 size), (8, .int .i64 s2), (9, .pointer (some ⟨w1.heap.size, 0, none⟩)), (50, .bool s3)] a) hS ?_ ?_
        · clear hS hf hs; clear a; intro s3 a w4 hM hS
          obtain ⟨F3, hs, hf⟩ := hM
          refine cnd (b := s3) hf (by kernel_rfl) (fun hb6 => ?_) (fun hb6 => ?_)
          · replace hS := of_t hb6 hS
            refine wp_exit ?_
            refine reg ?_
            have hT := of_let hS; clear hS; obtain ⟨i_1, hl1, hS⟩ := hT
            refine st tbOk 3 [0, 1, 2, 8] (L' := [(0, .slice ao1 p_l.length cp1), (1, .int .u64 addr), (2, .int .u64 size), (8, .int .i64 i_1)]) hf (by subst hl1; kernel_rfl) ?_
            clear hf; clear a; intro a hf
            refine wpList_nil ?_
            exact hK2 i_1 _ _ ⟨_, hs.sel [1] rfl rfl, hf.keep (ks := [0, 1, 2, 8]) (by kernel_rfl)⟩ hS
          · replace hS := of_f hb6 hS
            refine wp_skip ?_
            refine sq ?_
            refine reg ?_
            refine st tbOk 1 [1, 9, 51] (L' := [(1, .int .u64 addr), (9, .pointer (some ⟨w1.heap.size, 0, none⟩)), (51, .pointer (some ⟨w1.heap.size, 2, none⟩))]) hf (by kernel_rfl) ?_
            clear hf; clear a; intro a hf
            refine ldC tbOk (T := 23) (hs.cbx 0 rfl) (LeH.refl _) 2 (.int .u64 ((gt p_l s2).2.2.1)) hf (by kernel_rfl) (by kernel_rfl) (by kernel_rfl) (by kernel_rfl) ?_
            clear hf; clear a; intro a hf
            replace hs : Sep w F R w4 F3 [.box w1.heap.size 25 [.int .u32 ((gt p_l s2).1), .int .u32 ((gt p_l s2).2.1), .int .u64 ((gt p_l s2).2.2.1), .int .u64 ((gt p_l s2).2.2.2.1), .int .u64 ((gt p_l s2).2.2.2.2.1), .int .u64 ((gt p_l s2).2.2.2.2.2.1), .int .u64 ((gt p_l s2).2.2.2.2.2.2)]] := hs.sel [0] rfl rfl
            replace hf := Fr.keep (ks := [1, 9, 52]) (L' := [(1, .int .u64 addr), (9, .pointer (some ⟨w1.heap.size, 0, none⟩)), (52, .int .u64 ((gt p_l s2).2.2.1))]) hf (by kernel_rfl)
            refine st tbOk 2 [52, 53, 54] (L' := [(52, .int .u64 ((gt p_l s2).2.2.1)), (53, .int .u64 addr), (54, .pointer (some ⟨w1.heap.size, 3, none⟩))]) hf (by kernel_rfl) ?_
            clear hf; clear a; intro a hf
            refine ldC tbOk (T := 23) (hs.cbx 0 rfl) (LeH.refl _) 3 (.int .u64 ((gt p_l s2).2.2.2.1)) hf (by kernel_rfl) (by kernel_rfl) (by kernel_rfl) (by kernel_rfl) ?_
            clear hf; clear a; intro a hf
            replace hs : Sep w F R w4 F3 [] := hs.sel [] rfl rfl
            replace hf := Fr.keep (ks := [52, 53, 55]) (L' := [(52, .int .u64 ((gt p_l s2).2.2.1)), (53, .int .u64 addr), (55, .int .u64 ((gt p_l s2).2.2.2.1))]) hf (by kernel_rfl)
            refine st tbOk 4 [6, 7] (L' := [(6, .int .u64 (IntKind.u64.wrap (((gt p_l s2).2.2.1) + (IntKind.u64.wrap (addr - ((gt p_l s2).2.2.2.1)))))), (7, .int .i64 0)]) hf (by kernel_rfl) ?_
            clear hf; clear a; intro a hf
            refine wpList_nil ?_
            have hr := Option.some.inj hS; subst hr
            refine wp_ret ?_
            exact ret_ok hf (vs := [.int .u64 (IntKind.u64.wrap (((gt p_l s2).2.2.1) + (IntKind.u64.wrap (addr - ((gt p_l s2).2.2.2.1))))), .int .i64 0]) (by kernel_rfl) ⟨_, rfl, hs.sel [] rfl rfl⟩
        · clear hS; intro KK3 k2 hK3 hS
          refine reg ?_
          refine st tbOk 1 [0, 1, 2, 8, 9, 22] (L' := [(0, .slice ao1 p_l.length cp1), (1, .int .u64 addr), (2, .int .u64 size), (8, .int .i64 s2), (9, .pointer (some ⟨w1.heap.size, 0, none⟩)), (22, .pointer (some ⟨w1.heap.size, 0, none⟩))]) hf (by kernel_rfl) ?_
          clear hf; clear a; intro a hf
          refine ldC tbOk (T := 22) (hs.cbx 0 rfl) (LeH.refl _) 0 (.int .u32 ((gt p_l s2).1)) hf (by kernel_rfl) (by kernel_rfl) (by kernel_rfl) (by kernel_rfl) ?_
          clear hf; clear a; intro a hf
          replace hf := Fr.keep (ks := [0, 1, 2, 8, 9, 23]) (L' := [(0, .slice ao1 p_l.length cp1), (1, .int .u64 addr), (2, .int .u64 size), (8, .int .i64 s2), (9, .pointer (some ⟨w1.heap.size, 0, none⟩)), (23, .int .u32 ((gt p_l s2).1))]) hf (by kernel_rfl)
          refine st tbOk 2 [0, 1, 2, 8, 9, 25] (L' := [(0, .slice ao1 p_l.length cp1), (1, .int .u64 addr), (2, .int .u64 size), (8, .int .i64 s2), (9, .pointer (some ⟨w1.heap.size, 0, none⟩)), (25, .bool (((gt p_l s2).1) != 1))]) hf (by kernel_rfl) ?_
          clear hf; clear a; intro a hf
          rcases Bool.eq_false_or_eq_true (((gt p_l s2).1) != 1) with hb3 | hb3
          · replace hS := of_t hb3 hS
            replace hf := Fr.cast (L' := [(0, .slice ao1 p_l.length cp1), (1, .int .u64 addr), (2, .int .u64 size), (8, .int .i64 s2), (9, .pointer (some ⟨w1.heap.size, 0, none⟩)), (25, .bool true)]) hf (by rw [hb3])
            refine st tbOk 25 [0, 1, 2, 8, 9, 50] (L' := [(0, .slice ao1 p_l.length cp1), (1, .int .u64 addr), (2, .int .u64 size), (8, .int .i64 s2), (9, .pointer (some ⟨w1.heap.size, 0, none⟩)), (50, .bool true)]) hf (by kernel_rfl) ?_
            clear hf; clear a; intro a hf
            refine wpList_nil ?_
            exact hK3 true _ _ ⟨_, hs.sel [0, 1] rfl rfl, hf.keep (ks := [0, 1, 2, 8, 9, 50]) (by kernel_rfl)⟩ hS
          · replace hS := of_f hb3 hS
            replace hf := Fr.cast (L' := [(0, .slice ao1 p_l.length cp1), (1, .int .u64 addr), (2, .int .u64 size), (8, .int .i64 s2), (9, .pointer (some ⟨w1.heap.size, 0, none⟩)), (25, .bool false)]) hf (by rw [hb3])
            refine st tbOk 2 [0, 1, 2, 8, 9, 25, 26, 27] (L' := [(0, .slice ao1 p_l.length cp1), (1, .int .u64 addr), (2, .int .u64 size), (8, .int .i64 s2), (9, .pointer (some ⟨w1.heap.size, 0, none⟩)), (25, .bool false), (26, .int .u64 addr), (27, .pointer (some ⟨w1.heap.size, 3, none⟩))]) hf (by kernel_rfl) ?_
            clear hf; clear a; intro a hf
            refine ldC tbOk (T := 23) (hs.cbx 0 rfl) (LeH.refl _) 3 (.int .u64 ((gt p_l s2).2.2.2.1)) hf (by kernel_rfl) (by kernel_rfl) (by kernel_rfl) (by kernel_rfl) ?_
            clear hf; clear a; intro a hf
            replace hf := Fr.keep (ks := [0, 1, 2, 8, 9, 25, 26, 28]) (L' := [(0, .slice ao1 p_l.length cp1), (1, .int .u64 addr), (2, .int .u64 size), (8, .int .i64 s2), (9, .pointer (some ⟨w1.heap.size, 0, none⟩)), (25, .bool false), (26, .int .u64 addr), (28, .int .u64 ((gt p_l s2).2.2.2.1))]) hf (by kernel_rfl)
            refine st tbOk 3 [0, 1, 2, 8, 9, 31] (L' := [(0, .slice ao1 p_l.length cp1), (1, .int .u64 addr), (2, .int .u64 size), (8, .int .i64 s2), (9, .pointer (some ⟨w1.heap.size, 0, none⟩)), (31, .bool (decide (addr < ((gt p_l s2).2.2.2.1))))]) hf (by kernel_rfl) ?_
            clear hf; clear a; intro a hf
            rcases Bool.eq_false_or_eq_true (decide (addr < ((gt p_l s2).2.2.2.1))) with hb4 | hb4
            · replace hS := of_t hb4 hS
              replace hf := Fr.cast (L' := [(0, .slice ao1 p_l.length cp1), (1, .int .u64 addr), (2, .int .u64 size), (8, .int .i64 s2), (9, .pointer (some ⟨w1.heap.size, 0, none⟩)), (31, .bool true)]) hf (by rw [hb4])
              refine st tbOk 19 [0, 1, 2, 8, 9, 50] (L' := [(0, .slice ao1 p_l.length cp1), (1, .int .u64 addr), (2, .int .u64 size), (8, .int .i64 s2), (9, .pointer (some ⟨w1.heap.size, 0, none⟩)), (50, .bool true)]) hf (by kernel_rfl) ?_
              clear hf; clear a; intro a hf
              refine wpList_nil ?_
              exact hK3 true _ _ ⟨_, hs.sel [0, 1] rfl rfl, hf.keep (ks := [0, 1, 2, 8, 9, 50]) (by kernel_rfl)⟩ hS
            · replace hS := of_f hb4 hS
              replace hf := Fr.cast (L' := [(0, .slice ao1 p_l.length cp1), (1, .int .u64 addr), (2, .int .u64 size), (8, .int .i64 s2), (9, .pointer (some ⟨w1.heap.size, 0, none⟩)), (31, .bool false)]) hf (by rw [hb4])
              refine st tbOk 2 [0, 1, 2, 8, 9, 31, 32, 33] (L' := [(0, .slice ao1 p_l.length cp1), (1, .int .u64 addr), (2, .int .u64 size), (8, .int .i64 s2), (9, .pointer (some ⟨w1.heap.size, 0, none⟩)), (31, .bool false), (32, .int .u64 addr), (33, .pointer (some ⟨w1.heap.size, 3, none⟩))]) hf (by kernel_rfl) ?_
              clear hf; clear a; intro a hf
              refine ldC tbOk (T := 23) (hs.cbx 0 rfl) (LeH.refl _) 3 (.int .u64 ((gt p_l s2).2.2.2.1)) hf (by kernel_rfl) (by kernel_rfl) (by kernel_rfl) (by kernel_rfl) ?_
              clear hf; clear a; intro a hf
              replace hf := Fr.keep (ks := [0, 1, 2, 8, 9, 31, 32, 34]) (L' := [(0, .slice ao1 p_l.length cp1), (1, .int .u64 addr), (2, .int .u64 size), (8, .int .i64 s2), (9, .pointer (some ⟨w1.heap.size, 0, none⟩)), (31, .bool false), (32, .int .u64 addr), (34, .int .u64 ((gt p_l s2).2.2.2.1))]) hf (by kernel_rfl)
              refine st tbOk 2 [0, 1, 2, 8, 9, 31, 35, 36] (L' := [(0, .slice ao1 p_l.length cp1), (1, .int .u64 addr), (2, .int .u64 size), (8, .int .i64 s2), (9, .pointer (some ⟨w1.heap.size, 0, none⟩)), (31, .bool false), (35, .int .u64 (IntKind.u64.wrap (addr - ((gt p_l s2).2.2.2.1)))), (36, .pointer (some ⟨w1.heap.size, 4, none⟩))]) hf (by kernel_rfl) ?_
              clear hf; clear a; intro a hf
              refine ldC tbOk (T := 23) (hs.cbx 0 rfl) (LeH.refl _) 4 (.int .u64 ((gt p_l s2).2.2.2.2.1)) hf (by kernel_rfl) (by kernel_rfl) (by kernel_rfl) (by kernel_rfl) ?_
              clear hf; clear a; intro a hf
              replace hf := Fr.keep (ks := [0, 1, 2, 8, 9, 31, 35, 37]) (L' := [(0, .slice ao1 p_l.length cp1), (1, .int .u64 addr), (2, .int .u64 size), (8, .int .i64 s2), (9, .pointer (some ⟨w1.heap.size, 0, none⟩)), (31, .bool false), (35, .int .u64 (IntKind.u64.wrap (addr - ((gt p_l s2).2.2.2.1)))), (37, .int .u64 ((gt p_l s2).2.2.2.2.1))]) hf (by kernel_rfl)
              refine st tbOk 3 [0, 1, 2, 8, 9, 40] (L' := [(0, .slice ao1 p_l.length cp1), (1, .int .u64 addr), (2, .int .u64 size), (8, .int .i64 s2), (9, .pointer (some ⟨w1.heap.size, 0, none⟩)), (40, .bool (decide ((IntKind.u64.wrap (addr - ((gt p_l s2).2.2.2.1))) > ((gt p_l s2).2.2.2.2.1))))]) hf (by kernel_rfl) ?_
              clear hf; clear a; intro a hf
              rcases Bool.eq_false_or_eq_true (decide ((IntKind.u64.wrap (addr - ((gt p_l s2).2.2.2.1))) > ((gt p_l s2).2.2.2.2.1))) with hb5 | hb5
              · replace hS := of_t hb5 hS
                replace hf := Fr.cast (L' := [(0, .slice ao1 p_l.length cp1), (1, .int .u64 addr), (2, .int .u64 size), (8, .int .i64 s2), (9, .pointer (some ⟨w1.heap.size, 0, none⟩)), (40, .bool true)]) hf (by rw [hb5])
                refine st tbOk 10 [0, 1, 2, 8, 9, 50] (L' := [(0, .slice ao1 p_l.length cp1), (1, .int .u64 addr), (2, .int .u64 size), (8, .int .i64 s2), (9, .pointer (some ⟨w1.heap.size, 0, none⟩)), (50, .bool true)]) hf (by kernel_rfl) ?_
                clear hf; clear a; intro a hf
                refine wpList_nil ?_
                exact hK3 true _ _ ⟨_, hs.sel [0, 1] rfl rfl, hf.keep (ks := [0, 1, 2, 8, 9, 50]) (by kernel_rfl)⟩ hS
              · replace hS := of_f hb5 hS
                replace hf := Fr.cast (L' := [(0, .slice ao1 p_l.length cp1), (1, .int .u64 addr), (2, .int .u64 size), (8, .int .i64 s2), (9, .pointer (some ⟨w1.heap.size, 0, none⟩)), (40, .bool false)]) hf (by rw [hb5])
                refine st tbOk 2 [0, 1, 2, 8, 9, 40, 41, 42] (L' := [(0, .slice ao1 p_l.length cp1), (1, .int .u64 addr), (2, .int .u64 size), (8, .int .i64 s2), (9, .pointer (some ⟨w1.heap.size, 0, none⟩)), (40, .bool false), (41, .int .u64 size), (42, .pointer (some ⟨w1.heap.size, 4, none⟩))]) hf (by kernel_rfl) ?_
                clear hf; clear a; intro a hf
                refine ldC tbOk (T := 23) (hs.cbx 0 rfl) (LeH.refl _) 4 (.int .u64 ((gt p_l s2).2.2.2.2.1)) hf (by kernel_rfl) (by kernel_rfl) (by kernel_rfl) (by kernel_rfl) ?_
                clear hf; clear a; intro a hf
                replace hf := Fr.keep (ks := [0, 1, 2, 8, 9, 40, 41, 43]) (L' := [(0, .slice ao1 p_l.length cp1), (1, .int .u64 addr), (2, .int .u64 size), (8, .int .i64 s2), (9, .pointer (some ⟨w1.heap.size, 0, none⟩)), (40, .bool false), (41, .int .u64 size), (43, .int .u64 ((gt p_l s2).2.2.2.2.1))]) hf (by kernel_rfl)
                refine st tbOk 2 [0, 1, 2, 8, 9, 40, 41, 43, 44, 45] (L' := [(0, .slice ao1 p_l.length cp1), (1, .int .u64 addr), (2, .int .u64 size), (8, .int .i64 s2), (9, .pointer (some ⟨w1.heap.size, 0, none⟩)), (40, .bool false), (41, .int .u64 size), (43, .int .u64 ((gt p_l s2).2.2.2.2.1)), (44, .int .u64 addr), (45, .pointer (some ⟨w1.heap.size, 3, none⟩))]) hf (by kernel_rfl) ?_
                clear hf; clear a; intro a hf
                refine ldC tbOk (T := 23) (hs.cbx 0 rfl) (LeH.refl _) 3 (.int .u64 ((gt p_l s2).2.2.2.1)) hf (by kernel_rfl) (by kernel_rfl) (by kernel_rfl) (by kernel_rfl) ?_
                clear hf; clear a; intro a hf
                replace hf := Fr.keep (ks := [0, 1, 2, 8, 9, 40, 41, 43, 44, 46]) (L' := [(0, .slice ao1 p_l.length cp1), (1, .int .u64 addr), (2, .int .u64 size), (8, .int .i64 s2), (9, .pointer (some ⟨w1.heap.size, 0, none⟩)), (40, .bool false), (41, .int .u64 size), (43, .int .u64 ((gt p_l s2).2.2.2.2.1)), (44, .int .u64 addr), (46, .int .u64 ((gt p_l s2).2.2.2.1))]) hf (by kernel_rfl)
                refine st tbOk 4 [0, 1, 2, 8, 9, 50] (L' := [(0, .slice ao1 p_l.length cp1), (1, .int .u64 addr), (2, .int .u64 size), (8, .int .i64 s2), (9, .pointer (some ⟨w1.heap.size, 0, none⟩)), (50, .bool (decide (size > (IntKind.u64.wrap (((gt p_l s2).2.2.2.2.1) - (IntKind.u64.wrap (addr - ((gt p_l s2).2.2.2.1))))))))]) hf (by kernel_rfl) ?_
                clear hf; clear a; intro a hf
                refine wpList_nil ?_
                exact hK3 (decide (size > (IntKind.u64.wrap (((gt p_l s2).2.2.2.2.1) - (IntKind.u64.wrap (addr - ((gt p_l s2).2.2.2.1))))))) _ _ ⟨_, hs.sel [0, 1] rfl rfl, hf.keep (ks := [0, 1, 2, 8, 9, 50]) (by kernel_rfl)⟩ hS
      · replace hS := of_f hb2 hS
        refine wp_exit ?_
        exact hK1 () _ _ ⟨_, hs.sel [] rfl rfl, hf.keep (ks := []) (by kernel_rfl)⟩ hS

set_option maxHeartbeats 4000000 in
theorem ref04_Find_ok {w : World} {F : SH} {p_l : List (Int × Int × Int × Int × Int × Int × Int)} {kind : Int} {ao1 : Option Addr} {cp1 : Nat} (hs : Sep w F (blks [.ro ty24 (.slice ao1 p_l.length cp1) p_l]) w F [.ro ty24 (.slice ao1 p_l.length cp1) p_l]) {r : Int} (hS : ref04_Find p_l kind = some r) :
    Calls Try.prog 23 [.slice ao1 p_l.length cp1, .int .u32 kind].toArray w (Gives (fun u w' => ∃ (F' : SH), u = .int .i64 r ∧ Sep w F (blks [.ro ty24 (.slice ao1 p_l.length cp1) p_l]) w' F' [])) := by
  generalize (blks [.ro ty24 (.slice ao1 p_l.length cp1) p_l]) = R at hs ⊢
  unfold ref04_Find at hS
  refine fn_ok (vs := [.slice ao1 p_l.length cp1, .int .u32 kind]) Try.func23 rfl 20 Try.ntmps23 (Nat.le_of_ble_eq_true rfl) ?_
  intro a hf
  replace hf := Fr.cast (L' := [(0, .slice ao1 p_l.length cp1), (1, .int .u32 kind)]) hf (by kernel_rfl)
  refine sq ?_
  refine reg ?_
  refine st tbOk 1 [0, 1] (L' := [(0, .slice ao1 p_l.length cp1), (1, .int .u32 kind)]) hf (by kernel_rfl) ?_
  clear hf; clear a; intro a hf
  refine wpList_nil ?_
  refine sq ?_
  refine sq ?_
  refine reg ?_
  refine st tbOk 1 [0, 1, 5] (L' := [(0, .slice ao1 p_l.length cp1), (1, .int .u32 kind), (5, .int .i64 0)]) hf (by kernel_rfl) ?_
  clear hf; clear a; intro a hf
  refine wpList_nil ?_
  refine ctj (fun (s1 : Unit) (a : Act) (w' : World) => ∃ (F1 : SH), Sep w F R w' F1 [] ∧ Fr 20 [] a) hS ?_ ?_
  · clear hS hf hs; clear a; intro s1 a w2 hM hS
    obtain ⟨F1, hs, hf⟩ := hM
    refine sq ?_
    refine reg ?_
    refine st tbOk 1 [4] (L' := [(4, .int .i64 (-1))]) hf (by kernel_rfl) ?_
    clear hf; clear a; intro a hf
    refine wpList_nil ?_
    have hr := Option.some.inj hS; subst hr
    refine wp_ret ?_
    exact ret_ok hf (vs := [.int .i64 (-1)]) (by kernel_rfl) ⟨_, rfl, hs.sel [] rfl rfl⟩
  · clear hS; intro KK1 k1 hK1 hS
    refine blk ?_
    refine lp (st := 0) (fun (s2 : Int) (a : Act) (w' : World) => ∃ (F2 : SH), Sep w F R w' F2 [.ro ty24 (.slice ao1 p_l.length cp1) p_l] ∧ Fr 20 [(0, .slice ao1 p_l.length cp1), (1, .int .u32 kind), (5, .int .i64 s2)] a) ?_ ⟨_, hs.sel [0] rfl rfl, hf.keep (ks := [0, 1, 5]) (by kernel_rfl)⟩ hS
    clear hS hf hs; clear a
    intro rec1 KK2 hK2 s2 a w1 hM hS
    obtain ⟨F2, hs, hf⟩ := hM
    refine sq ?_
    refine sq ?_
    refine reg ?_
    refine st tbOk 4 [0, 1, 5, 9] (L' := [(0, .slice ao1 p_l.length cp1), (1, .int .u32 kind), (5, .int .i64 s2), (9, .bool (decide (s2 < ((p_l.length : Nat) : Int))))]) hf (by kernel_rfl) ?_
    clear hf; clear a; intro a hf
    refine wpList_nil ?_
    refine cnd (b := decide (s2 < ((p_l.length : Nat) : Int))) hf (by kernel_rfl) (fun hb1 => ?_) (fun hb1 => ?_)
    · replace hS := of_t hb1 hS
      refine wp_skip ?_
      refine sq ?_
      refine blk ?_
      refine sq ?_
      refine reg ?_
      refine st tbOk 2 [0, 1, 5, 12, 13] (L' := [(0, .slice ao1 p_l.length cp1), (1, .int .u32 kind), (5, .int .i64 s2), (12, .slice ao1 p_l.length cp1), (13, .int .i64 s2)]) hf (by kernel_rfl) ?_
      clear hf; clear a; intro a hf
      have hT := of_gd hS; clear hS; obtain ⟨hc1, hS⟩ := hT
      refine ixR tbOk u33 i25 rfl rfl ((hs.ro 0 rfl).ra (LeH.refl _)) (k := .i64) (n := s2) hc1 hf (by kernel_rfl) (by kernel_rfl) (by kernel_rfl) (by kernel_rfl) ?_
      clear hf; clear a; intro pb1 po1 c1 a hp1 hr1 hf
      obtain rfl : c1 = [.int .u32 ((gt p_l s2).1), .int .u32 ((gt p_l s2).2.1), .int .u64 ((gt p_l s2).2.2.1), .int .u64 ((gt p_l s2).2.2.2.1), .int .u64 ((gt p_l s2).2.2.2.2.1), .int .u64 ((gt p_l s2).2.2.2.2.2.1), .int .u64 ((gt p_l s2).2.2.2.2.2.2)] := hr1
      replace hs : Sep w F R w1 F2 [.cel pb1 po1 [.int .u32 ((gt p_l s2).1), .int .u32 ((gt p_l s2).2.1), .int .u64 ((gt p_l s2).2.2.1), .int .u64 ((gt p_l s2).2.2.2.1), .int .u64 ((gt p_l s2).2.2.2.2.1), .int .u64 ((gt p_l s2).2.2.2.2.2.1), .int .u64 ((gt p_l s2).2.2.2.2.2.2)], .ro ty24 (.slice ao1 p_l.length cp1) p_l] := hs.addCel hp1
      replace hf := Fr.keep (ks := [0, 1, 5, 14]) (L' := [(0, .slice ao1 p_l.length cp1), (1, .int .u32 kind), (5, .int .i64 s2), (14, .pointer (some ⟨pb1, po1, none⟩))]) hf (by kernel_rfl)
      refine st tbOk 1 [0, 1, 5, 15] (L' := [(0, .slice ao1 p_l.length cp1), (1, .int .u32 kind), (5, .int .i64 s2), (15, .pointer (some ⟨pb1, po1, none⟩))]) hf (by kernel_rfl) ?_
      clear hf; clear a; intro a hf
      refine ldC tbOk (T := 22) (hs.ccel 0 rfl) (LeH.refl _) 0 (.int .u32 ((gt p_l s2).1)) hf (by kernel_rfl) (by kernel_rfl) (by kernel_rfl) (by kernel_rfl) ?_
      clear hf; clear a; intro a hf
      replace hs : Sep w F R w1 F2 [.ro ty24 (.slice ao1 p_l.length cp1) p_l] := hs.sel [1] rfl rfl
      replace hf := Fr.keep (ks := [0, 1, 5, 16]) (L' := [(0, .slice ao1 p_l.length cp1), (1, .int .u32 kind), (5, .int .i64 s2), (16, .int .u32 ((gt p_l s2).1))]) hf (by kernel_rfl)
      refine st tbOk 2 [0, 1, 5, 18] (L' := [(0, .slice ao1 p_l.length cp1), (1, .int .u32 kind), (5, .int .i64 s2), (18, .bool (((gt p_l s2).1) == kind))]) hf (by kernel_rfl) ?_
      clear hf; clear a; intro a hf
      refine wpList_nil ?_
      refine cnd (b := ((gt p_l s2).1) == kind) hf (by kernel_rfl) (fun hb2 => ?_) (fun hb2 => ?_)
      · replace hS := of_t hb2 hS
        refine sq ?_
        refine reg ?_
        refine st tbOk 2 [4] (L' := [(4, .int .i64 s2)]) hf (by kernel_rfl) ?_
        clear hf; clear a; intro a hf
        refine wpList_nil ?_
        have hr := Option.some.inj hS; subst hr
        refine wp_ret ?_
        exact ret_ok hf (vs := [.int .i64 s2]) (by kernel_rfl) ⟨_, rfl, hs.sel [] rfl rfl⟩
      · replace hS := of_f hb2 hS
        refine wp_skip ?_
        refine reg ?_
        have hT := of_let hS; clear hS; obtain ⟨i_1, hl1, hS⟩ := hT
        refine st tbOk 3 [0, 1, 5] (L' := [(0, .slice ao1 p_l.length cp1), (1, .int .u32 kind), (5, .int .i64 i_1)]) hf (by subst hl1; kernel_rfl) ?_
        clear hf; clear a; intro a hf
        refine wpList_nil ?_
        exact hK2 i_1 _ _ ⟨_, hs.sel [0] rfl rfl, hf.keep (ks := [0, 1, 5]) (by kernel_rfl)⟩ hS
    · replace hS := of_f hb1 hS
      refine wp_exit ?_
      exact hK1 () _ _ ⟨_, hs.sel [] rfl rfl, hf.keep (ks := []) (by kernel_rfl)⟩ hS

end Dm
