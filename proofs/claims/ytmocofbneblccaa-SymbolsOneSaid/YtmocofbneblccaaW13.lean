/-
  The walks: a call of each Go function gives what its shallow form gives, where that form gives something; printed by a program of this repo. No condition.
-/
import Derived.Test.YtmocofbneblccaaWT
namespace Dm
open Go Go.RowKit Go.Proofs

set_option maxHeartbeats 4000000 in
theorem ref06_Check_ok {w : World} {F : SH} {p_l : List (Int × Int × Int × Int × Int × Int)} {ao1 : Option Addr} {cp1 : Nat} (hs : Sep w F (blks [.ro ty64 (.slice ao1 p_l.length cp1) p_l]) w F [.ro ty64 (.slice ao1 p_l.length cp1) p_l]) {r : Int} (hS : ref06_Check p_l = some r) :
    Calls Try.prog 34 [.slice ao1 p_l.length cp1].toArray w (Gives (fun u w' => ∃ (F' : SH), u = .int .i64 r ∧ Sep w F (blks [.ro ty64 (.slice ao1 p_l.length cp1) p_l]) w' F' [])) := by
  generalize (blks [.ro ty64 (.slice ao1 p_l.length cp1) p_l]) = R at hs ⊢
  unfold ref06_Check at hS
  refine fn_ok (vs := [.slice ao1 p_l.length cp1]) Try.func34 rfl 103 Try.ntmps34 (Nat.le_of_ble_eq_true rfl) ?_
  intro a hf
  replace hf := Fr.cast (L' := [(0, .slice ao1 p_l.length cp1)]) hf (by kernel_rfl)
  refine sq ?_
  refine reg ?_
  refine st tbOk 1 [0] (L' := [(0, .slice ao1 p_l.length cp1)]) hf (by kernel_rfl) ?_
  clear hf; clear a; intro a hf
  refine wpList_nil ?_
  refine sq ?_
  refine sq ?_
  refine reg ?_
  refine st tbOk 1 [0, 3] (L' := [(0, .slice ao1 p_l.length cp1), (3, .int .i64 0)]) hf (by kernel_rfl) ?_
  clear hf; clear a; intro a hf
  refine wpList_nil ?_
  refine ctj (fun (s1 : Unit) (a : Act) (w' : World) => ∃ (F1 : SH), Sep w F R w' F1 [] ∧ Fr 103 [] a) hS ?_ ?_
  · clear hS hf hs; clear a; intro s1 a w8 hM hS
    obtain ⟨F1, hs, hf⟩ := hM
    refine sq ?_
    refine reg ?_
    refine st tbOk 1 [2] (L' := [(2, .int .i64 0)]) hf (by kernel_rfl) ?_
    clear hf; clear a; intro a hf
    refine wpList_nil ?_
    have hr := Option.some.inj hS; subst hr
    refine wp_ret ?_
    exact ret_ok hf (vs := [.int .i64 0]) (by kernel_rfl) ⟨_, rfl, hs.sel [] rfl rfl⟩
  · clear hS; intro KK1 k1 hK1 hS
    refine blk ?_
    refine lp (st := 0) (fun (s2 : Int) (a : Act) (w' : World) => ∃ (F2 : SH), Sep w F R w' F2 [.ro ty64 (.slice ao1 p_l.length cp1) p_l] ∧ Fr 103 [(0, .slice ao1 p_l.length cp1), (3, .int .i64 s2)] a) ?_ ⟨_, hs.sel [0] rfl rfl, hf.keep (ks := [0, 3]) (by kernel_rfl)⟩ hS
    clear hS hf hs; clear a
    intro rec1 KK2 hK2 s2 a w1 hM hS
    obtain ⟨F2, hs, hf⟩ := hM
    refine sq ?_
    refine sq ?_
    refine reg ?_
    refine st tbOk 4 [0, 3, 10] (L' := [(0, .slice ao1 p_l.length cp1), (3, .int .i64 s2), (10, .bool (decide (s2 < ((p_l.length : Nat) : Int))))]) hf (by kernel_rfl) ?_
    clear hf; clear a; intro a hf
    refine wpList_nil ?_
    refine cnd (b := decide (s2 < ((p_l.length : Nat) : Int))) hf (by kernel_rfl) (fun hb1 => ?_) (fun hb1 => ?_)
    · replace hS := of_t hb1 hS
      refine wp_skip ?_
      refine sq ?_
      refine ctj (fun (s3 : Unit) (a : Act) (w' : World) => ∃ (F3 : SH), Sep w F R w' F3 [.ro ty64 (.slice ao1 p_l.length cp1) p_l] ∧ Fr 103 [(0, .slice ao1 p_l.length cp1), (3, .int .i64 s2)] a) hS ?_ ?_
      · clear hS hf hs; clear a; intro s3 a w7 hM hS
        obtain ⟨F3, hs, hf⟩ := hM
        refine reg ?_
        have hT := of_let hS; clear hS; obtain ⟨i_1, hl3, hS⟩ := hT
        refine st tbOk 3 [0, 3] (L' := [(0, .slice ao1 p_l.length cp1), (3, .int .i64 i_1)]) hf (by subst hl3; kernel_rfl) ?_
        clear hf; clear a; intro a hf
        refine wpList_nil ?_
        exact hK2 i_1 _ _ ⟨_, hs.sel [0] rfl rfl, hf.keep (ks := [0, 3]) (by kernel_rfl)⟩ hS
      · clear hS; intro KK3 k2 hK3 hS
        refine blk ?_
        refine sq ?_
        refine reg ?_
        refine st tbOk 2 [0, 3, 13, 14] (L' := [(0, .slice ao1 p_l.length cp1), (3, .int .i64 s2), (13, .slice ao1 p_l.length cp1), (14, .int .i64 s2)]) hf (by kernel_rfl) ?_
        clear hf; clear a; intro a hf
        have hT := of_gd hS; clear hS; obtain ⟨hc1, hS⟩ := hT
        refine ixR tbOk u69 i65 rfl rfl ((hs.ro 0 rfl).ra (LeH.refl _)) (k := .i64) (n := s2) hc1 hf (by kernel_rfl) (by kernel_rfl) (by kernel_rfl) (by kernel_rfl) ?_
        clear hf; clear a; intro pb1 po1 c1 a hp1 hr1 hf
        obtain rfl : c1 = [.int .u32 ((gt p_l s2).1), .int .u8 ((gt p_l s2).2.1), .int .u8 ((gt p_l s2).2.2.1), .int .u16 ((gt p_l s2).2.2.2.1), .int .u64 ((gt p_l s2).2.2.2.2.1), .int .u64 ((gt p_l s2).2.2.2.2.2)] := hr1
        replace hs : Sep w F R w1 F2 [.cel pb1 po1 [.int .u32 ((gt p_l s2).1), .int .u8 ((gt p_l s2).2.1), .int .u8 ((gt p_l s2).2.2.1), .int .u16 ((gt p_l s2).2.2.2.1), .int .u64 ((gt p_l s2).2.2.2.2.1), .int .u64 ((gt p_l s2).2.2.2.2.2)], .ro ty64 (.slice ao1 p_l.length cp1) p_l] := hs.addCel hp1
        replace hf := Fr.keep (ks := [0, 3, 15]) (L' := [(0, .slice ao1 p_l.length cp1), (3, .int .i64 s2), (15, .pointer (some ⟨pb1, po1, none⟩))]) hf (by kernel_rfl)
        refine ldC tbOk (T := 65) (hs.ccel 0 rfl) (LeH.refl _) 0 (.agg #[.int .u32 ((gt p_l s2).1), .int .u8 ((gt p_l s2).2.1), .int .u8 ((gt p_l s2).2.2.1), .int .u16 ((gt p_l s2).2.2.2.1), .int .u64 ((gt p_l s2).2.2.2.2.1), .int .u64 ((gt p_l s2).2.2.2.2.2)]) hf (by kernel_rfl) (by kernel_rfl) (by kernel_rfl) (by kernel_rfl) ?_
        clear hf; clear a; intro a hf
        replace hs : Sep w F R w1 F2 [.ro ty64 (.slice ao1 p_l.length cp1) p_l] := hs.sel [1] rfl rfl
        replace hf := Fr.keep (ks := [0, 3, 16]) (L' := [(0, .slice ao1 p_l.length cp1), (3, .int .i64 s2), (16, .agg #[.int .u32 ((gt p_l s2).1), .int .u8 ((gt p_l s2).2.1), .int .u8 ((gt p_l s2).2.2.1), .int .u16 ((gt p_l s2).2.2.2.1), .int .u64 ((gt p_l s2).2.2.2.2.1), .int .u64 ((gt p_l s2).2.2.2.2.2)])]) hf (by kernel_rfl)
        refine al tbOk i65 [.int .u32 0, .int .u8 0, .int .u8 0, .int .u16 0, .int .u64 0, .int .u64 0] rfl (by kernel_rfl) hf (by kernel_rfl) (by kernel_rfl) ?_
        clear hf; clear a; intro w2 a hb hx _ hf
        replace hs : Sep w F R w2 F2 [.box w1.heap.size 65 [.int .u32 0, .int .u8 0, .int .u8 0, .int .u16 0, .int .u64 0, .int .u64 0], .ro ty64 (.slice ao1 p_l.length cp1) p_l] := hs.newBox hb hx
        clear hb hx
        replace hf := Fr.keep (ks := [0, 3, 4, 16]) (L' := [(0, .slice ao1 p_l.length cp1), (3, .int .i64 s2), (4, .pointer (some ⟨w1.heap.size, 0, none⟩)), (16, .agg #[.int .u32 ((gt p_l s2).1), .int .u8 ((gt p_l s2).2.1), .int .u8 ((gt p_l s2).2.2.1), .int .u16 ((gt p_l s2).2.2.2.1), .int .u64 ((gt p_l s2).2.2.2.2.1), .int .u64 ((gt p_l s2).2.2.2.2.2)])]) hf (by kernel_rfl)
        refine stB tbOk i65 (hs.bx 0 rfl) 0 [.int .u32 ((gt p_l s2).1), .int .u8 ((gt p_l s2).2.1), .int .u8 ((gt p_l s2).2.2.1), .int .u16 ((gt p_l s2).2.2.2.1), .int .u64 ((gt p_l s2).2.2.2.2.1), .int .u64 ((gt p_l s2).2.2.2.2.2)] [.int .u32 ((gt p_l s2).1), .int .u8 ((gt p_l s2).2.1), .int .u8 ((gt p_l s2).2.2.1), .int .u16 ((gt p_l s2).2.2.2.1), .int .u64 ((gt p_l s2).2.2.2.2.1), .int .u64 ((gt p_l s2).2.2.2.2.2)] (v := .agg #[.int .u32 ((gt p_l s2).1), .int .u8 ((gt p_l s2).2.1), .int .u8 ((gt p_l s2).2.2.1), .int .u16 ((gt p_l s2).2.2.2.1), .int .u64 ((gt p_l s2).2.2.2.2.1), .int .u64 ((gt p_l s2).2.2.2.2.2)]) rfl rfl (by kernel_rfl) (by kernel_rfl) (by kernel_rfl) (by kernel_rfl) hf (by kernel_rfl) (by kernel_rfl) (by kernel_rfl) ?_
        clear hf; clear a; intro w3 a hb hg _ hf
        replace hs : Sep w F R w3 F2 [.box w1.heap.size 65 [.int .u32 ((gt p_l s2).1), .int .u8 ((gt p_l s2).2.1), .int .u8 ((gt p_l s2).2.2.1), .int .u16 ((gt p_l s2).2.2.2.1), .int .u64 ((gt p_l s2).2.2.2.2.1), .int .u64 ((gt p_l s2).2.2.2.2.2)], .ro ty64 (.slice ao1 p_l.length cp1) p_l] := hs.updBox 0 rfl hb hg
        clear hb hg
        replace hf := Fr.keep (ks := [0, 3, 4]) (L' := [(0, .slice ao1 p_l.length cp1), (3, .int .i64 s2), (4, .pointer (some ⟨w1.heap.size, 0, none⟩))]) hf (by kernel_rfl)
        refine wpList_nil ?_
        refine sq ?_
        refine sq ?_
        refine reg ?_
        refine st tbOk 2 [0, 3, 4, 18] (L' := [(0, .slice ao1 p_l.length cp1), (3, .int .i64 s2), (4, .pointer (some ⟨w1.heap.size, 0, none⟩)), (18, .bool (s2 == 0))]) hf (by kernel_rfl) ?_
        clear hf; clear a; intro a hf
        refine wpList_nil ?_
        refine cnd (b := s2 == 0) hf (by kernel_rfl) (fun hb2 => ?_) (fun hb2 => ?_)
        · replace hS := of_t hb2 hS
          refine sq ?_
          refine sq ?_
          refine ctj (fun (s4 : Bool) (a : Act) (w' : World) => ∃ (F4 : SH), Sep w F R w' F4 [.ro ty64 (.slice ao1 p_l.length cp1) p_l] ∧ Fr 103 [(0, .slice ao1 p_l.length cp1), (3, .int .i64 s2), (46, .bool s4)] a) hS ?_ ?_
          · clear hS hf hs; clear a; intro s4 a w4 hM hS
            obtain ⟨F4, hs, hf⟩ := hM
            refine cnd (b := s4) hf (by kernel_rfl) (fun hb8 => ?_) (fun hb8 => ?_)
            · replace hS := of_t hb8 hS
              refine sq ?_
              refine reg ?_
              refine st tbOk 1 [2] (L' := [(2, .int .i64 11)]) hf (by kernel_rfl) ?_
              clear hf; clear a; intro a hf
              refine wpList_nil ?_
              have hr := Option.some.inj hS; subst hr
              refine wp_ret ?_
              exact ret_ok hf (vs := [.int .i64 11]) (by kernel_rfl) ⟨_, rfl, hs.sel [] rfl rfl⟩
            · replace hS := of_f hb8 hS
              refine wp_skip ?_
              refine wp_exit ?_
              exact hK3 () _ _ ⟨_, hs.sel [0] rfl rfl, hf.keep (ks := [0, 3]) (by kernel_rfl)⟩ hS
          · clear hS; intro KK4 k3 hK4 hS
            refine reg ?_
            refine st tbOk 1 [0, 3, 4, 19] (L' := [(0, .slice ao1 p_l.length cp1), (3, .int .i64 s2), (4, .pointer (some ⟨w1.heap.size, 0, none⟩)), (19, .pointer (some ⟨w1.heap.size, 0, none⟩))]) hf (by kernel_rfl) ?_
            clear hf; clear a; intro a hf
            refine ldC tbOk (T := 31) (hs.cbx 0 rfl) (LeH.refl _) 0 (.int .u32 ((gt p_l s2).1)) hf (by kernel_rfl) (by kernel_rfl) (by kernel_rfl) (by kernel_rfl) ?_
            clear hf; clear a; intro a hf
            replace hf := Fr.keep (ks := [0, 3, 4, 20]) (L' := [(0, .slice ao1 p_l.length cp1), (3, .int .i64 s2), (4, .pointer (some ⟨w1.heap.size, 0, none⟩)), (20, .int .u32 ((gt p_l s2).1))]) hf (by kernel_rfl)
            refine st tbOk 2 [0, 3, 4, 22] (L' := [(0, .slice ao1 p_l.length cp1), (3, .int .i64 s2), (4, .pointer (some ⟨w1.heap.size, 0, none⟩)), (22, .bool (((gt p_l s2).1) != 0))]) hf (by kernel_rfl) ?_
            clear hf; clear a; intro a hf
            rcases Bool.eq_false_or_eq_true (((gt p_l s2).1) != 0) with hb3 | hb3
            · replace hS := of_t hb3 hS
              replace hf := Fr.cast (L' := [(0, .slice ao1 p_l.length cp1), (3, .int .i64 s2), (4, .pointer (some ⟨w1.heap.size, 0, none⟩)), (22, .bool true)]) hf (by rw [hb3])
              refine st tbOk 24 [0, 3, 46] (L' := [(0, .slice ao1 p_l.length cp1), (3, .int .i64 s2), (46, .bool true)]) hf (by kernel_rfl) ?_
              clear hf; clear a; intro a hf
              refine wpList_nil ?_
              exact hK4 true _ _ ⟨_, hs.sel [1] rfl rfl, hf.keep (ks := [0, 3, 46]) (by kernel_rfl)⟩ hS
            · replace hS := of_f hb3 hS
              replace hf := Fr.cast (L' := [(0, .slice ao1 p_l.length cp1), (3, .int .i64 s2), (4, .pointer (some ⟨w1.heap.size, 0, none⟩)), (22, .bool false)]) hf (by rw [hb3])
              refine st tbOk 1 [0, 3, 4, 22, 23] (L' := [(0, .slice ao1 p_l.length cp1), (3, .int .i64 s2), (4, .pointer (some ⟨w1.heap.size, 0, none⟩)), (22, .bool false), (23, .pointer (some ⟨w1.heap.size, 1, none⟩))]) hf (by kernel_rfl) ?_
              clear hf; clear a; intro a hf
              refine ldC tbOk (T := 5) (hs.cbx 0 rfl) (LeH.refl _) 1 (.int .u8 ((gt p_l s2).2.1)) hf (by kernel_rfl) (by kernel_rfl) (by kernel_rfl) (by kernel_rfl) ?_
              clear hf; clear a; intro a hf
              replace hf := Fr.keep (ks := [0, 3, 4, 22, 24]) (L' := [(0, .slice ao1 p_l.length cp1), (3, .int .i64 s2), (4, .pointer (some ⟨w1.heap.size, 0, none⟩)), (22, .bool false), (24, .int .u8 ((gt p_l s2).2.1))]) hf (by kernel_rfl)
              refine st tbOk 3 [0, 3, 4, 27] (L' := [(0, .slice ao1 p_l.length cp1), (3, .int .i64 s2), (4, .pointer (some ⟨w1.heap.size, 0, none⟩)), (27, .bool (((gt p_l s2).2.1) != 0))]) hf (by kernel_rfl) ?_
              clear hf; clear a; intro a hf
              rcases Bool.eq_false_or_eq_true (((gt p_l s2).2.1) != 0) with hb4 | hb4
              · replace hS := of_t hb4 hS
                replace hf := Fr.cast (L' := [(0, .slice ao1 p_l.length cp1), (3, .int .i64 s2), (4, .pointer (some ⟨w1.heap.size, 0, none⟩)), (27, .bool true)]) hf (by rw [hb4])
                refine st tbOk 19 [0, 3, 46] (L' := [(0, .slice ao1 p_l.length cp1), (3, .int .i64 s2), (46, .bool true)]) hf (by kernel_rfl) ?_
                clear hf; clear a; intro a hf
                refine wpList_nil ?_
                exact hK4 true _ _ ⟨_, hs.sel [1] rfl rfl, hf.keep (ks := [0, 3, 46]) (by kernel_rfl)⟩ hS
              · replace hS := of_f hb4 hS
                replace hf := Fr.cast (L' := [(0, .slice ao1 p_l.length cp1), (3, .int .i64 s2), (4, .pointer (some ⟨w1.heap.size, 0, none⟩)), (27, .bool false)]) hf (by rw [hb4])
                refine st tbOk 1 [0, 3, 4, 27, 28] (L' := [(0, .slice ao1 p_l.length cp1), (3, .int .i64 s2), (4, .pointer (some ⟨w1.heap.size, 0, none⟩)), (27, .bool false), (28, .pointer (some ⟨w1.heap.size, 2, none⟩))]) hf (by kernel_rfl) ?_
                clear hf; clear a; intro a hf
                refine ldC tbOk (T := 5) (hs.cbx 0 rfl) (LeH.refl _) 2 (.int .u8 ((gt p_l s2).2.2.1)) hf (by kernel_rfl) (by kernel_rfl) (by kernel_rfl) (by kernel_rfl) ?_
                clear hf; clear a; intro a hf
                replace hf := Fr.keep (ks := [0, 3, 4, 27, 29]) (L' := [(0, .slice ao1 p_l.length cp1), (3, .int .i64 s2), (4, .pointer (some ⟨w1.heap.size, 0, none⟩)), (27, .bool false), (29, .int .u8 ((gt p_l s2).2.2.1))]) hf (by kernel_rfl)
                refine st tbOk 3 [0, 3, 4, 32] (L' := [(0, .slice ao1 p_l.length cp1), (3, .int .i64 s2), (4, .pointer (some ⟨w1.heap.size, 0, none⟩)), (32, .bool (((gt p_l s2).2.2.1) != 0))]) hf (by kernel_rfl) ?_
                clear hf; clear a; intro a hf
                rcases Bool.eq_false_or_eq_true (((gt p_l s2).2.2.1) != 0) with hb5 | hb5
                · replace hS := of_t hb5 hS
                  replace hf := Fr.cast (L' := [(0, .slice ao1 p_l.length cp1), (3, .int .i64 s2), (4, .pointer (some ⟨w1.heap.size, 0, none⟩)), (32, .bool true)]) hf (by rw [hb5])
                  refine st tbOk 14 [0, 3, 46] (L' := [(0, .slice ao1 p_l.length cp1), (3, .int .i64 s2), (46, .bool true)]) hf (by kernel_rfl) ?_
                  clear hf; clear a; intro a hf
                  refine wpList_nil ?_
                  exact hK4 true _ _ ⟨_, hs.sel [1] rfl rfl, hf.keep (ks := [0, 3, 46]) (by kernel_rfl)⟩ hS
                · replace hS := of_f hb5 hS
                  replace hf := Fr.cast (L' := [(0, .slice ao1 p_l.length cp1), (3, .int .i64 s2), (4, .pointer (some ⟨w1.heap.size, 0, none⟩)), (32, .bool false)]) hf (by rw [hb5])
                  refine st tbOk 1 [0, 3, 4, 32, 33] (L' := [(0, .slice ao1 p_l.length cp1), (3, .int .i64 s2), (4, .pointer (some ⟨w1.heap.size, 0, none⟩)), (32, .bool false), (33, .pointer (some ⟨w1.heap.size, 3, none⟩))]) hf (by kernel_rfl) ?_
                  clear hf; clear a; intro a hf
                  refine ldC tbOk (T := 63) (hs.cbx 0 rfl) (LeH.refl _) 3 (.int .u16 ((gt p_l s2).2.2.2.1)) hf (by kernel_rfl) (by kernel_rfl) (by kernel_rfl) (by kernel_rfl) ?_
                  clear hf; clear a; intro a hf
                  replace hf := Fr.keep (ks := [0, 3, 4, 32, 34]) (L' := [(0, .slice ao1 p_l.length cp1), (3, .int .i64 s2), (4, .pointer (some ⟨w1.heap.size, 0, none⟩)), (32, .bool false), (34, .int .u16 ((gt p_l s2).2.2.2.1))]) hf (by kernel_rfl)
                  refine st tbOk 3 [0, 3, 4, 37] (L' := [(0, .slice ao1 p_l.length cp1), (3, .int .i64 s2), (4, .pointer (some ⟨w1.heap.size, 0, none⟩)), (37, .bool (((gt p_l s2).2.2.2.1) != 0))]) hf (by kernel_rfl) ?_
                  clear hf; clear a; intro a hf
                  rcases Bool.eq_false_or_eq_true (((gt p_l s2).2.2.2.1) != 0) with hb6 | hb6
                  · replace hS := of_t hb6 hS
                    replace hf := Fr.cast (L' := [(0, .slice ao1 p_l.length cp1), (3, .int .i64 s2), (4, .pointer (some ⟨w1.heap.size, 0, none⟩)), (37, .bool true)]) hf (by rw [hb6])
                    refine st tbOk 9 [0, 3, 46] (L' := [(0, .slice ao1 p_l.length cp1), (3, .int .i64 s2), (46, .bool true)]) hf (by kernel_rfl) ?_
                    clear hf; clear a; intro a hf
                    refine wpList_nil ?_
                    exact hK4 true _ _ ⟨_, hs.sel [1] rfl rfl, hf.keep (ks := [0, 3, 46]) (by kernel_rfl)⟩ hS
                  · replace hS := of_f hb6 hS
                    replace hf := Fr.cast (L' := [(0, .slice ao1 p_l.length cp1), (3, .int .i64 s2), (4, .pointer (some ⟨w1.heap.size, 0, none⟩)), (37, .bool false)]) hf (by rw [hb6])
                    refine st tbOk 1 [0, 3, 4, 37, 38] (L' := [(0, .slice ao1 p_l.length cp1), (3, .int .i64 s2), (4, .pointer (some ⟨w1.heap.size, 0, none⟩)), (37, .bool false), (38, .pointer (some ⟨w1.heap.size, 4, none⟩))]) hf (by kernel_rfl) ?_
                    clear hf; clear a; intro a hf
                    refine ldC tbOk (T := 23) (hs.cbx 0 rfl) (LeH.refl _) 4 (.int .u64 ((gt p_l s2).2.2.2.2.1)) hf (by kernel_rfl) (by kernel_rfl) (by kernel_rfl) (by kernel_rfl) ?_
                    clear hf; clear a; intro a hf
                    replace hf := Fr.keep (ks := [0, 3, 4, 37, 39]) (L' := [(0, .slice ao1 p_l.length cp1), (3, .int .i64 s2), (4, .pointer (some ⟨w1.heap.size, 0, none⟩)), (37, .bool false), (39, .int .u64 ((gt p_l s2).2.2.2.2.1))]) hf (by kernel_rfl)
                    refine st tbOk 3 [0, 3, 4, 42] (L' := [(0, .slice ao1 p_l.length cp1), (3, .int .i64 s2), (4, .pointer (some ⟨w1.heap.size, 0, none⟩)), (42, .bool (((gt p_l s2).2.2.2.2.1) != 0))]) hf (by kernel_rfl) ?_
                    clear hf; clear a; intro a hf
                    rcases Bool.eq_false_or_eq_true (((gt p_l s2).2.2.2.2.1) != 0) with hb7 | hb7
                    · replace hS := of_t hb7 hS
                      replace hf := Fr.cast (L' := [(0, .slice ao1 p_l.length cp1), (3, .int .i64 s2), (4, .pointer (some ⟨w1.heap.size, 0, none⟩)), (42, .bool true)]) hf (by rw [hb7])
                      refine st tbOk 4 [0, 3, 46] (L' := [(0, .slice ao1 p_l.length cp1), (3, .int .i64 s2), (46, .bool true)]) hf (by kernel_rfl) ?_
                      clear hf; clear a; intro a hf
                      refine wpList_nil ?_
                      exact hK4 true _ _ ⟨_, hs.sel [1] rfl rfl, hf.keep (ks := [0, 3, 46]) (by kernel_rfl)⟩ hS
                    · replace hS := of_f hb7 hS
                      replace hf := Fr.cast (L' := [(0, .slice ao1 p_l.length cp1), (3, .int .i64 s2), (4, .pointer (some ⟨w1.heap.size, 0, none⟩)), (42, .bool false)]) hf (by rw [hb7])
                      refine st tbOk 1 [0, 3, 42, 43] (L' := [(0, .slice ao1 p_l.length cp1), (3, .int .i64 s2), (42, .bool false), (43, .pointer (some ⟨w1.heap.size, 5, none⟩))]) hf (by kernel_rfl) ?_
                      clear hf; clear a; intro a hf
                      refine ldC tbOk (T := 23) (hs.cbx 0 rfl) (LeH.refl _) 5 (.int .u64 ((gt p_l s2).2.2.2.2.2)) hf (by kernel_rfl) (by kernel_rfl) (by kernel_rfl) (by kernel_rfl) ?_
                      clear hf; clear a; intro a hf
                      replace hs : Sep w F R w3 F2 [.ro ty64 (.slice ao1 p_l.length cp1) p_l] := hs.sel [1] rfl rfl
                      replace hf := Fr.keep (ks := [0, 3, 42, 44]) (L' := [(0, .slice ao1 p_l.length cp1), (3, .int .i64 s2), (42, .bool false), (44, .int .u64 ((gt p_l s2).2.2.2.2.2))]) hf (by kernel_rfl)
                      refine st tbOk 2 [0, 3, 46] (L' := [(0, .slice ao1 p_l.length cp1), (3, .int .i64 s2), (46, .bool (((gt p_l s2).2.2.2.2.2) != 0))]) hf (by kernel_rfl) ?_
                      clear hf; clear a; intro a hf
                      refine wpList_nil ?_
                      exact hK4 (((gt p_l s2).2.2.2.2.2) != 0) _ _ ⟨_, hs.sel [0] rfl rfl, hf.keep (ks := [0, 3, 46]) (by kernel_rfl)⟩ hS
        · replace hS := of_f hb2 hS
          refine wp_skip ?_
          refine sq ?_
          refine reg ?_
          refine st tbOk 1 [0, 3, 4, 47] (L' := [(0, .slice ao1 p_l.length cp1), (3, .int .i64 s2), (4, .pointer (some ⟨w1.heap.size, 0, none⟩)), (47, .pointer (some ⟨w1.heap.size, 1, none⟩))]) hf (by kernel_rfl) ?_
          clear hf; clear a; intro a hf
          refine ldC tbOk (T := 5) (hs.cbx 0 rfl) (LeH.refl _) 1 (.int .u8 ((gt p_l s2).2.1)) hf (by kernel_rfl) (by kernel_rfl) (by kernel_rfl) (by kernel_rfl) ?_
          clear hf; clear a; intro a hf
          replace hf := Fr.keep (ks := [0, 3, 4, 48]) (L' := [(0, .slice ao1 p_l.length cp1), (3, .int .i64 s2), (4, .pointer (some ⟨w1.heap.size, 0, none⟩)), (48, .int .u8 ((gt p_l s2).2.1))]) hf (by kernel_rfl)
          have hT := of_let hS; clear hS; obtain ⟨bind_1, hl1, hS⟩ := hT
          refine st tbOk 2 [0, 3, 4, 5] (L' := [(0, .slice ao1 p_l.length cp1), (3, .int .i64 s2), (4, .pointer (some ⟨w1.heap.size, 0, none⟩)), (5, .int .u8 bind_1)]) hf (by subst hl1; kernel_rfl) ?_
          clear hf; clear a; intro a hf
          refine wpList_nil ?_
          refine sq ?_
          refine reg ?_
          refine st tbOk 1 [0, 3, 4, 5, 50] (L' := [(0, .slice ao1 p_l.length cp1), (3, .int .i64 s2), (4, .pointer (some ⟨w1.heap.size, 0, none⟩)), (5, .int .u8 bind_1), (50, .pointer (some ⟨w1.heap.size, 1, none⟩))]) hf (by kernel_rfl) ?_
          clear hf; clear a; intro a hf
          refine ldC tbOk (T := 5) (hs.cbx 0 rfl) (LeH.refl _) 1 (.int .u8 ((gt p_l s2).2.1)) hf (by kernel_rfl) (by kernel_rfl) (by kernel_rfl) (by kernel_rfl) ?_
          clear hf; clear a; intro a hf
          replace hf := Fr.keep (ks := [0, 3, 4, 5, 51]) (L' := [(0, .slice ao1 p_l.length cp1), (3, .int .i64 s2), (4, .pointer (some ⟨w1.heap.size, 0, none⟩)), (5, .int .u8 bind_1), (51, .int .u8 ((gt p_l s2).2.1))]) hf (by kernel_rfl)
          have hT := of_let hS; clear hS; obtain ⟨kind_1, hl2, hS⟩ := hT
          refine st tbOk 2 [0, 3, 4, 5, 6] (L' := [(0, .slice ao1 p_l.length cp1), (3, .int .i64 s2), (4, .pointer (some ⟨w1.heap.size, 0, none⟩)), (5, .int .u8 bind_1), (6, .int .u8 kind_1)]) hf (by subst hl2; kernel_rfl) ?_
          clear hf; clear a; intro a hf
          refine wpList_nil ?_
          refine sq ?_
          refine sq ?_
          refine ctj (fun (s5 : Bool) (a : Act) (w' : World) => ∃ (F5 : SH), Sep w F R w' F5 [.box w1.heap.size 65 [.int .u32 ((gt p_l s2).1), .int .u8 ((gt p_l s2).2.1), .int .u8 ((gt p_l s2).2.2.1), .int .u16 ((gt p_l s2).2.2.2.1), .int .u64 ((gt p_l s2).2.2.2.2.1), .int .u64 ((gt p_l s2).2.2.2.2.2)], .ro ty64 (.slice ao1 p_l.length cp1) p_l] ∧ Fr 103 [(0, .slice ao1 p_l.length cp1), (3, .int .i64 s2), (4, .pointer (some ⟨w1.heap.size, 0, none⟩)), (5, .int .u8 bind_1), (85, .bool s5)] a) hS ?_ ?_
          · clear hS hf hs; clear a; intro s5 a w5 hM hS
            obtain ⟨F5, hs, hf⟩ := hM
            refine cnd (b := s5) hf (by kernel_rfl) (fun hb22 => ?_) (fun hb22 => ?_)
            · replace hS := of_t hb22 hS
              refine sq ?_
              refine reg ?_
              refine st tbOk 1 [2] (L' := [(2, .int .i64 11)]) hf (by kernel_rfl) ?_
              clear hf; clear a; intro a hf
              refine wpList_nil ?_
              have hr := Option.some.inj hS; subst hr
              refine wp_ret ?_
              exact ret_ok hf (vs := [.int .i64 11]) (by kernel_rfl) ⟨_, rfl, hs.sel [] rfl rfl⟩
            · replace hS := of_f hb22 hS
              refine wp_skip ?_
              refine sq ?_
              refine ctj (fun (s6 : Bool) (a : Act) (w' : World) => ∃ (F6 : SH), Sep w F R w' F6 [.ro ty64 (.slice ao1 p_l.length cp1) p_l] ∧ Fr 103 [(0, .slice ao1 p_l.length cp1), (3, .int .i64 s2), (102, .bool s6)] a) hS ?_ ?_
              · clear hS hf hs; clear a; intro s6 a w6 hM hS
                obtain ⟨F6, hs, hf⟩ := hM
                refine cnd (b := s6) hf (by kernel_rfl) (fun hb26 => ?_) (fun hb26 => ?_)
                · replace hS := of_t hb26 hS
                  refine sq ?_
                  refine reg ?_
                  refine st tbOk 1 [2] (L' := [(2, .int .i64 11)]) hf (by kernel_rfl) ?_
                  clear hf; clear a; intro a hf
                  refine wpList_nil ?_
                  have hr := Option.some.inj hS; subst hr
                  refine wp_ret ?_
                  exact ret_ok hf (vs := [.int .i64 11]) (by kernel_rfl) ⟨_, rfl, hs.sel [] rfl rfl⟩
                · replace hS := of_f hb26 hS
                  refine wp_skip ?_
                  exact hK3 () _ _ ⟨_, hs.sel [0] rfl rfl, hf.keep (ks := [0, 3]) (by kernel_rfl)⟩ hS
              · clear hS; intro KK6 k5 hK6 hS
                refine reg ?_
                refine st tbOk 1 [0, 3, 4, 5, 86] (L' := [(0, .slice ao1 p_l.length cp1), (3, .int .i64 s2), (4, .pointer (some ⟨w1.heap.size, 0, none⟩)), (5, .int .u8 bind_1), (86, .pointer (some ⟨w1.heap.size, 3, none⟩))]) hf (by kernel_rfl) ?_
                clear hf; clear a; intro a hf
                refine ldC tbOk (T := 63) (hs.cbx 0 rfl) (LeH.refl _) 3 (.int .u16 ((gt p_l s2).2.2.2.1)) hf (by kernel_rfl) (by kernel_rfl) (by kernel_rfl) (by kernel_rfl) ?_
                clear hf; clear a; intro a hf
                replace hf := Fr.keep (ks := [0, 3, 4, 5, 87]) (L' := [(0, .slice ao1 p_l.length cp1), (3, .int .i64 s2), (4, .pointer (some ⟨w1.heap.size, 0, none⟩)), (5, .int .u8 bind_1), (87, .int .u16 ((gt p_l s2).2.2.2.1))]) hf (by kernel_rfl)
                refine st tbOk 2 [0, 3, 4, 5, 89] (L' := [(0, .slice ao1 p_l.length cp1), (3, .int .i64 s2), (4, .pointer (some ⟨w1.heap.size, 0, none⟩)), (5, .int .u8 bind_1), (89, .bool (((gt p_l s2).2.2.2.1) == 0))]) hf (by kernel_rfl) ?_
                clear hf; clear a; intro a hf
                rcases Bool.eq_false_or_eq_true (((gt p_l s2).2.2.2.1) == 0) with hb23 | hb23
                · replace hS := of_t hb23 hS
                  replace hf := Fr.cast (L' := [(0, .slice ao1 p_l.length cp1), (3, .int .i64 s2), (4, .pointer (some ⟨w1.heap.size, 0, none⟩)), (5, .int .u8 bind_1), (89, .bool true)]) hf (by rw [hb23])
                  refine st tbOk 1 [0, 3, 4, 5, 89, 90] (L' := [(0, .slice ao1 p_l.length cp1), (3, .int .i64 s2), (4, .pointer (some ⟨w1.heap.size, 0, none⟩)), (5, .int .u8 bind_1), (89, .bool true), (90, .pointer (some ⟨w1.heap.size, 4, none⟩))]) hf (by kernel_rfl) ?_
                  clear hf; clear a; intro a hf
                  refine ldC tbOk (T := 23) (hs.cbx 0 rfl) (LeH.refl _) 4 (.int .u64 ((gt p_l s2).2.2.2.2.1)) hf (by kernel_rfl) (by kernel_rfl) (by kernel_rfl) (by kernel_rfl) ?_
                  clear hf; clear a; intro a hf
                  replace hf := Fr.keep (ks := [0, 3, 4, 5, 89, 91]) (L' := [(0, .slice ao1 p_l.length cp1), (3, .int .i64 s2), (4, .pointer (some ⟨w1.heap.size, 0, none⟩)), (5, .int .u8 bind_1), (89, .bool true), (91, .int .u64 ((gt p_l s2).2.2.2.2.1))]) hf (by kernel_rfl)
                  refine st tbOk 2 [0, 3, 4, 5, 89, 93] (L' := [(0, .slice ao1 p_l.length cp1), (3, .int .i64 s2), (4, .pointer (some ⟨w1.heap.size, 0, none⟩)), (5, .int .u8 bind_1), (89, .bool true), (93, .bool (((gt p_l s2).2.2.2.2.1) != 0))]) hf (by kernel_rfl) ?_
                  clear hf; clear a; intro a hf
                  rcases Bool.eq_false_or_eq_true (((gt p_l s2).2.2.2.2.1) != 0) with hb24 | hb24
                  · replace hS := of_t hb24 hS
                    replace hf := Fr.cast (L' := [(0, .slice ao1 p_l.length cp1), (3, .int .i64 s2), (4, .pointer (some ⟨w1.heap.size, 0, none⟩)), (5, .int .u8 bind_1), (89, .bool true), (93, .bool true)]) hf (by rw [hb24])
                    refine st tbOk 9 [0, 3, 102] (L' := [(0, .slice ao1 p_l.length cp1), (3, .int .i64 s2), (102, .bool true)]) hf (by kernel_rfl) ?_
                    clear hf; clear a; intro a hf
                    refine wpList_nil ?_
                    exact hK6 true _ _ ⟨_, hs.sel [1] rfl rfl, hf.keep (ks := [0, 3, 102]) (by kernel_rfl)⟩ hS
                  · replace hS := of_f hb24 hS
                    replace hf := Fr.cast (L' := [(0, .slice ao1 p_l.length cp1), (3, .int .i64 s2), (4, .pointer (some ⟨w1.heap.size, 0, none⟩)), (5, .int .u8 bind_1), (89, .bool true), (93, .bool false)]) hf (by rw [hb24])
                    refine st tbOk 1 [0, 3, 5, 89, 93, 94] (L' := [(0, .slice ao1 p_l.length cp1), (3, .int .i64 s2), (5, .int .u8 bind_1), (89, .bool true), (93, .bool false), (94, .pointer (some ⟨w1.heap.size, 5, none⟩))]) hf (by kernel_rfl) ?_
                    clear hf; clear a; intro a hf
                    refine ldC tbOk (T := 23) (hs.cbx 0 rfl) (LeH.refl _) 5 (.int .u64 ((gt p_l s2).2.2.2.2.2)) hf (by kernel_rfl) (by kernel_rfl) (by kernel_rfl) (by kernel_rfl) ?_
                    clear hf; clear a; intro a hf
                    replace hs : Sep w F R w5 F5 [.ro ty64 (.slice ao1 p_l.length cp1) p_l] := hs.sel [1] rfl rfl
                    replace hf := Fr.keep (ks := [0, 3, 5, 89, 93, 95]) (L' := [(0, .slice ao1 p_l.length cp1), (3, .int .i64 s2), (5, .int .u8 bind_1), (89, .bool true), (93, .bool false), (95, .int .u64 ((gt p_l s2).2.2.2.2.2))]) hf (by kernel_rfl)
                    refine st tbOk 3 [0, 3, 5, 89, 98] (L' := [(0, .slice ao1 p_l.length cp1), (3, .int .i64 s2), (5, .int .u8 bind_1), (89, .bool true), (98, .bool (((gt p_l s2).2.2.2.2.2) != 0))]) hf (by kernel_rfl) ?_
                    clear hf; clear a; intro a hf
                    rcases Bool.eq_false_or_eq_true (((gt p_l s2).2.2.2.2.2) != 0) with hb25 | hb25
                    · replace hS := of_t hb25 hS
                      replace hf := Fr.cast (L' := [(0, .slice ao1 p_l.length cp1), (3, .int .i64 s2), (5, .int .u8 bind_1), (89, .bool true), (98, .bool true)]) hf (by rw [hb25])
                      refine st tbOk 4 [0, 3, 102] (L' := [(0, .slice ao1 p_l.length cp1), (3, .int .i64 s2), (102, .bool true)]) hf (by kernel_rfl) ?_
                      clear hf; clear a; intro a hf
                      refine wpList_nil ?_
                      exact hK6 true _ _ ⟨_, hs.sel [0] rfl rfl, hf.keep (ks := [0, 3, 102]) (by kernel_rfl)⟩ hS
                    · replace hS := of_f hb25 hS
                      replace hf := Fr.cast (L' := [(0, .slice ao1 p_l.length cp1), (3, .int .i64 s2), (5, .int .u8 bind_1), (89, .bool true), (98, .bool false)]) hf (by rw [hb25])
                      refine st tbOk 4 [0, 3, 102] (L' := [(0, .slice ao1 p_l.length cp1), (3, .int .i64 s2), (102, .bool (bind_1 == 0))]) hf (by kernel_rfl) ?_
                      clear hf; clear a; intro a hf
                      refine wpList_nil ?_
                      exact hK6 (bind_1 == 0) _ _ ⟨_, hs.sel [0] rfl rfl, hf.keep (ks := [0, 3, 102]) (by kernel_rfl)⟩ hS
                · replace hS := of_f hb23 hS
                  replace hf := Fr.cast (L' := [(0, .slice ao1 p_l.length cp1), (3, .int .i64 s2), (4, .pointer (some ⟨w1.heap.size, 0, none⟩)), (5, .int .u8 bind_1), (89, .bool false)]) hf (by rw [hb23])
                  refine st tbOk 13 [0, 3, 102] (L' := [(0, .slice ao1 p_l.length cp1), (3, .int .i64 s2), (102, .bool false)]) hf (by kernel_rfl) ?_
                  clear hf; clear a; intro a hf
                  refine wpList_nil ?_
                  exact hK6 false _ _ ⟨_, hs.sel [1] rfl rfl, hf.keep (ks := [0, 3, 102]) (by kernel_rfl)⟩ hS
          · clear hS; intro KK5 k4 hK5 hS
            refine reg ?_
            refine st tbOk 3 [0, 3, 4, 5, 6, 55] (L' := [(0, .slice ao1 p_l.length cp1), (3, .int .i64 s2), (4, .pointer (some ⟨w1.heap.size, 0, none⟩)), (5, .int .u8 bind_1), (6, .int .u8 kind_1), (55, .bool (decide (bind_1 > 2)))]) hf (by kernel_rfl) ?_
            clear hf; clear a; intro a hf
            rcases Bool.eq_false_or_eq_true (decide (bind_1 > 2)) with hb9 | hb9
            · replace hS := of_t hb9 hS
              replace hf := Fr.cast (L' := [(0, .slice ao1 p_l.length cp1), (3, .int .i64 s2), (4, .pointer (some ⟨w1.heap.size, 0, none⟩)), (5, .int .u8 bind_1), (6, .int .u8 kind_1), (55, .bool true)]) hf (by rw [hb9])
              refine st tbOk 30 [0, 3, 4, 5, 85] (L' := [(0, .slice ao1 p_l.length cp1), (3, .int .i64 s2), (4, .pointer (some ⟨w1.heap.size, 0, none⟩)), (5, .int .u8 bind_1), (85, .bool true)]) hf (by kernel_rfl) ?_
              clear hf; clear a; intro a hf
              refine wpList_nil ?_
              exact hK5 true _ _ ⟨_, hs.sel [0, 1] rfl rfl, hf.keep (ks := [0, 3, 4, 5, 85]) (by kernel_rfl)⟩ hS
            · replace hS := of_f hb9 hS
              replace hf := Fr.cast (L' := [(0, .slice ao1 p_l.length cp1), (3, .int .i64 s2), (4, .pointer (some ⟨w1.heap.size, 0, none⟩)), (5, .int .u8 bind_1), (6, .int .u8 kind_1), (55, .bool false)]) hf (by rw [hb9])
              refine st tbOk 3 [0, 3, 4, 5, 6, 55, 58] (L' := [(0, .slice ao1 p_l.length cp1), (3, .int .i64 s2), (4, .pointer (some ⟨w1.heap.size, 0, none⟩)), (5, .int .u8 bind_1), (6, .int .u8 kind_1), (55, .bool false), (58, .bool (kind_1 != 0))]) hf (by kernel_rfl) ?_
              clear hf; clear a; intro a hf
              rcases Bool.eq_false_or_eq_true (kind_1 != 0) with hb10 | hb10
              · replace hS := of_t hb10 hS
                replace hf := Fr.cast (L' := [(0, .slice ao1 p_l.length cp1), (3, .int .i64 s2), (4, .pointer (some ⟨w1.heap.size, 0, none⟩)), (5, .int .u8 bind_1), (6, .int .u8 kind_1), (55, .bool false), (58, .bool true)]) hf (by rw [hb10])
                refine st tbOk 4 [0, 3, 4, 5, 6, 55, 62] (L' := [(0, .slice ao1 p_l.length cp1), (3, .int .i64 s2), (4, .pointer (some ⟨w1.heap.size, 0, none⟩)), (5, .int .u8 bind_1), (6, .int .u8 kind_1), (55, .bool false), (62, .bool (kind_1 != 1))]) hf (by kernel_rfl) ?_
                clear hf; clear a; intro a hf
                rcases Bool.eq_false_or_eq_true (kind_1 != 1) with hb11 | hb11
                · replace hS := of_t hb11 hS
                  replace hf := Fr.cast (L' := [(0, .slice ao1 p_l.length cp1), (3, .int .i64 s2), (4, .pointer (some ⟨w1.heap.size, 0, none⟩)), (5, .int .u8 bind_1), (6, .int .u8 kind_1), (55, .bool false), (62, .bool true)]) hf (by rw [hb11])
                  refine st tbOk 4 [0, 3, 4, 5, 6, 55, 66] (L' := [(0, .slice ao1 p_l.length cp1), (3, .int .i64 s2), (4, .pointer (some ⟨w1.heap.size, 0, none⟩)), (5, .int .u8 bind_1), (6, .int .u8 kind_1), (55, .bool false), (66, .bool (kind_1 != 2))]) hf (by kernel_rfl) ?_
                  clear hf; clear a; intro a hf
                  rcases Bool.eq_false_or_eq_true (kind_1 != 2) with hb12 | hb12
                  · replace hS := of_t hb12 hS
                    replace hf := Fr.cast (L' := [(0, .slice ao1 p_l.length cp1), (3, .int .i64 s2), (4, .pointer (some ⟨w1.heap.size, 0, none⟩)), (5, .int .u8 bind_1), (6, .int .u8 kind_1), (55, .bool false), (66, .bool true)]) hf (by rw [hb12])
                    refine st tbOk 5 [0, 3, 4, 5, 71] (L' := [(0, .slice ao1 p_l.length cp1), (3, .int .i64 s2), (4, .pointer (some ⟨w1.heap.size, 0, none⟩)), (5, .int .u8 bind_1), (71, .bool (kind_1 != 6))]) hf (by kernel_rfl) ?_
                    clear hf; clear a; intro a hf
                    rcases Bool.eq_false_or_eq_true (kind_1 != 6) with hb13 | hb13
                    · replace hS := of_t hb13 hS
                      replace hf := Fr.cast (L' := [(0, .slice ao1 p_l.length cp1), (3, .int .i64 s2), (4, .pointer (some ⟨w1.heap.size, 0, none⟩)), (5, .int .u8 bind_1), (71, .bool true)]) hf (by rw [hb13])
                      refine st tbOk 14 [0, 3, 4, 5, 85] (L' := [(0, .slice ao1 p_l.length cp1), (3, .int .i64 s2), (4, .pointer (some ⟨w1.heap.size, 0, none⟩)), (5, .int .u8 bind_1), (85, .bool true)]) hf (by kernel_rfl) ?_
                      clear hf; clear a; intro a hf
                      refine wpList_nil ?_
                      exact hK5 true _ _ ⟨_, hs.sel [0, 1] rfl rfl, hf.keep (ks := [0, 3, 4, 5, 85]) (by kernel_rfl)⟩ hS
                    · replace hS := of_f hb13 hS
                      replace hf := Fr.cast (L' := [(0, .slice ao1 p_l.length cp1), (3, .int .i64 s2), (4, .pointer (some ⟨w1.heap.size, 0, none⟩)), (5, .int .u8 bind_1), (71, .bool false)]) hf (by rw [hb13])
                      refine st tbOk 1 [0, 3, 4, 5, 71, 72] (L' := [(0, .slice ao1 p_l.length cp1), (3, .int .i64 s2), (4, .pointer (some ⟨w1.heap.size, 0, none⟩)), (5, .int .u8 bind_1), (71, .bool false), (72, .pointer (some ⟨w1.heap.size, 2, none⟩))]) hf (by kernel_rfl) ?_
                      clear hf; clear a; intro a hf
                      refine ldC tbOk (T := 5) (hs.cbx 0 rfl) (LeH.refl _) 2 (.int .u8 ((gt p_l s2).2.2.1)) hf (by kernel_rfl) (by kernel_rfl) (by kernel_rfl) (by kernel_rfl) ?_
                      clear hf; clear a; intro a hf
                      replace hf := Fr.keep (ks := [0, 3, 4, 5, 71, 73]) (L' := [(0, .slice ao1 p_l.length cp1), (3, .int .i64 s2), (4, .pointer (some ⟨w1.heap.size, 0, none⟩)), (5, .int .u8 bind_1), (71, .bool false), (73, .int .u8 ((gt p_l s2).2.2.1))]) hf (by kernel_rfl)
                      refine st tbOk 3 [0, 3, 4, 5, 76] (L' := [(0, .slice ao1 p_l.length cp1), (3, .int .i64 s2), (4, .pointer (some ⟨w1.heap.size, 0, none⟩)), (5, .int .u8 bind_1), (76, .bool (((gt p_l s2).2.2.1) != 0))]) hf (by kernel_rfl) ?_
                      clear hf; clear a; intro a hf
                      rcases Bool.eq_false_or_eq_true (((gt p_l s2).2.2.1) != 0) with hb14 | hb14
                      · replace hS := of_t hb14 hS
                        replace hf := Fr.cast (L' := [(0, .slice ao1 p_l.length cp1), (3, .int .i64 s2), (4, .pointer (some ⟨w1.heap.size, 0, none⟩)), (5, .int .u8 bind_1), (76, .bool true)]) hf (by rw [hb14])
                        refine st tbOk 9 [0, 3, 4, 5, 85] (L' := [(0, .slice ao1 p_l.length cp1), (3, .int .i64 s2), (4, .pointer (some ⟨w1.heap.size, 0, none⟩)), (5, .int .u8 bind_1), (85, .bool true)]) hf (by kernel_rfl) ?_
                        clear hf; clear a; intro a hf
                        refine wpList_nil ?_
                        exact hK5 true _ _ ⟨_, hs.sel [0, 1] rfl rfl, hf.keep (ks := [0, 3, 4, 5, 85]) (by kernel_rfl)⟩ hS
                      · replace hS := of_f hb14 hS
                        replace hf := Fr.cast (L' := [(0, .slice ao1 p_l.length cp1), (3, .int .i64 s2), (4, .pointer (some ⟨w1.heap.size, 0, none⟩)), (5, .int .u8 bind_1), (76, .bool false)]) hf (by rw [hb14])
                        refine st tbOk 1 [0, 3, 4, 5, 76, 77] (L' := [(0, .slice ao1 p_l.length cp1), (3, .int .i64 s2), (4, .pointer (some ⟨w1.heap.size, 0, none⟩)), (5, .int .u8 bind_1), (76, .bool false), (77, .pointer (some ⟨w1.heap.size, 3, none⟩))]) hf (by kernel_rfl) ?_
                        clear hf; clear a; intro a hf
                        refine ldC tbOk (T := 63) (hs.cbx 0 rfl) (LeH.refl _) 3 (.int .u16 ((gt p_l s2).2.2.2.1)) hf (by kernel_rfl) (by kernel_rfl) (by kernel_rfl) (by kernel_rfl) ?_
                        clear hf; clear a; intro a hf
                        replace hf := Fr.keep (ks := [0, 3, 4, 5, 76, 78]) (L' := [(0, .slice ao1 p_l.length cp1), (3, .int .i64 s2), (4, .pointer (some ⟨w1.heap.size, 0, none⟩)), (5, .int .u8 bind_1), (76, .bool false), (78, .int .u16 ((gt p_l s2).2.2.2.1))]) hf (by kernel_rfl)
                        refine st tbOk 3 [0, 3, 4, 5, 81] (L' := [(0, .slice ao1 p_l.length cp1), (3, .int .i64 s2), (4, .pointer (some ⟨w1.heap.size, 0, none⟩)), (5, .int .u8 bind_1), (81, .bool (decide (((gt p_l s2).2.2.2.1) > 1)))]) hf (by kernel_rfl) ?_
                        clear hf; clear a; intro a hf
                        rcases Bool.eq_false_or_eq_true (decide (((gt p_l s2).2.2.2.1) > 1)) with hb15 | hb15
                        · replace hS := of_t hb15 hS
                          replace hf := Fr.cast (L' := [(0, .slice ao1 p_l.length cp1), (3, .int .i64 s2), (4, .pointer (some ⟨w1.heap.size, 0, none⟩)), (5, .int .u8 bind_1), (81, .bool true)]) hf (by rw [hb15])
                          refine st tbOk 4 [0, 3, 4, 5, 85] (L' := [(0, .slice ao1 p_l.length cp1), (3, .int .i64 s2), (4, .pointer (some ⟨w1.heap.size, 0, none⟩)), (5, .int .u8 bind_1), (85, .bool true)]) hf (by kernel_rfl) ?_
                          clear hf; clear a; intro a hf
                          refine wpList_nil ?_
                          exact hK5 true _ _ ⟨_, hs.sel [0, 1] rfl rfl, hf.keep (ks := [0, 3, 4, 5, 85]) (by kernel_rfl)⟩ hS
                        · replace hS := of_f hb15 hS
                          replace hf := Fr.cast (L' := [(0, .slice ao1 p_l.length cp1), (3, .int .i64 s2), (4, .pointer (some ⟨w1.heap.size, 0, none⟩)), (5, .int .u8 bind_1), (81, .bool false)]) hf (by rw [hb15])
                          refine st tbOk 1 [0, 3, 4, 5, 81, 82] (L' := [(0, .slice ao1 p_l.length cp1), (3, .int .i64 s2), (4, .pointer (some ⟨w1.heap.size, 0, none⟩)), (5, .int .u8 bind_1), (81, .bool false), (82, .pointer (some ⟨w1.heap.size, 0, none⟩))]) hf (by kernel_rfl) ?_
                          clear hf; clear a; intro a hf
                          refine ldC tbOk (T := 31) (hs.cbx 0 rfl) (LeH.refl _) 0 (.int .u32 ((gt p_l s2).1)) hf (by kernel_rfl) (by kernel_rfl) (by kernel_rfl) (by kernel_rfl) ?_
                          clear hf; clear a; intro a hf
                          replace hf := Fr.keep (ks := [0, 3, 4, 5, 81, 83]) (L' := [(0, .slice ao1 p_l.length cp1), (3, .int .i64 s2), (4, .pointer (some ⟨w1.heap.size, 0, none⟩)), (5, .int .u8 bind_1), (81, .bool false), (83, .int .u32 ((gt p_l s2).1))]) hf (by kernel_rfl)
                          refine st tbOk 2 [0, 3, 4, 5, 85] (L' := [(0, .slice ao1 p_l.length cp1), (3, .int .i64 s2), (4, .pointer (some ⟨w1.heap.size, 0, none⟩)), (5, .int .u8 bind_1), (85, .bool (((gt p_l s2).1) == 0))]) hf (by kernel_rfl) ?_
                          clear hf; clear a; intro a hf
                          refine wpList_nil ?_
                          exact hK5 (((gt p_l s2).1) == 0) _ _ ⟨_, hs.sel [0, 1] rfl rfl, hf.keep (ks := [0, 3, 4, 5, 85]) (by kernel_rfl)⟩ hS
                  · replace hS := of_f hb12 hS
                    replace hf := Fr.cast (L' := [(0, .slice ao1 p_l.length cp1), (3, .int .i64 s2), (4, .pointer (some ⟨w1.heap.size, 0, none⟩)), (5, .int .u8 bind_1), (6, .int .u8 kind_1), (55, .bool false), (66, .bool false)]) hf (by rw [hb12])
                    refine st tbOk 6 [0, 3, 4, 5, 71, 72] (L' := [(0, .slice ao1 p_l.length cp1), (3, .int .i64 s2), (4, .pointer (some ⟨w1.heap.size, 0, none⟩)), (5, .int .u8 bind_1), (71, .bool false), (72, .pointer (some ⟨w1.heap.size, 2, none⟩))]) hf (by kernel_rfl) ?_
                    clear hf; clear a; intro a hf
                    refine ldC tbOk (T := 5) (hs.cbx 0 rfl) (LeH.refl _) 2 (.int .u8 ((gt p_l s2).2.2.1)) hf (by kernel_rfl) (by kernel_rfl) (by kernel_rfl) (by kernel_rfl) ?_
                    clear hf; clear a; intro a hf
                    replace hf := Fr.keep (ks := [0, 3, 4, 5, 71, 73]) (L' := [(0, .slice ao1 p_l.length cp1), (3, .int .i64 s2), (4, .pointer (some ⟨w1.heap.size, 0, none⟩)), (5, .int .u8 bind_1), (71, .bool false), (73, .int .u8 ((gt p_l s2).2.2.1))]) hf (by kernel_rfl)
                    refine st tbOk 3 [0, 3, 4, 5, 76] (L' := [(0, .slice ao1 p_l.length cp1), (3, .int .i64 s2), (4, .pointer (some ⟨w1.heap.size, 0, none⟩)), (5, .int .u8 bind_1), (76, .bool (((gt p_l s2).2.2.1) != 0))]) hf (by kernel_rfl) ?_
                    clear hf; clear a; intro a hf
                    rcases Bool.eq_false_or_eq_true (((gt p_l s2).2.2.1) != 0) with hb16 | hb16
                    · replace hS := of_t hb16 hS
                      replace hf := Fr.cast (L' := [(0, .slice ao1 p_l.length cp1), (3, .int .i64 s2), (4, .pointer (some ⟨w1.heap.size, 0, none⟩)), (5, .int .u8 bind_1), (76, .bool true)]) hf (by rw [hb16])
                      refine st tbOk 9 [0, 3, 4, 5, 85] (L' := [(0, .slice ao1 p_l.length cp1), (3, .int .i64 s2), (4, .pointer (some ⟨w1.heap.size, 0, none⟩)), (5, .int .u8 bind_1), (85, .bool true)]) hf (by kernel_rfl) ?_
                      clear hf; clear a; intro a hf
                      refine wpList_nil ?_
                      exact hK5 true _ _ ⟨_, hs.sel [0, 1] rfl rfl, hf.keep (ks := [0, 3, 4, 5, 85]) (by kernel_rfl)⟩ hS
                    · replace hS := of_f hb16 hS
                      replace hf := Fr.cast (L' := [(0, .slice ao1 p_l.length cp1), (3, .int .i64 s2), (4, .pointer (some ⟨w1.heap.size, 0, none⟩)), (5, .int .u8 bind_1), (76, .bool false)]) hf (by rw [hb16])
                      refine st tbOk 1 [0, 3, 4, 5, 76, 77] (L' := [(0, .slice ao1 p_l.length cp1), (3, .int .i64 s2), (4, .pointer (some ⟨w1.heap.size, 0, none⟩)), (5, .int .u8 bind_1), (76, .bool false), (77, .pointer (some ⟨w1.heap.size, 3, none⟩))]) hf (by kernel_rfl) ?_
                      clear hf; clear a; intro a hf
                      refine ldC tbOk (T := 63) (hs.cbx 0 rfl) (LeH.refl _) 3 (.int .u16 ((gt p_l s2).2.2.2.1)) hf (by kernel_rfl) (by kernel_rfl) (by kernel_rfl) (by kernel_rfl) ?_
                      clear hf; clear a; intro a hf
                      replace hf := Fr.keep (ks := [0, 3, 4, 5, 76, 78]) (L' := [(0, .slice ao1 p_l.length cp1), (3, .int .i64 s2), (4, .pointer (some ⟨w1.heap.size, 0, none⟩)), (5, .int .u8 bind_1), (76, .bool false), (78, .int .u16 ((gt p_l s2).2.2.2.1))]) hf (by kernel_rfl)
                      refine st tbOk 3 [0, 3, 4, 5, 81] (L' := [(0, .slice ao1 p_l.length cp1), (3, .int .i64 s2), (4, .pointer (some ⟨w1.heap.size, 0, none⟩)), (5, .int .u8 bind_1), (81, .bool (decide (((gt p_l s2).2.2.2.1) > 1)))]) hf (by kernel_rfl) ?_
                      clear hf; clear a; intro a hf
                      rcases Bool.eq_false_or_eq_true (decide (((gt p_l s2).2.2.2.1) > 1)) with hb17 | hb17
                      · replace hS := of_t hb17 hS
                        replace hf := Fr.cast (L' := [(0, .slice ao1 p_l.length cp1), (3, .int .i64 s2), (4, .pointer (some ⟨w1.heap.size, 0, none⟩)), (5, .int .u8 bind_1), (81, .bool true)]) hf (by rw [hb17])
                        refine st tbOk 4 [0, 3, 4, 5, 85] (L' := [(0, .slice ao1 p_l.length cp1), (3, .int .i64 s2), (4, .pointer (some ⟨w1.heap.size, 0, none⟩)), (5, .int .u8 bind_1), (85, .bool true)]) hf (by kernel_rfl) ?_
                        clear hf; clear a; intro a hf
                        refine wpList_nil ?_
                        exact hK5 true _ _ ⟨_, hs.sel [0, 1] rfl rfl, hf.keep (ks := [0, 3, 4, 5, 85]) (by kernel_rfl)⟩ hS
                      · replace hS := of_f hb17 hS
                        replace hf := Fr.cast (L' := [(0, .slice ao1 p_l.length cp1), (3, .int .i64 s2), (4, .pointer (some ⟨w1.heap.size, 0, none⟩)), (5, .int .u8 bind_1), (81, .bool false)]) hf (by rw [hb17])
                        refine st tbOk 1 [0, 3, 4, 5, 81, 82] (L' := [(0, .slice ao1 p_l.length cp1), (3, .int .i64 s2), (4, .pointer (some ⟨w1.heap.size, 0, none⟩)), (5, .int .u8 bind_1), (81, .bool false), (82, .pointer (some ⟨w1.heap.size, 0, none⟩))]) hf (by kernel_rfl) ?_
                        clear hf; clear a; intro a hf
                        refine ldC tbOk (T := 31) (hs.cbx 0 rfl) (LeH.refl _) 0 (.int .u32 ((gt p_l s2).1)) hf (by kernel_rfl) (by kernel_rfl) (by kernel_rfl) (by kernel_rfl) ?_
                        clear hf; clear a; intro a hf
                        replace hf := Fr.keep (ks := [0, 3, 4, 5, 81, 83]) (L' := [(0, .slice ao1 p_l.length cp1), (3, .int .i64 s2), (4, .pointer (some ⟨w1.heap.size, 0, none⟩)), (5, .int .u8 bind_1), (81, .bool false), (83, .int .u32 ((gt p_l s2).1))]) hf (by kernel_rfl)
                        refine st tbOk 2 [0, 3, 4, 5, 85] (L' := [(0, .slice ao1 p_l.length cp1), (3, .int .i64 s2), (4, .pointer (some ⟨w1.heap.size, 0, none⟩)), (5, .int .u8 bind_1), (85, .bool (((gt p_l s2).1) == 0))]) hf (by kernel_rfl) ?_
                        clear hf; clear a; intro a hf
                        refine wpList_nil ?_
                        exact hK5 (((gt p_l s2).1) == 0) _ _ ⟨_, hs.sel [0, 1] rfl rfl, hf.keep (ks := [0, 3, 4, 5, 85]) (by kernel_rfl)⟩ hS
                · replace hS := of_f hb11 hS
                  replace hf := Fr.cast (L' := [(0, .slice ao1 p_l.length cp1), (3, .int .i64 s2), (4, .pointer (some ⟨w1.heap.size, 0, none⟩)), (5, .int .u8 bind_1), (6, .int .u8 kind_1), (55, .bool false), (62, .bool false)]) hf (by rw [hb11])
                  refine st tbOk 10 [0, 3, 4, 5, 71, 72] (L' := [(0, .slice ao1 p_l.length cp1), (3, .int .i64 s2), (4, .pointer (some ⟨w1.heap.size, 0, none⟩)), (5, .int .u8 bind_1), (71, .bool false), (72, .pointer (some ⟨w1.heap.size, 2, none⟩))]) hf (by kernel_rfl) ?_
                  clear hf; clear a; intro a hf
                  refine ldC tbOk (T := 5) (hs.cbx 0 rfl) (LeH.refl _) 2 (.int .u8 ((gt p_l s2).2.2.1)) hf (by kernel_rfl) (by kernel_rfl) (by kernel_rfl) (by kernel_rfl) ?_
                  clear hf; clear a; intro a hf
                  replace hf := Fr.keep (ks := [0, 3, 4, 5, 71, 73]) (L' := [(0, .slice ao1 p_l.length cp1), (3, .int .i64 s2), (4, .pointer (some ⟨w1.heap.size, 0, none⟩)), (5, .int .u8 bind_1), (71, .bool false), (73, .int .u8 ((gt p_l s2).2.2.1))]) hf (by kernel_rfl)
                  refine st tbOk 3 [0, 3, 4, 5, 76] (L' := [(0, .slice ao1 p_l.length cp1), (3, .int .i64 s2), (4, .pointer (some ⟨w1.heap.size, 0, none⟩)), (5, .int .u8 bind_1), (76, .bool (((gt p_l s2).2.2.1) != 0))]) hf (by kernel_rfl) ?_
                  clear hf; clear a; intro a hf
                  rcases Bool.eq_false_or_eq_true (((gt p_l s2).2.2.1) != 0) with hb18 | hb18
                  · replace hS := of_t hb18 hS
                    replace hf := Fr.cast (L' := [(0, .slice ao1 p_l.length cp1), (3, .int .i64 s2), (4, .pointer (some ⟨w1.heap.size, 0, none⟩)), (5, .int .u8 bind_1), (76, .bool true)]) hf (by rw [hb18])
                    refine st tbOk 9 [0, 3, 4, 5, 85] (L' := [(0, .slice ao1 p_l.length cp1), (3, .int .i64 s2), (4, .pointer (some ⟨w1.heap.size, 0, none⟩)), (5, .int .u8 bind_1), (85, .bool true)]) hf (by kernel_rfl) ?_
                    clear hf; clear a; intro a hf
                    refine wpList_nil ?_
                    exact hK5 true _ _ ⟨_, hs.sel [0, 1] rfl rfl, hf.keep (ks := [0, 3, 4, 5, 85]) (by kernel_rfl)⟩ hS
                  · replace hS := of_f hb18 hS
                    replace hf := Fr.cast (L' := [(0, .slice ao1 p_l.length cp1), (3, .int .i64 s2), (4, .pointer (some ⟨w1.heap.size, 0, none⟩)), (5, .int .u8 bind_1), (76, .bool false)]) hf (by rw [hb18])
                    refine st tbOk 1 [0, 3, 4, 5, 76, 77] (L' := [(0, .slice ao1 p_l.length cp1), (3, .int .i64 s2), (4, .pointer (some ⟨w1.heap.size, 0, none⟩)), (5, .int .u8 bind_1), (76, .bool false), (77, .pointer (some ⟨w1.heap.size, 3, none⟩))]) hf (by kernel_rfl) ?_
                    clear hf; clear a; intro a hf
                    refine ldC tbOk (T := 63) (hs.cbx 0 rfl) (LeH.refl _) 3 (.int .u16 ((gt p_l s2).2.2.2.1)) hf (by kernel_rfl) (by kernel_rfl) (by kernel_rfl) (by kernel_rfl) ?_
                    clear hf; clear a; intro a hf
                    replace hf := Fr.keep (ks := [0, 3, 4, 5, 76, 78]) (L' := [(0, .slice ao1 p_l.length cp1), (3, .int .i64 s2), (4, .pointer (some ⟨w1.heap.size, 0, none⟩)), (5, .int .u8 bind_1), (76, .bool false), (78, .int .u16 ((gt p_l s2).2.2.2.1))]) hf (by kernel_rfl)
                    refine st tbOk 3 [0, 3, 4, 5, 81] (L' := [(0, .slice ao1 p_l.length cp1), (3, .int .i64 s2), (4, .pointer (some ⟨w1.heap.size, 0, none⟩)), (5, .int .u8 bind_1), (81, .bool (decide (((gt p_l s2).2.2.2.1) > 1)))]) hf (by kernel_rfl) ?_
                    clear hf; clear a; intro a hf
                    rcases Bool.eq_false_or_eq_true (decide (((gt p_l s2).2.2.2.1) > 1)) with hb19 | hb19
                    · replace hS := of_t hb19 hS
                      replace hf := Fr.cast (L' := [(0, .slice ao1 p_l.length cp1), (3, .int .i64 s2), (4, .pointer (some ⟨w1.heap.size, 0, none⟩)), (5, .int .u8 bind_1), (81, .bool true)]) hf (by rw [hb19])
                      refine st tbOk 4 [0, 3, 4, 5, 85] (L' := [(0, .slice ao1 p_l.length cp1), (3, .int .i64 s2), (4, .pointer (some ⟨w1.heap.size, 0, none⟩)), (5, .int .u8 bind_1), (85, .bool true)]) hf (by kernel_rfl) ?_
                      clear hf; clear a; intro a hf
                      refine wpList_nil ?_
                      exact hK5 true _ _ ⟨_, hs.sel [0, 1] rfl rfl, hf.keep (ks := [0, 3, 4, 5, 85]) (by kernel_rfl)⟩ hS
                    · replace hS := of_f hb19 hS
                      replace hf := Fr.cast (L' := [(0, .slice ao1 p_l.length cp1), (3, .int .i64 s2), (4, .pointer (some ⟨w1.heap.size, 0, none⟩)), (5, .int .u8 bind_1), (81, .bool false)]) hf (by rw [hb19])
                      refine st tbOk 1 [0, 3, 4, 5, 81, 82] (L' := [(0, .slice ao1 p_l.length cp1), (3, .int .i64 s2), (4, .pointer (some ⟨w1.heap.size, 0, none⟩)), (5, .int .u8 bind_1), (81, .bool false), (82, .pointer (some ⟨w1.heap.size, 0, none⟩))]) hf (by kernel_rfl) ?_
                      clear hf; clear a; intro a hf
                      refine ldC tbOk (T := 31) (hs.cbx 0 rfl) (LeH.refl _) 0 (.int .u32 ((gt p_l s2).1)) hf (by kernel_rfl) (by kernel_rfl) (by kernel_rfl) (by kernel_rfl) ?_
                      clear hf; clear a; intro a hf
                      replace hf := Fr.keep (ks := [0, 3, 4, 5, 81, 83]) (L' := [(0, .slice ao1 p_l.length cp1), (3, .int .i64 s2), (4, .pointer (some ⟨w1.heap.size, 0, none⟩)), (5, .int .u8 bind_1), (81, .bool false), (83, .int .u32 ((gt p_l s2).1))]) hf (by kernel_rfl)
                      refine st tbOk 2 [0, 3, 4, 5, 85] (L' := [(0, .slice ao1 p_l.length cp1), (3, .int .i64 s2), (4, .pointer (some ⟨w1.heap.size, 0, none⟩)), (5, .int .u8 bind_1), (85, .bool (((gt p_l s2).1) == 0))]) hf (by kernel_rfl) ?_
                      clear hf; clear a; intro a hf
                      refine wpList_nil ?_
                      exact hK5 (((gt p_l s2).1) == 0) _ _ ⟨_, hs.sel [0, 1] rfl rfl, hf.keep (ks := [0, 3, 4, 5, 85]) (by kernel_rfl)⟩ hS
              · replace hS := of_f hb10 hS
                replace hf := Fr.cast (L' := [(0, .slice ao1 p_l.length cp1), (3, .int .i64 s2), (4, .pointer (some ⟨w1.heap.size, 0, none⟩)), (5, .int .u8 bind_1), (6, .int .u8 kind_1), (55, .bool false), (58, .bool false)]) hf (by rw [hb10])
                refine st tbOk 14 [0, 3, 4, 5, 71, 72] (L' := [(0, .slice ao1 p_l.length cp1), (3, .int .i64 s2), (4, .pointer (some ⟨w1.heap.size, 0, none⟩)), (5, .int .u8 bind_1), (71, .bool false), (72, .pointer (some ⟨w1.heap.size, 2, none⟩))]) hf (by kernel_rfl) ?_
                clear hf; clear a; intro a hf
                refine ldC tbOk (T := 5) (hs.cbx 0 rfl) (LeH.refl _) 2 (.int .u8 ((gt p_l s2).2.2.1)) hf (by kernel_rfl) (by kernel_rfl) (by kernel_rfl) (by kernel_rfl) ?_
                clear hf; clear a; intro a hf
                replace hf := Fr.keep (ks := [0, 3, 4, 5, 71, 73]) (L' := [(0, .slice ao1 p_l.length cp1), (3, .int .i64 s2), (4, .pointer (some ⟨w1.heap.size, 0, none⟩)), (5, .int .u8 bind_1), (71, .bool false), (73, .int .u8 ((gt p_l s2).2.2.1))]) hf (by kernel_rfl)
                refine st tbOk 3 [0, 3, 4, 5, 76] (L' := [(0, .slice ao1 p_l.length cp1), (3, .int .i64 s2), (4, .pointer (some ⟨w1.heap.size, 0, none⟩)), (5, .int .u8 bind_1), (76, .bool (((gt p_l s2).2.2.1) != 0))]) hf (by kernel_rfl) ?_
                clear hf; clear a; intro a hf
                rcases Bool.eq_false_or_eq_true (((gt p_l s2).2.2.1) != 0) with hb20 | hb20
                · replace hS := of_t hb20 hS
                  replace hf := Fr.cast (L' := [(0, .slice ao1 p_l.length cp1), (3, .int .i64 s2), (4, .pointer (some ⟨w1.heap.size, 0, none⟩)), (5, .int .u8 bind_1), (76, .bool true)]) hf (by rw [hb20])
                  refine st tbOk 9 [0, 3, 4, 5, 85] (L' := [(0, .slice ao1 p_l.length cp1), (3, .int .i64 s2), (4, .pointer (some ⟨w1.heap.size, 0, none⟩)), (5, .int .u8 bind_1), (85, .bool true)]) hf (by kernel_rfl) ?_
                  clear hf; clear a; intro a hf
                  refine wpList_nil ?_
                  exact hK5 true _ _ ⟨_, hs.sel [0, 1] rfl rfl, hf.keep (ks := [0, 3, 4, 5, 85]) (by kernel_rfl)⟩ hS
                · replace hS := of_f hb20 hS
                  replace hf := Fr.cast (L' := [(0, .slice ao1 p_l.length cp1), (3, .int .i64 s2), (4, .pointer (some ⟨w1.heap.size, 0, none⟩)), (5, .int .u8 bind_1), (76, .bool false)]) hf (by rw [hb20])
                  refine st tbOk 1 [0, 3, 4, 5, 76, 77] (L' := [(0, .slice ao1 p_l.length cp1), (3, .int .i64 s2), (4, .pointer (some ⟨w1.heap.size, 0, none⟩)), (5, .int .u8 bind_1), (76, .bool false), (77, .pointer (some ⟨w1.heap.size, 3, none⟩))]) hf (by kernel_rfl) ?_
                  clear hf; clear a; intro a hf
                  refine ldC tbOk (T := 63) (hs.cbx 0 rfl) (LeH.refl _) 3 (.int .u16 ((gt p_l s2).2.2.2.1)) hf (by kernel_rfl) (by kernel_rfl) (by kernel_rfl) (by kernel_rfl) ?_
                  clear hf; clear a; intro a hf
                  replace hf := Fr.keep (ks := [0, 3, 4, 5, 76, 78]) (L' := [(0, .slice ao1 p_l.length cp1), (3, .int .i64 s2), (4, .pointer (some ⟨w1.heap.size, 0, none⟩)), (5, .int .u8 bind_1), (76, .bool false), (78, .int .u16 ((gt p_l s2).2.2.2.1))]) hf (by kernel_rfl)
                  refine st tbOk 3 [0, 3, 4, 5, 81] (L' := [(0, .slice ao1 p_l.length cp1), (3, .int .i64 s2), (4, .pointer (some ⟨w1.heap.size, 0, none⟩)), (5, .int .u8 bind_1), (81, .bool (decide (((gt p_l s2).2.2.2.1) > 1)))]) hf (by kernel_rfl) ?_
                  clear hf; clear a; intro a hf
                  rcases Bool.eq_false_or_eq_true (decide (((gt p_l s2).2.2.2.1) > 1)) with hb21 | hb21
                  · replace hS := of_t hb21 hS
                    replace hf := Fr.cast (L' := [(0, .slice ao1 p_l.length cp1), (3, .int .i64 s2), (4, .pointer (some ⟨w1.heap.size, 0, none⟩)), (5, .int .u8 bind_1), (81, .bool true)]) hf (by rw [hb21])
                    refine st tbOk 4 [0, 3, 4, 5, 85] (L' := [(0, .slice ao1 p_l.length cp1), (3, .int .i64 s2), (4, .pointer (some ⟨w1.heap.size, 0, none⟩)), (5, .int .u8 bind_1), (85, .bool true)]) hf (by kernel_rfl) ?_
                    clear hf; clear a; intro a hf
                    refine wpList_nil ?_
                    exact hK5 true _ _ ⟨_, hs.sel [0, 1] rfl rfl, hf.keep (ks := [0, 3, 4, 5, 85]) (by kernel_rfl)⟩ hS
                  · replace hS := of_f hb21 hS
                    replace hf := Fr.cast (L' := [(0, .slice ao1 p_l.length cp1), (3, .int .i64 s2), (4, .pointer (some ⟨w1.heap.size, 0, none⟩)), (5, .int .u8 bind_1), (81, .bool false)]) hf (by rw [hb21])
                    refine st tbOk 1 [0, 3, 4, 5, 81, 82] (L' := [(0, .slice ao1 p_l.length cp1), (3, .int .i64 s2), (4, .pointer (some ⟨w1.heap.size, 0, none⟩)), (5, .int .u8 bind_1), (81, .bool false), (82, .pointer (some ⟨w1.heap.size, 0, none⟩))]) hf (by kernel_rfl) ?_
                    clear hf; clear a; intro a hf
                    refine ldC tbOk (T := 31) (hs.cbx 0 rfl) (LeH.refl _) 0 (.int .u32 ((gt p_l s2).1)) hf (by kernel_rfl) (by kernel_rfl) (by kernel_rfl) (by kernel_rfl) ?_
                    clear hf; clear a; intro a hf
                    replace hf := Fr.keep (ks := [0, 3, 4, 5, 81, 83]) (L' := [(0, .slice ao1 p_l.length cp1), (3, .int .i64 s2), (4, .pointer (some ⟨w1.heap.size, 0, none⟩)), (5, .int .u8 bind_1), (81, .bool false), (83, .int .u32 ((gt p_l s2).1))]) hf (by kernel_rfl)
                    refine st tbOk 2 [0, 3, 4, 5, 85] (L' := [(0, .slice ao1 p_l.length cp1), (3, .int .i64 s2), (4, .pointer (some ⟨w1.heap.size, 0, none⟩)), (5, .int .u8 bind_1), (85, .bool (((gt p_l s2).1) == 0))]) hf (by kernel_rfl) ?_
                    clear hf; clear a; intro a hf
                    refine wpList_nil ?_
                    exact hK5 (((gt p_l s2).1) == 0) _ _ ⟨_, hs.sel [0, 1] rfl rfl, hf.keep (ks := [0, 3, 4, 5, 85]) (by kernel_rfl)⟩ hS
    · replace hS := of_f hb1 hS
      refine wp_exit ?_
      exact hK1 () _ _ ⟨_, hs.sel [] rfl rfl, hf.keep (ks := []) (by kernel_rfl)⟩ hS

end Dm
