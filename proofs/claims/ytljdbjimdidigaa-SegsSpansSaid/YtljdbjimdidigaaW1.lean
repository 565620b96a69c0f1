/-
  The walks: a call of each Go function gives what its shallow form gives, where that form gives something; printed by a program of this repo. No condition.
-/
import Derived.Test.YtljdbjimdidigaaWT
import Derived.Test.YtljdbjimdidigaaW0
namespace Dm
open Go Go.RowKit Go.Proofs

set_option maxHeartbeats 4000000 in
theorem slices_ContainsFunc_api_Seg_api_Seg_within_1_ok {w : World} {F : SH} {p_s : List (Int × Int × Int × Int × Int × Int × Int)} {q_c0 : Int × Int × Int × Int × Int × Int × Int} {ao1 : Option Addr} {cp1 : Nat} {b1 : Nat} (hs : Sep w F (blks [.ro ty24 (.slice ao1 p_s.length cp1) p_s, .cel b1 0 [.int .u32 q_c0.1, .int .u32 q_c0.2.1, .int .u64 q_c0.2.2.1, .int .u64 q_c0.2.2.2.1, .int .u64 q_c0.2.2.2.2.1, .int .u64 q_c0.2.2.2.2.2.1, .int .u64 q_c0.2.2.2.2.2.2]]) w F [.ro ty24 (.slice ao1 p_s.length cp1) p_s, .cel b1 0 [.int .u32 q_c0.1, .int .u32 q_c0.2.1, .int .u64 q_c0.2.2.1, .int .u64 q_c0.2.2.2.1, .int .u64 q_c0.2.2.2.2.1, .int .u64 q_c0.2.2.2.2.2.1, .int .u64 q_c0.2.2.2.2.2.2]]) {r : Bool} (hS : slices_ContainsFunc_api_Seg_api_Seg_within_1 p_s q_c0 = some r) :
    Calls Try.prog 49 [.slice ao1 p_s.length cp1, .func (.func 50) #[] #[.pointer (some ⟨b1, 0, none⟩)]].toArray w (Gives (fun u w' => ∃ (F' : SH), u = .bool r ∧ Sep w F (blks [.ro ty24 (.slice ao1 p_s.length cp1) p_s, .cel b1 0 [.int .u32 q_c0.1, .int .u32 q_c0.2.1, .int .u64 q_c0.2.2.1, .int .u64 q_c0.2.2.2.1, .int .u64 q_c0.2.2.2.2.1, .int .u64 q_c0.2.2.2.2.2.1, .int .u64 q_c0.2.2.2.2.2.2]]) w' F' [])) := by
  generalize (blks [.ro ty24 (.slice ao1 p_s.length cp1) p_s, .cel b1 0 [.int .u32 q_c0.1, .int .u32 q_c0.2.1, .int .u64 q_c0.2.2.1, .int .u64 q_c0.2.2.2.1, .int .u64 q_c0.2.2.2.2.1, .int .u64 q_c0.2.2.2.2.2.1, .int .u64 q_c0.2.2.2.2.2.2]]) = R at hs ⊢
  unfold slices_ContainsFunc_api_Seg_api_Seg_within_1 at hS
  refine fn_ok (vs := [.slice ao1 p_s.length cp1, .func (.func 50) #[] #[.pointer (some ⟨b1, 0, none⟩)]]) Try.func49 rfl 9 Try.ntmps49 (Nat.le_of_ble_eq_true rfl) ?_
  intro a hf
  replace hf := Fr.cast (L' := [(0, .slice ao1 p_s.length cp1), (1, .func (.func 50) #[] #[.pointer (some ⟨b1, 0, none⟩)])]) hf (by kernel_rfl)
  refine sq ?_
  refine reg ?_
  refine st tbOk 1 [0, 1] (L' := [(0, .slice ao1 p_s.length cp1), (1, .func (.func 50) #[] #[.pointer (some ⟨b1, 0, none⟩)])]) hf (by kernel_rfl) ?_
  clear hf; clear a; intro a hf
  refine wpList_nil ?_
  refine sq ?_
  refine reg ?_
  refine st tbOk 2 [5, 6] (L' := [(5, .slice ao1 p_s.length cp1), (6, .func (.func 50) #[] #[.pointer (some ⟨b1, 0, none⟩)])]) hf (by kernel_rfl) ?_
  clear hf; clear a; intro a hf
  have hT := of_bd hS; clear hS; obtain ⟨z1, hz1, hS⟩ := hT
  refine clV ent39 (vs := [.slice ao1 p_s.length cp1, .func (.func 50) #[] #[.pointer (some ⟨b1, 0, none⟩)]]) (caps := []) hf (by kernel_rfl) (by kernel_rfl) (by kernel_rfl) (by kernel_rfl) (slices_IndexFunc_api_Seg_api_Seg_within_1_ok (p_s := p_s) (q_c0 := (q_c0.1, q_c0.2.1, q_c0.2.2.1, q_c0.2.2.2.1, q_c0.2.2.2.2.1, q_c0.2.2.2.2.2.1, q_c0.2.2.2.2.2.2)) (hs.enter [0, 1] rfl rfl) hz1) ?_
  clear hf; clear a; intro v w1 a hT hf; obtain ⟨F1, rfl, hr⟩ := hT
  replace hs : Sep w F R w1 F1 [.ro ty24 (.slice ao1 p_s.length cp1) p_s, .cel b1 0 [.int .u32 q_c0.1, .int .u32 q_c0.2.1, .int .u64 q_c0.2.2.1, .int .u64 q_c0.2.2.2.1, .int .u64 q_c0.2.2.2.2.1, .int .u64 q_c0.2.2.2.2.2.1, .int .u64 q_c0.2.2.2.2.2.2]] := hs.back [0, 1] [0, 1] rfl rfl rfl rfl hr
  clear hr
  replace hs : Sep w F R w1 F1 [] := hs.sel [] rfl rfl
  replace hf := Fr.keep (ks := [7]) (L' := [(7, .int .i64 z1)]) hf (by kernel_rfl)
  refine st tbOk 2 [4] (L' := [(4, .bool (decide (z1 ≥ 0)))]) hf (by kernel_rfl) ?_
  clear hf; clear a; intro a hf
  refine wpList_nil ?_
  have hr := Option.some.inj hS; subst hr
  refine wp_ret ?_
  exact ret_ok hf (vs := [.bool (decide (z1 ≥ 0))]) (by kernel_rfl) ⟨_, rfl, hs.sel [] rfl rfl⟩

set_option maxHeartbeats 4000000 in
theorem segs_within_ok {w : World} {F : SH} {p_l : List (Int × Int × Int × Int × Int × Int × Int)} {p_s : Int × Int × Int × Int × Int × Int × Int} {ao1 : Option Addr} {cp1 : Nat} (hs : Sep w F (blks [.ro ty24 (.slice ao1 p_l.length cp1) p_l]) w F [.ro ty24 (.slice ao1 p_l.length cp1) p_l]) {r : Bool} (hS : segs_within p_l p_s = some r) :
    Calls Try.prog 35 [.slice ao1 p_l.length cp1, .agg #[.int .u32 p_s.1, .int .u32 p_s.2.1, .int .u64 p_s.2.2.1, .int .u64 p_s.2.2.2.1, .int .u64 p_s.2.2.2.2.1, .int .u64 p_s.2.2.2.2.2.1, .int .u64 p_s.2.2.2.2.2.2]].toArray w (Gives (fun u w' => ∃ (F' : SH), u = .bool r ∧ Sep w F (blks [.ro ty24 (.slice ao1 p_l.length cp1) p_l]) w' F' [])) := by
  generalize (blks [.ro ty24 (.slice ao1 p_l.length cp1) p_l]) = R at hs ⊢
  unfold segs_within at hS
  refine fn_ok (vs := [.slice ao1 p_l.length cp1, .agg #[.int .u32 p_s.1, .int .u32 p_s.2.1, .int .u64 p_s.2.2.1, .int .u64 p_s.2.2.2.1, .int .u64 p_s.2.2.2.2.1, .int .u64 p_s.2.2.2.2.2.1, .int .u64 p_s.2.2.2.2.2.2]]) Try.func35 rfl 13 Try.ntmps35 (Nat.le_of_ble_eq_true rfl) ?_
  intro a hf
  replace hf := Fr.cast (L' := [(0, .slice ao1 p_l.length cp1), (1, .agg #[.int .u32 p_s.1, .int .u32 p_s.2.1, .int .u64 p_s.2.2.1, .int .u64 p_s.2.2.2.1, .int .u64 p_s.2.2.2.2.1, .int .u64 p_s.2.2.2.2.2.1, .int .u64 p_s.2.2.2.2.2.2])]) hf (by kernel_rfl)
  refine sq ?_
  refine reg ?_
  refine bx (T := 25) [.int .u32 p_s.1, .int .u32 p_s.2.1, .int .u64 p_s.2.2.1, .int .u64 p_s.2.2.2.1, .int .u64 p_s.2.2.2.2.1, .int .u64 p_s.2.2.2.2.2.1, .int .u64 p_s.2.2.2.2.2.2] (v := .agg #[.int .u32 p_s.1, .int .u32 p_s.2.1, .int .u64 p_s.2.2.1, .int .u64 p_s.2.2.2.1, .int .u64 p_s.2.2.2.2.1, .int .u64 p_s.2.2.2.2.2.1, .int .u64 p_s.2.2.2.2.2.2]) rfl (by kernel_rfl) hf (by kernel_rfl) (by kernel_rfl) (by kernel_rfl) ?_
  clear hf; clear a; intro w1 a hb hx _ hf
  replace hs : Sep w F R w1 F [.box w.heap.size 25 [.int .u32 p_s.1, .int .u32 p_s.2.1, .int .u64 p_s.2.2.1, .int .u64 p_s.2.2.2.1, .int .u64 p_s.2.2.2.2.1, .int .u64 p_s.2.2.2.2.2.1, .int .u64 p_s.2.2.2.2.2.2], .ro ty24 (.slice ao1 p_l.length cp1) p_l] := hs.newBox hb hx
  clear hb hx
  replace hf := Fr.keep (ks := [0, 3]) (L' := [(0, .slice ao1 p_l.length cp1), (3, .pointer (some ⟨w.heap.size, 0, none⟩))]) hf (by kernel_rfl)
  refine st tbOk 1 [0, 3] (L' := [(0, .slice ao1 p_l.length cp1), (3, .pointer (some ⟨w.heap.size, 0, none⟩))]) hf (by kernel_rfl) ?_
  clear hf; clear a; intro a hf
  refine wpList_nil ?_
  refine sq ?_
  refine ctj (fun (s1 : Bool) (a : Act) (w' : World) => ∃ (F1 : SH), Sep w F R w' F1 [] ∧ Fr 13 [(4, .bool s1)] a) hS ?_ ?_
  · clear hS hf hs; clear a; intro s1 a w3 hM hS
    obtain ⟨F1, hs, hf⟩ := hM
    have hr := Option.some.inj hS; subst hr
    refine wp_ret ?_
    exact ret_ok hf (vs := [.bool s1]) (by kernel_rfl) ⟨_, rfl, hs.sel [] rfl rfl⟩
  · clear hS; intro KK1 k1 hK1 hS
    refine reg ?_
    refine st tbOk 1 [0, 3, 5] (L' := [(0, .slice ao1 p_l.length cp1), (3, .pointer (some ⟨w.heap.size, 0, none⟩)), (5, .pointer (some ⟨w.heap.size, 4, none⟩))]) hf (by kernel_rfl) ?_
    clear hf; clear a; intro a hf
    refine ldC tbOk (T := 23) (hs.cbx 0 rfl) (LeH.refl _) 4 (.int .u64 p_s.2.2.2.2.1) hf (by kernel_rfl) (by kernel_rfl) (by kernel_rfl) (by kernel_rfl) ?_
    clear hf; clear a; intro a hf
    replace hf := Fr.keep (ks := [0, 3, 6]) (L' := [(0, .slice ao1 p_l.length cp1), (3, .pointer (some ⟨w.heap.size, 0, none⟩)), (6, .int .u64 p_s.2.2.2.2.1)]) hf (by kernel_rfl)
    refine st tbOk 2 [0, 3, 8] (L' := [(0, .slice ao1 p_l.length cp1), (3, .pointer (some ⟨w.heap.size, 0, none⟩)), (8, .bool (p_s.2.2.2.2.1 == 0))]) hf (by kernel_rfl) ?_
    clear hf; clear a; intro a hf
    rcases Bool.eq_false_or_eq_true (p_s.2.2.2.2.1 == 0) with hb1 | hb1
    · replace hS := of_t hb1 hS
      replace hf := Fr.cast (L' := [(0, .slice ao1 p_l.length cp1), (3, .pointer (some ⟨w.heap.size, 0, none⟩)), (8, .bool true)]) hf (by rw [hb1])
      refine st tbOk 5 [4] (L' := [(4, .bool true)]) hf (by kernel_rfl) ?_
      clear hf; clear a; intro a hf
      refine wpList_nil ?_
      exact hK1 true _ _ ⟨_, hs.sel [] rfl rfl, hf.keep (ks := [4]) (by kernel_rfl)⟩ hS
    · replace hS := of_f hb1 hS
      replace hf := Fr.cast (L' := [(0, .slice ao1 p_l.length cp1), (3, .pointer (some ⟨w.heap.size, 0, none⟩)), (8, .bool false)]) hf (by rw [hb1])
      refine st tbOk 2 [8, 9, 10] (L' := [(8, .bool false), (9, .slice ao1 p_l.length cp1), (10, .func (.func 50) #[] #[.pointer (some ⟨w.heap.size, 0, none⟩)])]) hf (by kernel_rfl) ?_
      clear hf; clear a; intro a hf
      have hT := of_bd hS; clear hS; obtain ⟨z1, hz1, hS⟩ := hT
      refine clV ent49 (vs := [.slice ao1 p_l.length cp1, .func (.func 50) #[] #[.pointer (some ⟨w.heap.size, 0, none⟩)]]) (caps := []) hf (by kernel_rfl) (by kernel_rfl) (by kernel_rfl) (by kernel_rfl) (slices_ContainsFunc_api_Seg_api_Seg_within_1_ok (p_s := p_l) (q_c0 := (p_s.1, p_s.2.1, p_s.2.2.1, p_s.2.2.2.1, p_s.2.2.2.2.1, p_s.2.2.2.2.2.1, p_s.2.2.2.2.2.2)) (hs.lend [1, 0] [] rfl rfl rfl rfl rfl) hz1) ?_
      clear hf; clear a; intro v w2 a hT hf; obtain ⟨F2, rfl, hr⟩ := hT
      replace hs : Sep w F R w2 F [.box w.heap.size 25 [.int .u32 p_s.1, .int .u32 p_s.2.1, .int .u64 p_s.2.2.1, .int .u64 p_s.2.2.2.1, .int .u64 p_s.2.2.2.2.1, .int .u64 p_s.2.2.2.2.2.1, .int .u64 p_s.2.2.2.2.2.2], .ro ty24 (.slice ao1 p_l.length cp1) p_l] := hs.backL [1, 0] [] [0, 1] rfl rfl rfl rfl rfl rfl hr trivial
      clear hr
      replace hs : Sep w F R w2 F [] := hs.sel [] rfl rfl
      replace hf := Fr.keep (ks := [8, 11]) (L' := [(8, .bool false), (11, .bool z1)]) hf (by kernel_rfl)
      refine st tbOk 2 [4] (L' := [(4, .bool z1)]) hf (by kernel_rfl) ?_
      clear hf; clear a; intro a hf
      refine wpList_nil ?_
      exact hK1 z1 _ _ ⟨_, hs.sel [] rfl rfl, hf.keep (ks := [4]) (by kernel_rfl)⟩ hS

set_option maxHeartbeats 4000000 in
theorem segs_Check_ok {w : World} {F : SH} {p_l : List (Int × Int × Int × Int × Int × Int × Int)} {size : Int} {ao1 : Option Addr} {cp1 : Nat} (hs : Sep w F (blks [.ro ty24 (.slice ao1 p_l.length cp1) p_l]) w F [.ro ty24 (.slice ao1 p_l.length cp1) p_l]) {r : Int} (hS : segs_Check p_l size = some r) :
    Calls Try.prog 18 [.slice ao1 p_l.length cp1, .int .u64 size].toArray w (Gives (fun u w' => ∃ (F' : SH), u = .int .i64 r ∧ Sep w F (blks [.ro ty24 (.slice ao1 p_l.length cp1) p_l]) w' F' [])) := by
  generalize (blks [.ro ty24 (.slice ao1 p_l.length cp1) p_l]) = R at hs ⊢
  unfold segs_Check at hS
  refine fn_ok (vs := [.slice ao1 p_l.length cp1, .int .u64 size]) Try.func18 rfl 70 Try.ntmps18 (Nat.le_of_ble_eq_true rfl) ?_
  intro a hf
  replace hf := Fr.cast (L' := [(0, .slice ao1 p_l.length cp1), (1, .int .u64 size)]) hf (by kernel_rfl)
  refine sq ?_
  refine reg ?_
  refine st tbOk 1 [0, 1] (L' := [(0, .slice ao1 p_l.length cp1), (1, .int .u64 size)]) hf (by kernel_rfl) ?_
  clear hf; clear a; intro a hf
  refine wpList_nil ?_
  refine sq ?_
  refine reg ?_
  refine st tbOk 1 [0, 1, 5] (L' := [(0, .slice ao1 p_l.length cp1), (1, .int .u64 size), (5, .int .u64 0)]) hf (by kernel_rfl) ?_
  clear hf; clear a; intro a hf
  refine wpList_nil ?_
  refine sq ?_
  refine sq ?_
  refine reg ?_
  refine st tbOk 3 [0, 1, 5, 15, 16, 17] (L' := [(0, .slice ao1 p_l.length cp1), (1, .int .u64 size), (5, .int .u64 0), (15, .slice ao1 p_l.length cp1), (16, .int .i64 ((p_l.length : Nat) : Int)), (17, .int .i64 0)]) hf (by kernel_rfl) ?_
  clear hf; clear a; intro a hf
  refine wpList_nil ?_
  refine ctj (fun (s1 : Unit) (a : Act) (w' : World) => ∃ (F1 : SH), Sep w F R w' F1 [.ro ty24 (.slice ao1 p_l.length cp1) p_l] ∧ Fr 70 [(0, .slice ao1 p_l.length cp1)] a) hS ?_ ?_
  · clear hS hf hs; clear a; intro s1 a w14 hM hS
    obtain ⟨F1, hs, hf⟩ := hM
    refine sq ?_
    refine sq ?_
    refine reg ?_
    refine st tbOk 3 [0, 55, 56, 57] (L' := [(0, .slice ao1 p_l.length cp1), (55, .slice ao1 p_l.length cp1), (56, .int .i64 ((p_l.length : Nat) : Int)), (57, .int .i64 0)]) hf (by kernel_rfl) ?_
    clear hf; clear a; intro a hf
    refine wpList_nil ?_
    refine ctj (fun (s6 : Unit) (a : Act) (w' : World) => ∃ (F10 : SH), Sep w F R w' F10 [] ∧ Fr 70 [] a) hS ?_ ?_
    · clear hS hf hs; clear a; intro s6 a w21 hM hS
      obtain ⟨F10, hs, hf⟩ := hM
      refine sq ?_
      refine reg ?_
      refine st tbOk 1 [4] (L' := [(4, .int .i64 0)]) hf (by kernel_rfl) ?_
      clear hf; clear a; intro a hf
      refine wpList_nil ?_
      have hr := Option.some.inj hS; subst hr
      refine wp_ret ?_
      exact ret_ok hf (vs := [.int .i64 0]) (by kernel_rfl) ⟨_, rfl, hs.sel [] rfl rfl⟩
    · clear hS; intro KK6 k5 hK6 hS
      refine blk ?_
      refine lp (st := 0) (fun (s7 : Int) (a : Act) (w' : World) => ∃ (F11 : SH), Sep w F R w' F11 [.ro ty24 (.slice ao1 p_l.length cp1) p_l] ∧ Fr 70 [(0, .slice ao1 p_l.length cp1), (55, .slice ao1 p_l.length cp1), (56, .int .i64 ((p_l.length : Nat) : Int)), (57, .int .i64 s7)] a) ?_ ⟨_, hs.sel [0] rfl rfl, hf.keep (ks := [0, 55, 56, 57]) (by kernel_rfl)⟩ hS
      clear hS hf hs; clear a
      intro rec2 KK7 hK7 s7 a w15 hM hS
      obtain ⟨F11, hs, hf⟩ := hM
      refine sq ?_
      refine reg ?_
      refine st tbOk 1 [0, 55, 56, 57, 58] (L' := [(0, .slice ao1 p_l.length cp1), (55, .slice ao1 p_l.length cp1), (56, .int .i64 ((p_l.length : Nat) : Int)), (57, .int .i64 s7), (58, .bool (decide (s7 < ((p_l.length : Nat) : Int))))]) hf (by kernel_rfl) ?_
      clear hf; clear a; intro a hf
      refine wpList_nil ?_
      refine sq ?_
      refine cnd (b := decide (s7 < ((p_l.length : Nat) : Int))) hf (by kernel_rfl) (fun hb7 => ?_) (fun hb7 => ?_)
      · replace hS := of_t hb7 hS
        refine wp_skip ?_
        refine sq ?_
        refine blk ?_
        refine sq ?_
        refine reg ?_
        have hT := of_gd hS; clear hS; obtain ⟨hc3, hS⟩ := hT
        refine ixR tbOk u33 i25 rfl rfl ((hs.ro 0 rfl).ra (LeH.refl _)) (k := .i64) (n := s7) hc3 hf (by kernel_rfl) (by kernel_rfl) (by kernel_rfl) (by kernel_rfl) ?_
        clear hf; clear a; intro pb2 po2 c2 a hp2 hr3 hf
        obtain rfl : c2 = [.int .u32 ((gt p_l s7).1), .int .u32 ((gt p_l s7).2.1), .int .u64 ((gt p_l s7).2.2.1), .int .u64 ((gt p_l s7).2.2.2.1), .int .u64 ((gt p_l s7).2.2.2.2.1), .int .u64 ((gt p_l s7).2.2.2.2.2.1), .int .u64 ((gt p_l s7).2.2.2.2.2.2)] := hr3
        replace hs : Sep w F R w15 F11 [.cel pb2 po2 [.int .u32 ((gt p_l s7).1), .int .u32 ((gt p_l s7).2.1), .int .u64 ((gt p_l s7).2.2.1), .int .u64 ((gt p_l s7).2.2.2.1), .int .u64 ((gt p_l s7).2.2.2.2.1), .int .u64 ((gt p_l s7).2.2.2.2.2.1), .int .u64 ((gt p_l s7).2.2.2.2.2.2)], .ro ty24 (.slice ao1 p_l.length cp1) p_l] := hs.addCel hp2
        replace hf := Fr.keep (ks := [0, 55, 56, 57, 59]) (L' := [(0, .slice ao1 p_l.length cp1), (55, .slice ao1 p_l.length cp1), (56, .int .i64 ((p_l.length : Nat) : Int)), (57, .int .i64 s7), (59, .pointer (some ⟨pb2, po2, none⟩))]) hf (by kernel_rfl)
        refine ldC tbOk (T := 25) (hs.ccel 0 rfl) (LeH.refl _) 0 (.agg #[.int .u32 ((gt p_l s7).1), .int .u32 ((gt p_l s7).2.1), .int .u64 ((gt p_l s7).2.2.1), .int .u64 ((gt p_l s7).2.2.2.1), .int .u64 ((gt p_l s7).2.2.2.2.1), .int .u64 ((gt p_l s7).2.2.2.2.2.1), .int .u64 ((gt p_l s7).2.2.2.2.2.2)]) hf (by kernel_rfl) (by kernel_rfl) (by kernel_rfl) (by kernel_rfl) ?_
        clear hf; clear a; intro a hf
        replace hs : Sep w F R w15 F11 [.ro ty24 (.slice ao1 p_l.length cp1) p_l] := hs.sel [1] rfl rfl
        replace hf := Fr.keep (ks := [0, 55, 56, 57, 60]) (L' := [(0, .slice ao1 p_l.length cp1), (55, .slice ao1 p_l.length cp1), (56, .int .i64 ((p_l.length : Nat) : Int)), (57, .int .i64 s7), (60, .agg #[.int .u32 ((gt p_l s7).1), .int .u32 ((gt p_l s7).2.1), .int .u64 ((gt p_l s7).2.2.1), .int .u64 ((gt p_l s7).2.2.2.1), .int .u64 ((gt p_l s7).2.2.2.2.1), .int .u64 ((gt p_l s7).2.2.2.2.2.1), .int .u64 ((gt p_l s7).2.2.2.2.2.2)])]) hf (by kernel_rfl)
        refine al tbOk i25 [.int .u32 0, .int .u32 0, .int .u64 0, .int .u64 0, .int .u64 0, .int .u64 0, .int .u64 0] rfl (by kernel_rfl) hf (by kernel_rfl) (by kernel_rfl) ?_
        clear hf; clear a; intro w16 a hb hx _ hf
        replace hs : Sep w F R w16 F11 [.box w15.heap.size 25 [.int .u32 0, .int .u32 0, .int .u64 0, .int .u64 0, .int .u64 0, .int .u64 0, .int .u64 0], .ro ty24 (.slice ao1 p_l.length cp1) p_l] := hs.newBox hb hx
        clear hb hx
        replace hf := Fr.keep (ks := [0, 14, 55, 56, 57, 60]) (L' := [(0, .slice ao1 p_l.length cp1), (14, .pointer (some ⟨w15.heap.size, 0, none⟩)), (55, .slice ao1 p_l.length cp1), (56, .int .i64 ((p_l.length : Nat) : Int)), (57, .int .i64 s7), (60, .agg #[.int .u32 ((gt p_l s7).1), .int .u32 ((gt p_l s7).2.1), .int .u64 ((gt p_l s7).2.2.1), .int .u64 ((gt p_l s7).2.2.2.1), .int .u64 ((gt p_l s7).2.2.2.2.1), .int .u64 ((gt p_l s7).2.2.2.2.2.1), .int .u64 ((gt p_l s7).2.2.2.2.2.2)])]) hf (by kernel_rfl)
        refine stB tbOk i25 (hs.bx 0 rfl) 0 [.int .u32 ((gt p_l s7).1), .int .u32 ((gt p_l s7).2.1), .int .u64 ((gt p_l s7).2.2.1), .int .u64 ((gt p_l s7).2.2.2.1), .int .u64 ((gt p_l s7).2.2.2.2.1), .int .u64 ((gt p_l s7).2.2.2.2.2.1), .int .u64 ((gt p_l s7).2.2.2.2.2.2)] [.int .u32 ((gt p_l s7).1), .int .u32 ((gt p_l s7).2.1), .int .u64 ((gt p_l s7).2.2.1), .int .u64 ((gt p_l s7).2.2.2.1), .int .u64 ((gt p_l s7).2.2.2.2.1), .int .u64 ((gt p_l s7).2.2.2.2.2.1), .int .u64 ((gt p_l s7).2.2.2.2.2.2)] (v := .agg #[.int .u32 ((gt p_l s7).1), .int .u32 ((gt p_l s7).2.1), .int .u64 ((gt p_l s7).2.2.1), .int .u64 ((gt p_l s7).2.2.2.1), .int .u64 ((gt p_l s7).2.2.2.2.1), .int .u64 ((gt p_l s7).2.2.2.2.2.1), .int .u64 ((gt p_l s7).2.2.2.2.2.2)]) rfl rfl (by kernel_rfl) (by kernel_rfl) (by kernel_rfl) (by kernel_rfl) hf (by kernel_rfl) (by kernel_rfl) (by kernel_rfl) ?_
        clear hf; clear a; intro w17 a hb hg _ hf
        replace hs : Sep w F R w17 F11 [.box w15.heap.size 25 [.int .u32 ((gt p_l s7).1), .int .u32 ((gt p_l s7).2.1), .int .u64 ((gt p_l s7).2.2.1), .int .u64 ((gt p_l s7).2.2.2.1), .int .u64 ((gt p_l s7).2.2.2.2.1), .int .u64 ((gt p_l s7).2.2.2.2.2.1), .int .u64 ((gt p_l s7).2.2.2.2.2.2)], .ro ty24 (.slice ao1 p_l.length cp1) p_l] := hs.updBox 0 rfl hb hg
        clear hb hg
        replace hf := Fr.keep (ks := [0, 14, 55, 56, 57]) (L' := [(0, .slice ao1 p_l.length cp1), (14, .pointer (some ⟨w15.heap.size, 0, none⟩)), (55, .slice ao1 p_l.length cp1), (56, .int .i64 ((p_l.length : Nat) : Int)), (57, .int .i64 s7)]) hf (by kernel_rfl)
        refine wpList_nil ?_
        refine sq ?_
        refine ctj (fun (s8 : Bool) (a : Act) (w' : World) => ∃ (F12 : SH), Sep w F R w' F12 [.ro ty24 (.slice ao1 p_l.length cp1) p_l] ∧ Fr 70 [(0, .slice ao1 p_l.length cp1), (55, .slice ao1 p_l.length cp1), (56, .int .i64 ((p_l.length : Nat) : Int)), (57, .int .i64 s7), (68, .bool s8)] a) hS ?_ ?_
        · clear hS hf hs; clear a; intro s8 a w20 hM hS
          obtain ⟨F12, hs, hf⟩ := hM
          refine cnd (b := s8) hf (by kernel_rfl) (fun hb9 => ?_) (fun hb9 => ?_)
          · replace hS := of_t hb9 hS
            refine sq ?_
            refine reg ?_
            refine st tbOk 1 [4] (L' := [(4, .int .i64 11)]) hf (by kernel_rfl) ?_
            clear hf; clear a; intro a hf
            refine wpList_nil ?_
            have hr := Option.some.inj hS; subst hr
            refine wp_ret ?_
            exact ret_ok hf (vs := [.int .i64 11]) (by kernel_rfl) ⟨_, rfl, hs.sel [] rfl rfl⟩
          · replace hS := of_f hb9 hS
            refine wp_skip ?_
            refine reg ?_
            refine st tbOk 2 [0, 55, 56, 57] (L' := [(0, .slice ao1 p_l.length cp1), (55, .slice ao1 p_l.length cp1), (56, .int .i64 ((p_l.length : Nat) : Int)), (57, .int .i64 (IntKind.i64.wrap (s7 + 1)))]) hf (by kernel_rfl) ?_
            clear hf; clear a; intro a hf
            refine wpList_nil ?_
            exact hK7 (IntKind.i64.wrap (s7 + 1)) _ _ ⟨_, hs.sel [0] rfl rfl, hf.keep (ks := [0, 55, 56, 57]) (by kernel_rfl)⟩ hS
        · clear hS; intro KK8 k6 hK8 hS
          refine reg ?_
          refine ldC tbOk (T := 25) (hs.cbx 0 rfl) (LeH.refl _) 0 (.agg #[.int .u32 ((gt p_l s7).1), .int .u32 ((gt p_l s7).2.1), .int .u64 ((gt p_l s7).2.2.1), .int .u64 ((gt p_l s7).2.2.2.1), .int .u64 ((gt p_l s7).2.2.2.2.1), .int .u64 ((gt p_l s7).2.2.2.2.2.1), .int .u64 ((gt p_l s7).2.2.2.2.2.2)]) hf (by kernel_rfl) (by kernel_rfl) (by kernel_rfl) (by kernel_rfl) ?_
          clear hf; clear a; intro a hf
          replace hf := Fr.keep (ks := [0, 14, 55, 56, 57, 61]) (L' := [(0, .slice ao1 p_l.length cp1), (14, .pointer (some ⟨w15.heap.size, 0, none⟩)), (55, .slice ao1 p_l.length cp1), (56, .int .i64 ((p_l.length : Nat) : Int)), (57, .int .i64 s7), (61, .agg #[.int .u32 ((gt p_l s7).1), .int .u32 ((gt p_l s7).2.1), .int .u64 ((gt p_l s7).2.2.1), .int .u64 ((gt p_l s7).2.2.2.1), .int .u64 ((gt p_l s7).2.2.2.2.1), .int .u64 ((gt p_l s7).2.2.2.2.2.1), .int .u64 ((gt p_l s7).2.2.2.2.2.2)])]) hf (by kernel_rfl)
          have hT := of_bd hS; clear hS; obtain ⟨z5, hz5, hS⟩ := hT
          refine clV ent33 (vs := [.agg #[.int .u32 ((gt p_l s7).1), .int .u32 ((gt p_l s7).2.1), .int .u64 ((gt p_l s7).2.2.1), .int .u64 ((gt p_l s7).2.2.2.1), .int .u64 ((gt p_l s7).2.2.2.2.1), .int .u64 ((gt p_l s7).2.2.2.2.2.1), .int .u64 ((gt p_l s7).2.2.2.2.2.2)]]) (caps := []) hf (by kernel_rfl) (by kernel_rfl) (by kernel_rfl) (by kernel_rfl) (segs_single_ok (p_s := ((gt p_l s7).1, (gt p_l s7).2.1, (gt p_l s7).2.2.1, (gt p_l s7).2.2.2.1, (gt p_l s7).2.2.2.2.1, (gt p_l s7).2.2.2.2.2.1, (gt p_l s7).2.2.2.2.2.2)) (hs.enter [] rfl rfl) hz5) ?_
          clear hf; clear a; intro v w18 a hT hf; obtain ⟨F13, rfl, hr⟩ := hT
          replace hs : Sep w F R w18 F13 [.box w15.heap.size 25 [.int .u32 ((gt p_l s7).1), .int .u32 ((gt p_l s7).2.1), .int .u64 ((gt p_l s7).2.2.1), .int .u64 ((gt p_l s7).2.2.2.1), .int .u64 ((gt p_l s7).2.2.2.2.1), .int .u64 ((gt p_l s7).2.2.2.2.2.1), .int .u64 ((gt p_l s7).2.2.2.2.2.2)], .ro ty24 (.slice ao1 p_l.length cp1) p_l] := hs.back [] [0, 1] rfl rfl rfl rfl hr
          clear hr
          replace hf := Fr.keep (ks := [0, 14, 55, 56, 57, 62]) (L' := [(0, .slice ao1 p_l.length cp1), (14, .pointer (some ⟨w15.heap.size, 0, none⟩)), (55, .slice ao1 p_l.length cp1), (56, .int .i64 ((p_l.length : Nat) : Int)), (57, .int .i64 s7), (62, .bool z5)]) hf (by kernel_rfl)
          refine st tbOk 1 [0, 14, 55, 56, 57, 63] (L' := [(0, .slice ao1 p_l.length cp1), (14, .pointer (some ⟨w15.heap.size, 0, none⟩)), (55, .slice ao1 p_l.length cp1), (56, .int .i64 ((p_l.length : Nat) : Int)), (57, .int .i64 s7), (63, .bool z5)]) hf (by kernel_rfl) ?_
          clear hf; clear a; intro a hf
          rcases Bool.eq_false_or_eq_true (z5) with hb8 | hb8
          · replace hS := of_t hb8 hS
            replace hf := Fr.cast (L' := [(0, .slice ao1 p_l.length cp1), (14, .pointer (some ⟨w15.heap.size, 0, none⟩)), (55, .slice ao1 p_l.length cp1), (56, .int .i64 ((p_l.length : Nat) : Int)), (57, .int .i64 s7), (63, .bool true)]) hf (by rw [hb8])
            refine st tbOk 1 [0, 14, 55, 56, 57, 63, 64] (L' := [(0, .slice ao1 p_l.length cp1), (14, .pointer (some ⟨w15.heap.size, 0, none⟩)), (55, .slice ao1 p_l.length cp1), (56, .int .i64 ((p_l.length : Nat) : Int)), (57, .int .i64 s7), (63, .bool true), (64, .slice ao1 p_l.length cp1)]) hf (by kernel_rfl) ?_
            clear hf; clear a; intro a hf
            refine ldC tbOk (T := 25) (hs.cbx 0 rfl) (LeH.refl _) 0 (.agg #[.int .u32 ((gt p_l s7).1), .int .u32 ((gt p_l s7).2.1), .int .u64 ((gt p_l s7).2.2.1), .int .u64 ((gt p_l s7).2.2.2.1), .int .u64 ((gt p_l s7).2.2.2.2.1), .int .u64 ((gt p_l s7).2.2.2.2.2.1), .int .u64 ((gt p_l s7).2.2.2.2.2.2)]) hf (by kernel_rfl) (by kernel_rfl) (by kernel_rfl) (by kernel_rfl) ?_
            clear hf; clear a; intro a hf
            replace hs : Sep w F R w18 F13 [.ro ty24 (.slice ao1 p_l.length cp1) p_l] := hs.sel [1] rfl rfl
            replace hf := Fr.keep (ks := [0, 55, 56, 57, 63, 64, 65]) (L' := [(0, .slice ao1 p_l.length cp1), (55, .slice ao1 p_l.length cp1), (56, .int .i64 ((p_l.length : Nat) : Int)), (57, .int .i64 s7), (63, .bool true), (64, .slice ao1 p_l.length cp1), (65, .agg #[.int .u32 ((gt p_l s7).1), .int .u32 ((gt p_l s7).2.1), .int .u64 ((gt p_l s7).2.2.1), .int .u64 ((gt p_l s7).2.2.2.1), .int .u64 ((gt p_l s7).2.2.2.2.1), .int .u64 ((gt p_l s7).2.2.2.2.2.1), .int .u64 ((gt p_l s7).2.2.2.2.2.2)])]) hf (by kernel_rfl)
            have hT := of_bd hS; clear hS; obtain ⟨z6, hz6, hS⟩ := hT
            refine clV ent35 (vs := [.slice ao1 p_l.length cp1, .agg #[.int .u32 ((gt p_l s7).1), .int .u32 ((gt p_l s7).2.1), .int .u64 ((gt p_l s7).2.2.1), .int .u64 ((gt p_l s7).2.2.2.1), .int .u64 ((gt p_l s7).2.2.2.2.1), .int .u64 ((gt p_l s7).2.2.2.2.2.1), .int .u64 ((gt p_l s7).2.2.2.2.2.2)]]) (caps := []) hf (by kernel_rfl) (by kernel_rfl) (by kernel_rfl) (by kernel_rfl) (segs_within_ok (p_l := p_l) (p_s := ((gt p_l s7).1, (gt p_l s7).2.1, (gt p_l s7).2.2.1, (gt p_l s7).2.2.2.1, (gt p_l s7).2.2.2.2.1, (gt p_l s7).2.2.2.2.2.1, (gt p_l s7).2.2.2.2.2.2)) (hs.enter [0] rfl rfl) hz6) ?_
            clear hf; clear a; intro v w19 a hT hf; obtain ⟨F14, rfl, hr⟩ := hT
            replace hs : Sep w F R w19 F14 [.ro ty24 (.slice ao1 p_l.length cp1) p_l] := hs.back [0] [0] rfl rfl rfl rfl hr
            clear hr
            replace hf := Fr.keep (ks := [0, 55, 56, 57, 63, 66]) (L' := [(0, .slice ao1 p_l.length cp1), (55, .slice ao1 p_l.length cp1), (56, .int .i64 ((p_l.length : Nat) : Int)), (57, .int .i64 s7), (63, .bool true), (66, .bool z6)]) hf (by kernel_rfl)
            refine st tbOk 2 [0, 55, 56, 57, 68] (L' := [(0, .slice ao1 p_l.length cp1), (55, .slice ao1 p_l.length cp1), (56, .int .i64 ((p_l.length : Nat) : Int)), (57, .int .i64 s7), (68, .bool (!z6))]) hf (by kernel_rfl) ?_
            clear hf; clear a; intro a hf
            refine wpList_nil ?_
            exact hK8 (!z6) _ _ ⟨_, hs.sel [0] rfl rfl, hf.keep (ks := [0, 55, 56, 57, 68]) (by kernel_rfl)⟩ hS
          · replace hS := of_f hb8 hS
            replace hf := Fr.cast (L' := [(0, .slice ao1 p_l.length cp1), (14, .pointer (some ⟨w15.heap.size, 0, none⟩)), (55, .slice ao1 p_l.length cp1), (56, .int .i64 ((p_l.length : Nat) : Int)), (57, .int .i64 s7), (63, .bool false)]) hf (by rw [hb8])
            refine st tbOk 5 [0, 55, 56, 57, 68] (L' := [(0, .slice ao1 p_l.length cp1), (55, .slice ao1 p_l.length cp1), (56, .int .i64 ((p_l.length : Nat) : Int)), (57, .int .i64 s7), (68, .bool false)]) hf (by kernel_rfl) ?_
            clear hf; clear a; intro a hf
            refine wpList_nil ?_
            exact hK8 false _ _ ⟨_, hs.sel [1] rfl rfl, hf.keep (ks := [0, 55, 56, 57, 68]) (by kernel_rfl)⟩ hS
      · replace hS := of_f hb7 hS
        refine wp_exit ?_
        exact hK6 () _ _ ⟨_, hs.sel [] rfl rfl, hf.keep (ks := []) (by kernel_rfl)⟩ hS
  · clear hS; intro KK1 k1 hK1 hS
    refine blk ?_
    refine lp (st := (0, 0)) (fun (s2 : Int × Int) (a : Act) (w' : World) => ∃ (F2 : SH), Sep w F R w' F2 [.ro ty24 (.slice ao1 p_l.length cp1) p_l] ∧ Fr 70 [(0, .slice ao1 p_l.length cp1), (1, .int .u64 size), (5, .int .u64 s2.1), (15, .slice ao1 p_l.length cp1), (16, .int .i64 ((p_l.length : Nat) : Int)), (17, .int .i64 s2.2)] a) ?_ ⟨_, hs.sel [0] rfl rfl, hf.keep (ks := [0, 1, 5, 15, 16, 17]) (by kernel_rfl)⟩ hS
    clear hS hf hs; clear a
    intro rec1 KK2 hK2 s2 a w1 hM hS
    obtain ⟨F2, hs, hf⟩ := hM
    refine sq ?_
    refine reg ?_
    refine st tbOk 1 [0, 1, 5, 15, 16, 17, 18] (L' := [(0, .slice ao1 p_l.length cp1), (1, .int .u64 size), (5, .int .u64 s2.1), (15, .slice ao1 p_l.length cp1), (16, .int .i64 ((p_l.length : Nat) : Int)), (17, .int .i64 s2.2), (18, .bool (decide (s2.2 < ((p_l.length : Nat) : Int))))]) hf (by kernel_rfl) ?_
    clear hf; clear a; intro a hf
    refine wpList_nil ?_
    refine sq ?_
    refine cnd (b := decide (s2.2 < ((p_l.length : Nat) : Int))) hf (by kernel_rfl) (fun hb1 => ?_) (fun hb1 => ?_)
    · replace hS := of_t hb1 hS
      refine wp_skip ?_
      refine sq ?_
      refine ctj (fun (s3 : Int) (a : Act) (w' : World) => ∃ (F3 : SH), Sep w F R w' F3 [.ro ty24 (.slice ao1 p_l.length cp1) p_l] ∧ Fr 70 [(0, .slice ao1 p_l.length cp1), (1, .int .u64 size), (5, .int .u64 s3), (15, .slice ao1 p_l.length cp1), (16, .int .i64 ((p_l.length : Nat) : Int)), (17, .int .i64 s2.2)] a) hS ?_ ?_
      · clear hS hf hs; clear a; intro s3 a w13 hM hS
        obtain ⟨F3, hs, hf⟩ := hM
        refine reg ?_
        refine st tbOk 2 [0, 1, 5, 15, 16, 17] (L' := [(0, .slice ao1 p_l.length cp1), (1, .int .u64 size), (5, .int .u64 s3), (15, .slice ao1 p_l.length cp1), (16, .int .i64 ((p_l.length : Nat) : Int)), (17, .int .i64 (IntKind.i64.wrap (s2.2 + 1)))]) hf (by kernel_rfl) ?_
        clear hf; clear a; intro a hf
        refine wpList_nil ?_
        exact hK2 (s3, IntKind.i64.wrap (s2.2 + 1)) _ _ ⟨_, hs.sel [0] rfl rfl, hf.keep (ks := [0, 1, 5, 15, 16, 17]) (by kernel_rfl)⟩ hS
      · clear hS; intro KK3 k2 hK3 hS
        refine blk ?_
        refine sq ?_
        refine reg ?_
        refine st tbOk 1 [0, 1, 5, 15, 16, 17, 19] (L' := [(0, .slice ao1 p_l.length cp1), (1, .int .u64 size), (5, .int .u64 s2.1), (15, .slice ao1 p_l.length cp1), (16, .int .i64 ((p_l.length : Nat) : Int)), (17, .int .i64 s2.2), (19, .int .i64 s2.2)]) hf (by kernel_rfl) ?_
        clear hf; clear a; intro a hf
        have hT := of_gd hS; clear hS; obtain ⟨hc1, hS⟩ := hT
        refine ixR tbOk u33 i25 rfl rfl ((hs.ro 0 rfl).ra (LeH.refl _)) (k := .i64) (n := s2.2) hc1 hf (by kernel_rfl) (by kernel_rfl) (by kernel_rfl) (by kernel_rfl) ?_
        clear hf; clear a; intro pb1 po1 c1 a hp1 hr1 hf
        obtain rfl : c1 = [.int .u32 ((gt p_l s2.2).1), .int .u32 ((gt p_l s2.2).2.1), .int .u64 ((gt p_l s2.2).2.2.1), .int .u64 ((gt p_l s2.2).2.2.2.1), .int .u64 ((gt p_l s2.2).2.2.2.2.1), .int .u64 ((gt p_l s2.2).2.2.2.2.2.1), .int .u64 ((gt p_l s2.2).2.2.2.2.2.2)] := hr1
        replace hs : Sep w F R w1 F2 [.cel pb1 po1 [.int .u32 ((gt p_l s2.2).1), .int .u32 ((gt p_l s2.2).2.1), .int .u64 ((gt p_l s2.2).2.2.1), .int .u64 ((gt p_l s2.2).2.2.2.1), .int .u64 ((gt p_l s2.2).2.2.2.2.1), .int .u64 ((gt p_l s2.2).2.2.2.2.2.1), .int .u64 ((gt p_l s2.2).2.2.2.2.2.2)], .ro ty24 (.slice ao1 p_l.length cp1) p_l] := hs.addCel hp1
        replace hf := Fr.keep (ks := [0, 1, 5, 15, 16, 17, 19, 20]) (L' := [(0, .slice ao1 p_l.length cp1), (1, .int .u64 size), (5, .int .u64 s2.1), (15, .slice ao1 p_l.length cp1), (16, .int .i64 ((p_l.length : Nat) : Int)), (17, .int .i64 s2.2), (19, .int .i64 s2.2), (20, .pointer (some ⟨pb1, po1, none⟩))]) hf (by kernel_rfl)
        refine ldC tbOk (T := 25) (hs.ccel 0 rfl) (LeH.refl _) 0 (.agg #[.int .u32 ((gt p_l s2.2).1), .int .u32 ((gt p_l s2.2).2.1), .int .u64 ((gt p_l s2.2).2.2.1), .int .u64 ((gt p_l s2.2).2.2.2.1), .int .u64 ((gt p_l s2.2).2.2.2.2.1), .int .u64 ((gt p_l s2.2).2.2.2.2.2.1), .int .u64 ((gt p_l s2.2).2.2.2.2.2.2)]) hf (by kernel_rfl) (by kernel_rfl) (by kernel_rfl) (by kernel_rfl) ?_
        clear hf; clear a; intro a hf
        replace hs : Sep w F R w1 F2 [.ro ty24 (.slice ao1 p_l.length cp1) p_l] := hs.sel [1] rfl rfl
        replace hf := Fr.keep (ks := [0, 1, 5, 15, 16, 17, 19, 21]) (L' := [(0, .slice ao1 p_l.length cp1), (1, .int .u64 size), (5, .int .u64 s2.1), (15, .slice ao1 p_l.length cp1), (16, .int .i64 ((p_l.length : Nat) : Int)), (17, .int .i64 s2.2), (19, .int .i64 s2.2), (21, .agg #[.int .u32 ((gt p_l s2.2).1), .int .u32 ((gt p_l s2.2).2.1), .int .u64 ((gt p_l s2.2).2.2.1), .int .u64 ((gt p_l s2.2).2.2.2.1), .int .u64 ((gt p_l s2.2).2.2.2.2.1), .int .u64 ((gt p_l s2.2).2.2.2.2.2.1), .int .u64 ((gt p_l s2.2).2.2.2.2.2.2)])]) hf (by kernel_rfl)
        refine al tbOk i25 [.int .u32 0, .int .u32 0, .int .u64 0, .int .u64 0, .int .u64 0, .int .u64 0, .int .u64 0] rfl (by kernel_rfl) hf (by kernel_rfl) (by kernel_rfl) ?_
        clear hf; clear a; intro w2 a hb hx _ hf
        replace hs : Sep w F R w2 F2 [.box w1.heap.size 25 [.int .u32 0, .int .u32 0, .int .u64 0, .int .u64 0, .int .u64 0, .int .u64 0, .int .u64 0], .ro ty24 (.slice ao1 p_l.length cp1) p_l] := hs.newBox hb hx
        clear hb hx
        replace hf := Fr.keep (ks := [0, 1, 5, 7, 15, 16, 17, 19, 21]) (L' := [(0, .slice ao1 p_l.length cp1), (1, .int .u64 size), (5, .int .u64 s2.1), (7, .pointer (some ⟨w1.heap.size, 0, none⟩)), (15, .slice ao1 p_l.length cp1), (16, .int .i64 ((p_l.length : Nat) : Int)), (17, .int .i64 s2.2), (19, .int .i64 s2.2), (21, .agg #[.int .u32 ((gt p_l s2.2).1), .int .u32 ((gt p_l s2.2).2.1), .int .u64 ((gt p_l s2.2).2.2.1), .int .u64 ((gt p_l s2.2).2.2.2.1), .int .u64 ((gt p_l s2.2).2.2.2.2.1), .int .u64 ((gt p_l s2.2).2.2.2.2.2.1), .int .u64 ((gt p_l s2.2).2.2.2.2.2.2)])]) hf (by kernel_rfl)
        refine st tbOk 1 [0, 1, 5, 6, 7, 15, 16, 17, 21] (L' := [(0, .slice ao1 p_l.length cp1), (1, .int .u64 size), (5, .int .u64 s2.1), (6, .int .i64 s2.2), (7, .pointer (some ⟨w1.heap.size, 0, none⟩)), (15, .slice ao1 p_l.length cp1), (16, .int .i64 ((p_l.length : Nat) : Int)), (17, .int .i64 s2.2), (21, .agg #[.int .u32 ((gt p_l s2.2).1), .int .u32 ((gt p_l s2.2).2.1), .int .u64 ((gt p_l s2.2).2.2.1), .int .u64 ((gt p_l s2.2).2.2.2.1), .int .u64 ((gt p_l s2.2).2.2.2.2.1), .int .u64 ((gt p_l s2.2).2.2.2.2.2.1), .int .u64 ((gt p_l s2.2).2.2.2.2.2.2)])]) hf (by kernel_rfl) ?_
        clear hf; clear a; intro a hf
        refine stB tbOk i25 (hs.bx 0 rfl) 0 [.int .u32 ((gt p_l s2.2).1), .int .u32 ((gt p_l s2.2).2.1), .int .u64 ((gt p_l s2.2).2.2.1), .int .u64 ((gt p_l s2.2).2.2.2.1), .int .u64 ((gt p_l s2.2).2.2.2.2.1), .int .u64 ((gt p_l s2.2).2.2.2.2.2.1), .int .u64 ((gt p_l s2.2).2.2.2.2.2.2)] [.int .u32 ((gt p_l s2.2).1), .int .u32 ((gt p_l s2.2).2.1), .int .u64 ((gt p_l s2.2).2.2.1), .int .u64 ((gt p_l s2.2).2.2.2.1), .int .u64 ((gt p_l s2.2).2.2.2.2.1), .int .u64 ((gt p_l s2.2).2.2.2.2.2.1), .int .u64 ((gt p_l s2.2).2.2.2.2.2.2)] (v := .agg #[.int .u32 ((gt p_l s2.2).1), .int .u32 ((gt p_l s2.2).2.1), .int .u64 ((gt p_l s2.2).2.2.1), .int .u64 ((gt p_l s2.2).2.2.2.1), .int .u64 ((gt p_l s2.2).2.2.2.2.1), .int .u64 ((gt p_l s2.2).2.2.2.2.2.1), .int .u64 ((gt p_l s2.2).2.2.2.2.2.2)]) rfl rfl (by kernel_rfl) (by kernel_rfl) (by kernel_rfl) (by kernel_rfl) hf (by kernel_rfl) (by kernel_rfl) (by kernel_rfl) ?_
        clear hf; clear a; intro w3 a hb hg _ hf
        replace hs : Sep w F R w3 F2 [.box w1.heap.size 25 [.int .u32 ((gt p_l s2.2).1), .int .u32 ((gt p_l s2.2).2.1), .int .u64 ((gt p_l s2.2).2.2.1), .int .u64 ((gt p_l s2.2).2.2.2.1), .int .u64 ((gt p_l s2.2).2.2.2.2.1), .int .u64 ((gt p_l s2.2).2.2.2.2.2.1), .int .u64 ((gt p_l s2.2).2.2.2.2.2.2)], .ro ty24 (.slice ao1 p_l.length cp1) p_l] := hs.updBox 0 rfl hb hg
        clear hb hg
        replace hf := Fr.keep (ks := [0, 1, 5, 6, 7, 15, 16, 17]) (L' := [(0, .slice ao1 p_l.length cp1), (1, .int .u64 size), (5, .int .u64 s2.1), (6, .int .i64 s2.2), (7, .pointer (some ⟨w1.heap.size, 0, none⟩)), (15, .slice ao1 p_l.length cp1), (16, .int .i64 ((p_l.length : Nat) : Int)), (17, .int .i64 s2.2)]) hf (by kernel_rfl)
        refine wpList_nil ?_
        refine sq ?_
        refine sq ?_
        refine reg ?_
        refine ldC tbOk (T := 25) (hs.cbx 0 rfl) (LeH.refl _) 0 (.agg #[.int .u32 ((gt p_l s2.2).1), .int .u32 ((gt p_l s2.2).2.1), .int .u64 ((gt p_l s2.2).2.2.1), .int .u64 ((gt p_l s2.2).2.2.2.1), .int .u64 ((gt p_l s2.2).2.2.2.2.1), .int .u64 ((gt p_l s2.2).2.2.2.2.2.1), .int .u64 ((gt p_l s2.2).2.2.2.2.2.2)]) hf (by kernel_rfl) (by kernel_rfl) (by kernel_rfl) (by kernel_rfl) ?_
        clear hf; clear a; intro a hf
        replace hf := Fr.keep (ks := [0, 1, 5, 6, 7, 15, 16, 17, 22]) (L' := [(0, .slice ao1 p_l.length cp1), (1, .int .u64 size), (5, .int .u64 s2.1), (6, .int .i64 s2.2), (7, .pointer (some ⟨w1.heap.size, 0, none⟩)), (15, .slice ao1 p_l.length cp1), (16, .int .i64 ((p_l.length : Nat) : Int)), (17, .int .i64 s2.2), (22, .agg #[.int .u32 ((gt p_l s2.2).1), .int .u32 ((gt p_l s2.2).2.1), .int .u64 ((gt p_l s2.2).2.2.1), .int .u64 ((gt p_l s2.2).2.2.2.1), .int .u64 ((gt p_l s2.2).2.2.2.2.1), .int .u64 ((gt p_l s2.2).2.2.2.2.2.1), .int .u64 ((gt p_l s2.2).2.2.2.2.2.2)])]) hf (by kernel_rfl)
        refine st tbOk 1 [0, 1, 5, 6, 7, 15, 16, 17, 22, 23] (L' := [(0, .slice ao1 p_l.length cp1), (1, .int .u64 size), (5, .int .u64 s2.1), (6, .int .i64 s2.2), (7, .pointer (some ⟨w1.heap.size, 0, none⟩)), (15, .slice ao1 p_l.length cp1), (16, .int .i64 ((p_l.length : Nat) : Int)), (17, .int .i64 s2.2), (22, .agg #[.int .u32 ((gt p_l s2.2).1), .int .u32 ((gt p_l s2.2).2.1), .int .u64 ((gt p_l s2.2).2.2.1), .int .u64 ((gt p_l s2.2).2.2.2.1), .int .u64 ((gt p_l s2.2).2.2.2.2.1), .int .u64 ((gt p_l s2.2).2.2.2.2.2.1), .int .u64 ((gt p_l s2.2).2.2.2.2.2.2)]), (23, .int .u64 size)]) hf (by kernel_rfl) ?_
        clear hf; clear a; intro a hf
        have hT := of_bd hS; clear hS; obtain ⟨z1, hz1, hS⟩ := hT
        refine clV ent32 (vs := [.agg #[.int .u32 ((gt p_l s2.2).1), .int .u32 ((gt p_l s2.2).2.1), .int .u64 ((gt p_l s2.2).2.2.1), .int .u64 ((gt p_l s2.2).2.2.2.1), .int .u64 ((gt p_l s2.2).2.2.2.2.1), .int .u64 ((gt p_l s2.2).2.2.2.2.2.1), .int .u64 ((gt p_l s2.2).2.2.2.2.2.2)], .int .u64 size]) (caps := []) hf (by kernel_rfl) (by kernel_rfl) (by kernel_rfl) (by kernel_rfl) (segs_one_ok (p_s := ((gt p_l s2.2).1, (gt p_l s2.2).2.1, (gt p_l s2.2).2.2.1, (gt p_l s2.2).2.2.2.1, (gt p_l s2.2).2.2.2.2.1, (gt p_l s2.2).2.2.2.2.2.1, (gt p_l s2.2).2.2.2.2.2.2)) (size := size) (hs.enter [] rfl rfl) hz1) ?_
        clear hf; clear a; intro v w4 a hT hf; obtain ⟨F4, rfl, hr⟩ := hT
        replace hs : Sep w F R w4 F4 [.box w1.heap.size 25 [.int .u32 ((gt p_l s2.2).1), .int .u32 ((gt p_l s2.2).2.1), .int .u64 ((gt p_l s2.2).2.2.1), .int .u64 ((gt p_l s2.2).2.2.2.1), .int .u64 ((gt p_l s2.2).2.2.2.2.1), .int .u64 ((gt p_l s2.2).2.2.2.2.2.1), .int .u64 ((gt p_l s2.2).2.2.2.2.2.2)], .ro ty24 (.slice ao1 p_l.length cp1) p_l] := hs.back [] [0, 1] rfl rfl rfl rfl hr
        clear hr
        replace hf := Fr.keep (ks := [0, 1, 5, 6, 7, 15, 16, 17, 24]) (L' := [(0, .slice ao1 p_l.length cp1), (1, .int .u64 size), (5, .int .u64 s2.1), (6, .int .i64 s2.2), (7, .pointer (some ⟨w1.heap.size, 0, none⟩)), (15, .slice ao1 p_l.length cp1), (16, .int .i64 ((p_l.length : Nat) : Int)), (17, .int .i64 s2.2), (24, .int .i64 z1)]) hf (by kernel_rfl)
        refine st tbOk 1 [0, 1, 5, 6, 7, 8, 15, 16, 17] (L' := [(0, .slice ao1 p_l.length cp1), (1, .int .u64 size), (5, .int .u64 s2.1), (6, .int .i64 s2.2), (7, .pointer (some ⟨w1.heap.size, 0, none⟩)), (8, .int .i64 z1), (15, .slice ao1 p_l.length cp1), (16, .int .i64 ((p_l.length : Nat) : Int)), (17, .int .i64 s2.2)]) hf (by kernel_rfl) ?_
        clear hf; clear a; intro a hf
        refine wpList_nil ?_
        refine sq ?_
        refine reg ?_
        refine st tbOk 2 [0, 1, 5, 6, 7, 8, 15, 16, 17, 26] (L' := [(0, .slice ao1 p_l.length cp1), (1, .int .u64 size), (5, .int .u64 s2.1), (6, .int .i64 s2.2), (7, .pointer (some ⟨w1.heap.size, 0, none⟩)), (8, .int .i64 z1), (15, .slice ao1 p_l.length cp1), (16, .int .i64 ((p_l.length : Nat) : Int)), (17, .int .i64 s2.2), (26, .bool (z1 != 0))]) hf (by kernel_rfl) ?_
        clear hf; clear a; intro a hf
        refine wpList_nil ?_
        refine cnd (b := z1 != 0) hf (by kernel_rfl) (fun hb2 => ?_) (fun hb2 => ?_)
        · replace hS := of_t hb2 hS
          refine sq ?_
          refine reg ?_
          refine st tbOk 2 [4] (L' := [(4, .int .i64 z1)]) hf (by kernel_rfl) ?_
          clear hf; clear a; intro a hf
          refine wpList_nil ?_
          have hr := Option.some.inj hS; subst hr
          refine wp_ret ?_
          exact ret_ok hf (vs := [.int .i64 z1]) (by kernel_rfl) ⟨_, rfl, hs.sel [] rfl rfl⟩
        · replace hS := of_f hb2 hS
          refine wp_skip ?_
          refine sq ?_
          refine sq ?_
          have hT := of_gd hS; clear hS; obtain ⟨hc2, hS⟩ := hT
          have hT := of_bd hS; clear hS; obtain ⟨z2, hz2, hS⟩ := hT
          have hs0 := hs
          refine regH 10 [(8, .bool z2.2)] [fun u uw => u = .slice ao1 p_l.length cp1,
    fun u uw => u = .int .i64 s2.2,
    fun u uw => ∃ (ao3 : Option Addr) (cp3 : Nat) (F' : SH), u = .slice ao3 (cutL p_l 0 s2.2).length cp3 ∧ Sep w4 F4 noR uw F' [.ro ty24 (.slice ao3 (cutL p_l 0 s2.2).length cp3) (cutL p_l 0 s2.2)],
    fun u uw => u = .pointer (some ⟨w1.heap.size, 0, none⟩),
    fun u uw => u = .int .u32 ((gt p_l s2.2).1),
    fun u uw => u = .tuple #[.agg #[.int .u32 z2.1.1, .int .u32 z2.1.2.1, .int .u64 z2.1.2.2.1, .int .u64 z2.1.2.2.2.1, .int .u64 z2.1.2.2.2.2.1, .int .u64 z2.1.2.2.2.2.2.1, .int .u64 z2.1.2.2.2.2.2.2], .bool z2.2],
    fun u uw => u = .tuple #[.agg #[.int .u32 z2.1.1, .int .u32 z2.1.2.1, .int .u64 z2.1.2.2.1, .int .u64 z2.1.2.2.2.1, .int .u64 z2.1.2.2.2.2.1, .int .u64 z2.1.2.2.2.2.2.1, .int .u64 z2.1.2.2.2.2.2.2], .bool z2.2],
    fun u uw => u = .agg #[.int .u32 z2.1.1, .int .u32 z2.1.2.1, .int .u64 z2.1.2.2.1, .int .u64 z2.1.2.2.2.1, .int .u64 z2.1.2.2.2.2.1, .int .u64 z2.1.2.2.2.2.2.1, .int .u64 z2.1.2.2.2.2.2.2],
    fun u uw => u = .bool z2.2,
    fun u uw => ∃ (b1 : Nat) (F' : SH), u = .pointer (some ⟨b1, 0, none⟩) ∧ Sep w4 F4 noR uw F' [.box b1 25 [.int .u32 0, .int .u32 0, .int .u64 0, .int .u64 0, .int .u64 0, .int .u64 0, .int .u64 0]]] mixed (fun _ _ _ d _ h => by cases d <;> exact h) (Fr.keep (ks := [0, 1, 5, 6, 7, 8, 15, 16, 17, 26]) (L' := [(0, .slice ao1 p_l.length cp1), (1, .int .u64 size), (5, .int .u64 s2.1), (6, .int .i64 s2.2), (7, .pointer (some ⟨w1.heap.size, 0, none⟩)), (8, .int .i64 z1), (15, .slice ao1 p_l.length cp1), (16, .int .i64 ((p_l.length : Nat) : Int)), (17, .int .i64 s2.2), (26, .bool (z1 != 0))]) hf (by kernel_rfl)) (by kernel_rfl) rfl ?_ ?_ ?_ ?_
          · exact ⟨fun _ _ _ h _ => h, fun _ _ _ h _ => h, fun _ _ _ ⟨ao3, cp3, F', e, h⟩ hx => ⟨ao3, cp3, F', e, h.ext hx⟩, fun _ _ _ h _ => h, fun _ _ _ h _ => h, fun _ _ _ h _ => h, fun _ _ _ h _ => h, fun _ _ _ h _ => h, fun _ _ _ h _ => h, fun _ _ _ ⟨b1, F', e, h⟩ hx => ⟨b1, F', e, h.ext hx⟩, trivial⟩
          · clear hS hf hs; clear a
            refine ⟨?_, ?_, ?_, ?_, ?_, ?_, ?_, ?_, ?_, ?_, trivial⟩
            · intro a wf hX hf hd
              clear hd
              have hs : Sep wf (star F4 w4 wf) noR wf (star F4 w4 wf) [.ro ty24 (.slice ao1 p_l.length cp1) p_l] := hs0.fstart hX [1] rfl rfl
              refine st tbOk 1 [29] (L' := [(29, .slice ao1 p_l.length cp1)]) hf (by kernel_rfl) ?_
              clear hf; clear a; intro a hf
              exact fq_ok (d := 29) rfl hf (hs.ex fun _ h => h) hf.1
            · intro a wf hX hf hd
              clear hd
              have hs : Sep wf (star F4 w4 wf) noR wf (star F4 w4 wf) [.ro ty24 (.slice ao1 p_l.length cp1) p_l] := hs0.fstart hX [1] rfl rfl
              refine st tbOk 1 [30] (L' := [(30, .int .i64 s2.2)]) hf (by kernel_rfl) ?_
              clear hf; clear a; intro a hf
              exact fq_ok (d := 30) rfl hf (hs.ex fun _ h => h) hf.1
            · intro a wf hX hf hd
              have e_29 : a.tmps.getD 29 undef = .slice ao1 p_l.length cp1 := hd 0 29 (by kernel_rfl) (by kernel_rfl)
              have e_30 : a.tmps.getD 30 undef = .int .i64 s2.2 := hd 1 30 (by kernel_rfl) (by kernel_rfl)
              replace hf : Fr 70 [(29, .slice ao1 p_l.length cp1), (30, .int .i64 s2.2), (0, .slice ao1 p_l.length cp1), (1, .int .u64 size), (5, .int .u64 s2.1), (6, .int .i64 s2.2), (7, .pointer (some ⟨w1.heap.size, 0, none⟩)), (8, .int .i64 z1), (15, .slice ao1 p_l.length cp1), (16, .int .i64 ((p_l.length : Nat) : Int)), (17, .int .i64 s2.2), (26, .bool (z1 != 0))] a := ⟨e_29, e_30, hf⟩; clear e_29 e_30
              clear hd
              have hs : Sep wf (star F4 w4 wf) noR wf (star F4 w4 wf) [.ro ty24 (.slice ao1 p_l.length cp1) p_l] := hs0.fstart hX [1] rfl rfl
              refine sl tbOk u33 i25 rfl (hs.ro 0 rfl) (lo := 0) (hi := s2.2) (m := 0) hc2 (.inl ⟨rfl, rfl⟩) (.inr ⟨_, .i64, rfl, by kernel_rfl⟩) (.inl rfl) hf (by kernel_rfl) (by kernel_rfl) (by kernel_rfl) ?_
              clear hf; clear a; intro ao2 cp2 a hr2 hf
              replace hs : Sep wf (star F4 w4 wf) noR wf (star F4 w4 wf) [.ro ty24 (.slice ao2 (cutL p_l 0 s2.2).length cp2) (cutL p_l 0 s2.2), .ro ty24 (.slice ao1 p_l.length cp1) p_l] := hs.addRo hr2
              exact fq_ok (d := 31) rfl hf (hs.ex fun _ h => h) ⟨ao2, cp2, _, hf.1, (hs.sel [0] rfl rfl).rebase hX⟩
            · intro a wf hX hf hd
              clear hd
              have hs : Sep wf (star F4 w4 wf) noR wf (star F4 w4 wf) [.ro ty24 (.slice ao1 p_l.length cp1) p_l] := hs0.fstart hX [1] rfl rfl
              refine st tbOk 1 [32] (L' := [(32, .pointer (some ⟨w1.heap.size, 0, none⟩))]) hf (by kernel_rfl) ?_
              clear hf; clear a; intro a hf
              exact fq_ok (d := 32) rfl hf (hs.ex fun _ h => h) hf.1
            · intro a wf hX hf hd
              have e_32 : a.tmps.getD 32 undef = .pointer (some ⟨w1.heap.size, 0, none⟩) := hd 3 32 (by kernel_rfl) (by kernel_rfl)
              replace hf : Fr 70 [(32, .pointer (some ⟨w1.heap.size, 0, none⟩)), (0, .slice ao1 p_l.length cp1), (1, .int .u64 size), (5, .int .u64 s2.1), (6, .int .i64 s2.2), (7, .pointer (some ⟨w1.heap.size, 0, none⟩)), (8, .int .i64 z1), (15, .slice ao1 p_l.length cp1), (16, .int .i64 ((p_l.length : Nat) : Int)), (17, .int .i64 s2.2), (26, .bool (z1 != 0))] a := ⟨e_32, hf⟩; clear e_32
              clear hd
              have hs : Sep wf (star F4 w4 wf) noR wf (star F4 w4 wf) [.ro ty24 (.slice ao1 p_l.length cp1) p_l] := hs0.fstart hX [1] rfl rfl
              refine ldC tbOk (T := 22) ((hs0.cbx 0 rfl).mono hX.le) (LeH.refl _) 0 (.int .u32 ((gt p_l s2.2).1)) hf (by kernel_rfl) (by kernel_rfl) (by kernel_rfl) (by kernel_rfl) ?_
              clear hf; clear a; intro a hf
              exact fq_ok (d := 33) rfl hf (hs.ex fun _ h => h) hf.1
            · intro a wf hX hf hd
              obtain ⟨ao3, cp3, F_31, e_31, h_31⟩ : ∃ (ao3 : Option Addr) (cp3 : Nat) (F' : SH), a.tmps.getD 31 undef = .slice ao3 (cutL p_l 0 s2.2).length cp3 ∧ Sep w4 F4 noR wf F' [.ro ty24 (.slice ao3 (cutL p_l 0 s2.2).length cp3) (cutL p_l 0 s2.2)] := hd 2 31 (by kernel_rfl) (by kernel_rfl)
              have e_33 : a.tmps.getD 33 undef = .int .u32 ((gt p_l s2.2).1) := hd 4 33 (by kernel_rfl) (by kernel_rfl)
              replace hf : Fr 70 [(31, .slice ao3 (cutL p_l 0 s2.2).length cp3), (33, .int .u32 ((gt p_l s2.2).1)), (0, .slice ao1 p_l.length cp1), (1, .int .u64 size), (5, .int .u64 s2.1), (6, .int .i64 s2.2), (7, .pointer (some ⟨w1.heap.size, 0, none⟩)), (8, .int .i64 z1), (15, .slice ao1 p_l.length cp1), (16, .int .i64 ((p_l.length : Nat) : Int)), (17, .int .i64 s2.2), (26, .bool (z1 != 0))] a := ⟨e_31, e_33, hf⟩; clear e_31 e_33
              clear hd
              have hs : Sep wf (star F4 w4 wf) noR wf (star F4 w4 wf) [.ro ty24 (.slice ao1 p_l.length cp1) p_l] := hs0.fstart hX [1] rfl rfl
              replace hs : Sep wf (star F4 w4 wf) noR wf (star F4 w4 wf) [.ro ty24 (.slice ao3 (cutL p_l 0 s2.2).length cp3) (cutL p_l 0 s2.2), .ro ty24 (.slice ao1 p_l.length cp1) p_l] := hs.addStar h_31 0 rfl rfl
              clear h_31
              refine clV ent22 (vs := [.slice ao3 (cutL p_l 0 s2.2).length cp3, .int .u32 ((gt p_l s2.2).1)]) (caps := []) hf (by kernel_rfl) (by kernel_rfl) (by kernel_rfl) (by kernel_rfl) (segs_Find_ok (p_l := (cutL p_l 0 s2.2)) (kind := (gt p_l s2.2).1) (hs.enter [0] rfl rfl) hz2) ?_
              clear hf; clear a; intro v w5 a hT hf; obtain ⟨F5, rfl, hr⟩ := hT
              replace hs : Sep wf (star F4 w4 wf) noR w5 F5 [.ro ty24 (.slice ao3 (cutL p_l 0 s2.2).length cp3) (cutL p_l 0 s2.2), .ro ty24 (.slice ao1 p_l.length cp1) p_l] := hs.back [0] [0, 1] rfl rfl rfl rfl hr
              clear hr
              exact fq_ok (d := 34) rfl hf (hs.ex fun _ h => h) hf.1
            · intro a wf hX hf hd
              have e_34 : a.tmps.getD 34 undef = .tuple #[.agg #[.int .u32 z2.1.1, .int .u32 z2.1.2.1, .int .u64 z2.1.2.2.1, .int .u64 z2.1.2.2.2.1, .int .u64 z2.1.2.2.2.2.1, .int .u64 z2.1.2.2.2.2.2.1, .int .u64 z2.1.2.2.2.2.2.2], .bool z2.2] := hd 5 34 (by kernel_rfl) (by kernel_rfl)
              replace hf : Fr 70 [(34, .tuple #[.agg #[.int .u32 z2.1.1, .int .u32 z2.1.2.1, .int .u64 z2.1.2.2.1, .int .u64 z2.1.2.2.2.1, .int .u64 z2.1.2.2.2.2.1, .int .u64 z2.1.2.2.2.2.2.1, .int .u64 z2.1.2.2.2.2.2.2], .bool z2.2]), (0, .slice ao1 p_l.length cp1), (1, .int .u64 size), (5, .int .u64 s2.1), (6, .int .i64 s2.2), (7, .pointer (some ⟨w1.heap.size, 0, none⟩)), (8, .int .i64 z1), (15, .slice ao1 p_l.length cp1), (16, .int .i64 ((p_l.length : Nat) : Int)), (17, .int .i64 s2.2), (26, .bool (z1 != 0))] a := ⟨e_34, hf⟩; clear e_34
              clear hd
              have hs : Sep wf (star F4 w4 wf) noR wf (star F4 w4 wf) [.ro ty24 (.slice ao1 p_l.length cp1) p_l] := hs0.fstart hX [1] rfl rfl
              refine st tbOk 1 [28] (L' := [(28, .tuple #[.agg #[.int .u32 z2.1.1, .int .u32 z2.1.2.1, .int .u64 z2.1.2.2.1, .int .u64 z2.1.2.2.2.1, .int .u64 z2.1.2.2.2.2.1, .int .u64 z2.1.2.2.2.2.2.1, .int .u64 z2.1.2.2.2.2.2.2], .bool z2.2])]) hf (by kernel_rfl) ?_
              clear hf; clear a; intro a hf
              exact fq_ok (d := 28) rfl hf (hs.ex fun _ h => h) hf.1
            · intro a wf hX hf hd
              have e_28 : a.tmps.getD 28 undef = .tuple #[.agg #[.int .u32 z2.1.1, .int .u32 z2.1.2.1, .int .u64 z2.1.2.2.1, .int .u64 z2.1.2.2.2.1, .int .u64 z2.1.2.2.2.2.1, .int .u64 z2.1.2.2.2.2.2.1, .int .u64 z2.1.2.2.2.2.2.2], .bool z2.2] := hd 6 28 (by kernel_rfl) (by kernel_rfl)
              replace hf : Fr 70 [(28, .tuple #[.agg #[.int .u32 z2.1.1, .int .u32 z2.1.2.1, .int .u64 z2.1.2.2.1, .int .u64 z2.1.2.2.2.1, .int .u64 z2.1.2.2.2.2.1, .int .u64 z2.1.2.2.2.2.2.1, .int .u64 z2.1.2.2.2.2.2.2], .bool z2.2]), (0, .slice ao1 p_l.length cp1), (1, .int .u64 size), (5, .int .u64 s2.1), (6, .int .i64 s2.2), (7, .pointer (some ⟨w1.heap.size, 0, none⟩)), (8, .int .i64 z1), (15, .slice ao1 p_l.length cp1), (16, .int .i64 ((p_l.length : Nat) : Int)), (17, .int .i64 s2.2), (26, .bool (z1 != 0))] a := ⟨e_28, hf⟩; clear e_28
              clear hd
              have hs : Sep wf (star F4 w4 wf) noR wf (star F4 w4 wf) [.ro ty24 (.slice ao1 p_l.length cp1) p_l] := hs0.fstart hX [1] rfl rfl
              refine st tbOk 1 [35] (L' := [(35, .agg #[.int .u32 z2.1.1, .int .u32 z2.1.2.1, .int .u64 z2.1.2.2.1, .int .u64 z2.1.2.2.2.1, .int .u64 z2.1.2.2.2.2.1, .int .u64 z2.1.2.2.2.2.2.1, .int .u64 z2.1.2.2.2.2.2.2])]) hf (by kernel_rfl) ?_
              clear hf; clear a; intro a hf
              exact fq_ok (d := 35) rfl hf (hs.ex fun _ h => h) hf.1
            · intro a wf hX hf hd
              have e_28 : a.tmps.getD 28 undef = .tuple #[.agg #[.int .u32 z2.1.1, .int .u32 z2.1.2.1, .int .u64 z2.1.2.2.1, .int .u64 z2.1.2.2.2.1, .int .u64 z2.1.2.2.2.2.1, .int .u64 z2.1.2.2.2.2.2.1, .int .u64 z2.1.2.2.2.2.2.2], .bool z2.2] := hd 6 28 (by kernel_rfl) (by kernel_rfl)
              replace hf : Fr 70 [(28, .tuple #[.agg #[.int .u32 z2.1.1, .int .u32 z2.1.2.1, .int .u64 z2.1.2.2.1, .int .u64 z2.1.2.2.2.1, .int .u64 z2.1.2.2.2.2.1, .int .u64 z2.1.2.2.2.2.2.1, .int .u64 z2.1.2.2.2.2.2.2], .bool z2.2]), (0, .slice ao1 p_l.length cp1), (1, .int .u64 size), (5, .int .u64 s2.1), (6, .int .i64 s2.2), (7, .pointer (some ⟨w1.heap.size, 0, none⟩)), (8, .int .i64 z1), (15, .slice ao1 p_l.length cp1), (16, .int .i64 ((p_l.length : Nat) : Int)), (17, .int .i64 s2.2), (26, .bool (z1 != 0))] a := ⟨e_28, hf⟩; clear e_28
              clear hd
              have hs : Sep wf (star F4 w4 wf) noR wf (star F4 w4 wf) [.ro ty24 (.slice ao1 p_l.length cp1) p_l] := hs0.fstart hX [1] rfl rfl
              refine st tbOk 1 [36] (L' := [(36, .bool z2.2)]) hf (by kernel_rfl) ?_
              clear hf; clear a; intro a hf
              exact fq_ok (d := 36) rfl hf (hs.ex fun _ h => h) hf.1
            · intro a wf hX hf hd
              clear hd
              have hs : Sep wf (star F4 w4 wf) noR wf (star F4 w4 wf) [.ro ty24 (.slice ao1 p_l.length cp1) p_l] := hs0.fstart hX [1] rfl rfl
              refine al tbOk i25 [.int .u32 0, .int .u32 0, .int .u64 0, .int .u64 0, .int .u64 0, .int .u64 0, .int .u64 0] rfl (by kernel_rfl) hf (by kernel_rfl) (by kernel_rfl) ?_
              clear hf; clear a; intro w6 a hb hx _ hf
              replace hs : Sep wf (star F4 w4 wf) noR w6 (star F4 w4 wf) [.box wf.heap.size 25 [.int .u32 0, .int .u32 0, .int .u64 0, .int .u64 0, .int .u64 0, .int .u64 0, .int .u64 0], .ro ty24 (.slice ao1 p_l.length cp1) p_l] := hs.newBox hb hx
              clear hb hx
              exact fq_ok (d := 9) rfl hf (hs.ex fun _ h => h) ⟨wf.heap.size, _, hf.1, (hs.sel [0] rfl rfl).rebase hX⟩
          · clear hS hf hs; clear a
            refine ⟨⟨?_, fun _ => by exact rfl⟩, trivial⟩
            · intro a wf hX hf hd
              have e_28 : a.tmps.getD 28 undef = .tuple #[.agg #[.int .u32 z2.1.1, .int .u32 z2.1.2.1, .int .u64 z2.1.2.2.1, .int .u64 z2.1.2.2.2.1, .int .u64 z2.1.2.2.2.2.1, .int .u64 z2.1.2.2.2.2.2.1, .int .u64 z2.1.2.2.2.2.2.2], .bool z2.2] := hd 6 28 (by kernel_rfl) (by kernel_rfl)
              replace hf : Fr 70 [(28, .tuple #[.agg #[.int .u32 z2.1.1, .int .u32 z2.1.2.1, .int .u64 z2.1.2.2.1, .int .u64 z2.1.2.2.2.1, .int .u64 z2.1.2.2.2.2.1, .int .u64 z2.1.2.2.2.2.2.1, .int .u64 z2.1.2.2.2.2.2.2], .bool z2.2]), (0, .slice ao1 p_l.length cp1), (1, .int .u64 size), (5, .int .u64 s2.1), (6, .int .i64 s2.2), (7, .pointer (some ⟨w1.heap.size, 0, none⟩)), (8, .int .i64 z1), (15, .slice ao1 p_l.length cp1), (16, .int .i64 ((p_l.length : Nat) : Int)), (17, .int .i64 s2.2), (26, .bool (z1 != 0))] a := ⟨e_28, hf⟩; clear e_28
              clear hd
              have hs : Sep wf (star F4 w4 wf) noR wf (star F4 w4 wf) [.ro ty24 (.slice ao1 p_l.length cp1) p_l] := hs0.fstart hX [1] rfl rfl
              intro o ho
              obtain rfl := Option.some.inj ho
              exact yields_t tbOk hf (by kernel_rfl) (by kernel_rfl)
          · clear hf hs; clear a; intro a w7 hx hf hd
            obtain ⟨b1, F_9, e_9, h_9⟩ : ∃ (b1 : Nat) (F' : SH), a.tmps.getD 9 undef = .pointer (some ⟨b1, 0, none⟩) ∧ Sep w4 F4 noR w7 F' [.box b1 25 [.int .u32 0, .int .u32 0, .int .u64 0, .int .u64 0, .int .u64 0, .int .u64 0, .int .u64 0]] := hd 9 9 (by kernel_rfl) (by kernel_rfl)
            have e_35 : a.tmps.getD 35 undef = .agg #[.int .u32 z2.1.1, .int .u32 z2.1.2.1, .int .u64 z2.1.2.2.1, .int .u64 z2.1.2.2.2.1, .int .u64 z2.1.2.2.2.2.1, .int .u64 z2.1.2.2.2.2.2.1, .int .u64 z2.1.2.2.2.2.2.2] := hd 7 35 (by kernel_rfl) (by kernel_rfl)
            have e_36 : a.tmps.getD 36 undef = .bool z2.2 := hd 8 36 (by kernel_rfl) (by kernel_rfl)
            have hs : Sep w F R w7 F4 [.box b1 25 [.int .u32 0, .int .u32 0, .int .u64 0, .int .u64 0, .int .u64 0, .int .u64 0, .int .u64 0], .box w1.heap.size 25 [.int .u32 ((gt p_l s2.2).1), .int .u32 ((gt p_l s2.2).2.1), .int .u64 ((gt p_l s2.2).2.2.1), .int .u64 ((gt p_l s2.2).2.2.2.1), .int .u64 ((gt p_l s2.2).2.2.2.2.1), .int .u64 ((gt p_l s2.2).2.2.2.2.2.1), .int .u64 ((gt p_l s2.2).2.2.2.2.2.2)], .ro ty24 (.slice ao1 p_l.length cp1) p_l] := hs0.addFlat hx h_9 ⟨trivial, trivial⟩
            clear h_9
            clear hd hx
            clear hs0
            replace hf : Fr 70 [(9, .pointer (some ⟨b1, 0, none⟩)), (35, .agg #[.int .u32 z2.1.1, .int .u32 z2.1.2.1, .int .u64 z2.1.2.2.1, .int .u64 z2.1.2.2.2.1, .int .u64 z2.1.2.2.2.2.1, .int .u64 z2.1.2.2.2.2.2.1, .int .u64 z2.1.2.2.2.2.2.2]), (36, .bool z2.2), (0, .slice ao1 p_l.length cp1), (1, .int .u64 size), (5, .int .u64 s2.1), (6, .int .i64 s2.2), (7, .pointer (some ⟨w1.heap.size, 0, none⟩)), (8, .int .i64 z1), (15, .slice ao1 p_l.length cp1), (16, .int .i64 ((p_l.length : Nat) : Int)), (17, .int .i64 s2.2), (26, .bool (z1 != 0))] a := ⟨e_9, e_35, e_36, hf⟩
            clear e_9 e_35 e_36
            replace hf := Fr.keep (ks := [0, 1, 5, 7, 9, 15, 16, 17, 35, 36]) (L' := [(0, .slice ao1 p_l.length cp1), (1, .int .u64 size), (5, .int .u64 s2.1), (7, .pointer (some ⟨w1.heap.size, 0, none⟩)), (9, .pointer (some ⟨b1, 0, none⟩)), (15, .slice ao1 p_l.length cp1), (16, .int .i64 ((p_l.length : Nat) : Int)), (17, .int .i64 s2.2), (35, .agg #[.int .u32 z2.1.1, .int .u32 z2.1.2.1, .int .u64 z2.1.2.2.1, .int .u64 z2.1.2.2.2.1, .int .u64 z2.1.2.2.2.2.1, .int .u64 z2.1.2.2.2.2.2.1, .int .u64 z2.1.2.2.2.2.2.2]), (36, .bool z2.2)]) hf (by kernel_rfl)
            refine stB tbOk i25 (hs.bx 0 rfl) 0 [.int .u32 z2.1.1, .int .u32 z2.1.2.1, .int .u64 z2.1.2.2.1, .int .u64 z2.1.2.2.2.1, .int .u64 z2.1.2.2.2.2.1, .int .u64 z2.1.2.2.2.2.2.1, .int .u64 z2.1.2.2.2.2.2.2] [.int .u32 z2.1.1, .int .u32 z2.1.2.1, .int .u64 z2.1.2.2.1, .int .u64 z2.1.2.2.2.1, .int .u64 z2.1.2.2.2.2.1, .int .u64 z2.1.2.2.2.2.2.1, .int .u64 z2.1.2.2.2.2.2.2] (v := .agg #[.int .u32 z2.1.1, .int .u32 z2.1.2.1, .int .u64 z2.1.2.2.1, .int .u64 z2.1.2.2.2.1, .int .u64 z2.1.2.2.2.2.1, .int .u64 z2.1.2.2.2.2.2.1, .int .u64 z2.1.2.2.2.2.2.2]) rfl rfl (by kernel_rfl) (by kernel_rfl) (by kernel_rfl) (by kernel_rfl) hf (by kernel_rfl) (by kernel_rfl) (by kernel_rfl) ?_
            clear hf; clear a; intro w8 a hb hg _ hf
            replace hs : Sep w F R w8 F4 [.box b1 25 [.int .u32 z2.1.1, .int .u32 z2.1.2.1, .int .u64 z2.1.2.2.1, .int .u64 z2.1.2.2.2.1, .int .u64 z2.1.2.2.2.2.1, .int .u64 z2.1.2.2.2.2.2.1, .int .u64 z2.1.2.2.2.2.2.2], .box w1.heap.size 25 [.int .u32 ((gt p_l s2.2).1), .int .u32 ((gt p_l s2.2).2.1), .int .u64 ((gt p_l s2.2).2.2.1), .int .u64 ((gt p_l s2.2).2.2.2.1), .int .u64 ((gt p_l s2.2).2.2.2.2.1), .int .u64 ((gt p_l s2.2).2.2.2.2.2.1), .int .u64 ((gt p_l s2.2).2.2.2.2.2.2)], .ro ty24 (.slice ao1 p_l.length cp1) p_l] := hs.updBox 0 rfl hb hg
            clear hb hg
            replace hs : Sep w F R w8 F4 [.box w1.heap.size 25 [.int .u32 ((gt p_l s2.2).1), .int .u32 ((gt p_l s2.2).2.1), .int .u64 ((gt p_l s2.2).2.2.1), .int .u64 ((gt p_l s2.2).2.2.2.1), .int .u64 ((gt p_l s2.2).2.2.2.2.1), .int .u64 ((gt p_l s2.2).2.2.2.2.2.1), .int .u64 ((gt p_l s2.2).2.2.2.2.2.2)], .ro ty24 (.slice ao1 p_l.length cp1) p_l] := hs.sel [1, 2] rfl rfl
            replace hf := Fr.keep (ks := [0, 1, 5, 7, 15, 16, 17, 36]) (L' := [(0, .slice ao1 p_l.length cp1), (1, .int .u64 size), (5, .int .u64 s2.1), (7, .pointer (some ⟨w1.heap.size, 0, none⟩)), (15, .slice ao1 p_l.length cp1), (16, .int .i64 ((p_l.length : Nat) : Int)), (17, .int .i64 s2.2), (36, .bool z2.2)]) hf (by kernel_rfl)
            refine st tbOk 1 [0, 1, 5, 7, 10, 15, 16, 17] (L' := [(0, .slice ao1 p_l.length cp1), (1, .int .u64 size), (5, .int .u64 s2.1), (7, .pointer (some ⟨w1.heap.size, 0, none⟩)), (10, .bool z2.2), (15, .slice ao1 p_l.length cp1), (16, .int .i64 ((p_l.length : Nat) : Int)), (17, .int .i64 s2.2)]) hf (by kernel_rfl) ?_
            clear hf; clear a; intro a hf
            refine wpList_nil ?_
            refine sq ?_
            refine ctj (fun (s4 : Bool) (a : Act) (w' : World) => ∃ (F6 : SH), Sep w F R w' F6 [.box w1.heap.size 25 [.int .u32 ((gt p_l s2.2).1), .int .u32 ((gt p_l s2.2).2.1), .int .u64 ((gt p_l s2.2).2.2.1), .int .u64 ((gt p_l s2.2).2.2.2.1), .int .u64 ((gt p_l s2.2).2.2.2.2.1), .int .u64 ((gt p_l s2.2).2.2.2.2.2.1), .int .u64 ((gt p_l s2.2).2.2.2.2.2.2)], .ro ty24 (.slice ao1 p_l.length cp1) p_l] ∧ Fr 70 [(0, .slice ao1 p_l.length cp1), (1, .int .u64 size), (5, .int .u64 s2.1), (7, .pointer (some ⟨w1.heap.size, 0, none⟩)), (15, .slice ao1 p_l.length cp1), (16, .int .i64 ((p_l.length : Nat) : Int)), (17, .int .i64 s2.2), (41, .bool s4)] a) hS ?_ ?_
            · clear hS hf hs; clear a; intro s4 a w10 hM hS
              obtain ⟨F6, hs, hf⟩ := hM
              refine cnd (b := s4) hf (by kernel_rfl) (fun hb4 => ?_) (fun hb4 => ?_)
              · replace hS := of_t hb4 hS
                refine sq ?_
                refine reg ?_
                refine st tbOk 1 [4] (L' := [(4, .int .i64 12)]) hf (by kernel_rfl) ?_
                clear hf; clear a; intro a hf
                refine wpList_nil ?_
                have hr := Option.some.inj hS; subst hr
                refine wp_ret ?_
                exact ret_ok hf (vs := [.int .i64 12]) (by kernel_rfl) ⟨_, rfl, hs.sel [] rfl rfl⟩
              · replace hS := of_f hb4 hS
                refine wp_skip ?_
                refine sq ?_
                refine reg ?_
                refine st tbOk 1 [0, 1, 5, 7, 15, 16, 17, 42] (L' := [(0, .slice ao1 p_l.length cp1), (1, .int .u64 size), (5, .int .u64 s2.1), (7, .pointer (some ⟨w1.heap.size, 0, none⟩)), (15, .slice ao1 p_l.length cp1), (16, .int .i64 ((p_l.length : Nat) : Int)), (17, .int .i64 s2.2), (42, .pointer (some ⟨w1.heap.size, 0, none⟩))]) hf (by kernel_rfl) ?_
                clear hf; clear a; intro a hf
                refine ldC tbOk (T := 22) (hs.cbx 0 rfl) (LeH.refl _) 0 (.int .u32 ((gt p_l s2.2).1)) hf (by kernel_rfl) (by kernel_rfl) (by kernel_rfl) (by kernel_rfl) ?_
                clear hf; clear a; intro a hf
                replace hf := Fr.keep (ks := [0, 1, 5, 7, 15, 16, 17, 43]) (L' := [(0, .slice ao1 p_l.length cp1), (1, .int .u64 size), (5, .int .u64 s2.1), (7, .pointer (some ⟨w1.heap.size, 0, none⟩)), (15, .slice ao1 p_l.length cp1), (16, .int .i64 ((p_l.length : Nat) : Int)), (17, .int .i64 s2.2), (43, .int .u32 ((gt p_l s2.2).1))]) hf (by kernel_rfl)
                refine st tbOk 1 [0, 1, 5, 7, 15, 16, 17, 44] (L' := [(0, .slice ao1 p_l.length cp1), (1, .int .u64 size), (5, .int .u64 s2.1), (7, .pointer (some ⟨w1.heap.size, 0, none⟩)), (15, .slice ao1 p_l.length cp1), (16, .int .i64 ((p_l.length : Nat) : Int)), (17, .int .i64 s2.2), (44, .bool (((gt p_l s2.2).1) == 1))]) hf (by kernel_rfl) ?_
                clear hf; clear a; intro a hf
                refine wpList_nil ?_
                refine ctj (fun (s5 : Int) (a : Act) (w' : World) => ∃ (F8 : SH), Sep w F R w' F8 [.ro ty24 (.slice ao1 p_l.length cp1) p_l] ∧ Fr 70 [(0, .slice ao1 p_l.length cp1), (1, .int .u64 size), (5, .int .u64 s5), (15, .slice ao1 p_l.length cp1), (16, .int .i64 ((p_l.length : Nat) : Int)), (17, .int .i64 s2.2)] a) hS ?_ ?_
                · clear hS hf hs; clear a; intro s5 a w12 hM hS
                  obtain ⟨F8, hs, hf⟩ := hM
                  exact hK3 s5 _ _ ⟨_, hs.sel [0] rfl rfl, hf.keep (ks := [0, 1, 5, 15, 16, 17]) (by kernel_rfl)⟩ hS
                · clear hS; intro KK5 k4 hK5 hS
                  refine cnd (b := ((gt p_l s2.2).1) == 1) hf (by kernel_rfl) (fun hb5 => ?_) (fun hb5 => ?_)
                  · replace hS := of_t hb5 hS
                    refine sq ?_
                    refine reg ?_
                    refine ldC tbOk (T := 25) (hs.cbx 0 rfl) (LeH.refl _) 0 (.agg #[.int .u32 ((gt p_l s2.2).1), .int .u32 ((gt p_l s2.2).2.1), .int .u64 ((gt p_l s2.2).2.2.1), .int .u64 ((gt p_l s2.2).2.2.2.1), .int .u64 ((gt p_l s2.2).2.2.2.2.1), .int .u64 ((gt p_l s2.2).2.2.2.2.2.1), .int .u64 ((gt p_l s2.2).2.2.2.2.2.2)]) hf (by kernel_rfl) (by kernel_rfl) (by kernel_rfl) (by kernel_rfl) ?_
                    clear hf; clear a; intro a hf
                    replace hs : Sep w F R w10 F6 [.ro ty24 (.slice ao1 p_l.length cp1) p_l] := hs.sel [1] rfl rfl
                    replace hf := Fr.keep (ks := [0, 1, 5, 15, 16, 17, 46]) (L' := [(0, .slice ao1 p_l.length cp1), (1, .int .u64 size), (5, .int .u64 s2.1), (15, .slice ao1 p_l.length cp1), (16, .int .i64 ((p_l.length : Nat) : Int)), (17, .int .i64 s2.2), (46, .agg #[.int .u32 ((gt p_l s2.2).1), .int .u32 ((gt p_l s2.2).2.1), .int .u64 ((gt p_l s2.2).2.2.1), .int .u64 ((gt p_l s2.2).2.2.2.1), .int .u64 ((gt p_l s2.2).2.2.2.2.1), .int .u64 ((gt p_l s2.2).2.2.2.2.2.1), .int .u64 ((gt p_l s2.2).2.2.2.2.2.2)])]) hf (by kernel_rfl)
                    have hT := of_bd hS; clear hS; obtain ⟨z4, hz4, hS⟩ := hT
                    refine clV ent34 (vs := [.agg #[.int .u32 ((gt p_l s2.2).1), .int .u32 ((gt p_l s2.2).2.1), .int .u64 ((gt p_l s2.2).2.2.1), .int .u64 ((gt p_l s2.2).2.2.2.1), .int .u64 ((gt p_l s2.2).2.2.2.2.1), .int .u64 ((gt p_l s2.2).2.2.2.2.2.1), .int .u64 ((gt p_l s2.2).2.2.2.2.2.2)]]) (caps := []) hf (by kernel_rfl) (by kernel_rfl) (by kernel_rfl) (by kernel_rfl) (segs_pages_ok (p_s := ((gt p_l s2.2).1, (gt p_l s2.2).2.1, (gt p_l s2.2).2.2.1, (gt p_l s2.2).2.2.2.1, (gt p_l s2.2).2.2.2.2.1, (gt p_l s2.2).2.2.2.2.2.1, (gt p_l s2.2).2.2.2.2.2.2)) (hs.enter [] rfl rfl) hz4) ?_
                    clear hf; clear a; intro v w11 a hT hf; obtain ⟨F9, rfl, hr⟩ := hT
                    replace hs : Sep w F R w11 F9 [.ro ty24 (.slice ao1 p_l.length cp1) p_l] := hs.back [] [0] rfl rfl rfl rfl hr
                    clear hr
                    replace hf := Fr.keep (ks := [0, 1, 5, 15, 16, 17, 47]) (L' := [(0, .slice ao1 p_l.length cp1), (1, .int .u64 size), (5, .int .u64 s2.1), (15, .slice ao1 p_l.length cp1), (16, .int .i64 ((p_l.length : Nat) : Int)), (17, .int .i64 s2.2), (47, .tuple #[.int .u64 z4.1, .int .u64 z4.2])]) hf (by kernel_rfl)
                    refine st tbOk 5 [0, 1, 5, 11, 12, 15, 16, 17] (L' := [(0, .slice ao1 p_l.length cp1), (1, .int .u64 size), (5, .int .u64 s2.1), (11, .int .u64 z4.1), (12, .int .u64 z4.2), (15, .slice ao1 p_l.length cp1), (16, .int .i64 ((p_l.length : Nat) : Int)), (17, .int .i64 s2.2)]) hf (by kernel_rfl) ?_
                    clear hf; clear a; intro a hf
                    refine wpList_nil ?_
                    refine sq ?_
                    refine sq ?_
                    refine reg ?_
                    refine st tbOk 3 [0, 1, 12, 15, 16, 17, 52] (L' := [(0, .slice ao1 p_l.length cp1), (1, .int .u64 size), (12, .int .u64 z4.2), (15, .slice ao1 p_l.length cp1), (16, .int .i64 ((p_l.length : Nat) : Int)), (17, .int .i64 s2.2), (52, .bool (decide (z4.1 < s2.1)))]) hf (by kernel_rfl) ?_
                    clear hf; clear a; intro a hf
                    refine wpList_nil ?_
                    refine cnd (b := decide (z4.1 < s2.1)) hf (by kernel_rfl) (fun hb6 => ?_) (fun hb6 => ?_)
                    · replace hS := of_t hb6 hS
                      refine sq ?_
                      refine reg ?_
                      refine st tbOk 1 [4] (L' := [(4, .int .i64 12)]) hf (by kernel_rfl) ?_
                      clear hf; clear a; intro a hf
                      refine wpList_nil ?_
                      have hr := Option.some.inj hS; subst hr
                      refine wp_ret ?_
                      exact ret_ok hf (vs := [.int .i64 12]) (by kernel_rfl) ⟨_, rfl, hs.sel [] rfl rfl⟩
                    · replace hS := of_f hb6 hS
                      refine wp_skip ?_
                      refine reg ?_
                      refine st tbOk 2 [0, 1, 5, 15, 16, 17] (L' := [(0, .slice ao1 p_l.length cp1), (1, .int .u64 size), (5, .int .u64 z4.2), (15, .slice ao1 p_l.length cp1), (16, .int .i64 ((p_l.length : Nat) : Int)), (17, .int .i64 s2.2)]) hf (by kernel_rfl) ?_
                      clear hf; clear a; intro a hf
                      refine wpList_nil ?_
                      exact hK5 z4.2 _ _ ⟨_, hs.sel [0] rfl rfl, hf.keep (ks := [0, 1, 5, 15, 16, 17]) (by kernel_rfl)⟩ hS
                  · replace hS := of_f hb5 hS
                    refine wp_skip ?_
                    exact hK5 s2.1 _ _ ⟨_, hs.sel [1] rfl rfl, hf.keep (ks := [0, 1, 5, 15, 16, 17]) (by kernel_rfl)⟩ hS
            · clear hS; intro KK4 k3 hK4 hS
              refine reg ?_
              refine st tbOk 2 [0, 1, 5, 7, 15, 16, 17, 38] (L' := [(0, .slice ao1 p_l.length cp1), (1, .int .u64 size), (5, .int .u64 s2.1), (7, .pointer (some ⟨w1.heap.size, 0, none⟩)), (15, .slice ao1 p_l.length cp1), (16, .int .i64 ((p_l.length : Nat) : Int)), (17, .int .i64 s2.2), (38, .bool z2.2)]) hf (by kernel_rfl) ?_
              clear hf; clear a; intro a hf
              rcases Bool.eq_false_or_eq_true (z2.2) with hb3 | hb3
              · replace hS := of_t hb3 hS
                replace hf := Fr.cast (L' := [(0, .slice ao1 p_l.length cp1), (1, .int .u64 size), (5, .int .u64 s2.1), (7, .pointer (some ⟨w1.heap.size, 0, none⟩)), (15, .slice ao1 p_l.length cp1), (16, .int .i64 ((p_l.length : Nat) : Int)), (17, .int .i64 s2.2), (38, .bool true)]) hf (by rw [hb3])
                refine ldC tbOk (T := 25) (hs.cbx 0 rfl) (LeH.refl _) 0 (.agg #[.int .u32 ((gt p_l s2.2).1), .int .u32 ((gt p_l s2.2).2.1), .int .u64 ((gt p_l s2.2).2.2.1), .int .u64 ((gt p_l s2.2).2.2.2.1), .int .u64 ((gt p_l s2.2).2.2.2.2.1), .int .u64 ((gt p_l s2.2).2.2.2.2.2.1), .int .u64 ((gt p_l s2.2).2.2.2.2.2.2)]) hf (by kernel_rfl) (by kernel_rfl) (by kernel_rfl) (by kernel_rfl) ?_
                clear hf; clear a; intro a hf
                replace hf := Fr.keep (ks := [0, 1, 5, 7, 15, 16, 17, 38, 39]) (L' := [(0, .slice ao1 p_l.length cp1), (1, .int .u64 size), (5, .int .u64 s2.1), (7, .pointer (some ⟨w1.heap.size, 0, none⟩)), (15, .slice ao1 p_l.length cp1), (16, .int .i64 ((p_l.length : Nat) : Int)), (17, .int .i64 s2.2), (38, .bool true), (39, .agg #[.int .u32 ((gt p_l s2.2).1), .int .u32 ((gt p_l s2.2).2.1), .int .u64 ((gt p_l s2.2).2.2.1), .int .u64 ((gt p_l s2.2).2.2.2.1), .int .u64 ((gt p_l s2.2).2.2.2.2.1), .int .u64 ((gt p_l s2.2).2.2.2.2.2.1), .int .u64 ((gt p_l s2.2).2.2.2.2.2.2)])]) hf (by kernel_rfl)
                have hT := of_bd hS; clear hS; obtain ⟨z3, hz3, hS⟩ := hT
                refine clV ent33 (vs := [.agg #[.int .u32 ((gt p_l s2.2).1), .int .u32 ((gt p_l s2.2).2.1), .int .u64 ((gt p_l s2.2).2.2.1), .int .u64 ((gt p_l s2.2).2.2.2.1), .int .u64 ((gt p_l s2.2).2.2.2.2.1), .int .u64 ((gt p_l s2.2).2.2.2.2.2.1), .int .u64 ((gt p_l s2.2).2.2.2.2.2.2)]]) (caps := []) hf (by kernel_rfl) (by kernel_rfl) (by kernel_rfl) (by kernel_rfl) (segs_single_ok (p_s := ((gt p_l s2.2).1, (gt p_l s2.2).2.1, (gt p_l s2.2).2.2.1, (gt p_l s2.2).2.2.2.1, (gt p_l s2.2).2.2.2.2.1, (gt p_l s2.2).2.2.2.2.2.1, (gt p_l s2.2).2.2.2.2.2.2)) (hs.enter [] rfl rfl) hz3) ?_
                clear hf; clear a; intro v w9 a hT hf; obtain ⟨F7, rfl, hr⟩ := hT
                replace hs : Sep w F R w9 F7 [.box w1.heap.size 25 [.int .u32 ((gt p_l s2.2).1), .int .u32 ((gt p_l s2.2).2.1), .int .u64 ((gt p_l s2.2).2.2.1), .int .u64 ((gt p_l s2.2).2.2.2.1), .int .u64 ((gt p_l s2.2).2.2.2.2.1), .int .u64 ((gt p_l s2.2).2.2.2.2.2.1), .int .u64 ((gt p_l s2.2).2.2.2.2.2.2)], .ro ty24 (.slice ao1 p_l.length cp1) p_l] := hs.back [] [0, 1] rfl rfl rfl rfl hr
                clear hr
                replace hf := Fr.keep (ks := [0, 1, 5, 7, 15, 16, 17, 38, 40]) (L' := [(0, .slice ao1 p_l.length cp1), (1, .int .u64 size), (5, .int .u64 s2.1), (7, .pointer (some ⟨w1.heap.size, 0, none⟩)), (15, .slice ao1 p_l.length cp1), (16, .int .i64 ((p_l.length : Nat) : Int)), (17, .int .i64 s2.2), (38, .bool true), (40, .bool z3)]) hf (by kernel_rfl)
                refine st tbOk 1 [0, 1, 5, 7, 15, 16, 17, 41] (L' := [(0, .slice ao1 p_l.length cp1), (1, .int .u64 size), (5, .int .u64 s2.1), (7, .pointer (some ⟨w1.heap.size, 0, none⟩)), (15, .slice ao1 p_l.length cp1), (16, .int .i64 ((p_l.length : Nat) : Int)), (17, .int .i64 s2.2), (41, .bool z3)]) hf (by kernel_rfl) ?_
                clear hf; clear a; intro a hf
                refine wpList_nil ?_
                exact hK4 z3 _ _ ⟨_, hs.sel [0, 1] rfl rfl, hf.keep (ks := [0, 1, 5, 7, 15, 16, 17, 41]) (by kernel_rfl)⟩ hS
              · replace hS := of_f hb3 hS
                replace hf := Fr.cast (L' := [(0, .slice ao1 p_l.length cp1), (1, .int .u64 size), (5, .int .u64 s2.1), (7, .pointer (some ⟨w1.heap.size, 0, none⟩)), (15, .slice ao1 p_l.length cp1), (16, .int .i64 ((p_l.length : Nat) : Int)), (17, .int .i64 s2.2), (38, .bool false)]) hf (by rw [hb3])
                refine st tbOk 3 [0, 1, 5, 7, 15, 16, 17, 41] (L' := [(0, .slice ao1 p_l.length cp1), (1, .int .u64 size), (5, .int .u64 s2.1), (7, .pointer (some ⟨w1.heap.size, 0, none⟩)), (15, .slice ao1 p_l.length cp1), (16, .int .i64 ((p_l.length : Nat) : Int)), (17, .int .i64 s2.2), (41, .bool false)]) hf (by kernel_rfl) ?_
                clear hf; clear a; intro a hf
                refine wpList_nil ?_
                exact hK4 false _ _ ⟨_, hs.sel [0, 1] rfl rfl, hf.keep (ks := [0, 1, 5, 7, 15, 16, 17, 41]) (by kernel_rfl)⟩ hS
    · replace hS := of_f hb1 hS
      refine wp_exit ?_
      exact hK1 () _ _ ⟨_, hs.sel [0] rfl rfl, hf.keep (ks := [0]) (by kernel_rfl)⟩ hS

set_option maxHeartbeats 4000000 in
theorem law04_awake_ok {w : World} {F : SH}   (hs : Sep w F (blks []) w F []) {r : Bool} (hS : law04_awake = some r) :
    Calls Try.prog 11 [].toArray w (Gives (fun u w' => ∃ (F' : SH), u = .bool r ∧ Sep w F (blks []) w' F' [])) := by
  generalize (blks []) = R at hs ⊢
  unfold law04_awake at hS
  refine fn_ok (vs := []) Try.func11 rfl 96 Try.ntmps11 (Nat.le_of_ble_eq_true rfl) ?_
  intro a hf
  replace hf := Fr.cast (L' := []) hf (by kernel_rfl)
  refine sq ?_
  refine reg ?_
  refine st tbOk 1 [] (L' := []) hf (by kernel_rfl) ?_
  clear hf; clear a; intro a hf
  refine wpList_nil ?_
  refine sq ?_
  refine reg ?_
  refine st tbOk 1 [13] (L' := [(13, .agg #[.int .u32 1, .int .u32 5, .int .u64 256, .int .u64 256, .int .u64 100, .int .u64 300, .int .u64 0])]) hf (by kernel_rfl) ?_
  clear hf; clear a; intro a hf
  refine al tbOk i25 [.int .u32 0, .int .u32 0, .int .u64 0, .int .u64 0, .int .u64 0, .int .u64 0, .int .u64 0] rfl (by kernel_rfl) hf (by kernel_rfl) (by kernel_rfl) ?_
  clear hf; clear a; intro w1 a hb hx _ hf
  replace hs : Sep w F R w1 F [.box w.heap.size 25 [.int .u32 0, .int .u32 0, .int .u64 0, .int .u64 0, .int .u64 0, .int .u64 0, .int .u64 0]] := hs.newBox hb hx
  clear hb hx
  replace hf := Fr.keep (ks := [1, 13]) (L' := [(1, .pointer (some ⟨w.heap.size, 0, none⟩)), (13, .agg #[.int .u32 1, .int .u32 5, .int .u64 256, .int .u64 256, .int .u64 100, .int .u64 300, .int .u64 0])]) hf (by kernel_rfl)
  refine stB tbOk i25 (hs.bx 0 rfl) 0 [.int .u32 1, .int .u32 5, .int .u64 256, .int .u64 256, .int .u64 100, .int .u64 300, .int .u64 0] [.int .u32 1, .int .u32 5, .int .u64 256, .int .u64 256, .int .u64 100, .int .u64 300, .int .u64 0] (v := .agg #[.int .u32 1, .int .u32 5, .int .u64 256, .int .u64 256, .int .u64 100, .int .u64 300, .int .u64 0]) rfl rfl (by kernel_rfl) (by kernel_rfl) (by kernel_rfl) (by kernel_rfl) hf (by kernel_rfl) (by kernel_rfl) (by kernel_rfl) ?_
  clear hf; clear a; intro w2 a hb hg _ hf
  replace hs : Sep w F R w2 F [.box w.heap.size 25 [.int .u32 1, .int .u32 5, .int .u64 256, .int .u64 256, .int .u64 100, .int .u64 300, .int .u64 0]] := hs.updBox 0 rfl hb hg
  clear hb hg
  replace hf := Fr.keep (ks := [1]) (L' := [(1, .pointer (some ⟨w.heap.size, 0, none⟩))]) hf (by kernel_rfl)
  refine wpList_nil ?_
  refine sq ?_
  refine reg ?_
  refine ldC tbOk (T := 25) (hs.cbx 0 rfl) (LeH.refl _) 0 (.agg #[.int .u32 1, .int .u32 5, .int .u64 256, .int .u64 256, .int .u64 100, .int .u64 300, .int .u64 0]) hf (by kernel_rfl) (by kernel_rfl) (by kernel_rfl) (by kernel_rfl) ?_
  clear hf; clear a; intro a hf
  replace hf := Fr.keep (ks := [1, 14]) (L' := [(1, .pointer (some ⟨w.heap.size, 0, none⟩)), (14, .agg #[.int .u32 1, .int .u32 5, .int .u64 256, .int .u64 256, .int .u64 100, .int .u64 300, .int .u64 0])]) hf (by kernel_rfl)
  have hT := of_bd hS; clear hS; obtain ⟨z1, hz1, hS⟩ := hT
  refine clV ent12 (vs := [.agg #[.int .u32 1, .int .u32 5, .int .u64 256, .int .u64 256, .int .u64 100, .int .u64 300, .int .u64 0]]) (caps := []) hf (by kernel_rfl) (by kernel_rfl) (by kernel_rfl) (by kernel_rfl) (segs_Put_ok (p_s := (1, 5, 256, 256, 100, 300, 0)) (hs.enter [] rfl rfl) hz1) ?_
  clear hf; clear a; intro v w3 a hT hf; obtain ⟨ao1, cp1, F1, rfl, hr⟩ := hT
  replace hs : Sep w F R w3 F1 [.row 5 (tI .u8) (.slice ao1 z1.length cp1) z1, .box w.heap.size 25 [.int .u32 1, .int .u32 5, .int .u64 256, .int .u64 256, .int .u64 100, .int .u64 300, .int .u64 0]] := hs.back [] [0] rfl rfl rfl rfl hr
  clear hr
  replace hf := Fr.keep (ks := [1, 15]) (L' := [(1, .pointer (some ⟨w.heap.size, 0, none⟩)), (15, .slice ao1 z1.length cp1)]) hf (by kernel_rfl)
  refine st tbOk 1 [1, 2] (L' := [(1, .pointer (some ⟨w.heap.size, 0, none⟩)), (2, .slice ao1 z1.length cp1)]) hf (by kernel_rfl) ?_
  clear hf; clear a; intro a hf
  refine wpList_nil ?_
  refine sq ?_
  refine reg ?_
  refine st tbOk 1 [1, 2, 17] (L' := [(1, .pointer (some ⟨w.heap.size, 0, none⟩)), (2, .slice ao1 z1.length cp1), (17, .slice ao1 z1.length cp1)]) hf (by kernel_rfl) ?_
  clear hf; clear a; intro a hf
  have hT := of_bd hS; clear hS; obtain ⟨z2, hz2, hS⟩ := hT
  refine clV ent13 (vs := [.slice ao1 z1.length cp1]) (caps := []) hf (by kernel_rfl) (by kernel_rfl) (by kernel_rfl) (by kernel_rfl) (segs_Get_ok (b := z1) (hs.lend [0] [] rfl rfl rfl rfl rfl) hz2) ?_
  clear hf; clear a; intro v w4 a hT hf; obtain ⟨F2, rfl, hr⟩ := hT
  replace hs : Sep w F R w4 F1 [.row 5 (tI .u8) (.slice ao1 z1.length cp1) z1, .box w.heap.size 25 [.int .u32 1, .int .u32 5, .int .u64 256, .int .u64 256, .int .u64 100, .int .u64 300, .int .u64 0]] := hs.backL [0] [] [0, 1] rfl rfl rfl rfl rfl rfl hr trivial
  clear hr
  replace hf := Fr.keep (ks := [1, 2, 18]) (L' := [(1, .pointer (some ⟨w.heap.size, 0, none⟩)), (2, .slice ao1 z1.length cp1), (18, .tuple #[.agg #[.int .u32 z2.1.1, .int .u32 z2.1.2.1, .int .u64 z2.1.2.2.1, .int .u64 z2.1.2.2.2.1, .int .u64 z2.1.2.2.2.2.1, .int .u64 z2.1.2.2.2.2.2.1, .int .u64 z2.1.2.2.2.2.2.2], .int .i64 z2.2])]) hf (by kernel_rfl)
  refine st tbOk 3 [1, 2, 19, 20] (L' := [(1, .pointer (some ⟨w.heap.size, 0, none⟩)), (2, .slice ao1 z1.length cp1), (19, .agg #[.int .u32 z2.1.1, .int .u32 z2.1.2.1, .int .u64 z2.1.2.2.1, .int .u64 z2.1.2.2.2.1, .int .u64 z2.1.2.2.2.2.1, .int .u64 z2.1.2.2.2.2.2.1, .int .u64 z2.1.2.2.2.2.2.2]), (20, .int .i64 z2.2)]) hf (by kernel_rfl) ?_
  clear hf; clear a; intro a hf
  refine al tbOk i25 [.int .u32 0, .int .u32 0, .int .u64 0, .int .u64 0, .int .u64 0, .int .u64 0, .int .u64 0] rfl (by kernel_rfl) hf (by kernel_rfl) (by kernel_rfl) ?_
  clear hf; clear a; intro w5 a hb hx _ hf
  replace hs : Sep w F R w5 F1 [.box w4.heap.size 25 [.int .u32 0, .int .u32 0, .int .u64 0, .int .u64 0, .int .u64 0, .int .u64 0, .int .u64 0], .row 5 (tI .u8) (.slice ao1 z1.length cp1) z1, .box w.heap.size 25 [.int .u32 1, .int .u32 5, .int .u64 256, .int .u64 256, .int .u64 100, .int .u64 300, .int .u64 0]] := hs.newBox hb hx
  clear hb hx
  replace hf := Fr.keep (ks := [1, 2, 3, 19, 20]) (L' := [(1, .pointer (some ⟨w.heap.size, 0, none⟩)), (2, .slice ao1 z1.length cp1), (3, .pointer (some ⟨w4.heap.size, 0, none⟩)), (19, .agg #[.int .u32 z2.1.1, .int .u32 z2.1.2.1, .int .u64 z2.1.2.2.1, .int .u64 z2.1.2.2.2.1, .int .u64 z2.1.2.2.2.2.1, .int .u64 z2.1.2.2.2.2.2.1, .int .u64 z2.1.2.2.2.2.2.2]), (20, .int .i64 z2.2)]) hf (by kernel_rfl)
  refine stB tbOk i25 (hs.bx 0 rfl) 0 [.int .u32 z2.1.1, .int .u32 z2.1.2.1, .int .u64 z2.1.2.2.1, .int .u64 z2.1.2.2.2.1, .int .u64 z2.1.2.2.2.2.1, .int .u64 z2.1.2.2.2.2.2.1, .int .u64 z2.1.2.2.2.2.2.2] [.int .u32 z2.1.1, .int .u32 z2.1.2.1, .int .u64 z2.1.2.2.1, .int .u64 z2.1.2.2.2.1, .int .u64 z2.1.2.2.2.2.1, .int .u64 z2.1.2.2.2.2.2.1, .int .u64 z2.1.2.2.2.2.2.2] (v := .agg #[.int .u32 z2.1.1, .int .u32 z2.1.2.1, .int .u64 z2.1.2.2.1, .int .u64 z2.1.2.2.2.1, .int .u64 z2.1.2.2.2.2.1, .int .u64 z2.1.2.2.2.2.2.1, .int .u64 z2.1.2.2.2.2.2.2]) rfl rfl (by kernel_rfl) (by kernel_rfl) (by kernel_rfl) (by kernel_rfl) hf (by kernel_rfl) (by kernel_rfl) (by kernel_rfl) ?_
  clear hf; clear a; intro w6 a hb hg _ hf
  replace hs : Sep w F R w6 F1 [.box w4.heap.size 25 [.int .u32 z2.1.1, .int .u32 z2.1.2.1, .int .u64 z2.1.2.2.1, .int .u64 z2.1.2.2.2.1, .int .u64 z2.1.2.2.2.2.1, .int .u64 z2.1.2.2.2.2.2.1, .int .u64 z2.1.2.2.2.2.2.2], .row 5 (tI .u8) (.slice ao1 z1.length cp1) z1, .box w.heap.size 25 [.int .u32 1, .int .u32 5, .int .u64 256, .int .u64 256, .int .u64 100, .int .u64 300, .int .u64 0]] := hs.updBox 0 rfl hb hg
  clear hb hg
  replace hf := Fr.keep (ks := [1, 2, 3, 20]) (L' := [(1, .pointer (some ⟨w.heap.size, 0, none⟩)), (2, .slice ao1 z1.length cp1), (3, .pointer (some ⟨w4.heap.size, 0, none⟩)), (20, .int .i64 z2.2)]) hf (by kernel_rfl)
  refine st tbOk 1 [1, 2, 3, 4] (L' := [(1, .pointer (some ⟨w.heap.size, 0, none⟩)), (2, .slice ao1 z1.length cp1), (3, .pointer (some ⟨w4.heap.size, 0, none⟩)), (4, .int .i64 z2.2)]) hf (by kernel_rfl) ?_
  clear hf; clear a; intro a hf
  refine wpList_nil ?_
  refine sq ?_
  refine reg ?_
  refine ldC tbOk (T := 25) (hs.cbx 2 rfl) (LeH.refl _) 0 (.agg #[.int .u32 1, .int .u32 5, .int .u64 256, .int .u64 256, .int .u64 100, .int .u64 300, .int .u64 0]) hf (by kernel_rfl) (by kernel_rfl) (by kernel_rfl) (by kernel_rfl) ?_
  clear hf; clear a; intro a hf
  replace hf := Fr.keep (ks := [1, 2, 3, 4, 22]) (L' := [(1, .pointer (some ⟨w.heap.size, 0, none⟩)), (2, .slice ao1 z1.length cp1), (3, .pointer (some ⟨w4.heap.size, 0, none⟩)), (4, .int .i64 z2.2), (22, .agg #[.int .u32 1, .int .u32 5, .int .u64 256, .int .u64 256, .int .u64 100, .int .u64 300, .int .u64 0])]) hf (by kernel_rfl)
  refine bsR tbOk u33 i25 rfl (t := ty24) (vs := [(0, .agg #[.int .u32 1, .int .u32 5, .int .u64 256, .int .u64 256, .int .u64 100, .int .u64 300, .int .u64 0])]) (cells := #[.int .u32 1, .int .u32 5, .int .u64 256, .int .u64 256, .int .u64 100, .int .u64 300, .int .u64 0]) ([(1, 5, 256, 256, 100, 300, 0)] : List (Int × Int × Int × Int × Int × Int × Int)) hs.le hf (by kernel_rfl) (by kernel_rfl) (by kernel_rfl) rfl (by kernel_rfl) (reps_flat _) rfl ?_
  clear hf; clear a; intro w7 a ho hx hf
  replace hs : Sep w F R w7 F1 [.row 25 ty24 (.slice (some ⟨w6.heap.size, 0, none⟩) ([(1, 5, 256, 256, 100, 300, 0)] : List (Int × Int × Int × Int × Int × Int × Int)).length ([(1, 5, 256, 256, 100, 300, 0)] : List (Int × Int × Int × Int × Int × Int × Int)).length) ([(1, 5, 256, 256, 100, 300, 0)] : List (Int × Int × Int × Int × Int × Int × Int)), .box w4.heap.size 25 [.int .u32 z2.1.1, .int .u32 z2.1.2.1, .int .u64 z2.1.2.2.1, .int .u64 z2.1.2.2.2.1, .int .u64 z2.1.2.2.2.2.1, .int .u64 z2.1.2.2.2.2.2.1, .int .u64 z2.1.2.2.2.2.2.2], .row 5 (tI .u8) (.slice ao1 z1.length cp1) z1, .box w.heap.size 25 [.int .u32 1, .int .u32 5, .int .u64 256, .int .u64 256, .int .u64 100, .int .u64 300, .int .u64 0]] := hs.newRow ho hx
  clear ho hx
  replace hf := Fr.keep (ks := [1, 2, 3, 4, 23]) (L' := [(1, .pointer (some ⟨w.heap.size, 0, none⟩)), (2, .slice ao1 z1.length cp1), (3, .pointer (some ⟨w4.heap.size, 0, none⟩)), (4, .int .i64 z2.2), (23, .slice (some ⟨w6.heap.size, 0, none⟩) ([(1, 5, 256, 256, 100, 300, 0)] : List (Int × Int × Int × Int × Int × Int × Int)).length ([(1, 5, 256, 256, 100, 300, 0)] : List (Int × Int × Int × Int × Int × Int × Int)).length)]) hf (by kernel_rfl)
  have hT := of_bd hS; clear hS; obtain ⟨z3, hz3, hS⟩ := hT
  refine clV ent20 (vs := [.slice (some ⟨w6.heap.size, 0, none⟩) ([(1, 5, 256, 256, 100, 300, 0)] : List (Int × Int × Int × Int × Int × Int × Int)).length ([(1, 5, 256, 256, 100, 300, 0)] : List (Int × Int × Int × Int × Int × Int × Int)).length, .int .u64 300, .int .u64 4]) (caps := []) hf (by kernel_rfl) (by kernel_rfl) (by kernel_rfl) (by kernel_rfl) (segs_Place_ok (p_l := ([(1, 5, 256, 256, 100, 300, 0)] : List (Int × Int × Int × Int × Int × Int × Int))) (addr := 300) (size := 4) (hs.lend [0] [] rfl rfl rfl rfl rfl) hz3) ?_
  clear hf; clear a; intro v w8 a hT hf; obtain ⟨F3, rfl, hr⟩ := hT
  replace hs : Sep w F R w8 F1 [.row 25 ty24 (.slice (some ⟨w6.heap.size, 0, none⟩) ([(1, 5, 256, 256, 100, 300, 0)] : List (Int × Int × Int × Int × Int × Int × Int)).length ([(1, 5, 256, 256, 100, 300, 0)] : List (Int × Int × Int × Int × Int × Int × Int)).length) ([(1, 5, 256, 256, 100, 300, 0)] : List (Int × Int × Int × Int × Int × Int × Int)), .box w4.heap.size 25 [.int .u32 z2.1.1, .int .u32 z2.1.2.1, .int .u64 z2.1.2.2.1, .int .u64 z2.1.2.2.2.1, .int .u64 z2.1.2.2.2.2.1, .int .u64 z2.1.2.2.2.2.2.1, .int .u64 z2.1.2.2.2.2.2.2], .row 5 (tI .u8) (.slice ao1 z1.length cp1) z1, .box w.heap.size 25 [.int .u32 1, .int .u32 5, .int .u64 256, .int .u64 256, .int .u64 100, .int .u64 300, .int .u64 0]] := hs.backL [0] [] [0, 1, 2, 3] rfl rfl rfl rfl rfl rfl hr trivial
  clear hr
  replace hs : Sep w F R w8 F1 [.box w4.heap.size 25 [.int .u32 z2.1.1, .int .u32 z2.1.2.1, .int .u64 z2.1.2.2.1, .int .u64 z2.1.2.2.2.1, .int .u64 z2.1.2.2.2.2.1, .int .u64 z2.1.2.2.2.2.2.1, .int .u64 z2.1.2.2.2.2.2.2], .row 5 (tI .u8) (.slice ao1 z1.length cp1) z1, .box w.heap.size 25 [.int .u32 1, .int .u32 5, .int .u64 256, .int .u64 256, .int .u64 100, .int .u64 300, .int .u64 0]] := hs.sel [1, 2, 3] rfl rfl
  replace hf := Fr.keep (ks := [1, 2, 3, 4, 24]) (L' := [(1, .pointer (some ⟨w.heap.size, 0, none⟩)), (2, .slice ao1 z1.length cp1), (3, .pointer (some ⟨w4.heap.size, 0, none⟩)), (4, .int .i64 z2.2), (24, .tuple #[.int .u64 z3.1, .int .i64 z3.2])]) hf (by kernel_rfl)
  refine st tbOk 5 [1, 2, 3, 4, 5, 6] (L' := [(1, .pointer (some ⟨w.heap.size, 0, none⟩)), (2, .slice ao1 z1.length cp1), (3, .pointer (some ⟨w4.heap.size, 0, none⟩)), (4, .int .i64 z2.2), (5, .int .u64 z3.1), (6, .int .i64 z3.2)]) hf (by kernel_rfl) ?_
  clear hf; clear a; intro a hf
  refine wpList_nil ?_
  refine sq ?_
  refine reg ?_
  refine ldC tbOk (T := 25) (hs.cbx 2 rfl) (LeH.refl _) 0 (.agg #[.int .u32 1, .int .u32 5, .int .u64 256, .int .u64 256, .int .u64 100, .int .u64 300, .int .u64 0]) hf (by kernel_rfl) (by kernel_rfl) (by kernel_rfl) (by kernel_rfl) ?_
  clear hf; clear a; intro a hf
  replace hf := Fr.keep (ks := [1, 2, 3, 4, 5, 6, 28]) (L' := [(1, .pointer (some ⟨w.heap.size, 0, none⟩)), (2, .slice ao1 z1.length cp1), (3, .pointer (some ⟨w4.heap.size, 0, none⟩)), (4, .int .i64 z2.2), (5, .int .u64 z3.1), (6, .int .i64 z3.2), (28, .agg #[.int .u32 1, .int .u32 5, .int .u64 256, .int .u64 256, .int .u64 100, .int .u64 300, .int .u64 0])]) hf (by kernel_rfl)
  refine bsR tbOk u33 i25 rfl (t := ty24) (vs := [(0, .agg #[.int .u32 1, .int .u32 5, .int .u64 256, .int .u64 256, .int .u64 100, .int .u64 300, .int .u64 0])]) (cells := #[.int .u32 1, .int .u32 5, .int .u64 256, .int .u64 256, .int .u64 100, .int .u64 300, .int .u64 0]) ([(1, 5, 256, 256, 100, 300, 0)] : List (Int × Int × Int × Int × Int × Int × Int)) hs.le hf (by kernel_rfl) (by kernel_rfl) (by kernel_rfl) rfl (by kernel_rfl) (reps_flat _) rfl ?_
  clear hf; clear a; intro w9 a ho hx hf
  replace hs : Sep w F R w9 F1 [.row 25 ty24 (.slice (some ⟨w8.heap.size, 0, none⟩) ([(1, 5, 256, 256, 100, 300, 0)] : List (Int × Int × Int × Int × Int × Int × Int)).length ([(1, 5, 256, 256, 100, 300, 0)] : List (Int × Int × Int × Int × Int × Int × Int)).length) ([(1, 5, 256, 256, 100, 300, 0)] : List (Int × Int × Int × Int × Int × Int × Int)), .box w4.heap.size 25 [.int .u32 z2.1.1, .int .u32 z2.1.2.1, .int .u64 z2.1.2.2.1, .int .u64 z2.1.2.2.2.1, .int .u64 z2.1.2.2.2.2.1, .int .u64 z2.1.2.2.2.2.2.1, .int .u64 z2.1.2.2.2.2.2.2], .row 5 (tI .u8) (.slice ao1 z1.length cp1) z1, .box w.heap.size 25 [.int .u32 1, .int .u32 5, .int .u64 256, .int .u64 256, .int .u64 100, .int .u64 300, .int .u64 0]] := hs.newRow ho hx
  clear ho hx
  replace hf := Fr.keep (ks := [1, 2, 3, 4, 5, 6, 29]) (L' := [(1, .pointer (some ⟨w.heap.size, 0, none⟩)), (2, .slice ao1 z1.length cp1), (3, .pointer (some ⟨w4.heap.size, 0, none⟩)), (4, .int .i64 z2.2), (5, .int .u64 z3.1), (6, .int .i64 z3.2), (29, .slice (some ⟨w8.heap.size, 0, none⟩) ([(1, 5, 256, 256, 100, 300, 0)] : List (Int × Int × Int × Int × Int × Int × Int)).length ([(1, 5, 256, 256, 100, 300, 0)] : List (Int × Int × Int × Int × Int × Int × Int)).length)]) hf (by kernel_rfl)
  have hT := of_bd hS; clear hS; obtain ⟨z4, hz4, hS⟩ := hT
  refine clV ent24 (vs := [.slice (some ⟨w8.heap.size, 0, none⟩) ([(1, 5, 256, 256, 100, 300, 0)] : List (Int × Int × Int × Int × Int × Int × Int)).length ([(1, 5, 256, 256, 100, 300, 0)] : List (Int × Int × Int × Int × Int × Int × Int)).length]) (caps := []) hf (by kernel_rfl) (by kernel_rfl) (by kernel_rfl) (by kernel_rfl) (segs_Span_ok (p_l := ([(1, 5, 256, 256, 100, 300, 0)] : List (Int × Int × Int × Int × Int × Int × Int))) (hs.lend [0] [] rfl rfl rfl rfl rfl) hz4) ?_
  clear hf; clear a; intro v w10 a hT hf; obtain ⟨F4, rfl, hr⟩ := hT
  replace hs : Sep w F R w10 F1 [.row 25 ty24 (.slice (some ⟨w8.heap.size, 0, none⟩) ([(1, 5, 256, 256, 100, 300, 0)] : List (Int × Int × Int × Int × Int × Int × Int)).length ([(1, 5, 256, 256, 100, 300, 0)] : List (Int × Int × Int × Int × Int × Int × Int)).length) ([(1, 5, 256, 256, 100, 300, 0)] : List (Int × Int × Int × Int × Int × Int × Int)), .box w4.heap.size 25 [.int .u32 z2.1.1, .int .u32 z2.1.2.1, .int .u64 z2.1.2.2.1, .int .u64 z2.1.2.2.2.1, .int .u64 z2.1.2.2.2.2.1, .int .u64 z2.1.2.2.2.2.2.1, .int .u64 z2.1.2.2.2.2.2.2], .row 5 (tI .u8) (.slice ao1 z1.length cp1) z1, .box w.heap.size 25 [.int .u32 1, .int .u32 5, .int .u64 256, .int .u64 256, .int .u64 100, .int .u64 300, .int .u64 0]] := hs.backL [0] [] [0, 1, 2, 3] rfl rfl rfl rfl rfl rfl hr trivial
  clear hr
  replace hs : Sep w F R w10 F1 [.box w4.heap.size 25 [.int .u32 z2.1.1, .int .u32 z2.1.2.1, .int .u64 z2.1.2.2.1, .int .u64 z2.1.2.2.2.1, .int .u64 z2.1.2.2.2.2.1, .int .u64 z2.1.2.2.2.2.2.1, .int .u64 z2.1.2.2.2.2.2.2], .row 5 (tI .u8) (.slice ao1 z1.length cp1) z1, .box w.heap.size 25 [.int .u32 1, .int .u32 5, .int .u64 256, .int .u64 256, .int .u64 100, .int .u64 300, .int .u64 0]] := hs.sel [1, 2, 3] rfl rfl
  replace hf := Fr.keep (ks := [1, 2, 3, 4, 5, 6, 30]) (L' := [(1, .pointer (some ⟨w.heap.size, 0, none⟩)), (2, .slice ao1 z1.length cp1), (3, .pointer (some ⟨w4.heap.size, 0, none⟩)), (4, .int .i64 z2.2), (5, .int .u64 z3.1), (6, .int .i64 z3.2), (30, .tuple #[.int .u64 z4.1, .int .u64 z4.2])]) hf (by kernel_rfl)
  refine st tbOk 5 [1, 2, 3, 4, 5, 6, 7, 8] (L' := [(1, .pointer (some ⟨w.heap.size, 0, none⟩)), (2, .slice ao1 z1.length cp1), (3, .pointer (some ⟨w4.heap.size, 0, none⟩)), (4, .int .i64 z2.2), (5, .int .u64 z3.1), (6, .int .i64 z3.2), (7, .int .u64 z4.1), (8, .int .u64 z4.2)]) hf (by kernel_rfl) ?_
  clear hf; clear a; intro a hf
  refine wpList_nil ?_
  refine sq ?_
  refine reg ?_
  refine ldC tbOk (T := 25) (hs.cbx 2 rfl) (LeH.refl _) 0 (.agg #[.int .u32 1, .int .u32 5, .int .u64 256, .int .u64 256, .int .u64 100, .int .u64 300, .int .u64 0]) hf (by kernel_rfl) (by kernel_rfl) (by kernel_rfl) (by kernel_rfl) ?_
  clear hf; clear a; intro a hf
  replace hf := Fr.keep (ks := [1, 2, 3, 4, 5, 6, 7, 8, 34]) (L' := [(1, .pointer (some ⟨w.heap.size, 0, none⟩)), (2, .slice ao1 z1.length cp1), (3, .pointer (some ⟨w4.heap.size, 0, none⟩)), (4, .int .i64 z2.2), (5, .int .u64 z3.1), (6, .int .i64 z3.2), (7, .int .u64 z4.1), (8, .int .u64 z4.2), (34, .agg #[.int .u32 1, .int .u32 5, .int .u64 256, .int .u64 256, .int .u64 100, .int .u64 300, .int .u64 0])]) hf (by kernel_rfl)
  refine bsR tbOk u33 i25 rfl (t := ty24) (vs := [(0, .agg #[.int .u32 1, .int .u32 5, .int .u64 256, .int .u64 256, .int .u64 100, .int .u64 300, .int .u64 0])]) (cells := #[.int .u32 1, .int .u32 5, .int .u64 256, .int .u64 256, .int .u64 100, .int .u64 300, .int .u64 0]) ([(1, 5, 256, 256, 100, 300, 0)] : List (Int × Int × Int × Int × Int × Int × Int)) hs.le hf (by kernel_rfl) (by kernel_rfl) (by kernel_rfl) rfl (by kernel_rfl) (reps_flat _) rfl ?_
  clear hf; clear a; intro w11 a ho hx hf
  replace hs : Sep w F R w11 F1 [.row 25 ty24 (.slice (some ⟨w10.heap.size, 0, none⟩) ([(1, 5, 256, 256, 100, 300, 0)] : List (Int × Int × Int × Int × Int × Int × Int)).length ([(1, 5, 256, 256, 100, 300, 0)] : List (Int × Int × Int × Int × Int × Int × Int)).length) ([(1, 5, 256, 256, 100, 300, 0)] : List (Int × Int × Int × Int × Int × Int × Int)), .box w4.heap.size 25 [.int .u32 z2.1.1, .int .u32 z2.1.2.1, .int .u64 z2.1.2.2.1, .int .u64 z2.1.2.2.2.1, .int .u64 z2.1.2.2.2.2.1, .int .u64 z2.1.2.2.2.2.2.1, .int .u64 z2.1.2.2.2.2.2.2], .row 5 (tI .u8) (.slice ao1 z1.length cp1) z1, .box w.heap.size 25 [.int .u32 1, .int .u32 5, .int .u64 256, .int .u64 256, .int .u64 100, .int .u64 300, .int .u64 0]] := hs.newRow ho hx
  clear ho hx
  replace hf := Fr.keep (ks := [1, 2, 3, 4, 5, 6, 7, 8, 35]) (L' := [(1, .pointer (some ⟨w.heap.size, 0, none⟩)), (2, .slice ao1 z1.length cp1), (3, .pointer (some ⟨w4.heap.size, 0, none⟩)), (4, .int .i64 z2.2), (5, .int .u64 z3.1), (6, .int .i64 z3.2), (7, .int .u64 z4.1), (8, .int .u64 z4.2), (35, .slice (some ⟨w10.heap.size, 0, none⟩) ([(1, 5, 256, 256, 100, 300, 0)] : List (Int × Int × Int × Int × Int × Int × Int)).length ([(1, 5, 256, 256, 100, 300, 0)] : List (Int × Int × Int × Int × Int × Int × Int)).length)]) hf (by kernel_rfl)
  have hT := of_bd hS; clear hS; obtain ⟨z5, hz5, hS⟩ := hT
  refine clV ent22 (vs := [.slice (some ⟨w10.heap.size, 0, none⟩) ([(1, 5, 256, 256, 100, 300, 0)] : List (Int × Int × Int × Int × Int × Int × Int)).length ([(1, 5, 256, 256, 100, 300, 0)] : List (Int × Int × Int × Int × Int × Int × Int)).length, .int .u32 1]) (caps := []) hf (by kernel_rfl) (by kernel_rfl) (by kernel_rfl) (by kernel_rfl) (segs_Find_ok (p_l := ([(1, 5, 256, 256, 100, 300, 0)] : List (Int × Int × Int × Int × Int × Int × Int))) (kind := 1) (hs.lend [0] [] rfl rfl rfl rfl rfl) hz5) ?_
  clear hf; clear a; intro v w12 a hT hf; obtain ⟨F5, rfl, hr⟩ := hT
  replace hs : Sep w F R w12 F1 [.row 25 ty24 (.slice (some ⟨w10.heap.size, 0, none⟩) ([(1, 5, 256, 256, 100, 300, 0)] : List (Int × Int × Int × Int × Int × Int × Int)).length ([(1, 5, 256, 256, 100, 300, 0)] : List (Int × Int × Int × Int × Int × Int × Int)).length) ([(1, 5, 256, 256, 100, 300, 0)] : List (Int × Int × Int × Int × Int × Int × Int)), .box w4.heap.size 25 [.int .u32 z2.1.1, .int .u32 z2.1.2.1, .int .u64 z2.1.2.2.1, .int .u64 z2.1.2.2.2.1, .int .u64 z2.1.2.2.2.2.1, .int .u64 z2.1.2.2.2.2.2.1, .int .u64 z2.1.2.2.2.2.2.2], .row 5 (tI .u8) (.slice ao1 z1.length cp1) z1, .box w.heap.size 25 [.int .u32 1, .int .u32 5, .int .u64 256, .int .u64 256, .int .u64 100, .int .u64 300, .int .u64 0]] := hs.backL [0] [] [0, 1, 2, 3] rfl rfl rfl rfl rfl rfl hr trivial
  clear hr
  replace hs : Sep w F R w12 F1 [.box w4.heap.size 25 [.int .u32 z2.1.1, .int .u32 z2.1.2.1, .int .u64 z2.1.2.2.1, .int .u64 z2.1.2.2.2.1, .int .u64 z2.1.2.2.2.2.1, .int .u64 z2.1.2.2.2.2.2.1, .int .u64 z2.1.2.2.2.2.2.2], .row 5 (tI .u8) (.slice ao1 z1.length cp1) z1, .box w.heap.size 25 [.int .u32 1, .int .u32 5, .int .u64 256, .int .u64 256, .int .u64 100, .int .u64 300, .int .u64 0]] := hs.sel [1, 2, 3] rfl rfl
  replace hf := Fr.keep (ks := [1, 2, 3, 4, 5, 6, 7, 8, 36]) (L' := [(1, .pointer (some ⟨w.heap.size, 0, none⟩)), (2, .slice ao1 z1.length cp1), (3, .pointer (some ⟨w4.heap.size, 0, none⟩)), (4, .int .i64 z2.2), (5, .int .u64 z3.1), (6, .int .i64 z3.2), (7, .int .u64 z4.1), (8, .int .u64 z4.2), (36, .tuple #[.agg #[.int .u32 z5.1.1, .int .u32 z5.1.2.1, .int .u64 z5.1.2.2.1, .int .u64 z5.1.2.2.2.1, .int .u64 z5.1.2.2.2.2.1, .int .u64 z5.1.2.2.2.2.2.1, .int .u64 z5.1.2.2.2.2.2.2], .bool z5.2])]) hf (by kernel_rfl)
  refine st tbOk 3 [1, 2, 3, 4, 5, 6, 7, 8, 37, 38] (L' := [(1, .pointer (some ⟨w.heap.size, 0, none⟩)), (2, .slice ao1 z1.length cp1), (3, .pointer (some ⟨w4.heap.size, 0, none⟩)), (4, .int .i64 z2.2), (5, .int .u64 z3.1), (6, .int .i64 z3.2), (7, .int .u64 z4.1), (8, .int .u64 z4.2), (37, .agg #[.int .u32 z5.1.1, .int .u32 z5.1.2.1, .int .u64 z5.1.2.2.1, .int .u64 z5.1.2.2.2.1, .int .u64 z5.1.2.2.2.2.1, .int .u64 z5.1.2.2.2.2.2.1, .int .u64 z5.1.2.2.2.2.2.2]), (38, .bool z5.2)]) hf (by kernel_rfl) ?_
  clear hf; clear a; intro a hf
  refine al tbOk i25 [.int .u32 0, .int .u32 0, .int .u64 0, .int .u64 0, .int .u64 0, .int .u64 0, .int .u64 0] rfl (by kernel_rfl) hf (by kernel_rfl) (by kernel_rfl) ?_
  clear hf; clear a; intro w13 a hb hx _ hf
  replace hs : Sep w F R w13 F1 [.box w12.heap.size 25 [.int .u32 0, .int .u32 0, .int .u64 0, .int .u64 0, .int .u64 0, .int .u64 0, .int .u64 0], .box w4.heap.size 25 [.int .u32 z2.1.1, .int .u32 z2.1.2.1, .int .u64 z2.1.2.2.1, .int .u64 z2.1.2.2.2.1, .int .u64 z2.1.2.2.2.2.1, .int .u64 z2.1.2.2.2.2.2.1, .int .u64 z2.1.2.2.2.2.2.2], .row 5 (tI .u8) (.slice ao1 z1.length cp1) z1, .box w.heap.size 25 [.int .u32 1, .int .u32 5, .int .u64 256, .int .u64 256, .int .u64 100, .int .u64 300, .int .u64 0]] := hs.newBox hb hx
  clear hb hx
  replace hf := Fr.keep (ks := [1, 2, 3, 4, 5, 6, 7, 8, 9, 37, 38]) (L' := [(1, .pointer (some ⟨w.heap.size, 0, none⟩)), (2, .slice ao1 z1.length cp1), (3, .pointer (some ⟨w4.heap.size, 0, none⟩)), (4, .int .i64 z2.2), (5, .int .u64 z3.1), (6, .int .i64 z3.2), (7, .int .u64 z4.1), (8, .int .u64 z4.2), (9, .pointer (some ⟨w12.heap.size, 0, none⟩)), (37, .agg #[.int .u32 z5.1.1, .int .u32 z5.1.2.1, .int .u64 z5.1.2.2.1, .int .u64 z5.1.2.2.2.1, .int .u64 z5.1.2.2.2.2.1, .int .u64 z5.1.2.2.2.2.2.1, .int .u64 z5.1.2.2.2.2.2.2]), (38, .bool z5.2)]) hf (by kernel_rfl)
  refine stB tbOk i25 (hs.bx 0 rfl) 0 [.int .u32 z5.1.1, .int .u32 z5.1.2.1, .int .u64 z5.1.2.2.1, .int .u64 z5.1.2.2.2.1, .int .u64 z5.1.2.2.2.2.1, .int .u64 z5.1.2.2.2.2.2.1, .int .u64 z5.1.2.2.2.2.2.2] [.int .u32 z5.1.1, .int .u32 z5.1.2.1, .int .u64 z5.1.2.2.1, .int .u64 z5.1.2.2.2.1, .int .u64 z5.1.2.2.2.2.1, .int .u64 z5.1.2.2.2.2.2.1, .int .u64 z5.1.2.2.2.2.2.2] (v := .agg #[.int .u32 z5.1.1, .int .u32 z5.1.2.1, .int .u64 z5.1.2.2.1, .int .u64 z5.1.2.2.2.1, .int .u64 z5.1.2.2.2.2.1, .int .u64 z5.1.2.2.2.2.2.1, .int .u64 z5.1.2.2.2.2.2.2]) rfl rfl (by kernel_rfl) (by kernel_rfl) (by kernel_rfl) (by kernel_rfl) hf (by kernel_rfl) (by kernel_rfl) (by kernel_rfl) ?_
  clear hf; clear a; intro w14 a hb hg _ hf
  replace hs : Sep w F R w14 F1 [.box w12.heap.size 25 [.int .u32 z5.1.1, .int .u32 z5.1.2.1, .int .u64 z5.1.2.2.1, .int .u64 z5.1.2.2.2.1, .int .u64 z5.1.2.2.2.2.1, .int .u64 z5.1.2.2.2.2.2.1, .int .u64 z5.1.2.2.2.2.2.2], .box w4.heap.size 25 [.int .u32 z2.1.1, .int .u32 z2.1.2.1, .int .u64 z2.1.2.2.1, .int .u64 z2.1.2.2.2.1, .int .u64 z2.1.2.2.2.2.1, .int .u64 z2.1.2.2.2.2.2.1, .int .u64 z2.1.2.2.2.2.2.2], .row 5 (tI .u8) (.slice ao1 z1.length cp1) z1, .box w.heap.size 25 [.int .u32 1, .int .u32 5, .int .u64 256, .int .u64 256, .int .u64 100, .int .u64 300, .int .u64 0]] := hs.updBox 0 rfl hb hg
  clear hb hg
  replace hs : Sep w F R w14 F1 [.box w4.heap.size 25 [.int .u32 z2.1.1, .int .u32 z2.1.2.1, .int .u64 z2.1.2.2.1, .int .u64 z2.1.2.2.2.1, .int .u64 z2.1.2.2.2.2.1, .int .u64 z2.1.2.2.2.2.2.1, .int .u64 z2.1.2.2.2.2.2.2], .row 5 (tI .u8) (.slice ao1 z1.length cp1) z1, .box w.heap.size 25 [.int .u32 1, .int .u32 5, .int .u64 256, .int .u64 256, .int .u64 100, .int .u64 300, .int .u64 0]] := hs.sel [1, 2, 3] rfl rfl
  replace hf := Fr.keep (ks := [1, 2, 3, 4, 5, 6, 7, 8, 38]) (L' := [(1, .pointer (some ⟨w.heap.size, 0, none⟩)), (2, .slice ao1 z1.length cp1), (3, .pointer (some ⟨w4.heap.size, 0, none⟩)), (4, .int .i64 z2.2), (5, .int .u64 z3.1), (6, .int .i64 z3.2), (7, .int .u64 z4.1), (8, .int .u64 z4.2), (38, .bool z5.2)]) hf (by kernel_rfl)
  refine st tbOk 1 [1, 2, 3, 4, 5, 6, 7, 8, 10] (L' := [(1, .pointer (some ⟨w.heap.size, 0, none⟩)), (2, .slice ao1 z1.length cp1), (3, .pointer (some ⟨w4.heap.size, 0, none⟩)), (4, .int .i64 z2.2), (5, .int .u64 z3.1), (6, .int .i64 z3.2), (7, .int .u64 z4.1), (8, .int .u64 z4.2), (10, .bool z5.2)]) hf (by kernel_rfl) ?_
  clear hf; clear a; intro a hf
  refine wpList_nil ?_
  refine sq ?_
  refine reg ?_
  refine st tbOk 1 [1, 2, 3, 4, 5, 6, 7, 8, 10, 40] (L' := [(1, .pointer (some ⟨w.heap.size, 0, none⟩)), (2, .slice ao1 z1.length cp1), (3, .pointer (some ⟨w4.heap.size, 0, none⟩)), (4, .int .i64 z2.2), (5, .int .u64 z3.1), (6, .int .i64 z3.2), (7, .int .u64 z4.1), (8, .int .u64 z4.2), (10, .bool z5.2), (40, .slice ao1 z1.length cp1)]) hf (by kernel_rfl) ?_
  clear hf; clear a; intro a hf
  have hT := of_bd hS; clear hS; obtain ⟨z6, hz6, hS⟩ := hT
  refine clV ent16 (vs := [.slice ao1 z1.length cp1, .int .u64 0, .int .i64 1]) (caps := []) hf (by kernel_rfl) (by kernel_rfl) (by kernel_rfl) (by kernel_rfl) (segs_Table_ok (b := z1) (p_at := 0) (n := 1) (hs.lend [1] [] rfl rfl rfl rfl rfl) hz6) ?_
  clear hf; clear a; intro v w15 a hT hf; obtain ⟨ao2, cp2, F6, rfl, hr⟩ := hT
  replace hs : Sep w F R w15 F1 [.row 25 ty24 (.slice ao2 z6.1.length cp2) z6.1, .box w4.heap.size 25 [.int .u32 z2.1.1, .int .u32 z2.1.2.1, .int .u64 z2.1.2.2.1, .int .u64 z2.1.2.2.2.1, .int .u64 z2.1.2.2.2.2.1, .int .u64 z2.1.2.2.2.2.2.1, .int .u64 z2.1.2.2.2.2.2.2], .row 5 (tI .u8) (.slice ao1 z1.length cp1) z1, .box w.heap.size 25 [.int .u32 1, .int .u32 5, .int .u64 256, .int .u64 256, .int .u64 100, .int .u64 300, .int .u64 0]] := hs.backL [1] [] [0, 1, 2] rfl rfl rfl rfl rfl rfl hr ⟨flat24, trivial⟩
  clear hr
  replace hf := Fr.keep (ks := [1, 2, 3, 4, 5, 6, 7, 8, 10, 41]) (L' := [(1, .pointer (some ⟨w.heap.size, 0, none⟩)), (2, .slice ao1 z1.length cp1), (3, .pointer (some ⟨w4.heap.size, 0, none⟩)), (4, .int .i64 z2.2), (5, .int .u64 z3.1), (6, .int .i64 z3.2), (7, .int .u64 z4.1), (8, .int .u64 z4.2), (10, .bool z5.2), (41, .tuple #[.slice ao2 z6.1.length cp2, .int .i64 z6.2])]) hf (by kernel_rfl)
  refine st tbOk 5 [1, 2, 3, 4, 5, 6, 7, 8, 10, 11, 12] (L' := [(1, .pointer (some ⟨w.heap.size, 0, none⟩)), (2, .slice ao1 z1.length cp1), (3, .pointer (some ⟨w4.heap.size, 0, none⟩)), (4, .int .i64 z2.2), (5, .int .u64 z3.1), (6, .int .i64 z3.2), (7, .int .u64 z4.1), (8, .int .u64 z4.2), (10, .bool z5.2), (11, .slice ao2 z6.1.length cp2), (12, .int .i64 z6.2)]) hf (by kernel_rfl) ?_
  clear hf; clear a; intro a hf
  refine wpList_nil ?_
  refine sq ?_
  refine ctj (fun (s1 : Bool) (a : Act) (w' : World) => ∃ (F7 : SH), Sep w F R w' F7 [] ∧ Fr 96 [(0, .bool s1)] a) hS ?_ ?_
  · clear hS hf hs; clear a; intro s1 a w20 hM hS
    obtain ⟨F7, hs, hf⟩ := hM
    have hr := Option.some.inj hS; subst hr
    refine wp_ret ?_
    exact ret_ok hf (vs := [.bool s1]) (by kernel_rfl) ⟨_, rfl, hs.sel [] rfl rfl⟩
  · clear hS; intro KK1 k1 hK1 hS
    refine reg ?_
    refine st tbOk 4 [1, 3, 4, 5, 6, 7, 8, 10, 11, 12, 47] (L' := [(1, .pointer (some ⟨w.heap.size, 0, none⟩)), (3, .pointer (some ⟨w4.heap.size, 0, none⟩)), (4, .int .i64 z2.2), (5, .int .u64 z3.1), (6, .int .i64 z3.2), (7, .int .u64 z4.1), (8, .int .u64 z4.2), (10, .bool z5.2), (11, .slice ao2 z6.1.length cp2), (12, .int .i64 z6.2), (47, .bool (((z1.length : Nat) : Int) == 56))]) hf (by kernel_rfl) ?_
    clear hf; clear a; intro a hf
    rcases Bool.eq_false_or_eq_true (((z1.length : Nat) : Int) == 56) with hb1 | hb1
    · replace hS := of_t hb1 hS
      replace hf := Fr.cast (L' := [(1, .pointer (some ⟨w.heap.size, 0, none⟩)), (3, .pointer (some ⟨w4.heap.size, 0, none⟩)), (4, .int .i64 z2.2), (5, .int .u64 z3.1), (6, .int .i64 z3.2), (7, .int .u64 z4.1), (8, .int .u64 z4.2), (10, .bool z5.2), (11, .slice ao2 z6.1.length cp2), (12, .int .i64 z6.2), (47, .bool true)]) hf (by rw [hb1])
      refine ldC tbOk (T := 25) (hs.cbx 1 rfl) (LeH.refl _) 0 (.agg #[.int .u32 z2.1.1, .int .u32 z2.1.2.1, .int .u64 z2.1.2.2.1, .int .u64 z2.1.2.2.2.1, .int .u64 z2.1.2.2.2.2.1, .int .u64 z2.1.2.2.2.2.2.1, .int .u64 z2.1.2.2.2.2.2.2]) hf (by kernel_rfl) (by kernel_rfl) (by kernel_rfl) (by kernel_rfl) ?_
      clear hf; clear a; intro a hf
      replace hs : Sep w F R w15 F1 [.row 25 ty24 (.slice ao2 z6.1.length cp2) z6.1, .box w.heap.size 25 [.int .u32 1, .int .u32 5, .int .u64 256, .int .u64 256, .int .u64 100, .int .u64 300, .int .u64 0]] := hs.sel [0, 3] rfl rfl
      replace hf := Fr.keep (ks := [1, 4, 5, 6, 7, 8, 10, 11, 12, 47, 48]) (L' := [(1, .pointer (some ⟨w.heap.size, 0, none⟩)), (4, .int .i64 z2.2), (5, .int .u64 z3.1), (6, .int .i64 z3.2), (7, .int .u64 z4.1), (8, .int .u64 z4.2), (10, .bool z5.2), (11, .slice ao2 z6.1.length cp2), (12, .int .i64 z6.2), (47, .bool true), (48, .agg #[.int .u32 z2.1.1, .int .u32 z2.1.2.1, .int .u64 z2.1.2.2.1, .int .u64 z2.1.2.2.2.1, .int .u64 z2.1.2.2.2.2.1, .int .u64 z2.1.2.2.2.2.2.1, .int .u64 z2.1.2.2.2.2.2.2])]) hf (by kernel_rfl)
      refine ldC tbOk (T := 25) (hs.cbx 1 rfl) (LeH.refl _) 0 (.agg #[.int .u32 1, .int .u32 5, .int .u64 256, .int .u64 256, .int .u64 100, .int .u64 300, .int .u64 0]) hf (by kernel_rfl) (by kernel_rfl) (by kernel_rfl) (by kernel_rfl) ?_
      clear hf; clear a; intro a hf
      replace hf := Fr.keep (ks := [1, 4, 5, 6, 7, 8, 10, 11, 12, 47, 48, 49]) (L' := [(1, .pointer (some ⟨w.heap.size, 0, none⟩)), (4, .int .i64 z2.2), (5, .int .u64 z3.1), (6, .int .i64 z3.2), (7, .int .u64 z4.1), (8, .int .u64 z4.2), (10, .bool z5.2), (11, .slice ao2 z6.1.length cp2), (12, .int .i64 z6.2), (47, .bool true), (48, .agg #[.int .u32 z2.1.1, .int .u32 z2.1.2.1, .int .u64 z2.1.2.2.1, .int .u64 z2.1.2.2.2.1, .int .u64 z2.1.2.2.2.2.1, .int .u64 z2.1.2.2.2.2.2.1, .int .u64 z2.1.2.2.2.2.2.2]), (49, .agg #[.int .u32 1, .int .u32 5, .int .u64 256, .int .u64 256, .int .u64 100, .int .u64 300, .int .u64 0])]) hf (by kernel_rfl)
      refine st tbOk 3 [1, 4, 5, 6, 7, 8, 10, 11, 12, 52] (L' := [(1, .pointer (some ⟨w.heap.size, 0, none⟩)), (4, .int .i64 z2.2), (5, .int .u64 z3.1), (6, .int .i64 z3.2), (7, .int .u64 z4.1), (8, .int .u64 z4.2), (10, .bool z5.2), (11, .slice ao2 z6.1.length cp2), (12, .int .i64 z6.2), (52, .bool ((z2.1.1 == 1) && ((z2.1.2.1 == 5) && ((z2.1.2.2.1 == 256) && ((z2.1.2.2.2.1 == 256) && ((z2.1.2.2.2.2.1 == 100) && ((z2.1.2.2.2.2.2.1 == 300) && (z2.1.2.2.2.2.2.2 == 0))))))))]) hf (by kernel_rfl) ?_
      clear hf; clear a; intro a hf
      rcases Bool.eq_false_or_eq_true ((z2.1.1 == 1) && ((z2.1.2.1 == 5) && ((z2.1.2.2.1 == 256) && ((z2.1.2.2.2.1 == 256) && ((z2.1.2.2.2.2.1 == 100) && ((z2.1.2.2.2.2.2.1 == 300) && (z2.1.2.2.2.2.2.2 == 0))))))) with hb2 | hb2
      · replace hS := of_t hb2 hS
        replace hf := Fr.cast (L' := [(1, .pointer (some ⟨w.heap.size, 0, none⟩)), (4, .int .i64 z2.2), (5, .int .u64 z3.1), (6, .int .i64 z3.2), (7, .int .u64 z4.1), (8, .int .u64 z4.2), (10, .bool z5.2), (11, .slice ao2 z6.1.length cp2), (12, .int .i64 z6.2), (52, .bool true)]) hf (by rw [hb2])
        refine st tbOk 4 [1, 5, 6, 7, 8, 10, 11, 12, 56] (L' := [(1, .pointer (some ⟨w.heap.size, 0, none⟩)), (5, .int .u64 z3.1), (6, .int .i64 z3.2), (7, .int .u64 z4.1), (8, .int .u64 z4.2), (10, .bool z5.2), (11, .slice ao2 z6.1.length cp2), (12, .int .i64 z6.2), (56, .bool (z2.2 == 0))]) hf (by kernel_rfl) ?_
        clear hf; clear a; intro a hf
        rcases Bool.eq_false_or_eq_true (z2.2 == 0) with hb3 | hb3
        · replace hS := of_t hb3 hS
          replace hf := Fr.cast (L' := [(1, .pointer (some ⟨w.heap.size, 0, none⟩)), (5, .int .u64 z3.1), (6, .int .i64 z3.2), (7, .int .u64 z4.1), (8, .int .u64 z4.2), (10, .bool z5.2), (11, .slice ao2 z6.1.length cp2), (12, .int .i64 z6.2), (56, .bool true)]) hf (by rw [hb3])
          refine st tbOk 4 [1, 6, 7, 8, 10, 11, 12, 60] (L' := [(1, .pointer (some ⟨w.heap.size, 0, none⟩)), (6, .int .i64 z3.2), (7, .int .u64 z4.1), (8, .int .u64 z4.2), (10, .bool z5.2), (11, .slice ao2 z6.1.length cp2), (12, .int .i64 z6.2), (60, .bool (z3.1 == 300))]) hf (by kernel_rfl) ?_
          clear hf; clear a; intro a hf
          rcases Bool.eq_false_or_eq_true (z3.1 == 300) with hb4 | hb4
          · replace hS := of_t hb4 hS
            replace hf := Fr.cast (L' := [(1, .pointer (some ⟨w.heap.size, 0, none⟩)), (6, .int .i64 z3.2), (7, .int .u64 z4.1), (8, .int .u64 z4.2), (10, .bool z5.2), (11, .slice ao2 z6.1.length cp2), (12, .int .i64 z6.2), (60, .bool true)]) hf (by rw [hb4])
            refine st tbOk 4 [1, 7, 8, 10, 11, 12, 64] (L' := [(1, .pointer (some ⟨w.heap.size, 0, none⟩)), (7, .int .u64 z4.1), (8, .int .u64 z4.2), (10, .bool z5.2), (11, .slice ao2 z6.1.length cp2), (12, .int .i64 z6.2), (64, .bool (z3.2 == 0))]) hf (by kernel_rfl) ?_
            clear hf; clear a; intro a hf
            rcases Bool.eq_false_or_eq_true (z3.2 == 0) with hb5 | hb5
            · replace hS := of_t hb5 hS
              replace hf := Fr.cast (L' := [(1, .pointer (some ⟨w.heap.size, 0, none⟩)), (7, .int .u64 z4.1), (8, .int .u64 z4.2), (10, .bool z5.2), (11, .slice ao2 z6.1.length cp2), (12, .int .i64 z6.2), (64, .bool true)]) hf (by rw [hb5])
              refine st tbOk 4 [1, 8, 10, 11, 12, 68] (L' := [(1, .pointer (some ⟨w.heap.size, 0, none⟩)), (8, .int .u64 z4.2), (10, .bool z5.2), (11, .slice ao2 z6.1.length cp2), (12, .int .i64 z6.2), (68, .bool (z4.1 == 256))]) hf (by kernel_rfl) ?_
              clear hf; clear a; intro a hf
              rcases Bool.eq_false_or_eq_true (z4.1 == 256) with hb6 | hb6
              · replace hS := of_t hb6 hS
                replace hf := Fr.cast (L' := [(1, .pointer (some ⟨w.heap.size, 0, none⟩)), (8, .int .u64 z4.2), (10, .bool z5.2), (11, .slice ao2 z6.1.length cp2), (12, .int .i64 z6.2), (68, .bool true)]) hf (by rw [hb6])
                refine st tbOk 4 [1, 10, 11, 12, 72] (L' := [(1, .pointer (some ⟨w.heap.size, 0, none⟩)), (10, .bool z5.2), (11, .slice ao2 z6.1.length cp2), (12, .int .i64 z6.2), (72, .bool (z4.2 == 768))]) hf (by kernel_rfl) ?_
                clear hf; clear a; intro a hf
                rcases Bool.eq_false_or_eq_true (z4.2 == 768) with hb7 | hb7
                · replace hS := of_t hb7 hS
                  replace hf := Fr.cast (L' := [(1, .pointer (some ⟨w.heap.size, 0, none⟩)), (10, .bool z5.2), (11, .slice ao2 z6.1.length cp2), (12, .int .i64 z6.2), (72, .bool true)]) hf (by rw [hb7])
                  refine st tbOk 3 [1, 11, 12, 75] (L' := [(1, .pointer (some ⟨w.heap.size, 0, none⟩)), (11, .slice ao2 z6.1.length cp2), (12, .int .i64 z6.2), (75, .bool z5.2)]) hf (by kernel_rfl) ?_
                  clear hf; clear a; intro a hf
                  rcases Bool.eq_false_or_eq_true (z5.2) with hb8 | hb8
                  · replace hS := of_t hb8 hS
                    replace hf := Fr.cast (L' := [(1, .pointer (some ⟨w.heap.size, 0, none⟩)), (11, .slice ao2 z6.1.length cp2), (12, .int .i64 z6.2), (75, .bool true)]) hf (by rw [hb8])
                    refine st tbOk 5 [1, 12, 80] (L' := [(1, .pointer (some ⟨w.heap.size, 0, none⟩)), (12, .int .i64 z6.2), (80, .bool (((z6.1.length : Nat) : Int) == 1))]) hf (by kernel_rfl) ?_
                    clear hf; clear a; intro a hf
                    rcases Bool.eq_false_or_eq_true (((z6.1.length : Nat) : Int) == 1) with hb9 | hb9
                    · replace hS := of_t hb9 hS
                      replace hf := Fr.cast (L' := [(1, .pointer (some ⟨w.heap.size, 0, none⟩)), (12, .int .i64 z6.2), (80, .bool true)]) hf (by rw [hb9])
                      refine st tbOk 4 [1, 84] (L' := [(1, .pointer (some ⟨w.heap.size, 0, none⟩)), (84, .bool (z6.2 == 0))]) hf (by kernel_rfl) ?_
                      clear hf; clear a; intro a hf
                      rcases Bool.eq_false_or_eq_true (z6.2 == 0) with hb10 | hb10
                      · replace hS := of_t hb10 hS
                        replace hf := Fr.cast (L' := [(1, .pointer (some ⟨w.heap.size, 0, none⟩)), (84, .bool true)]) hf (by rw [hb10])
                        refine st tbOk 1 [1, 84, 85] (L' := [(1, .pointer (some ⟨w.heap.size, 0, none⟩)), (84, .bool true), (85, .agg #[.int .u32 1, .int .u32 0, .int .u64 0, .int .u64 0, .int .u64 10, .int .u64 5, .int .u64 0])]) hf (by kernel_rfl) ?_
                        clear hf; clear a; intro a hf
                        refine bsR tbOk u33 i25 rfl (t := ty24) (vs := [(0, .agg #[.int .u32 1, .int .u32 0, .int .u64 0, .int .u64 0, .int .u64 10, .int .u64 5, .int .u64 0])]) (cells := #[.int .u32 1, .int .u32 0, .int .u64 0, .int .u64 0, .int .u64 10, .int .u64 5, .int .u64 0]) ([(1, 0, 0, 0, 10, 5, 0)] : List (Int × Int × Int × Int × Int × Int × Int)) hs.le hf (by kernel_rfl) (by kernel_rfl) (by kernel_rfl) rfl (by kernel_rfl) (reps_flat _) rfl ?_
                        clear hf; clear a; intro w16 a ho hx hf
                        replace hs : Sep w F R w16 F1 [.row 25 ty24 (.slice (some ⟨w15.heap.size, 0, none⟩) ([(1, 0, 0, 0, 10, 5, 0)] : List (Int × Int × Int × Int × Int × Int × Int)).length ([(1, 0, 0, 0, 10, 5, 0)] : List (Int × Int × Int × Int × Int × Int × Int)).length) ([(1, 0, 0, 0, 10, 5, 0)] : List (Int × Int × Int × Int × Int × Int × Int)), .row 25 ty24 (.slice ao2 z6.1.length cp2) z6.1, .box w.heap.size 25 [.int .u32 1, .int .u32 5, .int .u64 256, .int .u64 256, .int .u64 100, .int .u64 300, .int .u64 0]] := hs.newRow ho hx
                        clear ho hx
                        replace hs : Sep w F R w16 F1 [.row 25 ty24 (.slice (some ⟨w15.heap.size, 0, none⟩) ([(1, 0, 0, 0, 10, 5, 0)] : List (Int × Int × Int × Int × Int × Int × Int)).length ([(1, 0, 0, 0, 10, 5, 0)] : List (Int × Int × Int × Int × Int × Int × Int)).length) ([(1, 0, 0, 0, 10, 5, 0)] : List (Int × Int × Int × Int × Int × Int × Int)), .box w.heap.size 25 [.int .u32 1, .int .u32 5, .int .u64 256, .int .u64 256, .int .u64 100, .int .u64 300, .int .u64 0]] := hs.sel [0, 2] rfl rfl
                        replace hf := Fr.keep (ks := [1, 84, 86]) (L' := [(1, .pointer (some ⟨w.heap.size, 0, none⟩)), (84, .bool true), (86, .slice (some ⟨w15.heap.size, 0, none⟩) ([(1, 0, 0, 0, 10, 5, 0)] : List (Int × Int × Int × Int × Int × Int × Int)).length ([(1, 0, 0, 0, 10, 5, 0)] : List (Int × Int × Int × Int × Int × Int × Int)).length)]) hf (by kernel_rfl)
                        have hT := of_bd hS; clear hS; obtain ⟨z7, hz7, hS⟩ := hT
                        refine clV ent18 (vs := [.slice (some ⟨w15.heap.size, 0, none⟩) ([(1, 0, 0, 0, 10, 5, 0)] : List (Int × Int × Int × Int × Int × Int × Int)).length ([(1, 0, 0, 0, 10, 5, 0)] : List (Int × Int × Int × Int × Int × Int × Int)).length, .int .u64 100]) (caps := []) hf (by kernel_rfl) (by kernel_rfl) (by kernel_rfl) (by kernel_rfl) (segs_Check_ok (p_l := ([(1, 0, 0, 0, 10, 5, 0)] : List (Int × Int × Int × Int × Int × Int × Int))) (size := 100) (hs.lend [0] [] rfl rfl rfl rfl rfl) hz7) ?_
                        clear hf; clear a; intro v w17 a hT hf; obtain ⟨F8, rfl, hr⟩ := hT
                        replace hs : Sep w F R w17 F1 [.row 25 ty24 (.slice (some ⟨w15.heap.size, 0, none⟩) ([(1, 0, 0, 0, 10, 5, 0)] : List (Int × Int × Int × Int × Int × Int × Int)).length ([(1, 0, 0, 0, 10, 5, 0)] : List (Int × Int × Int × Int × Int × Int × Int)).length) ([(1, 0, 0, 0, 10, 5, 0)] : List (Int × Int × Int × Int × Int × Int × Int)), .box w.heap.size 25 [.int .u32 1, .int .u32 5, .int .u64 256, .int .u64 256, .int .u64 100, .int .u64 300, .int .u64 0]] := hs.backL [0] [] [0, 1] rfl rfl rfl rfl rfl rfl hr trivial
                        clear hr
                        replace hs : Sep w F R w17 F1 [.box w.heap.size 25 [.int .u32 1, .int .u32 5, .int .u64 256, .int .u64 256, .int .u64 100, .int .u64 300, .int .u64 0]] := hs.sel [1] rfl rfl
                        replace hf := Fr.keep (ks := [1, 84, 87]) (L' := [(1, .pointer (some ⟨w.heap.size, 0, none⟩)), (84, .bool true), (87, .int .i64 z7)]) hf (by kernel_rfl)
                        refine st tbOk 3 [1, 90] (L' := [(1, .pointer (some ⟨w.heap.size, 0, none⟩)), (90, .bool (z7 == 11))]) hf (by kernel_rfl) ?_
                        clear hf; clear a; intro a hf
                        rcases Bool.eq_false_or_eq_true (z7 == 11) with hb11 | hb11
                        · replace hS := of_t hb11 hS
                          replace hf := Fr.cast (L' := [(1, .pointer (some ⟨w.heap.size, 0, none⟩)), (90, .bool true)]) hf (by rw [hb11])
                          refine ldC tbOk (T := 25) (hs.cbx 0 rfl) (LeH.refl _) 0 (.agg #[.int .u32 1, .int .u32 5, .int .u64 256, .int .u64 256, .int .u64 100, .int .u64 300, .int .u64 0]) hf (by kernel_rfl) (by kernel_rfl) (by kernel_rfl) (by kernel_rfl) ?_
                          clear hf; clear a; intro a hf
                          replace hs : Sep w F R w17 F1 [] := hs.sel [] rfl rfl
                          replace hf := Fr.keep (ks := [90, 91]) (L' := [(90, .bool true), (91, .agg #[.int .u32 1, .int .u32 5, .int .u64 256, .int .u64 256, .int .u64 100, .int .u64 300, .int .u64 0])]) hf (by kernel_rfl)
                          refine bsR tbOk u33 i25 rfl (t := ty24) (vs := [(0, .agg #[.int .u32 1, .int .u32 5, .int .u64 256, .int .u64 256, .int .u64 100, .int .u64 300, .int .u64 0])]) (cells := #[.int .u32 1, .int .u32 5, .int .u64 256, .int .u64 256, .int .u64 100, .int .u64 300, .int .u64 0]) ([(1, 5, 256, 256, 100, 300, 0)] : List (Int × Int × Int × Int × Int × Int × Int)) hs.le hf (by kernel_rfl) (by kernel_rfl) (by kernel_rfl) rfl (by kernel_rfl) (reps_flat _) rfl ?_
                          clear hf; clear a; intro w18 a ho hx hf
                          replace hs : Sep w F R w18 F1 [.row 25 ty24 (.slice (some ⟨w17.heap.size, 0, none⟩) ([(1, 5, 256, 256, 100, 300, 0)] : List (Int × Int × Int × Int × Int × Int × Int)).length ([(1, 5, 256, 256, 100, 300, 0)] : List (Int × Int × Int × Int × Int × Int × Int)).length) ([(1, 5, 256, 256, 100, 300, 0)] : List (Int × Int × Int × Int × Int × Int × Int))] := hs.newRow ho hx
                          clear ho hx
                          replace hf := Fr.keep (ks := [90, 92]) (L' := [(90, .bool true), (92, .slice (some ⟨w17.heap.size, 0, none⟩) ([(1, 5, 256, 256, 100, 300, 0)] : List (Int × Int × Int × Int × Int × Int × Int)).length ([(1, 5, 256, 256, 100, 300, 0)] : List (Int × Int × Int × Int × Int × Int × Int)).length)]) hf (by kernel_rfl)
                          have hT := of_bd hS; clear hS; obtain ⟨z8, hz8, hS⟩ := hT
                          refine clV ent18 (vs := [.slice (some ⟨w17.heap.size, 0, none⟩) ([(1, 5, 256, 256, 100, 300, 0)] : List (Int × Int × Int × Int × Int × Int × Int)).length ([(1, 5, 256, 256, 100, 300, 0)] : List (Int × Int × Int × Int × Int × Int × Int)).length, .int .u64 1000]) (caps := []) hf (by kernel_rfl) (by kernel_rfl) (by kernel_rfl) (by kernel_rfl) (segs_Check_ok (p_l := ([(1, 5, 256, 256, 100, 300, 0)] : List (Int × Int × Int × Int × Int × Int × Int))) (size := 1000) (hs.lend [0] [] rfl rfl rfl rfl rfl) hz8) ?_
                          clear hf; clear a; intro v w19 a hT hf; obtain ⟨F9, rfl, hr⟩ := hT
                          replace hs : Sep w F R w19 F1 [.row 25 ty24 (.slice (some ⟨w17.heap.size, 0, none⟩) ([(1, 5, 256, 256, 100, 300, 0)] : List (Int × Int × Int × Int × Int × Int × Int)).length ([(1, 5, 256, 256, 100, 300, 0)] : List (Int × Int × Int × Int × Int × Int × Int)).length) ([(1, 5, 256, 256, 100, 300, 0)] : List (Int × Int × Int × Int × Int × Int × Int))] := hs.backL [0] [] [0] rfl rfl rfl rfl rfl rfl hr trivial
                          clear hr
                          replace hs : Sep w F R w19 F1 [] := hs.sel [] rfl rfl
                          replace hf := Fr.keep (ks := [90, 93]) (L' := [(90, .bool true), (93, .int .i64 z8)]) hf (by kernel_rfl)
                          refine st tbOk 3 [0] (L' := [(0, .bool (z8 == 0))]) hf (by kernel_rfl) ?_
                          clear hf; clear a; intro a hf
                          refine wpList_nil ?_
                          exact hK1 (z8 == 0) _ _ ⟨_, hs.sel [] rfl rfl, hf.keep (ks := [0]) (by kernel_rfl)⟩ hS
                        · replace hS := of_f hb11 hS
                          replace hf := Fr.cast (L' := [(1, .pointer (some ⟨w.heap.size, 0, none⟩)), (90, .bool false)]) hf (by rw [hb11])
                          refine st tbOk 6 [0] (L' := [(0, .bool false)]) hf (by kernel_rfl) ?_
                          clear hf; clear a; intro a hf
                          refine wpList_nil ?_
                          exact hK1 false _ _ ⟨_, hs.sel [] rfl rfl, hf.keep (ks := [0]) (by kernel_rfl)⟩ hS
                      · replace hS := of_f hb10 hS
                        replace hf := Fr.cast (L' := [(1, .pointer (some ⟨w.heap.size, 0, none⟩)), (84, .bool false)]) hf (by rw [hb10])
                        refine st tbOk 12 [0] (L' := [(0, .bool false)]) hf (by kernel_rfl) ?_
                        clear hf; clear a; intro a hf
                        refine wpList_nil ?_
                        exact hK1 false _ _ ⟨_, hs.sel [] rfl rfl, hf.keep (ks := [0]) (by kernel_rfl)⟩ hS
                    · replace hS := of_f hb9 hS
                      replace hf := Fr.cast (L' := [(1, .pointer (some ⟨w.heap.size, 0, none⟩)), (12, .int .i64 z6.2), (80, .bool false)]) hf (by rw [hb9])
                      refine st tbOk 16 [0] (L' := [(0, .bool false)]) hf (by kernel_rfl) ?_
                      clear hf; clear a; intro a hf
                      refine wpList_nil ?_
                      exact hK1 false _ _ ⟨_, hs.sel [] rfl rfl, hf.keep (ks := [0]) (by kernel_rfl)⟩ hS
                  · replace hS := of_f hb8 hS
                    replace hf := Fr.cast (L' := [(1, .pointer (some ⟨w.heap.size, 0, none⟩)), (11, .slice ao2 z6.1.length cp2), (12, .int .i64 z6.2), (75, .bool false)]) hf (by rw [hb8])
                    refine st tbOk 21 [0] (L' := [(0, .bool false)]) hf (by kernel_rfl) ?_
                    clear hf; clear a; intro a hf
                    refine wpList_nil ?_
                    exact hK1 false _ _ ⟨_, hs.sel [] rfl rfl, hf.keep (ks := [0]) (by kernel_rfl)⟩ hS
                · replace hS := of_f hb7 hS
                  replace hf := Fr.cast (L' := [(1, .pointer (some ⟨w.heap.size, 0, none⟩)), (10, .bool z5.2), (11, .slice ao2 z6.1.length cp2), (12, .int .i64 z6.2), (72, .bool false)]) hf (by rw [hb7])
                  refine st tbOk 24 [0] (L' := [(0, .bool false)]) hf (by kernel_rfl) ?_
                  clear hf; clear a; intro a hf
                  refine wpList_nil ?_
                  exact hK1 false _ _ ⟨_, hs.sel [] rfl rfl, hf.keep (ks := [0]) (by kernel_rfl)⟩ hS
              · replace hS := of_f hb6 hS
                replace hf := Fr.cast (L' := [(1, .pointer (some ⟨w.heap.size, 0, none⟩)), (8, .int .u64 z4.2), (10, .bool z5.2), (11, .slice ao2 z6.1.length cp2), (12, .int .i64 z6.2), (68, .bool false)]) hf (by rw [hb6])
                refine st tbOk 28 [0] (L' := [(0, .bool false)]) hf (by kernel_rfl) ?_
                clear hf; clear a; intro a hf
                refine wpList_nil ?_
                exact hK1 false _ _ ⟨_, hs.sel [] rfl rfl, hf.keep (ks := [0]) (by kernel_rfl)⟩ hS
            · replace hS := of_f hb5 hS
              replace hf := Fr.cast (L' := [(1, .pointer (some ⟨w.heap.size, 0, none⟩)), (7, .int .u64 z4.1), (8, .int .u64 z4.2), (10, .bool z5.2), (11, .slice ao2 z6.1.length cp2), (12, .int .i64 z6.2), (64, .bool false)]) hf (by rw [hb5])
              refine st tbOk 32 [0] (L' := [(0, .bool false)]) hf (by kernel_rfl) ?_
              clear hf; clear a; intro a hf
              refine wpList_nil ?_
              exact hK1 false _ _ ⟨_, hs.sel [] rfl rfl, hf.keep (ks := [0]) (by kernel_rfl)⟩ hS
          · replace hS := of_f hb4 hS
            replace hf := Fr.cast (L' := [(1, .pointer (some ⟨w.heap.size, 0, none⟩)), (6, .int .i64 z3.2), (7, .int .u64 z4.1), (8, .int .u64 z4.2), (10, .bool z5.2), (11, .slice ao2 z6.1.length cp2), (12, .int .i64 z6.2), (60, .bool false)]) hf (by rw [hb4])
            refine st tbOk 36 [0] (L' := [(0, .bool false)]) hf (by kernel_rfl) ?_
            clear hf; clear a; intro a hf
            refine wpList_nil ?_
            exact hK1 false _ _ ⟨_, hs.sel [] rfl rfl, hf.keep (ks := [0]) (by kernel_rfl)⟩ hS
        · replace hS := of_f hb3 hS
          replace hf := Fr.cast (L' := [(1, .pointer (some ⟨w.heap.size, 0, none⟩)), (5, .int .u64 z3.1), (6, .int .i64 z3.2), (7, .int .u64 z4.1), (8, .int .u64 z4.2), (10, .bool z5.2), (11, .slice ao2 z6.1.length cp2), (12, .int .i64 z6.2), (56, .bool false)]) hf (by rw [hb3])
          refine st tbOk 40 [0] (L' := [(0, .bool false)]) hf (by kernel_rfl) ?_
          clear hf; clear a; intro a hf
          refine wpList_nil ?_
          exact hK1 false _ _ ⟨_, hs.sel [] rfl rfl, hf.keep (ks := [0]) (by kernel_rfl)⟩ hS
      · replace hS := of_f hb2 hS
        replace hf := Fr.cast (L' := [(1, .pointer (some ⟨w.heap.size, 0, none⟩)), (4, .int .i64 z2.2), (5, .int .u64 z3.1), (6, .int .i64 z3.2), (7, .int .u64 z4.1), (8, .int .u64 z4.2), (10, .bool z5.2), (11, .slice ao2 z6.1.length cp2), (12, .int .i64 z6.2), (52, .bool false)]) hf (by rw [hb2])
        refine st tbOk 44 [0] (L' := [(0, .bool false)]) hf (by kernel_rfl) ?_
        clear hf; clear a; intro a hf
        refine wpList_nil ?_
        exact hK1 false _ _ ⟨_, hs.sel [] rfl rfl, hf.keep (ks := [0]) (by kernel_rfl)⟩ hS
    · replace hS := of_f hb1 hS
      replace hf := Fr.cast (L' := [(1, .pointer (some ⟨w.heap.size, 0, none⟩)), (3, .pointer (some ⟨w4.heap.size, 0, none⟩)), (4, .int .i64 z2.2), (5, .int .u64 z3.1), (6, .int .i64 z3.2), (7, .int .u64 z4.1), (8, .int .u64 z4.2), (10, .bool z5.2), (11, .slice ao2 z6.1.length cp2), (12, .int .i64 z6.2), (47, .bool false)]) hf (by rw [hb1])
      refine st tbOk 49 [0] (L' := [(0, .bool false)]) hf (by kernel_rfl) ?_
      clear hf; clear a; intro a hf
      refine wpList_nil ?_
      exact hK1 false _ _ ⟨_, hs.sel [] rfl rfl, hf.keep (ks := [0]) (by kernel_rfl)⟩ hS

end Dm
