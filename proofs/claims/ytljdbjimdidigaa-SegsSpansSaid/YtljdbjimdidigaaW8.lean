/-
  The walks: a call of each Go function gives what its shallow form gives, where that form gives something; printed by a program of this repo. No condition.
-/
import Derived.Test.YtljdbjimdidigaaWT
import Derived.Test.YtljdbjimdidigaaW5
namespace Dm
open Go Go.RowKit Go.Proofs

set_option maxHeartbeats 4000000 in
theorem ref04_Span_ok {w : World} {F : SH} {p_l : List (Int × Int × Int × Int × Int × Int × Int)} {ao1 : Option Addr} {cp1 : Nat} (hs : Sep w F (blks [.ro ty24 (.slice ao1 p_l.length cp1) p_l]) w F [.ro ty24 (.slice ao1 p_l.length cp1) p_l]) {r : Int × Int} (hS : ref04_Span p_l = some r) :
    Calls Try.prog 25 [.slice ao1 p_l.length cp1].toArray w (Gives (fun u w' => ∃ (F' : SH), u = .tuple #[.int .u64 r.1, .int .u64 r.2] ∧ Sep w F (blks [.ro ty24 (.slice ao1 p_l.length cp1) p_l]) w' F' [])) := by
  generalize (blks [.ro ty24 (.slice ao1 p_l.length cp1) p_l]) = R at hs ⊢
  unfold ref04_Span at hS
  refine fn_ok (vs := [.slice ao1 p_l.length cp1]) Try.func25 rfl 34 Try.ntmps25 (Nat.le_of_ble_eq_true rfl) ?_
  intro a hf
  replace hf := Fr.cast (L' := [(0, .slice ao1 p_l.length cp1)]) hf (by kernel_rfl)
  refine sq ?_
  refine reg ?_
  refine st tbOk 2 [0] (L' := [(0, .slice ao1 p_l.length cp1)]) hf (by kernel_rfl) ?_
  clear hf; clear a; intro a hf
  refine wpList_nil ?_
  refine sq ?_
  refine reg ?_
  refine st tbOk 1 [0, 4] (L' := [(0, .slice ao1 p_l.length cp1), (4, .int .u64 0)]) hf (by kernel_rfl) ?_
  clear hf; clear a; intro a hf
  refine wpList_nil ?_
  refine sq ?_
  refine reg ?_
  refine st tbOk 1 [0, 4, 5] (L' := [(0, .slice ao1 p_l.length cp1), (4, .int .u64 0), (5, .int .u64 0)]) hf (by kernel_rfl) ?_
  clear hf; clear a; intro a hf
  refine wpList_nil ?_
  refine sq ?_
  refine reg ?_
  refine st tbOk 1 [0, 4, 5, 6] (L' := [(0, .slice ao1 p_l.length cp1), (4, .int .u64 0), (5, .int .u64 0), (6, .bool false)]) hf (by kernel_rfl) ?_
  clear hf; clear a; intro a hf
  refine wpList_nil ?_
  refine sq ?_
  refine sq ?_
  refine reg ?_
  refine st tbOk 1 [0, 4, 5, 6, 7] (L' := [(0, .slice ao1 p_l.length cp1), (4, .int .u64 0), (5, .int .u64 0), (6, .bool false), (7, .int .i64 0)]) hf (by kernel_rfl) ?_
  clear hf; clear a; intro a hf
  refine wpList_nil ?_
  refine ctj (fun (s1 : Int × Int) (a : Act) (w' : World) => ∃ (F1 : SH), Sep w F R w' F1 [] ∧ Fr 34 [(4, .int .u64 s1.1), (5, .int .u64 s1.2)] a) hS ?_ ?_
  · clear hS hf hs; clear a; intro s1 a w6 hM hS
    obtain ⟨F1, hs, hf⟩ := hM
    refine sq ?_
    refine reg ?_
    refine st tbOk 4 [2, 3] (L' := [(2, .int .u64 s1.1), (3, .int .u64 s1.2)]) hf (by kernel_rfl) ?_
    clear hf; clear a; intro a hf
    refine wpList_nil ?_
    have hr := Option.some.inj hS; subst hr
    refine wp_ret ?_
    exact ret_ok hf (vs := [.int .u64 s1.1, .int .u64 s1.2]) (by kernel_rfl) ⟨_, rfl, hs.sel [] rfl rfl⟩
  · clear hS; intro KK1 k1 hK1 hS
    refine blk ?_
    refine lp (st := (0, 0, false, 0)) (fun (s2 : Int × Int × Bool × Int) (a : Act) (w' : World) => ∃ (F2 : SH), Sep w F R w' F2 [.ro ty24 (.slice ao1 p_l.length cp1) p_l] ∧ Fr 34 [(0, .slice ao1 p_l.length cp1), (4, .int .u64 s2.1), (5, .int .u64 s2.2.1), (6, .bool s2.2.2.1), (7, .int .i64 s2.2.2.2)] a) ?_ ⟨_, hs.sel [0] rfl rfl, hf.keep (ks := [0, 4, 5, 6, 7]) (by kernel_rfl)⟩ hS
    clear hS hf hs; clear a
    intro rec1 KK2 hK2 s2 a w1 hM hS
    obtain ⟨F2, hs, hf⟩ := hM
    refine sq ?_
    refine sq ?_
    refine reg ?_
    refine st tbOk 4 [0, 4, 5, 6, 7, 11] (L' := [(0, .slice ao1 p_l.length cp1), (4, .int .u64 s2.1), (5, .int .u64 s2.2.1), (6, .bool s2.2.2.1), (7, .int .i64 s2.2.2.2), (11, .bool (decide (s2.2.2.2 < ((p_l.length : Nat) : Int))))]) hf (by kernel_rfl) ?_
    clear hf; clear a; intro a hf
    refine wpList_nil ?_
    refine cnd (b := decide (s2.2.2.2 < ((p_l.length : Nat) : Int))) hf (by kernel_rfl) (fun hb1 => ?_) (fun hb1 => ?_)
    · replace hS := of_t hb1 hS
      refine wp_skip ?_
      refine sq ?_
      refine ctj (fun (s3 : Int × Int × Bool) (a : Act) (w' : World) => ∃ (F3 : SH), Sep w F R w' F3 [.ro ty24 (.slice ao1 p_l.length cp1) p_l] ∧ Fr 34 [(0, .slice ao1 p_l.length cp1), (4, .int .u64 s3.1), (5, .int .u64 s3.2.1), (6, .bool s3.2.2), (7, .int .i64 s2.2.2.2)] a) hS ?_ ?_
      · clear hS hf hs; clear a; intro s3 a w5 hM hS
        obtain ⟨F3, hs, hf⟩ := hM
        refine reg ?_
        have hT := of_let hS; clear hS; obtain ⟨i_1, hl1, hS⟩ := hT
        refine st tbOk 3 [0, 4, 5, 6, 7] (L' := [(0, .slice ao1 p_l.length cp1), (4, .int .u64 s3.1), (5, .int .u64 s3.2.1), (6, .bool s3.2.2), (7, .int .i64 i_1)]) hf (by subst hl1; kernel_rfl) ?_
        clear hf; clear a; intro a hf
        refine wpList_nil ?_
        exact hK2 (s3.1, s3.2.1, s3.2.2, i_1) _ _ ⟨_, hs.sel [0] rfl rfl, hf.keep (ks := [0, 4, 5, 6, 7]) (by kernel_rfl)⟩ hS
      · clear hS; intro KK3 k2 hK3 hS
        refine blk ?_
        refine sq ?_
        refine sq ?_
        refine reg ?_
        refine st tbOk 2 [0, 4, 5, 6, 7, 14, 15] (L' := [(0, .slice ao1 p_l.length cp1), (4, .int .u64 s2.1), (5, .int .u64 s2.2.1), (6, .bool s2.2.2.1), (7, .int .i64 s2.2.2.2), (14, .slice ao1 p_l.length cp1), (15, .int .i64 s2.2.2.2)]) hf (by kernel_rfl) ?_
        clear hf; clear a; intro a hf
        have hT := of_gd hS; clear hS; obtain ⟨hc1, hS⟩ := hT
        refine ixR tbOk u33 i25 rfl rfl ((hs.ro 0 rfl).ra (LeH.refl _)) (k := .i64) (n := s2.2.2.2) hc1 hf (by kernel_rfl) (by kernel_rfl) (by kernel_rfl) (by kernel_rfl) ?_
        clear hf; clear a; intro pb1 po1 c1 a hp1 hr1 hf
        obtain rfl : c1 = [.int .u32 ((gt p_l s2.2.2.2).1), .int .u32 ((gt p_l s2.2.2.2).2.1), .int .u64 ((gt p_l s2.2.2.2).2.2.1), .int .u64 ((gt p_l s2.2.2.2).2.2.2.1), .int .u64 ((gt p_l s2.2.2.2).2.2.2.2.1), .int .u64 ((gt p_l s2.2.2.2).2.2.2.2.2.1), .int .u64 ((gt p_l s2.2.2.2).2.2.2.2.2.2)] := hr1
        replace hs : Sep w F R w1 F2 [.cel pb1 po1 [.int .u32 ((gt p_l s2.2.2.2).1), .int .u32 ((gt p_l s2.2.2.2).2.1), .int .u64 ((gt p_l s2.2.2.2).2.2.1), .int .u64 ((gt p_l s2.2.2.2).2.2.2.1), .int .u64 ((gt p_l s2.2.2.2).2.2.2.2.1), .int .u64 ((gt p_l s2.2.2.2).2.2.2.2.2.1), .int .u64 ((gt p_l s2.2.2.2).2.2.2.2.2.2)], .ro ty24 (.slice ao1 p_l.length cp1) p_l] := hs.addCel hp1
        replace hf := Fr.keep (ks := [0, 4, 5, 6, 7, 16]) (L' := [(0, .slice ao1 p_l.length cp1), (4, .int .u64 s2.1), (5, .int .u64 s2.2.1), (6, .bool s2.2.2.1), (7, .int .i64 s2.2.2.2), (16, .pointer (some ⟨pb1, po1, none⟩))]) hf (by kernel_rfl)
        refine st tbOk 1 [0, 4, 5, 6, 7, 17] (L' := [(0, .slice ao1 p_l.length cp1), (4, .int .u64 s2.1), (5, .int .u64 s2.2.1), (6, .bool s2.2.2.1), (7, .int .i64 s2.2.2.2), (17, .pointer (some ⟨pb1, po1, none⟩))]) hf (by kernel_rfl) ?_
        clear hf; clear a; intro a hf
        refine ldC tbOk (T := 22) (hs.ccel 0 rfl) (LeH.refl _) 0 (.int .u32 ((gt p_l s2.2.2.2).1)) hf (by kernel_rfl) (by kernel_rfl) (by kernel_rfl) (by kernel_rfl) ?_
        clear hf; clear a; intro a hf
        replace hs : Sep w F R w1 F2 [.ro ty24 (.slice ao1 p_l.length cp1) p_l] := hs.sel [1] rfl rfl
        replace hf := Fr.keep (ks := [0, 4, 5, 6, 7, 18]) (L' := [(0, .slice ao1 p_l.length cp1), (4, .int .u64 s2.1), (5, .int .u64 s2.2.1), (6, .bool s2.2.2.1), (7, .int .i64 s2.2.2.2), (18, .int .u32 ((gt p_l s2.2.2.2).1))]) hf (by kernel_rfl)
        refine st tbOk 1 [0, 4, 5, 6, 7, 19] (L' := [(0, .slice ao1 p_l.length cp1), (4, .int .u64 s2.1), (5, .int .u64 s2.2.1), (6, .bool s2.2.2.1), (7, .int .i64 s2.2.2.2), (19, .bool (((gt p_l s2.2.2.2).1) != 1))]) hf (by kernel_rfl) ?_
        clear hf; clear a; intro a hf
        refine wpList_nil ?_
        refine cnd (b := ((gt p_l s2.2.2.2).1) != 1) hf (by kernel_rfl) (fun hb2 => ?_) (fun hb2 => ?_)
        · replace hS := of_t hb2 hS
          refine wp_exit ?_
          exact hK3 (s2.1, s2.2.1, s2.2.2.1) _ _ ⟨_, hs.sel [0] rfl rfl, hf.keep (ks := [0, 4, 5, 6, 7]) (by kernel_rfl)⟩ hS
        · replace hS := of_f hb2 hS
          refine wp_skip ?_
          refine sq ?_
          refine sq ?_
          refine reg ?_
          refine st tbOk 2 [0, 4, 7, 21] (L' := [(0, .slice ao1 p_l.length cp1), (4, .int .u64 s2.1), (7, .int .i64 s2.2.2.2), (21, .bool (!s2.2.2.1))]) hf (by kernel_rfl) ?_
          clear hf; clear a; intro a hf
          refine wpList_nil ?_
          refine ctj (fun (s4 : Int) (a : Act) (w' : World) => ∃ (F4 : SH), Sep w F R w' F4 [.ro ty24 (.slice ao1 p_l.length cp1) p_l] ∧ Fr 34 [(0, .slice ao1 p_l.length cp1), (4, .int .u64 s4), (7, .int .i64 s2.2.2.2)] a) hS ?_ ?_
          · clear hS hf hs; clear a; intro s4 a w3 hM hS
            obtain ⟨F4, hs, hf⟩ := hM
            refine sq ?_
            refine reg ?_
            refine st tbOk 1 [0, 4, 6, 7] (L' := [(0, .slice ao1 p_l.length cp1), (4, .int .u64 s4), (6, .bool true), (7, .int .i64 s2.2.2.2)]) hf (by kernel_rfl) ?_
            clear hf; clear a; intro a hf
            refine wpList_nil ?_
            refine reg ?_
            refine st tbOk 2 [0, 4, 6, 7, 27, 28] (L' := [(0, .slice ao1 p_l.length cp1), (4, .int .u64 s4), (6, .bool true), (7, .int .i64 s2.2.2.2), (27, .slice ao1 p_l.length cp1), (28, .int .i64 s2.2.2.2)]) hf (by kernel_rfl) ?_
            clear hf; clear a; intro a hf
            have hT := of_gd hS; clear hS; obtain ⟨hc3, hS⟩ := hT
            refine ixR tbOk u33 i25 rfl rfl ((hs.ro 0 rfl).ra (LeH.refl _)) (k := .i64) (n := s2.2.2.2) hc3 hf (by kernel_rfl) (by kernel_rfl) (by kernel_rfl) (by kernel_rfl) ?_
            clear hf; clear a; intro pb3 po3 c3 a hp3 hr3 hf
            obtain rfl : c3 = [.int .u32 ((gt p_l s2.2.2.2).1), .int .u32 ((gt p_l s2.2.2.2).2.1), .int .u64 ((gt p_l s2.2.2.2).2.2.1), .int .u64 ((gt p_l s2.2.2.2).2.2.2.1), .int .u64 ((gt p_l s2.2.2.2).2.2.2.2.1), .int .u64 ((gt p_l s2.2.2.2).2.2.2.2.2.1), .int .u64 ((gt p_l s2.2.2.2).2.2.2.2.2.2)] := hr3
            replace hs : Sep w F R w3 F4 [.cel pb3 po3 [.int .u32 ((gt p_l s2.2.2.2).1), .int .u32 ((gt p_l s2.2.2.2).2.1), .int .u64 ((gt p_l s2.2.2.2).2.2.1), .int .u64 ((gt p_l s2.2.2.2).2.2.2.1), .int .u64 ((gt p_l s2.2.2.2).2.2.2.2.1), .int .u64 ((gt p_l s2.2.2.2).2.2.2.2.2.1), .int .u64 ((gt p_l s2.2.2.2).2.2.2.2.2.2)], .ro ty24 (.slice ao1 p_l.length cp1) p_l] := hs.addCel hp3
            replace hf := Fr.keep (ks := [0, 4, 6, 7, 29]) (L' := [(0, .slice ao1 p_l.length cp1), (4, .int .u64 s4), (6, .bool true), (7, .int .i64 s2.2.2.2), (29, .pointer (some ⟨pb3, po3, none⟩))]) hf (by kernel_rfl)
            refine ldC tbOk (T := 25) (hs.ccel 0 rfl) (LeH.refl _) 0 (.agg #[.int .u32 ((gt p_l s2.2.2.2).1), .int .u32 ((gt p_l s2.2.2.2).2.1), .int .u64 ((gt p_l s2.2.2.2).2.2.1), .int .u64 ((gt p_l s2.2.2.2).2.2.2.1), .int .u64 ((gt p_l s2.2.2.2).2.2.2.2.1), .int .u64 ((gt p_l s2.2.2.2).2.2.2.2.2.1), .int .u64 ((gt p_l s2.2.2.2).2.2.2.2.2.2)]) hf (by kernel_rfl) (by kernel_rfl) (by kernel_rfl) (by kernel_rfl) ?_
            clear hf; clear a; intro a hf
            replace hs : Sep w F R w3 F4 [.ro ty24 (.slice ao1 p_l.length cp1) p_l] := hs.sel [1] rfl rfl
            replace hf := Fr.keep (ks := [0, 4, 6, 7, 30]) (L' := [(0, .slice ao1 p_l.length cp1), (4, .int .u64 s4), (6, .bool true), (7, .int .i64 s2.2.2.2), (30, .agg #[.int .u32 ((gt p_l s2.2.2.2).1), .int .u32 ((gt p_l s2.2.2.2).2.1), .int .u64 ((gt p_l s2.2.2.2).2.2.1), .int .u64 ((gt p_l s2.2.2.2).2.2.2.1), .int .u64 ((gt p_l s2.2.2.2).2.2.2.2.1), .int .u64 ((gt p_l s2.2.2.2).2.2.2.2.2.1), .int .u64 ((gt p_l s2.2.2.2).2.2.2.2.2.2)])]) hf (by kernel_rfl)
            have hT := of_bd hS; clear hS; obtain ⟨z2, hz2, hS⟩ := hT
            refine clV ent38 (vs := [.agg #[.int .u32 ((gt p_l s2.2.2.2).1), .int .u32 ((gt p_l s2.2.2.2).2.1), .int .u64 ((gt p_l s2.2.2.2).2.2.1), .int .u64 ((gt p_l s2.2.2.2).2.2.2.1), .int .u64 ((gt p_l s2.2.2.2).2.2.2.2.1), .int .u64 ((gt p_l s2.2.2.2).2.2.2.2.2.1), .int .u64 ((gt p_l s2.2.2.2).2.2.2.2.2.2)]]) (caps := []) hf (by kernel_rfl) (by kernel_rfl) (by kernel_rfl) (by kernel_rfl) (ref04_Behind_ok (p_s := gt p_l s2.2.2.2) (hs.enter [] rfl rfl) hz2) ?_
            clear hf; clear a; intro v w4 a hT hf; obtain ⟨F6, rfl, hr⟩ := hT
            replace hs : Sep w F R w4 F6 [.ro ty24 (.slice ao1 p_l.length cp1) p_l] := hs.back [] [0] rfl rfl rfl rfl hr
            clear hr
            replace hf := Fr.keep (ks := [0, 4, 6, 7, 31]) (L' := [(0, .slice ao1 p_l.length cp1), (4, .int .u64 s4), (6, .bool true), (7, .int .i64 s2.2.2.2), (31, .int .u64 z2)]) hf (by kernel_rfl)
            refine st tbOk 1 [0, 4, 5, 6, 7] (L' := [(0, .slice ao1 p_l.length cp1), (4, .int .u64 s4), (5, .int .u64 z2), (6, .bool true), (7, .int .i64 s2.2.2.2)]) hf (by kernel_rfl) ?_
            clear hf; clear a; intro a hf
            refine wpList_nil ?_
            exact hK3 (s4, z2, true) _ _ ⟨_, hs.sel [0] rfl rfl, hf.keep (ks := [0, 4, 5, 6, 7]) (by kernel_rfl)⟩ hS
          · clear hS; intro KK4 k3 hK4 hS
            refine cnd (b := !s2.2.2.1) hf (by kernel_rfl) (fun hb3 => ?_) (fun hb3 => ?_)
            · replace hS := of_t hb3 hS
              refine reg ?_
              refine st tbOk 2 [0, 7, 22, 23] (L' := [(0, .slice ao1 p_l.length cp1), (7, .int .i64 s2.2.2.2), (22, .slice ao1 p_l.length cp1), (23, .int .i64 s2.2.2.2)]) hf (by kernel_rfl) ?_
              clear hf; clear a; intro a hf
              have hT := of_gd hS; clear hS; obtain ⟨hc2, hS⟩ := hT
              refine ixR tbOk u33 i25 rfl rfl ((hs.ro 0 rfl).ra (LeH.refl _)) (k := .i64) (n := s2.2.2.2) hc2 hf (by kernel_rfl) (by kernel_rfl) (by kernel_rfl) (by kernel_rfl) ?_
              clear hf; clear a; intro pb2 po2 c2 a hp2 hr2 hf
              obtain rfl : c2 = [.int .u32 ((gt p_l s2.2.2.2).1), .int .u32 ((gt p_l s2.2.2.2).2.1), .int .u64 ((gt p_l s2.2.2.2).2.2.1), .int .u64 ((gt p_l s2.2.2.2).2.2.2.1), .int .u64 ((gt p_l s2.2.2.2).2.2.2.2.1), .int .u64 ((gt p_l s2.2.2.2).2.2.2.2.2.1), .int .u64 ((gt p_l s2.2.2.2).2.2.2.2.2.2)] := hr2
              replace hs : Sep w F R w1 F2 [.cel pb2 po2 [.int .u32 ((gt p_l s2.2.2.2).1), .int .u32 ((gt p_l s2.2.2.2).2.1), .int .u64 ((gt p_l s2.2.2.2).2.2.1), .int .u64 ((gt p_l s2.2.2.2).2.2.2.1), .int .u64 ((gt p_l s2.2.2.2).2.2.2.2.1), .int .u64 ((gt p_l s2.2.2.2).2.2.2.2.2.1), .int .u64 ((gt p_l s2.2.2.2).2.2.2.2.2.2)], .ro ty24 (.slice ao1 p_l.length cp1) p_l] := hs.addCel hp2
              replace hf := Fr.keep (ks := [0, 7, 24]) (L' := [(0, .slice ao1 p_l.length cp1), (7, .int .i64 s2.2.2.2), (24, .pointer (some ⟨pb2, po2, none⟩))]) hf (by kernel_rfl)
              refine ldC tbOk (T := 25) (hs.ccel 0 rfl) (LeH.refl _) 0 (.agg #[.int .u32 ((gt p_l s2.2.2.2).1), .int .u32 ((gt p_l s2.2.2.2).2.1), .int .u64 ((gt p_l s2.2.2.2).2.2.1), .int .u64 ((gt p_l s2.2.2.2).2.2.2.1), .int .u64 ((gt p_l s2.2.2.2).2.2.2.2.1), .int .u64 ((gt p_l s2.2.2.2).2.2.2.2.2.1), .int .u64 ((gt p_l s2.2.2.2).2.2.2.2.2.2)]) hf (by kernel_rfl) (by kernel_rfl) (by kernel_rfl) (by kernel_rfl) ?_
              clear hf; clear a; intro a hf
              replace hs : Sep w F R w1 F2 [.ro ty24 (.slice ao1 p_l.length cp1) p_l] := hs.sel [1] rfl rfl
              replace hf := Fr.keep (ks := [0, 7, 25]) (L' := [(0, .slice ao1 p_l.length cp1), (7, .int .i64 s2.2.2.2), (25, .agg #[.int .u32 ((gt p_l s2.2.2.2).1), .int .u32 ((gt p_l s2.2.2.2).2.1), .int .u64 ((gt p_l s2.2.2.2).2.2.1), .int .u64 ((gt p_l s2.2.2.2).2.2.2.1), .int .u64 ((gt p_l s2.2.2.2).2.2.2.2.1), .int .u64 ((gt p_l s2.2.2.2).2.2.2.2.2.1), .int .u64 ((gt p_l s2.2.2.2).2.2.2.2.2.2)])]) hf (by kernel_rfl)
              have hT := of_bd hS; clear hS; obtain ⟨z1, hz1, hS⟩ := hT
              refine clV ent37 (vs := [.agg #[.int .u32 ((gt p_l s2.2.2.2).1), .int .u32 ((gt p_l s2.2.2.2).2.1), .int .u64 ((gt p_l s2.2.2.2).2.2.1), .int .u64 ((gt p_l s2.2.2.2).2.2.2.1), .int .u64 ((gt p_l s2.2.2.2).2.2.2.2.1), .int .u64 ((gt p_l s2.2.2.2).2.2.2.2.2.1), .int .u64 ((gt p_l s2.2.2.2).2.2.2.2.2.2)]]) (caps := []) hf (by kernel_rfl) (by kernel_rfl) (by kernel_rfl) (by kernel_rfl) (ref04_First_ok (p_s := gt p_l s2.2.2.2) (hs.enter [] rfl rfl) hz1) ?_
              clear hf; clear a; intro v w2 a hT hf; obtain ⟨F5, rfl, hr⟩ := hT
              replace hs : Sep w F R w2 F5 [.ro ty24 (.slice ao1 p_l.length cp1) p_l] := hs.back [] [0] rfl rfl rfl rfl hr
              clear hr
              replace hf := Fr.keep (ks := [0, 7, 26]) (L' := [(0, .slice ao1 p_l.length cp1), (7, .int .i64 s2.2.2.2), (26, .int .u64 z1)]) hf (by kernel_rfl)
              refine st tbOk 1 [0, 4, 7] (L' := [(0, .slice ao1 p_l.length cp1), (4, .int .u64 z1), (7, .int .i64 s2.2.2.2)]) hf (by kernel_rfl) ?_
              clear hf; clear a; intro a hf
              refine wpList_nil ?_
              exact hK4 z1 _ _ ⟨_, hs.sel [0] rfl rfl, hf.keep (ks := [0, 4, 7]) (by kernel_rfl)⟩ hS
            · replace hS := of_f hb3 hS
              refine wp_skip ?_
              exact hK4 s2.1 _ _ ⟨_, hs.sel [0] rfl rfl, hf.keep (ks := [0, 4, 7]) (by kernel_rfl)⟩ hS
    · replace hS := of_f hb1 hS
      refine wp_exit ?_
      exact hK1 (s2.1, s2.2.1) _ _ ⟨_, hs.sel [] rfl rfl, hf.keep (ks := [4, 5]) (by kernel_rfl)⟩ hS

end Dm
