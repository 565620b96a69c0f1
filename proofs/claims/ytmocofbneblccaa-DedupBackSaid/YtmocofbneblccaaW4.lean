/-
  The walks: a call of each Go function gives what its shallow form gives, where that form gives something; printed by a program of this repo. No condition.
-/
import Derived.Test.YtmocofbneblccaaWT
namespace Dm
open Go Go.RowKit Go.Proofs

set_option maxHeartbeats 4000000 in
theorem law21_few_ok {w : World} {F : SH} {p_l : List (Int × Int × Bool × (List UInt8) × Int × (List Int))} {files : List ((List UInt8) × (List Int))} {ao1 : Option Addr} {cp1 : Nat} {ao2 : Option Addr} {cp2 : Nat} (hs : Sep w F (blks [.ro ty55 (.slice ao1 p_l.length cp1) p_l, .ro ty60 (.slice ao2 files.length cp2) files]) w F [.ro ty55 (.slice ao1 p_l.length cp1) p_l, .ro ty60 (.slice ao2 files.length cp2) files]) {r : Bool} (hS : law21_few p_l files = some r) :
    Calls Try.prog 14 [.slice ao1 p_l.length cp1, .slice ao2 files.length cp2].toArray w (Gives (fun u w' => ∃ (F' : SH), u = .bool r ∧ Sep w F (blks [.ro ty55 (.slice ao1 p_l.length cp1) p_l, .ro ty60 (.slice ao2 files.length cp2) files]) w' F' [])) := by
  generalize (blks [.ro ty55 (.slice ao1 p_l.length cp1) p_l, .ro ty60 (.slice ao2 files.length cp2) files]) = R at hs ⊢
  unfold law21_few at hS
  refine fn_ok (vs := [.slice ao1 p_l.length cp1, .slice ao2 files.length cp2]) Try.func14 rfl 41 Try.ntmps14 (Nat.le_of_ble_eq_true rfl) ?_
  intro a hf
  replace hf := Fr.cast (L' := [(0, .slice ao1 p_l.length cp1), (1, .slice ao2 files.length cp2)]) hf (by kernel_rfl)
  refine sq ?_
  refine reg ?_
  refine st tbOk 1 [0, 1] (L' := [(0, .slice ao1 p_l.length cp1), (1, .slice ao2 files.length cp2)]) hf (by kernel_rfl) ?_
  clear hf; clear a; intro a hf
  refine wpList_nil ?_
  refine sq ?_
  refine sq ?_
  refine ctj (fun (s1 : Bool) (a : Act) (w' : World) => ∃ (F1 : SH), Sep w F R w' F1 [.ro ty55 (.slice ao1 p_l.length cp1) p_l, .ro ty60 (.slice ao2 files.length cp2) files] ∧ Fr 41 [(0, .slice ao1 p_l.length cp1), (1, .slice ao2 files.length cp2), (14, .bool s1)] a) hS ?_ ?_
  · clear hS hf hs; clear a; intro s1 a w1 hM hS
    obtain ⟨F1, hs, hf⟩ := hM
    refine cnd (b := s1) hf (by kernel_rfl) (fun hb2 => ?_) (fun hb2 => ?_)
    · replace hS := of_t hb2 hS
      refine sq ?_
      refine reg ?_
      refine st tbOk 1 [4] (L' := [(4, .bool false)]) hf (by kernel_rfl) ?_
      clear hf; clear a; intro a hf
      refine wpList_nil ?_
      have hr := Option.some.inj hS; subst hr
      refine wp_ret ?_
      exact ret_ok hf (vs := [.bool false]) (by kernel_rfl) ⟨_, rfl, hs.sel [] rfl rfl⟩
    · replace hS := of_f hb2 hS
      refine wp_skip ?_
      refine sq ?_
      refine sq ?_
      refine reg ?_
      refine st tbOk 1 [0, 1, 5] (L' := [(0, .slice ao1 p_l.length cp1), (1, .slice ao2 files.length cp2), (5, .int .i64 0)]) hf (by kernel_rfl) ?_
      clear hf; clear a; intro a hf
      refine wpList_nil ?_
      refine ctj (fun (s2 : Unit) (a : Act) (w' : World) => ∃ (F2 : SH), Sep w F R w' F2 [.ro ty60 (.slice ao2 files.length cp2) files] ∧ Fr 41 [(1, .slice ao2 files.length cp2)] a) hS ?_ ?_
      · clear hS hf hs; clear a; intro s2 a w3 hM hS
        obtain ⟨F2, hs, hf⟩ := hM
        refine sq ?_
        refine sq ?_
        refine reg ?_
        refine st tbOk 1 [1, 6] (L' := [(1, .slice ao2 files.length cp2), (6, .int .i64 0)]) hf (by kernel_rfl) ?_
        clear hf; clear a; intro a hf
        refine wpList_nil ?_
        refine ctj (fun (s4 : Unit) (a : Act) (w' : World) => ∃ (F4 : SH), Sep w F R w' F4 [] ∧ Fr 41 [] a) hS ?_ ?_
        · clear hS hf hs; clear a; intro s4 a w5 hM hS
          obtain ⟨F4, hs, hf⟩ := hM
          refine sq ?_
          refine reg ?_
          refine st tbOk 1 [4] (L' := [(4, .bool true)]) hf (by kernel_rfl) ?_
          clear hf; clear a; intro a hf
          refine wpList_nil ?_
          have hr := Option.some.inj hS; subst hr
          refine wp_ret ?_
          exact ret_ok hf (vs := [.bool true]) (by kernel_rfl) ⟨_, rfl, hs.sel [] rfl rfl⟩
        · clear hS; intro KK4 k3 hK4 hS
          refine blk ?_
          refine lp (st := 0) (fun (s5 : Int) (a : Act) (w' : World) => ∃ (F5 : SH), Sep w F R w' F5 [.ro ty60 (.slice ao2 files.length cp2) files] ∧ Fr 41 [(1, .slice ao2 files.length cp2), (6, .int .i64 s5)] a) ?_ ⟨_, hs.sel [0] rfl rfl, hf.keep (ks := [1, 6]) (by kernel_rfl)⟩ hS
          clear hS hf hs; clear a
          intro rec2 KK5 hK5 s5 a w4 hM hS
          obtain ⟨F5, hs, hf⟩ := hM
          refine sq ?_
          refine sq ?_
          refine reg ?_
          refine st tbOk 4 [1, 6, 31] (L' := [(1, .slice ao2 files.length cp2), (6, .int .i64 s5), (31, .bool (decide (s5 < ((files.length : Nat) : Int))))]) hf (by kernel_rfl) ?_
          clear hf; clear a; intro a hf
          refine wpList_nil ?_
          refine cnd (b := decide (s5 < ((files.length : Nat) : Int))) hf (by kernel_rfl) (fun hb5 => ?_) (fun hb5 => ?_)
          · replace hS := of_t hb5 hS
            refine wp_skip ?_
            refine sq ?_
            refine blk ?_
            refine sq ?_
            refine reg ?_
            refine st tbOk 2 [1, 6, 34, 35] (L' := [(1, .slice ao2 files.length cp2), (6, .int .i64 s5), (34, .slice ao2 files.length cp2), (35, .int .i64 s5)]) hf (by kernel_rfl) ?_
            clear hf; clear a; intro a hf
            have hT := of_gd hS; clear hS; obtain ⟨hc2, hS⟩ := hT
            refine ixR tbOk u24 i61 rfl rfl ((hs.ro 0 rfl).ra (LeH.refl _)) (k := .i64) (n := s5) hc2 hf (by kernel_rfl) (by kernel_rfl) (by kernel_rfl) (by kernel_rfl) ?_
            clear hf; clear a; intro pb2 po2 c2 a hp2 hr3 hf
            obtain ⟨ao4, cp4, rfl, hr4⟩ := hr3
            replace hs : Sep w F R w4 F5 [.ro (tI .u8) (.slice ao4 ((gt files s5).2).length cp4) ((gt files s5).2), .ro ty60 (.slice ao2 files.length cp2) files] := hs.addRo hr4
            replace hs : Sep w F R w4 F5 [.cel pb2 po2 [strV ((gt files s5).1), .slice ao4 ((gt files s5).2).length cp4], .ro (tI .u8) (.slice ao4 ((gt files s5).2).length cp4) ((gt files s5).2), .ro ty60 (.slice ao2 files.length cp2) files] := hs.addCel hp2
            replace hf := Fr.keep (ks := [1, 6, 36]) (L' := [(1, .slice ao2 files.length cp2), (6, .int .i64 s5), (36, .pointer (some ⟨pb2, po2, none⟩))]) hf (by kernel_rfl)
            refine st tbOk 1 [1, 6, 37] (L' := [(1, .slice ao2 files.length cp2), (6, .int .i64 s5), (37, .pointer (some ⟨pb2, po2 + 1, none⟩))]) hf (by kernel_rfl) ?_
            clear hf; clear a; intro a hf
            refine ldC tbOk (T := 22) (hs.ccel 0 rfl) (LeH.refl _) 1 (.slice ao4 ((gt files s5).2).length cp4) hf (by kernel_rfl) (by kernel_rfl) (by kernel_rfl) (by kernel_rfl) ?_
            clear hf; clear a; intro a hf
            replace hs : Sep w F R w4 F5 [.ro (tI .u8) (.slice ao4 ((gt files s5).2).length cp4) ((gt files s5).2), .ro ty60 (.slice ao2 files.length cp2) files] := hs.sel [1, 2] rfl rfl
            replace hf := Fr.keep (ks := [1, 6, 38]) (L' := [(1, .slice ao2 files.length cp2), (6, .int .i64 s5), (38, .slice ao4 ((gt files s5).2).length cp4)]) hf (by kernel_rfl)
            refine st tbOk 2 [1, 6, 40] (L' := [(1, .slice ao2 files.length cp2), (6, .int .i64 s5), (40, .bool (decide (((((gt files s5).2).length : Nat) : Int) > 3000)))]) hf (by kernel_rfl) ?_
            clear hf; clear a; intro a hf
            refine wpList_nil ?_
            refine cnd (b := decide (((((gt files s5).2).length : Nat) : Int) > 3000)) hf (by kernel_rfl) (fun hb6 => ?_) (fun hb6 => ?_)
            · replace hS := of_t hb6 hS
              refine sq ?_
              refine reg ?_
              refine st tbOk 1 [4] (L' := [(4, .bool false)]) hf (by kernel_rfl) ?_
              clear hf; clear a; intro a hf
              refine wpList_nil ?_
              have hr := Option.some.inj hS; subst hr
              refine wp_ret ?_
              exact ret_ok hf (vs := [.bool false]) (by kernel_rfl) ⟨_, rfl, hs.sel [] rfl rfl⟩
            · replace hS := of_f hb6 hS
              refine wp_skip ?_
              refine reg ?_
              have hT := of_let hS; clear hS; obtain ⟨i_2, hl2, hS⟩ := hT
              refine st tbOk 3 [1, 6] (L' := [(1, .slice ao2 files.length cp2), (6, .int .i64 i_2)]) hf (by subst hl2; kernel_rfl) ?_
              clear hf; clear a; intro a hf
              refine wpList_nil ?_
              exact hK5 i_2 _ _ ⟨_, hs.sel [1] rfl rfl, hf.keep (ks := [1, 6]) (by kernel_rfl)⟩ hS
          · replace hS := of_f hb5 hS
            refine wp_exit ?_
            exact hK4 () _ _ ⟨_, hs.sel [] rfl rfl, hf.keep (ks := []) (by kernel_rfl)⟩ hS
      · clear hS; intro KK2 k2 hK2 hS
        refine blk ?_
        refine lp (st := 0) (fun (s3 : Int) (a : Act) (w' : World) => ∃ (F3 : SH), Sep w F R w' F3 [.ro ty55 (.slice ao1 p_l.length cp1) p_l, .ro ty60 (.slice ao2 files.length cp2) files] ∧ Fr 41 [(0, .slice ao1 p_l.length cp1), (1, .slice ao2 files.length cp2), (5, .int .i64 s3)] a) ?_ ⟨_, hs.sel [0, 1] rfl rfl, hf.keep (ks := [0, 1, 5]) (by kernel_rfl)⟩ hS
        clear hS hf hs; clear a
        intro rec1 KK3 hK3 s3 a w2 hM hS
        obtain ⟨F3, hs, hf⟩ := hM
        refine sq ?_
        refine sq ?_
        refine reg ?_
        refine st tbOk 4 [0, 1, 5, 18] (L' := [(0, .slice ao1 p_l.length cp1), (1, .slice ao2 files.length cp2), (5, .int .i64 s3), (18, .bool (decide (s3 < ((p_l.length : Nat) : Int))))]) hf (by kernel_rfl) ?_
        clear hf; clear a; intro a hf
        refine wpList_nil ?_
        refine cnd (b := decide (s3 < ((p_l.length : Nat) : Int))) hf (by kernel_rfl) (fun hb3 => ?_) (fun hb3 => ?_)
        · replace hS := of_t hb3 hS
          refine wp_skip ?_
          refine sq ?_
          refine blk ?_
          refine sq ?_
          refine reg ?_
          refine st tbOk 2 [0, 1, 5, 21, 22] (L' := [(0, .slice ao1 p_l.length cp1), (1, .slice ao2 files.length cp2), (5, .int .i64 s3), (21, .slice ao1 p_l.length cp1), (22, .int .i64 s3)]) hf (by kernel_rfl) ?_
          clear hf; clear a; intro a hf
          have hT := of_gd hS; clear hS; obtain ⟨hc1, hS⟩ := hT
          refine ixR tbOk u35 i56 rfl rfl ((hs.ro 0 rfl).ra (LeH.refl _)) (k := .i64) (n := s3) hc1 hf (by kernel_rfl) (by kernel_rfl) (by kernel_rfl) (by kernel_rfl) ?_
          clear hf; clear a; intro pb1 po1 c1 a hp1 hr1 hf
          obtain ⟨ao3, cp3, rfl, hr2⟩ := hr1
          replace hs : Sep w F R w2 F3 [.ro (tI .u8) (.slice ao3 ((gt p_l s3).2.2.2.2.2).length cp3) ((gt p_l s3).2.2.2.2.2), .ro ty55 (.slice ao1 p_l.length cp1) p_l, .ro ty60 (.slice ao2 files.length cp2) files] := hs.addRo hr2
          replace hs : Sep w F R w2 F3 [.cel pb1 po1 [.int .u64 ((gt p_l s3).1), .int .i64 ((gt p_l s3).2.1), .bool ((gt p_l s3).2.2.1), strV ((gt p_l s3).2.2.2.1), .int .u64 ((gt p_l s3).2.2.2.2.1), .slice ao3 ((gt p_l s3).2.2.2.2.2).length cp3], .ro (tI .u8) (.slice ao3 ((gt p_l s3).2.2.2.2.2).length cp3) ((gt p_l s3).2.2.2.2.2), .ro ty55 (.slice ao1 p_l.length cp1) p_l, .ro ty60 (.slice ao2 files.length cp2) files] := hs.addCel hp1
          replace hf := Fr.keep (ks := [0, 1, 5, 23]) (L' := [(0, .slice ao1 p_l.length cp1), (1, .slice ao2 files.length cp2), (5, .int .i64 s3), (23, .pointer (some ⟨pb1, po1, none⟩))]) hf (by kernel_rfl)
          refine st tbOk 1 [0, 1, 5, 24] (L' := [(0, .slice ao1 p_l.length cp1), (1, .slice ao2 files.length cp2), (5, .int .i64 s3), (24, .pointer (some ⟨pb1, po1 + 5, none⟩))]) hf (by kernel_rfl) ?_
          clear hf; clear a; intro a hf
          refine ldC tbOk (T := 22) (hs.ccel 0 rfl) (LeH.refl _) 5 (.slice ao3 ((gt p_l s3).2.2.2.2.2).length cp3) hf (by kernel_rfl) (by kernel_rfl) (by kernel_rfl) (by kernel_rfl) ?_
          clear hf; clear a; intro a hf
          replace hs : Sep w F R w2 F3 [.ro (tI .u8) (.slice ao3 ((gt p_l s3).2.2.2.2.2).length cp3) ((gt p_l s3).2.2.2.2.2), .ro ty55 (.slice ao1 p_l.length cp1) p_l, .ro ty60 (.slice ao2 files.length cp2) files] := hs.sel [1, 2, 3] rfl rfl
          replace hf := Fr.keep (ks := [0, 1, 5, 25]) (L' := [(0, .slice ao1 p_l.length cp1), (1, .slice ao2 files.length cp2), (5, .int .i64 s3), (25, .slice ao3 ((gt p_l s3).2.2.2.2.2).length cp3)]) hf (by kernel_rfl)
          refine st tbOk 2 [0, 1, 5, 27] (L' := [(0, .slice ao1 p_l.length cp1), (1, .slice ao2 files.length cp2), (5, .int .i64 s3), (27, .bool (decide (((((gt p_l s3).2.2.2.2.2).length : Nat) : Int) > 300)))]) hf (by kernel_rfl) ?_
          clear hf; clear a; intro a hf
          refine wpList_nil ?_
          refine cnd (b := decide (((((gt p_l s3).2.2.2.2.2).length : Nat) : Int) > 300)) hf (by kernel_rfl) (fun hb4 => ?_) (fun hb4 => ?_)
          · replace hS := of_t hb4 hS
            refine sq ?_
            refine reg ?_
            refine st tbOk 1 [4] (L' := [(4, .bool false)]) hf (by kernel_rfl) ?_
            clear hf; clear a; intro a hf
            refine wpList_nil ?_
            have hr := Option.some.inj hS; subst hr
            refine wp_ret ?_
            exact ret_ok hf (vs := [.bool false]) (by kernel_rfl) ⟨_, rfl, hs.sel [] rfl rfl⟩
          · replace hS := of_f hb4 hS
            refine wp_skip ?_
            refine reg ?_
            have hT := of_let hS; clear hS; obtain ⟨i_1, hl1, hS⟩ := hT
            refine st tbOk 3 [0, 1, 5] (L' := [(0, .slice ao1 p_l.length cp1), (1, .slice ao2 files.length cp2), (5, .int .i64 i_1)]) hf (by subst hl1; kernel_rfl) ?_
            clear hf; clear a; intro a hf
            refine wpList_nil ?_
            exact hK3 i_1 _ _ ⟨_, hs.sel [1, 2] rfl rfl, hf.keep (ks := [0, 1, 5]) (by kernel_rfl)⟩ hS
        · replace hS := of_f hb3 hS
          refine wp_exit ?_
          exact hK2 () _ _ ⟨_, hs.sel [1] rfl rfl, hf.keep (ks := [1]) (by kernel_rfl)⟩ hS
  · clear hS; intro KK1 k1 hK1 hS
    refine reg ?_
    refine st tbOk 4 [0, 1, 10] (L' := [(0, .slice ao1 p_l.length cp1), (1, .slice ao2 files.length cp2), (10, .bool (decide (((p_l.length : Nat) : Int) > 20)))]) hf (by kernel_rfl) ?_
    clear hf; clear a; intro a hf
    rcases Bool.eq_false_or_eq_true (decide (((p_l.length : Nat) : Int) > 20)) with hb1 | hb1
    · replace hS := of_t hb1 hS
      replace hf := Fr.cast (L' := [(0, .slice ao1 p_l.length cp1), (1, .slice ao2 files.length cp2), (10, .bool true)]) hf (by rw [hb1])
      refine st tbOk 4 [0, 1, 14] (L' := [(0, .slice ao1 p_l.length cp1), (1, .slice ao2 files.length cp2), (14, .bool true)]) hf (by kernel_rfl) ?_
      clear hf; clear a; intro a hf
      refine wpList_nil ?_
      exact hK1 true _ _ ⟨_, hs.sel [0, 1] rfl rfl, hf.keep (ks := [0, 1, 14]) (by kernel_rfl)⟩ hS
    · replace hS := of_f hb1 hS
      replace hf := Fr.cast (L' := [(0, .slice ao1 p_l.length cp1), (1, .slice ao2 files.length cp2), (10, .bool false)]) hf (by rw [hb1])
      refine st tbOk 4 [0, 1, 14] (L' := [(0, .slice ao1 p_l.length cp1), (1, .slice ao2 files.length cp2), (14, .bool (decide (((files.length : Nat) : Int) > 10)))]) hf (by kernel_rfl) ?_
      clear hf; clear a; intro a hf
      refine wpList_nil ?_
      exact hK1 (decide (((files.length : Nat) : Int) > 10)) _ _ ⟨_, hs.sel [0, 1] rfl rfl, hf.keep (ks := [0, 1, 14]) (by kernel_rfl)⟩ hS

end Dm
