/-
  The walks: a call of each Go function gives what its shallow form gives, where that form gives something; printed by a program of this repo. No condition.
-/
import Derived.Test.YtmlghbdlhjinaaaWT
namespace Dm
open Go Go.RowKit Go.Proofs

set_option maxHeartbeats 4000000 in
theorem law08_few_ok {w : World} {F : SH} {p_l : List ((List UInt8) × Int × (List Int))} {ao1 : Option Addr} {cp1 : Nat} (hs : Sep w F (blks [.ro ty53 (.slice ao1 p_l.length cp1) p_l]) w F [.ro ty53 (.slice ao1 p_l.length cp1) p_l]) {r : Bool} (hS : law08_few p_l = some r) :
    Calls Try.prog 24 [.slice ao1 p_l.length cp1].toArray w (Gives (fun u w' => ∃ (F' : SH), u = .bool r ∧ Sep w F (blks [.ro ty53 (.slice ao1 p_l.length cp1) p_l]) w' F' [])) := by
  generalize (blks [.ro ty53 (.slice ao1 p_l.length cp1) p_l]) = R at hs ⊢
  unfold law08_few at hS
  refine fn_ok (vs := [.slice ao1 p_l.length cp1]) Try.func24 rfl 29 Try.ntmps24 (Nat.le_of_ble_eq_true rfl) ?_
  intro a hf
  replace hf := Fr.cast (L' := [(0, .slice ao1 p_l.length cp1)]) hf (by kernel_rfl)
  refine sq ?_
  refine reg ?_
  refine st tbOk 1 [0] (L' := [(0, .slice ao1 p_l.length cp1)]) hf (by kernel_rfl) ?_
  clear hf; clear a; intro a hf
  refine wpList_nil ?_
  refine sq ?_
  refine sq ?_
  refine reg ?_
  refine st tbOk 3 [0, 6] (L' := [(0, .slice ao1 p_l.length cp1), (6, .bool (decide (((p_l.length : Nat) : Int) > 20)))]) hf (by kernel_rfl) ?_
  clear hf; clear a; intro a hf
  refine wpList_nil ?_
  refine cnd (b := decide (((p_l.length : Nat) : Int) > 20)) hf (by kernel_rfl) (fun hb1 => ?_) (fun hb1 => ?_)
  · replace hS := of_t hb1 hS
    refine sq ?_
    refine reg ?_
    refine st tbOk 1 [2] (L' := [(2, .bool false)]) hf (by kernel_rfl) ?_
    clear hf; clear a; intro a hf
    refine wpList_nil ?_
    have hr := Option.some.inj hS; subst hr
    refine wp_ret ?_
    exact ret_ok hf (vs := [.bool false]) (by kernel_rfl) ⟨_, rfl, hs.sel [] rfl rfl⟩
  · replace hS := of_f hb1 hS
    refine wp_skip ?_
    refine sq ?_
    refine sq ?_
    refine reg ?_
    refine st tbOk 1 [0, 3] (L' := [(0, .slice ao1 p_l.length cp1), (3, .int .i64 0)]) hf (by kernel_rfl) ?_
    clear hf; clear a; intro a hf
    refine wpList_nil ?_
    refine ctj (fun (s1 : Unit) (a : Act) (w' : World) => ∃ (F1 : SH), Sep w F R w' F1 [] ∧ Fr 29 [] a) hS ?_ ?_
    · clear hS hf hs; clear a; intro s1 a w3 hM hS
      obtain ⟨F1, hs, hf⟩ := hM
      refine sq ?_
      refine reg ?_
      refine st tbOk 1 [2] (L' := [(2, .bool true)]) hf (by kernel_rfl) ?_
      clear hf; clear a; intro a hf
      refine wpList_nil ?_
      have hr := Option.some.inj hS; subst hr
      refine wp_ret ?_
      exact ret_ok hf (vs := [.bool true]) (by kernel_rfl) ⟨_, rfl, hs.sel [] rfl rfl⟩
    · clear hS; intro KK1 k1 hK1 hS
      refine blk ?_
      refine lp (st := 0) (fun (s2 : Int) (a : Act) (w' : World) => ∃ (F2 : SH), Sep w F R w' F2 [.ro ty53 (.slice ao1 p_l.length cp1) p_l] ∧ Fr 29 [(0, .slice ao1 p_l.length cp1), (3, .int .i64 s2)] a) ?_ ⟨_, hs.sel [0] rfl rfl, hf.keep (ks := [0, 3]) (by kernel_rfl)⟩ hS
      clear hS hf hs; clear a
      intro rec1 KK2 hK2 s2 a w1 hM hS
      obtain ⟨F2, hs, hf⟩ := hM
      refine sq ?_
      refine sq ?_
      refine reg ?_
      refine st tbOk 4 [0, 3, 10] (L' := [(0, .slice ao1 p_l.length cp1), (3, .int .i64 s2), (10, .bool (decide (s2 < ((p_l.length : Nat) : Int))))]) hf (by kernel_rfl) ?_
      clear hf; clear a; intro a hf
      refine wpList_nil ?_
      refine cnd (b := decide (s2 < ((p_l.length : Nat) : Int))) hf (by kernel_rfl) (fun hb2 => ?_) (fun hb2 => ?_)
      · replace hS := of_t hb2 hS
        refine wp_skip ?_
        refine sq ?_
        refine blk ?_
        refine sq ?_
        refine ctj (fun (s3 : Bool) (a : Act) (w' : World) => ∃ (F3 : SH), Sep w F R w' F3 [.ro ty53 (.slice ao1 p_l.length cp1) p_l] ∧ Fr 29 [(0, .slice ao1 p_l.length cp1), (3, .int .i64 s2), (28, .bool s3)] a) hS ?_ ?_
        · clear hS hf hs; clear a; intro s3 a w2 hM hS
          obtain ⟨F3, hs, hf⟩ := hM
          refine cnd (b := s3) hf (by kernel_rfl) (fun hb4 => ?_) (fun hb4 => ?_)
          · replace hS := of_t hb4 hS
            refine sq ?_
            refine reg ?_
            refine st tbOk 1 [2] (L' := [(2, .bool false)]) hf (by kernel_rfl) ?_
            clear hf; clear a; intro a hf
            refine wpList_nil ?_
            have hr := Option.some.inj hS; subst hr
            refine wp_ret ?_
            exact ret_ok hf (vs := [.bool false]) (by kernel_rfl) ⟨_, rfl, hs.sel [] rfl rfl⟩
          · replace hS := of_f hb4 hS
            refine wp_skip ?_
            refine reg ?_
            have hT := of_let hS; clear hS; obtain ⟨i_1, hl1, hS⟩ := hT
            refine st tbOk 3 [0, 3] (L' := [(0, .slice ao1 p_l.length cp1), (3, .int .i64 i_1)]) hf (by subst hl1; kernel_rfl) ?_
            clear hf; clear a; intro a hf
            refine wpList_nil ?_
            exact hK2 i_1 _ _ ⟨_, hs.sel [0] rfl rfl, hf.keep (ks := [0, 3]) (by kernel_rfl)⟩ hS
        · clear hS; intro KK3 k2 hK3 hS
          refine reg ?_
          refine st tbOk 2 [0, 3, 13, 14] (L' := [(0, .slice ao1 p_l.length cp1), (3, .int .i64 s2), (13, .slice ao1 p_l.length cp1), (14, .int .i64 s2)]) hf (by kernel_rfl) ?_
          clear hf; clear a; intro a hf
          have hT := of_gd hS; clear hS; obtain ⟨hc1, hS⟩ := hT
          refine ixR tbOk u37 i54 rfl rfl ((hs.ro 0 rfl).ra (LeH.refl _)) (k := .i64) (n := s2) hc1 hf (by kernel_rfl) (by kernel_rfl) (by kernel_rfl) (by kernel_rfl) ?_
          clear hf; clear a; intro pb1 po1 c1 a hp1 hr1 hf
          obtain ⟨ao2, cp2, rfl, hr2⟩ := hr1
          replace hs : Sep w F R w1 F2 [.ro (tI .u8) (.slice ao2 ((gt p_l s2).2.2).length cp2) ((gt p_l s2).2.2), .ro ty53 (.slice ao1 p_l.length cp1) p_l] := hs.addRo hr2
          replace hs : Sep w F R w1 F2 [.cel pb1 po1 [strV ((gt p_l s2).1), .int .u32 ((gt p_l s2).2.1), .slice ao2 ((gt p_l s2).2.2).length cp2], .ro (tI .u8) (.slice ao2 ((gt p_l s2).2.2).length cp2) ((gt p_l s2).2.2), .ro ty53 (.slice ao1 p_l.length cp1) p_l] := hs.addCel hp1
          replace hf := Fr.keep (ks := [0, 3, 15]) (L' := [(0, .slice ao1 p_l.length cp1), (3, .int .i64 s2), (15, .pointer (some ⟨pb1, po1, none⟩))]) hf (by kernel_rfl)
          refine st tbOk 1 [0, 3, 16] (L' := [(0, .slice ao1 p_l.length cp1), (3, .int .i64 s2), (16, .pointer (some ⟨pb1, po1, none⟩))]) hf (by kernel_rfl) ?_
          clear hf; clear a; intro a hf
          refine ldC tbOk (T := 9) (hs.ccel 0 rfl) (LeH.refl _) 0 (strV ((gt p_l s2).1)) hf (by kernel_rfl) (by kernel_rfl) (by kernel_rfl) (by kernel_rfl) ?_
          clear hf; clear a; intro a hf
          replace hs : Sep w F R w1 F2 [.ro ty53 (.slice ao1 p_l.length cp1) p_l] := hs.sel [2] rfl rfl
          replace hf := Fr.keep (ks := [0, 3, 17]) (L' := [(0, .slice ao1 p_l.length cp1), (3, .int .i64 s2), (17, strV ((gt p_l s2).1))]) hf (by kernel_rfl)
          refine st tbOk 3 [0, 3, 20] (L' := [(0, .slice ao1 p_l.length cp1), (3, .int .i64 s2), (20, .bool (decide (((((gt p_l s2).1).length : Nat) : Int) > 500)))]) hf (by kernel_rfl) ?_
          clear hf; clear a; intro a hf
          rcases Bool.eq_false_or_eq_true (decide (((((gt p_l s2).1).length : Nat) : Int) > 500)) with hb3 | hb3
          · replace hS := of_t hb3 hS
            replace hf := Fr.cast (L' := [(0, .slice ao1 p_l.length cp1), (3, .int .i64 s2), (20, .bool true)]) hf (by rw [hb3])
            refine st tbOk 8 [0, 3, 28] (L' := [(0, .slice ao1 p_l.length cp1), (3, .int .i64 s2), (28, .bool true)]) hf (by kernel_rfl) ?_
            clear hf; clear a; intro a hf
            refine wpList_nil ?_
            exact hK3 true _ _ ⟨_, hs.sel [0] rfl rfl, hf.keep (ks := [0, 3, 28]) (by kernel_rfl)⟩ hS
          · replace hS := of_f hb3 hS
            replace hf := Fr.cast (L' := [(0, .slice ao1 p_l.length cp1), (3, .int .i64 s2), (20, .bool false)]) hf (by rw [hb3])
            refine st tbOk 2 [0, 3, 20, 21, 22] (L' := [(0, .slice ao1 p_l.length cp1), (3, .int .i64 s2), (20, .bool false), (21, .slice ao1 p_l.length cp1), (22, .int .i64 s2)]) hf (by kernel_rfl) ?_
            clear hf; clear a; intro a hf
            have hT := of_gd hS; clear hS; obtain ⟨hc2, hS⟩ := hT
            refine ixR tbOk u37 i54 rfl rfl ((hs.ro 0 rfl).ra (LeH.refl _)) (k := .i64) (n := s2) hc2 hf (by kernel_rfl) (by kernel_rfl) (by kernel_rfl) (by kernel_rfl) ?_
            clear hf; clear a; intro pb2 po2 c2 a hp2 hr3 hf
            obtain ⟨ao3, cp3, rfl, hr4⟩ := hr3
            replace hs : Sep w F R w1 F2 [.ro (tI .u8) (.slice ao3 ((gt p_l s2).2.2).length cp3) ((gt p_l s2).2.2), .ro ty53 (.slice ao1 p_l.length cp1) p_l] := hs.addRo hr4
            replace hs : Sep w F R w1 F2 [.cel pb2 po2 [strV ((gt p_l s2).1), .int .u32 ((gt p_l s2).2.1), .slice ao3 ((gt p_l s2).2.2).length cp3], .ro (tI .u8) (.slice ao3 ((gt p_l s2).2.2).length cp3) ((gt p_l s2).2.2), .ro ty53 (.slice ao1 p_l.length cp1) p_l] := hs.addCel hp2
            replace hf := Fr.keep (ks := [0, 3, 20, 23]) (L' := [(0, .slice ao1 p_l.length cp1), (3, .int .i64 s2), (20, .bool false), (23, .pointer (some ⟨pb2, po2, none⟩))]) hf (by kernel_rfl)
            refine st tbOk 1 [0, 3, 20, 24] (L' := [(0, .slice ao1 p_l.length cp1), (3, .int .i64 s2), (20, .bool false), (24, .pointer (some ⟨pb2, po2 + 2, none⟩))]) hf (by kernel_rfl) ?_
            clear hf; clear a; intro a hf
            refine ldC tbOk (T := 22) (hs.ccel 0 rfl) (LeH.refl _) 2 (.slice ao3 ((gt p_l s2).2.2).length cp3) hf (by kernel_rfl) (by kernel_rfl) (by kernel_rfl) (by kernel_rfl) ?_
            clear hf; clear a; intro a hf
            replace hs : Sep w F R w1 F2 [.ro (tI .u8) (.slice ao3 ((gt p_l s2).2.2).length cp3) ((gt p_l s2).2.2), .ro ty53 (.slice ao1 p_l.length cp1) p_l] := hs.sel [1, 2] rfl rfl
            replace hf := Fr.keep (ks := [0, 3, 20, 25]) (L' := [(0, .slice ao1 p_l.length cp1), (3, .int .i64 s2), (20, .bool false), (25, .slice ao3 ((gt p_l s2).2.2).length cp3)]) hf (by kernel_rfl)
            refine st tbOk 3 [0, 3, 28] (L' := [(0, .slice ao1 p_l.length cp1), (3, .int .i64 s2), (28, .bool (decide (((((gt p_l s2).2.2).length : Nat) : Int) > 500)))]) hf (by kernel_rfl) ?_
            clear hf; clear a; intro a hf
            refine wpList_nil ?_
            exact hK3 (decide (((((gt p_l s2).2.2).length : Nat) : Int) > 500)) _ _ ⟨_, hs.sel [1] rfl rfl, hf.keep (ks := [0, 3, 28]) (by kernel_rfl)⟩ hS
      · replace hS := of_f hb2 hS
        refine wp_exit ?_
        exact hK1 () _ _ ⟨_, hs.sel [] rfl rfl, hf.keep (ks := []) (by kernel_rfl)⟩ hS

end Dm
