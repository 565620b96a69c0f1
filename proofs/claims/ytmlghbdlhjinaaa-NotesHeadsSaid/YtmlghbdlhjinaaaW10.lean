/-
  The walks: a call of each Go function gives what its shallow form gives, where that form gives something; printed by a program of this repo. No condition.
-/
import Derived.Test.YtmlghbdlhjinaaaWT
namespace Dm
open Go Go.RowKit Go.Proofs

set_option maxHeartbeats 4000000 in
theorem law08_same_ok {w : World} {F : SH} {p_a : List ((List UInt8) × Int × (List Int))} {b : List ((List UInt8) × Int × (List Int))} {ao1 : Option Addr} {cp1 : Nat} {ao2 : Option Addr} {cp2 : Nat} (hs : Sep w F (blks [.ro ty53 (.slice ao1 p_a.length cp1) p_a, .ro ty53 (.slice ao2 b.length cp2) b]) w F [.ro ty53 (.slice ao1 p_a.length cp1) p_a, .ro ty53 (.slice ao2 b.length cp2) b]) {r : Bool} (hS : law08_same p_a b = some r) :
    Calls Try.prog 30 [.slice ao1 p_a.length cp1, .slice ao2 b.length cp2].toArray w (Gives (fun u w' => ∃ (F' : SH), u = .bool r ∧ Sep w F (blks [.ro ty53 (.slice ao1 p_a.length cp1) p_a, .ro ty53 (.slice ao2 b.length cp2) b]) w' F' [])) := by
  generalize (blks [.ro ty53 (.slice ao1 p_a.length cp1) p_a, .ro ty53 (.slice ao2 b.length cp2) b]) = R at hs ⊢
  unfold law08_same at hS
  refine fn_ok (vs := [.slice ao1 p_a.length cp1, .slice ao2 b.length cp2]) Try.func30 rfl 56 Try.ntmps30 (Nat.le_of_ble_eq_true rfl) ?_
  intro a hf
  replace hf := Fr.cast (L' := [(0, .slice ao1 p_a.length cp1), (1, .slice ao2 b.length cp2)]) hf (by kernel_rfl)
  refine sq ?_
  refine reg ?_
  refine st tbOk 1 [0, 1] (L' := [(0, .slice ao1 p_a.length cp1), (1, .slice ao2 b.length cp2)]) hf (by kernel_rfl) ?_
  clear hf; clear a; intro a hf
  refine wpList_nil ?_
  refine sq ?_
  refine sq ?_
  refine reg ?_
  refine st tbOk 5 [0, 1, 10] (L' := [(0, .slice ao1 p_a.length cp1), (1, .slice ao2 b.length cp2), (10, .bool (((p_a.length : Nat) : Int) != ((b.length : Nat) : Int)))]) hf (by kernel_rfl) ?_
  clear hf; clear a; intro a hf
  refine wpList_nil ?_
  refine cnd (b := ((p_a.length : Nat) : Int) != ((b.length : Nat) : Int)) hf (by kernel_rfl) (fun hb1 => ?_) (fun hb1 => ?_)
  · replace hS := of_t hb1 hS
    refine sq ?_
    refine reg ?_
    refine st tbOk 1 [4] (L' := [(4, .bool false)]) hf (by kernel_rfl) ?_
    clear hf; clear a; intro a hf
    refine wpList_nil ?_
    have hr := Option.some.inj hS; subst hr
    refine wp_ret ?_
    exact ret_ok hf (vs := [.bool false]) (by kernel_rfl) ⟨_, rfl, hs.sel [] rfl rfl⟩
  · replace hS := of_f hb1 hS
    refine wp_skip ?_
    refine sq ?_
    refine sq ?_
    refine reg ?_
    refine st tbOk 1 [0, 1, 5] (L' := [(0, .slice ao1 p_a.length cp1), (1, .slice ao2 b.length cp2), (5, .int .i64 0)]) hf (by kernel_rfl) ?_
    clear hf; clear a; intro a hf
    refine wpList_nil ?_
    refine ctj (fun (s1 : Unit) (a : Act) (w' : World) => ∃ (F1 : SH), Sep w F R w' F1 [] ∧ Fr 56 [] a) hS ?_ ?_
    · clear hS hf hs; clear a; intro s1 a w6 hM hS
      obtain ⟨F1, hs, hf⟩ := hM
      refine sq ?_
      refine reg ?_
      refine st tbOk 1 [4] (L' := [(4, .bool true)]) hf (by kernel_rfl) ?_
      clear hf; clear a; intro a hf
      refine wpList_nil ?_
      have hr := Option.some.inj hS; subst hr
      refine wp_ret ?_
      exact ret_ok hf (vs := [.bool true]) (by kernel_rfl) ⟨_, rfl, hs.sel [] rfl rfl⟩
    · clear hS; intro KK1 k1 hK1 hS
      refine blk ?_
      refine lp (st := 0) (fun (s2 : Int) (a : Act) (w' : World) => ∃ (F2 : SH), Sep w F R w' F2 [.ro ty53 (.slice ao1 p_a.length cp1) p_a, .ro ty53 (.slice ao2 b.length cp2) b] ∧ Fr 56 [(0, .slice ao1 p_a.length cp1), (1, .slice ao2 b.length cp2), (5, .int .i64 s2)] a) ?_ ⟨_, hs.sel [0, 1] rfl rfl, hf.keep (ks := [0, 1, 5]) (by kernel_rfl)⟩ hS
      clear hS hf hs; clear a
      intro rec1 KK2 hK2 s2 a w1 hM hS
      obtain ⟨F2, hs, hf⟩ := hM
      refine sq ?_
      refine sq ?_
      refine reg ?_
      refine st tbOk 4 [0, 1, 5, 14] (L' := [(0, .slice ao1 p_a.length cp1), (1, .slice ao2 b.length cp2), (5, .int .i64 s2), (14, .bool (decide (s2 < ((p_a.length : Nat) : Int))))]) hf (by kernel_rfl) ?_
      clear hf; clear a; intro a hf
      refine wpList_nil ?_
      refine cnd (b := decide (s2 < ((p_a.length : Nat) : Int))) hf (by kernel_rfl) (fun hb2 => ?_) (fun hb2 => ?_)
      · replace hS := of_t hb2 hS
        refine wp_skip ?_
        refine sq ?_
        refine blk ?_
        refine sq ?_
        refine ctj (fun (s3 : Bool) (a : Act) (w' : World) => ∃ (F3 : SH), Sep w F R w' F3 [.ro ty53 (.slice ao1 p_a.length cp1) p_a, .ro ty53 (.slice ao2 b.length cp2) b] ∧ Fr 56 [(0, .slice ao1 p_a.length cp1), (1, .slice ao2 b.length cp2), (5, .int .i64 s2), (55, .bool s3)] a) hS ?_ ?_
        · clear hS hf hs; clear a; intro s3 a w5 hM hS
          obtain ⟨F3, hs, hf⟩ := hM
          refine cnd (b := s3) hf (by kernel_rfl) (fun hb5 => ?_) (fun hb5 => ?_)
          · replace hS := of_t hb5 hS
            refine sq ?_
            refine reg ?_
            refine st tbOk 1 [4] (L' := [(4, .bool false)]) hf (by kernel_rfl) ?_
            clear hf; clear a; intro a hf
            refine wpList_nil ?_
            have hr := Option.some.inj hS; subst hr
            refine wp_ret ?_
            exact ret_ok hf (vs := [.bool false]) (by kernel_rfl) ⟨_, rfl, hs.sel [] rfl rfl⟩
          · replace hS := of_f hb5 hS
            refine wp_skip ?_
            refine reg ?_
            have hT := of_let hS; clear hS; obtain ⟨i_1, hl1, hS⟩ := hT
            refine st tbOk 3 [0, 1, 5] (L' := [(0, .slice ao1 p_a.length cp1), (1, .slice ao2 b.length cp2), (5, .int .i64 i_1)]) hf (by subst hl1; kernel_rfl) ?_
            clear hf; clear a; intro a hf
            refine wpList_nil ?_
            exact hK2 i_1 _ _ ⟨_, hs.sel [0, 1] rfl rfl, hf.keep (ks := [0, 1, 5]) (by kernel_rfl)⟩ hS
        · clear hS; intro KK3 k2 hK3 hS
          refine regQ mixed (by kernel_rfl) ?_
          refine stQ tbOk 2 [0, 1, 5, 17, 18] (L' := [(0, .slice ao1 p_a.length cp1), (1, .slice ao2 b.length cp2), (5, .int .i64 s2), (17, .slice ao1 p_a.length cp1), (18, .int .i64 s2)]) hf (by kernel_rfl) ?_
          clear hf; clear a; intro a hf
          have hT := of_gd hS; clear hS; obtain ⟨hc1, hS⟩ := hT
          refine ixRQ tbOk u42 i65 rfl rfl ((hs.ro 0 rfl).ra (LeH.refl _)) (k := .i64) (n := s2) hc1 hf (by kernel_rfl) (by kernel_rfl) (by kernel_rfl) (by kernel_rfl) ?_
          clear hf; clear a; intro pb1 po1 c1 a hp1 hr1 hf
          obtain ⟨ao3, cp3, rfl, hr2⟩ := hr1
          replace hs : Sep w F R w1 F2 [.ro (tI .u8) (.slice ao3 ((gt p_a s2).2.2).length cp3) ((gt p_a s2).2.2), .ro ty53 (.slice ao1 p_a.length cp1) p_a, .ro ty53 (.slice ao2 b.length cp2) b] := hs.addRo hr2
          replace hs : Sep w F R w1 F2 [.cel pb1 po1 [strV ((gt p_a s2).1), .int .u32 ((gt p_a s2).2.1), .slice ao3 ((gt p_a s2).2.2).length cp3], .ro (tI .u8) (.slice ao3 ((gt p_a s2).2.2).length cp3) ((gt p_a s2).2.2), .ro ty53 (.slice ao1 p_a.length cp1) p_a, .ro ty53 (.slice ao2 b.length cp2) b] := hs.addCel hp1
          replace hf := Fr.keep (ks := [0, 1, 5, 19]) (L' := [(0, .slice ao1 p_a.length cp1), (1, .slice ao2 b.length cp2), (5, .int .i64 s2), (19, .pointer (some ⟨pb1, po1, none⟩))]) hf (by kernel_rfl)
          refine stQ tbOk 1 [0, 1, 5, 20] (L' := [(0, .slice ao1 p_a.length cp1), (1, .slice ao2 b.length cp2), (5, .int .i64 s2), (20, .pointer (some ⟨pb1, po1, none⟩))]) hf (by kernel_rfl) ?_
          clear hf; clear a; intro a hf
          refine ldCQ tbOk (T := 9) (hs.ccel 0 rfl) (LeH.refl _) 0 (strV ((gt p_a s2).1)) hf (by kernel_rfl) (by kernel_rfl) (by kernel_rfl) (by kernel_rfl) ?_
          clear hf; clear a; intro a hf
          replace hs : Sep w F R w1 F2 [.ro ty53 (.slice ao1 p_a.length cp1) p_a, .ro ty53 (.slice ao2 b.length cp2) b] := hs.sel [2, 3] rfl rfl
          replace hf := Fr.keep (ks := [0, 1, 5, 21]) (L' := [(0, .slice ao1 p_a.length cp1), (1, .slice ao2 b.length cp2), (5, .int .i64 s2), (21, strV ((gt p_a s2).1))]) hf (by kernel_rfl)
          refine stQ tbOk 2 [0, 1, 5, 21, 22, 23] (L' := [(0, .slice ao1 p_a.length cp1), (1, .slice ao2 b.length cp2), (5, .int .i64 s2), (21, strV ((gt p_a s2).1)), (22, .slice ao2 b.length cp2), (23, .int .i64 s2)]) hf (by kernel_rfl) ?_
          clear hf; clear a; intro a hf
          have hT := of_gd hS; clear hS; obtain ⟨hc2, hS⟩ := hT
          refine ixRQ tbOk u42 i65 rfl rfl ((hs.ro 1 rfl).ra (LeH.refl _)) (k := .i64) (n := s2) hc2 hf (by kernel_rfl) (by kernel_rfl) (by kernel_rfl) (by kernel_rfl) ?_
          clear hf; clear a; intro pb2 po2 c2 a hp2 hr3 hf
          obtain ⟨ao4, cp4, rfl, hr4⟩ := hr3
          replace hs : Sep w F R w1 F2 [.ro (tI .u8) (.slice ao4 ((gt b s2).2.2).length cp4) ((gt b s2).2.2), .ro ty53 (.slice ao1 p_a.length cp1) p_a, .ro ty53 (.slice ao2 b.length cp2) b] := hs.addRo hr4
          replace hs : Sep w F R w1 F2 [.cel pb2 po2 [strV ((gt b s2).1), .int .u32 ((gt b s2).2.1), .slice ao4 ((gt b s2).2.2).length cp4], .ro (tI .u8) (.slice ao4 ((gt b s2).2.2).length cp4) ((gt b s2).2.2), .ro ty53 (.slice ao1 p_a.length cp1) p_a, .ro ty53 (.slice ao2 b.length cp2) b] := hs.addCel hp2
          replace hf := Fr.keep (ks := [0, 1, 5, 21, 24]) (L' := [(0, .slice ao1 p_a.length cp1), (1, .slice ao2 b.length cp2), (5, .int .i64 s2), (21, strV ((gt p_a s2).1)), (24, .pointer (some ⟨pb2, po2, none⟩))]) hf (by kernel_rfl)
          refine stQ tbOk 1 [0, 1, 5, 21, 25] (L' := [(0, .slice ao1 p_a.length cp1), (1, .slice ao2 b.length cp2), (5, .int .i64 s2), (21, strV ((gt p_a s2).1)), (25, .pointer (some ⟨pb2, po2, none⟩))]) hf (by kernel_rfl) ?_
          clear hf; clear a; intro a hf
          refine ldCQ tbOk (T := 9) (hs.ccel 0 rfl) (LeH.refl _) 0 (strV ((gt b s2).1)) hf (by kernel_rfl) (by kernel_rfl) (by kernel_rfl) (by kernel_rfl) ?_
          clear hf; clear a; intro a hf
          replace hs : Sep w F R w1 F2 [.ro ty53 (.slice ao1 p_a.length cp1) p_a, .ro ty53 (.slice ao2 b.length cp2) b] := hs.sel [2, 3] rfl rfl
          replace hf := Fr.keep (ks := [0, 1, 5, 21, 26]) (L' := [(0, .slice ao1 p_a.length cp1), (1, .slice ao2 b.length cp2), (5, .int .i64 s2), (21, strV ((gt p_a s2).1)), (26, strV ((gt b s2).1))]) hf (by kernel_rfl)
          refine stQ tbOk 2 [0, 1, 5, 28] (L' := [(0, .slice ao1 p_a.length cp1), (1, .slice ao2 b.length cp2), (5, .int .i64 s2), (28, .bool (!(((gt p_a s2).1) == ((gt b s2).1))))]) hf (by kernel_rfl) ?_
          clear hf; clear a; intro a hf
          rcases Bool.eq_false_or_eq_true (!(((gt p_a s2).1) == ((gt b s2).1))) with hb3 | hb3
          · replace hS := of_t hb3 hS
            replace hf := Fr.cast (L' := [(0, .slice ao1 p_a.length cp1), (1, .slice ao2 b.length cp2), (5, .int .i64 s2), (28, .bool true)]) hf (by rw [hb3])
            refine stQ tbOk 27 [0, 1, 5, 55] (L' := [(0, .slice ao1 p_a.length cp1), (1, .slice ao2 b.length cp2), (5, .int .i64 s2), (55, .bool true)]) hf (by kernel_rfl) ?_
            clear hf; clear a; intro a hf
            refine wpQuiet_nil ?_
            intro w2 hx
            replace hs : Sep w F R w2 F2 [.ro ty53 (.slice ao1 p_a.length cp1) p_a, .ro ty53 (.slice ao2 b.length cp2) b] := hs.ext hx
            clear hx
            exact hK3 true _ _ ⟨_, hs.sel [0, 1] rfl rfl, hf.keep (ks := [0, 1, 5, 55]) (by kernel_rfl)⟩ hS
          · replace hS := of_f hb3 hS
            replace hf := Fr.cast (L' := [(0, .slice ao1 p_a.length cp1), (1, .slice ao2 b.length cp2), (5, .int .i64 s2), (28, .bool false)]) hf (by rw [hb3])
            refine stQ tbOk 2 [0, 1, 5, 28, 29, 30] (L' := [(0, .slice ao1 p_a.length cp1), (1, .slice ao2 b.length cp2), (5, .int .i64 s2), (28, .bool false), (29, .slice ao1 p_a.length cp1), (30, .int .i64 s2)]) hf (by kernel_rfl) ?_
            clear hf; clear a; intro a hf
            have hT := of_gd hS; clear hS; obtain ⟨hc3, hS⟩ := hT
            refine ixRQ tbOk u42 i65 rfl rfl ((hs.ro 0 rfl).ra (LeH.refl _)) (k := .i64) (n := s2) hc3 hf (by kernel_rfl) (by kernel_rfl) (by kernel_rfl) (by kernel_rfl) ?_
            clear hf; clear a; intro pb3 po3 c3 a hp3 hr5 hf
            obtain ⟨ao5, cp5, rfl, hr6⟩ := hr5
            replace hs : Sep w F R w1 F2 [.ro (tI .u8) (.slice ao5 ((gt p_a s2).2.2).length cp5) ((gt p_a s2).2.2), .ro ty53 (.slice ao1 p_a.length cp1) p_a, .ro ty53 (.slice ao2 b.length cp2) b] := hs.addRo hr6
            replace hs : Sep w F R w1 F2 [.cel pb3 po3 [strV ((gt p_a s2).1), .int .u32 ((gt p_a s2).2.1), .slice ao5 ((gt p_a s2).2.2).length cp5], .ro (tI .u8) (.slice ao5 ((gt p_a s2).2.2).length cp5) ((gt p_a s2).2.2), .ro ty53 (.slice ao1 p_a.length cp1) p_a, .ro ty53 (.slice ao2 b.length cp2) b] := hs.addCel hp3
            replace hf := Fr.keep (ks := [0, 1, 5, 28, 31]) (L' := [(0, .slice ao1 p_a.length cp1), (1, .slice ao2 b.length cp2), (5, .int .i64 s2), (28, .bool false), (31, .pointer (some ⟨pb3, po3, none⟩))]) hf (by kernel_rfl)
            refine stQ tbOk 1 [0, 1, 5, 28, 32] (L' := [(0, .slice ao1 p_a.length cp1), (1, .slice ao2 b.length cp2), (5, .int .i64 s2), (28, .bool false), (32, .pointer (some ⟨pb3, po3 + 1, none⟩))]) hf (by kernel_rfl) ?_
            clear hf; clear a; intro a hf
            refine ldCQ tbOk (T := 50) (hs.ccel 0 rfl) (LeH.refl _) 1 (.int .u32 ((gt p_a s2).2.1)) hf (by kernel_rfl) (by kernel_rfl) (by kernel_rfl) (by kernel_rfl) ?_
            clear hf; clear a; intro a hf
            replace hs : Sep w F R w1 F2 [.ro ty53 (.slice ao1 p_a.length cp1) p_a, .ro ty53 (.slice ao2 b.length cp2) b] := hs.sel [2, 3] rfl rfl
            replace hf := Fr.keep (ks := [0, 1, 5, 28, 33]) (L' := [(0, .slice ao1 p_a.length cp1), (1, .slice ao2 b.length cp2), (5, .int .i64 s2), (28, .bool false), (33, .int .u32 ((gt p_a s2).2.1))]) hf (by kernel_rfl)
            refine stQ tbOk 2 [0, 1, 5, 28, 33, 34, 35] (L' := [(0, .slice ao1 p_a.length cp1), (1, .slice ao2 b.length cp2), (5, .int .i64 s2), (28, .bool false), (33, .int .u32 ((gt p_a s2).2.1)), (34, .slice ao2 b.length cp2), (35, .int .i64 s2)]) hf (by kernel_rfl) ?_
            clear hf; clear a; intro a hf
            have hT := of_gd hS; clear hS; obtain ⟨hc4, hS⟩ := hT
            refine ixRQ tbOk u42 i65 rfl rfl ((hs.ro 1 rfl).ra (LeH.refl _)) (k := .i64) (n := s2) hc4 hf (by kernel_rfl) (by kernel_rfl) (by kernel_rfl) (by kernel_rfl) ?_
            clear hf; clear a; intro pb4 po4 c4 a hp4 hr7 hf
            obtain ⟨ao6, cp6, rfl, hr8⟩ := hr7
            replace hs : Sep w F R w1 F2 [.ro (tI .u8) (.slice ao6 ((gt b s2).2.2).length cp6) ((gt b s2).2.2), .ro ty53 (.slice ao1 p_a.length cp1) p_a, .ro ty53 (.slice ao2 b.length cp2) b] := hs.addRo hr8
            replace hs : Sep w F R w1 F2 [.cel pb4 po4 [strV ((gt b s2).1), .int .u32 ((gt b s2).2.1), .slice ao6 ((gt b s2).2.2).length cp6], .ro (tI .u8) (.slice ao6 ((gt b s2).2.2).length cp6) ((gt b s2).2.2), .ro ty53 (.slice ao1 p_a.length cp1) p_a, .ro ty53 (.slice ao2 b.length cp2) b] := hs.addCel hp4
            replace hf := Fr.keep (ks := [0, 1, 5, 28, 33, 36]) (L' := [(0, .slice ao1 p_a.length cp1), (1, .slice ao2 b.length cp2), (5, .int .i64 s2), (28, .bool false), (33, .int .u32 ((gt p_a s2).2.1)), (36, .pointer (some ⟨pb4, po4, none⟩))]) hf (by kernel_rfl)
            refine stQ tbOk 1 [0, 1, 5, 28, 33, 37] (L' := [(0, .slice ao1 p_a.length cp1), (1, .slice ao2 b.length cp2), (5, .int .i64 s2), (28, .bool false), (33, .int .u32 ((gt p_a s2).2.1)), (37, .pointer (some ⟨pb4, po4 + 1, none⟩))]) hf (by kernel_rfl) ?_
            clear hf; clear a; intro a hf
            refine ldCQ tbOk (T := 50) (hs.ccel 0 rfl) (LeH.refl _) 1 (.int .u32 ((gt b s2).2.1)) hf (by kernel_rfl) (by kernel_rfl) (by kernel_rfl) (by kernel_rfl) ?_
            clear hf; clear a; intro a hf
            replace hs : Sep w F R w1 F2 [.ro ty53 (.slice ao1 p_a.length cp1) p_a, .ro ty53 (.slice ao2 b.length cp2) b] := hs.sel [2, 3] rfl rfl
            replace hf := Fr.keep (ks := [0, 1, 5, 28, 33, 38]) (L' := [(0, .slice ao1 p_a.length cp1), (1, .slice ao2 b.length cp2), (5, .int .i64 s2), (28, .bool false), (33, .int .u32 ((gt p_a s2).2.1)), (38, .int .u32 ((gt b s2).2.1))]) hf (by kernel_rfl)
            refine stQ tbOk 3 [0, 1, 5, 41] (L' := [(0, .slice ao1 p_a.length cp1), (1, .slice ao2 b.length cp2), (5, .int .i64 s2), (41, .bool (((gt p_a s2).2.1) != ((gt b s2).2.1)))]) hf (by kernel_rfl) ?_
            clear hf; clear a; intro a hf
            rcases Bool.eq_false_or_eq_true (((gt p_a s2).2.1) != ((gt b s2).2.1)) with hb4 | hb4
            · replace hS := of_t hb4 hS
              replace hf := Fr.cast (L' := [(0, .slice ao1 p_a.length cp1), (1, .slice ao2 b.length cp2), (5, .int .i64 s2), (41, .bool true)]) hf (by rw [hb4])
              refine stQ tbOk 14 [0, 1, 5, 55] (L' := [(0, .slice ao1 p_a.length cp1), (1, .slice ao2 b.length cp2), (5, .int .i64 s2), (55, .bool true)]) hf (by kernel_rfl) ?_
              clear hf; clear a; intro a hf
              refine wpQuiet_nil ?_
              intro w3 hx
              replace hs : Sep w F R w3 F2 [.ro ty53 (.slice ao1 p_a.length cp1) p_a, .ro ty53 (.slice ao2 b.length cp2) b] := hs.ext hx
              clear hx
              exact hK3 true _ _ ⟨_, hs.sel [0, 1] rfl rfl, hf.keep (ks := [0, 1, 5, 55]) (by kernel_rfl)⟩ hS
            · replace hS := of_f hb4 hS
              replace hf := Fr.cast (L' := [(0, .slice ao1 p_a.length cp1), (1, .slice ao2 b.length cp2), (5, .int .i64 s2), (41, .bool false)]) hf (by rw [hb4])
              refine stQ tbOk 2 [0, 1, 5, 41, 42, 43] (L' := [(0, .slice ao1 p_a.length cp1), (1, .slice ao2 b.length cp2), (5, .int .i64 s2), (41, .bool false), (42, .slice ao1 p_a.length cp1), (43, .int .i64 s2)]) hf (by kernel_rfl) ?_
              clear hf; clear a; intro a hf
              have hT := of_gd hS; clear hS; obtain ⟨hc5, hS⟩ := hT
              refine ixRQ tbOk u42 i65 rfl rfl ((hs.ro 0 rfl).ra (LeH.refl _)) (k := .i64) (n := s2) hc5 hf (by kernel_rfl) (by kernel_rfl) (by kernel_rfl) (by kernel_rfl) ?_
              clear hf; clear a; intro pb5 po5 c5 a hp5 hr9 hf
              obtain ⟨ao7, cp7, rfl, hr10⟩ := hr9
              replace hs : Sep w F R w1 F2 [.ro (tI .u8) (.slice ao7 ((gt p_a s2).2.2).length cp7) ((gt p_a s2).2.2), .ro ty53 (.slice ao1 p_a.length cp1) p_a, .ro ty53 (.slice ao2 b.length cp2) b] := hs.addRo hr10
              replace hs : Sep w F R w1 F2 [.cel pb5 po5 [strV ((gt p_a s2).1), .int .u32 ((gt p_a s2).2.1), .slice ao7 ((gt p_a s2).2.2).length cp7], .ro (tI .u8) (.slice ao7 ((gt p_a s2).2.2).length cp7) ((gt p_a s2).2.2), .ro ty53 (.slice ao1 p_a.length cp1) p_a, .ro ty53 (.slice ao2 b.length cp2) b] := hs.addCel hp5
              replace hf := Fr.keep (ks := [0, 1, 5, 41, 44]) (L' := [(0, .slice ao1 p_a.length cp1), (1, .slice ao2 b.length cp2), (5, .int .i64 s2), (41, .bool false), (44, .pointer (some ⟨pb5, po5, none⟩))]) hf (by kernel_rfl)
              refine stQ tbOk 1 [0, 1, 5, 41, 45] (L' := [(0, .slice ao1 p_a.length cp1), (1, .slice ao2 b.length cp2), (5, .int .i64 s2), (41, .bool false), (45, .pointer (some ⟨pb5, po5 + 2, none⟩))]) hf (by kernel_rfl) ?_
              clear hf; clear a; intro a hf
              refine ldCQ tbOk (T := 22) (hs.ccel 0 rfl) (LeH.refl _) 2 (.slice ao7 ((gt p_a s2).2.2).length cp7) hf (by kernel_rfl) (by kernel_rfl) (by kernel_rfl) (by kernel_rfl) ?_
              clear hf; clear a; intro a hf
              replace hs : Sep w F R w1 F2 [.ro (tI .u8) (.slice ao7 ((gt p_a s2).2.2).length cp7) ((gt p_a s2).2.2), .ro ty53 (.slice ao1 p_a.length cp1) p_a, .ro ty53 (.slice ao2 b.length cp2) b] := hs.sel [1, 2, 3] rfl rfl
              replace hf := Fr.keep (ks := [0, 1, 5, 41, 46]) (L' := [(0, .slice ao1 p_a.length cp1), (1, .slice ao2 b.length cp2), (5, .int .i64 s2), (41, .bool false), (46, .slice ao7 ((gt p_a s2).2.2).length cp7)]) hf (by kernel_rfl)
              refine b2sRQ tbOk u22 u5 u9 (hs.raR 0 rfl) hf (by kernel_rfl) (by kernel_rfl) (by kernel_rfl) ?_
              clear hf; clear a; intro a hf
              replace hs : Sep w F R w1 F2 [.ro ty53 (.slice ao1 p_a.length cp1) p_a, .ro ty53 (.slice ao2 b.length cp2) b] := hs.sel [1, 2] rfl rfl
              replace hf := Fr.keep (ks := [0, 1, 5, 41, 47]) (L' := [(0, .slice ao1 p_a.length cp1), (1, .slice ao2 b.length cp2), (5, .int .i64 s2), (41, .bool false), (47, strV (toStr ((gt p_a s2).2.2)))]) hf (by kernel_rfl)
              refine stQ tbOk 2 [0, 1, 5, 41, 47, 48, 49] (L' := [(0, .slice ao1 p_a.length cp1), (1, .slice ao2 b.length cp2), (5, .int .i64 s2), (41, .bool false), (47, strV (toStr ((gt p_a s2).2.2))), (48, .slice ao2 b.length cp2), (49, .int .i64 s2)]) hf (by kernel_rfl) ?_
              clear hf; clear a; intro a hf
              have hT := of_gd hS; clear hS; obtain ⟨hc6, hS⟩ := hT
              refine ixRQ tbOk u42 i65 rfl rfl ((hs.ro 1 rfl).ra (LeH.refl _)) (k := .i64) (n := s2) hc6 hf (by kernel_rfl) (by kernel_rfl) (by kernel_rfl) (by kernel_rfl) ?_
              clear hf; clear a; intro pb6 po6 c6 a hp6 hr11 hf
              obtain ⟨ao8, cp8, rfl, hr12⟩ := hr11
              replace hs : Sep w F R w1 F2 [.ro (tI .u8) (.slice ao8 ((gt b s2).2.2).length cp8) ((gt b s2).2.2), .ro ty53 (.slice ao1 p_a.length cp1) p_a, .ro ty53 (.slice ao2 b.length cp2) b] := hs.addRo hr12
              replace hs : Sep w F R w1 F2 [.cel pb6 po6 [strV ((gt b s2).1), .int .u32 ((gt b s2).2.1), .slice ao8 ((gt b s2).2.2).length cp8], .ro (tI .u8) (.slice ao8 ((gt b s2).2.2).length cp8) ((gt b s2).2.2), .ro ty53 (.slice ao1 p_a.length cp1) p_a, .ro ty53 (.slice ao2 b.length cp2) b] := hs.addCel hp6
              replace hf := Fr.keep (ks := [0, 1, 5, 41, 47, 50]) (L' := [(0, .slice ao1 p_a.length cp1), (1, .slice ao2 b.length cp2), (5, .int .i64 s2), (41, .bool false), (47, strV (toStr ((gt p_a s2).2.2))), (50, .pointer (some ⟨pb6, po6, none⟩))]) hf (by kernel_rfl)
              refine stQ tbOk 1 [0, 1, 5, 41, 47, 51] (L' := [(0, .slice ao1 p_a.length cp1), (1, .slice ao2 b.length cp2), (5, .int .i64 s2), (41, .bool false), (47, strV (toStr ((gt p_a s2).2.2))), (51, .pointer (some ⟨pb6, po6 + 2, none⟩))]) hf (by kernel_rfl) ?_
              clear hf; clear a; intro a hf
              refine ldCQ tbOk (T := 22) (hs.ccel 0 rfl) (LeH.refl _) 2 (.slice ao8 ((gt b s2).2.2).length cp8) hf (by kernel_rfl) (by kernel_rfl) (by kernel_rfl) (by kernel_rfl) ?_
              clear hf; clear a; intro a hf
              replace hs : Sep w F R w1 F2 [.ro (tI .u8) (.slice ao8 ((gt b s2).2.2).length cp8) ((gt b s2).2.2), .ro ty53 (.slice ao1 p_a.length cp1) p_a, .ro ty53 (.slice ao2 b.length cp2) b] := hs.sel [1, 2, 3] rfl rfl
              replace hf := Fr.keep (ks := [0, 1, 5, 41, 47, 52]) (L' := [(0, .slice ao1 p_a.length cp1), (1, .slice ao2 b.length cp2), (5, .int .i64 s2), (41, .bool false), (47, strV (toStr ((gt p_a s2).2.2))), (52, .slice ao8 ((gt b s2).2.2).length cp8)]) hf (by kernel_rfl)
              refine b2sRQ tbOk u22 u5 u9 (hs.raR 0 rfl) hf (by kernel_rfl) (by kernel_rfl) (by kernel_rfl) ?_
              clear hf; clear a; intro a hf
              replace hs : Sep w F R w1 F2 [.ro ty53 (.slice ao1 p_a.length cp1) p_a, .ro ty53 (.slice ao2 b.length cp2) b] := hs.sel [1, 2] rfl rfl
              replace hf := Fr.keep (ks := [0, 1, 5, 41, 47, 53]) (L' := [(0, .slice ao1 p_a.length cp1), (1, .slice ao2 b.length cp2), (5, .int .i64 s2), (41, .bool false), (47, strV (toStr ((gt p_a s2).2.2))), (53, strV (toStr ((gt b s2).2.2)))]) hf (by kernel_rfl)
              refine stQ tbOk 2 [0, 1, 5, 55] (L' := [(0, .slice ao1 p_a.length cp1), (1, .slice ao2 b.length cp2), (5, .int .i64 s2), (55, .bool (!((toStr ((gt p_a s2).2.2)) == (toStr ((gt b s2).2.2)))))]) hf (by kernel_rfl) ?_
              clear hf; clear a; intro a hf
              refine wpQuiet_nil ?_
              intro w4 hx
              replace hs : Sep w F R w4 F2 [.ro ty53 (.slice ao1 p_a.length cp1) p_a, .ro ty53 (.slice ao2 b.length cp2) b] := hs.ext hx
              clear hx
              exact hK3 (!((toStr ((gt p_a s2).2.2)) == (toStr ((gt b s2).2.2)))) _ _ ⟨_, hs.sel [0, 1] rfl rfl, hf.keep (ks := [0, 1, 5, 55]) (by kernel_rfl)⟩ hS
      · replace hS := of_f hb2 hS
        refine wp_exit ?_
        exact hK1 () _ _ ⟨_, hs.sel [] rfl rfl, hf.keep (ks := []) (by kernel_rfl)⟩ hS

end Dm
