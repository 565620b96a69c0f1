/-
  The walk of the law SymbolsTables; printed by a program of this repo. No condition.
-/
import Derived.Test.YtmocofbneblccaaWT
import Derived.Test.YtmocofbneblccaaW10
import Derived.Test.YtmocofbneblccaaW12
namespace Dm
open Go Go.RowKit Go.Proofs

set_option maxHeartbeats 4000000 in
theorem law06_SymbolsTables_ok {w : World} {F : SH} {b : List Int} {ao1 : Option Addr} {cp1 : Nat} (hs : Sep w F (blks [.ro (tI .u8) (.slice ao1 b.length cp1) b]) w F [.ro (tI .u8) (.slice ao1 b.length cp1) b]) {r : Bool} (hS : law06_SymbolsTables b = some r) :
    Calls Try.prog 9 [.slice ao1 b.length cp1].toArray w (Gives (fun u w' => ∃ (F' : SH), u = .bool r ∧ Sep w F (blks [.ro (tI .u8) (.slice ao1 b.length cp1) b]) w' F' [])) := by
  generalize (blks [.ro (tI .u8) (.slice ao1 b.length cp1) b]) = R at hs ⊢
  unfold law06_SymbolsTables at hS
  refine fn_ok (vs := [.slice ao1 b.length cp1]) Try.func9 rfl 50 Try.ntmps9 (Nat.le_of_ble_eq_true rfl) ?_
  intro a hf
  replace hf := Fr.cast (L' := [(0, .slice ao1 b.length cp1)]) hf (by kernel_rfl)
  refine sq ?_
  refine reg ?_
  refine st tbOk 1 [0] (L' := [(0, .slice ao1 b.length cp1)]) hf (by kernel_rfl) ?_
  clear hf; clear a; intro a hf
  refine wpList_nil ?_
  refine sq ?_
  refine reg ?_
  have hT := of_bd hS; clear hS; obtain ⟨z1, hz1, hS⟩ := hT
  refine clV ent25 (vs := []) (caps := []) hf (by kernel_rfl) (by kernel_rfl) (by kernel_rfl) (by kernel_rfl) (law06_awake_ok (hs.enter [] rfl rfl) hz1) ?_
  clear hf; clear a; intro v w1 a hT hf; obtain ⟨F1, rfl, hr⟩ := hT
  replace hs : Sep w F R w1 F1 [.ro (tI .u8) (.slice ao1 b.length cp1) b] := hs.back [] [0] rfl rfl rfl rfl hr
  clear hr
  replace hf := Fr.keep (ks := [0, 9]) (L' := [(0, .slice ao1 b.length cp1), (9, .bool z1)]) hf (by kernel_rfl)
  refine st tbOk 1 [0, 3] (L' := [(0, .slice ao1 b.length cp1), (3, .bool z1)]) hf (by kernel_rfl) ?_
  clear hf; clear a; intro a hf
  refine wpList_nil ?_
  refine sq ?_
  refine sq ?_
  refine reg ?_
  refine st tbOk 2 [0, 11] (L' := [(0, .slice ao1 b.length cp1), (11, .bool (!z1))]) hf (by kernel_rfl) ?_
  clear hf; clear a; intro a hf
  refine wpList_nil ?_
  refine cnd (b := !z1) hf (by kernel_rfl) (fun hb1 => ?_) (fun hb1 => ?_)
  · replace hS := of_t hb1 hS
    refine sq ?_
    refine reg ?_
    refine st tbOk 1 [2] (L' := [(2, .bool false)]) hf (by kernel_rfl) ?_
    clear hf; clear a; intro a hf
    refine wpList_nil ?_
    have hr := Option.some.inj hS; subst hr
    refine wp_ret ?_
    exact ret_ok hf (vs := [.bool false]) (by kernel_rfl) ⟨_, rfl, hs.sel [] rfl rfl⟩
  · replace hS := of_f hb1 hS
    refine wp_skip ?_
    refine sq ?_
    refine sq ?_
    refine reg ?_
    refine st tbOk 3 [0, 14] (L' := [(0, .slice ao1 b.length cp1), (14, .bool (decide (((b.length : Nat) : Int) > 4000)))]) hf (by kernel_rfl) ?_
    clear hf; clear a; intro a hf
    refine wpList_nil ?_
    refine cnd (b := decide (((b.length : Nat) : Int) > 4000)) hf (by kernel_rfl) (fun hb2 => ?_) (fun hb2 => ?_)
    · replace hS := of_t hb2 hS
      refine sq ?_
      refine reg ?_
      refine st tbOk 1 [2] (L' := [(2, .bool true)]) hf (by kernel_rfl) ?_
      clear hf; clear a; intro a hf
      refine wpList_nil ?_
      have hr := Option.some.inj hS; subst hr
      refine wp_ret ?_
      exact ret_ok hf (vs := [.bool true]) (by kernel_rfl) ⟨_, rfl, hs.sel [] rfl rfl⟩
    · replace hS := of_f hb2 hS
      refine wp_skip ?_
      refine sq ?_
      refine reg ?_
      refine st tbOk 1 [0, 16] (L' := [(0, .slice ao1 b.length cp1), (16, .slice ao1 b.length cp1)]) hf (by kernel_rfl) ?_
      clear hf; clear a; intro a hf
      have hT := of_bd hS; clear hS; obtain ⟨z2, hz2, hS⟩ := hT
      refine clV ent31 (vs := [.slice ao1 b.length cp1]) (caps := []) hf (by kernel_rfl) (by kernel_rfl) (by kernel_rfl) (by kernel_rfl) (symbols_Table_ok (b := b) (hs.enter [0] rfl rfl) hz2) ?_
      clear hf; clear a; intro v w2 a hT hf; obtain ⟨ao2, cp2, F2, rfl, hr⟩ := hT
      replace hs : Sep w F R w2 F2 [.row 65 ty64 (.slice ao2 z2.1.length cp2) z2.1, .ro (tI .u8) (.slice ao1 b.length cp1) b] := hs.back [0] [0] rfl rfl rfl rfl hr
      clear hr
      replace hf := Fr.keep (ks := [0, 17]) (L' := [(0, .slice ao1 b.length cp1), (17, .tuple #[.slice ao2 z2.1.length cp2, .int .i64 z2.2])]) hf (by kernel_rfl)
      refine st tbOk 5 [0, 4, 5] (L' := [(0, .slice ao1 b.length cp1), (4, .slice ao2 z2.1.length cp2), (5, .int .i64 z2.2)]) hf (by kernel_rfl) ?_
      clear hf; clear a; intro a hf
      refine wpList_nil ?_
      refine sq ?_
      refine reg ?_
      refine st tbOk 1 [4, 5, 21] (L' := [(4, .slice ao2 z2.1.length cp2), (5, .int .i64 z2.2), (21, .slice ao1 b.length cp1)]) hf (by kernel_rfl) ?_
      clear hf; clear a; intro a hf
      have hT := of_bd hS; clear hS; obtain ⟨z3, hz3, hS⟩ := hT
      refine clV ent32 (vs := [.slice ao1 b.length cp1]) (caps := []) hf (by kernel_rfl) (by kernel_rfl) (by kernel_rfl) (by kernel_rfl) (ref06_Table_ok (b := b) (hs.enter [1] rfl rfl) hz3) ?_
      clear hf; clear a; intro v w3 a hT hf; obtain ⟨ao3, cp3, F3, rfl, hr⟩ := hT
      replace hs : Sep w F R w3 F3 [.row 65 ty64 (.slice ao3 z3.1.length cp3) z3.1, .row 65 ty64 (.slice ao2 z2.1.length cp2) z2.1, .ro (tI .u8) (.slice ao1 b.length cp1) b] := hs.back [1] [0, 1] rfl rfl rfl rfl hr
      clear hr
      replace hs : Sep w F R w3 F3 [.row 65 ty64 (.slice ao3 z3.1.length cp3) z3.1, .row 65 ty64 (.slice ao2 z2.1.length cp2) z2.1] := hs.sel [0, 1] rfl rfl
      replace hf := Fr.keep (ks := [4, 5, 22]) (L' := [(4, .slice ao2 z2.1.length cp2), (5, .int .i64 z2.2), (22, .tuple #[.slice ao3 z3.1.length cp3, .int .i64 z3.2])]) hf (by kernel_rfl)
      refine st tbOk 5 [4, 5, 6, 7] (L' := [(4, .slice ao2 z2.1.length cp2), (5, .int .i64 z2.2), (6, .slice ao3 z3.1.length cp3), (7, .int .i64 z3.2)]) hf (by kernel_rfl) ?_
      clear hf; clear a; intro a hf
      refine wpList_nil ?_
      refine sq ?_
      refine sq ?_
      refine ctj (fun (s1 : Bool) (a : Act) (w' : World) => ∃ (F4 : SH), Sep w F R w' F4 [.row 65 ty64 (.slice ao3 z3.1.length cp3) z3.1, .row 65 ty64 (.slice ao2 z2.1.length cp2) z2.1] ∧ Fr 50 [(4, .slice ao2 z2.1.length cp2), (6, .slice ao3 z3.1.length cp3), (34, .bool s1)] a) hS ?_ ?_
      · clear hS hf hs; clear a; intro s1 a w4 hM hS
        obtain ⟨F4, hs, hf⟩ := hM
        refine cnd (b := s1) hf (by kernel_rfl) (fun hb4 => ?_) (fun hb4 => ?_)
        · replace hS := of_t hb4 hS
          refine sq ?_
          refine reg ?_
          refine st tbOk 1 [2] (L' := [(2, .bool false)]) hf (by kernel_rfl) ?_
          clear hf; clear a; intro a hf
          refine wpList_nil ?_
          have hr := Option.some.inj hS; subst hr
          refine wp_ret ?_
          exact ret_ok hf (vs := [.bool false]) (by kernel_rfl) ⟨_, rfl, hs.sel [] rfl rfl⟩
        · replace hS := of_f hb4 hS
          refine wp_skip ?_
          refine sq ?_
          refine sq ?_
          refine reg ?_
          refine st tbOk 1 [4, 6, 8] (L' := [(4, .slice ao2 z2.1.length cp2), (6, .slice ao3 z3.1.length cp3), (8, .int .i64 0)]) hf (by kernel_rfl) ?_
          clear hf; clear a; intro a hf
          refine wpList_nil ?_
          refine ctj (fun (s2 : Unit) (a : Act) (w' : World) => ∃ (F5 : SH), Sep w F R w' F5 [] ∧ Fr 50 [] a) hS ?_ ?_
          · clear hS hf hs; clear a; intro s2 a w7 hM hS
            obtain ⟨F5, hs, hf⟩ := hM
            refine sq ?_
            refine reg ?_
            refine st tbOk 1 [2] (L' := [(2, .bool true)]) hf (by kernel_rfl) ?_
            clear hf; clear a; intro a hf
            refine wpList_nil ?_
            have hr := Option.some.inj hS; subst hr
            refine wp_ret ?_
            exact ret_ok hf (vs := [.bool true]) (by kernel_rfl) ⟨_, rfl, hs.sel [] rfl rfl⟩
          · clear hS; intro KK2 k2 hK2 hS
            refine blk ?_
            refine lp (st := 0) (fun (s3 : Int) (a : Act) (w' : World) => ∃ (F6 : SH), Sep w F R w' F6 [.row 65 ty64 (.slice ao3 z3.1.length cp3) z3.1, .row 65 ty64 (.slice ao2 z2.1.length cp2) z2.1] ∧ Fr 50 [(4, .slice ao2 z2.1.length cp2), (6, .slice ao3 z3.1.length cp3), (8, .int .i64 s3)] a) ?_ ⟨_, hs.sel [0, 1] rfl rfl, hf.keep (ks := [4, 6, 8]) (by kernel_rfl)⟩ hS
            clear hS hf hs; clear a
            intro rec1 KK3 hK3 s3 a w5 hM hS
            obtain ⟨F6, hs, hf⟩ := hM
            refine sq ?_
            refine sq ?_
            refine reg ?_
            refine st tbOk 4 [4, 6, 8, 38] (L' := [(4, .slice ao2 z2.1.length cp2), (6, .slice ao3 z3.1.length cp3), (8, .int .i64 s3), (38, .bool (decide (s3 < ((z2.1.length : Nat) : Int))))]) hf (by kernel_rfl) ?_
            clear hf; clear a; intro a hf
            refine wpList_nil ?_
            refine cnd (b := decide (s3 < ((z2.1.length : Nat) : Int))) hf (by kernel_rfl) (fun hb5 => ?_) (fun hb5 => ?_)
            · replace hS := of_t hb5 hS
              refine wp_skip ?_
              refine sq ?_
              refine blk ?_
              refine sq ?_
              refine regQ mixed (by kernel_rfl) ?_
              refine stQ tbOk 2 [4, 6, 8, 41, 42] (L' := [(4, .slice ao2 z2.1.length cp2), (6, .slice ao3 z3.1.length cp3), (8, .int .i64 s3), (41, .slice ao2 z2.1.length cp2), (42, .int .i64 s3)]) hf (by kernel_rfl) ?_
              clear hf; clear a; intro a hf
              have hT := of_gd hS; clear hS; obtain ⟨hc1, hS⟩ := hT
              refine ixRQ tbOk u69 i65 rfl rfl (hs.raW 1 rfl) (k := .i64) (n := s3) hc1 hf (by kernel_rfl) (by kernel_rfl) (by kernel_rfl) (by kernel_rfl) ?_
              clear hf; clear a; intro pb1 po1 c1 a hp1 hr1 hf
              obtain rfl : c1 = [.int .u32 ((gt z2.1 s3).1), .int .u8 ((gt z2.1 s3).2.1), .int .u8 ((gt z2.1 s3).2.2.1), .int .u16 ((gt z2.1 s3).2.2.2.1), .int .u64 ((gt z2.1 s3).2.2.2.2.1), .int .u64 ((gt z2.1 s3).2.2.2.2.2)] := hr1
              replace hf := Fr.keep (ks := [4, 6, 8, 43]) (L' := [(4, .slice ao2 z2.1.length cp2), (6, .slice ao3 z3.1.length cp3), (8, .int .i64 s3), (43, .pointer (some ⟨pb1, po1, none⟩))]) hf (by kernel_rfl)
              refine ldCQ tbOk (T := 65) hp1 (LeH.refl _) 0 (.agg #[.int .u32 ((gt z2.1 s3).1), .int .u8 ((gt z2.1 s3).2.1), .int .u8 ((gt z2.1 s3).2.2.1), .int .u16 ((gt z2.1 s3).2.2.2.1), .int .u64 ((gt z2.1 s3).2.2.2.2.1), .int .u64 ((gt z2.1 s3).2.2.2.2.2)]) hf (by kernel_rfl) (by kernel_rfl) (by kernel_rfl) (by kernel_rfl) ?_
              clear hf; clear a; intro a hf
              replace hf := Fr.keep (ks := [4, 6, 8, 44]) (L' := [(4, .slice ao2 z2.1.length cp2), (6, .slice ao3 z3.1.length cp3), (8, .int .i64 s3), (44, .agg #[.int .u32 ((gt z2.1 s3).1), .int .u8 ((gt z2.1 s3).2.1), .int .u8 ((gt z2.1 s3).2.2.1), .int .u16 ((gt z2.1 s3).2.2.2.1), .int .u64 ((gt z2.1 s3).2.2.2.2.1), .int .u64 ((gt z2.1 s3).2.2.2.2.2)])]) hf (by kernel_rfl)
              refine stQ tbOk 2 [4, 6, 8, 44, 45, 46] (L' := [(4, .slice ao2 z2.1.length cp2), (6, .slice ao3 z3.1.length cp3), (8, .int .i64 s3), (44, .agg #[.int .u32 ((gt z2.1 s3).1), .int .u8 ((gt z2.1 s3).2.1), .int .u8 ((gt z2.1 s3).2.2.1), .int .u16 ((gt z2.1 s3).2.2.2.1), .int .u64 ((gt z2.1 s3).2.2.2.2.1), .int .u64 ((gt z2.1 s3).2.2.2.2.2)]), (45, .slice ao3 z3.1.length cp3), (46, .int .i64 s3)]) hf (by kernel_rfl) ?_
              clear hf; clear a; intro a hf
              have hT := of_gd hS; clear hS; obtain ⟨hc2, hS⟩ := hT
              refine ixRQ tbOk u69 i65 rfl rfl (hs.raW 0 rfl) (k := .i64) (n := s3) hc2 hf (by kernel_rfl) (by kernel_rfl) (by kernel_rfl) (by kernel_rfl) ?_
              clear hf; clear a; intro pb2 po2 c2 a hp2 hr2 hf
              obtain rfl : c2 = [.int .u32 ((gt z3.1 s3).1), .int .u8 ((gt z3.1 s3).2.1), .int .u8 ((gt z3.1 s3).2.2.1), .int .u16 ((gt z3.1 s3).2.2.2.1), .int .u64 ((gt z3.1 s3).2.2.2.2.1), .int .u64 ((gt z3.1 s3).2.2.2.2.2)] := hr2
              replace hf := Fr.keep (ks := [4, 6, 8, 44, 47]) (L' := [(4, .slice ao2 z2.1.length cp2), (6, .slice ao3 z3.1.length cp3), (8, .int .i64 s3), (44, .agg #[.int .u32 ((gt z2.1 s3).1), .int .u8 ((gt z2.1 s3).2.1), .int .u8 ((gt z2.1 s3).2.2.1), .int .u16 ((gt z2.1 s3).2.2.2.1), .int .u64 ((gt z2.1 s3).2.2.2.2.1), .int .u64 ((gt z2.1 s3).2.2.2.2.2)]), (47, .pointer (some ⟨pb2, po2, none⟩))]) hf (by kernel_rfl)
              refine ldCQ tbOk (T := 65) hp2 (LeH.refl _) 0 (.agg #[.int .u32 ((gt z3.1 s3).1), .int .u8 ((gt z3.1 s3).2.1), .int .u8 ((gt z3.1 s3).2.2.1), .int .u16 ((gt z3.1 s3).2.2.2.1), .int .u64 ((gt z3.1 s3).2.2.2.2.1), .int .u64 ((gt z3.1 s3).2.2.2.2.2)]) hf (by kernel_rfl) (by kernel_rfl) (by kernel_rfl) (by kernel_rfl) ?_
              clear hf; clear a; intro a hf
              replace hf := Fr.keep (ks := [4, 6, 8, 44, 48]) (L' := [(4, .slice ao2 z2.1.length cp2), (6, .slice ao3 z3.1.length cp3), (8, .int .i64 s3), (44, .agg #[.int .u32 ((gt z2.1 s3).1), .int .u8 ((gt z2.1 s3).2.1), .int .u8 ((gt z2.1 s3).2.2.1), .int .u16 ((gt z2.1 s3).2.2.2.1), .int .u64 ((gt z2.1 s3).2.2.2.2.1), .int .u64 ((gt z2.1 s3).2.2.2.2.2)]), (48, .agg #[.int .u32 ((gt z3.1 s3).1), .int .u8 ((gt z3.1 s3).2.1), .int .u8 ((gt z3.1 s3).2.2.1), .int .u16 ((gt z3.1 s3).2.2.2.1), .int .u64 ((gt z3.1 s3).2.2.2.2.1), .int .u64 ((gt z3.1 s3).2.2.2.2.2)])]) hf (by kernel_rfl)
              refine stQ tbOk 1 [4, 6, 8, 49] (L' := [(4, .slice ao2 z2.1.length cp2), (6, .slice ao3 z3.1.length cp3), (8, .int .i64 s3), (49, .bool (!((((gt z2.1 s3).1) == ((gt z3.1 s3).1)) && ((((gt z2.1 s3).2.1) == ((gt z3.1 s3).2.1)) && ((((gt z2.1 s3).2.2.1) == ((gt z3.1 s3).2.2.1)) && ((((gt z2.1 s3).2.2.2.1) == ((gt z3.1 s3).2.2.2.1)) && ((((gt z2.1 s3).2.2.2.2.1) == ((gt z3.1 s3).2.2.2.2.1)) && (((gt z2.1 s3).2.2.2.2.2) == ((gt z3.1 s3).2.2.2.2.2)))))))))]) hf (by kernel_rfl) ?_
              clear hf; clear a; intro a hf
              refine wpQuiet_nil ?_
              intro w6 hx
              replace hs : Sep w F R w6 F6 [.row 65 ty64 (.slice ao3 z3.1.length cp3) z3.1, .row 65 ty64 (.slice ao2 z2.1.length cp2) z2.1] := hs.ext hx
              clear hx
              refine cnd (b := !((((gt z2.1 s3).1) == ((gt z3.1 s3).1)) && ((((gt z2.1 s3).2.1) == ((gt z3.1 s3).2.1)) && ((((gt z2.1 s3).2.2.1) == ((gt z3.1 s3).2.2.1)) && ((((gt z2.1 s3).2.2.2.1) == ((gt z3.1 s3).2.2.2.1)) && ((((gt z2.1 s3).2.2.2.2.1) == ((gt z3.1 s3).2.2.2.2.1)) && (((gt z2.1 s3).2.2.2.2.2) == ((gt z3.1 s3).2.2.2.2.2)))))))) hf (by kernel_rfl) (fun hb6 => ?_) (fun hb6 => ?_)
              · replace hS := of_t hb6 hS
                refine sq ?_
                refine reg ?_
                refine st tbOk 1 [2] (L' := [(2, .bool false)]) hf (by kernel_rfl) ?_
                clear hf; clear a; intro a hf
                refine wpList_nil ?_
                have hr := Option.some.inj hS; subst hr
                refine wp_ret ?_
                exact ret_ok hf (vs := [.bool false]) (by kernel_rfl) ⟨_, rfl, hs.sel [] rfl rfl⟩
              · replace hS := of_f hb6 hS
                refine wp_skip ?_
                refine reg ?_
                have hT := of_let hS; clear hS; obtain ⟨i_1, hl1, hS⟩ := hT
                refine st tbOk 3 [4, 6, 8] (L' := [(4, .slice ao2 z2.1.length cp2), (6, .slice ao3 z3.1.length cp3), (8, .int .i64 i_1)]) hf (by subst hl1; kernel_rfl) ?_
                clear hf; clear a; intro a hf
                refine wpList_nil ?_
                exact hK3 i_1 _ _ ⟨_, hs.sel [0, 1] rfl rfl, hf.keep (ks := [4, 6, 8]) (by kernel_rfl)⟩ hS
            · replace hS := of_f hb5 hS
              refine wp_exit ?_
              exact hK2 () _ _ ⟨_, hs.sel [] rfl rfl, hf.keep (ks := []) (by kernel_rfl)⟩ hS
      · clear hS; intro KK1 k1 hK1 hS
        refine reg ?_
        refine st tbOk 4 [4, 6, 28] (L' := [(4, .slice ao2 z2.1.length cp2), (6, .slice ao3 z3.1.length cp3), (28, .bool (z2.2 != z3.2))]) hf (by kernel_rfl) ?_
        clear hf; clear a; intro a hf
        rcases Bool.eq_false_or_eq_true (z2.2 != z3.2) with hb3 | hb3
        · replace hS := of_t hb3 hS
          replace hf := Fr.cast (L' := [(4, .slice ao2 z2.1.length cp2), (6, .slice ao3 z3.1.length cp3), (28, .bool true)]) hf (by rw [hb3])
          refine st tbOk 6 [4, 6, 34] (L' := [(4, .slice ao2 z2.1.length cp2), (6, .slice ao3 z3.1.length cp3), (34, .bool true)]) hf (by kernel_rfl) ?_
          clear hf; clear a; intro a hf
          refine wpList_nil ?_
          exact hK1 true _ _ ⟨_, hs.sel [0, 1] rfl rfl, hf.keep (ks := [4, 6, 34]) (by kernel_rfl)⟩ hS
        · replace hS := of_f hb3 hS
          replace hf := Fr.cast (L' := [(4, .slice ao2 z2.1.length cp2), (6, .slice ao3 z3.1.length cp3), (28, .bool false)]) hf (by rw [hb3])
          refine st tbOk 6 [4, 6, 34] (L' := [(4, .slice ao2 z2.1.length cp2), (6, .slice ao3 z3.1.length cp3), (34, .bool (((z2.1.length : Nat) : Int) != ((z3.1.length : Nat) : Int)))]) hf (by kernel_rfl) ?_
          clear hf; clear a; intro a hf
          refine wpList_nil ?_
          exact hK1 (((z2.1.length : Nat) : Int) != ((z3.1.length : Nat) : Int)) _ _ ⟨_, hs.sel [0, 1] rfl rfl, hf.keep (ks := [4, 6, 34]) (by kernel_rfl)⟩ hS

end Dm
