/-
  The walk of the law NotesFinds; printed by a program of this repo. No condition.
-/
import Derived.Test.YtmlghbdlhjinaaaWT
import Derived.Test.YtmlghbdlhjinaaaW5
import Derived.Test.YtmlghbdlhjinaaaW6
namespace Dm
open Go Go.RowKit Go.Proofs

set_option maxHeartbeats 4000000 in
theorem law08_NotesFinds_ok {w : World} {F : SH} {p_l : List ((List UInt8) × Int × (List Int))} {name : List UInt8} {kind : Int} {ao1 : Option Addr} {cp1 : Nat} (hs : Sep w F (blks [.ro ty53 (.slice ao1 p_l.length cp1) p_l]) w F [.ro ty53 (.slice ao1 p_l.length cp1) p_l]) {r : Bool} (hS : law08_NotesFinds p_l name kind = some r) :
    Calls Try.prog 11 [.slice ao1 p_l.length cp1, strV name, .int .u32 kind].toArray w (Gives (fun u w' => ∃ (F' : SH), u = .bool r ∧ Sep w F (blks [.ro ty53 (.slice ao1 p_l.length cp1) p_l]) w' F' [])) := by
  generalize (blks [.ro ty53 (.slice ao1 p_l.length cp1) p_l]) = R at hs ⊢
  unfold law08_NotesFinds at hS
  refine fn_ok (vs := [.slice ao1 p_l.length cp1, strV name, .int .u32 kind]) Try.func11 rfl 96 Try.ntmps11 (Nat.le_of_ble_eq_true rfl) ?_
  intro a hf
  replace hf := Fr.cast (L' := [(0, .slice ao1 p_l.length cp1), (1, strV name), (2, .int .u32 kind)]) hf (by kernel_rfl)
  refine sq ?_
  refine reg ?_
  refine st tbOk 1 [0, 1, 2] (L' := [(0, .slice ao1 p_l.length cp1), (1, strV name), (2, .int .u32 kind)]) hf (by kernel_rfl) ?_
  clear hf; clear a; intro a hf
  refine wpList_nil ?_
  refine sq ?_
  refine reg ?_
  have hT := of_bd hS; clear hS; obtain ⟨z1, hz1, hS⟩ := hT
  refine clV ent23 (vs := []) (caps := []) hf (by kernel_rfl) (by kernel_rfl) (by kernel_rfl) (by kernel_rfl) (law08_awake_ok (hs.enter [] rfl rfl) hz1) ?_
  clear hf; clear a; intro v w1 a hT hf; obtain ⟨F1, rfl, hr⟩ := hT
  replace hs : Sep w F R w1 F1 [.ro ty53 (.slice ao1 p_l.length cp1) p_l] := hs.back [] [0] rfl rfl rfl rfl hr
  clear hr
  replace hf := Fr.keep (ks := [0, 1, 2, 15]) (L' := [(0, .slice ao1 p_l.length cp1), (1, strV name), (2, .int .u32 kind), (15, .bool z1)]) hf (by kernel_rfl)
  refine st tbOk 1 [0, 1, 2, 7] (L' := [(0, .slice ao1 p_l.length cp1), (1, strV name), (2, .int .u32 kind), (7, .bool z1)]) hf (by kernel_rfl) ?_
  clear hf; clear a; intro a hf
  refine wpList_nil ?_
  refine sq ?_
  refine sq ?_
  refine reg ?_
  refine st tbOk 2 [0, 1, 2, 17] (L' := [(0, .slice ao1 p_l.length cp1), (1, strV name), (2, .int .u32 kind), (17, .bool (!z1))]) hf (by kernel_rfl) ?_
  clear hf; clear a; intro a hf
  refine wpList_nil ?_
  refine cnd (b := !z1) hf (by kernel_rfl) (fun hb1 => ?_) (fun hb1 => ?_)
  · replace hS := of_t hb1 hS
    refine sq ?_
    refine reg ?_
    refine st tbOk 1 [6] (L' := [(6, .bool false)]) hf (by kernel_rfl) ?_
    clear hf; clear a; intro a hf
    refine wpList_nil ?_
    have hr := Option.some.inj hS; subst hr
    refine wp_ret ?_
    exact ret_ok hf (vs := [.bool false]) (by kernel_rfl) ⟨_, rfl, hs.sel [] rfl rfl⟩
  · replace hS := of_f hb1 hS
    refine wp_skip ?_
    refine sq ?_
    refine reg ?_
    refine st tbOk 1 [0, 1, 2, 18] (L' := [(0, .slice ao1 p_l.length cp1), (1, strV name), (2, .int .u32 kind), (18, .slice ao1 p_l.length cp1)]) hf (by kernel_rfl) ?_
    clear hf; clear a; intro a hf
    have hT := of_bd hS; clear hS; obtain ⟨z2, hz2, hS⟩ := hT
    refine clV ent24 (vs := [.slice ao1 p_l.length cp1]) (caps := []) hf (by kernel_rfl) (by kernel_rfl) (by kernel_rfl) (by kernel_rfl) (law08_few_ok (p_l := p_l) (hs.enter [0] rfl rfl) hz2) ?_
    clear hf; clear a; intro v w2 a hT hf; obtain ⟨F2, rfl, hr⟩ := hT
    replace hs : Sep w F R w2 F2 [.ro ty53 (.slice ao1 p_l.length cp1) p_l] := hs.back [0] [0] rfl rfl rfl rfl hr
    clear hr
    replace hf := Fr.keep (ks := [0, 1, 2, 19]) (L' := [(0, .slice ao1 p_l.length cp1), (1, strV name), (2, .int .u32 kind), (19, .bool z2)]) hf (by kernel_rfl)
    refine st tbOk 1 [0, 1, 2, 8] (L' := [(0, .slice ao1 p_l.length cp1), (1, strV name), (2, .int .u32 kind), (8, .bool z2)]) hf (by kernel_rfl) ?_
    clear hf; clear a; intro a hf
    refine wpList_nil ?_
    refine sq ?_
    refine sq ?_
    refine reg ?_
    refine st tbOk 2 [0, 1, 2, 21] (L' := [(0, .slice ao1 p_l.length cp1), (1, strV name), (2, .int .u32 kind), (21, .bool (!z2))]) hf (by kernel_rfl) ?_
    clear hf; clear a; intro a hf
    refine wpList_nil ?_
    refine cnd (b := !z2) hf (by kernel_rfl) (fun hb2 => ?_) (fun hb2 => ?_)
    · replace hS := of_t hb2 hS
      refine sq ?_
      refine reg ?_
      refine st tbOk 1 [6] (L' := [(6, .bool true)]) hf (by kernel_rfl) ?_
      clear hf; clear a; intro a hf
      refine wpList_nil ?_
      have hr := Option.some.inj hS; subst hr
      refine wp_ret ?_
      exact ret_ok hf (vs := [.bool true]) (by kernel_rfl) ⟨_, rfl, hs.sel [] rfl rfl⟩
    · replace hS := of_f hb2 hS
      refine wp_skip ?_
      refine sq ?_
      refine reg ?_
      refine st tbOk 3 [0, 1, 2, 23, 24, 25] (L' := [(0, .slice ao1 p_l.length cp1), (1, strV name), (2, .int .u32 kind), (23, .slice ao1 p_l.length cp1), (24, strV name), (25, .int .u32 kind)]) hf (by kernel_rfl) ?_
      clear hf; clear a; intro a hf
      have hT := of_bd hS; clear hS; obtain ⟨z3, hz3, hS⟩ := hT
      refine clV ent31 (vs := [.slice ao1 p_l.length cp1, strV name, .int .u32 kind]) (caps := []) hf (by kernel_rfl) (by kernel_rfl) (by kernel_rfl) (by kernel_rfl) (notes_Find_ok (p_l := p_l) (name := name) (kind := kind) (hs.enter [0] rfl rfl) hz3) ?_
      clear hf; clear a; intro v w3 a hT hf; obtain ⟨ao2, cp2, F3, rfl, hr⟩ := hT
      replace hs : Sep w F R w3 F3 [.row 5 (tI .u8) (.slice ao2 z3.1.length cp2) z3.1, .ro ty53 (.slice ao1 p_l.length cp1) p_l] := hs.back [0] [0] rfl rfl rfl rfl hr
      clear hr
      replace hf := Fr.keep (ks := [0, 1, 2, 26]) (L' := [(0, .slice ao1 p_l.length cp1), (1, strV name), (2, .int .u32 kind), (26, .tuple #[.slice ao2 z3.1.length cp2, .bool z3.2])]) hf (by kernel_rfl)
      refine st tbOk 5 [0, 1, 2, 9, 10] (L' := [(0, .slice ao1 p_l.length cp1), (1, strV name), (2, .int .u32 kind), (9, .slice ao2 z3.1.length cp2), (10, .bool z3.2)]) hf (by kernel_rfl) ?_
      clear hf; clear a; intro a hf
      refine wpList_nil ?_
      refine sq ?_
      refine sq ?_
      refine reg ?_
      refine st tbOk 1 [0, 1, 2, 9, 10, 11] (L' := [(0, .slice ao1 p_l.length cp1), (1, strV name), (2, .int .u32 kind), (9, .slice ao2 z3.1.length cp2), (10, .bool z3.2), (11, .int .i64 0)]) hf (by kernel_rfl) ?_
      clear hf; clear a; intro a hf
      refine wpList_nil ?_
      refine ctj (fun (s1 : Unit) (a : Act) (w' : World) => ∃ (F4 : SH), Sep w F R w' F4 [.row 5 (tI .u8) (.slice ao2 z3.1.length cp2) z3.1] ∧ Fr 96 [(9, .slice ao2 z3.1.length cp2), (10, .bool z3.2)] a) hS ?_ ?_
      · clear hS hf hs; clear a; intro s1 a w12 hM hS
        obtain ⟨F4, hs, hf⟩ := hM
        refine sq ?_
        refine ctj (fun (s9 : Bool) (a : Act) (w' : World) => ∃ (F12 : SH), Sep w F R w' F12 [] ∧ Fr 96 [(6, .bool s9)] a) hS ?_ ?_
        · clear hS hf hs; clear a; intro s9 a w13 hM hS
          obtain ⟨F12, hs, hf⟩ := hM
          have hr := Option.some.inj hS; subst hr
          refine wp_ret ?_
          exact ret_ok hf (vs := [.bool s9]) (by kernel_rfl) ⟨_, rfl, hs.sel [] rfl rfl⟩
        · clear hS; intro KK9 k7 hK9 hS
          refine reg ?_
          refine st tbOk 3 [9, 91] (L' := [(9, .slice ao2 z3.1.length cp2), (91, .bool (!z3.2))]) hf (by kernel_rfl) ?_
          clear hf; clear a; intro a hf
          rcases Bool.eq_false_or_eq_true (!z3.2) with hb9 | hb9
          · replace hS := of_t hb9 hS
            replace hf := Fr.cast (L' := [(9, .slice ao2 z3.1.length cp2), (91, .bool true)]) hf (by rw [hb9])
            refine st tbOk 5 [6] (L' := [(6, .bool (((z3.1.length : Nat) : Int) == 0))]) hf (by kernel_rfl) ?_
            clear hf; clear a; intro a hf
            refine wpList_nil ?_
            exact hK9 (((z3.1.length : Nat) : Int) == 0) _ _ ⟨_, hs.sel [] rfl rfl, hf.keep (ks := [6]) (by kernel_rfl)⟩ hS
          · replace hS := of_f hb9 hS
            replace hf := Fr.cast (L' := [(9, .slice ao2 z3.1.length cp2), (91, .bool false)]) hf (by rw [hb9])
            refine st tbOk 5 [6] (L' := [(6, .bool false)]) hf (by kernel_rfl) ?_
            clear hf; clear a; intro a hf
            refine wpList_nil ?_
            exact hK9 false _ _ ⟨_, hs.sel [] rfl rfl, hf.keep (ks := [6]) (by kernel_rfl)⟩ hS
      · clear hS; intro KK1 k1 hK1 hS
        refine blk ?_
        refine lp (st := 0) (fun (s2 : Int) (a : Act) (w' : World) => ∃ (F5 : SH), Sep w F R w' F5 [.row 5 (tI .u8) (.slice ao2 z3.1.length cp2) z3.1, .ro ty53 (.slice ao1 p_l.length cp1) p_l] ∧ Fr 96 [(0, .slice ao1 p_l.length cp1), (1, strV name), (2, .int .u32 kind), (9, .slice ao2 z3.1.length cp2), (10, .bool z3.2), (11, .int .i64 s2)] a) ?_ ⟨_, hs.sel [0, 1] rfl rfl, hf.keep (ks := [0, 1, 2, 9, 10, 11]) (by kernel_rfl)⟩ hS
        clear hS hf hs; clear a
        intro rec1 KK2 hK2 s2 a w4 hM hS
        obtain ⟨F5, hs, hf⟩ := hM
        refine sq ?_
        refine sq ?_
        refine reg ?_
        refine st tbOk 4 [0, 1, 2, 9, 10, 11, 32] (L' := [(0, .slice ao1 p_l.length cp1), (1, strV name), (2, .int .u32 kind), (9, .slice ao2 z3.1.length cp2), (10, .bool z3.2), (11, .int .i64 s2), (32, .bool (decide (s2 < ((p_l.length : Nat) : Int))))]) hf (by kernel_rfl) ?_
        clear hf; clear a; intro a hf
        refine wpList_nil ?_
        refine cnd (b := decide (s2 < ((p_l.length : Nat) : Int))) hf (by kernel_rfl) (fun hb3 => ?_) (fun hb3 => ?_)
        · replace hS := of_t hb3 hS
          refine wp_skip ?_
          refine sq ?_
          refine ctj (fun (s3 : Unit) (a : Act) (w' : World) => ∃ (F6 : SH), Sep w F R w' F6 [.row 5 (tI .u8) (.slice ao2 z3.1.length cp2) z3.1, .ro ty53 (.slice ao1 p_l.length cp1) p_l] ∧ Fr 96 [(0, .slice ao1 p_l.length cp1), (1, strV name), (2, .int .u32 kind), (9, .slice ao2 z3.1.length cp2), (10, .bool z3.2), (11, .int .i64 s2)] a) hS ?_ ?_
          · clear hS hf hs; clear a; intro s3 a w11 hM hS
            obtain ⟨F6, hs, hf⟩ := hM
            refine reg ?_
            have hT := of_let hS; clear hS; obtain ⟨i_1, hl4, hS⟩ := hT
            refine st tbOk 3 [0, 1, 2, 9, 10, 11] (L' := [(0, .slice ao1 p_l.length cp1), (1, strV name), (2, .int .u32 kind), (9, .slice ao2 z3.1.length cp2), (10, .bool z3.2), (11, .int .i64 i_1)]) hf (by subst hl4; kernel_rfl) ?_
            clear hf; clear a; intro a hf
            refine wpList_nil ?_
            exact hK2 i_1 _ _ ⟨_, hs.sel [0, 1] rfl rfl, hf.keep (ks := [0, 1, 2, 9, 10, 11]) (by kernel_rfl)⟩ hS
          · clear hS; intro KK3 k2 hK3 hS
            refine blk ?_
            refine sq ?_
            refine ctj (fun (s4 : Bool) (a : Act) (w' : World) => ∃ (F7 : SH), Sep w F R w' F7 [.row 5 (tI .u8) (.slice ao2 z3.1.length cp2) z3.1, .ro ty53 (.slice ao1 p_l.length cp1) p_l] ∧ Fr 96 [(0, .slice ao1 p_l.length cp1), (1, strV name), (2, .int .u32 kind), (9, .slice ao2 z3.1.length cp2), (10, .bool z3.2), (11, .int .i64 s2), (50, .bool s4)] a) hS ?_ ?_
            · clear hS hf hs; clear a; intro s4 a w5 hM hS
              obtain ⟨F7, hs, hf⟩ := hM
              refine cnd (b := s4) hf (by kernel_rfl) (fun hb5 => ?_) (fun hb5 => ?_)
              · replace hS := of_t hb5 hS
                refine sq ?_
                refine reg ?_
                refine st tbOk 2 [0, 9, 10, 11, 51, 52] (L' := [(0, .slice ao1 p_l.length cp1), (9, .slice ao2 z3.1.length cp2), (10, .bool z3.2), (11, .int .i64 s2), (51, .slice ao1 p_l.length cp1), (52, .int .i64 s2)]) hf (by kernel_rfl) ?_
                clear hf; clear a; intro a hf
                have hT := of_gd hS; clear hS; obtain ⟨hc3, hS⟩ := hT
                refine ixR tbOk u37 i54 rfl rfl ((hs.ro 1 rfl).ra (LeH.refl _)) (k := .i64) (n := s2) hc3 hf (by kernel_rfl) (by kernel_rfl) (by kernel_rfl) (by kernel_rfl) ?_
                clear hf; clear a; intro pb3 po3 c3 a hp3 hr5 hf
                obtain ⟨ao5, cp5, rfl, hr6⟩ := hr5
                replace hs : Sep w F R w5 F7 [.ro (tI .u8) (.slice ao5 ((gt p_l s2).2.2).length cp5) ((gt p_l s2).2.2), .row 5 (tI .u8) (.slice ao2 z3.1.length cp2) z3.1, .ro ty53 (.slice ao1 p_l.length cp1) p_l] := hs.addRo hr6
                replace hs : Sep w F R w5 F7 [.cel pb3 po3 [strV ((gt p_l s2).1), .int .u32 ((gt p_l s2).2.1), .slice ao5 ((gt p_l s2).2.2).length cp5], .ro (tI .u8) (.slice ao5 ((gt p_l s2).2.2).length cp5) ((gt p_l s2).2.2), .row 5 (tI .u8) (.slice ao2 z3.1.length cp2) z3.1, .ro ty53 (.slice ao1 p_l.length cp1) p_l] := hs.addCel hp3
                replace hf := Fr.keep (ks := [0, 9, 10, 11, 53]) (L' := [(0, .slice ao1 p_l.length cp1), (9, .slice ao2 z3.1.length cp2), (10, .bool z3.2), (11, .int .i64 s2), (53, .pointer (some ⟨pb3, po3, none⟩))]) hf (by kernel_rfl)
                refine st tbOk 1 [0, 9, 10, 11, 54] (L' := [(0, .slice ao1 p_l.length cp1), (9, .slice ao2 z3.1.length cp2), (10, .bool z3.2), (11, .int .i64 s2), (54, .pointer (some ⟨pb3, po3 + 2, none⟩))]) hf (by kernel_rfl) ?_
                clear hf; clear a; intro a hf
                refine ldC tbOk (T := 22) (hs.ccel 0 rfl) (LeH.refl _) 2 (.slice ao5 ((gt p_l s2).2.2).length cp5) hf (by kernel_rfl) (by kernel_rfl) (by kernel_rfl) (by kernel_rfl) ?_
                clear hf; clear a; intro a hf
                replace hs : Sep w F R w5 F7 [.ro (tI .u8) (.slice ao5 ((gt p_l s2).2.2).length cp5) ((gt p_l s2).2.2), .row 5 (tI .u8) (.slice ao2 z3.1.length cp2) z3.1, .ro ty53 (.slice ao1 p_l.length cp1) p_l] := hs.sel [1, 2, 3] rfl rfl
                replace hf := Fr.keep (ks := [0, 9, 10, 11, 55]) (L' := [(0, .slice ao1 p_l.length cp1), (9, .slice ao2 z3.1.length cp2), (10, .bool z3.2), (11, .int .i64 s2), (55, .slice ao5 ((gt p_l s2).2.2).length cp5)]) hf (by kernel_rfl)
                refine b2sR tbOk u22 u5 u9 (hs.raR 0 rfl) hf (by kernel_rfl) (by kernel_rfl) (by kernel_rfl) ?_
                clear hf; clear a; intro a hf
                replace hs : Sep w F R w5 F7 [.row 5 (tI .u8) (.slice ao2 z3.1.length cp2) z3.1, .ro ty53 (.slice ao1 p_l.length cp1) p_l] := hs.sel [1, 2] rfl rfl
                replace hf := Fr.keep (ks := [0, 9, 10, 11, 56]) (L' := [(0, .slice ao1 p_l.length cp1), (9, .slice ao2 z3.1.length cp2), (10, .bool z3.2), (11, .int .i64 s2), (56, strV (toStr ((gt p_l s2).2.2)))]) hf (by kernel_rfl)
                have hT := of_let hS; clear hS; obtain ⟨was_1, hl1, hS⟩ := hT
                refine st tbOk 1 [0, 9, 10, 11, 12] (L' := [(0, .slice ao1 p_l.length cp1), (9, .slice ao2 z3.1.length cp2), (10, .bool z3.2), (11, .int .i64 s2), (12, strV was_1)]) hf (by subst hl1; kernel_rfl) ?_
                clear hf; clear a; intro a hf
                refine wpList_nil ?_
                refine sq ?_
                refine ctj (fun (s5 : Bool) (a : Act) (w' : World) => ∃ (F8 : SH), Sep w F R w' F8 [.row 5 (tI .u8) (.slice ao2 z3.1.length cp2) z3.1, .ro ty53 (.slice ao1 p_l.length cp1) p_l] ∧ Fr 96 [(0, .slice ao1 p_l.length cp1), (9, .slice ao2 z3.1.length cp2), (11, .int .i64 s2), (12, strV was_1), (13, .bool s5)] a) hS ?_ ?_
                · clear hS hf hs; clear a; intro s5 a w6 hM hS
                  obtain ⟨F8, hs, hf⟩ := hM
                  refine sq ?_
                  refine sq ?_
                  refine reg ?_
                  refine st tbOk 1 [0, 9, 11, 12, 13, 14] (L' := [(0, .slice ao1 p_l.length cp1), (9, .slice ao2 z3.1.length cp2), (11, .int .i64 s2), (12, strV was_1), (13, .bool s5), (14, .int .i64 0)]) hf (by kernel_rfl) ?_
                  clear hf; clear a; intro a hf
                  refine wpList_nil ?_
                  refine ctj (fun (s6 : Unit) (a : Act) (w' : World) => ∃ (F9 : SH), Sep w F R w' F9 [.ro ty53 (.slice ao1 p_l.length cp1) p_l] ∧ Fr 96 [(0, .slice ao1 p_l.length cp1), (11, .int .i64 s2), (12, strV was_1), (13, .bool s5)] a) hS ?_ ?_
                  · clear hS hf hs; clear a; intro s6 a w9 hM hS
                    obtain ⟨F9, hs, hf⟩ := hM
                    refine sq ?_
                    refine ctj (fun (s8 : Bool) (a : Act) (w' : World) => ∃ (F11 : SH), Sep w F R w' F11 [] ∧ Fr 96 [(6, .bool s8)] a) hS ?_ ?_
                    · clear hS hf hs; clear a; intro s8 a w10 hM hS
                      obtain ⟨F11, hs, hf⟩ := hM
                      have hr := Option.some.inj hS; subst hr
                      refine wp_ret ?_
                      exact ret_ok hf (vs := [.bool s8]) (by kernel_rfl) ⟨_, rfl, hs.sel [] rfl rfl⟩
                    · clear hS; intro KK8 k6 hK8 hS
                      refine reg ?_
                      refine st tbOk 2 [0, 11, 12, 79] (L' := [(0, .slice ao1 p_l.length cp1), (11, .int .i64 s2), (12, strV was_1), (79, .bool s5)]) hf (by kernel_rfl) ?_
                      clear hf; clear a; intro a hf
                      rcases Bool.eq_false_or_eq_true (s5) with hb8 | hb8
                      · replace hS := of_t hb8 hS
                        replace hf := Fr.cast (L' := [(0, .slice ao1 p_l.length cp1), (11, .int .i64 s2), (12, strV was_1), (79, .bool true)]) hf (by rw [hb8])
                        refine st tbOk 2 [12, 79, 80, 81] (L' := [(12, strV was_1), (79, .bool true), (80, .slice ao1 p_l.length cp1), (81, .int .i64 s2)]) hf (by kernel_rfl) ?_
                        clear hf; clear a; intro a hf
                        have hT := of_gd hS; clear hS; obtain ⟨hc6, hS⟩ := hT
                        refine ixR tbOk u37 i54 rfl rfl ((hs.ro 0 rfl).ra (LeH.refl _)) (k := .i64) (n := s2) hc6 hf (by kernel_rfl) (by kernel_rfl) (by kernel_rfl) (by kernel_rfl) ?_
                        clear hf; clear a; intro pb6 po6 c5 a hp5 hr8 hf
                        obtain ⟨ao7, cp7, rfl, hr9⟩ := hr8
                        replace hs : Sep w F R w9 F9 [.ro (tI .u8) (.slice ao7 ((gt p_l s2).2.2).length cp7) ((gt p_l s2).2.2), .ro ty53 (.slice ao1 p_l.length cp1) p_l] := hs.addRo hr9
                        replace hs : Sep w F R w9 F9 [.cel pb6 po6 [strV ((gt p_l s2).1), .int .u32 ((gt p_l s2).2.1), .slice ao7 ((gt p_l s2).2.2).length cp7], .ro (tI .u8) (.slice ao7 ((gt p_l s2).2.2).length cp7) ((gt p_l s2).2.2), .ro ty53 (.slice ao1 p_l.length cp1) p_l] := hs.addCel hp5
                        replace hs : Sep w F R w9 F9 [.cel pb6 po6 [strV ((gt p_l s2).1), .int .u32 ((gt p_l s2).2.1), .slice ao7 ((gt p_l s2).2.2).length cp7], .ro (tI .u8) (.slice ao7 ((gt p_l s2).2.2).length cp7) ((gt p_l s2).2.2)] := hs.sel [0, 1] rfl rfl
                        replace hf := Fr.keep (ks := [12, 79, 82]) (L' := [(12, strV was_1), (79, .bool true), (82, .pointer (some ⟨pb6, po6, none⟩))]) hf (by kernel_rfl)
                        refine st tbOk 1 [12, 79, 83] (L' := [(12, strV was_1), (79, .bool true), (83, .pointer (some ⟨pb6, po6 + 2, none⟩))]) hf (by kernel_rfl) ?_
                        clear hf; clear a; intro a hf
                        refine ldC tbOk (T := 22) (hs.ccel 0 rfl) (LeH.refl _) 2 (.slice ao7 ((gt p_l s2).2.2).length cp7) hf (by kernel_rfl) (by kernel_rfl) (by kernel_rfl) (by kernel_rfl) ?_
                        clear hf; clear a; intro a hf
                        replace hs : Sep w F R w9 F9 [.ro (tI .u8) (.slice ao7 ((gt p_l s2).2.2).length cp7) ((gt p_l s2).2.2)] := hs.sel [1] rfl rfl
                        replace hf := Fr.keep (ks := [12, 79, 84]) (L' := [(12, strV was_1), (79, .bool true), (84, .slice ao7 ((gt p_l s2).2.2).length cp7)]) hf (by kernel_rfl)
                        refine b2sR tbOk u22 u5 u9 (hs.raR 0 rfl) hf (by kernel_rfl) (by kernel_rfl) (by kernel_rfl) ?_
                        clear hf; clear a; intro a hf
                        replace hs : Sep w F R w9 F9 [] := hs.sel [] rfl rfl
                        replace hf := Fr.keep (ks := [12, 79, 85]) (L' := [(12, strV was_1), (79, .bool true), (85, strV (toStr ((gt p_l s2).2.2)))]) hf (by kernel_rfl)
                        refine st tbOk 4 [6] (L' := [(6, .bool ((toStr ((gt p_l s2).2.2)) == was_1))]) hf (by kernel_rfl) ?_
                        clear hf; clear a; intro a hf
                        refine wpList_nil ?_
                        exact hK8 ((toStr ((gt p_l s2).2.2)) == was_1) _ _ ⟨_, hs.sel [] rfl rfl, hf.keep (ks := [6]) (by kernel_rfl)⟩ hS
                      · replace hS := of_f hb8 hS
                        replace hf := Fr.cast (L' := [(0, .slice ao1 p_l.length cp1), (11, .int .i64 s2), (12, strV was_1), (79, .bool false)]) hf (by rw [hb8])
                        refine st tbOk 10 [6] (L' := [(6, .bool false)]) hf (by kernel_rfl) ?_
                        clear hf; clear a; intro a hf
                        refine wpList_nil ?_
                        exact hK8 false _ _ ⟨_, hs.sel [] rfl rfl, hf.keep (ks := [6]) (by kernel_rfl)⟩ hS
                  · clear hS; intro KK6 k5 hK6 hS
                    refine blk ?_
                    refine lp (st := (0, z3.1)) (fun (s7 : Int × (List Int)) (a : Act) (w' : World) => ∃ (ao6 : Option Addr) (cp6 : Nat) (F10 : SH), Sep w F R w' F10 [.row 5 (tI .u8) (.slice ao6 s7.2.length cp6) s7.2, .ro ty53 (.slice ao1 p_l.length cp1) p_l] ∧ Fr 96 [(0, .slice ao1 p_l.length cp1), (9, .slice ao6 s7.2.length cp6), (11, .int .i64 s2), (12, strV was_1), (13, .bool s5), (14, .int .i64 s7.1)] a) ?_ ⟨ao2, cp2, _, hs.sel [0, 1] rfl rfl, hf.keep (ks := [0, 9, 11, 12, 13, 14]) (by kernel_rfl)⟩ hS
                    clear hS hf hs; clear a
                    intro rec2 KK7 hK7 s7 a w7 hM hS
                    obtain ⟨ao6, cp6, F10, hs, hf⟩ := hM
                    refine sq ?_
                    refine sq ?_
                    refine reg ?_
                    refine st tbOk 4 [0, 9, 11, 12, 13, 14, 67] (L' := [(0, .slice ao1 p_l.length cp1), (9, .slice ao6 s7.2.length cp6), (11, .int .i64 s2), (12, strV was_1), (13, .bool s5), (14, .int .i64 s7.1), (67, .bool (decide (s7.1 < ((s7.2.length : Nat) : Int))))]) hf (by kernel_rfl) ?_
                    clear hf; clear a; intro a hf
                    refine wpList_nil ?_
                    refine cnd (b := decide (s7.1 < ((s7.2.length : Nat) : Int))) hf (by kernel_rfl) (fun hb7 => ?_) (fun hb7 => ?_)
                    · replace hS := of_t hb7 hS
                      refine wp_skip ?_
                      refine sq ?_
                      refine blk ?_
                      refine reg ?_
                      refine st tbOk 4 [0, 9, 11, 12, 13, 14, 70, 71, 72, 73] (L' := [(0, .slice ao1 p_l.length cp1), (9, .slice ao6 s7.2.length cp6), (11, .int .i64 s2), (12, strV was_1), (13, .bool s5), (14, .int .i64 s7.1), (70, .slice ao6 s7.2.length cp6), (71, .int .i64 s7.1), (72, .slice ao6 s7.2.length cp6), (73, .int .i64 s7.1)]) hf (by kernel_rfl) ?_
                      clear hf; clear a; intro a hf
                      have hT := of_gd hS; clear hS; obtain ⟨hc4, hS⟩ := hT
                      refine ixR tbOk u22 i5 rfl rfl (hs.raW 0 rfl) (k := .i64) (n := s7.1) hc4 hf (by kernel_rfl) (by kernel_rfl) (by kernel_rfl) (by kernel_rfl) ?_
                      clear hf; clear a; intro pb4 po4 c4 a hp4 hr7 hf
                      obtain rfl : c4 = [.int .u8 (gt s7.2 s7.1)] := hr7
                      replace hf := Fr.keep (ks := [0, 9, 11, 12, 13, 14, 70, 71, 74]) (L' := [(0, .slice ao1 p_l.length cp1), (9, .slice ao6 s7.2.length cp6), (11, .int .i64 s2), (12, strV was_1), (13, .bool s5), (14, .int .i64 s7.1), (70, .slice ao6 s7.2.length cp6), (71, .int .i64 s7.1), (74, .pointer (some ⟨pb4, po4, none⟩))]) hf (by kernel_rfl)
                      refine ldC tbOk (T := 5) hp4 (LeH.refl _) 0 (.int .u8 (gt s7.2 s7.1)) hf (by kernel_rfl) (by kernel_rfl) (by kernel_rfl) (by kernel_rfl) ?_
                      clear hf; clear a; intro a hf
                      replace hf := Fr.keep (ks := [0, 9, 11, 12, 13, 14, 70, 71, 75]) (L' := [(0, .slice ao1 p_l.length cp1), (9, .slice ao6 s7.2.length cp6), (11, .int .i64 s2), (12, strV was_1), (13, .bool s5), (14, .int .i64 s7.1), (70, .slice ao6 s7.2.length cp6), (71, .int .i64 s7.1), (75, .int .u8 (gt s7.2 s7.1))]) hf (by kernel_rfl)
                      refine st tbOk 1 [0, 9, 11, 12, 13, 14, 70, 71, 76] (L' := [(0, .slice ao1 p_l.length cp1), (9, .slice ao6 s7.2.length cp6), (11, .int .i64 s2), (12, strV was_1), (13, .bool s5), (14, .int .i64 s7.1), (70, .slice ao6 s7.2.length cp6), (71, .int .i64 s7.1), (76, .int .u8 (bxor .u8 (gt s7.2 s7.1) 255))]) hf (by kernel_rfl) ?_
                      clear hf; clear a; intro a hf
                      have hT := of_gd hS; clear hS; obtain ⟨hc5, hS⟩ := hT
                      refine ixW tbOk u22 i5 (hs.own 0 rfl) (k := .i64) (n := s7.1) hc5 hf (by kernel_rfl) (by kernel_rfl) (by kernel_rfl) (by kernel_rfl) ?_
                      clear hf; clear a; intro pb5 po5 a hq1 hf
                      replace hf := Fr.keep (ks := [0, 9, 11, 12, 13, 14, 76, 77]) (L' := [(0, .slice ao1 p_l.length cp1), (9, .slice ao6 s7.2.length cp6), (11, .int .i64 s2), (12, strV was_1), (13, .bool s5), (14, .int .i64 s7.1), (76, .int .u8 (bxor .u8 (gt s7.2 s7.1) 255)), (77, .pointer (some ⟨pb5, po5, none⟩))]) hf (by kernel_rfl)
                      refine stW tbOk i5 rfl (hs.own 0 rfl) hc5 0 hq1 [.int .u8 (bxor .u8 (gt s7.2 s7.1) 255)] (z := bxor .u8 (gt s7.2 s7.1) 255) (fun _ e => (congrArg (fun c => spl c 0 [.int .u8 (bxor .u8 (gt s7.2 s7.1) 255)]) e).trans rfl) (u := .int .u8 (bxor .u8 (gt s7.2 s7.1) 255)) rfl rfl (by kernel_rfl) (by kernel_rfl) hf (by kernel_rfl) (by kernel_rfl) (by kernel_rfl) ?_
                      clear hf; clear a; intro w8 a ho hg hf
                      replace hs := hs.updRow 0 rfl ho hg (fun _ h => .inl h)
                      clear ho hg
                      replace hs : Sep w F R w8 F10 [.row 5 (tI .u8) (.slice ao6 (s7.2.set (Int.toNat s7.1) (bxor .u8 (gt s7.2 s7.1) 255)).length cp6) (s7.2.set (Int.toNat s7.1) (bxor .u8 (gt s7.2 s7.1) 255)), .ro ty53 (.slice ao1 p_l.length cp1) p_l] := Sep.cast hs (by simp only [List.length_set]; rfl)
                      replace hf := Fr.cast (L' := [(0, .slice ao1 p_l.length cp1), (9, .slice ao6 (s7.2.set (Int.toNat s7.1) (bxor .u8 (gt s7.2 s7.1) 255)).length cp6), (11, .int .i64 s2), (12, strV was_1), (13, .bool s5), (14, .int .i64 s7.1), (76, .int .u8 (bxor .u8 (gt s7.2 s7.1) 255)), (77, .pointer (some ⟨pb5, po5, none⟩))]) hf (by simp only [List.length_set])
                      replace hf := Fr.keep (ks := [0, 9, 11, 12, 13, 14]) (L' := [(0, .slice ao1 p_l.length cp1), (9, .slice ao6 (s7.2.set (Int.toNat s7.1) (bxor .u8 (gt s7.2 s7.1) 255)).length cp6), (11, .int .i64 s2), (12, strV was_1), (13, .bool s5), (14, .int .i64 s7.1)]) hf (by kernel_rfl)
                      refine wpList_nil ?_
                      refine reg ?_
                      have hT := of_let hS; clear hS; obtain ⟨k_1, hl3, hS⟩ := hT
                      refine st tbOk 3 [0, 9, 11, 12, 13, 14] (L' := [(0, .slice ao1 p_l.length cp1), (9, .slice ao6 (s7.2.set (Int.toNat s7.1) (bxor .u8 (gt s7.2 s7.1) 255)).length cp6), (11, .int .i64 s2), (12, strV was_1), (13, .bool s5), (14, .int .i64 k_1)]) hf (by subst hl3; kernel_rfl) ?_
                      clear hf; clear a; intro a hf
                      refine wpList_nil ?_
                      exact hK7 (k_1, (s7.2.set (Int.toNat s7.1) (bxor .u8 (gt s7.2 s7.1) 255))) _ _ ⟨ao6, cp6, _, hs.sel [0, 1] rfl rfl, hf.keep (ks := [0, 9, 11, 12, 13, 14]) (by kernel_rfl)⟩ hS
                    · replace hS := of_f hb7 hS
                      refine wp_exit ?_
                      exact hK6 () _ _ ⟨_, hs.sel [1] rfl rfl, hf.keep (ks := [0, 11, 12, 13]) (by kernel_rfl)⟩ hS
                · clear hS; intro KK5 k4 hK5 hS
                  refine reg ?_
                  refine st tbOk 2 [0, 9, 11, 12, 58] (L' := [(0, .slice ao1 p_l.length cp1), (9, .slice ao2 z3.1.length cp2), (11, .int .i64 s2), (12, strV was_1), (58, .bool z3.2)]) hf (by kernel_rfl) ?_
                  clear hf; clear a; intro a hf
                  rcases Bool.eq_false_or_eq_true (z3.2) with hb6 | hb6
                  · replace hS := of_t hb6 hS
                    replace hf := Fr.cast (L' := [(0, .slice ao1 p_l.length cp1), (9, .slice ao2 z3.1.length cp2), (11, .int .i64 s2), (12, strV was_1), (58, .bool true)]) hf (by rw [hb6])
                    refine st tbOk 1 [0, 9, 11, 12, 58, 59] (L' := [(0, .slice ao1 p_l.length cp1), (9, .slice ao2 z3.1.length cp2), (11, .int .i64 s2), (12, strV was_1), (58, .bool true), (59, .slice ao2 z3.1.length cp2)]) hf (by kernel_rfl) ?_
                    clear hf; clear a; intro a hf
                    refine b2sR tbOk u22 u5 u9 (hs.raW 0 rfl) hf (by kernel_rfl) (by kernel_rfl) (by kernel_rfl) ?_
                    clear hf; clear a; intro a hf
                    replace hf := Fr.keep (ks := [0, 9, 11, 12, 58, 60]) (L' := [(0, .slice ao1 p_l.length cp1), (9, .slice ao2 z3.1.length cp2), (11, .int .i64 s2), (12, strV was_1), (58, .bool true), (60, strV (toStr z3.1))]) hf (by kernel_rfl)
                    have hT := of_let hS; clear hS; obtain ⟨one_1, hl2, hS⟩ := hT
                    refine st tbOk 4 [0, 9, 11, 12, 13] (L' := [(0, .slice ao1 p_l.length cp1), (9, .slice ao2 z3.1.length cp2), (11, .int .i64 s2), (12, strV was_1), (13, .bool one_1)]) hf (by subst hl2; kernel_rfl) ?_
                    clear hf; clear a; intro a hf
                    refine wpList_nil ?_
                    exact hK5 one_1 _ _ ⟨_, hs.sel [0, 1] rfl rfl, hf.keep (ks := [0, 9, 11, 12, 13]) (by kernel_rfl)⟩ hS
                  · replace hS := of_f hb6 hS
                    replace hf := Fr.cast (L' := [(0, .slice ao1 p_l.length cp1), (9, .slice ao2 z3.1.length cp2), (11, .int .i64 s2), (12, strV was_1), (58, .bool false)]) hf (by rw [hb6])
                    refine st tbOk 6 [0, 9, 11, 12, 13] (L' := [(0, .slice ao1 p_l.length cp1), (9, .slice ao2 z3.1.length cp2), (11, .int .i64 s2), (12, strV was_1), (13, .bool false)]) hf (by kernel_rfl) ?_
                    clear hf; clear a; intro a hf
                    refine wpList_nil ?_
                    exact hK5 false _ _ ⟨_, hs.sel [0, 1] rfl rfl, hf.keep (ks := [0, 9, 11, 12, 13]) (by kernel_rfl)⟩ hS
              · replace hS := of_f hb5 hS
                refine wp_skip ?_
                exact hK3 () _ _ ⟨_, hs.sel [0, 1] rfl rfl, hf.keep (ks := [0, 1, 2, 9, 10, 11]) (by kernel_rfl)⟩ hS
            · clear hS; intro KK4 k3 hK4 hS
              refine reg ?_
              refine st tbOk 2 [0, 1, 2, 9, 10, 11, 35, 36] (L' := [(0, .slice ao1 p_l.length cp1), (1, strV name), (2, .int .u32 kind), (9, .slice ao2 z3.1.length cp2), (10, .bool z3.2), (11, .int .i64 s2), (35, .slice ao1 p_l.length cp1), (36, .int .i64 s2)]) hf (by kernel_rfl) ?_
              clear hf; clear a; intro a hf
              have hT := of_gd hS; clear hS; obtain ⟨hc1, hS⟩ := hT
              refine ixR tbOk u37 i54 rfl rfl ((hs.ro 1 rfl).ra (LeH.refl _)) (k := .i64) (n := s2) hc1 hf (by kernel_rfl) (by kernel_rfl) (by kernel_rfl) (by kernel_rfl) ?_
              clear hf; clear a; intro pb1 po1 c1 a hp1 hr1 hf
              obtain ⟨ao3, cp3, rfl, hr2⟩ := hr1
              replace hs : Sep w F R w4 F5 [.ro (tI .u8) (.slice ao3 ((gt p_l s2).2.2).length cp3) ((gt p_l s2).2.2), .row 5 (tI .u8) (.slice ao2 z3.1.length cp2) z3.1, .ro ty53 (.slice ao1 p_l.length cp1) p_l] := hs.addRo hr2
              replace hs : Sep w F R w4 F5 [.cel pb1 po1 [strV ((gt p_l s2).1), .int .u32 ((gt p_l s2).2.1), .slice ao3 ((gt p_l s2).2.2).length cp3], .ro (tI .u8) (.slice ao3 ((gt p_l s2).2.2).length cp3) ((gt p_l s2).2.2), .row 5 (tI .u8) (.slice ao2 z3.1.length cp2) z3.1, .ro ty53 (.slice ao1 p_l.length cp1) p_l] := hs.addCel hp1
              replace hf := Fr.keep (ks := [0, 1, 2, 9, 10, 11, 37]) (L' := [(0, .slice ao1 p_l.length cp1), (1, strV name), (2, .int .u32 kind), (9, .slice ao2 z3.1.length cp2), (10, .bool z3.2), (11, .int .i64 s2), (37, .pointer (some ⟨pb1, po1, none⟩))]) hf (by kernel_rfl)
              refine st tbOk 1 [0, 1, 2, 9, 10, 11, 38] (L' := [(0, .slice ao1 p_l.length cp1), (1, strV name), (2, .int .u32 kind), (9, .slice ao2 z3.1.length cp2), (10, .bool z3.2), (11, .int .i64 s2), (38, .pointer (some ⟨pb1, po1, none⟩))]) hf (by kernel_rfl) ?_
              clear hf; clear a; intro a hf
              refine ldC tbOk (T := 9) (hs.ccel 0 rfl) (LeH.refl _) 0 (strV ((gt p_l s2).1)) hf (by kernel_rfl) (by kernel_rfl) (by kernel_rfl) (by kernel_rfl) ?_
              clear hf; clear a; intro a hf
              replace hs : Sep w F R w4 F5 [.row 5 (tI .u8) (.slice ao2 z3.1.length cp2) z3.1, .ro ty53 (.slice ao1 p_l.length cp1) p_l] := hs.sel [2, 3] rfl rfl
              replace hf := Fr.keep (ks := [0, 1, 2, 9, 10, 11, 39]) (L' := [(0, .slice ao1 p_l.length cp1), (1, strV name), (2, .int .u32 kind), (9, .slice ao2 z3.1.length cp2), (10, .bool z3.2), (11, .int .i64 s2), (39, strV ((gt p_l s2).1))]) hf (by kernel_rfl)
              refine st tbOk 3 [0, 1, 2, 9, 10, 11, 42] (L' := [(0, .slice ao1 p_l.length cp1), (1, strV name), (2, .int .u32 kind), (9, .slice ao2 z3.1.length cp2), (10, .bool z3.2), (11, .int .i64 s2), (42, .bool (((gt p_l s2).1) == name))]) hf (by kernel_rfl) ?_
              clear hf; clear a; intro a hf
              rcases Bool.eq_false_or_eq_true (((gt p_l s2).1) == name) with hb4 | hb4
              · replace hS := of_t hb4 hS
                replace hf := Fr.cast (L' := [(0, .slice ao1 p_l.length cp1), (1, strV name), (2, .int .u32 kind), (9, .slice ao2 z3.1.length cp2), (10, .bool z3.2), (11, .int .i64 s2), (42, .bool true)]) hf (by rw [hb4])
                refine st tbOk 2 [0, 1, 2, 9, 10, 11, 42, 43, 44] (L' := [(0, .slice ao1 p_l.length cp1), (1, strV name), (2, .int .u32 kind), (9, .slice ao2 z3.1.length cp2), (10, .bool z3.2), (11, .int .i64 s2), (42, .bool true), (43, .slice ao1 p_l.length cp1), (44, .int .i64 s2)]) hf (by kernel_rfl) ?_
                clear hf; clear a; intro a hf
                have hT := of_gd hS; clear hS; obtain ⟨hc2, hS⟩ := hT
                refine ixR tbOk u37 i54 rfl rfl ((hs.ro 1 rfl).ra (LeH.refl _)) (k := .i64) (n := s2) hc2 hf (by kernel_rfl) (by kernel_rfl) (by kernel_rfl) (by kernel_rfl) ?_
                clear hf; clear a; intro pb2 po2 c2 a hp2 hr3 hf
                obtain ⟨ao4, cp4, rfl, hr4⟩ := hr3
                replace hs : Sep w F R w4 F5 [.ro (tI .u8) (.slice ao4 ((gt p_l s2).2.2).length cp4) ((gt p_l s2).2.2), .row 5 (tI .u8) (.slice ao2 z3.1.length cp2) z3.1, .ro ty53 (.slice ao1 p_l.length cp1) p_l] := hs.addRo hr4
                replace hs : Sep w F R w4 F5 [.cel pb2 po2 [strV ((gt p_l s2).1), .int .u32 ((gt p_l s2).2.1), .slice ao4 ((gt p_l s2).2.2).length cp4], .ro (tI .u8) (.slice ao4 ((gt p_l s2).2.2).length cp4) ((gt p_l s2).2.2), .row 5 (tI .u8) (.slice ao2 z3.1.length cp2) z3.1, .ro ty53 (.slice ao1 p_l.length cp1) p_l] := hs.addCel hp2
                replace hf := Fr.keep (ks := [0, 1, 2, 9, 10, 11, 42, 45]) (L' := [(0, .slice ao1 p_l.length cp1), (1, strV name), (2, .int .u32 kind), (9, .slice ao2 z3.1.length cp2), (10, .bool z3.2), (11, .int .i64 s2), (42, .bool true), (45, .pointer (some ⟨pb2, po2, none⟩))]) hf (by kernel_rfl)
                refine st tbOk 1 [0, 1, 2, 9, 10, 11, 42, 46] (L' := [(0, .slice ao1 p_l.length cp1), (1, strV name), (2, .int .u32 kind), (9, .slice ao2 z3.1.length cp2), (10, .bool z3.2), (11, .int .i64 s2), (42, .bool true), (46, .pointer (some ⟨pb2, po2 + 1, none⟩))]) hf (by kernel_rfl) ?_
                clear hf; clear a; intro a hf
                refine ldC tbOk (T := 50) (hs.ccel 0 rfl) (LeH.refl _) 1 (.int .u32 ((gt p_l s2).2.1)) hf (by kernel_rfl) (by kernel_rfl) (by kernel_rfl) (by kernel_rfl) ?_
                clear hf; clear a; intro a hf
                replace hs : Sep w F R w4 F5 [.row 5 (tI .u8) (.slice ao2 z3.1.length cp2) z3.1, .ro ty53 (.slice ao1 p_l.length cp1) p_l] := hs.sel [2, 3] rfl rfl
                replace hf := Fr.keep (ks := [0, 1, 2, 9, 10, 11, 42, 47]) (L' := [(0, .slice ao1 p_l.length cp1), (1, strV name), (2, .int .u32 kind), (9, .slice ao2 z3.1.length cp2), (10, .bool z3.2), (11, .int .i64 s2), (42, .bool true), (47, .int .u32 ((gt p_l s2).2.1))]) hf (by kernel_rfl)
                refine st tbOk 3 [0, 1, 2, 9, 10, 11, 50] (L' := [(0, .slice ao1 p_l.length cp1), (1, strV name), (2, .int .u32 kind), (9, .slice ao2 z3.1.length cp2), (10, .bool z3.2), (11, .int .i64 s2), (50, .bool (((gt p_l s2).2.1) == kind))]) hf (by kernel_rfl) ?_
                clear hf; clear a; intro a hf
                refine wpList_nil ?_
                exact hK4 (((gt p_l s2).2.1) == kind) _ _ ⟨_, hs.sel [0, 1] rfl rfl, hf.keep (ks := [0, 1, 2, 9, 10, 11, 50]) (by kernel_rfl)⟩ hS
              · replace hS := of_f hb4 hS
                replace hf := Fr.cast (L' := [(0, .slice ao1 p_l.length cp1), (1, strV name), (2, .int .u32 kind), (9, .slice ao2 z3.1.length cp2), (10, .bool z3.2), (11, .int .i64 s2), (42, .bool false)]) hf (by rw [hb4])
                refine st tbOk 8 [0, 1, 2, 9, 10, 11, 50] (L' := [(0, .slice ao1 p_l.length cp1), (1, strV name), (2, .int .u32 kind), (9, .slice ao2 z3.1.length cp2), (10, .bool z3.2), (11, .int .i64 s2), (50, .bool false)]) hf (by kernel_rfl) ?_
                clear hf; clear a; intro a hf
                refine wpList_nil ?_
                exact hK4 false _ _ ⟨_, hs.sel [0, 1] rfl rfl, hf.keep (ks := [0, 1, 2, 9, 10, 11, 50]) (by kernel_rfl)⟩ hS
        · replace hS := of_f hb3 hS
          refine wp_exit ?_
          exact hK1 () _ _ ⟨_, hs.sel [0] rfl rfl, hf.keep (ks := [9, 10]) (by kernel_rfl)⟩ hS

end Dm
