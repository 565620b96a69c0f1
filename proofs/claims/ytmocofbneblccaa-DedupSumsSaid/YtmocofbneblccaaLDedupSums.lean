/-
  The walk of the law DedupSums; printed by a program of this repo. No condition.
-/
import Derived.Test.YtmocofbneblccaaWT
import Derived.Test.YtmocofbneblccaaW2
import Derived.Test.YtmocofbneblccaaW4
import Derived.Test.YtmocofbneblccaaW5
namespace Dm
open Go Go.RowKit Go.Proofs

set_option maxHeartbeats 4000000 in
theorem law21_DedupSums_ok {w : World} {F : SH} {b : List Int} {file : List UInt8} {off : Int} {files : List ((List UInt8) × (List Int))} {ao1 : Option Addr} {cp1 : Nat} {ao2 : Option Addr} {cp2 : Nat} (hs : Sep w F (blks [.ro (tI .u8) (.slice ao1 b.length cp1) b, .ro ty60 (.slice ao2 files.length cp2) files]) w F [.ro (tI .u8) (.slice ao1 b.length cp1) b, .ro ty60 (.slice ao2 files.length cp2) files]) {r : Bool} (hS : law21_DedupSums b file off files = some r) :
    Calls Try.prog 3 [.slice ao1 b.length cp1, strV file, .int .u64 off, .slice ao2 files.length cp2].toArray w (Gives (fun u w' => ∃ (F' : SH), u = .bool r ∧ Sep w F (blks [.ro (tI .u8) (.slice ao1 b.length cp1) b, .ro ty60 (.slice ao2 files.length cp2) files]) w' F' [])) := by
  generalize (blks [.ro (tI .u8) (.slice ao1 b.length cp1) b, .ro ty60 (.slice ao2 files.length cp2) files]) = R at hs ⊢
  unfold law21_DedupSums at hS
  refine fn_ok (vs := [.slice ao1 b.length cp1, strV file, .int .u64 off, .slice ao2 files.length cp2]) Try.func3 rfl 58 Try.ntmps3 (Nat.le_of_ble_eq_true rfl) ?_
  intro a hf
  replace hf := Fr.cast (L' := [(0, .slice ao1 b.length cp1), (1, strV file), (2, .int .u64 off), (3, .slice ao2 files.length cp2)]) hf (by kernel_rfl)
  refine sq ?_
  refine reg ?_
  refine st tbOk 1 [0, 1, 2, 3] (L' := [(0, .slice ao1 b.length cp1), (1, strV file), (2, .int .u64 off), (3, .slice ao2 files.length cp2)]) hf (by kernel_rfl) ?_
  clear hf; clear a; intro a hf
  refine wpList_nil ?_
  refine sq ?_
  refine reg ?_
  have hT := of_bd hS; clear hS; obtain ⟨z1, hz1, hS⟩ := hT
  refine clV ent13 (vs := []) (caps := []) hf (by kernel_rfl) (by kernel_rfl) (by kernel_rfl) (by kernel_rfl) (law21_awake_ok (hs.enter [] rfl rfl) hz1) ?_
  clear hf; clear a; intro v w1 a hT hf; obtain ⟨F1, rfl, hr⟩ := hT
  replace hs : Sep w F R w1 F1 [.ro (tI .u8) (.slice ao1 b.length cp1) b, .ro ty60 (.slice ao2 files.length cp2) files] := hs.back [] [0, 1] rfl rfl rfl rfl hr
  clear hr
  replace hf := Fr.keep (ks := [0, 1, 2, 3, 15]) (L' := [(0, .slice ao1 b.length cp1), (1, strV file), (2, .int .u64 off), (3, .slice ao2 files.length cp2), (15, .bool z1)]) hf (by kernel_rfl)
  refine st tbOk 1 [0, 1, 2, 3, 9] (L' := [(0, .slice ao1 b.length cp1), (1, strV file), (2, .int .u64 off), (3, .slice ao2 files.length cp2), (9, .bool z1)]) hf (by kernel_rfl) ?_
  clear hf; clear a; intro a hf
  refine wpList_nil ?_
  refine sq ?_
  refine sq ?_
  refine reg ?_
  refine st tbOk 2 [0, 1, 2, 3, 17] (L' := [(0, .slice ao1 b.length cp1), (1, strV file), (2, .int .u64 off), (3, .slice ao2 files.length cp2), (17, .bool (!z1))]) hf (by kernel_rfl) ?_
  clear hf; clear a; intro a hf
  refine wpList_nil ?_
  refine cnd (b := !z1) hf (by kernel_rfl) (fun hb1 => ?_) (fun hb1 => ?_)
  · replace hS := of_t hb1 hS
    refine sq ?_
    refine reg ?_
    refine st tbOk 1 [8] (L' := [(8, .bool false)]) hf (by kernel_rfl) ?_
    clear hf; clear a; intro a hf
    refine wpList_nil ?_
    have hr := Option.some.inj hS; subst hr
    refine wp_ret ?_
    exact ret_ok hf (vs := [.bool false]) (by kernel_rfl) ⟨_, rfl, hs.sel [] rfl rfl⟩
  · replace hS := of_f hb1 hS
    refine wp_skip ?_
    refine sq ?_
    refine reg ?_
    refine st tbOk 1 [0, 1, 2, 3, 18] (L' := [(0, .slice ao1 b.length cp1), (1, strV file), (2, .int .u64 off), (3, .slice ao2 files.length cp2), (18, .slice ao2 files.length cp2)]) hf (by kernel_rfl) ?_
    clear hf; clear a; intro a hf
    have hT := of_bd hS; clear hS; obtain ⟨z2, hz2, hS⟩ := hT
    replace hs : Sep w F R w1 F1 [.ro ty55 (.slice none 0 0) ([] : List (Int × Int × Bool × (List UInt8) × Int × (List Int))), .ro (tI .u8) (.slice ao1 b.length cp1) b, .ro ty60 (.slice ao2 files.length cp2) files] := hs.addRo (RO.nil _ _)
    refine clV ent14 (vs := [.slice none 0 0, .slice ao2 files.length cp2]) (caps := []) hf (by kernel_rfl) (by kernel_rfl) (by kernel_rfl) (by kernel_rfl) (law21_few_ok (p_l := ([] : List (Int × Int × Bool × (List UInt8) × Int × (List Int)))) (files := files) (hs.enter [0, 2] rfl rfl) hz2) ?_
    clear hf; clear a; intro v w2 a hT hf; obtain ⟨F2, rfl, hr⟩ := hT
    replace hs : Sep w F R w2 F2 [.ro ty55 (.slice none 0 0) ([] : List (Int × Int × Bool × (List UInt8) × Int × (List Int))), .ro (tI .u8) (.slice ao1 b.length cp1) b, .ro ty60 (.slice ao2 files.length cp2) files] := hs.back [0, 2] [0, 1, 2] rfl rfl rfl rfl hr
    clear hr
    replace hs : Sep w F R w2 F2 [.ro (tI .u8) (.slice ao1 b.length cp1) b, .ro ty60 (.slice ao2 files.length cp2) files] := hs.sel [1, 2] rfl rfl
    replace hf := Fr.keep (ks := [0, 1, 2, 3, 19]) (L' := [(0, .slice ao1 b.length cp1), (1, strV file), (2, .int .u64 off), (3, .slice ao2 files.length cp2), (19, .bool z2)]) hf (by kernel_rfl)
    refine st tbOk 1 [0, 1, 2, 3, 10] (L' := [(0, .slice ao1 b.length cp1), (1, strV file), (2, .int .u64 off), (3, .slice ao2 files.length cp2), (10, .bool z2)]) hf (by kernel_rfl) ?_
    clear hf; clear a; intro a hf
    refine wpList_nil ?_
    refine sq ?_
    refine sq ?_
    refine ctj (fun (s1 : Bool) (a : Act) (w' : World) => ∃ (F3 : SH), Sep w F R w' F3 [.ro (tI .u8) (.slice ao1 b.length cp1) b, .ro ty60 (.slice ao2 files.length cp2) files] ∧ Fr 58 [(0, .slice ao1 b.length cp1), (1, strV file), (2, .int .u64 off), (3, .slice ao2 files.length cp2), (26, .bool s1)] a) hS ?_ ?_
    · clear hS hf hs; clear a; intro s1 a w3 hM hS
      obtain ⟨F3, hs, hf⟩ := hM
      refine cnd (b := s1) hf (by kernel_rfl) (fun hb3 => ?_) (fun hb3 => ?_)
      · replace hS := of_t hb3 hS
        refine sq ?_
        refine reg ?_
        refine st tbOk 1 [8] (L' := [(8, .bool true)]) hf (by kernel_rfl) ?_
        clear hf; clear a; intro a hf
        refine wpList_nil ?_
        have hr := Option.some.inj hS; subst hr
        refine wp_ret ?_
        exact ret_ok hf (vs := [.bool true]) (by kernel_rfl) ⟨_, rfl, hs.sel [] rfl rfl⟩
      · replace hS := of_f hb3 hS
        refine wp_skip ?_
        refine sq ?_
        refine reg ?_
        refine st tbOk 3 [0, 1, 2, 3, 28, 29, 30] (L' := [(0, .slice ao1 b.length cp1), (1, strV file), (2, .int .u64 off), (3, .slice ao2 files.length cp2), (28, strV file), (29, .int .u64 off), (30, .slice ao2 files.length cp2)]) hf (by kernel_rfl) ?_
        clear hf; clear a; intro a hf
        have hT := of_bd hS; clear hS; obtain ⟨z3, hz3, hS⟩ := hT
        refine clV ent15 (vs := [strV file, .int .u64 off, .slice ao2 files.length cp2]) (caps := []) hf (by kernel_rfl) (by kernel_rfl) (by kernel_rfl) (by kernel_rfl) (dedup_Origin_ok (file := file) (off := off) (files := files) (hs.enter [1] rfl rfl) hz3) ?_
        clear hf; clear a; intro v w4 a hT hf; obtain ⟨ao3, cp3, F4, rfl, hr⟩ := hT
        replace hs : Sep w F R w4 F4 [.row 5 (tI .u8) (.slice ao3 z3.1.length cp3) z3.1, .ro (tI .u8) (.slice ao1 b.length cp1) b, .ro ty60 (.slice ao2 files.length cp2) files] := hs.back [1] [0, 1] rfl rfl rfl rfl hr
        clear hr
        replace hf := Fr.keep (ks := [0, 1, 2, 3, 31]) (L' := [(0, .slice ao1 b.length cp1), (1, strV file), (2, .int .u64 off), (3, .slice ao2 files.length cp2), (31, .tuple #[.slice ao3 z3.1.length cp3, .bool z3.2])]) hf (by kernel_rfl)
        refine st tbOk 5 [0, 1, 2, 3, 11, 12] (L' := [(0, .slice ao1 b.length cp1), (1, strV file), (2, .int .u64 off), (3, .slice ao2 files.length cp2), (11, .slice ao3 z3.1.length cp3), (12, .bool z3.2)]) hf (by kernel_rfl) ?_
        clear hf; clear a; intro a hf
        refine wpList_nil ?_
        refine sq ?_
        refine reg ?_
        refine st tbOk 3 [0, 11, 12, 35, 36, 37] (L' := [(0, .slice ao1 b.length cp1), (11, .slice ao3 z3.1.length cp3), (12, .bool z3.2), (35, strV file), (36, .int .u64 off), (37, .slice ao2 files.length cp2)]) hf (by kernel_rfl) ?_
        clear hf; clear a; intro a hf
        have hT := of_bd hS; clear hS; obtain ⟨z4, hz4, hS⟩ := hT
        refine clV ent16 (vs := [strV file, .int .u64 off, .slice ao2 files.length cp2]) (caps := []) hf (by kernel_rfl) (by kernel_rfl) (by kernel_rfl) (by kernel_rfl) (ref21_Origin_ok (file := file) (off := off) (files := files) (hs.enter [2] rfl rfl) hz4) ?_
        clear hf; clear a; intro v w5 a hT hf; obtain ⟨F5, rfl, hr⟩ := hT
        replace hs : Sep w F R w5 F5 [.row 5 (tI .u8) (.slice ao3 z3.1.length cp3) z3.1, .ro (tI .u8) (.slice ao1 b.length cp1) b, .ro ty60 (.slice ao2 files.length cp2) files] := hs.back [2] [0, 1, 2] rfl rfl rfl rfl hr
        clear hr
        replace hs : Sep w F R w5 F5 [.row 5 (tI .u8) (.slice ao3 z3.1.length cp3) z3.1, .ro (tI .u8) (.slice ao1 b.length cp1) b] := hs.sel [0, 1] rfl rfl
        replace hf := Fr.keep (ks := [0, 11, 12, 38]) (L' := [(0, .slice ao1 b.length cp1), (11, .slice ao3 z3.1.length cp3), (12, .bool z3.2), (38, .tuple #[strV z4.1, .bool z4.2])]) hf (by kernel_rfl)
        refine st tbOk 5 [0, 11, 12, 13, 14] (L' := [(0, .slice ao1 b.length cp1), (11, .slice ao3 z3.1.length cp3), (12, .bool z3.2), (13, strV z4.1), (14, .bool z4.2)]) hf (by kernel_rfl) ?_
        clear hf; clear a; intro a hf
        refine wpList_nil ?_
        refine sq ?_
        refine ctj (fun (s2 : Bool) (a : Act) (w' : World) => ∃ (F6 : SH), Sep w F R w' F6 [] ∧ Fr 58 [(8, .bool s2)] a) hS ?_ ?_
        · clear hS hf hs; clear a; intro s2 a w9 hM hS
          obtain ⟨F6, hs, hf⟩ := hM
          have hr := Option.some.inj hS; subst hr
          refine wp_ret ?_
          exact ret_ok hf (vs := [.bool s2]) (by kernel_rfl) ⟨_, rfl, hs.sel [] rfl rfl⟩
        · clear hS; intro KK2 k2 hK2 hS
          refine regQ mixed (by kernel_rfl) ?_
          refine stQ tbOk 1 [0, 11, 12, 13, 14, 41] (L' := [(0, .slice ao1 b.length cp1), (11, .slice ao3 z3.1.length cp3), (12, .bool z3.2), (13, strV z4.1), (14, .bool z4.2), (41, .slice ao1 b.length cp1)]) hf (by kernel_rfl) ?_
          clear hf; clear a; intro a hf
          have hT := of_bd hS; clear hS; obtain ⟨z5, hz5, hS⟩ := hT
          refine clVQ ent17 (vs := [.slice ao1 b.length cp1]) (caps := []) hf (by kernel_rfl) (by kernel_rfl) (by kernel_rfl) (by kernel_rfl) (.int .u32 z5) (fun wq hq => (dedup_Sum_ok (b := b) (hs.lendQ hq [1] rfl rfl) hz5).mono fun _ _ h => Gives.mono (fun _ ⟨_, e, h⟩ => ⟨e, h.ex (pers_blks rfl)⟩) h) ?_
          clear hf; clear a; intro a hf
          replace hf := Fr.keep (ks := [0, 11, 12, 13, 14, 42]) (L' := [(0, .slice ao1 b.length cp1), (11, .slice ao3 z3.1.length cp3), (12, .bool z3.2), (13, strV z4.1), (14, .bool z4.2), (42, .int .u32 z5)]) hf (by kernel_rfl)
          refine stQ tbOk 1 [11, 12, 13, 14, 42, 43] (L' := [(11, .slice ao3 z3.1.length cp3), (12, .bool z3.2), (13, strV z4.1), (14, .bool z4.2), (42, .int .u32 z5), (43, .slice ao1 b.length cp1)]) hf (by kernel_rfl) ?_
          clear hf; clear a; intro a hf
          refine b2sRQ tbOk u22 u5 u9 (hs.raR 1 rfl) hf (by kernel_rfl) (by kernel_rfl) (by kernel_rfl) ?_
          clear hf; clear a; intro a hf
          replace hs : Sep w F R w5 F5 [.row 5 (tI .u8) (.slice ao3 z3.1.length cp3) z3.1] := hs.sel [0] rfl rfl
          replace hf := Fr.keep (ks := [11, 12, 13, 14, 42, 44]) (L' := [(11, .slice ao3 z3.1.length cp3), (12, .bool z3.2), (13, strV z4.1), (14, .bool z4.2), (42, .int .u32 z5), (44, strV (toStr b))]) hf (by kernel_rfl)
          have hT := of_bd hS; clear hS; obtain ⟨z6, hz6, hS⟩ := hT
          refine clVQ ent18 (vs := [strV (toStr b)]) (caps := []) hf (by kernel_rfl) (by kernel_rfl) (by kernel_rfl) (by kernel_rfl) (.int .u32 z6) (fun wq hq => (ref21_Sum_ok (b := toStr b) (hs.lendQ hq [] rfl rfl) hz6).mono fun _ _ h => Gives.mono (fun _ ⟨_, e, h⟩ => ⟨e, h.ex (pers_blks rfl)⟩) h) ?_
          clear hf; clear a; intro a hf
          replace hf := Fr.keep (ks := [11, 12, 13, 14, 42, 45]) (L' := [(11, .slice ao3 z3.1.length cp3), (12, .bool z3.2), (13, strV z4.1), (14, .bool z4.2), (42, .int .u32 z5), (45, .int .u32 z6)]) hf (by kernel_rfl)
          refine stQ tbOk 2 [11, 12, 13, 14, 47] (L' := [(11, .slice ao3 z3.1.length cp3), (12, .bool z3.2), (13, strV z4.1), (14, .bool z4.2), (47, .bool (z5 == z6))]) hf (by kernel_rfl) ?_
          clear hf; clear a; intro a hf
          rcases Bool.eq_false_or_eq_true (z5 == z6) with hb4 | hb4
          · replace hS := of_t hb4 hS
            replace hf := Fr.cast (L' := [(11, .slice ao3 z3.1.length cp3), (12, .bool z3.2), (13, strV z4.1), (14, .bool z4.2), (47, .bool true)]) hf (by rw [hb4])
            refine stQ tbOk 1 [12, 13, 14, 47, 48] (L' := [(12, .bool z3.2), (13, strV z4.1), (14, .bool z4.2), (47, .bool true), (48, .slice ao3 z3.1.length cp3)]) hf (by kernel_rfl) ?_
            clear hf; clear a; intro a hf
            refine b2sRQ tbOk u22 u5 u9 (hs.raW 0 rfl) hf (by kernel_rfl) (by kernel_rfl) (by kernel_rfl) ?_
            clear hf; clear a; intro a hf
            replace hs : Sep w F R w5 F5 [] := hs.sel [] rfl rfl
            replace hf := Fr.keep (ks := [12, 13, 14, 47, 49]) (L' := [(12, .bool z3.2), (13, strV z4.1), (14, .bool z4.2), (47, .bool true), (49, strV (toStr z3.1))]) hf (by kernel_rfl)
            refine stQ tbOk 4 [12, 14, 53] (L' := [(12, .bool z3.2), (14, .bool z4.2), (53, .bool ((toStr z3.1) == z4.1))]) hf (by kernel_rfl) ?_
            clear hf; clear a; intro a hf
            rcases Bool.eq_false_or_eq_true ((toStr z3.1) == z4.1) with hb5 | hb5
            · replace hS := of_t hb5 hS
              replace hf := Fr.cast (L' := [(12, .bool z3.2), (14, .bool z4.2), (53, .bool true)]) hf (by rw [hb5])
              refine stQ tbOk 5 [8] (L' := [(8, .bool (z3.2 == z4.2))]) hf (by kernel_rfl) ?_
              clear hf; clear a; intro a hf
              refine wpQuiet_nil ?_
              intro w6 hx
              replace hs : Sep w F R w6 F5 [] := hs.ext hx
              clear hx
              exact hK2 (z3.2 == z4.2) _ _ ⟨_, hs.sel [] rfl rfl, hf.keep (ks := [8]) (by kernel_rfl)⟩ hS
            · replace hS := of_f hb5 hS
              replace hf := Fr.cast (L' := [(12, .bool z3.2), (14, .bool z4.2), (53, .bool false)]) hf (by rw [hb5])
              refine stQ tbOk 5 [8] (L' := [(8, .bool false)]) hf (by kernel_rfl) ?_
              clear hf; clear a; intro a hf
              refine wpQuiet_nil ?_
              intro w7 hx
              replace hs : Sep w F R w7 F5 [] := hs.ext hx
              clear hx
              exact hK2 false _ _ ⟨_, hs.sel [] rfl rfl, hf.keep (ks := [8]) (by kernel_rfl)⟩ hS
          · replace hS := of_f hb4 hS
            replace hf := Fr.cast (L' := [(11, .slice ao3 z3.1.length cp3), (12, .bool z3.2), (13, strV z4.1), (14, .bool z4.2), (47, .bool false)]) hf (by rw [hb4])
            refine stQ tbOk 11 [8] (L' := [(8, .bool false)]) hf (by kernel_rfl) ?_
            clear hf; clear a; intro a hf
            refine wpQuiet_nil ?_
            intro w8 hx
            replace hs : Sep w F R w8 F5 [.row 5 (tI .u8) (.slice ao3 z3.1.length cp3) z3.1] := hs.ext hx
            clear hx
            exact hK2 false _ _ ⟨_, hs.sel [] rfl rfl, hf.keep (ks := [8]) (by kernel_rfl)⟩ hS
    · clear hS; intro KK1 k1 hK1 hS
      refine reg ?_
      refine st tbOk 3 [0, 1, 2, 3, 22] (L' := [(0, .slice ao1 b.length cp1), (1, strV file), (2, .int .u64 off), (3, .slice ao2 files.length cp2), (22, .bool (!z2))]) hf (by kernel_rfl) ?_
      clear hf; clear a; intro a hf
      rcases Bool.eq_false_or_eq_true (!z2) with hb2 | hb2
      · replace hS := of_t hb2 hS
        replace hf := Fr.cast (L' := [(0, .slice ao1 b.length cp1), (1, strV file), (2, .int .u64 off), (3, .slice ao2 files.length cp2), (22, .bool true)]) hf (by rw [hb2])
        refine st tbOk 4 [0, 1, 2, 3, 26] (L' := [(0, .slice ao1 b.length cp1), (1, strV file), (2, .int .u64 off), (3, .slice ao2 files.length cp2), (26, .bool true)]) hf (by kernel_rfl) ?_
        clear hf; clear a; intro a hf
        refine wpList_nil ?_
        exact hK1 true _ _ ⟨_, hs.sel [0, 1] rfl rfl, hf.keep (ks := [0, 1, 2, 3, 26]) (by kernel_rfl)⟩ hS
      · replace hS := of_f hb2 hS
        replace hf := Fr.cast (L' := [(0, .slice ao1 b.length cp1), (1, strV file), (2, .int .u64 off), (3, .slice ao2 files.length cp2), (22, .bool false)]) hf (by rw [hb2])
        refine st tbOk 4 [0, 1, 2, 3, 26] (L' := [(0, .slice ao1 b.length cp1), (1, strV file), (2, .int .u64 off), (3, .slice ao2 files.length cp2), (26, .bool (decide (((b.length : Nat) : Int) > 5000)))]) hf (by kernel_rfl) ?_
        clear hf; clear a; intro a hf
        refine wpList_nil ?_
        exact hK1 (decide (((b.length : Nat) : Int) > 5000)) _ _ ⟨_, hs.sel [0, 1] rfl rfl, hf.keep (ks := [0, 1, 2, 3, 26]) (by kernel_rfl)⟩ hS

end Dm
