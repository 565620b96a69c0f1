/-
  The walk of the law DedupJoins; printed by a program of this repo. No condition.
-/
import Derived.Test.YtmocofbneblccaaWT
import Derived.Test.YtmocofbneblccaaW2
import Derived.Test.YtmocofbneblccaaW4
import Derived.Test.YtmocofbneblccaaW6
import Derived.Test.YtmocofbneblccaaW8
import Derived.Test.YtmocofbneblccaaW9
namespace Dm
open Go Go.RowKit Go.Proofs

set_option maxHeartbeats 4000000 in
theorem law21_DedupJoins_ok {w : World} {F : SH} {p_l : List (Int × Int × Bool × (List UInt8) × Int × Bool × Int)} {kept : List Int} {files : List ((List UInt8) × (List Int))} {ao1 : Option Addr} {cp1 : Nat} {ao2 : Option Addr} {cp2 : Nat} {ao3 : Option Addr} {cp3 : Nat} (hs : Sep w F (blks [.ro ty57 (.slice ao1 p_l.length cp1) p_l, .ro (tI .u8) (.slice ao2 kept.length cp2) kept, .ro ty60 (.slice ao3 files.length cp3) files]) w F [.ro ty57 (.slice ao1 p_l.length cp1) p_l, .ro (tI .u8) (.slice ao2 kept.length cp2) kept, .ro ty60 (.slice ao3 files.length cp3) files]) {r : Bool} (hS : law21_DedupJoins p_l kept files = some r) :
    Calls Try.prog 5 [.slice ao1 p_l.length cp1, .slice ao2 kept.length cp2, .slice ao3 files.length cp3].toArray w (Gives (fun u w' => ∃ (F' : SH), u = .bool r ∧ Sep w F (blks [.ro ty57 (.slice ao1 p_l.length cp1) p_l, .ro (tI .u8) (.slice ao2 kept.length cp2) kept, .ro ty60 (.slice ao3 files.length cp3) files]) w' F' [])) := by
  generalize (blks [.ro ty57 (.slice ao1 p_l.length cp1) p_l, .ro (tI .u8) (.slice ao2 kept.length cp2) kept, .ro ty60 (.slice ao3 files.length cp3) files]) = R at hs ⊢
  unfold law21_DedupJoins at hS
  refine fn_ok (vs := [.slice ao1 p_l.length cp1, .slice ao2 kept.length cp2, .slice ao3 files.length cp3]) Try.func5 rfl 75 Try.ntmps5 (Nat.le_of_ble_eq_true rfl) ?_
  intro a hf
  replace hf := Fr.cast (L' := [(0, .slice ao1 p_l.length cp1), (1, .slice ao2 kept.length cp2), (2, .slice ao3 files.length cp3)]) hf (by kernel_rfl)
  refine sq ?_
  refine reg ?_
  refine st tbOk 1 [0, 1, 2] (L' := [(0, .slice ao1 p_l.length cp1), (1, .slice ao2 kept.length cp2), (2, .slice ao3 files.length cp3)]) hf (by kernel_rfl) ?_
  clear hf; clear a; intro a hf
  refine wpList_nil ?_
  refine sq ?_
  refine reg ?_
  have hT := of_bd hS; clear hS; obtain ⟨z1, hz1, hS⟩ := hT
  refine clV ent13 (vs := []) (caps := []) hf (by kernel_rfl) (by kernel_rfl) (by kernel_rfl) (by kernel_rfl) (law21_awake_ok (hs.enter [] rfl rfl) hz1) ?_
  clear hf; clear a; intro v w1 a hT hf; obtain ⟨F1, rfl, hr⟩ := hT
  replace hs : Sep w F R w1 F1 [.ro ty57 (.slice ao1 p_l.length cp1) p_l, .ro (tI .u8) (.slice ao2 kept.length cp2) kept, .ro ty60 (.slice ao3 files.length cp3) files] := hs.back [] [0, 1, 2] rfl rfl rfl rfl hr
  clear hr
  replace hf := Fr.keep (ks := [0, 1, 2, 15]) (L' := [(0, .slice ao1 p_l.length cp1), (1, .slice ao2 kept.length cp2), (2, .slice ao3 files.length cp3), (15, .bool z1)]) hf (by kernel_rfl)
  refine st tbOk 1 [0, 1, 2, 7] (L' := [(0, .slice ao1 p_l.length cp1), (1, .slice ao2 kept.length cp2), (2, .slice ao3 files.length cp3), (7, .bool z1)]) hf (by kernel_rfl) ?_
  clear hf; clear a; intro a hf
  refine wpList_nil ?_
  refine sq ?_
  refine sq ?_
  refine reg ?_
  refine st tbOk 2 [0, 1, 2, 17] (L' := [(0, .slice ao1 p_l.length cp1), (1, .slice ao2 kept.length cp2), (2, .slice ao3 files.length cp3), (17, .bool (!z1))]) hf (by kernel_rfl) ?_
  clear hf; clear a; intro a hf
  refine wpList_nil ?_
  refine cnd (b := !z1) hf (by kernel_rfl) (fun hb1 => ?_) (fun hb1 => ?_)
  · replace hS := of_t hb1 hS
    refine sq ?_
    refine reg ?_
    refine st tbOk 1 [6] (L' := [(6, .bool false)]) hf (by kernel_rfl) ?_
    clear hf; clear a; intro a hf
    refine wpList_nil ?_
    have hr := Option.some.inj hS; subst hr
    refine wp_ret ?_
    exact ret_ok hf (vs := [.bool false]) (by kernel_rfl) ⟨_, rfl, hs.sel [] rfl rfl⟩
  · replace hS := of_f hb1 hS
    refine wp_skip ?_
    refine sq ?_
    refine reg ?_
    refine st tbOk 1 [0, 1, 2, 18] (L' := [(0, .slice ao1 p_l.length cp1), (1, .slice ao2 kept.length cp2), (2, .slice ao3 files.length cp3), (18, .slice ao3 files.length cp3)]) hf (by kernel_rfl) ?_
    clear hf; clear a; intro a hf
    have hT := of_bd hS; clear hS; obtain ⟨z2, hz2, hS⟩ := hT
    replace hs : Sep w F R w1 F1 [.ro ty55 (.slice none 0 0) ([] : List (Int × Int × Bool × (List UInt8) × Int × (List Int))), .ro ty57 (.slice ao1 p_l.length cp1) p_l, .ro (tI .u8) (.slice ao2 kept.length cp2) kept, .ro ty60 (.slice ao3 files.length cp3) files] := hs.addRo (RO.nil _ _)
    refine clV ent14 (vs := [.slice none 0 0, .slice ao3 files.length cp3]) (caps := []) hf (by kernel_rfl) (by kernel_rfl) (by kernel_rfl) (by kernel_rfl) (law21_few_ok (p_l := ([] : List (Int × Int × Bool × (List UInt8) × Int × (List Int)))) (files := files) (hs.enter [0, 3] rfl rfl) hz2) ?_
    clear hf; clear a; intro v w2 a hT hf; obtain ⟨F2, rfl, hr⟩ := hT
    replace hs : Sep w F R w2 F2 [.ro ty55 (.slice none 0 0) ([] : List (Int × Int × Bool × (List UInt8) × Int × (List Int))), .ro ty57 (.slice ao1 p_l.length cp1) p_l, .ro (tI .u8) (.slice ao2 kept.length cp2) kept, .ro ty60 (.slice ao3 files.length cp3) files] := hs.back [0, 3] [0, 1, 2, 3] rfl rfl rfl rfl hr
    clear hr
    replace hs : Sep w F R w2 F2 [.ro ty57 (.slice ao1 p_l.length cp1) p_l, .ro (tI .u8) (.slice ao2 kept.length cp2) kept, .ro ty60 (.slice ao3 files.length cp3) files] := hs.sel [1, 2, 3] rfl rfl
    replace hf := Fr.keep (ks := [0, 1, 2, 19]) (L' := [(0, .slice ao1 p_l.length cp1), (1, .slice ao2 kept.length cp2), (2, .slice ao3 files.length cp3), (19, .bool z2)]) hf (by kernel_rfl)
    refine st tbOk 1 [0, 1, 2, 8] (L' := [(0, .slice ao1 p_l.length cp1), (1, .slice ao2 kept.length cp2), (2, .slice ao3 files.length cp3), (8, .bool z2)]) hf (by kernel_rfl) ?_
    clear hf; clear a; intro a hf
    refine wpList_nil ?_
    refine sq ?_
    refine sq ?_
    refine ctj (fun (s1 : Bool) (a : Act) (w' : World) => ∃ (F3 : SH), Sep w F R w' F3 [.ro ty57 (.slice ao1 p_l.length cp1) p_l, .ro (tI .u8) (.slice ao2 kept.length cp2) kept, .ro ty60 (.slice ao3 files.length cp3) files] ∧ Fr 75 [(0, .slice ao1 p_l.length cp1), (1, .slice ao2 kept.length cp2), (2, .slice ao3 files.length cp3), (31, .bool s1)] a) hS ?_ ?_
    · clear hS hf hs; clear a; intro s1 a w3 hM hS
      obtain ⟨F3, hs, hf⟩ := hM
      refine cnd (b := s1) hf (by kernel_rfl) (fun hb4 => ?_) (fun hb4 => ?_)
      · replace hS := of_t hb4 hS
        refine sq ?_
        refine reg ?_
        refine st tbOk 1 [6] (L' := [(6, .bool true)]) hf (by kernel_rfl) ?_
        clear hf; clear a; intro a hf
        refine wpList_nil ?_
        have hr := Option.some.inj hS; subst hr
        refine wp_ret ?_
        exact ret_ok hf (vs := [.bool true]) (by kernel_rfl) ⟨_, rfl, hs.sel [] rfl rfl⟩
      · replace hS := of_f hb4 hS
        refine wp_skip ?_
        refine sq ?_
        refine reg ?_
        refine st tbOk 3 [0, 1, 2, 33, 34, 35] (L' := [(0, .slice ao1 p_l.length cp1), (1, .slice ao2 kept.length cp2), (2, .slice ao3 files.length cp3), (33, .slice ao1 p_l.length cp1), (34, .slice ao2 kept.length cp2), (35, .slice ao3 files.length cp3)]) hf (by kernel_rfl) ?_
        clear hf; clear a; intro a hf
        have hT := of_bd hS; clear hS; obtain ⟨z3, hz3, hS⟩ := hT
        refine clV ent23 (vs := [.slice ao1 p_l.length cp1, .slice ao2 kept.length cp2, .slice ao3 files.length cp3]) (caps := []) hf (by kernel_rfl) (by kernel_rfl) (by kernel_rfl) (by kernel_rfl) (dedup_Join_ok (p_l := p_l) (kept := kept) (files := files) (hs.enter [0, 1, 2] rfl rfl) hz3) ?_
        clear hf; clear a; intro v w4 a hT hf; obtain ⟨ao4, cp4, F4, rfl, hr⟩ := hT
        replace hs : Sep w F R w4 F4 [.row 56 ty55 (.slice ao4 z3.1.length cp4) z3.1, .ro ty57 (.slice ao1 p_l.length cp1) p_l, .ro (tI .u8) (.slice ao2 kept.length cp2) kept, .ro ty60 (.slice ao3 files.length cp3) files] := hs.back [0, 1, 2] [0, 1, 2] rfl rfl rfl rfl hr
        clear hr
        replace hf := Fr.keep (ks := [0, 1, 2, 36]) (L' := [(0, .slice ao1 p_l.length cp1), (1, .slice ao2 kept.length cp2), (2, .slice ao3 files.length cp3), (36, .tuple #[.slice ao4 z3.1.length cp4, .int .i64 z3.2])]) hf (by kernel_rfl)
        refine st tbOk 5 [0, 1, 2, 9, 10] (L' := [(0, .slice ao1 p_l.length cp1), (1, .slice ao2 kept.length cp2), (2, .slice ao3 files.length cp3), (9, .slice ao4 z3.1.length cp4), (10, .int .i64 z3.2)]) hf (by kernel_rfl) ?_
        clear hf; clear a; intro a hf
        refine wpList_nil ?_
        refine sq ?_
        have hT := of_bd hS; clear hS; obtain ⟨z4, hz4, hS⟩ := hT
        have hT := of_bd hS; clear hS; obtain ⟨z5, hz5, hS⟩ := hT
        have hs0 := hs
        refine regF 11 [fun u uw => u = .slice ao1 p_l.length cp1,
    fun u uw => ∃ (ao6 : Option Addr) (cp6 : Nat) (F' : SH), u = .slice ao6 z4.length cp6 ∧ Sep w4 F4 noR uw F' [.row 48 ty47 (.slice ao6 z4.length cp6) z4],
    fun u uw => u = .slice ao2 kept.length cp2,
    fun u uw => u = strV (toStr kept),
    fun u uw => u = .slice ao3 files.length cp3,
    fun u uw => ∃ (ao8 : Option Addr) (cp8 : Nat) (F' : SH), u = .tuple #[.slice ao8 z5.1.length cp8, .int .i64 z5.2] ∧ Sep w4 F4 noR uw F' [.row 46 ty45 (.slice ao8 z5.1.length cp8) z5.1],
    fun u uw => ∃ (ao9 : Option Addr) (cp9 : Nat) (F' : SH), u = .tuple #[.slice ao9 z5.1.length cp9, .int .i64 z5.2] ∧ Sep w4 F4 noR uw F' [.ro ty45 (.slice ao9 z5.1.length cp9) z5.1],
    fun u uw => ∃ (ao10 : Option Addr) (cp10 : Nat) (F' : SH), u = .slice ao10 z5.1.length cp10 ∧ Sep w4 F4 noR uw F' [.ro ty45 (.slice ao10 z5.1.length cp10) z5.1],
    fun u uw => u = .int .i64 z5.2,
    fun u uw => ∃ (ao11 : Option Addr) (cp11 : Nat) (F' : SH), u = .slice ao11 z5.1.length cp11 ∧ Sep w4 F4 noR uw F' [.ro ty45 (.slice ao11 z5.1.length cp11) z5.1],
    fun u uw => u = .int .i64 z5.2] mixed (Fr.keep (ks := [0, 1, 2, 9, 10]) (L' := [(0, .slice ao1 p_l.length cp1), (1, .slice ao2 kept.length cp2), (2, .slice ao3 files.length cp3), (9, .slice ao4 z3.1.length cp4), (10, .int .i64 z3.2)]) hf (by kernel_rfl)) (by kernel_rfl) rfl ?_ ?_ ?_
        · exact ⟨fun _ _ _ h _ => h, fun _ _ _ ⟨ao6, cp6, F', e, h⟩ hx => ⟨ao6, cp6, F', e, h.ext hx⟩, fun _ _ _ h _ => h, fun _ _ _ h _ => h, fun _ _ _ h _ => h, fun _ _ _ ⟨ao8, cp8, F', e, h⟩ hx => ⟨ao8, cp8, F', e, h.ext hx⟩, fun _ _ _ ⟨ao9, cp9, F', e, h⟩ hx => ⟨ao9, cp9, F', e, h.ext hx⟩, fun _ _ _ ⟨ao10, cp10, F', e, h⟩ hx => ⟨ao10, cp10, F', e, h.ext hx⟩, fun _ _ _ h _ => h, fun _ _ _ ⟨ao11, cp11, F', e, h⟩ hx => ⟨ao11, cp11, F', e, h.ext hx⟩, fun _ _ _ h _ => h, trivial⟩
        · clear hS hf hs; clear a
          refine ⟨?_, ?_, ?_, ?_, ?_, ?_, ?_, ?_, ?_, ?_, ?_, trivial⟩
          · intro a wf hX hf hd
            clear hd
            have hs : Sep wf (star F4 w4 wf) noR wf (star F4 w4 wf) [.ro ty57 (.slice ao1 p_l.length cp1) p_l, .ro (tI .u8) (.slice ao2 kept.length cp2) kept, .ro ty60 (.slice ao3 files.length cp3) files] := hs0.fstart hX [1, 2, 3] rfl rfl
            refine st tbOk 1 [40] (L' := [(40, .slice ao1 p_l.length cp1)]) hf (by kernel_rfl) ?_
            clear hf; clear a; intro a hf
            exact fq_ok (d := 40) rfl hf (hs.ex fun _ h => h) hf.1
          · intro a wf hX hf hd
            have e_40 : a.tmps.getD 40 undef = .slice ao1 p_l.length cp1 := hd 0 40 (by kernel_rfl) (by kernel_rfl)
            replace hf : Fr 75 [(40, .slice ao1 p_l.length cp1), (0, .slice ao1 p_l.length cp1), (1, .slice ao2 kept.length cp2), (2, .slice ao3 files.length cp3), (9, .slice ao4 z3.1.length cp4), (10, .int .i64 z3.2)] a := ⟨e_40, hf⟩; clear e_40
            clear hd
            have hs : Sep wf (star F4 w4 wf) noR wf (star F4 w4 wf) [.ro ty57 (.slice ao1 p_l.length cp1) p_l, .ro (tI .u8) (.slice ao2 kept.length cp2) kept, .ro ty60 (.slice ao3 files.length cp3) files] := hs0.fstart hX [1, 2, 3] rfl rfl
            refine clV ent22 (vs := [.slice ao1 p_l.length cp1]) (caps := []) hf (by kernel_rfl) (by kernel_rfl) (by kernel_rfl) (by kernel_rfl) (law21_entries_ok (p_l := p_l) (hs.enter [0] rfl rfl) hz4) ?_
            clear hf; clear a; intro v w5 a hT hf; obtain ⟨ao5, cp5, F5, rfl, hr⟩ := hT
            replace hs : Sep wf (star F4 w4 wf) noR w5 F5 [.row 48 ty47 (.slice ao5 z4.length cp5) z4, .ro ty57 (.slice ao1 p_l.length cp1) p_l, .ro (tI .u8) (.slice ao2 kept.length cp2) kept, .ro ty60 (.slice ao3 files.length cp3) files] := hs.back [0] [0, 1, 2] rfl rfl rfl rfl hr
            clear hr
            exact fq_ok (d := 41) rfl hf (hs.ex fun _ h => h) ⟨ao5, cp5, _, hf.1, (hs.sel [0] rfl rfl).rebase hX⟩
          · intro a wf hX hf hd
            clear hd
            have hs : Sep wf (star F4 w4 wf) noR wf (star F4 w4 wf) [.ro ty57 (.slice ao1 p_l.length cp1) p_l, .ro (tI .u8) (.slice ao2 kept.length cp2) kept, .ro ty60 (.slice ao3 files.length cp3) files] := hs0.fstart hX [1, 2, 3] rfl rfl
            refine st tbOk 1 [42] (L' := [(42, .slice ao2 kept.length cp2)]) hf (by kernel_rfl) ?_
            clear hf; clear a; intro a hf
            exact fq_ok (d := 42) rfl hf (hs.ex fun _ h => h) hf.1
          · intro a wf hX hf hd
            have e_42 : a.tmps.getD 42 undef = .slice ao2 kept.length cp2 := hd 2 42 (by kernel_rfl) (by kernel_rfl)
            replace hf : Fr 75 [(42, .slice ao2 kept.length cp2), (0, .slice ao1 p_l.length cp1), (1, .slice ao2 kept.length cp2), (2, .slice ao3 files.length cp3), (9, .slice ao4 z3.1.length cp4), (10, .int .i64 z3.2)] a := ⟨e_42, hf⟩; clear e_42
            clear hd
            have hs : Sep wf (star F4 w4 wf) noR wf (star F4 w4 wf) [.ro ty57 (.slice ao1 p_l.length cp1) p_l, .ro (tI .u8) (.slice ao2 kept.length cp2) kept, .ro ty60 (.slice ao3 files.length cp3) files] := hs0.fstart hX [1, 2, 3] rfl rfl
            refine b2sR tbOk u22 u5 u9 (hs.raR 1 rfl) hf (by kernel_rfl) (by kernel_rfl) (by kernel_rfl) ?_
            clear hf; clear a; intro a hf
            exact fq_ok (d := 43) rfl hf (hs.ex fun _ h => h) hf.1
          · intro a wf hX hf hd
            clear hd
            have hs : Sep wf (star F4 w4 wf) noR wf (star F4 w4 wf) [.ro ty57 (.slice ao1 p_l.length cp1) p_l, .ro (tI .u8) (.slice ao2 kept.length cp2) kept, .ro ty60 (.slice ao3 files.length cp3) files] := hs0.fstart hX [1, 2, 3] rfl rfl
            refine st tbOk 1 [44] (L' := [(44, .slice ao3 files.length cp3)]) hf (by kernel_rfl) ?_
            clear hf; clear a; intro a hf
            exact fq_ok (d := 44) rfl hf (hs.ex fun _ h => h) hf.1
          · intro a wf hX hf hd
            obtain ⟨ao6, cp6, F_41, e_41, h_41⟩ : ∃ (ao6 : Option Addr) (cp6 : Nat) (F' : SH), a.tmps.getD 41 undef = .slice ao6 z4.length cp6 ∧ Sep w4 F4 noR wf F' [.row 48 ty47 (.slice ao6 z4.length cp6) z4] := hd 1 41 (by kernel_rfl) (by kernel_rfl)
            have e_43 : a.tmps.getD 43 undef = strV (toStr kept) := hd 3 43 (by kernel_rfl) (by kernel_rfl)
            have e_44 : a.tmps.getD 44 undef = .slice ao3 files.length cp3 := hd 4 44 (by kernel_rfl) (by kernel_rfl)
            replace hf : Fr 75 [(41, .slice ao6 z4.length cp6), (43, strV (toStr kept)), (44, .slice ao3 files.length cp3), (0, .slice ao1 p_l.length cp1), (1, .slice ao2 kept.length cp2), (2, .slice ao3 files.length cp3), (9, .slice ao4 z3.1.length cp4), (10, .int .i64 z3.2)] a := ⟨e_41, e_43, e_44, hf⟩; clear e_41 e_43 e_44
            clear hd
            have hs : Sep wf (star F4 w4 wf) noR wf (star F4 w4 wf) [.ro ty57 (.slice ao1 p_l.length cp1) p_l, .ro (tI .u8) (.slice ao2 kept.length cp2) kept, .ro ty60 (.slice ao3 files.length cp3) files] := hs0.fstart hX [1, 2, 3] rfl rfl
            replace hs : Sep wf (star F4 w4 wf) noR wf (star F4 w4 wf) [.ro ty47 (.slice ao6 z4.length cp6) z4, .ro ty57 (.slice ao1 p_l.length cp1) p_l, .ro (tI .u8) (.slice ao2 kept.length cp2) kept, .ro ty60 (.slice ao3 files.length cp3) files] := hs.addStar h_41 0 rfl rfl
            clear h_41
            refine clV ent24 (vs := [.slice ao6 z4.length cp6, strV (toStr kept), .slice ao3 files.length cp3]) (caps := []) hf (by kernel_rfl) (by kernel_rfl) (by kernel_rfl) (by kernel_rfl) (ref21_Join_ok (p_l := z4) (kept := toStr kept) (files := files) (hs.enter [0, 3] rfl rfl) hz5) ?_
            clear hf; clear a; intro v w6 a hT hf; obtain ⟨ao7, cp7, F6, rfl, hr⟩ := hT
            replace hs : Sep wf (star F4 w4 wf) noR w6 F6 [.row 46 ty45 (.slice ao7 z5.1.length cp7) z5.1, .ro ty47 (.slice ao6 z4.length cp6) z4, .ro ty57 (.slice ao1 p_l.length cp1) p_l, .ro (tI .u8) (.slice ao2 kept.length cp2) kept, .ro ty60 (.slice ao3 files.length cp3) files] := hs.back [0, 3] [0, 1, 2, 3] rfl rfl rfl rfl hr
            clear hr
            exact fq_ok (d := 45) rfl hf (hs.ex fun _ h => h) ⟨ao7, cp7, _, hf.1, (hs.sel [0] rfl rfl).rebase hX⟩
          · intro a wf hX hf hd
            obtain ⟨ao8, cp8, F_45, e_45, h_45⟩ : ∃ (ao8 : Option Addr) (cp8 : Nat) (F' : SH), a.tmps.getD 45 undef = .tuple #[.slice ao8 z5.1.length cp8, .int .i64 z5.2] ∧ Sep w4 F4 noR wf F' [.row 46 ty45 (.slice ao8 z5.1.length cp8) z5.1] := hd 5 45 (by kernel_rfl) (by kernel_rfl)
            replace hf : Fr 75 [(45, .tuple #[.slice ao8 z5.1.length cp8, .int .i64 z5.2]), (0, .slice ao1 p_l.length cp1), (1, .slice ao2 kept.length cp2), (2, .slice ao3 files.length cp3), (9, .slice ao4 z3.1.length cp4), (10, .int .i64 z3.2)] a := ⟨e_45, hf⟩; clear e_45
            clear hd
            have hs : Sep wf (star F4 w4 wf) noR wf (star F4 w4 wf) [.ro ty57 (.slice ao1 p_l.length cp1) p_l, .ro (tI .u8) (.slice ao2 kept.length cp2) kept, .ro ty60 (.slice ao3 files.length cp3) files] := hs0.fstart hX [1, 2, 3] rfl rfl
            replace hs : Sep wf (star F4 w4 wf) noR wf (star F4 w4 wf) [.ro ty45 (.slice ao8 z5.1.length cp8) z5.1, .ro ty57 (.slice ao1 p_l.length cp1) p_l, .ro (tI .u8) (.slice ao2 kept.length cp2) kept, .ro ty60 (.slice ao3 files.length cp3) files] := hs.addStar h_45 0 rfl rfl
            clear h_45
            refine st tbOk 1 [39] (L' := [(39, .tuple #[.slice ao8 z5.1.length cp8, .int .i64 z5.2])]) hf (by kernel_rfl) ?_
            clear hf; clear a; intro a hf
            exact fq_ok (d := 39) rfl hf (hs.ex fun _ h => h) ⟨ao8, cp8, _, hf.1, (hs.sel [0] rfl rfl).rebase hX⟩
          · intro a wf hX hf hd
            obtain ⟨ao9, cp9, F_39, e_39, h_39⟩ : ∃ (ao9 : Option Addr) (cp9 : Nat) (F' : SH), a.tmps.getD 39 undef = .tuple #[.slice ao9 z5.1.length cp9, .int .i64 z5.2] ∧ Sep w4 F4 noR wf F' [.ro ty45 (.slice ao9 z5.1.length cp9) z5.1] := hd 6 39 (by kernel_rfl) (by kernel_rfl)
            replace hf : Fr 75 [(39, .tuple #[.slice ao9 z5.1.length cp9, .int .i64 z5.2]), (0, .slice ao1 p_l.length cp1), (1, .slice ao2 kept.length cp2), (2, .slice ao3 files.length cp3), (9, .slice ao4 z3.1.length cp4), (10, .int .i64 z3.2)] a := ⟨e_39, hf⟩; clear e_39
            clear hd
            have hs : Sep wf (star F4 w4 wf) noR wf (star F4 w4 wf) [.ro ty57 (.slice ao1 p_l.length cp1) p_l, .ro (tI .u8) (.slice ao2 kept.length cp2) kept, .ro ty60 (.slice ao3 files.length cp3) files] := hs0.fstart hX [1, 2, 3] rfl rfl
            replace hs : Sep wf (star F4 w4 wf) noR wf (star F4 w4 wf) [.ro ty45 (.slice ao9 z5.1.length cp9) z5.1, .ro ty57 (.slice ao1 p_l.length cp1) p_l, .ro (tI .u8) (.slice ao2 kept.length cp2) kept, .ro ty60 (.slice ao3 files.length cp3) files] := hs.addStar h_39 0 rfl rfl
            clear h_39
            refine st tbOk 1 [46] (L' := [(46, .slice ao9 z5.1.length cp9)]) hf (by kernel_rfl) ?_
            clear hf; clear a; intro a hf
            exact fq_ok (d := 46) rfl hf (hs.ex fun _ h => h) ⟨ao9, cp9, _, hf.1, (hs.sel [0] rfl rfl).rebase hX⟩
          · intro a wf hX hf hd
            obtain ⟨ao9, cp9, F_39, e_39, h_39⟩ : ∃ (ao9 : Option Addr) (cp9 : Nat) (F' : SH), a.tmps.getD 39 undef = .tuple #[.slice ao9 z5.1.length cp9, .int .i64 z5.2] ∧ Sep w4 F4 noR wf F' [.ro ty45 (.slice ao9 z5.1.length cp9) z5.1] := hd 6 39 (by kernel_rfl) (by kernel_rfl)
            replace hf : Fr 75 [(39, .tuple #[.slice ao9 z5.1.length cp9, .int .i64 z5.2]), (0, .slice ao1 p_l.length cp1), (1, .slice ao2 kept.length cp2), (2, .slice ao3 files.length cp3), (9, .slice ao4 z3.1.length cp4), (10, .int .i64 z3.2)] a := ⟨e_39, hf⟩; clear e_39
            clear hd
            have hs : Sep wf (star F4 w4 wf) noR wf (star F4 w4 wf) [.ro ty57 (.slice ao1 p_l.length cp1) p_l, .ro (tI .u8) (.slice ao2 kept.length cp2) kept, .ro ty60 (.slice ao3 files.length cp3) files] := hs0.fstart hX [1, 2, 3] rfl rfl
            replace hs : Sep wf (star F4 w4 wf) noR wf (star F4 w4 wf) [.ro ty45 (.slice ao9 z5.1.length cp9) z5.1, .ro ty57 (.slice ao1 p_l.length cp1) p_l, .ro (tI .u8) (.slice ao2 kept.length cp2) kept, .ro ty60 (.slice ao3 files.length cp3) files] := hs.addStar h_39 0 rfl rfl
            clear h_39
            refine st tbOk 1 [47] (L' := [(47, .int .i64 z5.2)]) hf (by kernel_rfl) ?_
            clear hf; clear a; intro a hf
            exact fq_ok (d := 47) rfl hf (hs.ex fun _ h => h) hf.1
          · intro a wf hX hf hd
            obtain ⟨ao10, cp10, F_46, e_46, h_46⟩ : ∃ (ao10 : Option Addr) (cp10 : Nat) (F' : SH), a.tmps.getD 46 undef = .slice ao10 z5.1.length cp10 ∧ Sep w4 F4 noR wf F' [.ro ty45 (.slice ao10 z5.1.length cp10) z5.1] := hd 7 46 (by kernel_rfl) (by kernel_rfl)
            replace hf : Fr 75 [(46, .slice ao10 z5.1.length cp10), (0, .slice ao1 p_l.length cp1), (1, .slice ao2 kept.length cp2), (2, .slice ao3 files.length cp3), (9, .slice ao4 z3.1.length cp4), (10, .int .i64 z3.2)] a := ⟨e_46, hf⟩; clear e_46
            clear hd
            have hs : Sep wf (star F4 w4 wf) noR wf (star F4 w4 wf) [.ro ty57 (.slice ao1 p_l.length cp1) p_l, .ro (tI .u8) (.slice ao2 kept.length cp2) kept, .ro ty60 (.slice ao3 files.length cp3) files] := hs0.fstart hX [1, 2, 3] rfl rfl
            replace hs : Sep wf (star F4 w4 wf) noR wf (star F4 w4 wf) [.ro ty45 (.slice ao10 z5.1.length cp10) z5.1, .ro ty57 (.slice ao1 p_l.length cp1) p_l, .ro (tI .u8) (.slice ao2 kept.length cp2) kept, .ro ty60 (.slice ao3 files.length cp3) files] := hs.addStar h_46 0 rfl rfl
            clear h_46
            refine st tbOk 1 [11] (L' := [(11, .slice ao10 z5.1.length cp10)]) hf (by kernel_rfl) ?_
            clear hf; clear a; intro a hf
            exact fq_ok (d := 11) rfl hf (hs.ex fun _ h => h) ⟨ao10, cp10, _, hf.1, (hs.sel [0] rfl rfl).rebase hX⟩
          · intro a wf hX hf hd
            have e_47 : a.tmps.getD 47 undef = .int .i64 z5.2 := hd 8 47 (by kernel_rfl) (by kernel_rfl)
            replace hf : Fr 75 [(47, .int .i64 z5.2), (0, .slice ao1 p_l.length cp1), (1, .slice ao2 kept.length cp2), (2, .slice ao3 files.length cp3), (9, .slice ao4 z3.1.length cp4), (10, .int .i64 z3.2)] a := ⟨e_47, hf⟩; clear e_47
            clear hd
            have hs : Sep wf (star F4 w4 wf) noR wf (star F4 w4 wf) [.ro ty57 (.slice ao1 p_l.length cp1) p_l, .ro (tI .u8) (.slice ao2 kept.length cp2) kept, .ro ty60 (.slice ao3 files.length cp3) files] := hs0.fstart hX [1, 2, 3] rfl rfl
            refine st tbOk 1 [12] (L' := [(12, .int .i64 z5.2)]) hf (by kernel_rfl) ?_
            clear hf; clear a; intro a hf
            exact fq_ok (d := 12) rfl hf (hs.ex fun _ h => h) hf.1
        · clear hf hs; clear a; intro a w7 hx hf hd
          have hs : Sep w F R w7 (star F4 w4 w7) [.row 56 ty55 (.slice ao4 z3.1.length cp4) z3.1, .ro ty57 (.slice ao1 p_l.length cp1) p_l, .ro (tI .u8) (.slice ao2 kept.length cp2) kept, .ro ty60 (.slice ao3 files.length cp3) files] := hs0.starX hx
          obtain ⟨ao11, cp11, F_11, e_11, h_11⟩ : ∃ (ao11 : Option Addr) (cp11 : Nat) (F' : SH), a.tmps.getD 11 undef = .slice ao11 z5.1.length cp11 ∧ Sep w4 F4 noR w7 F' [.ro ty45 (.slice ao11 z5.1.length cp11) z5.1] := hd 9 11 (by kernel_rfl) (by kernel_rfl)
          have e_12 : a.tmps.getD 12 undef = .int .i64 z5.2 := hd 10 12 (by kernel_rfl) (by kernel_rfl)
          clear hd hx
          replace hs : Sep w F R w7 (star F4 w4 w7) [.ro ty45 (.slice ao11 z5.1.length cp11) z5.1, .row 56 ty55 (.slice ao4 z3.1.length cp4) z3.1, .ro ty57 (.slice ao1 p_l.length cp1) p_l, .ro (tI .u8) (.slice ao2 kept.length cp2) kept, .ro ty60 (.slice ao3 files.length cp3) files] := hs.addStar h_11 0 rfl rfl
          clear h_11
          clear hs0
          replace hf : Fr 75 [(11, .slice ao11 z5.1.length cp11), (12, .int .i64 z5.2), (0, .slice ao1 p_l.length cp1), (1, .slice ao2 kept.length cp2), (2, .slice ao3 files.length cp3), (9, .slice ao4 z3.1.length cp4), (10, .int .i64 z3.2)] a := ⟨e_11, e_12, hf⟩
          clear e_11 e_12
          replace hs : Sep w F R w7 (star F4 w4 w7) [.ro ty45 (.slice ao11 z5.1.length cp11) z5.1, .row 56 ty55 (.slice ao4 z3.1.length cp4) z3.1] := hs.sel [0, 1] rfl rfl
          replace hf := Fr.keep (ks := [9, 10, 11, 12]) (L' := [(9, .slice ao4 z3.1.length cp4), (10, .int .i64 z3.2), (11, .slice ao11 z5.1.length cp11), (12, .int .i64 z5.2)]) hf (by kernel_rfl)
          refine wpList_nil ?_
          refine sq ?_
          refine reg ?_
          refine st tbOk 1 [10, 11, 12, 48] (L' := [(10, .int .i64 z3.2), (11, .slice ao11 z5.1.length cp11), (12, .int .i64 z5.2), (48, .slice ao4 z3.1.length cp4)]) hf (by kernel_rfl) ?_
          clear hf; clear a; intro a hf
          have hT := of_bd hS; clear hS; obtain ⟨z6, hz6, hS⟩ := hT
          refine clV ent21 (vs := [.slice ao4 z3.1.length cp4]) (caps := []) hf (by kernel_rfl) (by kernel_rfl) (by kernel_rfl) (by kernel_rfl) (law21_pages_ok (p_l := z3.1) (hs.lend [1] [] rfl rfl rfl rfl rfl) hz6) ?_
          clear hf; clear a; intro v w8 a hT hf; obtain ⟨ao12, cp12, F7, rfl, hr⟩ := hT
          replace hs : Sep w F R w8 (star F4 w4 w7) [.row 46 ty45 (.slice ao12 z6.length cp12) z6, .ro ty45 (.slice ao11 z5.1.length cp11) z5.1, .row 56 ty55 (.slice ao4 z3.1.length cp4) z3.1] := hs.backL [1] [] [0, 1] rfl rfl rfl rfl rfl rfl hr ⟨flat45, trivial⟩
          clear hr
          replace hs : Sep w F R w8 (star F4 w4 w7) [.row 46 ty45 (.slice ao12 z6.length cp12) z6, .ro ty45 (.slice ao11 z5.1.length cp11) z5.1] := hs.sel [0, 1] rfl rfl
          replace hf := Fr.keep (ks := [10, 11, 12, 49]) (L' := [(10, .int .i64 z3.2), (11, .slice ao11 z5.1.length cp11), (12, .int .i64 z5.2), (49, .slice ao12 z6.length cp12)]) hf (by kernel_rfl)
          refine st tbOk 1 [10, 11, 12, 13] (L' := [(10, .int .i64 z3.2), (11, .slice ao11 z5.1.length cp11), (12, .int .i64 z5.2), (13, .slice ao12 z6.length cp12)]) hf (by kernel_rfl) ?_
          clear hf; clear a; intro a hf
          refine wpList_nil ?_
          refine sq ?_
          refine sq ?_
          refine ctj (fun (s2 : Bool) (a : Act) (w' : World) => ∃ (F8 : SH), Sep w F R w' F8 [.row 46 ty45 (.slice ao12 z6.length cp12) z6, .ro ty45 (.slice ao11 z5.1.length cp11) z5.1] ∧ Fr 75 [(11, .slice ao11 z5.1.length cp11), (13, .slice ao12 z6.length cp12), (59, .bool s2)] a) hS ?_ ?_
          · clear hS hf hs; clear a; intro s2 a w9 hM hS
            obtain ⟨F8, hs, hf⟩ := hM
            refine cnd (b := s2) hf (by kernel_rfl) (fun hb6 => ?_) (fun hb6 => ?_)
            · replace hS := of_t hb6 hS
              refine sq ?_
              refine reg ?_
              refine st tbOk 1 [6] (L' := [(6, .bool false)]) hf (by kernel_rfl) ?_
              clear hf; clear a; intro a hf
              refine wpList_nil ?_
              have hr := Option.some.inj hS; subst hr
              refine wp_ret ?_
              exact ret_ok hf (vs := [.bool false]) (by kernel_rfl) ⟨_, rfl, hs.sel [] rfl rfl⟩
            · replace hS := of_f hb6 hS
              refine wp_skip ?_
              refine sq ?_
              refine sq ?_
              refine reg ?_
              refine st tbOk 1 [11, 13, 14] (L' := [(11, .slice ao11 z5.1.length cp11), (13, .slice ao12 z6.length cp12), (14, .int .i64 0)]) hf (by kernel_rfl) ?_
              clear hf; clear a; intro a hf
              refine wpList_nil ?_
              refine ctj (fun (s3 : Unit) (a : Act) (w' : World) => ∃ (F9 : SH), Sep w F R w' F9 [] ∧ Fr 75 [] a) hS ?_ ?_
              · clear hS hf hs; clear a; intro s3 a w12 hM hS
                obtain ⟨F9, hs, hf⟩ := hM
                refine sq ?_
                refine reg ?_
                refine st tbOk 1 [6] (L' := [(6, .bool true)]) hf (by kernel_rfl) ?_
                clear hf; clear a; intro a hf
                refine wpList_nil ?_
                have hr := Option.some.inj hS; subst hr
                refine wp_ret ?_
                exact ret_ok hf (vs := [.bool true]) (by kernel_rfl) ⟨_, rfl, hs.sel [] rfl rfl⟩
              · clear hS; intro KK3 k3 hK3 hS
                refine blk ?_
                refine lp (st := 0) (fun (s4 : Int) (a : Act) (w' : World) => ∃ (F10 : SH), Sep w F R w' F10 [.row 46 ty45 (.slice ao12 z6.length cp12) z6, .ro ty45 (.slice ao11 z5.1.length cp11) z5.1] ∧ Fr 75 [(11, .slice ao11 z5.1.length cp11), (13, .slice ao12 z6.length cp12), (14, .int .i64 s4)] a) ?_ ⟨_, hs.sel [0, 1] rfl rfl, hf.keep (ks := [11, 13, 14]) (by kernel_rfl)⟩ hS
                clear hS hf hs; clear a
                intro rec1 KK4 hK4 s4 a w10 hM hS
                obtain ⟨F10, hs, hf⟩ := hM
                refine sq ?_
                refine sq ?_
                refine reg ?_
                refine st tbOk 4 [11, 13, 14, 63] (L' := [(11, .slice ao11 z5.1.length cp11), (13, .slice ao12 z6.length cp12), (14, .int .i64 s4), (63, .bool (decide (s4 < ((z6.length : Nat) : Int))))]) hf (by kernel_rfl) ?_
                clear hf; clear a; intro a hf
                refine wpList_nil ?_
                refine cnd (b := decide (s4 < ((z6.length : Nat) : Int))) hf (by kernel_rfl) (fun hb7 => ?_) (fun hb7 => ?_)
                · replace hS := of_t hb7 hS
                  refine wp_skip ?_
                  refine sq ?_
                  refine blk ?_
                  refine sq ?_
                  refine regQ mixed (by kernel_rfl) ?_
                  refine stQ tbOk 2 [11, 13, 14, 66, 67] (L' := [(11, .slice ao11 z5.1.length cp11), (13, .slice ao12 z6.length cp12), (14, .int .i64 s4), (66, .slice ao12 z6.length cp12), (67, .int .i64 s4)]) hf (by kernel_rfl) ?_
                  clear hf; clear a; intro a hf
                  have hT := of_gd hS; clear hS; obtain ⟨hc1, hS⟩ := hT
                  refine ixRQ tbOk u42 i46 rfl rfl (hs.raW 0 rfl) (k := .i64) (n := s4) hc1 hf (by kernel_rfl) (by kernel_rfl) (by kernel_rfl) (by kernel_rfl) ?_
                  clear hf; clear a; intro pb1 po1 c1 a hp1 hr1 hf
                  obtain rfl : c1 = [.int .u64 ((gt z6 s4).1), .int .i64 ((gt z6 s4).2.1), .bool ((gt z6 s4).2.2.1), strV ((gt z6 s4).2.2.2.1), .int .u64 ((gt z6 s4).2.2.2.2.1), strV ((gt z6 s4).2.2.2.2.2)] := hr1
                  replace hf := Fr.keep (ks := [11, 13, 14, 68]) (L' := [(11, .slice ao11 z5.1.length cp11), (13, .slice ao12 z6.length cp12), (14, .int .i64 s4), (68, .pointer (some ⟨pb1, po1, none⟩))]) hf (by kernel_rfl)
                  refine ldCQ tbOk (T := 46) hp1 (LeH.refl _) 0 (.agg #[.int .u64 ((gt z6 s4).1), .int .i64 ((gt z6 s4).2.1), .bool ((gt z6 s4).2.2.1), strV ((gt z6 s4).2.2.2.1), .int .u64 ((gt z6 s4).2.2.2.2.1), strV ((gt z6 s4).2.2.2.2.2)]) hf (by kernel_rfl) (by kernel_rfl) (by kernel_rfl) (by kernel_rfl) ?_
                  clear hf; clear a; intro a hf
                  replace hf := Fr.keep (ks := [11, 13, 14, 69]) (L' := [(11, .slice ao11 z5.1.length cp11), (13, .slice ao12 z6.length cp12), (14, .int .i64 s4), (69, .agg #[.int .u64 ((gt z6 s4).1), .int .i64 ((gt z6 s4).2.1), .bool ((gt z6 s4).2.2.1), strV ((gt z6 s4).2.2.2.1), .int .u64 ((gt z6 s4).2.2.2.2.1), strV ((gt z6 s4).2.2.2.2.2)])]) hf (by kernel_rfl)
                  refine stQ tbOk 2 [11, 13, 14, 69, 70, 71] (L' := [(11, .slice ao11 z5.1.length cp11), (13, .slice ao12 z6.length cp12), (14, .int .i64 s4), (69, .agg #[.int .u64 ((gt z6 s4).1), .int .i64 ((gt z6 s4).2.1), .bool ((gt z6 s4).2.2.1), strV ((gt z6 s4).2.2.2.1), .int .u64 ((gt z6 s4).2.2.2.2.1), strV ((gt z6 s4).2.2.2.2.2)]), (70, .slice ao11 z5.1.length cp11), (71, .int .i64 s4)]) hf (by kernel_rfl) ?_
                  clear hf; clear a; intro a hf
                  have hT := of_gd hS; clear hS; obtain ⟨hc2, hS⟩ := hT
                  refine ixRQ tbOk u42 i46 rfl rfl ((hs.ro 1 rfl).ra (LeH.refl _)) (k := .i64) (n := s4) hc2 hf (by kernel_rfl) (by kernel_rfl) (by kernel_rfl) (by kernel_rfl) ?_
                  clear hf; clear a; intro pb2 po2 c2 a hp2 hr2 hf
                  obtain rfl : c2 = [.int .u64 ((gt z5.1 s4).1), .int .i64 ((gt z5.1 s4).2.1), .bool ((gt z5.1 s4).2.2.1), strV ((gt z5.1 s4).2.2.2.1), .int .u64 ((gt z5.1 s4).2.2.2.2.1), strV ((gt z5.1 s4).2.2.2.2.2)] := hr2
                  replace hs : Sep w F R w10 F10 [.cel pb2 po2 [.int .u64 ((gt z5.1 s4).1), .int .i64 ((gt z5.1 s4).2.1), .bool ((gt z5.1 s4).2.2.1), strV ((gt z5.1 s4).2.2.2.1), .int .u64 ((gt z5.1 s4).2.2.2.2.1), strV ((gt z5.1 s4).2.2.2.2.2)], .row 46 ty45 (.slice ao12 z6.length cp12) z6, .ro ty45 (.slice ao11 z5.1.length cp11) z5.1] := hs.addCel hp2
                  replace hf := Fr.keep (ks := [11, 13, 14, 69, 72]) (L' := [(11, .slice ao11 z5.1.length cp11), (13, .slice ao12 z6.length cp12), (14, .int .i64 s4), (69, .agg #[.int .u64 ((gt z6 s4).1), .int .i64 ((gt z6 s4).2.1), .bool ((gt z6 s4).2.2.1), strV ((gt z6 s4).2.2.2.1), .int .u64 ((gt z6 s4).2.2.2.2.1), strV ((gt z6 s4).2.2.2.2.2)]), (72, .pointer (some ⟨pb2, po2, none⟩))]) hf (by kernel_rfl)
                  refine ldCQ tbOk (T := 46) (hs.ccel 0 rfl) (LeH.refl _) 0 (.agg #[.int .u64 ((gt z5.1 s4).1), .int .i64 ((gt z5.1 s4).2.1), .bool ((gt z5.1 s4).2.2.1), strV ((gt z5.1 s4).2.2.2.1), .int .u64 ((gt z5.1 s4).2.2.2.2.1), strV ((gt z5.1 s4).2.2.2.2.2)]) hf (by kernel_rfl) (by kernel_rfl) (by kernel_rfl) (by kernel_rfl) ?_
                  clear hf; clear a; intro a hf
                  replace hs : Sep w F R w10 F10 [.row 46 ty45 (.slice ao12 z6.length cp12) z6, .ro ty45 (.slice ao11 z5.1.length cp11) z5.1] := hs.sel [1, 2] rfl rfl
                  replace hf := Fr.keep (ks := [11, 13, 14, 69, 73]) (L' := [(11, .slice ao11 z5.1.length cp11), (13, .slice ao12 z6.length cp12), (14, .int .i64 s4), (69, .agg #[.int .u64 ((gt z6 s4).1), .int .i64 ((gt z6 s4).2.1), .bool ((gt z6 s4).2.2.1), strV ((gt z6 s4).2.2.2.1), .int .u64 ((gt z6 s4).2.2.2.2.1), strV ((gt z6 s4).2.2.2.2.2)]), (73, .agg #[.int .u64 ((gt z5.1 s4).1), .int .i64 ((gt z5.1 s4).2.1), .bool ((gt z5.1 s4).2.2.1), strV ((gt z5.1 s4).2.2.2.1), .int .u64 ((gt z5.1 s4).2.2.2.2.1), strV ((gt z5.1 s4).2.2.2.2.2)])]) hf (by kernel_rfl)
                  refine stQ tbOk 1 [11, 13, 14, 74] (L' := [(11, .slice ao11 z5.1.length cp11), (13, .slice ao12 z6.length cp12), (14, .int .i64 s4), (74, .bool (!((((gt z6 s4).1) == ((gt z5.1 s4).1)) && ((((gt z6 s4).2.1) == ((gt z5.1 s4).2.1)) && ((((gt z6 s4).2.2.1) == ((gt z5.1 s4).2.2.1)) && ((((gt z6 s4).2.2.2.1) == ((gt z5.1 s4).2.2.2.1)) && ((((gt z6 s4).2.2.2.2.1) == ((gt z5.1 s4).2.2.2.2.1)) && (((gt z6 s4).2.2.2.2.2) == ((gt z5.1 s4).2.2.2.2.2)))))))))]) hf (by kernel_rfl) ?_
                  clear hf; clear a; intro a hf
                  refine wpQuiet_nil ?_
                  intro w11 hx
                  replace hs : Sep w F R w11 F10 [.row 46 ty45 (.slice ao12 z6.length cp12) z6, .ro ty45 (.slice ao11 z5.1.length cp11) z5.1] := hs.ext hx
                  clear hx
                  refine cnd (b := !((((gt z6 s4).1) == ((gt z5.1 s4).1)) && ((((gt z6 s4).2.1) == ((gt z5.1 s4).2.1)) && ((((gt z6 s4).2.2.1) == ((gt z5.1 s4).2.2.1)) && ((((gt z6 s4).2.2.2.1) == ((gt z5.1 s4).2.2.2.1)) && ((((gt z6 s4).2.2.2.2.1) == ((gt z5.1 s4).2.2.2.2.1)) && (((gt z6 s4).2.2.2.2.2) == ((gt z5.1 s4).2.2.2.2.2)))))))) hf (by kernel_rfl) (fun hb8 => ?_) (fun hb8 => ?_)
                  · replace hS := of_t hb8 hS
                    refine sq ?_
                    refine reg ?_
                    refine st tbOk 1 [6] (L' := [(6, .bool false)]) hf (by kernel_rfl) ?_
                    clear hf; clear a; intro a hf
                    refine wpList_nil ?_
                    have hr := Option.some.inj hS; subst hr
                    refine wp_ret ?_
                    exact ret_ok hf (vs := [.bool false]) (by kernel_rfl) ⟨_, rfl, hs.sel [] rfl rfl⟩
                  · replace hS := of_f hb8 hS
                    refine wp_skip ?_
                    refine reg ?_
                    have hT := of_let hS; clear hS; obtain ⟨i_1, hl1, hS⟩ := hT
                    refine st tbOk 3 [11, 13, 14] (L' := [(11, .slice ao11 z5.1.length cp11), (13, .slice ao12 z6.length cp12), (14, .int .i64 i_1)]) hf (by subst hl1; kernel_rfl) ?_
                    clear hf; clear a; intro a hf
                    refine wpList_nil ?_
                    exact hK4 i_1 _ _ ⟨_, hs.sel [0, 1] rfl rfl, hf.keep (ks := [11, 13, 14]) (by kernel_rfl)⟩ hS
                · replace hS := of_f hb7 hS
                  refine wp_exit ?_
                  exact hK3 () _ _ ⟨_, hs.sel [] rfl rfl, hf.keep (ks := []) (by kernel_rfl)⟩ hS
          · clear hS; intro KK2 k2 hK2 hS
            refine reg ?_
            refine st tbOk 4 [11, 13, 53] (L' := [(11, .slice ao11 z5.1.length cp11), (13, .slice ao12 z6.length cp12), (53, .bool (z3.2 != z5.2))]) hf (by kernel_rfl) ?_
            clear hf; clear a; intro a hf
            rcases Bool.eq_false_or_eq_true (z3.2 != z5.2) with hb5 | hb5
            · replace hS := of_t hb5 hS
              replace hf := Fr.cast (L' := [(11, .slice ao11 z5.1.length cp11), (13, .slice ao12 z6.length cp12), (53, .bool true)]) hf (by rw [hb5])
              refine st tbOk 6 [11, 13, 59] (L' := [(11, .slice ao11 z5.1.length cp11), (13, .slice ao12 z6.length cp12), (59, .bool true)]) hf (by kernel_rfl) ?_
              clear hf; clear a; intro a hf
              refine wpList_nil ?_
              exact hK2 true _ _ ⟨_, hs.sel [0, 1] rfl rfl, hf.keep (ks := [11, 13, 59]) (by kernel_rfl)⟩ hS
            · replace hS := of_f hb5 hS
              replace hf := Fr.cast (L' := [(11, .slice ao11 z5.1.length cp11), (13, .slice ao12 z6.length cp12), (53, .bool false)]) hf (by rw [hb5])
              refine st tbOk 6 [11, 13, 59] (L' := [(11, .slice ao11 z5.1.length cp11), (13, .slice ao12 z6.length cp12), (59, .bool (((z6.length : Nat) : Int) != ((z5.1.length : Nat) : Int)))]) hf (by kernel_rfl) ?_
              clear hf; clear a; intro a hf
              refine wpList_nil ?_
              exact hK2 (((z6.length : Nat) : Int) != ((z5.1.length : Nat) : Int)) _ _ ⟨_, hs.sel [0, 1] rfl rfl, hf.keep (ks := [11, 13, 59]) (by kernel_rfl)⟩ hS
    · clear hS; intro KK1 k1 hK1 hS
      refine reg ?_
      refine st tbOk 3 [0, 1, 2, 22] (L' := [(0, .slice ao1 p_l.length cp1), (1, .slice ao2 kept.length cp2), (2, .slice ao3 files.length cp3), (22, .bool (!z2))]) hf (by kernel_rfl) ?_
      clear hf; clear a; intro a hf
      rcases Bool.eq_false_or_eq_true (!z2) with hb2 | hb2
      · replace hS := of_t hb2 hS
        replace hf := Fr.cast (L' := [(0, .slice ao1 p_l.length cp1), (1, .slice ao2 kept.length cp2), (2, .slice ao3 files.length cp3), (22, .bool true)]) hf (by rw [hb2])
        refine st tbOk 9 [0, 1, 2, 31] (L' := [(0, .slice ao1 p_l.length cp1), (1, .slice ao2 kept.length cp2), (2, .slice ao3 files.length cp3), (31, .bool true)]) hf (by kernel_rfl) ?_
        clear hf; clear a; intro a hf
        refine wpList_nil ?_
        exact hK1 true _ _ ⟨_, hs.sel [0, 1, 2] rfl rfl, hf.keep (ks := [0, 1, 2, 31]) (by kernel_rfl)⟩ hS
      · replace hS := of_f hb2 hS
        replace hf := Fr.cast (L' := [(0, .slice ao1 p_l.length cp1), (1, .slice ao2 kept.length cp2), (2, .slice ao3 files.length cp3), (22, .bool false)]) hf (by rw [hb2])
        refine st tbOk 5 [0, 1, 2, 27] (L' := [(0, .slice ao1 p_l.length cp1), (1, .slice ao2 kept.length cp2), (2, .slice ao3 files.length cp3), (27, .bool (decide (((p_l.length : Nat) : Int) > 20)))]) hf (by kernel_rfl) ?_
        clear hf; clear a; intro a hf
        rcases Bool.eq_false_or_eq_true (decide (((p_l.length : Nat) : Int) > 20)) with hb3 | hb3
        · replace hS := of_t hb3 hS
          replace hf := Fr.cast (L' := [(0, .slice ao1 p_l.length cp1), (1, .slice ao2 kept.length cp2), (2, .slice ao3 files.length cp3), (27, .bool true)]) hf (by rw [hb3])
          refine st tbOk 4 [0, 1, 2, 31] (L' := [(0, .slice ao1 p_l.length cp1), (1, .slice ao2 kept.length cp2), (2, .slice ao3 files.length cp3), (31, .bool true)]) hf (by kernel_rfl) ?_
          clear hf; clear a; intro a hf
          refine wpList_nil ?_
          exact hK1 true _ _ ⟨_, hs.sel [0, 1, 2] rfl rfl, hf.keep (ks := [0, 1, 2, 31]) (by kernel_rfl)⟩ hS
        · replace hS := of_f hb3 hS
          replace hf := Fr.cast (L' := [(0, .slice ao1 p_l.length cp1), (1, .slice ao2 kept.length cp2), (2, .slice ao3 files.length cp3), (27, .bool false)]) hf (by rw [hb3])
          refine st tbOk 4 [0, 1, 2, 31] (L' := [(0, .slice ao1 p_l.length cp1), (1, .slice ao2 kept.length cp2), (2, .slice ao3 files.length cp3), (31, .bool (decide (((kept.length : Nat) : Int) > 6000)))]) hf (by kernel_rfl) ?_
          clear hf; clear a; intro a hf
          refine wpList_nil ?_
          exact hK1 (decide (((kept.length : Nat) : Int) > 6000)) _ _ ⟨_, hs.sel [0, 1, 2] rfl rfl, hf.keep (ks := [0, 1, 2, 31]) (by kernel_rfl)⟩ hS

end Dm
