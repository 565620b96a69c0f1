/-
  The walk of the law SymbolsPuts; printed by a program of this repo. No condition.
-/
import Derived.Test.YtmocofbneblccaaWT
import Derived.Test.YtmocofbneblccaaW10
import Derived.Test.YtmocofbneblccaaW11
namespace Dm
open Go Go.RowKit Go.Proofs

set_option maxHeartbeats 4000000 in
theorem law06_SymbolsPuts_ok {w : World} {F : SH} {p_s : Int × Int × Int × Int × Int × Int}  (hs : Sep w F (blks []) w F []) {r : Bool} (hS : law06_SymbolsPuts p_s = some r) :
    Calls Try.prog 8 [.agg #[.int .u32 p_s.1, .int .u8 p_s.2.1, .int .u8 p_s.2.2.1, .int .u16 p_s.2.2.2.1, .int .u64 p_s.2.2.2.2.1, .int .u64 p_s.2.2.2.2.2]].toArray w (Gives (fun u w' => ∃ (F' : SH), u = .bool r ∧ Sep w F (blks []) w' F' [])) := by
  generalize (blks []) = R at hs ⊢
  unfold law06_SymbolsPuts at hS
  refine fn_ok (vs := [.agg #[.int .u32 p_s.1, .int .u8 p_s.2.1, .int .u8 p_s.2.2.1, .int .u16 p_s.2.2.2.1, .int .u64 p_s.2.2.2.2.1, .int .u64 p_s.2.2.2.2.2]]) Try.func8 rfl 40 Try.ntmps8 (Nat.le_of_ble_eq_true rfl) ?_
  intro a hf
  replace hf := Fr.cast (L' := [(0, .agg #[.int .u32 p_s.1, .int .u8 p_s.2.1, .int .u8 p_s.2.2.1, .int .u16 p_s.2.2.2.1, .int .u64 p_s.2.2.2.2.1, .int .u64 p_s.2.2.2.2.2])]) hf (by kernel_rfl)
  refine sq ?_
  refine reg ?_
  refine bx (T := 65) [.int .u32 p_s.1, .int .u8 p_s.2.1, .int .u8 p_s.2.2.1, .int .u16 p_s.2.2.2.1, .int .u64 p_s.2.2.2.2.1, .int .u64 p_s.2.2.2.2.2] (v := .agg #[.int .u32 p_s.1, .int .u8 p_s.2.1, .int .u8 p_s.2.2.1, .int .u16 p_s.2.2.2.1, .int .u64 p_s.2.2.2.2.1, .int .u64 p_s.2.2.2.2.2]) rfl (by kernel_rfl) hf (by kernel_rfl) (by kernel_rfl) (by kernel_rfl) ?_
  clear hf; clear a; intro w1 a hb hx _ hf
  replace hs : Sep w F R w1 F [.box w.heap.size 65 [.int .u32 p_s.1, .int .u8 p_s.2.1, .int .u8 p_s.2.2.1, .int .u16 p_s.2.2.2.1, .int .u64 p_s.2.2.2.2.1, .int .u64 p_s.2.2.2.2.2]] := hs.newBox hb hx
  clear hb hx
  replace hf := Fr.keep (ks := [1]) (L' := [(1, .pointer (some ⟨w.heap.size, 0, none⟩))]) hf (by kernel_rfl)
  refine st tbOk 1 [1] (L' := [(1, .pointer (some ⟨w.heap.size, 0, none⟩))]) hf (by kernel_rfl) ?_
  clear hf; clear a; intro a hf
  refine wpList_nil ?_
  refine sq ?_
  refine reg ?_
  have hT := of_bd hS; clear hS; obtain ⟨z1, hz1, hS⟩ := hT
  refine clV ent25 (vs := []) (caps := []) hf (by kernel_rfl) (by kernel_rfl) (by kernel_rfl) (by kernel_rfl) (law06_awake_ok (hs.enter [] rfl rfl) hz1) ?_
  clear hf; clear a; intro v w2 a hT hf; obtain ⟨F1, rfl, hr⟩ := hT
  replace hs : Sep w F R w2 F1 [.box w.heap.size 65 [.int .u32 p_s.1, .int .u8 p_s.2.1, .int .u8 p_s.2.2.1, .int .u16 p_s.2.2.2.1, .int .u64 p_s.2.2.2.2.1, .int .u64 p_s.2.2.2.2.2]] := hs.back [] [0] rfl rfl rfl rfl hr
  clear hr
  replace hf := Fr.keep (ks := [1, 4]) (L' := [(1, .pointer (some ⟨w.heap.size, 0, none⟩)), (4, .bool z1)]) hf (by kernel_rfl)
  refine st tbOk 1 [1, 3] (L' := [(1, .pointer (some ⟨w.heap.size, 0, none⟩)), (3, .bool z1)]) hf (by kernel_rfl) ?_
  clear hf; clear a; intro a hf
  refine wpList_nil ?_
  refine sq ?_
  refine sq ?_
  refine reg ?_
  refine st tbOk 2 [1, 6] (L' := [(1, .pointer (some ⟨w.heap.size, 0, none⟩)), (6, .bool (!z1))]) hf (by kernel_rfl) ?_
  clear hf; clear a; intro a hf
  refine wpList_nil ?_
  refine cnd (b := !z1) hf (by kernel_rfl) (fun hb1 => ?_) (fun hb1 => ?_)
  · replace hS := of_t hb1 hS
    refine sq ?_
    refine reg ?_
    refine st tbOk 1 [2] (L' := [(2, .bool false)]) hf (by kernel_rfl) ?_
    clear hf; clear a; intro a hf
    refine wpList_nil ?_
    have hr := Option.some.inj hS; subst hr
    refine wp_ret ?_
    exact ret_ok hf (vs := [.bool false]) (by kernel_rfl) ⟨_, rfl, hs.sel [] rfl rfl⟩
  · replace hS := of_f hb1 hS
    refine wp_skip ?_
    refine sq ?_
    refine ctj (fun (s1 : Bool) (a : Act) (w' : World) => ∃ (F2 : SH), Sep w F R w' F2 [] ∧ Fr 40 [(2, .bool s1)] a) hS ?_ ?_
    · clear hS hf hs; clear a; intro s1 a w12 hM hS
      obtain ⟨F2, hs, hf⟩ := hM
      have hr := Option.some.inj hS; subst hr
      refine wp_ret ?_
      exact ret_ok hf (vs := [.bool s1]) (by kernel_rfl) ⟨_, rfl, hs.sel [] rfl rfl⟩
    · clear hS; intro KK1 k1 hK1 hS
      have hT := of_bd hS; clear hS; obtain ⟨z2, hz2, hS⟩ := hT
      have hT := of_bd hS; clear hS; obtain ⟨z3, hz3, hS⟩ := hT
      rcases Bool.eq_false_or_eq_true ((toStr z2) == (toStr z3)) with hb2 | hb2
      · replace hS := of_t hb2 hS
        have hT := of_bd hS; clear hS; obtain ⟨z4, hz4, hS⟩ := hT
        rcases Bool.eq_false_or_eq_true (z4 == (IntKind.i64.wrap (Int.tdiv (IntKind.i64.wrap p_s.2.1) 16))) with hb3 | hb3
        · replace hS := of_t hb3 hS
          have hT := of_bd hS; clear hS; obtain ⟨z5, hz5, hS⟩ := hT
          rcases Bool.eq_false_or_eq_true (z5 == (Int.tmod (IntKind.i64.wrap p_s.2.1) 16)) with hb4 | hb4
          · replace hS := of_t hb4 hS
            have hT := of_bd hS; clear hS; obtain ⟨z6, hz6, hS⟩ := hT
            have hs0 := hs
            refine regF 34 [fun u uw => u = .agg #[.int .u32 p_s.1, .int .u8 p_s.2.1, .int .u8 p_s.2.2.1, .int .u16 p_s.2.2.2.1, .int .u64 p_s.2.2.2.2.1, .int .u64 p_s.2.2.2.2.2],
    fun u uw => ∃ (ao2 : Option Addr) (cp2 : Nat) (F' : SH), u = .slice ao2 z2.length cp2 ∧ Sep w2 F1 noR uw F' [.row 5 (tI .u8) (.slice ao2 z2.length cp2) z2],
    fun u uw => u = strV (toStr z2),
    fun u uw => u = .agg #[.int .u32 p_s.1, .int .u8 p_s.2.1, .int .u8 p_s.2.2.1, .int .u16 p_s.2.2.2.1, .int .u64 p_s.2.2.2.2.1, .int .u64 p_s.2.2.2.2.2],
    fun u uw => ∃ (ao4 : Option Addr) (cp4 : Nat) (F' : SH), u = .slice ao4 z3.length cp4 ∧ Sep w2 F1 noR uw F' [.row 5 (tI .u8) (.slice ao4 z3.length cp4) z3],
    fun u uw => u = strV (toStr z3),
    fun u uw => u = .bool ((toStr z2) == (toStr z3)),
    fun u uw => u = .bool ((toStr z2) == (toStr z3)),
    fun u uw => u = .agg #[.int .u32 p_s.1, .int .u8 p_s.2.1, .int .u8 p_s.2.2.1, .int .u16 p_s.2.2.2.1, .int .u64 p_s.2.2.2.2.1, .int .u64 p_s.2.2.2.2.2],
    fun u uw => u = .int .i64 z4,
    fun u uw => u = .pointer (some ⟨w.heap.size, 1, none⟩),
    fun u uw => u = .int .u8 p_s.2.1,
    fun u uw => u = .int .i64 (IntKind.i64.wrap p_s.2.1),
    fun u uw => u = .int .i64 (IntKind.i64.wrap (Int.tdiv (IntKind.i64.wrap p_s.2.1) 16)),
    fun u uw => u = .bool (z4 == (IntKind.i64.wrap (Int.tdiv (IntKind.i64.wrap p_s.2.1) 16))),
    fun u uw => u = .bool (z4 == (IntKind.i64.wrap (Int.tdiv (IntKind.i64.wrap p_s.2.1) 16))),
    fun u uw => u = .bool (z4 == (IntKind.i64.wrap (Int.tdiv (IntKind.i64.wrap p_s.2.1) 16))),
    fun u uw => u = .agg #[.int .u32 p_s.1, .int .u8 p_s.2.1, .int .u8 p_s.2.2.1, .int .u16 p_s.2.2.2.1, .int .u64 p_s.2.2.2.2.1, .int .u64 p_s.2.2.2.2.2],
    fun u uw => u = .int .i64 z5,
    fun u uw => u = .pointer (some ⟨w.heap.size, 1, none⟩),
    fun u uw => u = .int .u8 p_s.2.1,
    fun u uw => u = .int .i64 (IntKind.i64.wrap p_s.2.1),
    fun u uw => u = .int .i64 (Int.tmod (IntKind.i64.wrap p_s.2.1) 16),
    fun u uw => u = .bool (z5 == (Int.tmod (IntKind.i64.wrap p_s.2.1) 16)),
    fun u uw => u = .bool (z5 == (Int.tmod (IntKind.i64.wrap p_s.2.1) 16)),
    fun u uw => u = .bool (z5 == (Int.tmod (IntKind.i64.wrap p_s.2.1) 16)),
    fun u uw => u = .agg #[.int .u32 p_s.1, .int .u8 p_s.2.1, .int .u8 p_s.2.2.1, .int .u16 p_s.2.2.2.1, .int .u64 p_s.2.2.2.2.1, .int .u64 p_s.2.2.2.2.2],
    fun u uw => u = .bool z6,
    fun u uw => u = .pointer (some ⟨w.heap.size, 3, none⟩),
    fun u uw => u = .int .u16 p_s.2.2.2.1,
    fun u uw => u = .bool (decide (p_s.2.2.2.1 > 0)),
    fun u uw => u = .bool (z6 == (decide (p_s.2.2.2.1 > 0))),
    fun u uw => u = .bool (z6 == (decide (p_s.2.2.2.1 > 0))),
    fun u uw => u = .bool (z6 == (decide (p_s.2.2.2.1 > 0)))] mixed (Fr.keep (ks := [1, 6]) (L' := [(1, .pointer (some ⟨w.heap.size, 0, none⟩)), (6, .bool (!z1))]) hf (by kernel_rfl)) (by kernel_rfl) rfl ?_ ?_ ?_
            · exact ⟨fun _ _ _ h _ => h, fun _ _ _ ⟨ao2, cp2, F', e, h⟩ hx => ⟨ao2, cp2, F', e, h.ext hx⟩, fun _ _ _ h _ => h, fun _ _ _ h _ => h, fun _ _ _ ⟨ao4, cp4, F', e, h⟩ hx => ⟨ao4, cp4, F', e, h.ext hx⟩, fun _ _ _ h _ => h, fun _ _ _ h _ => h, fun _ _ _ h _ => h, fun _ _ _ h _ => h, fun _ _ _ h _ => h, fun _ _ _ h _ => h, fun _ _ _ h _ => h, fun _ _ _ h _ => h, fun _ _ _ h _ => h, fun _ _ _ h _ => h, fun _ _ _ h _ => h, fun _ _ _ h _ => h, fun _ _ _ h _ => h, fun _ _ _ h _ => h, fun _ _ _ h _ => h, fun _ _ _ h _ => h, fun _ _ _ h _ => h, fun _ _ _ h _ => h, fun _ _ _ h _ => h, fun _ _ _ h _ => h, fun _ _ _ h _ => h, fun _ _ _ h _ => h, fun _ _ _ h _ => h, fun _ _ _ h _ => h, fun _ _ _ h _ => h, fun _ _ _ h _ => h, fun _ _ _ h _ => h, fun _ _ _ h _ => h, fun _ _ _ h _ => h, trivial⟩
            · clear hS hf hs; clear a
              refine ⟨?_, ?_, ?_, ?_, ?_, ?_, ?_, ?_, ?_, ?_, ?_, ?_, ?_, ?_, ?_, ?_, ?_, ?_, ?_, ?_, ?_, ?_, ?_, ?_, ?_, ?_, ?_, ?_, ?_, ?_, ?_, ?_, ?_, ?_, trivial⟩
              · intro a wf hX hf hd
                clear hd
                have hs : Sep wf (star F1 w2 wf) noR wf (star F1 w2 wf) [] := hs0.fstart hX [] rfl rfl
                refine ldC tbOk (T := 65) ((hs0.cbx 0 rfl).mono hX.le) (LeH.refl _) 0 (.agg #[.int .u32 p_s.1, .int .u8 p_s.2.1, .int .u8 p_s.2.2.1, .int .u16 p_s.2.2.2.1, .int .u64 p_s.2.2.2.2.1, .int .u64 p_s.2.2.2.2.2]) hf (by kernel_rfl) (by kernel_rfl) (by kernel_rfl) (by kernel_rfl) ?_
                clear hf; clear a; intro a hf
                exact fq_ok (d := 7) rfl hf (hs.ex fun _ h => h) hf.1
              · intro a wf hX hf hd
                have e_7 : a.tmps.getD 7 undef = .agg #[.int .u32 p_s.1, .int .u8 p_s.2.1, .int .u8 p_s.2.2.1, .int .u16 p_s.2.2.2.1, .int .u64 p_s.2.2.2.2.1, .int .u64 p_s.2.2.2.2.2] := hd 0 7 (by kernel_rfl) (by kernel_rfl)
                replace hf : Fr 40 [(7, .agg #[.int .u32 p_s.1, .int .u8 p_s.2.1, .int .u8 p_s.2.2.1, .int .u16 p_s.2.2.2.1, .int .u64 p_s.2.2.2.2.1, .int .u64 p_s.2.2.2.2.2]), (1, .pointer (some ⟨w.heap.size, 0, none⟩)), (6, .bool (!z1))] a := ⟨e_7, hf⟩; clear e_7
                clear hd
                have hs : Sep wf (star F1 w2 wf) noR wf (star F1 w2 wf) [] := hs0.fstart hX [] rfl rfl
                refine clV ent26 (vs := [.agg #[.int .u32 p_s.1, .int .u8 p_s.2.1, .int .u8 p_s.2.2.1, .int .u16 p_s.2.2.2.1, .int .u64 p_s.2.2.2.2.1, .int .u64 p_s.2.2.2.2.2]]) (caps := []) hf (by kernel_rfl) (by kernel_rfl) (by kernel_rfl) (by kernel_rfl) (symbols_Put_ok (p_s := (p_s.1, p_s.2.1, p_s.2.2.1, p_s.2.2.2.1, p_s.2.2.2.2.1, p_s.2.2.2.2.2)) (hs.enter [] rfl rfl) hz2) ?_
                clear hf; clear a; intro v w3 a hT hf; obtain ⟨ao1, cp1, F3, rfl, hr⟩ := hT
                replace hs : Sep wf (star F1 w2 wf) noR w3 F3 [.row 5 (tI .u8) (.slice ao1 z2.length cp1) z2] := hs.back [] [] rfl rfl rfl rfl hr
                clear hr
                exact fq_ok (d := 8) rfl hf (hs.ex fun _ h => h) ⟨ao1, cp1, _, hf.1, (hs.sel [0] rfl rfl).rebase hX⟩
              · intro a wf hX hf hd
                obtain ⟨ao2, cp2, F_8, e_8, h_8⟩ : ∃ (ao2 : Option Addr) (cp2 : Nat) (F' : SH), a.tmps.getD 8 undef = .slice ao2 z2.length cp2 ∧ Sep w2 F1 noR wf F' [.row 5 (tI .u8) (.slice ao2 z2.length cp2) z2] := hd 1 8 (by kernel_rfl) (by kernel_rfl)
                replace hf : Fr 40 [(8, .slice ao2 z2.length cp2), (1, .pointer (some ⟨w.heap.size, 0, none⟩)), (6, .bool (!z1))] a := ⟨e_8, hf⟩; clear e_8
                clear hd
                have hs : Sep wf (star F1 w2 wf) noR wf (star F1 w2 wf) [] := hs0.fstart hX [] rfl rfl
                replace hs : Sep wf (star F1 w2 wf) noR wf (star F1 w2 wf) [.ro (tI .u8) (.slice ao2 z2.length cp2) z2] := hs.addStar h_8 0 rfl rfl
                clear h_8
                refine b2sR tbOk u22 u5 u9 (hs.raR 0 rfl) hf (by kernel_rfl) (by kernel_rfl) (by kernel_rfl) ?_
                clear hf; clear a; intro a hf
                exact fq_ok (d := 9) rfl hf (hs.ex fun _ h => h) hf.1
              · intro a wf hX hf hd
                clear hd
                have hs : Sep wf (star F1 w2 wf) noR wf (star F1 w2 wf) [] := hs0.fstart hX [] rfl rfl
                refine ldC tbOk (T := 65) ((hs0.cbx 0 rfl).mono hX.le) (LeH.refl _) 0 (.agg #[.int .u32 p_s.1, .int .u8 p_s.2.1, .int .u8 p_s.2.2.1, .int .u16 p_s.2.2.2.1, .int .u64 p_s.2.2.2.2.1, .int .u64 p_s.2.2.2.2.2]) hf (by kernel_rfl) (by kernel_rfl) (by kernel_rfl) (by kernel_rfl) ?_
                clear hf; clear a; intro a hf
                exact fq_ok (d := 10) rfl hf (hs.ex fun _ h => h) hf.1
              · intro a wf hX hf hd
                have e_10 : a.tmps.getD 10 undef = .agg #[.int .u32 p_s.1, .int .u8 p_s.2.1, .int .u8 p_s.2.2.1, .int .u16 p_s.2.2.2.1, .int .u64 p_s.2.2.2.2.1, .int .u64 p_s.2.2.2.2.2] := hd 3 10 (by kernel_rfl) (by kernel_rfl)
                replace hf : Fr 40 [(10, .agg #[.int .u32 p_s.1, .int .u8 p_s.2.1, .int .u8 p_s.2.2.1, .int .u16 p_s.2.2.2.1, .int .u64 p_s.2.2.2.2.1, .int .u64 p_s.2.2.2.2.2]), (1, .pointer (some ⟨w.heap.size, 0, none⟩)), (6, .bool (!z1))] a := ⟨e_10, hf⟩; clear e_10
                clear hd
                have hs : Sep wf (star F1 w2 wf) noR wf (star F1 w2 wf) [] := hs0.fstart hX [] rfl rfl
                refine clV ent27 (vs := [.agg #[.int .u32 p_s.1, .int .u8 p_s.2.1, .int .u8 p_s.2.2.1, .int .u16 p_s.2.2.2.1, .int .u64 p_s.2.2.2.2.1, .int .u64 p_s.2.2.2.2.2]]) (caps := []) hf (by kernel_rfl) (by kernel_rfl) (by kernel_rfl) (by kernel_rfl) (ref06_Put_ok (p_s := (p_s.1, p_s.2.1, p_s.2.2.1, p_s.2.2.2.1, p_s.2.2.2.2.1, p_s.2.2.2.2.2)) (hs.enter [] rfl rfl) hz3) ?_
                clear hf; clear a; intro v w4 a hT hf; obtain ⟨ao3, cp3, F4, rfl, hr⟩ := hT
                replace hs : Sep wf (star F1 w2 wf) noR w4 F4 [.row 5 (tI .u8) (.slice ao3 z3.length cp3) z3] := hs.back [] [] rfl rfl rfl rfl hr
                clear hr
                exact fq_ok (d := 11) rfl hf (hs.ex fun _ h => h) ⟨ao3, cp3, _, hf.1, (hs.sel [0] rfl rfl).rebase hX⟩
              · intro a wf hX hf hd
                obtain ⟨ao4, cp4, F_11, e_11, h_11⟩ : ∃ (ao4 : Option Addr) (cp4 : Nat) (F' : SH), a.tmps.getD 11 undef = .slice ao4 z3.length cp4 ∧ Sep w2 F1 noR wf F' [.row 5 (tI .u8) (.slice ao4 z3.length cp4) z3] := hd 4 11 (by kernel_rfl) (by kernel_rfl)
                replace hf : Fr 40 [(11, .slice ao4 z3.length cp4), (1, .pointer (some ⟨w.heap.size, 0, none⟩)), (6, .bool (!z1))] a := ⟨e_11, hf⟩; clear e_11
                clear hd
                have hs : Sep wf (star F1 w2 wf) noR wf (star F1 w2 wf) [] := hs0.fstart hX [] rfl rfl
                replace hs : Sep wf (star F1 w2 wf) noR wf (star F1 w2 wf) [.ro (tI .u8) (.slice ao4 z3.length cp4) z3] := hs.addStar h_11 0 rfl rfl
                clear h_11
                refine b2sR tbOk u22 u5 u9 (hs.raR 0 rfl) hf (by kernel_rfl) (by kernel_rfl) (by kernel_rfl) ?_
                clear hf; clear a; intro a hf
                exact fq_ok (d := 12) rfl hf (hs.ex fun _ h => h) hf.1
              · intro a wf hX hf hd
                have e_9 : a.tmps.getD 9 undef = strV (toStr z2) := hd 2 9 (by kernel_rfl) (by kernel_rfl)
                have e_12 : a.tmps.getD 12 undef = strV (toStr z3) := hd 5 12 (by kernel_rfl) (by kernel_rfl)
                replace hf : Fr 40 [(9, strV (toStr z2)), (12, strV (toStr z3)), (1, .pointer (some ⟨w.heap.size, 0, none⟩)), (6, .bool (!z1))] a := ⟨e_9, e_12, hf⟩; clear e_9 e_12
                clear hd
                have hs : Sep wf (star F1 w2 wf) noR wf (star F1 w2 wf) [] := hs0.fstart hX [] rfl rfl
                refine st tbOk 1 [13] (L' := [(13, .bool ((toStr z2) == (toStr z3)))]) hf (by kernel_rfl) ?_
                clear hf; clear a; intro a hf
                exact fq_ok (d := 13) rfl hf (hs.ex fun _ h => h) hf.1
              · intro a wf hX hf hd
                have e_13 : a.tmps.getD 13 undef = .bool ((toStr z2) == (toStr z3)) := hd 6 13 (by kernel_rfl) (by kernel_rfl)
                replace hf : Fr 40 [(13, .bool ((toStr z2) == (toStr z3))), (1, .pointer (some ⟨w.heap.size, 0, none⟩)), (6, .bool (!z1))] a := ⟨e_13, hf⟩; clear e_13
                clear hd
                have hs : Sep wf (star F1 w2 wf) noR wf (star F1 w2 wf) [] := hs0.fstart hX [] rfl rfl
                refine st tbOk 1 [14] (L' := [(14, .bool ((toStr z2) == (toStr z3)))]) hf (by kernel_rfl) ?_
                clear hf; clear a; intro a hf
                exact fq_ok (d := 14) rfl hf (hs.ex fun _ h => h) hf.1
              · intro a wf hX hf hd
                have e_14 : a.tmps.getD 14 undef = .bool ((toStr z2) == (toStr z3)) := hd 7 14 (by kernel_rfl) (by kernel_rfl)
                rw [hb2] at e_14
                replace hf : Fr 40 [(14, .bool true), (1, .pointer (some ⟨w.heap.size, 0, none⟩)), (6, .bool (!z1))] a := ⟨e_14, hf⟩; clear e_14
                clear hd
                have hs : Sep wf (star F1 w2 wf) noR wf (star F1 w2 wf) [] := hs0.fstart hX [] rfl rfl
                refine ldC tbOk (T := 65) ((hs0.cbx 0 rfl).mono hX.le) (LeH.refl _) 0 (.agg #[.int .u32 p_s.1, .int .u8 p_s.2.1, .int .u8 p_s.2.2.1, .int .u16 p_s.2.2.2.1, .int .u64 p_s.2.2.2.2.1, .int .u64 p_s.2.2.2.2.2]) hf (by kernel_rfl) (by kernel_rfl) (by kernel_rfl) (by kernel_rfl) ?_
                clear hf; clear a; intro a hf
                exact fq_ok (d := 15) rfl hf (hs.ex fun _ h => h) hf.1
              · intro a wf hX hf hd
                have e_15 : a.tmps.getD 15 undef = .agg #[.int .u32 p_s.1, .int .u8 p_s.2.1, .int .u8 p_s.2.2.1, .int .u16 p_s.2.2.2.1, .int .u64 p_s.2.2.2.2.1, .int .u64 p_s.2.2.2.2.2] := hd 8 15 (by kernel_rfl) (by kernel_rfl)
                have e_14 : a.tmps.getD 14 undef = .bool ((toStr z2) == (toStr z3)) := hd 7 14 (by kernel_rfl) (by kernel_rfl)
                rw [hb2] at e_14
                replace hf : Fr 40 [(15, .agg #[.int .u32 p_s.1, .int .u8 p_s.2.1, .int .u8 p_s.2.2.1, .int .u16 p_s.2.2.2.1, .int .u64 p_s.2.2.2.2.1, .int .u64 p_s.2.2.2.2.2]), (14, .bool true), (1, .pointer (some ⟨w.heap.size, 0, none⟩)), (6, .bool (!z1))] a := ⟨e_15, e_14, hf⟩; clear e_15 e_14
                clear hd
                have hs : Sep wf (star F1 w2 wf) noR wf (star F1 w2 wf) [] := hs0.fstart hX [] rfl rfl
                refine clV ent28 (vs := [.agg #[.int .u32 p_s.1, .int .u8 p_s.2.1, .int .u8 p_s.2.2.1, .int .u16 p_s.2.2.2.1, .int .u64 p_s.2.2.2.2.1, .int .u64 p_s.2.2.2.2.2]]) (caps := []) hf (by kernel_rfl) (by kernel_rfl) (by kernel_rfl) (by kernel_rfl) (symbols_Bind_ok (p_s := (p_s.1, p_s.2.1, p_s.2.2.1, p_s.2.2.2.1, p_s.2.2.2.2.1, p_s.2.2.2.2.2)) (hs.enter [] rfl rfl) hz4) ?_
                clear hf; clear a; intro v w5 a hT hf; obtain ⟨F5, rfl, hr⟩ := hT
                replace hs : Sep wf (star F1 w2 wf) noR w5 F5 [] := hs.back [] [] rfl rfl rfl rfl hr
                clear hr
                exact fq_ok (d := 16) rfl hf (hs.ex fun _ h => h) hf.1
              · intro a wf hX hf hd
                have e_14 : a.tmps.getD 14 undef = .bool ((toStr z2) == (toStr z3)) := hd 7 14 (by kernel_rfl) (by kernel_rfl)
                rw [hb2] at e_14
                replace hf : Fr 40 [(14, .bool true), (1, .pointer (some ⟨w.heap.size, 0, none⟩)), (6, .bool (!z1))] a := ⟨e_14, hf⟩; clear e_14
                clear hd
                have hs : Sep wf (star F1 w2 wf) noR wf (star F1 w2 wf) [] := hs0.fstart hX [] rfl rfl
                refine st tbOk 1 [17] (L' := [(17, .pointer (some ⟨w.heap.size, 1, none⟩))]) hf (by kernel_rfl) ?_
                clear hf; clear a; intro a hf
                exact fq_ok (d := 17) rfl hf (hs.ex fun _ h => h) hf.1
              · intro a wf hX hf hd
                have e_17 : a.tmps.getD 17 undef = .pointer (some ⟨w.heap.size, 1, none⟩) := hd 10 17 (by kernel_rfl) (by kernel_rfl)
                have e_14 : a.tmps.getD 14 undef = .bool ((toStr z2) == (toStr z3)) := hd 7 14 (by kernel_rfl) (by kernel_rfl)
                rw [hb2] at e_14
                replace hf : Fr 40 [(17, .pointer (some ⟨w.heap.size, 1, none⟩)), (14, .bool true), (1, .pointer (some ⟨w.heap.size, 0, none⟩)), (6, .bool (!z1))] a := ⟨e_17, e_14, hf⟩; clear e_17 e_14
                clear hd
                have hs : Sep wf (star F1 w2 wf) noR wf (star F1 w2 wf) [] := hs0.fstart hX [] rfl rfl
                refine ldC tbOk (T := 5) ((hs0.cbx 0 rfl).mono hX.le) (LeH.refl _) 1 (.int .u8 p_s.2.1) hf (by kernel_rfl) (by kernel_rfl) (by kernel_rfl) (by kernel_rfl) ?_
                clear hf; clear a; intro a hf
                exact fq_ok (d := 18) rfl hf (hs.ex fun _ h => h) hf.1
              · intro a wf hX hf hd
                have e_18 : a.tmps.getD 18 undef = .int .u8 p_s.2.1 := hd 11 18 (by kernel_rfl) (by kernel_rfl)
                have e_14 : a.tmps.getD 14 undef = .bool ((toStr z2) == (toStr z3)) := hd 7 14 (by kernel_rfl) (by kernel_rfl)
                rw [hb2] at e_14
                replace hf : Fr 40 [(18, .int .u8 p_s.2.1), (14, .bool true), (1, .pointer (some ⟨w.heap.size, 0, none⟩)), (6, .bool (!z1))] a := ⟨e_18, e_14, hf⟩; clear e_18 e_14
                clear hd
                have hs : Sep wf (star F1 w2 wf) noR wf (star F1 w2 wf) [] := hs0.fstart hX [] rfl rfl
                refine st tbOk 1 [19] (L' := [(19, .int .i64 (IntKind.i64.wrap p_s.2.1))]) hf (by kernel_rfl) ?_
                clear hf; clear a; intro a hf
                exact fq_ok (d := 19) rfl hf (hs.ex fun _ h => h) hf.1
              · intro a wf hX hf hd
                have e_19 : a.tmps.getD 19 undef = .int .i64 (IntKind.i64.wrap p_s.2.1) := hd 12 19 (by kernel_rfl) (by kernel_rfl)
                have e_14 : a.tmps.getD 14 undef = .bool ((toStr z2) == (toStr z3)) := hd 7 14 (by kernel_rfl) (by kernel_rfl)
                rw [hb2] at e_14
                replace hf : Fr 40 [(19, .int .i64 (IntKind.i64.wrap p_s.2.1)), (14, .bool true), (1, .pointer (some ⟨w.heap.size, 0, none⟩)), (6, .bool (!z1))] a := ⟨e_19, e_14, hf⟩; clear e_19 e_14
                clear hd
                have hs : Sep wf (star F1 w2 wf) noR wf (star F1 w2 wf) [] := hs0.fstart hX [] rfl rfl
                refine st tbOk 1 [20] (L' := [(20, .int .i64 (IntKind.i64.wrap (Int.tdiv (IntKind.i64.wrap p_s.2.1) 16)))]) hf (by kernel_rfl) ?_
                clear hf; clear a; intro a hf
                exact fq_ok (d := 20) rfl hf (hs.ex fun _ h => h) hf.1
              · intro a wf hX hf hd
                have e_16 : a.tmps.getD 16 undef = .int .i64 z4 := hd 9 16 (by kernel_rfl) (by kernel_rfl)
                have e_20 : a.tmps.getD 20 undef = .int .i64 (IntKind.i64.wrap (Int.tdiv (IntKind.i64.wrap p_s.2.1) 16)) := hd 13 20 (by kernel_rfl) (by kernel_rfl)
                have e_14 : a.tmps.getD 14 undef = .bool ((toStr z2) == (toStr z3)) := hd 7 14 (by kernel_rfl) (by kernel_rfl)
                rw [hb2] at e_14
                replace hf : Fr 40 [(16, .int .i64 z4), (20, .int .i64 (IntKind.i64.wrap (Int.tdiv (IntKind.i64.wrap p_s.2.1) 16))), (14, .bool true), (1, .pointer (some ⟨w.heap.size, 0, none⟩)), (6, .bool (!z1))] a := ⟨e_16, e_20, e_14, hf⟩; clear e_16 e_20 e_14
                clear hd
                have hs : Sep wf (star F1 w2 wf) noR wf (star F1 w2 wf) [] := hs0.fstart hX [] rfl rfl
                refine st tbOk 1 [21] (L' := [(21, .bool (z4 == (IntKind.i64.wrap (Int.tdiv (IntKind.i64.wrap p_s.2.1) 16))))]) hf (by kernel_rfl) ?_
                clear hf; clear a; intro a hf
                exact fq_ok (d := 21) rfl hf (hs.ex fun _ h => h) hf.1
              · intro a wf hX hf hd
                have e_14 : a.tmps.getD 14 undef = .bool ((toStr z2) == (toStr z3)) := hd 7 14 (by kernel_rfl) (by kernel_rfl)
                rw [hb2] at e_14
                have e_21 : a.tmps.getD 21 undef = .bool (z4 == (IntKind.i64.wrap (Int.tdiv (IntKind.i64.wrap p_s.2.1) 16))) := hd 14 21 (by kernel_rfl) (by kernel_rfl)
                replace hf : Fr 40 [(14, .bool true), (21, .bool (z4 == (IntKind.i64.wrap (Int.tdiv (IntKind.i64.wrap p_s.2.1) 16)))), (1, .pointer (some ⟨w.heap.size, 0, none⟩)), (6, .bool (!z1))] a := ⟨e_14, e_21, hf⟩; clear e_14 e_21
                clear hd
                have hs : Sep wf (star F1 w2 wf) noR wf (star F1 w2 wf) [] := hs0.fstart hX [] rfl rfl
                refine st tbOk 1 [22] (L' := [(22, .bool (z4 == (IntKind.i64.wrap (Int.tdiv (IntKind.i64.wrap p_s.2.1) 16))))]) hf (by kernel_rfl) ?_
                clear hf; clear a; intro a hf
                exact fq_ok (d := 22) rfl hf (hs.ex fun _ h => h) hf.1
              · intro a wf hX hf hd
                have e_22 : a.tmps.getD 22 undef = .bool (z4 == (IntKind.i64.wrap (Int.tdiv (IntKind.i64.wrap p_s.2.1) 16))) := hd 15 22 (by kernel_rfl) (by kernel_rfl)
                replace hf : Fr 40 [(22, .bool (z4 == (IntKind.i64.wrap (Int.tdiv (IntKind.i64.wrap p_s.2.1) 16)))), (1, .pointer (some ⟨w.heap.size, 0, none⟩)), (6, .bool (!z1))] a := ⟨e_22, hf⟩; clear e_22
                clear hd
                have hs : Sep wf (star F1 w2 wf) noR wf (star F1 w2 wf) [] := hs0.fstart hX [] rfl rfl
                refine st tbOk 1 [23] (L' := [(23, .bool (z4 == (IntKind.i64.wrap (Int.tdiv (IntKind.i64.wrap p_s.2.1) 16))))]) hf (by kernel_rfl) ?_
                clear hf; clear a; intro a hf
                exact fq_ok (d := 23) rfl hf (hs.ex fun _ h => h) hf.1
              · intro a wf hX hf hd
                have e_23 : a.tmps.getD 23 undef = .bool (z4 == (IntKind.i64.wrap (Int.tdiv (IntKind.i64.wrap p_s.2.1) 16))) := hd 16 23 (by kernel_rfl) (by kernel_rfl)
                rw [hb3] at e_23
                replace hf : Fr 40 [(23, .bool true), (1, .pointer (some ⟨w.heap.size, 0, none⟩)), (6, .bool (!z1))] a := ⟨e_23, hf⟩; clear e_23
                clear hd
                have hs : Sep wf (star F1 w2 wf) noR wf (star F1 w2 wf) [] := hs0.fstart hX [] rfl rfl
                refine ldC tbOk (T := 65) ((hs0.cbx 0 rfl).mono hX.le) (LeH.refl _) 0 (.agg #[.int .u32 p_s.1, .int .u8 p_s.2.1, .int .u8 p_s.2.2.1, .int .u16 p_s.2.2.2.1, .int .u64 p_s.2.2.2.2.1, .int .u64 p_s.2.2.2.2.2]) hf (by kernel_rfl) (by kernel_rfl) (by kernel_rfl) (by kernel_rfl) ?_
                clear hf; clear a; intro a hf
                exact fq_ok (d := 24) rfl hf (hs.ex fun _ h => h) hf.1
              · intro a wf hX hf hd
                have e_24 : a.tmps.getD 24 undef = .agg #[.int .u32 p_s.1, .int .u8 p_s.2.1, .int .u8 p_s.2.2.1, .int .u16 p_s.2.2.2.1, .int .u64 p_s.2.2.2.2.1, .int .u64 p_s.2.2.2.2.2] := hd 17 24 (by kernel_rfl) (by kernel_rfl)
                have e_23 : a.tmps.getD 23 undef = .bool (z4 == (IntKind.i64.wrap (Int.tdiv (IntKind.i64.wrap p_s.2.1) 16))) := hd 16 23 (by kernel_rfl) (by kernel_rfl)
                rw [hb3] at e_23
                replace hf : Fr 40 [(24, .agg #[.int .u32 p_s.1, .int .u8 p_s.2.1, .int .u8 p_s.2.2.1, .int .u16 p_s.2.2.2.1, .int .u64 p_s.2.2.2.2.1, .int .u64 p_s.2.2.2.2.2]), (23, .bool true), (1, .pointer (some ⟨w.heap.size, 0, none⟩)), (6, .bool (!z1))] a := ⟨e_24, e_23, hf⟩; clear e_24 e_23
                clear hd
                have hs : Sep wf (star F1 w2 wf) noR wf (star F1 w2 wf) [] := hs0.fstart hX [] rfl rfl
                refine clV ent29 (vs := [.agg #[.int .u32 p_s.1, .int .u8 p_s.2.1, .int .u8 p_s.2.2.1, .int .u16 p_s.2.2.2.1, .int .u64 p_s.2.2.2.2.1, .int .u64 p_s.2.2.2.2.2]]) (caps := []) hf (by kernel_rfl) (by kernel_rfl) (by kernel_rfl) (by kernel_rfl) (symbols_Kind_ok (p_s := (p_s.1, p_s.2.1, p_s.2.2.1, p_s.2.2.2.1, p_s.2.2.2.2.1, p_s.2.2.2.2.2)) (hs.enter [] rfl rfl) hz5) ?_
                clear hf; clear a; intro v w6 a hT hf; obtain ⟨F6, rfl, hr⟩ := hT
                replace hs : Sep wf (star F1 w2 wf) noR w6 F6 [] := hs.back [] [] rfl rfl rfl rfl hr
                clear hr
                exact fq_ok (d := 25) rfl hf (hs.ex fun _ h => h) hf.1
              · intro a wf hX hf hd
                have e_23 : a.tmps.getD 23 undef = .bool (z4 == (IntKind.i64.wrap (Int.tdiv (IntKind.i64.wrap p_s.2.1) 16))) := hd 16 23 (by kernel_rfl) (by kernel_rfl)
                rw [hb3] at e_23
                replace hf : Fr 40 [(23, .bool true), (1, .pointer (some ⟨w.heap.size, 0, none⟩)), (6, .bool (!z1))] a := ⟨e_23, hf⟩; clear e_23
                clear hd
                have hs : Sep wf (star F1 w2 wf) noR wf (star F1 w2 wf) [] := hs0.fstart hX [] rfl rfl
                refine st tbOk 1 [26] (L' := [(26, .pointer (some ⟨w.heap.size, 1, none⟩))]) hf (by kernel_rfl) ?_
                clear hf; clear a; intro a hf
                exact fq_ok (d := 26) rfl hf (hs.ex fun _ h => h) hf.1
              · intro a wf hX hf hd
                have e_26 : a.tmps.getD 26 undef = .pointer (some ⟨w.heap.size, 1, none⟩) := hd 19 26 (by kernel_rfl) (by kernel_rfl)
                have e_23 : a.tmps.getD 23 undef = .bool (z4 == (IntKind.i64.wrap (Int.tdiv (IntKind.i64.wrap p_s.2.1) 16))) := hd 16 23 (by kernel_rfl) (by kernel_rfl)
                rw [hb3] at e_23
                replace hf : Fr 40 [(26, .pointer (some ⟨w.heap.size, 1, none⟩)), (23, .bool true), (1, .pointer (some ⟨w.heap.size, 0, none⟩)), (6, .bool (!z1))] a := ⟨e_26, e_23, hf⟩; clear e_26 e_23
                clear hd
                have hs : Sep wf (star F1 w2 wf) noR wf (star F1 w2 wf) [] := hs0.fstart hX [] rfl rfl
                refine ldC tbOk (T := 5) ((hs0.cbx 0 rfl).mono hX.le) (LeH.refl _) 1 (.int .u8 p_s.2.1) hf (by kernel_rfl) (by kernel_rfl) (by kernel_rfl) (by kernel_rfl) ?_
                clear hf; clear a; intro a hf
                exact fq_ok (d := 27) rfl hf (hs.ex fun _ h => h) hf.1
              · intro a wf hX hf hd
                have e_27 : a.tmps.getD 27 undef = .int .u8 p_s.2.1 := hd 20 27 (by kernel_rfl) (by kernel_rfl)
                have e_23 : a.tmps.getD 23 undef = .bool (z4 == (IntKind.i64.wrap (Int.tdiv (IntKind.i64.wrap p_s.2.1) 16))) := hd 16 23 (by kernel_rfl) (by kernel_rfl)
                rw [hb3] at e_23
                replace hf : Fr 40 [(27, .int .u8 p_s.2.1), (23, .bool true), (1, .pointer (some ⟨w.heap.size, 0, none⟩)), (6, .bool (!z1))] a := ⟨e_27, e_23, hf⟩; clear e_27 e_23
                clear hd
                have hs : Sep wf (star F1 w2 wf) noR wf (star F1 w2 wf) [] := hs0.fstart hX [] rfl rfl
                refine st tbOk 1 [28] (L' := [(28, .int .i64 (IntKind.i64.wrap p_s.2.1))]) hf (by kernel_rfl) ?_
                clear hf; clear a; intro a hf
                exact fq_ok (d := 28) rfl hf (hs.ex fun _ h => h) hf.1
              · intro a wf hX hf hd
                have e_28 : a.tmps.getD 28 undef = .int .i64 (IntKind.i64.wrap p_s.2.1) := hd 21 28 (by kernel_rfl) (by kernel_rfl)
                have e_23 : a.tmps.getD 23 undef = .bool (z4 == (IntKind.i64.wrap (Int.tdiv (IntKind.i64.wrap p_s.2.1) 16))) := hd 16 23 (by kernel_rfl) (by kernel_rfl)
                rw [hb3] at e_23
                replace hf : Fr 40 [(28, .int .i64 (IntKind.i64.wrap p_s.2.1)), (23, .bool true), (1, .pointer (some ⟨w.heap.size, 0, none⟩)), (6, .bool (!z1))] a := ⟨e_28, e_23, hf⟩; clear e_28 e_23
                clear hd
                have hs : Sep wf (star F1 w2 wf) noR wf (star F1 w2 wf) [] := hs0.fstart hX [] rfl rfl
                refine st tbOk 1 [29] (L' := [(29, .int .i64 (Int.tmod (IntKind.i64.wrap p_s.2.1) 16))]) hf (by kernel_rfl) ?_
                clear hf; clear a; intro a hf
                exact fq_ok (d := 29) rfl hf (hs.ex fun _ h => h) hf.1
              · intro a wf hX hf hd
                have e_25 : a.tmps.getD 25 undef = .int .i64 z5 := hd 18 25 (by kernel_rfl) (by kernel_rfl)
                have e_29 : a.tmps.getD 29 undef = .int .i64 (Int.tmod (IntKind.i64.wrap p_s.2.1) 16) := hd 22 29 (by kernel_rfl) (by kernel_rfl)
                have e_23 : a.tmps.getD 23 undef = .bool (z4 == (IntKind.i64.wrap (Int.tdiv (IntKind.i64.wrap p_s.2.1) 16))) := hd 16 23 (by kernel_rfl) (by kernel_rfl)
                rw [hb3] at e_23
                replace hf : Fr 40 [(25, .int .i64 z5), (29, .int .i64 (Int.tmod (IntKind.i64.wrap p_s.2.1) 16)), (23, .bool true), (1, .pointer (some ⟨w.heap.size, 0, none⟩)), (6, .bool (!z1))] a := ⟨e_25, e_29, e_23, hf⟩; clear e_25 e_29 e_23
                clear hd
                have hs : Sep wf (star F1 w2 wf) noR wf (star F1 w2 wf) [] := hs0.fstart hX [] rfl rfl
                refine st tbOk 1 [30] (L' := [(30, .bool (z5 == (Int.tmod (IntKind.i64.wrap p_s.2.1) 16)))]) hf (by kernel_rfl) ?_
                clear hf; clear a; intro a hf
                exact fq_ok (d := 30) rfl hf (hs.ex fun _ h => h) hf.1
              · intro a wf hX hf hd
                have e_23 : a.tmps.getD 23 undef = .bool (z4 == (IntKind.i64.wrap (Int.tdiv (IntKind.i64.wrap p_s.2.1) 16))) := hd 16 23 (by kernel_rfl) (by kernel_rfl)
                rw [hb3] at e_23
                have e_30 : a.tmps.getD 30 undef = .bool (z5 == (Int.tmod (IntKind.i64.wrap p_s.2.1) 16)) := hd 23 30 (by kernel_rfl) (by kernel_rfl)
                replace hf : Fr 40 [(23, .bool true), (30, .bool (z5 == (Int.tmod (IntKind.i64.wrap p_s.2.1) 16))), (1, .pointer (some ⟨w.heap.size, 0, none⟩)), (6, .bool (!z1))] a := ⟨e_23, e_30, hf⟩; clear e_23 e_30
                clear hd
                have hs : Sep wf (star F1 w2 wf) noR wf (star F1 w2 wf) [] := hs0.fstart hX [] rfl rfl
                refine st tbOk 1 [31] (L' := [(31, .bool (z5 == (Int.tmod (IntKind.i64.wrap p_s.2.1) 16)))]) hf (by kernel_rfl) ?_
                clear hf; clear a; intro a hf
                exact fq_ok (d := 31) rfl hf (hs.ex fun _ h => h) hf.1
              · intro a wf hX hf hd
                have e_31 : a.tmps.getD 31 undef = .bool (z5 == (Int.tmod (IntKind.i64.wrap p_s.2.1) 16)) := hd 24 31 (by kernel_rfl) (by kernel_rfl)
                replace hf : Fr 40 [(31, .bool (z5 == (Int.tmod (IntKind.i64.wrap p_s.2.1) 16))), (1, .pointer (some ⟨w.heap.size, 0, none⟩)), (6, .bool (!z1))] a := ⟨e_31, hf⟩; clear e_31
                clear hd
                have hs : Sep wf (star F1 w2 wf) noR wf (star F1 w2 wf) [] := hs0.fstart hX [] rfl rfl
                refine st tbOk 1 [32] (L' := [(32, .bool (z5 == (Int.tmod (IntKind.i64.wrap p_s.2.1) 16)))]) hf (by kernel_rfl) ?_
                clear hf; clear a; intro a hf
                exact fq_ok (d := 32) rfl hf (hs.ex fun _ h => h) hf.1
              · intro a wf hX hf hd
                have e_32 : a.tmps.getD 32 undef = .bool (z5 == (Int.tmod (IntKind.i64.wrap p_s.2.1) 16)) := hd 25 32 (by kernel_rfl) (by kernel_rfl)
                rw [hb4] at e_32
                replace hf : Fr 40 [(32, .bool true), (1, .pointer (some ⟨w.heap.size, 0, none⟩)), (6, .bool (!z1))] a := ⟨e_32, hf⟩; clear e_32
                clear hd
                have hs : Sep wf (star F1 w2 wf) noR wf (star F1 w2 wf) [] := hs0.fstart hX [] rfl rfl
                refine ldC tbOk (T := 65) ((hs0.cbx 0 rfl).mono hX.le) (LeH.refl _) 0 (.agg #[.int .u32 p_s.1, .int .u8 p_s.2.1, .int .u8 p_s.2.2.1, .int .u16 p_s.2.2.2.1, .int .u64 p_s.2.2.2.2.1, .int .u64 p_s.2.2.2.2.2]) hf (by kernel_rfl) (by kernel_rfl) (by kernel_rfl) (by kernel_rfl) ?_
                clear hf; clear a; intro a hf
                exact fq_ok (d := 33) rfl hf (hs.ex fun _ h => h) hf.1
              · intro a wf hX hf hd
                have e_33 : a.tmps.getD 33 undef = .agg #[.int .u32 p_s.1, .int .u8 p_s.2.1, .int .u8 p_s.2.2.1, .int .u16 p_s.2.2.2.1, .int .u64 p_s.2.2.2.2.1, .int .u64 p_s.2.2.2.2.2] := hd 26 33 (by kernel_rfl) (by kernel_rfl)
                have e_32 : a.tmps.getD 32 undef = .bool (z5 == (Int.tmod (IntKind.i64.wrap p_s.2.1) 16)) := hd 25 32 (by kernel_rfl) (by kernel_rfl)
                rw [hb4] at e_32
                replace hf : Fr 40 [(33, .agg #[.int .u32 p_s.1, .int .u8 p_s.2.1, .int .u8 p_s.2.2.1, .int .u16 p_s.2.2.2.1, .int .u64 p_s.2.2.2.2.1, .int .u64 p_s.2.2.2.2.2]), (32, .bool true), (1, .pointer (some ⟨w.heap.size, 0, none⟩)), (6, .bool (!z1))] a := ⟨e_33, e_32, hf⟩; clear e_33 e_32
                clear hd
                have hs : Sep wf (star F1 w2 wf) noR wf (star F1 w2 wf) [] := hs0.fstart hX [] rfl rfl
                refine clV ent30 (vs := [.agg #[.int .u32 p_s.1, .int .u8 p_s.2.1, .int .u8 p_s.2.2.1, .int .u16 p_s.2.2.2.1, .int .u64 p_s.2.2.2.2.1, .int .u64 p_s.2.2.2.2.2]]) (caps := []) hf (by kernel_rfl) (by kernel_rfl) (by kernel_rfl) (by kernel_rfl) (symbols_Defined_ok (p_s := (p_s.1, p_s.2.1, p_s.2.2.1, p_s.2.2.2.1, p_s.2.2.2.2.1, p_s.2.2.2.2.2)) (hs.enter [] rfl rfl) hz6) ?_
                clear hf; clear a; intro v w7 a hT hf; obtain ⟨F7, rfl, hr⟩ := hT
                replace hs : Sep wf (star F1 w2 wf) noR w7 F7 [] := hs.back [] [] rfl rfl rfl rfl hr
                clear hr
                exact fq_ok (d := 34) rfl hf (hs.ex fun _ h => h) hf.1
              · intro a wf hX hf hd
                have e_32 : a.tmps.getD 32 undef = .bool (z5 == (Int.tmod (IntKind.i64.wrap p_s.2.1) 16)) := hd 25 32 (by kernel_rfl) (by kernel_rfl)
                rw [hb4] at e_32
                replace hf : Fr 40 [(32, .bool true), (1, .pointer (some ⟨w.heap.size, 0, none⟩)), (6, .bool (!z1))] a := ⟨e_32, hf⟩; clear e_32
                clear hd
                have hs : Sep wf (star F1 w2 wf) noR wf (star F1 w2 wf) [] := hs0.fstart hX [] rfl rfl
                refine st tbOk 1 [35] (L' := [(35, .pointer (some ⟨w.heap.size, 3, none⟩))]) hf (by kernel_rfl) ?_
                clear hf; clear a; intro a hf
                exact fq_ok (d := 35) rfl hf (hs.ex fun _ h => h) hf.1
              · intro a wf hX hf hd
                have e_35 : a.tmps.getD 35 undef = .pointer (some ⟨w.heap.size, 3, none⟩) := hd 28 35 (by kernel_rfl) (by kernel_rfl)
                have e_32 : a.tmps.getD 32 undef = .bool (z5 == (Int.tmod (IntKind.i64.wrap p_s.2.1) 16)) := hd 25 32 (by kernel_rfl) (by kernel_rfl)
                rw [hb4] at e_32
                replace hf : Fr 40 [(35, .pointer (some ⟨w.heap.size, 3, none⟩)), (32, .bool true), (1, .pointer (some ⟨w.heap.size, 0, none⟩)), (6, .bool (!z1))] a := ⟨e_35, e_32, hf⟩; clear e_35 e_32
                clear hd
                have hs : Sep wf (star F1 w2 wf) noR wf (star F1 w2 wf) [] := hs0.fstart hX [] rfl rfl
                refine ldC tbOk (T := 63) ((hs0.cbx 0 rfl).mono hX.le) (LeH.refl _) 3 (.int .u16 p_s.2.2.2.1) hf (by kernel_rfl) (by kernel_rfl) (by kernel_rfl) (by kernel_rfl) ?_
                clear hf; clear a; intro a hf
                exact fq_ok (d := 36) rfl hf (hs.ex fun _ h => h) hf.1
              · intro a wf hX hf hd
                have e_36 : a.tmps.getD 36 undef = .int .u16 p_s.2.2.2.1 := hd 29 36 (by kernel_rfl) (by kernel_rfl)
                have e_32 : a.tmps.getD 32 undef = .bool (z5 == (Int.tmod (IntKind.i64.wrap p_s.2.1) 16)) := hd 25 32 (by kernel_rfl) (by kernel_rfl)
                rw [hb4] at e_32
                replace hf : Fr 40 [(36, .int .u16 p_s.2.2.2.1), (32, .bool true), (1, .pointer (some ⟨w.heap.size, 0, none⟩)), (6, .bool (!z1))] a := ⟨e_36, e_32, hf⟩; clear e_36 e_32
                clear hd
                have hs : Sep wf (star F1 w2 wf) noR wf (star F1 w2 wf) [] := hs0.fstart hX [] rfl rfl
                refine st tbOk 1 [37] (L' := [(37, .bool (decide (p_s.2.2.2.1 > 0)))]) hf (by kernel_rfl) ?_
                clear hf; clear a; intro a hf
                exact fq_ok (d := 37) rfl hf (hs.ex fun _ h => h) hf.1
              · intro a wf hX hf hd
                have e_34 : a.tmps.getD 34 undef = .bool z6 := hd 27 34 (by kernel_rfl) (by kernel_rfl)
                have e_37 : a.tmps.getD 37 undef = .bool (decide (p_s.2.2.2.1 > 0)) := hd 30 37 (by kernel_rfl) (by kernel_rfl)
                have e_32 : a.tmps.getD 32 undef = .bool (z5 == (Int.tmod (IntKind.i64.wrap p_s.2.1) 16)) := hd 25 32 (by kernel_rfl) (by kernel_rfl)
                rw [hb4] at e_32
                replace hf : Fr 40 [(34, .bool z6), (37, .bool (decide (p_s.2.2.2.1 > 0))), (32, .bool true), (1, .pointer (some ⟨w.heap.size, 0, none⟩)), (6, .bool (!z1))] a := ⟨e_34, e_37, e_32, hf⟩; clear e_34 e_37 e_32
                clear hd
                have hs : Sep wf (star F1 w2 wf) noR wf (star F1 w2 wf) [] := hs0.fstart hX [] rfl rfl
                refine st tbOk 1 [38] (L' := [(38, .bool (z6 == (decide (p_s.2.2.2.1 > 0))))]) hf (by kernel_rfl) ?_
                clear hf; clear a; intro a hf
                exact fq_ok (d := 38) rfl hf (hs.ex fun _ h => h) hf.1
              · intro a wf hX hf hd
                have e_32 : a.tmps.getD 32 undef = .bool (z5 == (Int.tmod (IntKind.i64.wrap p_s.2.1) 16)) := hd 25 32 (by kernel_rfl) (by kernel_rfl)
                rw [hb4] at e_32
                have e_38 : a.tmps.getD 38 undef = .bool (z6 == (decide (p_s.2.2.2.1 > 0))) := hd 31 38 (by kernel_rfl) (by kernel_rfl)
                replace hf : Fr 40 [(32, .bool true), (38, .bool (z6 == (decide (p_s.2.2.2.1 > 0)))), (1, .pointer (some ⟨w.heap.size, 0, none⟩)), (6, .bool (!z1))] a := ⟨e_32, e_38, hf⟩; clear e_32 e_38
                clear hd
                have hs : Sep wf (star F1 w2 wf) noR wf (star F1 w2 wf) [] := hs0.fstart hX [] rfl rfl
                refine st tbOk 1 [39] (L' := [(39, .bool (z6 == (decide (p_s.2.2.2.1 > 0))))]) hf (by kernel_rfl) ?_
                clear hf; clear a; intro a hf
                exact fq_ok (d := 39) rfl hf (hs.ex fun _ h => h) hf.1
              · intro a wf hX hf hd
                have e_39 : a.tmps.getD 39 undef = .bool (z6 == (decide (p_s.2.2.2.1 > 0))) := hd 32 39 (by kernel_rfl) (by kernel_rfl)
                replace hf : Fr 40 [(39, .bool (z6 == (decide (p_s.2.2.2.1 > 0)))), (1, .pointer (some ⟨w.heap.size, 0, none⟩)), (6, .bool (!z1))] a := ⟨e_39, hf⟩; clear e_39
                clear hd
                have hs : Sep wf (star F1 w2 wf) noR wf (star F1 w2 wf) [] := hs0.fstart hX [] rfl rfl
                refine st tbOk 1 [2] (L' := [(2, .bool (z6 == (decide (p_s.2.2.2.1 > 0))))]) hf (by kernel_rfl) ?_
                clear hf; clear a; intro a hf
                exact fq_ok (d := 2) rfl hf (hs.ex fun _ h => h) hf.1
            · clear hf hs; clear a; intro a w8 hx hf hd
              have hs : Sep w F R w8 (star F1 w2 w8) [.box w.heap.size 65 [.int .u32 p_s.1, .int .u8 p_s.2.1, .int .u8 p_s.2.2.1, .int .u16 p_s.2.2.2.1, .int .u64 p_s.2.2.2.2.1, .int .u64 p_s.2.2.2.2.2]] := hs0.starX hx
              have e_2 : a.tmps.getD 2 undef = .bool (z6 == (decide (p_s.2.2.2.1 > 0))) := hd 33 2 (by kernel_rfl) (by kernel_rfl)
              clear hd hx
              clear hs0
              replace hf : Fr 40 [(2, .bool (z6 == (decide (p_s.2.2.2.1 > 0)))), (1, .pointer (some ⟨w.heap.size, 0, none⟩)), (6, .bool (!z1))] a := ⟨e_2, hf⟩
              clear e_2
              replace hs : Sep w F R w8 (star F1 w2 w8) [] := hs.sel [] rfl rfl
              replace hf := Fr.keep (ks := [2]) (L' := [(2, .bool (z6 == (decide (p_s.2.2.2.1 > 0))))]) hf (by kernel_rfl)
              refine wpList_nil ?_
              exact hK1 (z6 == (decide (p_s.2.2.2.1 > 0))) _ _ ⟨_, hs.sel [] rfl rfl, hf.keep (ks := [2]) (by kernel_rfl)⟩ hS
          · replace hS := of_f hb4 hS
            have hs0 := hs
            refine regF 34 [fun u uw => u = .agg #[.int .u32 p_s.1, .int .u8 p_s.2.1, .int .u8 p_s.2.2.1, .int .u16 p_s.2.2.2.1, .int .u64 p_s.2.2.2.2.1, .int .u64 p_s.2.2.2.2.2],
    fun u uw => ∃ (ao2 : Option Addr) (cp2 : Nat) (F' : SH), u = .slice ao2 z2.length cp2 ∧ Sep w2 F1 noR uw F' [.row 5 (tI .u8) (.slice ao2 z2.length cp2) z2],
    fun u uw => u = strV (toStr z2),
    fun u uw => u = .agg #[.int .u32 p_s.1, .int .u8 p_s.2.1, .int .u8 p_s.2.2.1, .int .u16 p_s.2.2.2.1, .int .u64 p_s.2.2.2.2.1, .int .u64 p_s.2.2.2.2.2],
    fun u uw => ∃ (ao4 : Option Addr) (cp4 : Nat) (F' : SH), u = .slice ao4 z3.length cp4 ∧ Sep w2 F1 noR uw F' [.row 5 (tI .u8) (.slice ao4 z3.length cp4) z3],
    fun u uw => u = strV (toStr z3),
    fun u uw => u = .bool ((toStr z2) == (toStr z3)),
    fun u uw => u = .bool ((toStr z2) == (toStr z3)),
    fun u uw => u = .agg #[.int .u32 p_s.1, .int .u8 p_s.2.1, .int .u8 p_s.2.2.1, .int .u16 p_s.2.2.2.1, .int .u64 p_s.2.2.2.2.1, .int .u64 p_s.2.2.2.2.2],
    fun u uw => u = .int .i64 z4,
    fun u uw => u = .pointer (some ⟨w.heap.size, 1, none⟩),
    fun u uw => u = .int .u8 p_s.2.1,
    fun u uw => u = .int .i64 (IntKind.i64.wrap p_s.2.1),
    fun u uw => u = .int .i64 (IntKind.i64.wrap (Int.tdiv (IntKind.i64.wrap p_s.2.1) 16)),
    fun u uw => u = .bool (z4 == (IntKind.i64.wrap (Int.tdiv (IntKind.i64.wrap p_s.2.1) 16))),
    fun u uw => u = .bool (z4 == (IntKind.i64.wrap (Int.tdiv (IntKind.i64.wrap p_s.2.1) 16))),
    fun u uw => u = .bool (z4 == (IntKind.i64.wrap (Int.tdiv (IntKind.i64.wrap p_s.2.1) 16))),
    fun u uw => u = .agg #[.int .u32 p_s.1, .int .u8 p_s.2.1, .int .u8 p_s.2.2.1, .int .u16 p_s.2.2.2.1, .int .u64 p_s.2.2.2.2.1, .int .u64 p_s.2.2.2.2.2],
    fun u uw => u = .int .i64 z5,
    fun u uw => u = .pointer (some ⟨w.heap.size, 1, none⟩),
    fun u uw => u = .int .u8 p_s.2.1,
    fun u uw => u = .int .i64 (IntKind.i64.wrap p_s.2.1),
    fun u uw => u = .int .i64 (Int.tmod (IntKind.i64.wrap p_s.2.1) 16),
    fun u uw => u = .bool (z5 == (Int.tmod (IntKind.i64.wrap p_s.2.1) 16)),
    fun u uw => u = .bool (z5 == (Int.tmod (IntKind.i64.wrap p_s.2.1) 16)),
    fun u uw => u = .bool (z5 == (Int.tmod (IntKind.i64.wrap p_s.2.1) 16)),
    fun u uw => u = undef,
    fun u uw => u = undef,
    fun u uw => u = undef,
    fun u uw => u = undef,
    fun u uw => u = undef,
    fun u uw => u = undef,
    fun u uw => u = .bool false,
    fun u uw => u = .bool false] mixed (Fr.keep (ks := [1, 6]) (L' := [(1, .pointer (some ⟨w.heap.size, 0, none⟩)), (6, .bool (!z1))]) hf (by kernel_rfl)) (by kernel_rfl) rfl ?_ ?_ ?_
            · exact ⟨fun _ _ _ h _ => h, fun _ _ _ ⟨ao2, cp2, F', e, h⟩ hx => ⟨ao2, cp2, F', e, h.ext hx⟩, fun _ _ _ h _ => h, fun _ _ _ h _ => h, fun _ _ _ ⟨ao4, cp4, F', e, h⟩ hx => ⟨ao4, cp4, F', e, h.ext hx⟩, fun _ _ _ h _ => h, fun _ _ _ h _ => h, fun _ _ _ h _ => h, fun _ _ _ h _ => h, fun _ _ _ h _ => h, fun _ _ _ h _ => h, fun _ _ _ h _ => h, fun _ _ _ h _ => h, fun _ _ _ h _ => h, fun _ _ _ h _ => h, fun _ _ _ h _ => h, fun _ _ _ h _ => h, fun _ _ _ h _ => h, fun _ _ _ h _ => h, fun _ _ _ h _ => h, fun _ _ _ h _ => h, fun _ _ _ h _ => h, fun _ _ _ h _ => h, fun _ _ _ h _ => h, fun _ _ _ h _ => h, fun _ _ _ h _ => h, fun _ _ _ h _ => h, fun _ _ _ h _ => h, fun _ _ _ h _ => h, fun _ _ _ h _ => h, fun _ _ _ h _ => h, fun _ _ _ h _ => h, fun _ _ _ h _ => h, fun _ _ _ h _ => h, trivial⟩
            · clear hS hf hs; clear a
              refine ⟨?_, ?_, ?_, ?_, ?_, ?_, ?_, ?_, ?_, ?_, ?_, ?_, ?_, ?_, ?_, ?_, ?_, ?_, ?_, ?_, ?_, ?_, ?_, ?_, ?_, ?_, ?_, ?_, ?_, ?_, ?_, ?_, ?_, ?_, trivial⟩
              · intro a wf hX hf hd
                clear hd
                have hs : Sep wf (star F1 w2 wf) noR wf (star F1 w2 wf) [] := hs0.fstart hX [] rfl rfl
                refine ldC tbOk (T := 65) ((hs0.cbx 0 rfl).mono hX.le) (LeH.refl _) 0 (.agg #[.int .u32 p_s.1, .int .u8 p_s.2.1, .int .u8 p_s.2.2.1, .int .u16 p_s.2.2.2.1, .int .u64 p_s.2.2.2.2.1, .int .u64 p_s.2.2.2.2.2]) hf (by kernel_rfl) (by kernel_rfl) (by kernel_rfl) (by kernel_rfl) ?_
                clear hf; clear a; intro a hf
                exact fq_ok (d := 7) rfl hf (hs.ex fun _ h => h) hf.1
              · intro a wf hX hf hd
                have e_7 : a.tmps.getD 7 undef = .agg #[.int .u32 p_s.1, .int .u8 p_s.2.1, .int .u8 p_s.2.2.1, .int .u16 p_s.2.2.2.1, .int .u64 p_s.2.2.2.2.1, .int .u64 p_s.2.2.2.2.2] := hd 0 7 (by kernel_rfl) (by kernel_rfl)
                replace hf : Fr 40 [(7, .agg #[.int .u32 p_s.1, .int .u8 p_s.2.1, .int .u8 p_s.2.2.1, .int .u16 p_s.2.2.2.1, .int .u64 p_s.2.2.2.2.1, .int .u64 p_s.2.2.2.2.2]), (1, .pointer (some ⟨w.heap.size, 0, none⟩)), (6, .bool (!z1))] a := ⟨e_7, hf⟩; clear e_7
                clear hd
                have hs : Sep wf (star F1 w2 wf) noR wf (star F1 w2 wf) [] := hs0.fstart hX [] rfl rfl
                refine clV ent26 (vs := [.agg #[.int .u32 p_s.1, .int .u8 p_s.2.1, .int .u8 p_s.2.2.1, .int .u16 p_s.2.2.2.1, .int .u64 p_s.2.2.2.2.1, .int .u64 p_s.2.2.2.2.2]]) (caps := []) hf (by kernel_rfl) (by kernel_rfl) (by kernel_rfl) (by kernel_rfl) (symbols_Put_ok (p_s := (p_s.1, p_s.2.1, p_s.2.2.1, p_s.2.2.2.1, p_s.2.2.2.2.1, p_s.2.2.2.2.2)) (hs.enter [] rfl rfl) hz2) ?_
                clear hf; clear a; intro v w3 a hT hf; obtain ⟨ao1, cp1, F3, rfl, hr⟩ := hT
                replace hs : Sep wf (star F1 w2 wf) noR w3 F3 [.row 5 (tI .u8) (.slice ao1 z2.length cp1) z2] := hs.back [] [] rfl rfl rfl rfl hr
                clear hr
                exact fq_ok (d := 8) rfl hf (hs.ex fun _ h => h) ⟨ao1, cp1, _, hf.1, (hs.sel [0] rfl rfl).rebase hX⟩
              · intro a wf hX hf hd
                obtain ⟨ao2, cp2, F_8, e_8, h_8⟩ : ∃ (ao2 : Option Addr) (cp2 : Nat) (F' : SH), a.tmps.getD 8 undef = .slice ao2 z2.length cp2 ∧ Sep w2 F1 noR wf F' [.row 5 (tI .u8) (.slice ao2 z2.length cp2) z2] := hd 1 8 (by kernel_rfl) (by kernel_rfl)
                replace hf : Fr 40 [(8, .slice ao2 z2.length cp2), (1, .pointer (some ⟨w.heap.size, 0, none⟩)), (6, .bool (!z1))] a := ⟨e_8, hf⟩; clear e_8
                clear hd
                have hs : Sep wf (star F1 w2 wf) noR wf (star F1 w2 wf) [] := hs0.fstart hX [] rfl rfl
                replace hs : Sep wf (star F1 w2 wf) noR wf (star F1 w2 wf) [.ro (tI .u8) (.slice ao2 z2.length cp2) z2] := hs.addStar h_8 0 rfl rfl
                clear h_8
                refine b2sR tbOk u22 u5 u9 (hs.raR 0 rfl) hf (by kernel_rfl) (by kernel_rfl) (by kernel_rfl) ?_
                clear hf; clear a; intro a hf
                exact fq_ok (d := 9) rfl hf (hs.ex fun _ h => h) hf.1
              · intro a wf hX hf hd
                clear hd
                have hs : Sep wf (star F1 w2 wf) noR wf (star F1 w2 wf) [] := hs0.fstart hX [] rfl rfl
                refine ldC tbOk (T := 65) ((hs0.cbx 0 rfl).mono hX.le) (LeH.refl _) 0 (.agg #[.int .u32 p_s.1, .int .u8 p_s.2.1, .int .u8 p_s.2.2.1, .int .u16 p_s.2.2.2.1, .int .u64 p_s.2.2.2.2.1, .int .u64 p_s.2.2.2.2.2]) hf (by kernel_rfl) (by kernel_rfl) (by kernel_rfl) (by kernel_rfl) ?_
                clear hf; clear a; intro a hf
                exact fq_ok (d := 10) rfl hf (hs.ex fun _ h => h) hf.1
              · intro a wf hX hf hd
                have e_10 : a.tmps.getD 10 undef = .agg #[.int .u32 p_s.1, .int .u8 p_s.2.1, .int .u8 p_s.2.2.1, .int .u16 p_s.2.2.2.1, .int .u64 p_s.2.2.2.2.1, .int .u64 p_s.2.2.2.2.2] := hd 3 10 (by kernel_rfl) (by kernel_rfl)
                replace hf : Fr 40 [(10, .agg #[.int .u32 p_s.1, .int .u8 p_s.2.1, .int .u8 p_s.2.2.1, .int .u16 p_s.2.2.2.1, .int .u64 p_s.2.2.2.2.1, .int .u64 p_s.2.2.2.2.2]), (1, .pointer (some ⟨w.heap.size, 0, none⟩)), (6, .bool (!z1))] a := ⟨e_10, hf⟩; clear e_10
                clear hd
                have hs : Sep wf (star F1 w2 wf) noR wf (star F1 w2 wf) [] := hs0.fstart hX [] rfl rfl
                refine clV ent27 (vs := [.agg #[.int .u32 p_s.1, .int .u8 p_s.2.1, .int .u8 p_s.2.2.1, .int .u16 p_s.2.2.2.1, .int .u64 p_s.2.2.2.2.1, .int .u64 p_s.2.2.2.2.2]]) (caps := []) hf (by kernel_rfl) (by kernel_rfl) (by kernel_rfl) (by kernel_rfl) (ref06_Put_ok (p_s := (p_s.1, p_s.2.1, p_s.2.2.1, p_s.2.2.2.1, p_s.2.2.2.2.1, p_s.2.2.2.2.2)) (hs.enter [] rfl rfl) hz3) ?_
                clear hf; clear a; intro v w4 a hT hf; obtain ⟨ao3, cp3, F4, rfl, hr⟩ := hT
                replace hs : Sep wf (star F1 w2 wf) noR w4 F4 [.row 5 (tI .u8) (.slice ao3 z3.length cp3) z3] := hs.back [] [] rfl rfl rfl rfl hr
                clear hr
                exact fq_ok (d := 11) rfl hf (hs.ex fun _ h => h) ⟨ao3, cp3, _, hf.1, (hs.sel [0] rfl rfl).rebase hX⟩
              · intro a wf hX hf hd
                obtain ⟨ao4, cp4, F_11, e_11, h_11⟩ : ∃ (ao4 : Option Addr) (cp4 : Nat) (F' : SH), a.tmps.getD 11 undef = .slice ao4 z3.length cp4 ∧ Sep w2 F1 noR wf F' [.row 5 (tI .u8) (.slice ao4 z3.length cp4) z3] := hd 4 11 (by kernel_rfl) (by kernel_rfl)
                replace hf : Fr 40 [(11, .slice ao4 z3.length cp4), (1, .pointer (some ⟨w.heap.size, 0, none⟩)), (6, .bool (!z1))] a := ⟨e_11, hf⟩; clear e_11
                clear hd
                have hs : Sep wf (star F1 w2 wf) noR wf (star F1 w2 wf) [] := hs0.fstart hX [] rfl rfl
                replace hs : Sep wf (star F1 w2 wf) noR wf (star F1 w2 wf) [.ro (tI .u8) (.slice ao4 z3.length cp4) z3] := hs.addStar h_11 0 rfl rfl
                clear h_11
                refine b2sR tbOk u22 u5 u9 (hs.raR 0 rfl) hf (by kernel_rfl) (by kernel_rfl) (by kernel_rfl) ?_
                clear hf; clear a; intro a hf
                exact fq_ok (d := 12) rfl hf (hs.ex fun _ h => h) hf.1
              · intro a wf hX hf hd
                have e_9 : a.tmps.getD 9 undef = strV (toStr z2) := hd 2 9 (by kernel_rfl) (by kernel_rfl)
                have e_12 : a.tmps.getD 12 undef = strV (toStr z3) := hd 5 12 (by kernel_rfl) (by kernel_rfl)
                replace hf : Fr 40 [(9, strV (toStr z2)), (12, strV (toStr z3)), (1, .pointer (some ⟨w.heap.size, 0, none⟩)), (6, .bool (!z1))] a := ⟨e_9, e_12, hf⟩; clear e_9 e_12
                clear hd
                have hs : Sep wf (star F1 w2 wf) noR wf (star F1 w2 wf) [] := hs0.fstart hX [] rfl rfl
                refine st tbOk 1 [13] (L' := [(13, .bool ((toStr z2) == (toStr z3)))]) hf (by kernel_rfl) ?_
                clear hf; clear a; intro a hf
                exact fq_ok (d := 13) rfl hf (hs.ex fun _ h => h) hf.1
              · intro a wf hX hf hd
                have e_13 : a.tmps.getD 13 undef = .bool ((toStr z2) == (toStr z3)) := hd 6 13 (by kernel_rfl) (by kernel_rfl)
                replace hf : Fr 40 [(13, .bool ((toStr z2) == (toStr z3))), (1, .pointer (some ⟨w.heap.size, 0, none⟩)), (6, .bool (!z1))] a := ⟨e_13, hf⟩; clear e_13
                clear hd
                have hs : Sep wf (star F1 w2 wf) noR wf (star F1 w2 wf) [] := hs0.fstart hX [] rfl rfl
                refine st tbOk 1 [14] (L' := [(14, .bool ((toStr z2) == (toStr z3)))]) hf (by kernel_rfl) ?_
                clear hf; clear a; intro a hf
                exact fq_ok (d := 14) rfl hf (hs.ex fun _ h => h) hf.1
              · intro a wf hX hf hd
                have e_14 : a.tmps.getD 14 undef = .bool ((toStr z2) == (toStr z3)) := hd 7 14 (by kernel_rfl) (by kernel_rfl)
                rw [hb2] at e_14
                replace hf : Fr 40 [(14, .bool true), (1, .pointer (some ⟨w.heap.size, 0, none⟩)), (6, .bool (!z1))] a := ⟨e_14, hf⟩; clear e_14
                clear hd
                have hs : Sep wf (star F1 w2 wf) noR wf (star F1 w2 wf) [] := hs0.fstart hX [] rfl rfl
                refine ldC tbOk (T := 65) ((hs0.cbx 0 rfl).mono hX.le) (LeH.refl _) 0 (.agg #[.int .u32 p_s.1, .int .u8 p_s.2.1, .int .u8 p_s.2.2.1, .int .u16 p_s.2.2.2.1, .int .u64 p_s.2.2.2.2.1, .int .u64 p_s.2.2.2.2.2]) hf (by kernel_rfl) (by kernel_rfl) (by kernel_rfl) (by kernel_rfl) ?_
                clear hf; clear a; intro a hf
                exact fq_ok (d := 15) rfl hf (hs.ex fun _ h => h) hf.1
              · intro a wf hX hf hd
                have e_15 : a.tmps.getD 15 undef = .agg #[.int .u32 p_s.1, .int .u8 p_s.2.1, .int .u8 p_s.2.2.1, .int .u16 p_s.2.2.2.1, .int .u64 p_s.2.2.2.2.1, .int .u64 p_s.2.2.2.2.2] := hd 8 15 (by kernel_rfl) (by kernel_rfl)
                have e_14 : a.tmps.getD 14 undef = .bool ((toStr z2) == (toStr z3)) := hd 7 14 (by kernel_rfl) (by kernel_rfl)
                rw [hb2] at e_14
                replace hf : Fr 40 [(15, .agg #[.int .u32 p_s.1, .int .u8 p_s.2.1, .int .u8 p_s.2.2.1, .int .u16 p_s.2.2.2.1, .int .u64 p_s.2.2.2.2.1, .int .u64 p_s.2.2.2.2.2]), (14, .bool true), (1, .pointer (some ⟨w.heap.size, 0, none⟩)), (6, .bool (!z1))] a := ⟨e_15, e_14, hf⟩; clear e_15 e_14
                clear hd
                have hs : Sep wf (star F1 w2 wf) noR wf (star F1 w2 wf) [] := hs0.fstart hX [] rfl rfl
                refine clV ent28 (vs := [.agg #[.int .u32 p_s.1, .int .u8 p_s.2.1, .int .u8 p_s.2.2.1, .int .u16 p_s.2.2.2.1, .int .u64 p_s.2.2.2.2.1, .int .u64 p_s.2.2.2.2.2]]) (caps := []) hf (by kernel_rfl) (by kernel_rfl) (by kernel_rfl) (by kernel_rfl) (symbols_Bind_ok (p_s := (p_s.1, p_s.2.1, p_s.2.2.1, p_s.2.2.2.1, p_s.2.2.2.2.1, p_s.2.2.2.2.2)) (hs.enter [] rfl rfl) hz4) ?_
                clear hf; clear a; intro v w5 a hT hf; obtain ⟨F5, rfl, hr⟩ := hT
                replace hs : Sep wf (star F1 w2 wf) noR w5 F5 [] := hs.back [] [] rfl rfl rfl rfl hr
                clear hr
                exact fq_ok (d := 16) rfl hf (hs.ex fun _ h => h) hf.1
              · intro a wf hX hf hd
                have e_14 : a.tmps.getD 14 undef = .bool ((toStr z2) == (toStr z3)) := hd 7 14 (by kernel_rfl) (by kernel_rfl)
                rw [hb2] at e_14
                replace hf : Fr 40 [(14, .bool true), (1, .pointer (some ⟨w.heap.size, 0, none⟩)), (6, .bool (!z1))] a := ⟨e_14, hf⟩; clear e_14
                clear hd
                have hs : Sep wf (star F1 w2 wf) noR wf (star F1 w2 wf) [] := hs0.fstart hX [] rfl rfl
                refine st tbOk 1 [17] (L' := [(17, .pointer (some ⟨w.heap.size, 1, none⟩))]) hf (by kernel_rfl) ?_
                clear hf; clear a; intro a hf
                exact fq_ok (d := 17) rfl hf (hs.ex fun _ h => h) hf.1
              · intro a wf hX hf hd
                have e_17 : a.tmps.getD 17 undef = .pointer (some ⟨w.heap.size, 1, none⟩) := hd 10 17 (by kernel_rfl) (by kernel_rfl)
                have e_14 : a.tmps.getD 14 undef = .bool ((toStr z2) == (toStr z3)) := hd 7 14 (by kernel_rfl) (by kernel_rfl)
                rw [hb2] at e_14
                replace hf : Fr 40 [(17, .pointer (some ⟨w.heap.size, 1, none⟩)), (14, .bool true), (1, .pointer (some ⟨w.heap.size, 0, none⟩)), (6, .bool (!z1))] a := ⟨e_17, e_14, hf⟩; clear e_17 e_14
                clear hd
                have hs : Sep wf (star F1 w2 wf) noR wf (star F1 w2 wf) [] := hs0.fstart hX [] rfl rfl
                refine ldC tbOk (T := 5) ((hs0.cbx 0 rfl).mono hX.le) (LeH.refl _) 1 (.int .u8 p_s.2.1) hf (by kernel_rfl) (by kernel_rfl) (by kernel_rfl) (by kernel_rfl) ?_
                clear hf; clear a; intro a hf
                exact fq_ok (d := 18) rfl hf (hs.ex fun _ h => h) hf.1
              · intro a wf hX hf hd
                have e_18 : a.tmps.getD 18 undef = .int .u8 p_s.2.1 := hd 11 18 (by kernel_rfl) (by kernel_rfl)
                have e_14 : a.tmps.getD 14 undef = .bool ((toStr z2) == (toStr z3)) := hd 7 14 (by kernel_rfl) (by kernel_rfl)
                rw [hb2] at e_14
                replace hf : Fr 40 [(18, .int .u8 p_s.2.1), (14, .bool true), (1, .pointer (some ⟨w.heap.size, 0, none⟩)), (6, .bool (!z1))] a := ⟨e_18, e_14, hf⟩; clear e_18 e_14
                clear hd
                have hs : Sep wf (star F1 w2 wf) noR wf (star F1 w2 wf) [] := hs0.fstart hX [] rfl rfl
                refine st tbOk 1 [19] (L' := [(19, .int .i64 (IntKind.i64.wrap p_s.2.1))]) hf (by kernel_rfl) ?_
                clear hf; clear a; intro a hf
                exact fq_ok (d := 19) rfl hf (hs.ex fun _ h => h) hf.1
              · intro a wf hX hf hd
                have e_19 : a.tmps.getD 19 undef = .int .i64 (IntKind.i64.wrap p_s.2.1) := hd 12 19 (by kernel_rfl) (by kernel_rfl)
                have e_14 : a.tmps.getD 14 undef = .bool ((toStr z2) == (toStr z3)) := hd 7 14 (by kernel_rfl) (by kernel_rfl)
                rw [hb2] at e_14
                replace hf : Fr 40 [(19, .int .i64 (IntKind.i64.wrap p_s.2.1)), (14, .bool true), (1, .pointer (some ⟨w.heap.size, 0, none⟩)), (6, .bool (!z1))] a := ⟨e_19, e_14, hf⟩; clear e_19 e_14
                clear hd
                have hs : Sep wf (star F1 w2 wf) noR wf (star F1 w2 wf) [] := hs0.fstart hX [] rfl rfl
                refine st tbOk 1 [20] (L' := [(20, .int .i64 (IntKind.i64.wrap (Int.tdiv (IntKind.i64.wrap p_s.2.1) 16)))]) hf (by kernel_rfl) ?_
                clear hf; clear a; intro a hf
                exact fq_ok (d := 20) rfl hf (hs.ex fun _ h => h) hf.1
              · intro a wf hX hf hd
                have e_16 : a.tmps.getD 16 undef = .int .i64 z4 := hd 9 16 (by kernel_rfl) (by kernel_rfl)
                have e_20 : a.tmps.getD 20 undef = .int .i64 (IntKind.i64.wrap (Int.tdiv (IntKind.i64.wrap p_s.2.1) 16)) := hd 13 20 (by kernel_rfl) (by kernel_rfl)
                have e_14 : a.tmps.getD 14 undef = .bool ((toStr z2) == (toStr z3)) := hd 7 14 (by kernel_rfl) (by kernel_rfl)
                rw [hb2] at e_14
                replace hf : Fr 40 [(16, .int .i64 z4), (20, .int .i64 (IntKind.i64.wrap (Int.tdiv (IntKind.i64.wrap p_s.2.1) 16))), (14, .bool true), (1, .pointer (some ⟨w.heap.size, 0, none⟩)), (6, .bool (!z1))] a := ⟨e_16, e_20, e_14, hf⟩; clear e_16 e_20 e_14
                clear hd
                have hs : Sep wf (star F1 w2 wf) noR wf (star F1 w2 wf) [] := hs0.fstart hX [] rfl rfl
                refine st tbOk 1 [21] (L' := [(21, .bool (z4 == (IntKind.i64.wrap (Int.tdiv (IntKind.i64.wrap p_s.2.1) 16))))]) hf (by kernel_rfl) ?_
                clear hf; clear a; intro a hf
                exact fq_ok (d := 21) rfl hf (hs.ex fun _ h => h) hf.1
              · intro a wf hX hf hd
                have e_14 : a.tmps.getD 14 undef = .bool ((toStr z2) == (toStr z3)) := hd 7 14 (by kernel_rfl) (by kernel_rfl)
                rw [hb2] at e_14
                have e_21 : a.tmps.getD 21 undef = .bool (z4 == (IntKind.i64.wrap (Int.tdiv (IntKind.i64.wrap p_s.2.1) 16))) := hd 14 21 (by kernel_rfl) (by kernel_rfl)
                replace hf : Fr 40 [(14, .bool true), (21, .bool (z4 == (IntKind.i64.wrap (Int.tdiv (IntKind.i64.wrap p_s.2.1) 16)))), (1, .pointer (some ⟨w.heap.size, 0, none⟩)), (6, .bool (!z1))] a := ⟨e_14, e_21, hf⟩; clear e_14 e_21
                clear hd
                have hs : Sep wf (star F1 w2 wf) noR wf (star F1 w2 wf) [] := hs0.fstart hX [] rfl rfl
                refine st tbOk 1 [22] (L' := [(22, .bool (z4 == (IntKind.i64.wrap (Int.tdiv (IntKind.i64.wrap p_s.2.1) 16))))]) hf (by kernel_rfl) ?_
                clear hf; clear a; intro a hf
                exact fq_ok (d := 22) rfl hf (hs.ex fun _ h => h) hf.1
              · intro a wf hX hf hd
                have e_22 : a.tmps.getD 22 undef = .bool (z4 == (IntKind.i64.wrap (Int.tdiv (IntKind.i64.wrap p_s.2.1) 16))) := hd 15 22 (by kernel_rfl) (by kernel_rfl)
                replace hf : Fr 40 [(22, .bool (z4 == (IntKind.i64.wrap (Int.tdiv (IntKind.i64.wrap p_s.2.1) 16)))), (1, .pointer (some ⟨w.heap.size, 0, none⟩)), (6, .bool (!z1))] a := ⟨e_22, hf⟩; clear e_22
                clear hd
                have hs : Sep wf (star F1 w2 wf) noR wf (star F1 w2 wf) [] := hs0.fstart hX [] rfl rfl
                refine st tbOk 1 [23] (L' := [(23, .bool (z4 == (IntKind.i64.wrap (Int.tdiv (IntKind.i64.wrap p_s.2.1) 16))))]) hf (by kernel_rfl) ?_
                clear hf; clear a; intro a hf
                exact fq_ok (d := 23) rfl hf (hs.ex fun _ h => h) hf.1
              · intro a wf hX hf hd
                have e_23 : a.tmps.getD 23 undef = .bool (z4 == (IntKind.i64.wrap (Int.tdiv (IntKind.i64.wrap p_s.2.1) 16))) := hd 16 23 (by kernel_rfl) (by kernel_rfl)
                rw [hb3] at e_23
                replace hf : Fr 40 [(23, .bool true), (1, .pointer (some ⟨w.heap.size, 0, none⟩)), (6, .bool (!z1))] a := ⟨e_23, hf⟩; clear e_23
                clear hd
                have hs : Sep wf (star F1 w2 wf) noR wf (star F1 w2 wf) [] := hs0.fstart hX [] rfl rfl
                refine ldC tbOk (T := 65) ((hs0.cbx 0 rfl).mono hX.le) (LeH.refl _) 0 (.agg #[.int .u32 p_s.1, .int .u8 p_s.2.1, .int .u8 p_s.2.2.1, .int .u16 p_s.2.2.2.1, .int .u64 p_s.2.2.2.2.1, .int .u64 p_s.2.2.2.2.2]) hf (by kernel_rfl) (by kernel_rfl) (by kernel_rfl) (by kernel_rfl) ?_
                clear hf; clear a; intro a hf
                exact fq_ok (d := 24) rfl hf (hs.ex fun _ h => h) hf.1
              · intro a wf hX hf hd
                have e_24 : a.tmps.getD 24 undef = .agg #[.int .u32 p_s.1, .int .u8 p_s.2.1, .int .u8 p_s.2.2.1, .int .u16 p_s.2.2.2.1, .int .u64 p_s.2.2.2.2.1, .int .u64 p_s.2.2.2.2.2] := hd 17 24 (by kernel_rfl) (by kernel_rfl)
                have e_23 : a.tmps.getD 23 undef = .bool (z4 == (IntKind.i64.wrap (Int.tdiv (IntKind.i64.wrap p_s.2.1) 16))) := hd 16 23 (by kernel_rfl) (by kernel_rfl)
                rw [hb3] at e_23
                replace hf : Fr 40 [(24, .agg #[.int .u32 p_s.1, .int .u8 p_s.2.1, .int .u8 p_s.2.2.1, .int .u16 p_s.2.2.2.1, .int .u64 p_s.2.2.2.2.1, .int .u64 p_s.2.2.2.2.2]), (23, .bool true), (1, .pointer (some ⟨w.heap.size, 0, none⟩)), (6, .bool (!z1))] a := ⟨e_24, e_23, hf⟩; clear e_24 e_23
                clear hd
                have hs : Sep wf (star F1 w2 wf) noR wf (star F1 w2 wf) [] := hs0.fstart hX [] rfl rfl
                refine clV ent29 (vs := [.agg #[.int .u32 p_s.1, .int .u8 p_s.2.1, .int .u8 p_s.2.2.1, .int .u16 p_s.2.2.2.1, .int .u64 p_s.2.2.2.2.1, .int .u64 p_s.2.2.2.2.2]]) (caps := []) hf (by kernel_rfl) (by kernel_rfl) (by kernel_rfl) (by kernel_rfl) (symbols_Kind_ok (p_s := (p_s.1, p_s.2.1, p_s.2.2.1, p_s.2.2.2.1, p_s.2.2.2.2.1, p_s.2.2.2.2.2)) (hs.enter [] rfl rfl) hz5) ?_
                clear hf; clear a; intro v w6 a hT hf; obtain ⟨F6, rfl, hr⟩ := hT
                replace hs : Sep wf (star F1 w2 wf) noR w6 F6 [] := hs.back [] [] rfl rfl rfl rfl hr
                clear hr
                exact fq_ok (d := 25) rfl hf (hs.ex fun _ h => h) hf.1
              · intro a wf hX hf hd
                have e_23 : a.tmps.getD 23 undef = .bool (z4 == (IntKind.i64.wrap (Int.tdiv (IntKind.i64.wrap p_s.2.1) 16))) := hd 16 23 (by kernel_rfl) (by kernel_rfl)
                rw [hb3] at e_23
                replace hf : Fr 40 [(23, .bool true), (1, .pointer (some ⟨w.heap.size, 0, none⟩)), (6, .bool (!z1))] a := ⟨e_23, hf⟩; clear e_23
                clear hd
                have hs : Sep wf (star F1 w2 wf) noR wf (star F1 w2 wf) [] := hs0.fstart hX [] rfl rfl
                refine st tbOk 1 [26] (L' := [(26, .pointer (some ⟨w.heap.size, 1, none⟩))]) hf (by kernel_rfl) ?_
                clear hf; clear a; intro a hf
                exact fq_ok (d := 26) rfl hf (hs.ex fun _ h => h) hf.1
              · intro a wf hX hf hd
                have e_26 : a.tmps.getD 26 undef = .pointer (some ⟨w.heap.size, 1, none⟩) := hd 19 26 (by kernel_rfl) (by kernel_rfl)
                have e_23 : a.tmps.getD 23 undef = .bool (z4 == (IntKind.i64.wrap (Int.tdiv (IntKind.i64.wrap p_s.2.1) 16))) := hd 16 23 (by kernel_rfl) (by kernel_rfl)
                rw [hb3] at e_23
                replace hf : Fr 40 [(26, .pointer (some ⟨w.heap.size, 1, none⟩)), (23, .bool true), (1, .pointer (some ⟨w.heap.size, 0, none⟩)), (6, .bool (!z1))] a := ⟨e_26, e_23, hf⟩; clear e_26 e_23
                clear hd
                have hs : Sep wf (star F1 w2 wf) noR wf (star F1 w2 wf) [] := hs0.fstart hX [] rfl rfl
                refine ldC tbOk (T := 5) ((hs0.cbx 0 rfl).mono hX.le) (LeH.refl _) 1 (.int .u8 p_s.2.1) hf (by kernel_rfl) (by kernel_rfl) (by kernel_rfl) (by kernel_rfl) ?_
                clear hf; clear a; intro a hf
                exact fq_ok (d := 27) rfl hf (hs.ex fun _ h => h) hf.1
              · intro a wf hX hf hd
                have e_27 : a.tmps.getD 27 undef = .int .u8 p_s.2.1 := hd 20 27 (by kernel_rfl) (by kernel_rfl)
                have e_23 : a.tmps.getD 23 undef = .bool (z4 == (IntKind.i64.wrap (Int.tdiv (IntKind.i64.wrap p_s.2.1) 16))) := hd 16 23 (by kernel_rfl) (by kernel_rfl)
                rw [hb3] at e_23
                replace hf : Fr 40 [(27, .int .u8 p_s.2.1), (23, .bool true), (1, .pointer (some ⟨w.heap.size, 0, none⟩)), (6, .bool (!z1))] a := ⟨e_27, e_23, hf⟩; clear e_27 e_23
                clear hd
                have hs : Sep wf (star F1 w2 wf) noR wf (star F1 w2 wf) [] := hs0.fstart hX [] rfl rfl
                refine st tbOk 1 [28] (L' := [(28, .int .i64 (IntKind.i64.wrap p_s.2.1))]) hf (by kernel_rfl) ?_
                clear hf; clear a; intro a hf
                exact fq_ok (d := 28) rfl hf (hs.ex fun _ h => h) hf.1
              · intro a wf hX hf hd
                have e_28 : a.tmps.getD 28 undef = .int .i64 (IntKind.i64.wrap p_s.2.1) := hd 21 28 (by kernel_rfl) (by kernel_rfl)
                have e_23 : a.tmps.getD 23 undef = .bool (z4 == (IntKind.i64.wrap (Int.tdiv (IntKind.i64.wrap p_s.2.1) 16))) := hd 16 23 (by kernel_rfl) (by kernel_rfl)
                rw [hb3] at e_23
                replace hf : Fr 40 [(28, .int .i64 (IntKind.i64.wrap p_s.2.1)), (23, .bool true), (1, .pointer (some ⟨w.heap.size, 0, none⟩)), (6, .bool (!z1))] a := ⟨e_28, e_23, hf⟩; clear e_28 e_23
                clear hd
                have hs : Sep wf (star F1 w2 wf) noR wf (star F1 w2 wf) [] := hs0.fstart hX [] rfl rfl
                refine st tbOk 1 [29] (L' := [(29, .int .i64 (Int.tmod (IntKind.i64.wrap p_s.2.1) 16))]) hf (by kernel_rfl) ?_
                clear hf; clear a; intro a hf
                exact fq_ok (d := 29) rfl hf (hs.ex fun _ h => h) hf.1
              · intro a wf hX hf hd
                have e_25 : a.tmps.getD 25 undef = .int .i64 z5 := hd 18 25 (by kernel_rfl) (by kernel_rfl)
                have e_29 : a.tmps.getD 29 undef = .int .i64 (Int.tmod (IntKind.i64.wrap p_s.2.1) 16) := hd 22 29 (by kernel_rfl) (by kernel_rfl)
                have e_23 : a.tmps.getD 23 undef = .bool (z4 == (IntKind.i64.wrap (Int.tdiv (IntKind.i64.wrap p_s.2.1) 16))) := hd 16 23 (by kernel_rfl) (by kernel_rfl)
                rw [hb3] at e_23
                replace hf : Fr 40 [(25, .int .i64 z5), (29, .int .i64 (Int.tmod (IntKind.i64.wrap p_s.2.1) 16)), (23, .bool true), (1, .pointer (some ⟨w.heap.size, 0, none⟩)), (6, .bool (!z1))] a := ⟨e_25, e_29, e_23, hf⟩; clear e_25 e_29 e_23
                clear hd
                have hs : Sep wf (star F1 w2 wf) noR wf (star F1 w2 wf) [] := hs0.fstart hX [] rfl rfl
                refine st tbOk 1 [30] (L' := [(30, .bool (z5 == (Int.tmod (IntKind.i64.wrap p_s.2.1) 16)))]) hf (by kernel_rfl) ?_
                clear hf; clear a; intro a hf
                exact fq_ok (d := 30) rfl hf (hs.ex fun _ h => h) hf.1
              · intro a wf hX hf hd
                have e_23 : a.tmps.getD 23 undef = .bool (z4 == (IntKind.i64.wrap (Int.tdiv (IntKind.i64.wrap p_s.2.1) 16))) := hd 16 23 (by kernel_rfl) (by kernel_rfl)
                rw [hb3] at e_23
                have e_30 : a.tmps.getD 30 undef = .bool (z5 == (Int.tmod (IntKind.i64.wrap p_s.2.1) 16)) := hd 23 30 (by kernel_rfl) (by kernel_rfl)
                replace hf : Fr 40 [(23, .bool true), (30, .bool (z5 == (Int.tmod (IntKind.i64.wrap p_s.2.1) 16))), (1, .pointer (some ⟨w.heap.size, 0, none⟩)), (6, .bool (!z1))] a := ⟨e_23, e_30, hf⟩; clear e_23 e_30
                clear hd
                have hs : Sep wf (star F1 w2 wf) noR wf (star F1 w2 wf) [] := hs0.fstart hX [] rfl rfl
                refine st tbOk 1 [31] (L' := [(31, .bool (z5 == (Int.tmod (IntKind.i64.wrap p_s.2.1) 16)))]) hf (by kernel_rfl) ?_
                clear hf; clear a; intro a hf
                exact fq_ok (d := 31) rfl hf (hs.ex fun _ h => h) hf.1
              · intro a wf hX hf hd
                have e_31 : a.tmps.getD 31 undef = .bool (z5 == (Int.tmod (IntKind.i64.wrap p_s.2.1) 16)) := hd 24 31 (by kernel_rfl) (by kernel_rfl)
                replace hf : Fr 40 [(31, .bool (z5 == (Int.tmod (IntKind.i64.wrap p_s.2.1) 16))), (1, .pointer (some ⟨w.heap.size, 0, none⟩)), (6, .bool (!z1))] a := ⟨e_31, hf⟩; clear e_31
                clear hd
                have hs : Sep wf (star F1 w2 wf) noR wf (star F1 w2 wf) [] := hs0.fstart hX [] rfl rfl
                refine st tbOk 1 [32] (L' := [(32, .bool (z5 == (Int.tmod (IntKind.i64.wrap p_s.2.1) 16)))]) hf (by kernel_rfl) ?_
                clear hf; clear a; intro a hf
                exact fq_ok (d := 32) rfl hf (hs.ex fun _ h => h) hf.1
              · intro a wf hX hf hd
                have e_32 : a.tmps.getD 32 undef = .bool (z5 == (Int.tmod (IntKind.i64.wrap p_s.2.1) 16)) := hd 25 32 (by kernel_rfl) (by kernel_rfl)
                rw [hb4] at e_32
                replace hf : Fr 40 [(32, .bool false), (1, .pointer (some ⟨w.heap.size, 0, none⟩)), (6, .bool (!z1))] a := ⟨e_32, hf⟩; clear e_32
                clear hd
                have hs : Sep wf (star F1 w2 wf) noR wf (star F1 w2 wf) [] := hs0.fstart hX [] rfl rfl
                refine st tbOk 1 [33] (L' := [(33, undef)]) hf (by kernel_rfl) ?_
                clear hf; clear a; intro a hf
                exact fq_ok (d := 33) rfl hf (hs.ex fun _ h => h) hf.1
              · intro a wf hX hf hd
                have e_33 : a.tmps.getD 33 undef = undef := hd 26 33 (by kernel_rfl) (by kernel_rfl)
                have e_32 : a.tmps.getD 32 undef = .bool (z5 == (Int.tmod (IntKind.i64.wrap p_s.2.1) 16)) := hd 25 32 (by kernel_rfl) (by kernel_rfl)
                rw [hb4] at e_32
                replace hf : Fr 40 [(33, undef), (32, .bool false), (1, .pointer (some ⟨w.heap.size, 0, none⟩)), (6, .bool (!z1))] a := ⟨e_33, e_32, hf⟩; clear e_33 e_32
                clear hd
                have hs : Sep wf (star F1 w2 wf) noR wf (star F1 w2 wf) [] := hs0.fstart hX [] rfl rfl
                refine st tbOk 1 [34] (L' := [(34, undef)]) hf (by kernel_rfl) ?_
                clear hf; clear a; intro a hf
                exact fq_ok (d := 34) rfl hf (hs.ex fun _ h => h) hf.1
              · intro a wf hX hf hd
                have e_32 : a.tmps.getD 32 undef = .bool (z5 == (Int.tmod (IntKind.i64.wrap p_s.2.1) 16)) := hd 25 32 (by kernel_rfl) (by kernel_rfl)
                rw [hb4] at e_32
                replace hf : Fr 40 [(32, .bool false), (1, .pointer (some ⟨w.heap.size, 0, none⟩)), (6, .bool (!z1))] a := ⟨e_32, hf⟩; clear e_32
                clear hd
                have hs : Sep wf (star F1 w2 wf) noR wf (star F1 w2 wf) [] := hs0.fstart hX [] rfl rfl
                refine st tbOk 1 [35] (L' := [(35, undef)]) hf (by kernel_rfl) ?_
                clear hf; clear a; intro a hf
                exact fq_ok (d := 35) rfl hf (hs.ex fun _ h => h) hf.1
              · intro a wf hX hf hd
                have e_35 : a.tmps.getD 35 undef = undef := hd 28 35 (by kernel_rfl) (by kernel_rfl)
                have e_32 : a.tmps.getD 32 undef = .bool (z5 == (Int.tmod (IntKind.i64.wrap p_s.2.1) 16)) := hd 25 32 (by kernel_rfl) (by kernel_rfl)
                rw [hb4] at e_32
                replace hf : Fr 40 [(35, undef), (32, .bool false), (1, .pointer (some ⟨w.heap.size, 0, none⟩)), (6, .bool (!z1))] a := ⟨e_35, e_32, hf⟩; clear e_35 e_32
                clear hd
                have hs : Sep wf (star F1 w2 wf) noR wf (star F1 w2 wf) [] := hs0.fstart hX [] rfl rfl
                refine st tbOk 1 [36] (L' := [(36, undef)]) hf (by kernel_rfl) ?_
                clear hf; clear a; intro a hf
                exact fq_ok (d := 36) rfl hf (hs.ex fun _ h => h) hf.1
              · intro a wf hX hf hd
                have e_36 : a.tmps.getD 36 undef = undef := hd 29 36 (by kernel_rfl) (by kernel_rfl)
                have e_32 : a.tmps.getD 32 undef = .bool (z5 == (Int.tmod (IntKind.i64.wrap p_s.2.1) 16)) := hd 25 32 (by kernel_rfl) (by kernel_rfl)
                rw [hb4] at e_32
                replace hf : Fr 40 [(36, undef), (32, .bool false), (1, .pointer (some ⟨w.heap.size, 0, none⟩)), (6, .bool (!z1))] a := ⟨e_36, e_32, hf⟩; clear e_36 e_32
                clear hd
                have hs : Sep wf (star F1 w2 wf) noR wf (star F1 w2 wf) [] := hs0.fstart hX [] rfl rfl
                refine st tbOk 1 [37] (L' := [(37, undef)]) hf (by kernel_rfl) ?_
                clear hf; clear a; intro a hf
                exact fq_ok (d := 37) rfl hf (hs.ex fun _ h => h) hf.1
              · intro a wf hX hf hd
                have e_34 : a.tmps.getD 34 undef = undef := hd 27 34 (by kernel_rfl) (by kernel_rfl)
                have e_37 : a.tmps.getD 37 undef = undef := hd 30 37 (by kernel_rfl) (by kernel_rfl)
                have e_32 : a.tmps.getD 32 undef = .bool (z5 == (Int.tmod (IntKind.i64.wrap p_s.2.1) 16)) := hd 25 32 (by kernel_rfl) (by kernel_rfl)
                rw [hb4] at e_32
                replace hf : Fr 40 [(34, undef), (37, undef), (32, .bool false), (1, .pointer (some ⟨w.heap.size, 0, none⟩)), (6, .bool (!z1))] a := ⟨e_34, e_37, e_32, hf⟩; clear e_34 e_37 e_32
                clear hd
                have hs : Sep wf (star F1 w2 wf) noR wf (star F1 w2 wf) [] := hs0.fstart hX [] rfl rfl
                refine st tbOk 1 [38] (L' := [(38, undef)]) hf (by kernel_rfl) ?_
                clear hf; clear a; intro a hf
                exact fq_ok (d := 38) rfl hf (hs.ex fun _ h => h) hf.1
              · intro a wf hX hf hd
                have e_32 : a.tmps.getD 32 undef = .bool (z5 == (Int.tmod (IntKind.i64.wrap p_s.2.1) 16)) := hd 25 32 (by kernel_rfl) (by kernel_rfl)
                rw [hb4] at e_32
                have e_38 : a.tmps.getD 38 undef = undef := hd 31 38 (by kernel_rfl) (by kernel_rfl)
                replace hf : Fr 40 [(32, .bool false), (38, undef), (1, .pointer (some ⟨w.heap.size, 0, none⟩)), (6, .bool (!z1))] a := ⟨e_32, e_38, hf⟩; clear e_32 e_38
                clear hd
                have hs : Sep wf (star F1 w2 wf) noR wf (star F1 w2 wf) [] := hs0.fstart hX [] rfl rfl
                refine st tbOk 1 [39] (L' := [(39, .bool false)]) hf (by kernel_rfl) ?_
                clear hf; clear a; intro a hf
                exact fq_ok (d := 39) rfl hf (hs.ex fun _ h => h) hf.1
              · intro a wf hX hf hd
                have e_39 : a.tmps.getD 39 undef = .bool false := hd 32 39 (by kernel_rfl) (by kernel_rfl)
                replace hf : Fr 40 [(39, .bool false), (1, .pointer (some ⟨w.heap.size, 0, none⟩)), (6, .bool (!z1))] a := ⟨e_39, hf⟩; clear e_39
                clear hd
                have hs : Sep wf (star F1 w2 wf) noR wf (star F1 w2 wf) [] := hs0.fstart hX [] rfl rfl
                refine st tbOk 1 [2] (L' := [(2, .bool false)]) hf (by kernel_rfl) ?_
                clear hf; clear a; intro a hf
                exact fq_ok (d := 2) rfl hf (hs.ex fun _ h => h) hf.1
            · clear hf hs; clear a; intro a w9 hx hf hd
              have hs : Sep w F R w9 (star F1 w2 w9) [.box w.heap.size 65 [.int .u32 p_s.1, .int .u8 p_s.2.1, .int .u8 p_s.2.2.1, .int .u16 p_s.2.2.2.1, .int .u64 p_s.2.2.2.2.1, .int .u64 p_s.2.2.2.2.2]] := hs0.starX hx
              have e_2 : a.tmps.getD 2 undef = .bool false := hd 33 2 (by kernel_rfl) (by kernel_rfl)
              clear hd hx
              clear hs0
              replace hf : Fr 40 [(2, .bool false), (1, .pointer (some ⟨w.heap.size, 0, none⟩)), (6, .bool (!z1))] a := ⟨e_2, hf⟩
              clear e_2
              replace hs : Sep w F R w9 (star F1 w2 w9) [] := hs.sel [] rfl rfl
              replace hf := Fr.keep (ks := [2]) (L' := [(2, .bool false)]) hf (by kernel_rfl)
              refine wpList_nil ?_
              exact hK1 false _ _ ⟨_, hs.sel [] rfl rfl, hf.keep (ks := [2]) (by kernel_rfl)⟩ hS
        · replace hS := of_f hb3 hS
          have hs0 := hs
          refine regF 34 [fun u uw => u = .agg #[.int .u32 p_s.1, .int .u8 p_s.2.1, .int .u8 p_s.2.2.1, .int .u16 p_s.2.2.2.1, .int .u64 p_s.2.2.2.2.1, .int .u64 p_s.2.2.2.2.2],
    fun u uw => ∃ (ao2 : Option Addr) (cp2 : Nat) (F' : SH), u = .slice ao2 z2.length cp2 ∧ Sep w2 F1 noR uw F' [.row 5 (tI .u8) (.slice ao2 z2.length cp2) z2],
    fun u uw => u = strV (toStr z2),
    fun u uw => u = .agg #[.int .u32 p_s.1, .int .u8 p_s.2.1, .int .u8 p_s.2.2.1, .int .u16 p_s.2.2.2.1, .int .u64 p_s.2.2.2.2.1, .int .u64 p_s.2.2.2.2.2],
    fun u uw => ∃ (ao4 : Option Addr) (cp4 : Nat) (F' : SH), u = .slice ao4 z3.length cp4 ∧ Sep w2 F1 noR uw F' [.row 5 (tI .u8) (.slice ao4 z3.length cp4) z3],
    fun u uw => u = strV (toStr z3),
    fun u uw => u = .bool ((toStr z2) == (toStr z3)),
    fun u uw => u = .bool ((toStr z2) == (toStr z3)),
    fun u uw => u = .agg #[.int .u32 p_s.1, .int .u8 p_s.2.1, .int .u8 p_s.2.2.1, .int .u16 p_s.2.2.2.1, .int .u64 p_s.2.2.2.2.1, .int .u64 p_s.2.2.2.2.2],
    fun u uw => u = .int .i64 z4,
    fun u uw => u = .pointer (some ⟨w.heap.size, 1, none⟩),
    fun u uw => u = .int .u8 p_s.2.1,
    fun u uw => u = .int .i64 (IntKind.i64.wrap p_s.2.1),
    fun u uw => u = .int .i64 (IntKind.i64.wrap (Int.tdiv (IntKind.i64.wrap p_s.2.1) 16)),
    fun u uw => u = .bool (z4 == (IntKind.i64.wrap (Int.tdiv (IntKind.i64.wrap p_s.2.1) 16))),
    fun u uw => u = .bool (z4 == (IntKind.i64.wrap (Int.tdiv (IntKind.i64.wrap p_s.2.1) 16))),
    fun u uw => u = .bool (z4 == (IntKind.i64.wrap (Int.tdiv (IntKind.i64.wrap p_s.2.1) 16))),
    fun u uw => u = undef,
    fun u uw => u = undef,
    fun u uw => u = undef,
    fun u uw => u = undef,
    fun u uw => u = undef,
    fun u uw => u = undef,
    fun u uw => u = undef,
    fun u uw => u = .bool false,
    fun u uw => u = .bool false,
    fun u uw => u = undef,
    fun u uw => u = undef,
    fun u uw => u = undef,
    fun u uw => u = undef,
    fun u uw => u = undef,
    fun u uw => u = undef,
    fun u uw => u = .bool false,
    fun u uw => u = .bool false] mixed (Fr.keep (ks := [1, 6]) (L' := [(1, .pointer (some ⟨w.heap.size, 0, none⟩)), (6, .bool (!z1))]) hf (by kernel_rfl)) (by kernel_rfl) rfl ?_ ?_ ?_
          · exact ⟨fun _ _ _ h _ => h, fun _ _ _ ⟨ao2, cp2, F', e, h⟩ hx => ⟨ao2, cp2, F', e, h.ext hx⟩, fun _ _ _ h _ => h, fun _ _ _ h _ => h, fun _ _ _ ⟨ao4, cp4, F', e, h⟩ hx => ⟨ao4, cp4, F', e, h.ext hx⟩, fun _ _ _ h _ => h, fun _ _ _ h _ => h, fun _ _ _ h _ => h, fun _ _ _ h _ => h, fun _ _ _ h _ => h, fun _ _ _ h _ => h, fun _ _ _ h _ => h, fun _ _ _ h _ => h, fun _ _ _ h _ => h, fun _ _ _ h _ => h, fun _ _ _ h _ => h, fun _ _ _ h _ => h, fun _ _ _ h _ => h, fun _ _ _ h _ => h, fun _ _ _ h _ => h, fun _ _ _ h _ => h, fun _ _ _ h _ => h, fun _ _ _ h _ => h, fun _ _ _ h _ => h, fun _ _ _ h _ => h, fun _ _ _ h _ => h, fun _ _ _ h _ => h, fun _ _ _ h _ => h, fun _ _ _ h _ => h, fun _ _ _ h _ => h, fun _ _ _ h _ => h, fun _ _ _ h _ => h, fun _ _ _ h _ => h, fun _ _ _ h _ => h, trivial⟩
          · clear hS hf hs; clear a
            refine ⟨?_, ?_, ?_, ?_, ?_, ?_, ?_, ?_, ?_, ?_, ?_, ?_, ?_, ?_, ?_, ?_, ?_, ?_, ?_, ?_, ?_, ?_, ?_, ?_, ?_, ?_, ?_, ?_, ?_, ?_, ?_, ?_, ?_, ?_, trivial⟩
            · intro a wf hX hf hd
              clear hd
              have hs : Sep wf (star F1 w2 wf) noR wf (star F1 w2 wf) [] := hs0.fstart hX [] rfl rfl
              refine ldC tbOk (T := 65) ((hs0.cbx 0 rfl).mono hX.le) (LeH.refl _) 0 (.agg #[.int .u32 p_s.1, .int .u8 p_s.2.1, .int .u8 p_s.2.2.1, .int .u16 p_s.2.2.2.1, .int .u64 p_s.2.2.2.2.1, .int .u64 p_s.2.2.2.2.2]) hf (by kernel_rfl) (by kernel_rfl) (by kernel_rfl) (by kernel_rfl) ?_
              clear hf; clear a; intro a hf
              exact fq_ok (d := 7) rfl hf (hs.ex fun _ h => h) hf.1
            · intro a wf hX hf hd
              have e_7 : a.tmps.getD 7 undef = .agg #[.int .u32 p_s.1, .int .u8 p_s.2.1, .int .u8 p_s.2.2.1, .int .u16 p_s.2.2.2.1, .int .u64 p_s.2.2.2.2.1, .int .u64 p_s.2.2.2.2.2] := hd 0 7 (by kernel_rfl) (by kernel_rfl)
              replace hf : Fr 40 [(7, .agg #[.int .u32 p_s.1, .int .u8 p_s.2.1, .int .u8 p_s.2.2.1, .int .u16 p_s.2.2.2.1, .int .u64 p_s.2.2.2.2.1, .int .u64 p_s.2.2.2.2.2]), (1, .pointer (some ⟨w.heap.size, 0, none⟩)), (6, .bool (!z1))] a := ⟨e_7, hf⟩; clear e_7
              clear hd
              have hs : Sep wf (star F1 w2 wf) noR wf (star F1 w2 wf) [] := hs0.fstart hX [] rfl rfl
              refine clV ent26 (vs := [.agg #[.int .u32 p_s.1, .int .u8 p_s.2.1, .int .u8 p_s.2.2.1, .int .u16 p_s.2.2.2.1, .int .u64 p_s.2.2.2.2.1, .int .u64 p_s.2.2.2.2.2]]) (caps := []) hf (by kernel_rfl) (by kernel_rfl) (by kernel_rfl) (by kernel_rfl) (symbols_Put_ok (p_s := (p_s.1, p_s.2.1, p_s.2.2.1, p_s.2.2.2.1, p_s.2.2.2.2.1, p_s.2.2.2.2.2)) (hs.enter [] rfl rfl) hz2) ?_
              clear hf; clear a; intro v w3 a hT hf; obtain ⟨ao1, cp1, F3, rfl, hr⟩ := hT
              replace hs : Sep wf (star F1 w2 wf) noR w3 F3 [.row 5 (tI .u8) (.slice ao1 z2.length cp1) z2] := hs.back [] [] rfl rfl rfl rfl hr
              clear hr
              exact fq_ok (d := 8) rfl hf (hs.ex fun _ h => h) ⟨ao1, cp1, _, hf.1, (hs.sel [0] rfl rfl).rebase hX⟩
            · intro a wf hX hf hd
              obtain ⟨ao2, cp2, F_8, e_8, h_8⟩ : ∃ (ao2 : Option Addr) (cp2 : Nat) (F' : SH), a.tmps.getD 8 undef = .slice ao2 z2.length cp2 ∧ Sep w2 F1 noR wf F' [.row 5 (tI .u8) (.slice ao2 z2.length cp2) z2] := hd 1 8 (by kernel_rfl) (by kernel_rfl)
              replace hf : Fr 40 [(8, .slice ao2 z2.length cp2), (1, .pointer (some ⟨w.heap.size, 0, none⟩)), (6, .bool (!z1))] a := ⟨e_8, hf⟩; clear e_8
              clear hd
              have hs : Sep wf (star F1 w2 wf) noR wf (star F1 w2 wf) [] := hs0.fstart hX [] rfl rfl
              replace hs : Sep wf (star F1 w2 wf) noR wf (star F1 w2 wf) [.ro (tI .u8) (.slice ao2 z2.length cp2) z2] := hs.addStar h_8 0 rfl rfl
              clear h_8
              refine b2sR tbOk u22 u5 u9 (hs.raR 0 rfl) hf (by kernel_rfl) (by kernel_rfl) (by kernel_rfl) ?_
              clear hf; clear a; intro a hf
              exact fq_ok (d := 9) rfl hf (hs.ex fun _ h => h) hf.1
            · intro a wf hX hf hd
              clear hd
              have hs : Sep wf (star F1 w2 wf) noR wf (star F1 w2 wf) [] := hs0.fstart hX [] rfl rfl
              refine ldC tbOk (T := 65) ((hs0.cbx 0 rfl).mono hX.le) (LeH.refl _) 0 (.agg #[.int .u32 p_s.1, .int .u8 p_s.2.1, .int .u8 p_s.2.2.1, .int .u16 p_s.2.2.2.1, .int .u64 p_s.2.2.2.2.1, .int .u64 p_s.2.2.2.2.2]) hf (by kernel_rfl) (by kernel_rfl) (by kernel_rfl) (by kernel_rfl) ?_
              clear hf; clear a; intro a hf
              exact fq_ok (d := 10) rfl hf (hs.ex fun _ h => h) hf.1
            · intro a wf hX hf hd
              have e_10 : a.tmps.getD 10 undef = .agg #[.int .u32 p_s.1, .int .u8 p_s.2.1, .int .u8 p_s.2.2.1, .int .u16 p_s.2.2.2.1, .int .u64 p_s.2.2.2.2.1, .int .u64 p_s.2.2.2.2.2] := hd 3 10 (by kernel_rfl) (by kernel_rfl)
              replace hf : Fr 40 [(10, .agg #[.int .u32 p_s.1, .int .u8 p_s.2.1, .int .u8 p_s.2.2.1, .int .u16 p_s.2.2.2.1, .int .u64 p_s.2.2.2.2.1, .int .u64 p_s.2.2.2.2.2]), (1, .pointer (some ⟨w.heap.size, 0, none⟩)), (6, .bool (!z1))] a := ⟨e_10, hf⟩; clear e_10
              clear hd
              have hs : Sep wf (star F1 w2 wf) noR wf (star F1 w2 wf) [] := hs0.fstart hX [] rfl rfl
              refine clV ent27 (vs := [.agg #[.int .u32 p_s.1, .int .u8 p_s.2.1, .int .u8 p_s.2.2.1, .int .u16 p_s.2.2.2.1, .int .u64 p_s.2.2.2.2.1, .int .u64 p_s.2.2.2.2.2]]) (caps := []) hf (by kernel_rfl) (by kernel_rfl) (by kernel_rfl) (by kernel_rfl) (ref06_Put_ok (p_s := (p_s.1, p_s.2.1, p_s.2.2.1, p_s.2.2.2.1, p_s.2.2.2.2.1, p_s.2.2.2.2.2)) (hs.enter [] rfl rfl) hz3) ?_
              clear hf; clear a; intro v w4 a hT hf; obtain ⟨ao3, cp3, F4, rfl, hr⟩ := hT
              replace hs : Sep wf (star F1 w2 wf) noR w4 F4 [.row 5 (tI .u8) (.slice ao3 z3.length cp3) z3] := hs.back [] [] rfl rfl rfl rfl hr
              clear hr
              exact fq_ok (d := 11) rfl hf (hs.ex fun _ h => h) ⟨ao3, cp3, _, hf.1, (hs.sel [0] rfl rfl).rebase hX⟩
            · intro a wf hX hf hd
              obtain ⟨ao4, cp4, F_11, e_11, h_11⟩ : ∃ (ao4 : Option Addr) (cp4 : Nat) (F' : SH), a.tmps.getD 11 undef = .slice ao4 z3.length cp4 ∧ Sep w2 F1 noR wf F' [.row 5 (tI .u8) (.slice ao4 z3.length cp4) z3] := hd 4 11 (by kernel_rfl) (by kernel_rfl)
              replace hf : Fr 40 [(11, .slice ao4 z3.length cp4), (1, .pointer (some ⟨w.heap.size, 0, none⟩)), (6, .bool (!z1))] a := ⟨e_11, hf⟩; clear e_11
              clear hd
              have hs : Sep wf (star F1 w2 wf) noR wf (star F1 w2 wf) [] := hs0.fstart hX [] rfl rfl
              replace hs : Sep wf (star F1 w2 wf) noR wf (star F1 w2 wf) [.ro (tI .u8) (.slice ao4 z3.length cp4) z3] := hs.addStar h_11 0 rfl rfl
              clear h_11
              refine b2sR tbOk u22 u5 u9 (hs.raR 0 rfl) hf (by kernel_rfl) (by kernel_rfl) (by kernel_rfl) ?_
              clear hf; clear a; intro a hf
              exact fq_ok (d := 12) rfl hf (hs.ex fun _ h => h) hf.1
            · intro a wf hX hf hd
              have e_9 : a.tmps.getD 9 undef = strV (toStr z2) := hd 2 9 (by kernel_rfl) (by kernel_rfl)
              have e_12 : a.tmps.getD 12 undef = strV (toStr z3) := hd 5 12 (by kernel_rfl) (by kernel_rfl)
              replace hf : Fr 40 [(9, strV (toStr z2)), (12, strV (toStr z3)), (1, .pointer (some ⟨w.heap.size, 0, none⟩)), (6, .bool (!z1))] a := ⟨e_9, e_12, hf⟩; clear e_9 e_12
              clear hd
              have hs : Sep wf (star F1 w2 wf) noR wf (star F1 w2 wf) [] := hs0.fstart hX [] rfl rfl
              refine st tbOk 1 [13] (L' := [(13, .bool ((toStr z2) == (toStr z3)))]) hf (by kernel_rfl) ?_
              clear hf; clear a; intro a hf
              exact fq_ok (d := 13) rfl hf (hs.ex fun _ h => h) hf.1
            · intro a wf hX hf hd
              have e_13 : a.tmps.getD 13 undef = .bool ((toStr z2) == (toStr z3)) := hd 6 13 (by kernel_rfl) (by kernel_rfl)
              replace hf : Fr 40 [(13, .bool ((toStr z2) == (toStr z3))), (1, .pointer (some ⟨w.heap.size, 0, none⟩)), (6, .bool (!z1))] a := ⟨e_13, hf⟩; clear e_13
              clear hd
              have hs : Sep wf (star F1 w2 wf) noR wf (star F1 w2 wf) [] := hs0.fstart hX [] rfl rfl
              refine st tbOk 1 [14] (L' := [(14, .bool ((toStr z2) == (toStr z3)))]) hf (by kernel_rfl) ?_
              clear hf; clear a; intro a hf
              exact fq_ok (d := 14) rfl hf (hs.ex fun _ h => h) hf.1
            · intro a wf hX hf hd
              have e_14 : a.tmps.getD 14 undef = .bool ((toStr z2) == (toStr z3)) := hd 7 14 (by kernel_rfl) (by kernel_rfl)
              rw [hb2] at e_14
              replace hf : Fr 40 [(14, .bool true), (1, .pointer (some ⟨w.heap.size, 0, none⟩)), (6, .bool (!z1))] a := ⟨e_14, hf⟩; clear e_14
              clear hd
              have hs : Sep wf (star F1 w2 wf) noR wf (star F1 w2 wf) [] := hs0.fstart hX [] rfl rfl
              refine ldC tbOk (T := 65) ((hs0.cbx 0 rfl).mono hX.le) (LeH.refl _) 0 (.agg #[.int .u32 p_s.1, .int .u8 p_s.2.1, .int .u8 p_s.2.2.1, .int .u16 p_s.2.2.2.1, .int .u64 p_s.2.2.2.2.1, .int .u64 p_s.2.2.2.2.2]) hf (by kernel_rfl) (by kernel_rfl) (by kernel_rfl) (by kernel_rfl) ?_
              clear hf; clear a; intro a hf
              exact fq_ok (d := 15) rfl hf (hs.ex fun _ h => h) hf.1
            · intro a wf hX hf hd
              have e_15 : a.tmps.getD 15 undef = .agg #[.int .u32 p_s.1, .int .u8 p_s.2.1, .int .u8 p_s.2.2.1, .int .u16 p_s.2.2.2.1, .int .u64 p_s.2.2.2.2.1, .int .u64 p_s.2.2.2.2.2] := hd 8 15 (by kernel_rfl) (by kernel_rfl)
              have e_14 : a.tmps.getD 14 undef = .bool ((toStr z2) == (toStr z3)) := hd 7 14 (by kernel_rfl) (by kernel_rfl)
              rw [hb2] at e_14
              replace hf : Fr 40 [(15, .agg #[.int .u32 p_s.1, .int .u8 p_s.2.1, .int .u8 p_s.2.2.1, .int .u16 p_s.2.2.2.1, .int .u64 p_s.2.2.2.2.1, .int .u64 p_s.2.2.2.2.2]), (14, .bool true), (1, .pointer (some ⟨w.heap.size, 0, none⟩)), (6, .bool (!z1))] a := ⟨e_15, e_14, hf⟩; clear e_15 e_14
              clear hd
              have hs : Sep wf (star F1 w2 wf) noR wf (star F1 w2 wf) [] := hs0.fstart hX [] rfl rfl
              refine clV ent28 (vs := [.agg #[.int .u32 p_s.1, .int .u8 p_s.2.1, .int .u8 p_s.2.2.1, .int .u16 p_s.2.2.2.1, .int .u64 p_s.2.2.2.2.1, .int .u64 p_s.2.2.2.2.2]]) (caps := []) hf (by kernel_rfl) (by kernel_rfl) (by kernel_rfl) (by kernel_rfl) (symbols_Bind_ok (p_s := (p_s.1, p_s.2.1, p_s.2.2.1, p_s.2.2.2.1, p_s.2.2.2.2.1, p_s.2.2.2.2.2)) (hs.enter [] rfl rfl) hz4) ?_
              clear hf; clear a; intro v w5 a hT hf; obtain ⟨F5, rfl, hr⟩ := hT
              replace hs : Sep wf (star F1 w2 wf) noR w5 F5 [] := hs.back [] [] rfl rfl rfl rfl hr
              clear hr
              exact fq_ok (d := 16) rfl hf (hs.ex fun _ h => h) hf.1
            · intro a wf hX hf hd
              have e_14 : a.tmps.getD 14 undef = .bool ((toStr z2) == (toStr z3)) := hd 7 14 (by kernel_rfl) (by kernel_rfl)
              rw [hb2] at e_14
              replace hf : Fr 40 [(14, .bool true), (1, .pointer (some ⟨w.heap.size, 0, none⟩)), (6, .bool (!z1))] a := ⟨e_14, hf⟩; clear e_14
              clear hd
              have hs : Sep wf (star F1 w2 wf) noR wf (star F1 w2 wf) [] := hs0.fstart hX [] rfl rfl
              refine st tbOk 1 [17] (L' := [(17, .pointer (some ⟨w.heap.size, 1, none⟩))]) hf (by kernel_rfl) ?_
              clear hf; clear a; intro a hf
              exact fq_ok (d := 17) rfl hf (hs.ex fun _ h => h) hf.1
            · intro a wf hX hf hd
              have e_17 : a.tmps.getD 17 undef = .pointer (some ⟨w.heap.size, 1, none⟩) := hd 10 17 (by kernel_rfl) (by kernel_rfl)
              have e_14 : a.tmps.getD 14 undef = .bool ((toStr z2) == (toStr z3)) := hd 7 14 (by kernel_rfl) (by kernel_rfl)
              rw [hb2] at e_14
              replace hf : Fr 40 [(17, .pointer (some ⟨w.heap.size, 1, none⟩)), (14, .bool true), (1, .pointer (some ⟨w.heap.size, 0, none⟩)), (6, .bool (!z1))] a := ⟨e_17, e_14, hf⟩; clear e_17 e_14
              clear hd
              have hs : Sep wf (star F1 w2 wf) noR wf (star F1 w2 wf) [] := hs0.fstart hX [] rfl rfl
              refine ldC tbOk (T := 5) ((hs0.cbx 0 rfl).mono hX.le) (LeH.refl _) 1 (.int .u8 p_s.2.1) hf (by kernel_rfl) (by kernel_rfl) (by kernel_rfl) (by kernel_rfl) ?_
              clear hf; clear a; intro a hf
              exact fq_ok (d := 18) rfl hf (hs.ex fun _ h => h) hf.1
            · intro a wf hX hf hd
              have e_18 : a.tmps.getD 18 undef = .int .u8 p_s.2.1 := hd 11 18 (by kernel_rfl) (by kernel_rfl)
              have e_14 : a.tmps.getD 14 undef = .bool ((toStr z2) == (toStr z3)) := hd 7 14 (by kernel_rfl) (by kernel_rfl)
              rw [hb2] at e_14
              replace hf : Fr 40 [(18, .int .u8 p_s.2.1), (14, .bool true), (1, .pointer (some ⟨w.heap.size, 0, none⟩)), (6, .bool (!z1))] a := ⟨e_18, e_14, hf⟩; clear e_18 e_14
              clear hd
              have hs : Sep wf (star F1 w2 wf) noR wf (star F1 w2 wf) [] := hs0.fstart hX [] rfl rfl
              refine st tbOk 1 [19] (L' := [(19, .int .i64 (IntKind.i64.wrap p_s.2.1))]) hf (by kernel_rfl) ?_
              clear hf; clear a; intro a hf
              exact fq_ok (d := 19) rfl hf (hs.ex fun _ h => h) hf.1
            · intro a wf hX hf hd
              have e_19 : a.tmps.getD 19 undef = .int .i64 (IntKind.i64.wrap p_s.2.1) := hd 12 19 (by kernel_rfl) (by kernel_rfl)
              have e_14 : a.tmps.getD 14 undef = .bool ((toStr z2) == (toStr z3)) := hd 7 14 (by kernel_rfl) (by kernel_rfl)
              rw [hb2] at e_14
              replace hf : Fr 40 [(19, .int .i64 (IntKind.i64.wrap p_s.2.1)), (14, .bool true), (1, .pointer (some ⟨w.heap.size, 0, none⟩)), (6, .bool (!z1))] a := ⟨e_19, e_14, hf⟩; clear e_19 e_14
              clear hd
              have hs : Sep wf (star F1 w2 wf) noR wf (star F1 w2 wf) [] := hs0.fstart hX [] rfl rfl
              refine st tbOk 1 [20] (L' := [(20, .int .i64 (IntKind.i64.wrap (Int.tdiv (IntKind.i64.wrap p_s.2.1) 16)))]) hf (by kernel_rfl) ?_
              clear hf; clear a; intro a hf
              exact fq_ok (d := 20) rfl hf (hs.ex fun _ h => h) hf.1
            · intro a wf hX hf hd
              have e_16 : a.tmps.getD 16 undef = .int .i64 z4 := hd 9 16 (by kernel_rfl) (by kernel_rfl)
              have e_20 : a.tmps.getD 20 undef = .int .i64 (IntKind.i64.wrap (Int.tdiv (IntKind.i64.wrap p_s.2.1) 16)) := hd 13 20 (by kernel_rfl) (by kernel_rfl)
              have e_14 : a.tmps.getD 14 undef = .bool ((toStr z2) == (toStr z3)) := hd 7 14 (by kernel_rfl) (by kernel_rfl)
              rw [hb2] at e_14
              replace hf : Fr 40 [(16, .int .i64 z4), (20, .int .i64 (IntKind.i64.wrap (Int.tdiv (IntKind.i64.wrap p_s.2.1) 16))), (14, .bool true), (1, .pointer (some ⟨w.heap.size, 0, none⟩)), (6, .bool (!z1))] a := ⟨e_16, e_20, e_14, hf⟩; clear e_16 e_20 e_14
              clear hd
              have hs : Sep wf (star F1 w2 wf) noR wf (star F1 w2 wf) [] := hs0.fstart hX [] rfl rfl
              refine st tbOk 1 [21] (L' := [(21, .bool (z4 == (IntKind.i64.wrap (Int.tdiv (IntKind.i64.wrap p_s.2.1) 16))))]) hf (by kernel_rfl) ?_
              clear hf; clear a; intro a hf
              exact fq_ok (d := 21) rfl hf (hs.ex fun _ h => h) hf.1
            · intro a wf hX hf hd
              have e_14 : a.tmps.getD 14 undef = .bool ((toStr z2) == (toStr z3)) := hd 7 14 (by kernel_rfl) (by kernel_rfl)
              rw [hb2] at e_14
              have e_21 : a.tmps.getD 21 undef = .bool (z4 == (IntKind.i64.wrap (Int.tdiv (IntKind.i64.wrap p_s.2.1) 16))) := hd 14 21 (by kernel_rfl) (by kernel_rfl)
              replace hf : Fr 40 [(14, .bool true), (21, .bool (z4 == (IntKind.i64.wrap (Int.tdiv (IntKind.i64.wrap p_s.2.1) 16)))), (1, .pointer (some ⟨w.heap.size, 0, none⟩)), (6, .bool (!z1))] a := ⟨e_14, e_21, hf⟩; clear e_14 e_21
              clear hd
              have hs : Sep wf (star F1 w2 wf) noR wf (star F1 w2 wf) [] := hs0.fstart hX [] rfl rfl
              refine st tbOk 1 [22] (L' := [(22, .bool (z4 == (IntKind.i64.wrap (Int.tdiv (IntKind.i64.wrap p_s.2.1) 16))))]) hf (by kernel_rfl) ?_
              clear hf; clear a; intro a hf
              exact fq_ok (d := 22) rfl hf (hs.ex fun _ h => h) hf.1
            · intro a wf hX hf hd
              have e_22 : a.tmps.getD 22 undef = .bool (z4 == (IntKind.i64.wrap (Int.tdiv (IntKind.i64.wrap p_s.2.1) 16))) := hd 15 22 (by kernel_rfl) (by kernel_rfl)
              replace hf : Fr 40 [(22, .bool (z4 == (IntKind.i64.wrap (Int.tdiv (IntKind.i64.wrap p_s.2.1) 16)))), (1, .pointer (some ⟨w.heap.size, 0, none⟩)), (6, .bool (!z1))] a := ⟨e_22, hf⟩; clear e_22
              clear hd
              have hs : Sep wf (star F1 w2 wf) noR wf (star F1 w2 wf) [] := hs0.fstart hX [] rfl rfl
              refine st tbOk 1 [23] (L' := [(23, .bool (z4 == (IntKind.i64.wrap (Int.tdiv (IntKind.i64.wrap p_s.2.1) 16))))]) hf (by kernel_rfl) ?_
              clear hf; clear a; intro a hf
              exact fq_ok (d := 23) rfl hf (hs.ex fun _ h => h) hf.1
            · intro a wf hX hf hd
              have e_23 : a.tmps.getD 23 undef = .bool (z4 == (IntKind.i64.wrap (Int.tdiv (IntKind.i64.wrap p_s.2.1) 16))) := hd 16 23 (by kernel_rfl) (by kernel_rfl)
              rw [hb3] at e_23
              replace hf : Fr 40 [(23, .bool false), (1, .pointer (some ⟨w.heap.size, 0, none⟩)), (6, .bool (!z1))] a := ⟨e_23, hf⟩; clear e_23
              clear hd
              have hs : Sep wf (star F1 w2 wf) noR wf (star F1 w2 wf) [] := hs0.fstart hX [] rfl rfl
              refine st tbOk 1 [24] (L' := [(24, undef)]) hf (by kernel_rfl) ?_
              clear hf; clear a; intro a hf
              exact fq_ok (d := 24) rfl hf (hs.ex fun _ h => h) hf.1
            · intro a wf hX hf hd
              have e_24 : a.tmps.getD 24 undef = undef := hd 17 24 (by kernel_rfl) (by kernel_rfl)
              have e_23 : a.tmps.getD 23 undef = .bool (z4 == (IntKind.i64.wrap (Int.tdiv (IntKind.i64.wrap p_s.2.1) 16))) := hd 16 23 (by kernel_rfl) (by kernel_rfl)
              rw [hb3] at e_23
              replace hf : Fr 40 [(24, undef), (23, .bool false), (1, .pointer (some ⟨w.heap.size, 0, none⟩)), (6, .bool (!z1))] a := ⟨e_24, e_23, hf⟩; clear e_24 e_23
              clear hd
              have hs : Sep wf (star F1 w2 wf) noR wf (star F1 w2 wf) [] := hs0.fstart hX [] rfl rfl
              refine st tbOk 1 [25] (L' := [(25, undef)]) hf (by kernel_rfl) ?_
              clear hf; clear a; intro a hf
              exact fq_ok (d := 25) rfl hf (hs.ex fun _ h => h) hf.1
            · intro a wf hX hf hd
              have e_23 : a.tmps.getD 23 undef = .bool (z4 == (IntKind.i64.wrap (Int.tdiv (IntKind.i64.wrap p_s.2.1) 16))) := hd 16 23 (by kernel_rfl) (by kernel_rfl)
              rw [hb3] at e_23
              replace hf : Fr 40 [(23, .bool false), (1, .pointer (some ⟨w.heap.size, 0, none⟩)), (6, .bool (!z1))] a := ⟨e_23, hf⟩; clear e_23
              clear hd
              have hs : Sep wf (star F1 w2 wf) noR wf (star F1 w2 wf) [] := hs0.fstart hX [] rfl rfl
              refine st tbOk 1 [26] (L' := [(26, undef)]) hf (by kernel_rfl) ?_
              clear hf; clear a; intro a hf
              exact fq_ok (d := 26) rfl hf (hs.ex fun _ h => h) hf.1
            · intro a wf hX hf hd
              have e_26 : a.tmps.getD 26 undef = undef := hd 19 26 (by kernel_rfl) (by kernel_rfl)
              have e_23 : a.tmps.getD 23 undef = .bool (z4 == (IntKind.i64.wrap (Int.tdiv (IntKind.i64.wrap p_s.2.1) 16))) := hd 16 23 (by kernel_rfl) (by kernel_rfl)
              rw [hb3] at e_23
              replace hf : Fr 40 [(26, undef), (23, .bool false), (1, .pointer (some ⟨w.heap.size, 0, none⟩)), (6, .bool (!z1))] a := ⟨e_26, e_23, hf⟩; clear e_26 e_23
              clear hd
              have hs : Sep wf (star F1 w2 wf) noR wf (star F1 w2 wf) [] := hs0.fstart hX [] rfl rfl
              refine st tbOk 1 [27] (L' := [(27, undef)]) hf (by kernel_rfl) ?_
              clear hf; clear a; intro a hf
              exact fq_ok (d := 27) rfl hf (hs.ex fun _ h => h) hf.1
            · intro a wf hX hf hd
              have e_27 : a.tmps.getD 27 undef = undef := hd 20 27 (by kernel_rfl) (by kernel_rfl)
              have e_23 : a.tmps.getD 23 undef = .bool (z4 == (IntKind.i64.wrap (Int.tdiv (IntKind.i64.wrap p_s.2.1) 16))) := hd 16 23 (by kernel_rfl) (by kernel_rfl)
              rw [hb3] at e_23
              replace hf : Fr 40 [(27, undef), (23, .bool false), (1, .pointer (some ⟨w.heap.size, 0, none⟩)), (6, .bool (!z1))] a := ⟨e_27, e_23, hf⟩; clear e_27 e_23
              clear hd
              have hs : Sep wf (star F1 w2 wf) noR wf (star F1 w2 wf) [] := hs0.fstart hX [] rfl rfl
              refine st tbOk 1 [28] (L' := [(28, undef)]) hf (by kernel_rfl) ?_
              clear hf; clear a; intro a hf
              exact fq_ok (d := 28) rfl hf (hs.ex fun _ h => h) hf.1
            · intro a wf hX hf hd
              have e_28 : a.tmps.getD 28 undef = undef := hd 21 28 (by kernel_rfl) (by kernel_rfl)
              have e_23 : a.tmps.getD 23 undef = .bool (z4 == (IntKind.i64.wrap (Int.tdiv (IntKind.i64.wrap p_s.2.1) 16))) := hd 16 23 (by kernel_rfl) (by kernel_rfl)
              rw [hb3] at e_23
              replace hf : Fr 40 [(28, undef), (23, .bool false), (1, .pointer (some ⟨w.heap.size, 0, none⟩)), (6, .bool (!z1))] a := ⟨e_28, e_23, hf⟩; clear e_28 e_23
              clear hd
              have hs : Sep wf (star F1 w2 wf) noR wf (star F1 w2 wf) [] := hs0.fstart hX [] rfl rfl
              refine st tbOk 1 [29] (L' := [(29, undef)]) hf (by kernel_rfl) ?_
              clear hf; clear a; intro a hf
              exact fq_ok (d := 29) rfl hf (hs.ex fun _ h => h) hf.1
            · intro a wf hX hf hd
              have e_25 : a.tmps.getD 25 undef = undef := hd 18 25 (by kernel_rfl) (by kernel_rfl)
              have e_29 : a.tmps.getD 29 undef = undef := hd 22 29 (by kernel_rfl) (by kernel_rfl)
              have e_23 : a.tmps.getD 23 undef = .bool (z4 == (IntKind.i64.wrap (Int.tdiv (IntKind.i64.wrap p_s.2.1) 16))) := hd 16 23 (by kernel_rfl) (by kernel_rfl)
              rw [hb3] at e_23
              replace hf : Fr 40 [(25, undef), (29, undef), (23, .bool false), (1, .pointer (some ⟨w.heap.size, 0, none⟩)), (6, .bool (!z1))] a := ⟨e_25, e_29, e_23, hf⟩; clear e_25 e_29 e_23
              clear hd
              have hs : Sep wf (star F1 w2 wf) noR wf (star F1 w2 wf) [] := hs0.fstart hX [] rfl rfl
              refine st tbOk 1 [30] (L' := [(30, undef)]) hf (by kernel_rfl) ?_
              clear hf; clear a; intro a hf
              exact fq_ok (d := 30) rfl hf (hs.ex fun _ h => h) hf.1
            · intro a wf hX hf hd
              have e_23 : a.tmps.getD 23 undef = .bool (z4 == (IntKind.i64.wrap (Int.tdiv (IntKind.i64.wrap p_s.2.1) 16))) := hd 16 23 (by kernel_rfl) (by kernel_rfl)
              rw [hb3] at e_23
              have e_30 : a.tmps.getD 30 undef = undef := hd 23 30 (by kernel_rfl) (by kernel_rfl)
              replace hf : Fr 40 [(23, .bool false), (30, undef), (1, .pointer (some ⟨w.heap.size, 0, none⟩)), (6, .bool (!z1))] a := ⟨e_23, e_30, hf⟩; clear e_23 e_30
              clear hd
              have hs : Sep wf (star F1 w2 wf) noR wf (star F1 w2 wf) [] := hs0.fstart hX [] rfl rfl
              refine st tbOk 1 [31] (L' := [(31, .bool false)]) hf (by kernel_rfl) ?_
              clear hf; clear a; intro a hf
              exact fq_ok (d := 31) rfl hf (hs.ex fun _ h => h) hf.1
            · intro a wf hX hf hd
              have e_31 : a.tmps.getD 31 undef = .bool false := hd 24 31 (by kernel_rfl) (by kernel_rfl)
              replace hf : Fr 40 [(31, .bool false), (1, .pointer (some ⟨w.heap.size, 0, none⟩)), (6, .bool (!z1))] a := ⟨e_31, hf⟩; clear e_31
              clear hd
              have hs : Sep wf (star F1 w2 wf) noR wf (star F1 w2 wf) [] := hs0.fstart hX [] rfl rfl
              refine st tbOk 1 [32] (L' := [(32, .bool false)]) hf (by kernel_rfl) ?_
              clear hf; clear a; intro a hf
              exact fq_ok (d := 32) rfl hf (hs.ex fun _ h => h) hf.1
            · intro a wf hX hf hd
              have e_32 : a.tmps.getD 32 undef = .bool false := hd 25 32 (by kernel_rfl) (by kernel_rfl)
              replace hf : Fr 40 [(32, .bool false), (1, .pointer (some ⟨w.heap.size, 0, none⟩)), (6, .bool (!z1))] a := ⟨e_32, hf⟩; clear e_32
              clear hd
              have hs : Sep wf (star F1 w2 wf) noR wf (star F1 w2 wf) [] := hs0.fstart hX [] rfl rfl
              refine st tbOk 1 [33] (L' := [(33, undef)]) hf (by kernel_rfl) ?_
              clear hf; clear a; intro a hf
              exact fq_ok (d := 33) rfl hf (hs.ex fun _ h => h) hf.1
            · intro a wf hX hf hd
              have e_33 : a.tmps.getD 33 undef = undef := hd 26 33 (by kernel_rfl) (by kernel_rfl)
              have e_32 : a.tmps.getD 32 undef = .bool false := hd 25 32 (by kernel_rfl) (by kernel_rfl)
              replace hf : Fr 40 [(33, undef), (32, .bool false), (1, .pointer (some ⟨w.heap.size, 0, none⟩)), (6, .bool (!z1))] a := ⟨e_33, e_32, hf⟩; clear e_33 e_32
              clear hd
              have hs : Sep wf (star F1 w2 wf) noR wf (star F1 w2 wf) [] := hs0.fstart hX [] rfl rfl
              refine st tbOk 1 [34] (L' := [(34, undef)]) hf (by kernel_rfl) ?_
              clear hf; clear a; intro a hf
              exact fq_ok (d := 34) rfl hf (hs.ex fun _ h => h) hf.1
            · intro a wf hX hf hd
              have e_32 : a.tmps.getD 32 undef = .bool false := hd 25 32 (by kernel_rfl) (by kernel_rfl)
              replace hf : Fr 40 [(32, .bool false), (1, .pointer (some ⟨w.heap.size, 0, none⟩)), (6, .bool (!z1))] a := ⟨e_32, hf⟩; clear e_32
              clear hd
              have hs : Sep wf (star F1 w2 wf) noR wf (star F1 w2 wf) [] := hs0.fstart hX [] rfl rfl
              refine st tbOk 1 [35] (L' := [(35, undef)]) hf (by kernel_rfl) ?_
              clear hf; clear a; intro a hf
              exact fq_ok (d := 35) rfl hf (hs.ex fun _ h => h) hf.1
            · intro a wf hX hf hd
              have e_35 : a.tmps.getD 35 undef = undef := hd 28 35 (by kernel_rfl) (by kernel_rfl)
              have e_32 : a.tmps.getD 32 undef = .bool false := hd 25 32 (by kernel_rfl) (by kernel_rfl)
              replace hf : Fr 40 [(35, undef), (32, .bool false), (1, .pointer (some ⟨w.heap.size, 0, none⟩)), (6, .bool (!z1))] a := ⟨e_35, e_32, hf⟩; clear e_35 e_32
              clear hd
              have hs : Sep wf (star F1 w2 wf) noR wf (star F1 w2 wf) [] := hs0.fstart hX [] rfl rfl
              refine st tbOk 1 [36] (L' := [(36, undef)]) hf (by kernel_rfl) ?_
              clear hf; clear a; intro a hf
              exact fq_ok (d := 36) rfl hf (hs.ex fun _ h => h) hf.1
            · intro a wf hX hf hd
              have e_36 : a.tmps.getD 36 undef = undef := hd 29 36 (by kernel_rfl) (by kernel_rfl)
              have e_32 : a.tmps.getD 32 undef = .bool false := hd 25 32 (by kernel_rfl) (by kernel_rfl)
              replace hf : Fr 40 [(36, undef), (32, .bool false), (1, .pointer (some ⟨w.heap.size, 0, none⟩)), (6, .bool (!z1))] a := ⟨e_36, e_32, hf⟩; clear e_36 e_32
              clear hd
              have hs : Sep wf (star F1 w2 wf) noR wf (star F1 w2 wf) [] := hs0.fstart hX [] rfl rfl
              refine st tbOk 1 [37] (L' := [(37, undef)]) hf (by kernel_rfl) ?_
              clear hf; clear a; intro a hf
              exact fq_ok (d := 37) rfl hf (hs.ex fun _ h => h) hf.1
            · intro a wf hX hf hd
              have e_34 : a.tmps.getD 34 undef = undef := hd 27 34 (by kernel_rfl) (by kernel_rfl)
              have e_37 : a.tmps.getD 37 undef = undef := hd 30 37 (by kernel_rfl) (by kernel_rfl)
              have e_32 : a.tmps.getD 32 undef = .bool false := hd 25 32 (by kernel_rfl) (by kernel_rfl)
              replace hf : Fr 40 [(34, undef), (37, undef), (32, .bool false), (1, .pointer (some ⟨w.heap.size, 0, none⟩)), (6, .bool (!z1))] a := ⟨e_34, e_37, e_32, hf⟩; clear e_34 e_37 e_32
              clear hd
              have hs : Sep wf (star F1 w2 wf) noR wf (star F1 w2 wf) [] := hs0.fstart hX [] rfl rfl
              refine st tbOk 1 [38] (L' := [(38, undef)]) hf (by kernel_rfl) ?_
              clear hf; clear a; intro a hf
              exact fq_ok (d := 38) rfl hf (hs.ex fun _ h => h) hf.1
            · intro a wf hX hf hd
              have e_32 : a.tmps.getD 32 undef = .bool false := hd 25 32 (by kernel_rfl) (by kernel_rfl)
              have e_38 : a.tmps.getD 38 undef = undef := hd 31 38 (by kernel_rfl) (by kernel_rfl)
              replace hf : Fr 40 [(32, .bool false), (38, undef), (1, .pointer (some ⟨w.heap.size, 0, none⟩)), (6, .bool (!z1))] a := ⟨e_32, e_38, hf⟩; clear e_32 e_38
              clear hd
              have hs : Sep wf (star F1 w2 wf) noR wf (star F1 w2 wf) [] := hs0.fstart hX [] rfl rfl
              refine st tbOk 1 [39] (L' := [(39, .bool false)]) hf (by kernel_rfl) ?_
              clear hf; clear a; intro a hf
              exact fq_ok (d := 39) rfl hf (hs.ex fun _ h => h) hf.1
            · intro a wf hX hf hd
              have e_39 : a.tmps.getD 39 undef = .bool false := hd 32 39 (by kernel_rfl) (by kernel_rfl)
              replace hf : Fr 40 [(39, .bool false), (1, .pointer (some ⟨w.heap.size, 0, none⟩)), (6, .bool (!z1))] a := ⟨e_39, hf⟩; clear e_39
              clear hd
              have hs : Sep wf (star F1 w2 wf) noR wf (star F1 w2 wf) [] := hs0.fstart hX [] rfl rfl
              refine st tbOk 1 [2] (L' := [(2, .bool false)]) hf (by kernel_rfl) ?_
              clear hf; clear a; intro a hf
              exact fq_ok (d := 2) rfl hf (hs.ex fun _ h => h) hf.1
          · clear hf hs; clear a; intro a w10 hx hf hd
            have hs : Sep w F R w10 (star F1 w2 w10) [.box w.heap.size 65 [.int .u32 p_s.1, .int .u8 p_s.2.1, .int .u8 p_s.2.2.1, .int .u16 p_s.2.2.2.1, .int .u64 p_s.2.2.2.2.1, .int .u64 p_s.2.2.2.2.2]] := hs0.starX hx
            have e_2 : a.tmps.getD 2 undef = .bool false := hd 33 2 (by kernel_rfl) (by kernel_rfl)
            clear hd hx
            clear hs0
            replace hf : Fr 40 [(2, .bool false), (1, .pointer (some ⟨w.heap.size, 0, none⟩)), (6, .bool (!z1))] a := ⟨e_2, hf⟩
            clear e_2
            replace hs : Sep w F R w10 (star F1 w2 w10) [] := hs.sel [] rfl rfl
            replace hf := Fr.keep (ks := [2]) (L' := [(2, .bool false)]) hf (by kernel_rfl)
            refine wpList_nil ?_
            exact hK1 false _ _ ⟨_, hs.sel [] rfl rfl, hf.keep (ks := [2]) (by kernel_rfl)⟩ hS
      · replace hS := of_f hb2 hS
        have hs0 := hs
        refine regF 34 [fun u uw => u = .agg #[.int .u32 p_s.1, .int .u8 p_s.2.1, .int .u8 p_s.2.2.1, .int .u16 p_s.2.2.2.1, .int .u64 p_s.2.2.2.2.1, .int .u64 p_s.2.2.2.2.2],
    fun u uw => ∃ (ao2 : Option Addr) (cp2 : Nat) (F' : SH), u = .slice ao2 z2.length cp2 ∧ Sep w2 F1 noR uw F' [.row 5 (tI .u8) (.slice ao2 z2.length cp2) z2],
    fun u uw => u = strV (toStr z2),
    fun u uw => u = .agg #[.int .u32 p_s.1, .int .u8 p_s.2.1, .int .u8 p_s.2.2.1, .int .u16 p_s.2.2.2.1, .int .u64 p_s.2.2.2.2.1, .int .u64 p_s.2.2.2.2.2],
    fun u uw => ∃ (ao4 : Option Addr) (cp4 : Nat) (F' : SH), u = .slice ao4 z3.length cp4 ∧ Sep w2 F1 noR uw F' [.row 5 (tI .u8) (.slice ao4 z3.length cp4) z3],
    fun u uw => u = strV (toStr z3),
    fun u uw => u = .bool ((toStr z2) == (toStr z3)),
    fun u uw => u = .bool ((toStr z2) == (toStr z3)),
    fun u uw => u = undef,
    fun u uw => u = undef,
    fun u uw => u = undef,
    fun u uw => u = undef,
    fun u uw => u = undef,
    fun u uw => u = undef,
    fun u uw => u = undef,
    fun u uw => u = .bool false,
    fun u uw => u = .bool false,
    fun u uw => u = undef,
    fun u uw => u = undef,
    fun u uw => u = undef,
    fun u uw => u = undef,
    fun u uw => u = undef,
    fun u uw => u = undef,
    fun u uw => u = undef,
    fun u uw => u = .bool false,
    fun u uw => u = .bool false,
    fun u uw => u = undef,
    fun u uw => u = undef,
    fun u uw => u = undef,
    fun u uw => u = undef,
    fun u uw => u = undef,
    fun u uw => u = undef,
    fun u uw => u = .bool false,
    fun u uw => u = .bool false] mixed (Fr.keep (ks := [1, 6]) (L' := [(1, .pointer (some ⟨w.heap.size, 0, none⟩)), (6, .bool (!z1))]) hf (by kernel_rfl)) (by kernel_rfl) rfl ?_ ?_ ?_
        · exact ⟨fun _ _ _ h _ => h, fun _ _ _ ⟨ao2, cp2, F', e, h⟩ hx => ⟨ao2, cp2, F', e, h.ext hx⟩, fun _ _ _ h _ => h, fun _ _ _ h _ => h, fun _ _ _ ⟨ao4, cp4, F', e, h⟩ hx => ⟨ao4, cp4, F', e, h.ext hx⟩, fun _ _ _ h _ => h, fun _ _ _ h _ => h, fun _ _ _ h _ => h, fun _ _ _ h _ => h, fun _ _ _ h _ => h, fun _ _ _ h _ => h, fun _ _ _ h _ => h, fun _ _ _ h _ => h, fun _ _ _ h _ => h, fun _ _ _ h _ => h, fun _ _ _ h _ => h, fun _ _ _ h _ => h, fun _ _ _ h _ => h, fun _ _ _ h _ => h, fun _ _ _ h _ => h, fun _ _ _ h _ => h, fun _ _ _ h _ => h, fun _ _ _ h _ => h, fun _ _ _ h _ => h, fun _ _ _ h _ => h, fun _ _ _ h _ => h, fun _ _ _ h _ => h, fun _ _ _ h _ => h, fun _ _ _ h _ => h, fun _ _ _ h _ => h, fun _ _ _ h _ => h, fun _ _ _ h _ => h, fun _ _ _ h _ => h, fun _ _ _ h _ => h, trivial⟩
        · clear hS hf hs; clear a
          refine ⟨?_, ?_, ?_, ?_, ?_, ?_, ?_, ?_, ?_, ?_, ?_, ?_, ?_, ?_, ?_, ?_, ?_, ?_, ?_, ?_, ?_, ?_, ?_, ?_, ?_, ?_, ?_, ?_, ?_, ?_, ?_, ?_, ?_, ?_, trivial⟩
          · intro a wf hX hf hd
            clear hd
            have hs : Sep wf (star F1 w2 wf) noR wf (star F1 w2 wf) [] := hs0.fstart hX [] rfl rfl
            refine ldC tbOk (T := 65) ((hs0.cbx 0 rfl).mono hX.le) (LeH.refl _) 0 (.agg #[.int .u32 p_s.1, .int .u8 p_s.2.1, .int .u8 p_s.2.2.1, .int .u16 p_s.2.2.2.1, .int .u64 p_s.2.2.2.2.1, .int .u64 p_s.2.2.2.2.2]) hf (by kernel_rfl) (by kernel_rfl) (by kernel_rfl) (by kernel_rfl) ?_
            clear hf; clear a; intro a hf
            exact fq_ok (d := 7) rfl hf (hs.ex fun _ h => h) hf.1
          · intro a wf hX hf hd
            have e_7 : a.tmps.getD 7 undef = .agg #[.int .u32 p_s.1, .int .u8 p_s.2.1, .int .u8 p_s.2.2.1, .int .u16 p_s.2.2.2.1, .int .u64 p_s.2.2.2.2.1, .int .u64 p_s.2.2.2.2.2] := hd 0 7 (by kernel_rfl) (by kernel_rfl)
            replace hf : Fr 40 [(7, .agg #[.int .u32 p_s.1, .int .u8 p_s.2.1, .int .u8 p_s.2.2.1, .int .u16 p_s.2.2.2.1, .int .u64 p_s.2.2.2.2.1, .int .u64 p_s.2.2.2.2.2]), (1, .pointer (some ⟨w.heap.size, 0, none⟩)), (6, .bool (!z1))] a := ⟨e_7, hf⟩; clear e_7
            clear hd
            have hs : Sep wf (star F1 w2 wf) noR wf (star F1 w2 wf) [] := hs0.fstart hX [] rfl rfl
            refine clV ent26 (vs := [.agg #[.int .u32 p_s.1, .int .u8 p_s.2.1, .int .u8 p_s.2.2.1, .int .u16 p_s.2.2.2.1, .int .u64 p_s.2.2.2.2.1, .int .u64 p_s.2.2.2.2.2]]) (caps := []) hf (by kernel_rfl) (by kernel_rfl) (by kernel_rfl) (by kernel_rfl) (symbols_Put_ok (p_s := (p_s.1, p_s.2.1, p_s.2.2.1, p_s.2.2.2.1, p_s.2.2.2.2.1, p_s.2.2.2.2.2)) (hs.enter [] rfl rfl) hz2) ?_
            clear hf; clear a; intro v w3 a hT hf; obtain ⟨ao1, cp1, F3, rfl, hr⟩ := hT
            replace hs : Sep wf (star F1 w2 wf) noR w3 F3 [.row 5 (tI .u8) (.slice ao1 z2.length cp1) z2] := hs.back [] [] rfl rfl rfl rfl hr
            clear hr
            exact fq_ok (d := 8) rfl hf (hs.ex fun _ h => h) ⟨ao1, cp1, _, hf.1, (hs.sel [0] rfl rfl).rebase hX⟩
          · intro a wf hX hf hd
            obtain ⟨ao2, cp2, F_8, e_8, h_8⟩ : ∃ (ao2 : Option Addr) (cp2 : Nat) (F' : SH), a.tmps.getD 8 undef = .slice ao2 z2.length cp2 ∧ Sep w2 F1 noR wf F' [.row 5 (tI .u8) (.slice ao2 z2.length cp2) z2] := hd 1 8 (by kernel_rfl) (by kernel_rfl)
            replace hf : Fr 40 [(8, .slice ao2 z2.length cp2), (1, .pointer (some ⟨w.heap.size, 0, none⟩)), (6, .bool (!z1))] a := ⟨e_8, hf⟩; clear e_8
            clear hd
            have hs : Sep wf (star F1 w2 wf) noR wf (star F1 w2 wf) [] := hs0.fstart hX [] rfl rfl
            replace hs : Sep wf (star F1 w2 wf) noR wf (star F1 w2 wf) [.ro (tI .u8) (.slice ao2 z2.length cp2) z2] := hs.addStar h_8 0 rfl rfl
            clear h_8
            refine b2sR tbOk u22 u5 u9 (hs.raR 0 rfl) hf (by kernel_rfl) (by kernel_rfl) (by kernel_rfl) ?_
            clear hf; clear a; intro a hf
            exact fq_ok (d := 9) rfl hf (hs.ex fun _ h => h) hf.1
          · intro a wf hX hf hd
            clear hd
            have hs : Sep wf (star F1 w2 wf) noR wf (star F1 w2 wf) [] := hs0.fstart hX [] rfl rfl
            refine ldC tbOk (T := 65) ((hs0.cbx 0 rfl).mono hX.le) (LeH.refl _) 0 (.agg #[.int .u32 p_s.1, .int .u8 p_s.2.1, .int .u8 p_s.2.2.1, .int .u16 p_s.2.2.2.1, .int .u64 p_s.2.2.2.2.1, .int .u64 p_s.2.2.2.2.2]) hf (by kernel_rfl) (by kernel_rfl) (by kernel_rfl) (by kernel_rfl) ?_
            clear hf; clear a; intro a hf
            exact fq_ok (d := 10) rfl hf (hs.ex fun _ h => h) hf.1
          · intro a wf hX hf hd
            have e_10 : a.tmps.getD 10 undef = .agg #[.int .u32 p_s.1, .int .u8 p_s.2.1, .int .u8 p_s.2.2.1, .int .u16 p_s.2.2.2.1, .int .u64 p_s.2.2.2.2.1, .int .u64 p_s.2.2.2.2.2] := hd 3 10 (by kernel_rfl) (by kernel_rfl)
            replace hf : Fr 40 [(10, .agg #[.int .u32 p_s.1, .int .u8 p_s.2.1, .int .u8 p_s.2.2.1, .int .u16 p_s.2.2.2.1, .int .u64 p_s.2.2.2.2.1, .int .u64 p_s.2.2.2.2.2]), (1, .pointer (some ⟨w.heap.size, 0, none⟩)), (6, .bool (!z1))] a := ⟨e_10, hf⟩; clear e_10
            clear hd
            have hs : Sep wf (star F1 w2 wf) noR wf (star F1 w2 wf) [] := hs0.fstart hX [] rfl rfl
            refine clV ent27 (vs := [.agg #[.int .u32 p_s.1, .int .u8 p_s.2.1, .int .u8 p_s.2.2.1, .int .u16 p_s.2.2.2.1, .int .u64 p_s.2.2.2.2.1, .int .u64 p_s.2.2.2.2.2]]) (caps := []) hf (by kernel_rfl) (by kernel_rfl) (by kernel_rfl) (by kernel_rfl) (ref06_Put_ok (p_s := (p_s.1, p_s.2.1, p_s.2.2.1, p_s.2.2.2.1, p_s.2.2.2.2.1, p_s.2.2.2.2.2)) (hs.enter [] rfl rfl) hz3) ?_
            clear hf; clear a; intro v w4 a hT hf; obtain ⟨ao3, cp3, F4, rfl, hr⟩ := hT
            replace hs : Sep wf (star F1 w2 wf) noR w4 F4 [.row 5 (tI .u8) (.slice ao3 z3.length cp3) z3] := hs.back [] [] rfl rfl rfl rfl hr
            clear hr
            exact fq_ok (d := 11) rfl hf (hs.ex fun _ h => h) ⟨ao3, cp3, _, hf.1, (hs.sel [0] rfl rfl).rebase hX⟩
          · intro a wf hX hf hd
            obtain ⟨ao4, cp4, F_11, e_11, h_11⟩ : ∃ (ao4 : Option Addr) (cp4 : Nat) (F' : SH), a.tmps.getD 11 undef = .slice ao4 z3.length cp4 ∧ Sep w2 F1 noR wf F' [.row 5 (tI .u8) (.slice ao4 z3.length cp4) z3] := hd 4 11 (by kernel_rfl) (by kernel_rfl)
            replace hf : Fr 40 [(11, .slice ao4 z3.length cp4), (1, .pointer (some ⟨w.heap.size, 0, none⟩)), (6, .bool (!z1))] a := ⟨e_11, hf⟩; clear e_11
            clear hd
            have hs : Sep wf (star F1 w2 wf) noR wf (star F1 w2 wf) [] := hs0.fstart hX [] rfl rfl
            replace hs : Sep wf (star F1 w2 wf) noR wf (star F1 w2 wf) [.ro (tI .u8) (.slice ao4 z3.length cp4) z3] := hs.addStar h_11 0 rfl rfl
            clear h_11
            refine b2sR tbOk u22 u5 u9 (hs.raR 0 rfl) hf (by kernel_rfl) (by kernel_rfl) (by kernel_rfl) ?_
            clear hf; clear a; intro a hf
            exact fq_ok (d := 12) rfl hf (hs.ex fun _ h => h) hf.1
          · intro a wf hX hf hd
            have e_9 : a.tmps.getD 9 undef = strV (toStr z2) := hd 2 9 (by kernel_rfl) (by kernel_rfl)
            have e_12 : a.tmps.getD 12 undef = strV (toStr z3) := hd 5 12 (by kernel_rfl) (by kernel_rfl)
            replace hf : Fr 40 [(9, strV (toStr z2)), (12, strV (toStr z3)), (1, .pointer (some ⟨w.heap.size, 0, none⟩)), (6, .bool (!z1))] a := ⟨e_9, e_12, hf⟩; clear e_9 e_12
            clear hd
            have hs : Sep wf (star F1 w2 wf) noR wf (star F1 w2 wf) [] := hs0.fstart hX [] rfl rfl
            refine st tbOk 1 [13] (L' := [(13, .bool ((toStr z2) == (toStr z3)))]) hf (by kernel_rfl) ?_
            clear hf; clear a; intro a hf
            exact fq_ok (d := 13) rfl hf (hs.ex fun _ h => h) hf.1
          · intro a wf hX hf hd
            have e_13 : a.tmps.getD 13 undef = .bool ((toStr z2) == (toStr z3)) := hd 6 13 (by kernel_rfl) (by kernel_rfl)
            replace hf : Fr 40 [(13, .bool ((toStr z2) == (toStr z3))), (1, .pointer (some ⟨w.heap.size, 0, none⟩)), (6, .bool (!z1))] a := ⟨e_13, hf⟩; clear e_13
            clear hd
            have hs : Sep wf (star F1 w2 wf) noR wf (star F1 w2 wf) [] := hs0.fstart hX [] rfl rfl
            refine st tbOk 1 [14] (L' := [(14, .bool ((toStr z2) == (toStr z3)))]) hf (by kernel_rfl) ?_
            clear hf; clear a; intro a hf
            exact fq_ok (d := 14) rfl hf (hs.ex fun _ h => h) hf.1
          · intro a wf hX hf hd
            have e_14 : a.tmps.getD 14 undef = .bool ((toStr z2) == (toStr z3)) := hd 7 14 (by kernel_rfl) (by kernel_rfl)
            rw [hb2] at e_14
            replace hf : Fr 40 [(14, .bool false), (1, .pointer (some ⟨w.heap.size, 0, none⟩)), (6, .bool (!z1))] a := ⟨e_14, hf⟩; clear e_14
            clear hd
            have hs : Sep wf (star F1 w2 wf) noR wf (star F1 w2 wf) [] := hs0.fstart hX [] rfl rfl
            refine st tbOk 1 [15] (L' := [(15, undef)]) hf (by kernel_rfl) ?_
            clear hf; clear a; intro a hf
            exact fq_ok (d := 15) rfl hf (hs.ex fun _ h => h) hf.1
          · intro a wf hX hf hd
            have e_15 : a.tmps.getD 15 undef = undef := hd 8 15 (by kernel_rfl) (by kernel_rfl)
            have e_14 : a.tmps.getD 14 undef = .bool ((toStr z2) == (toStr z3)) := hd 7 14 (by kernel_rfl) (by kernel_rfl)
            rw [hb2] at e_14
            replace hf : Fr 40 [(15, undef), (14, .bool false), (1, .pointer (some ⟨w.heap.size, 0, none⟩)), (6, .bool (!z1))] a := ⟨e_15, e_14, hf⟩; clear e_15 e_14
            clear hd
            have hs : Sep wf (star F1 w2 wf) noR wf (star F1 w2 wf) [] := hs0.fstart hX [] rfl rfl
            refine st tbOk 1 [16] (L' := [(16, undef)]) hf (by kernel_rfl) ?_
            clear hf; clear a; intro a hf
            exact fq_ok (d := 16) rfl hf (hs.ex fun _ h => h) hf.1
          · intro a wf hX hf hd
            have e_14 : a.tmps.getD 14 undef = .bool ((toStr z2) == (toStr z3)) := hd 7 14 (by kernel_rfl) (by kernel_rfl)
            rw [hb2] at e_14
            replace hf : Fr 40 [(14, .bool false), (1, .pointer (some ⟨w.heap.size, 0, none⟩)), (6, .bool (!z1))] a := ⟨e_14, hf⟩; clear e_14
            clear hd
            have hs : Sep wf (star F1 w2 wf) noR wf (star F1 w2 wf) [] := hs0.fstart hX [] rfl rfl
            refine st tbOk 1 [17] (L' := [(17, undef)]) hf (by kernel_rfl) ?_
            clear hf; clear a; intro a hf
            exact fq_ok (d := 17) rfl hf (hs.ex fun _ h => h) hf.1
          · intro a wf hX hf hd
            have e_17 : a.tmps.getD 17 undef = undef := hd 10 17 (by kernel_rfl) (by kernel_rfl)
            have e_14 : a.tmps.getD 14 undef = .bool ((toStr z2) == (toStr z3)) := hd 7 14 (by kernel_rfl) (by kernel_rfl)
            rw [hb2] at e_14
            replace hf : Fr 40 [(17, undef), (14, .bool false), (1, .pointer (some ⟨w.heap.size, 0, none⟩)), (6, .bool (!z1))] a := ⟨e_17, e_14, hf⟩; clear e_17 e_14
            clear hd
            have hs : Sep wf (star F1 w2 wf) noR wf (star F1 w2 wf) [] := hs0.fstart hX [] rfl rfl
            refine st tbOk 1 [18] (L' := [(18, undef)]) hf (by kernel_rfl) ?_
            clear hf; clear a; intro a hf
            exact fq_ok (d := 18) rfl hf (hs.ex fun _ h => h) hf.1
          · intro a wf hX hf hd
            have e_18 : a.tmps.getD 18 undef = undef := hd 11 18 (by kernel_rfl) (by kernel_rfl)
            have e_14 : a.tmps.getD 14 undef = .bool ((toStr z2) == (toStr z3)) := hd 7 14 (by kernel_rfl) (by kernel_rfl)
            rw [hb2] at e_14
            replace hf : Fr 40 [(18, undef), (14, .bool false), (1, .pointer (some ⟨w.heap.size, 0, none⟩)), (6, .bool (!z1))] a := ⟨e_18, e_14, hf⟩; clear e_18 e_14
            clear hd
            have hs : Sep wf (star F1 w2 wf) noR wf (star F1 w2 wf) [] := hs0.fstart hX [] rfl rfl
            refine st tbOk 1 [19] (L' := [(19, undef)]) hf (by kernel_rfl) ?_
            clear hf; clear a; intro a hf
            exact fq_ok (d := 19) rfl hf (hs.ex fun _ h => h) hf.1
          · intro a wf hX hf hd
            have e_19 : a.tmps.getD 19 undef = undef := hd 12 19 (by kernel_rfl) (by kernel_rfl)
            have e_14 : a.tmps.getD 14 undef = .bool ((toStr z2) == (toStr z3)) := hd 7 14 (by kernel_rfl) (by kernel_rfl)
            rw [hb2] at e_14
            replace hf : Fr 40 [(19, undef), (14, .bool false), (1, .pointer (some ⟨w.heap.size, 0, none⟩)), (6, .bool (!z1))] a := ⟨e_19, e_14, hf⟩; clear e_19 e_14
            clear hd
            have hs : Sep wf (star F1 w2 wf) noR wf (star F1 w2 wf) [] := hs0.fstart hX [] rfl rfl
            refine st tbOk 1 [20] (L' := [(20, undef)]) hf (by kernel_rfl) ?_
            clear hf; clear a; intro a hf
            exact fq_ok (d := 20) rfl hf (hs.ex fun _ h => h) hf.1
          · intro a wf hX hf hd
            have e_16 : a.tmps.getD 16 undef = undef := hd 9 16 (by kernel_rfl) (by kernel_rfl)
            have e_20 : a.tmps.getD 20 undef = undef := hd 13 20 (by kernel_rfl) (by kernel_rfl)
            have e_14 : a.tmps.getD 14 undef = .bool ((toStr z2) == (toStr z3)) := hd 7 14 (by kernel_rfl) (by kernel_rfl)
            rw [hb2] at e_14
            replace hf : Fr 40 [(16, undef), (20, undef), (14, .bool false), (1, .pointer (some ⟨w.heap.size, 0, none⟩)), (6, .bool (!z1))] a := ⟨e_16, e_20, e_14, hf⟩; clear e_16 e_20 e_14
            clear hd
            have hs : Sep wf (star F1 w2 wf) noR wf (star F1 w2 wf) [] := hs0.fstart hX [] rfl rfl
            refine st tbOk 1 [21] (L' := [(21, undef)]) hf (by kernel_rfl) ?_
            clear hf; clear a; intro a hf
            exact fq_ok (d := 21) rfl hf (hs.ex fun _ h => h) hf.1
          · intro a wf hX hf hd
            have e_14 : a.tmps.getD 14 undef = .bool ((toStr z2) == (toStr z3)) := hd 7 14 (by kernel_rfl) (by kernel_rfl)
            rw [hb2] at e_14
            have e_21 : a.tmps.getD 21 undef = undef := hd 14 21 (by kernel_rfl) (by kernel_rfl)
            replace hf : Fr 40 [(14, .bool false), (21, undef), (1, .pointer (some ⟨w.heap.size, 0, none⟩)), (6, .bool (!z1))] a := ⟨e_14, e_21, hf⟩; clear e_14 e_21
            clear hd
            have hs : Sep wf (star F1 w2 wf) noR wf (star F1 w2 wf) [] := hs0.fstart hX [] rfl rfl
            refine st tbOk 1 [22] (L' := [(22, .bool false)]) hf (by kernel_rfl) ?_
            clear hf; clear a; intro a hf
            exact fq_ok (d := 22) rfl hf (hs.ex fun _ h => h) hf.1
          · intro a wf hX hf hd
            have e_22 : a.tmps.getD 22 undef = .bool false := hd 15 22 (by kernel_rfl) (by kernel_rfl)
            replace hf : Fr 40 [(22, .bool false), (1, .pointer (some ⟨w.heap.size, 0, none⟩)), (6, .bool (!z1))] a := ⟨e_22, hf⟩; clear e_22
            clear hd
            have hs : Sep wf (star F1 w2 wf) noR wf (star F1 w2 wf) [] := hs0.fstart hX [] rfl rfl
            refine st tbOk 1 [23] (L' := [(23, .bool false)]) hf (by kernel_rfl) ?_
            clear hf; clear a; intro a hf
            exact fq_ok (d := 23) rfl hf (hs.ex fun _ h => h) hf.1
          · intro a wf hX hf hd
            have e_23 : a.tmps.getD 23 undef = .bool false := hd 16 23 (by kernel_rfl) (by kernel_rfl)
            replace hf : Fr 40 [(23, .bool false), (1, .pointer (some ⟨w.heap.size, 0, none⟩)), (6, .bool (!z1))] a := ⟨e_23, hf⟩; clear e_23
            clear hd
            have hs : Sep wf (star F1 w2 wf) noR wf (star F1 w2 wf) [] := hs0.fstart hX [] rfl rfl
            refine st tbOk 1 [24] (L' := [(24, undef)]) hf (by kernel_rfl) ?_
            clear hf; clear a; intro a hf
            exact fq_ok (d := 24) rfl hf (hs.ex fun _ h => h) hf.1
          · intro a wf hX hf hd
            have e_24 : a.tmps.getD 24 undef = undef := hd 17 24 (by kernel_rfl) (by kernel_rfl)
            have e_23 : a.tmps.getD 23 undef = .bool false := hd 16 23 (by kernel_rfl) (by kernel_rfl)
            replace hf : Fr 40 [(24, undef), (23, .bool false), (1, .pointer (some ⟨w.heap.size, 0, none⟩)), (6, .bool (!z1))] a := ⟨e_24, e_23, hf⟩; clear e_24 e_23
            clear hd
            have hs : Sep wf (star F1 w2 wf) noR wf (star F1 w2 wf) [] := hs0.fstart hX [] rfl rfl
            refine st tbOk 1 [25] (L' := [(25, undef)]) hf (by kernel_rfl) ?_
            clear hf; clear a; intro a hf
            exact fq_ok (d := 25) rfl hf (hs.ex fun _ h => h) hf.1
          · intro a wf hX hf hd
            have e_23 : a.tmps.getD 23 undef = .bool false := hd 16 23 (by kernel_rfl) (by kernel_rfl)
            replace hf : Fr 40 [(23, .bool false), (1, .pointer (some ⟨w.heap.size, 0, none⟩)), (6, .bool (!z1))] a := ⟨e_23, hf⟩; clear e_23
            clear hd
            have hs : Sep wf (star F1 w2 wf) noR wf (star F1 w2 wf) [] := hs0.fstart hX [] rfl rfl
            refine st tbOk 1 [26] (L' := [(26, undef)]) hf (by kernel_rfl) ?_
            clear hf; clear a; intro a hf
            exact fq_ok (d := 26) rfl hf (hs.ex fun _ h => h) hf.1
          · intro a wf hX hf hd
            have e_26 : a.tmps.getD 26 undef = undef := hd 19 26 (by kernel_rfl) (by kernel_rfl)
            have e_23 : a.tmps.getD 23 undef = .bool false := hd 16 23 (by kernel_rfl) (by kernel_rfl)
            replace hf : Fr 40 [(26, undef), (23, .bool false), (1, .pointer (some ⟨w.heap.size, 0, none⟩)), (6, .bool (!z1))] a := ⟨e_26, e_23, hf⟩; clear e_26 e_23
            clear hd
            have hs : Sep wf (star F1 w2 wf) noR wf (star F1 w2 wf) [] := hs0.fstart hX [] rfl rfl
            refine st tbOk 1 [27] (L' := [(27, undef)]) hf (by kernel_rfl) ?_
            clear hf; clear a; intro a hf
            exact fq_ok (d := 27) rfl hf (hs.ex fun _ h => h) hf.1
          · intro a wf hX hf hd
            have e_27 : a.tmps.getD 27 undef = undef := hd 20 27 (by kernel_rfl) (by kernel_rfl)
            have e_23 : a.tmps.getD 23 undef = .bool false := hd 16 23 (by kernel_rfl) (by kernel_rfl)
            replace hf : Fr 40 [(27, undef), (23, .bool false), (1, .pointer (some ⟨w.heap.size, 0, none⟩)), (6, .bool (!z1))] a := ⟨e_27, e_23, hf⟩; clear e_27 e_23
            clear hd
            have hs : Sep wf (star F1 w2 wf) noR wf (star F1 w2 wf) [] := hs0.fstart hX [] rfl rfl
            refine st tbOk 1 [28] (L' := [(28, undef)]) hf (by kernel_rfl) ?_
            clear hf; clear a; intro a hf
            exact fq_ok (d := 28) rfl hf (hs.ex fun _ h => h) hf.1
          · intro a wf hX hf hd
            have e_28 : a.tmps.getD 28 undef = undef := hd 21 28 (by kernel_rfl) (by kernel_rfl)
            have e_23 : a.tmps.getD 23 undef = .bool false := hd 16 23 (by kernel_rfl) (by kernel_rfl)
            replace hf : Fr 40 [(28, undef), (23, .bool false), (1, .pointer (some ⟨w.heap.size, 0, none⟩)), (6, .bool (!z1))] a := ⟨e_28, e_23, hf⟩; clear e_28 e_23
            clear hd
            have hs : Sep wf (star F1 w2 wf) noR wf (star F1 w2 wf) [] := hs0.fstart hX [] rfl rfl
            refine st tbOk 1 [29] (L' := [(29, undef)]) hf (by kernel_rfl) ?_
            clear hf; clear a; intro a hf
            exact fq_ok (d := 29) rfl hf (hs.ex fun _ h => h) hf.1
          · intro a wf hX hf hd
            have e_25 : a.tmps.getD 25 undef = undef := hd 18 25 (by kernel_rfl) (by kernel_rfl)
            have e_29 : a.tmps.getD 29 undef = undef := hd 22 29 (by kernel_rfl) (by kernel_rfl)
            have e_23 : a.tmps.getD 23 undef = .bool false := hd 16 23 (by kernel_rfl) (by kernel_rfl)
            replace hf : Fr 40 [(25, undef), (29, undef), (23, .bool false), (1, .pointer (some ⟨w.heap.size, 0, none⟩)), (6, .bool (!z1))] a := ⟨e_25, e_29, e_23, hf⟩; clear e_25 e_29 e_23
            clear hd
            have hs : Sep wf (star F1 w2 wf) noR wf (star F1 w2 wf) [] := hs0.fstart hX [] rfl rfl
            refine st tbOk 1 [30] (L' := [(30, undef)]) hf (by kernel_rfl) ?_
            clear hf; clear a; intro a hf
            exact fq_ok (d := 30) rfl hf (hs.ex fun _ h => h) hf.1
          · intro a wf hX hf hd
            have e_23 : a.tmps.getD 23 undef = .bool false := hd 16 23 (by kernel_rfl) (by kernel_rfl)
            have e_30 : a.tmps.getD 30 undef = undef := hd 23 30 (by kernel_rfl) (by kernel_rfl)
            replace hf : Fr 40 [(23, .bool false), (30, undef), (1, .pointer (some ⟨w.heap.size, 0, none⟩)), (6, .bool (!z1))] a := ⟨e_23, e_30, hf⟩; clear e_23 e_30
            clear hd
            have hs : Sep wf (star F1 w2 wf) noR wf (star F1 w2 wf) [] := hs0.fstart hX [] rfl rfl
            refine st tbOk 1 [31] (L' := [(31, .bool false)]) hf (by kernel_rfl) ?_
            clear hf; clear a; intro a hf
            exact fq_ok (d := 31) rfl hf (hs.ex fun _ h => h) hf.1
          · intro a wf hX hf hd
            have e_31 : a.tmps.getD 31 undef = .bool false := hd 24 31 (by kernel_rfl) (by kernel_rfl)
            replace hf : Fr 40 [(31, .bool false), (1, .pointer (some ⟨w.heap.size, 0, none⟩)), (6, .bool (!z1))] a := ⟨e_31, hf⟩; clear e_31
            clear hd
            have hs : Sep wf (star F1 w2 wf) noR wf (star F1 w2 wf) [] := hs0.fstart hX [] rfl rfl
            refine st tbOk 1 [32] (L' := [(32, .bool false)]) hf (by kernel_rfl) ?_
            clear hf; clear a; intro a hf
            exact fq_ok (d := 32) rfl hf (hs.ex fun _ h => h) hf.1
          · intro a wf hX hf hd
            have e_32 : a.tmps.getD 32 undef = .bool false := hd 25 32 (by kernel_rfl) (by kernel_rfl)
            replace hf : Fr 40 [(32, .bool false), (1, .pointer (some ⟨w.heap.size, 0, none⟩)), (6, .bool (!z1))] a := ⟨e_32, hf⟩; clear e_32
            clear hd
            have hs : Sep wf (star F1 w2 wf) noR wf (star F1 w2 wf) [] := hs0.fstart hX [] rfl rfl
            refine st tbOk 1 [33] (L' := [(33, undef)]) hf (by kernel_rfl) ?_
            clear hf; clear a; intro a hf
            exact fq_ok (d := 33) rfl hf (hs.ex fun _ h => h) hf.1
          · intro a wf hX hf hd
            have e_33 : a.tmps.getD 33 undef = undef := hd 26 33 (by kernel_rfl) (by kernel_rfl)
            have e_32 : a.tmps.getD 32 undef = .bool false := hd 25 32 (by kernel_rfl) (by kernel_rfl)
            replace hf : Fr 40 [(33, undef), (32, .bool false), (1, .pointer (some ⟨w.heap.size, 0, none⟩)), (6, .bool (!z1))] a := ⟨e_33, e_32, hf⟩; clear e_33 e_32
            clear hd
            have hs : Sep wf (star F1 w2 wf) noR wf (star F1 w2 wf) [] := hs0.fstart hX [] rfl rfl
            refine st tbOk 1 [34] (L' := [(34, undef)]) hf (by kernel_rfl) ?_
            clear hf; clear a; intro a hf
            exact fq_ok (d := 34) rfl hf (hs.ex fun _ h => h) hf.1
          · intro a wf hX hf hd
            have e_32 : a.tmps.getD 32 undef = .bool false := hd 25 32 (by kernel_rfl) (by kernel_rfl)
            replace hf : Fr 40 [(32, .bool false), (1, .pointer (some ⟨w.heap.size, 0, none⟩)), (6, .bool (!z1))] a := ⟨e_32, hf⟩; clear e_32
            clear hd
            have hs : Sep wf (star F1 w2 wf) noR wf (star F1 w2 wf) [] := hs0.fstart hX [] rfl rfl
            refine st tbOk 1 [35] (L' := [(35, undef)]) hf (by kernel_rfl) ?_
            clear hf; clear a; intro a hf
            exact fq_ok (d := 35) rfl hf (hs.ex fun _ h => h) hf.1
          · intro a wf hX hf hd
            have e_35 : a.tmps.getD 35 undef = undef := hd 28 35 (by kernel_rfl) (by kernel_rfl)
            have e_32 : a.tmps.getD 32 undef = .bool false := hd 25 32 (by kernel_rfl) (by kernel_rfl)
            replace hf : Fr 40 [(35, undef), (32, .bool false), (1, .pointer (some ⟨w.heap.size, 0, none⟩)), (6, .bool (!z1))] a := ⟨e_35, e_32, hf⟩; clear e_35 e_32
            clear hd
            have hs : Sep wf (star F1 w2 wf) noR wf (star F1 w2 wf) [] := hs0.fstart hX [] rfl rfl
            refine st tbOk 1 [36] (L' := [(36, undef)]) hf (by kernel_rfl) ?_
            clear hf; clear a; intro a hf
            exact fq_ok (d := 36) rfl hf (hs.ex fun _ h => h) hf.1
          · intro a wf hX hf hd
            have e_36 : a.tmps.getD 36 undef = undef := hd 29 36 (by kernel_rfl) (by kernel_rfl)
            have e_32 : a.tmps.getD 32 undef = .bool false := hd 25 32 (by kernel_rfl) (by kernel_rfl)
            replace hf : Fr 40 [(36, undef), (32, .bool false), (1, .pointer (some ⟨w.heap.size, 0, none⟩)), (6, .bool (!z1))] a := ⟨e_36, e_32, hf⟩; clear e_36 e_32
            clear hd
            have hs : Sep wf (star F1 w2 wf) noR wf (star F1 w2 wf) [] := hs0.fstart hX [] rfl rfl
            refine st tbOk 1 [37] (L' := [(37, undef)]) hf (by kernel_rfl) ?_
            clear hf; clear a; intro a hf
            exact fq_ok (d := 37) rfl hf (hs.ex fun _ h => h) hf.1
          · intro a wf hX hf hd
            have e_34 : a.tmps.getD 34 undef = undef := hd 27 34 (by kernel_rfl) (by kernel_rfl)
            have e_37 : a.tmps.getD 37 undef = undef := hd 30 37 (by kernel_rfl) (by kernel_rfl)
            have e_32 : a.tmps.getD 32 undef = .bool false := hd 25 32 (by kernel_rfl) (by kernel_rfl)
            replace hf : Fr 40 [(34, undef), (37, undef), (32, .bool false), (1, .pointer (some ⟨w.heap.size, 0, none⟩)), (6, .bool (!z1))] a := ⟨e_34, e_37, e_32, hf⟩; clear e_34 e_37 e_32
            clear hd
            have hs : Sep wf (star F1 w2 wf) noR wf (star F1 w2 wf) [] := hs0.fstart hX [] rfl rfl
            refine st tbOk 1 [38] (L' := [(38, undef)]) hf (by kernel_rfl) ?_
            clear hf; clear a; intro a hf
            exact fq_ok (d := 38) rfl hf (hs.ex fun _ h => h) hf.1
          · intro a wf hX hf hd
            have e_32 : a.tmps.getD 32 undef = .bool false := hd 25 32 (by kernel_rfl) (by kernel_rfl)
            have e_38 : a.tmps.getD 38 undef = undef := hd 31 38 (by kernel_rfl) (by kernel_rfl)
            replace hf : Fr 40 [(32, .bool false), (38, undef), (1, .pointer (some ⟨w.heap.size, 0, none⟩)), (6, .bool (!z1))] a := ⟨e_32, e_38, hf⟩; clear e_32 e_38
            clear hd
            have hs : Sep wf (star F1 w2 wf) noR wf (star F1 w2 wf) [] := hs0.fstart hX [] rfl rfl
            refine st tbOk 1 [39] (L' := [(39, .bool false)]) hf (by kernel_rfl) ?_
            clear hf; clear a; intro a hf
            exact fq_ok (d := 39) rfl hf (hs.ex fun _ h => h) hf.1
          · intro a wf hX hf hd
            have e_39 : a.tmps.getD 39 undef = .bool false := hd 32 39 (by kernel_rfl) (by kernel_rfl)
            replace hf : Fr 40 [(39, .bool false), (1, .pointer (some ⟨w.heap.size, 0, none⟩)), (6, .bool (!z1))] a := ⟨e_39, hf⟩; clear e_39
            clear hd
            have hs : Sep wf (star F1 w2 wf) noR wf (star F1 w2 wf) [] := hs0.fstart hX [] rfl rfl
            refine st tbOk 1 [2] (L' := [(2, .bool false)]) hf (by kernel_rfl) ?_
            clear hf; clear a; intro a hf
            exact fq_ok (d := 2) rfl hf (hs.ex fun _ h => h) hf.1
        · clear hf hs; clear a; intro a w11 hx hf hd
          have hs : Sep w F R w11 (star F1 w2 w11) [.box w.heap.size 65 [.int .u32 p_s.1, .int .u8 p_s.2.1, .int .u8 p_s.2.2.1, .int .u16 p_s.2.2.2.1, .int .u64 p_s.2.2.2.2.1, .int .u64 p_s.2.2.2.2.2]] := hs0.starX hx
          have e_2 : a.tmps.getD 2 undef = .bool false := hd 33 2 (by kernel_rfl) (by kernel_rfl)
          clear hd hx
          clear hs0
          replace hf : Fr 40 [(2, .bool false), (1, .pointer (some ⟨w.heap.size, 0, none⟩)), (6, .bool (!z1))] a := ⟨e_2, hf⟩
          clear e_2
          replace hs : Sep w F R w11 (star F1 w2 w11) [] := hs.sel [] rfl rfl
          replace hf := Fr.keep (ks := [2]) (L' := [(2, .bool false)]) hf (by kernel_rfl)
          refine wpList_nil ?_
          exact hK1 false _ _ ⟨_, hs.sel [] rfl rfl, hf.keep (ks := [2]) (by kernel_rfl)⟩ hS

end Dm
