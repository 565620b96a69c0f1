/-
  The walk of the law RelaPuts; printed by a program of this repo. No condition.
-/
import Derived.Test.YtlbilaaofmnbfaaWT
import Derived.Test.YtlbilaaofmnbfaaW5
import Derived.Test.YtlbilaaofmnbfaaW6
namespace Dm
open Go Go.RowKit Go.Proofs

set_option maxHeartbeats 4000000 in
theorem law07_RelaPuts_ok {w : World} {F : SH} {p_x : Int × Int × Int × Int}  (hs : Sep w F (blks []) w F []) {r : Bool} (hS : law07_RelaPuts p_x = some r) :
    Calls Try.prog 7 [.agg #[.int .u64 p_x.1, .int .u32 p_x.2.1, .int .u32 p_x.2.2.1, .int .i64 p_x.2.2.2]].toArray w (Gives (fun u w' => ∃ (F' : SH), u = .bool r ∧ Sep w F (blks []) w' F' [])) := by
  generalize (blks []) = R at hs ⊢
  unfold law07_RelaPuts at hS
  refine fn_ok (vs := [.agg #[.int .u64 p_x.1, .int .u32 p_x.2.1, .int .u32 p_x.2.2.1, .int .i64 p_x.2.2.2]]) Try.func7 rfl 39 Try.ntmps7 (Nat.le_of_ble_eq_true rfl) ?_
  intro a hf
  replace hf := Fr.cast (L' := [(0, .agg #[.int .u64 p_x.1, .int .u32 p_x.2.1, .int .u32 p_x.2.2.1, .int .i64 p_x.2.2.2])]) hf (by kernel_rfl)
  refine sq ?_
  refine reg ?_
  refine bx (T := 46) [.int .u64 p_x.1, .int .u32 p_x.2.1, .int .u32 p_x.2.2.1, .int .i64 p_x.2.2.2] (v := .agg #[.int .u64 p_x.1, .int .u32 p_x.2.1, .int .u32 p_x.2.2.1, .int .i64 p_x.2.2.2]) rfl (by kernel_rfl) hf (by kernel_rfl) (by kernel_rfl) (by kernel_rfl) ?_
  clear hf; clear a; intro w1 a hb hx _ hf
  replace hs : Sep w F R w1 F [.box w.heap.size 46 [.int .u64 p_x.1, .int .u32 p_x.2.1, .int .u32 p_x.2.2.1, .int .i64 p_x.2.2.2]] := hs.newBox hb hx
  clear hb hx
  replace hf := Fr.keep (ks := [1]) (L' := [(1, .pointer (some ⟨w.heap.size, 0, none⟩))]) hf (by kernel_rfl)
  refine st tbOk 1 [1] (L' := [(1, .pointer (some ⟨w.heap.size, 0, none⟩))]) hf (by kernel_rfl) ?_
  clear hf; clear a; intro a hf
  refine wpList_nil ?_
  refine sq ?_
  refine reg ?_
  have hT := of_bd hS; clear hS; obtain ⟨z1, hz1, hS⟩ := hT
  refine clV ent19 (vs := []) (caps := []) hf (by kernel_rfl) (by kernel_rfl) (by kernel_rfl) (by kernel_rfl) (law07_awake_ok (hs.enter [] rfl rfl) hz1) ?_
  clear hf; clear a; intro v w2 a hT hf; obtain ⟨F1, rfl, hr⟩ := hT
  replace hs : Sep w F R w2 F1 [.box w.heap.size 46 [.int .u64 p_x.1, .int .u32 p_x.2.1, .int .u32 p_x.2.2.1, .int .i64 p_x.2.2.2]] := hs.back [] [0] rfl rfl rfl rfl hr
  clear hr
  replace hf := Fr.keep (ks := [1, 7]) (L' := [(1, .pointer (some ⟨w.heap.size, 0, none⟩)), (7, .bool z1)]) hf (by kernel_rfl)
  refine st tbOk 1 [1, 3] (L' := [(1, .pointer (some ⟨w.heap.size, 0, none⟩)), (3, .bool z1)]) hf (by kernel_rfl) ?_
  clear hf; clear a; intro a hf
  refine wpList_nil ?_
  refine sq ?_
  refine sq ?_
  refine reg ?_
  refine st tbOk 2 [1, 9] (L' := [(1, .pointer (some ⟨w.heap.size, 0, none⟩)), (9, .bool (!z1))]) hf (by kernel_rfl) ?_
  clear hf; clear a; intro a hf
  refine wpList_nil ?_
  refine cnd (b := !z1) hf (by kernel_rfl) (fun hb1 => ?_) (fun hb1 => ?_)
  · replace hS := of_t hb1 hS
    refine sq ?_
    refine reg ?_
    refine st tbOk 1 [2] (L' := [(2, .bool false)]) hf (by kernel_rfl) ?_
    clear hf; clear a; intro a hf
    refine wpList_nil ?_
    have hr := Option.some.inj hS; subst hr
    refine wp_ret ?_
    exact ret_ok hf (vs := [.bool false]) (by kernel_rfl) ⟨_, rfl, hs.sel [] rfl rfl⟩
  · replace hS := of_f hb1 hS
    refine wp_skip ?_
    refine sq ?_
    refine reg ?_
    refine ldC tbOk (T := 46) (hs.cbx 0 rfl) (LeH.refl _) 0 (.agg #[.int .u64 p_x.1, .int .u32 p_x.2.1, .int .u32 p_x.2.2.1, .int .i64 p_x.2.2.2]) hf (by kernel_rfl) (by kernel_rfl) (by kernel_rfl) (by kernel_rfl) ?_
    clear hf; clear a; intro a hf
    replace hf := Fr.keep (ks := [1, 10]) (L' := [(1, .pointer (some ⟨w.heap.size, 0, none⟩)), (10, .agg #[.int .u64 p_x.1, .int .u32 p_x.2.1, .int .u32 p_x.2.2.1, .int .i64 p_x.2.2.2])]) hf (by kernel_rfl)
    have hT := of_bd hS; clear hS; obtain ⟨z2, hz2, hS⟩ := hT
    refine clV ent20 (vs := [.agg #[.int .u64 p_x.1, .int .u32 p_x.2.1, .int .u32 p_x.2.2.1, .int .i64 p_x.2.2.2]]) (caps := []) hf (by kernel_rfl) (by kernel_rfl) (by kernel_rfl) (by kernel_rfl) (rela_Put_ok (p_x := (p_x.1, p_x.2.1, p_x.2.2.1, p_x.2.2.2)) (hs.enter [] rfl rfl) hz2) ?_
    clear hf; clear a; intro v w3 a hT hf; obtain ⟨ao1, cp1, F2, rfl, hr⟩ := hT
    replace hs : Sep w F R w3 F2 [.row 5 (tI .u8) (.slice ao1 z2.length cp1) z2, .box w.heap.size 46 [.int .u64 p_x.1, .int .u32 p_x.2.1, .int .u32 p_x.2.2.1, .int .i64 p_x.2.2.2]] := hs.back [] [0] rfl rfl rfl rfl hr
    clear hr
    replace hf := Fr.keep (ks := [1, 11]) (L' := [(1, .pointer (some ⟨w.heap.size, 0, none⟩)), (11, .slice ao1 z2.length cp1)]) hf (by kernel_rfl)
    refine st tbOk 1 [1, 4] (L' := [(1, .pointer (some ⟨w.heap.size, 0, none⟩)), (4, .slice ao1 z2.length cp1)]) hf (by kernel_rfl) ?_
    clear hf; clear a; intro a hf
    refine wpList_nil ?_
    refine sq ?_
    refine reg ?_
    refine st tbOk 1 [1, 4, 13] (L' := [(1, .pointer (some ⟨w.heap.size, 0, none⟩)), (4, .slice ao1 z2.length cp1), (13, .slice ao1 z2.length cp1)]) hf (by kernel_rfl) ?_
    clear hf; clear a; intro a hf
    have hT := of_bd hS; clear hS; obtain ⟨z3, hz3, hS⟩ := hT
    refine clV ent21 (vs := [.slice ao1 z2.length cp1]) (caps := []) hf (by kernel_rfl) (by kernel_rfl) (by kernel_rfl) (by kernel_rfl) (rela_Table_ok (b := z2) (hs.lend [0] [] rfl rfl rfl rfl rfl) hz3) ?_
    clear hf; clear a; intro v w4 a hT hf; obtain ⟨ao2, cp2, F3, rfl, hr⟩ := hT
    replace hs : Sep w F R w4 F2 [.row 46 ty45 (.slice ao2 z3.1.length cp2) z3.1, .row 5 (tI .u8) (.slice ao1 z2.length cp1) z2, .box w.heap.size 46 [.int .u64 p_x.1, .int .u32 p_x.2.1, .int .u32 p_x.2.2.1, .int .i64 p_x.2.2.2]] := hs.backL [0] [] [0, 1] rfl rfl rfl rfl rfl rfl hr ⟨flat45, trivial⟩
    clear hr
    replace hf := Fr.keep (ks := [1, 4, 14]) (L' := [(1, .pointer (some ⟨w.heap.size, 0, none⟩)), (4, .slice ao1 z2.length cp1), (14, .tuple #[.slice ao2 z3.1.length cp2, .int .i64 z3.2])]) hf (by kernel_rfl)
    refine st tbOk 5 [1, 4, 5, 6] (L' := [(1, .pointer (some ⟨w.heap.size, 0, none⟩)), (4, .slice ao1 z2.length cp1), (5, .slice ao2 z3.1.length cp2), (6, .int .i64 z3.2)]) hf (by kernel_rfl) ?_
    clear hf; clear a; intro a hf
    refine wpList_nil ?_
    refine sq ?_
    refine ctj (fun (s1 : Bool) (a : Act) (w' : World) => ∃ (F4 : SH), Sep w F R w' F4 [] ∧ Fr 39 [(2, .bool s1)] a) hS ?_ ?_
    · clear hS hf hs; clear a; intro s1 a w10 hM hS
      obtain ⟨F4, hs, hf⟩ := hM
      have hr := Option.some.inj hS; subst hr
      refine wp_ret ?_
      exact ret_ok hf (vs := [.bool s1]) (by kernel_rfl) ⟨_, rfl, hs.sel [] rfl rfl⟩
    · clear hS; intro KK1 k1 hK1 hS
      obtain ⟨F5, _, hs⟩ := hs.frz 0 rfl
      replace hs : Sep w F R w4 F5 [.ro ty45 (.slice ao2 z3.1.length cp2) z3.1, .row 5 (tI .u8) (.slice ao1 z2.length cp1) z2, .box w.heap.size 46 [.int .u64 p_x.1, .int .u32 p_x.2.1, .int .u32 p_x.2.2.1, .int .i64 p_x.2.2.2]] := hs
      have hT := of_bd hS; clear hS; obtain ⟨z4, hz4, hS⟩ := hT
      rcases Bool.eq_false_or_eq_true ((toStr z2) == (toStr z4)) with hb2 | hb2
      · replace hS := of_t hb2 hS
        rcases Bool.eq_false_or_eq_true (z3.2 == 0) with hb3 | hb3
        · replace hS := of_t hb3 hS
          rcases Bool.eq_false_or_eq_true (((z3.1.length : Nat) : Int) == 1) with hb4 | hb4
          · replace hS := of_t hb4 hS
            have hT := of_gd hS; clear hS; obtain ⟨hc1, hS⟩ := hT
            have hs0 := hs
            refine regF 23 [fun u uw => u = .slice ao1 z2.length cp1,
    fun u uw => u = strV (toStr z2),
    fun u uw => u = .agg #[.int .u64 p_x.1, .int .u32 p_x.2.1, .int .u32 p_x.2.2.1, .int .i64 p_x.2.2.2],
    fun u uw => ∃ (ao4 : Option Addr) (cp4 : Nat) (F' : SH), u = .slice ao4 z4.length cp4 ∧ Sep w4 F5 noR uw F' [.row 5 (tI .u8) (.slice ao4 z4.length cp4) z4],
    fun u uw => u = strV (toStr z4),
    fun u uw => u = .bool ((toStr z2) == (toStr z4)),
    fun u uw => u = .bool ((toStr z2) == (toStr z4)),
    fun u uw => u = .int .i64 z3.2,
    fun u uw => u = .bool (z3.2 == 0),
    fun u uw => u = .bool (z3.2 == 0),
    fun u uw => u = .bool (z3.2 == 0),
    fun u uw => u = .slice ao2 z3.1.length cp2,
    fun u uw => u = .int .i64 ((z3.1.length : Nat) : Int),
    fun u uw => u = .bool (((z3.1.length : Nat) : Int) == 1),
    fun u uw => u = .bool (((z3.1.length : Nat) : Int) == 1),
    fun u uw => u = .bool (((z3.1.length : Nat) : Int) == 1),
    fun u uw => u = .slice ao2 z3.1.length cp2,
    fun u uw => ∃ (pb2 : Nat) (po2 : Nat) (F' : SH), u = .pointer (some ⟨pb2, po2, none⟩) ∧ Sep w4 F5 noR uw F' [.cel pb2 po2 [.int .u64 ((gt z3.1 0).1), .int .u32 ((gt z3.1 0).2.1), .int .u32 ((gt z3.1 0).2.2.1), .int .i64 ((gt z3.1 0).2.2.2)]],
    fun u uw => u = .agg #[.int .u64 ((gt z3.1 0).1), .int .u32 ((gt z3.1 0).2.1), .int .u32 ((gt z3.1 0).2.2.1), .int .i64 ((gt z3.1 0).2.2.2)],
    fun u uw => u = .agg #[.int .u64 p_x.1, .int .u32 p_x.2.1, .int .u32 p_x.2.2.1, .int .i64 p_x.2.2.2],
    fun u uw => u = .bool ((((gt z3.1 0).1) == p_x.1) && ((((gt z3.1 0).2.1) == p_x.2.1) && ((((gt z3.1 0).2.2.1) == p_x.2.2.1) && (((gt z3.1 0).2.2.2) == p_x.2.2.2)))),
    fun u uw => u = .bool ((((gt z3.1 0).1) == p_x.1) && ((((gt z3.1 0).2.1) == p_x.2.1) && ((((gt z3.1 0).2.2.1) == p_x.2.2.1) && (((gt z3.1 0).2.2.2) == p_x.2.2.2)))),
    fun u uw => u = .bool ((((gt z3.1 0).1) == p_x.1) && ((((gt z3.1 0).2.1) == p_x.2.1) && ((((gt z3.1 0).2.2.1) == p_x.2.2.1) && (((gt z3.1 0).2.2.2) == p_x.2.2.2))))] mixed (Fr.keep (ks := [1, 4, 5, 6]) (L' := [(1, .pointer (some ⟨w.heap.size, 0, none⟩)), (4, .slice ao1 z2.length cp1), (5, .slice ao2 z3.1.length cp2), (6, .int .i64 z3.2)]) hf (by kernel_rfl)) (by kernel_rfl) rfl ?_ ?_ ?_
            · exact ⟨fun _ _ _ h _ => h, fun _ _ _ h _ => h, fun _ _ _ h _ => h, fun _ _ _ ⟨ao4, cp4, F', e, h⟩ hx => ⟨ao4, cp4, F', e, h.ext hx⟩, fun _ _ _ h _ => h, fun _ _ _ h _ => h, fun _ _ _ h _ => h, fun _ _ _ h _ => h, fun _ _ _ h _ => h, fun _ _ _ h _ => h, fun _ _ _ h _ => h, fun _ _ _ h _ => h, fun _ _ _ h _ => h, fun _ _ _ h _ => h, fun _ _ _ h _ => h, fun _ _ _ h _ => h, fun _ _ _ h _ => h, fun _ _ _ ⟨pb2, po2, F', e, h⟩ hx => ⟨pb2, po2, F', e, h.ext hx⟩, fun _ _ _ h _ => h, fun _ _ _ h _ => h, fun _ _ _ h _ => h, fun _ _ _ h _ => h, fun _ _ _ h _ => h, trivial⟩
            · clear hS hf hs; clear a
              refine ⟨?_, ?_, ?_, ?_, ?_, ?_, ?_, ?_, ?_, ?_, ?_, ?_, ?_, ?_, ?_, ?_, ?_, ?_, ?_, ?_, ?_, ?_, ?_, trivial⟩
              · intro a wf hX hf hd
                clear hd
                have hs : Sep wf (star F5 w4 wf) noR wf (star F5 w4 wf) [.ro ty45 (.slice ao2 z3.1.length cp2) z3.1] := hs0.fstart hX [0] rfl rfl
                refine st tbOk 1 [17] (L' := [(17, .slice ao1 z2.length cp1)]) hf (by kernel_rfl) ?_
                clear hf; clear a; intro a hf
                exact fq_ok (d := 17) rfl hf (hs.ex fun _ h => h) hf.1
              · intro a wf hX hf hd
                have e_17 : a.tmps.getD 17 undef = .slice ao1 z2.length cp1 := hd 0 17 (by kernel_rfl) (by kernel_rfl)
                replace hf : Fr 39 [(17, .slice ao1 z2.length cp1), (1, .pointer (some ⟨w.heap.size, 0, none⟩)), (4, .slice ao1 z2.length cp1), (5, .slice ao2 z3.1.length cp2), (6, .int .i64 z3.2)] a := ⟨e_17, hf⟩; clear e_17
                clear hd
                have hs : Sep wf (star F5 w4 wf) noR wf (star F5 w4 wf) [.ro ty45 (.slice ao2 z3.1.length cp2) z3.1] := hs0.fstart hX [0] rfl rfl
                refine b2sR tbOk u26 u5 u9 ((hs0.raW 1 rfl).mono hX.le (star_ge _ w4 wf)) hf (by kernel_rfl) (by kernel_rfl) (by kernel_rfl) ?_
                clear hf; clear a; intro a hf
                exact fq_ok (d := 18) rfl hf (hs.ex fun _ h => h) hf.1
              · intro a wf hX hf hd
                clear hd
                have hs : Sep wf (star F5 w4 wf) noR wf (star F5 w4 wf) [.ro ty45 (.slice ao2 z3.1.length cp2) z3.1] := hs0.fstart hX [0] rfl rfl
                refine ldC tbOk (T := 46) ((hs0.cbx 2 rfl).mono hX.le) (LeH.refl _) 0 (.agg #[.int .u64 p_x.1, .int .u32 p_x.2.1, .int .u32 p_x.2.2.1, .int .i64 p_x.2.2.2]) hf (by kernel_rfl) (by kernel_rfl) (by kernel_rfl) (by kernel_rfl) ?_
                clear hf; clear a; intro a hf
                exact fq_ok (d := 19) rfl hf (hs.ex fun _ h => h) hf.1
              · intro a wf hX hf hd
                have e_19 : a.tmps.getD 19 undef = .agg #[.int .u64 p_x.1, .int .u32 p_x.2.1, .int .u32 p_x.2.2.1, .int .i64 p_x.2.2.2] := hd 2 19 (by kernel_rfl) (by kernel_rfl)
                replace hf : Fr 39 [(19, .agg #[.int .u64 p_x.1, .int .u32 p_x.2.1, .int .u32 p_x.2.2.1, .int .i64 p_x.2.2.2]), (1, .pointer (some ⟨w.heap.size, 0, none⟩)), (4, .slice ao1 z2.length cp1), (5, .slice ao2 z3.1.length cp2), (6, .int .i64 z3.2)] a := ⟨e_19, hf⟩; clear e_19
                clear hd
                have hs : Sep wf (star F5 w4 wf) noR wf (star F5 w4 wf) [.ro ty45 (.slice ao2 z3.1.length cp2) z3.1] := hs0.fstart hX [0] rfl rfl
                refine clV ent22 (vs := [.agg #[.int .u64 p_x.1, .int .u32 p_x.2.1, .int .u32 p_x.2.2.1, .int .i64 p_x.2.2.2]]) (caps := []) hf (by kernel_rfl) (by kernel_rfl) (by kernel_rfl) (by kernel_rfl) (ref07_Put_ok (p_x := (p_x.1, p_x.2.1, p_x.2.2.1, p_x.2.2.2)) (hs.enter [] rfl rfl) hz4) ?_
                clear hf; clear a; intro v w5 a hT hf; obtain ⟨ao3, cp3, F6, rfl, hr⟩ := hT
                replace hs : Sep wf (star F5 w4 wf) noR w5 F6 [.row 5 (tI .u8) (.slice ao3 z4.length cp3) z4, .ro ty45 (.slice ao2 z3.1.length cp2) z3.1] := hs.back [] [0] rfl rfl rfl rfl hr
                clear hr
                exact fq_ok (d := 20) rfl hf (hs.ex fun _ h => h) ⟨ao3, cp3, _, hf.1, (hs.sel [0] rfl rfl).rebase hX⟩
              · intro a wf hX hf hd
                obtain ⟨ao4, cp4, F_20, e_20, h_20⟩ : ∃ (ao4 : Option Addr) (cp4 : Nat) (F' : SH), a.tmps.getD 20 undef = .slice ao4 z4.length cp4 ∧ Sep w4 F5 noR wf F' [.row 5 (tI .u8) (.slice ao4 z4.length cp4) z4] := hd 3 20 (by kernel_rfl) (by kernel_rfl)
                replace hf : Fr 39 [(20, .slice ao4 z4.length cp4), (1, .pointer (some ⟨w.heap.size, 0, none⟩)), (4, .slice ao1 z2.length cp1), (5, .slice ao2 z3.1.length cp2), (6, .int .i64 z3.2)] a := ⟨e_20, hf⟩; clear e_20
                clear hd
                have hs : Sep wf (star F5 w4 wf) noR wf (star F5 w4 wf) [.ro ty45 (.slice ao2 z3.1.length cp2) z3.1] := hs0.fstart hX [0] rfl rfl
                replace hs : Sep wf (star F5 w4 wf) noR wf (star F5 w4 wf) [.ro (tI .u8) (.slice ao4 z4.length cp4) z4, .ro ty45 (.slice ao2 z3.1.length cp2) z3.1] := hs.addStar h_20 0 rfl rfl
                clear h_20
                refine b2sR tbOk u26 u5 u9 (hs.raR 0 rfl) hf (by kernel_rfl) (by kernel_rfl) (by kernel_rfl) ?_
                clear hf; clear a; intro a hf
                exact fq_ok (d := 21) rfl hf (hs.ex fun _ h => h) hf.1
              · intro a wf hX hf hd
                have e_18 : a.tmps.getD 18 undef = strV (toStr z2) := hd 1 18 (by kernel_rfl) (by kernel_rfl)
                have e_21 : a.tmps.getD 21 undef = strV (toStr z4) := hd 4 21 (by kernel_rfl) (by kernel_rfl)
                replace hf : Fr 39 [(18, strV (toStr z2)), (21, strV (toStr z4)), (1, .pointer (some ⟨w.heap.size, 0, none⟩)), (4, .slice ao1 z2.length cp1), (5, .slice ao2 z3.1.length cp2), (6, .int .i64 z3.2)] a := ⟨e_18, e_21, hf⟩; clear e_18 e_21
                clear hd
                have hs : Sep wf (star F5 w4 wf) noR wf (star F5 w4 wf) [.ro ty45 (.slice ao2 z3.1.length cp2) z3.1] := hs0.fstart hX [0] rfl rfl
                refine st tbOk 1 [22] (L' := [(22, .bool ((toStr z2) == (toStr z4)))]) hf (by kernel_rfl) ?_
                clear hf; clear a; intro a hf
                exact fq_ok (d := 22) rfl hf (hs.ex fun _ h => h) hf.1
              · intro a wf hX hf hd
                have e_22 : a.tmps.getD 22 undef = .bool ((toStr z2) == (toStr z4)) := hd 5 22 (by kernel_rfl) (by kernel_rfl)
                replace hf : Fr 39 [(22, .bool ((toStr z2) == (toStr z4))), (1, .pointer (some ⟨w.heap.size, 0, none⟩)), (4, .slice ao1 z2.length cp1), (5, .slice ao2 z3.1.length cp2), (6, .int .i64 z3.2)] a := ⟨e_22, hf⟩; clear e_22
                clear hd
                have hs : Sep wf (star F5 w4 wf) noR wf (star F5 w4 wf) [.ro ty45 (.slice ao2 z3.1.length cp2) z3.1] := hs0.fstart hX [0] rfl rfl
                refine st tbOk 1 [23] (L' := [(23, .bool ((toStr z2) == (toStr z4)))]) hf (by kernel_rfl) ?_
                clear hf; clear a; intro a hf
                exact fq_ok (d := 23) rfl hf (hs.ex fun _ h => h) hf.1
              · intro a wf hX hf hd
                have e_23 : a.tmps.getD 23 undef = .bool ((toStr z2) == (toStr z4)) := hd 6 23 (by kernel_rfl) (by kernel_rfl)
                rw [hb2] at e_23
                replace hf : Fr 39 [(23, .bool true), (1, .pointer (some ⟨w.heap.size, 0, none⟩)), (4, .slice ao1 z2.length cp1), (5, .slice ao2 z3.1.length cp2), (6, .int .i64 z3.2)] a := ⟨e_23, hf⟩; clear e_23
                clear hd
                have hs : Sep wf (star F5 w4 wf) noR wf (star F5 w4 wf) [.ro ty45 (.slice ao2 z3.1.length cp2) z3.1] := hs0.fstart hX [0] rfl rfl
                refine st tbOk 1 [24] (L' := [(24, .int .i64 z3.2)]) hf (by kernel_rfl) ?_
                clear hf; clear a; intro a hf
                exact fq_ok (d := 24) rfl hf (hs.ex fun _ h => h) hf.1
              · intro a wf hX hf hd
                have e_24 : a.tmps.getD 24 undef = .int .i64 z3.2 := hd 7 24 (by kernel_rfl) (by kernel_rfl)
                have e_23 : a.tmps.getD 23 undef = .bool ((toStr z2) == (toStr z4)) := hd 6 23 (by kernel_rfl) (by kernel_rfl)
                rw [hb2] at e_23
                replace hf : Fr 39 [(24, .int .i64 z3.2), (23, .bool true), (1, .pointer (some ⟨w.heap.size, 0, none⟩)), (4, .slice ao1 z2.length cp1), (5, .slice ao2 z3.1.length cp2), (6, .int .i64 z3.2)] a := ⟨e_24, e_23, hf⟩; clear e_24 e_23
                clear hd
                have hs : Sep wf (star F5 w4 wf) noR wf (star F5 w4 wf) [.ro ty45 (.slice ao2 z3.1.length cp2) z3.1] := hs0.fstart hX [0] rfl rfl
                refine st tbOk 1 [25] (L' := [(25, .bool (z3.2 == 0))]) hf (by kernel_rfl) ?_
                clear hf; clear a; intro a hf
                exact fq_ok (d := 25) rfl hf (hs.ex fun _ h => h) hf.1
              · intro a wf hX hf hd
                have e_23 : a.tmps.getD 23 undef = .bool ((toStr z2) == (toStr z4)) := hd 6 23 (by kernel_rfl) (by kernel_rfl)
                rw [hb2] at e_23
                have e_25 : a.tmps.getD 25 undef = .bool (z3.2 == 0) := hd 8 25 (by kernel_rfl) (by kernel_rfl)
                replace hf : Fr 39 [(23, .bool true), (25, .bool (z3.2 == 0)), (1, .pointer (some ⟨w.heap.size, 0, none⟩)), (4, .slice ao1 z2.length cp1), (5, .slice ao2 z3.1.length cp2), (6, .int .i64 z3.2)] a := ⟨e_23, e_25, hf⟩; clear e_23 e_25
                clear hd
                have hs : Sep wf (star F5 w4 wf) noR wf (star F5 w4 wf) [.ro ty45 (.slice ao2 z3.1.length cp2) z3.1] := hs0.fstart hX [0] rfl rfl
                refine st tbOk 1 [26] (L' := [(26, .bool (z3.2 == 0))]) hf (by kernel_rfl) ?_
                clear hf; clear a; intro a hf
                exact fq_ok (d := 26) rfl hf (hs.ex fun _ h => h) hf.1
              · intro a wf hX hf hd
                have e_26 : a.tmps.getD 26 undef = .bool (z3.2 == 0) := hd 9 26 (by kernel_rfl) (by kernel_rfl)
                replace hf : Fr 39 [(26, .bool (z3.2 == 0)), (1, .pointer (some ⟨w.heap.size, 0, none⟩)), (4, .slice ao1 z2.length cp1), (5, .slice ao2 z3.1.length cp2), (6, .int .i64 z3.2)] a := ⟨e_26, hf⟩; clear e_26
                clear hd
                have hs : Sep wf (star F5 w4 wf) noR wf (star F5 w4 wf) [.ro ty45 (.slice ao2 z3.1.length cp2) z3.1] := hs0.fstart hX [0] rfl rfl
                refine st tbOk 1 [27] (L' := [(27, .bool (z3.2 == 0))]) hf (by kernel_rfl) ?_
                clear hf; clear a; intro a hf
                exact fq_ok (d := 27) rfl hf (hs.ex fun _ h => h) hf.1
              · intro a wf hX hf hd
                have e_27 : a.tmps.getD 27 undef = .bool (z3.2 == 0) := hd 10 27 (by kernel_rfl) (by kernel_rfl)
                rw [hb3] at e_27
                replace hf : Fr 39 [(27, .bool true), (1, .pointer (some ⟨w.heap.size, 0, none⟩)), (4, .slice ao1 z2.length cp1), (5, .slice ao2 z3.1.length cp2), (6, .int .i64 z3.2)] a := ⟨e_27, hf⟩; clear e_27
                clear hd
                have hs : Sep wf (star F5 w4 wf) noR wf (star F5 w4 wf) [.ro ty45 (.slice ao2 z3.1.length cp2) z3.1] := hs0.fstart hX [0] rfl rfl
                refine st tbOk 1 [28] (L' := [(28, .slice ao2 z3.1.length cp2)]) hf (by kernel_rfl) ?_
                clear hf; clear a; intro a hf
                exact fq_ok (d := 28) rfl hf (hs.ex fun _ h => h) hf.1
              · intro a wf hX hf hd
                have e_28 : a.tmps.getD 28 undef = .slice ao2 z3.1.length cp2 := hd 11 28 (by kernel_rfl) (by kernel_rfl)
                have e_27 : a.tmps.getD 27 undef = .bool (z3.2 == 0) := hd 10 27 (by kernel_rfl) (by kernel_rfl)
                rw [hb3] at e_27
                replace hf : Fr 39 [(28, .slice ao2 z3.1.length cp2), (27, .bool true), (1, .pointer (some ⟨w.heap.size, 0, none⟩)), (4, .slice ao1 z2.length cp1), (5, .slice ao2 z3.1.length cp2), (6, .int .i64 z3.2)] a := ⟨e_28, e_27, hf⟩; clear e_28 e_27
                clear hd
                have hs : Sep wf (star F5 w4 wf) noR wf (star F5 w4 wf) [.ro ty45 (.slice ao2 z3.1.length cp2) z3.1] := hs0.fstart hX [0] rfl rfl
                refine st tbOk 1 [29] (L' := [(29, .int .i64 ((z3.1.length : Nat) : Int))]) hf (by kernel_rfl) ?_
                clear hf; clear a; intro a hf
                exact fq_ok (d := 29) rfl hf (hs.ex fun _ h => h) hf.1
              · intro a wf hX hf hd
                have e_29 : a.tmps.getD 29 undef = .int .i64 ((z3.1.length : Nat) : Int) := hd 12 29 (by kernel_rfl) (by kernel_rfl)
                have e_27 : a.tmps.getD 27 undef = .bool (z3.2 == 0) := hd 10 27 (by kernel_rfl) (by kernel_rfl)
                rw [hb3] at e_27
                replace hf : Fr 39 [(29, .int .i64 ((z3.1.length : Nat) : Int)), (27, .bool true), (1, .pointer (some ⟨w.heap.size, 0, none⟩)), (4, .slice ao1 z2.length cp1), (5, .slice ao2 z3.1.length cp2), (6, .int .i64 z3.2)] a := ⟨e_29, e_27, hf⟩; clear e_29 e_27
                clear hd
                have hs : Sep wf (star F5 w4 wf) noR wf (star F5 w4 wf) [.ro ty45 (.slice ao2 z3.1.length cp2) z3.1] := hs0.fstart hX [0] rfl rfl
                refine st tbOk 1 [30] (L' := [(30, .bool (((z3.1.length : Nat) : Int) == 1))]) hf (by kernel_rfl) ?_
                clear hf; clear a; intro a hf
                exact fq_ok (d := 30) rfl hf (hs.ex fun _ h => h) hf.1
              · intro a wf hX hf hd
                have e_27 : a.tmps.getD 27 undef = .bool (z3.2 == 0) := hd 10 27 (by kernel_rfl) (by kernel_rfl)
                rw [hb3] at e_27
                have e_30 : a.tmps.getD 30 undef = .bool (((z3.1.length : Nat) : Int) == 1) := hd 13 30 (by kernel_rfl) (by kernel_rfl)
                replace hf : Fr 39 [(27, .bool true), (30, .bool (((z3.1.length : Nat) : Int) == 1)), (1, .pointer (some ⟨w.heap.size, 0, none⟩)), (4, .slice ao1 z2.length cp1), (5, .slice ao2 z3.1.length cp2), (6, .int .i64 z3.2)] a := ⟨e_27, e_30, hf⟩; clear e_27 e_30
                clear hd
                have hs : Sep wf (star F5 w4 wf) noR wf (star F5 w4 wf) [.ro ty45 (.slice ao2 z3.1.length cp2) z3.1] := hs0.fstart hX [0] rfl rfl
                refine st tbOk 1 [31] (L' := [(31, .bool (((z3.1.length : Nat) : Int) == 1))]) hf (by kernel_rfl) ?_
                clear hf; clear a; intro a hf
                exact fq_ok (d := 31) rfl hf (hs.ex fun _ h => h) hf.1
              · intro a wf hX hf hd
                have e_31 : a.tmps.getD 31 undef = .bool (((z3.1.length : Nat) : Int) == 1) := hd 14 31 (by kernel_rfl) (by kernel_rfl)
                replace hf : Fr 39 [(31, .bool (((z3.1.length : Nat) : Int) == 1)), (1, .pointer (some ⟨w.heap.size, 0, none⟩)), (4, .slice ao1 z2.length cp1), (5, .slice ao2 z3.1.length cp2), (6, .int .i64 z3.2)] a := ⟨e_31, hf⟩; clear e_31
                clear hd
                have hs : Sep wf (star F5 w4 wf) noR wf (star F5 w4 wf) [.ro ty45 (.slice ao2 z3.1.length cp2) z3.1] := hs0.fstart hX [0] rfl rfl
                refine st tbOk 1 [32] (L' := [(32, .bool (((z3.1.length : Nat) : Int) == 1))]) hf (by kernel_rfl) ?_
                clear hf; clear a; intro a hf
                exact fq_ok (d := 32) rfl hf (hs.ex fun _ h => h) hf.1
              · intro a wf hX hf hd
                have e_32 : a.tmps.getD 32 undef = .bool (((z3.1.length : Nat) : Int) == 1) := hd 15 32 (by kernel_rfl) (by kernel_rfl)
                rw [hb4] at e_32
                replace hf : Fr 39 [(32, .bool true), (1, .pointer (some ⟨w.heap.size, 0, none⟩)), (4, .slice ao1 z2.length cp1), (5, .slice ao2 z3.1.length cp2), (6, .int .i64 z3.2)] a := ⟨e_32, hf⟩; clear e_32
                clear hd
                have hs : Sep wf (star F5 w4 wf) noR wf (star F5 w4 wf) [.ro ty45 (.slice ao2 z3.1.length cp2) z3.1] := hs0.fstart hX [0] rfl rfl
                refine st tbOk 1 [33] (L' := [(33, .slice ao2 z3.1.length cp2)]) hf (by kernel_rfl) ?_
                clear hf; clear a; intro a hf
                exact fq_ok (d := 33) rfl hf (hs.ex fun _ h => h) hf.1
              · intro a wf hX hf hd
                have e_33 : a.tmps.getD 33 undef = .slice ao2 z3.1.length cp2 := hd 16 33 (by kernel_rfl) (by kernel_rfl)
                have e_32 : a.tmps.getD 32 undef = .bool (((z3.1.length : Nat) : Int) == 1) := hd 15 32 (by kernel_rfl) (by kernel_rfl)
                rw [hb4] at e_32
                replace hf : Fr 39 [(33, .slice ao2 z3.1.length cp2), (32, .bool true), (1, .pointer (some ⟨w.heap.size, 0, none⟩)), (4, .slice ao1 z2.length cp1), (5, .slice ao2 z3.1.length cp2), (6, .int .i64 z3.2)] a := ⟨e_33, e_32, hf⟩; clear e_33 e_32
                clear hd
                have hs : Sep wf (star F5 w4 wf) noR wf (star F5 w4 wf) [.ro ty45 (.slice ao2 z3.1.length cp2) z3.1] := hs0.fstart hX [0] rfl rfl
                refine ixR tbOk u48 i46 rfl rfl ((hs.ro 0 rfl).ra (LeH.refl _)) (k := .i64) (n := 0) hc1 hf (by kernel_rfl) (by kernel_rfl) (by kernel_rfl) (by kernel_rfl) ?_
                clear hf; clear a; intro pb1 po1 c1 a hp1 hr1 hf
                obtain rfl : c1 = [.int .u64 ((gt z3.1 0).1), .int .u32 ((gt z3.1 0).2.1), .int .u32 ((gt z3.1 0).2.2.1), .int .i64 ((gt z3.1 0).2.2.2)] := hr1
                replace hs : Sep wf (star F5 w4 wf) noR wf (star F5 w4 wf) [.cel pb1 po1 [.int .u64 ((gt z3.1 0).1), .int .u32 ((gt z3.1 0).2.1), .int .u32 ((gt z3.1 0).2.2.1), .int .i64 ((gt z3.1 0).2.2.2)], .ro ty45 (.slice ao2 z3.1.length cp2) z3.1] := hs.addCel hp1
                exact fq_ok (d := 34) rfl hf (hs.ex fun _ h => h) ⟨pb1, po1, _, hf.1, (hs.sel [0] rfl rfl).rebase hX⟩
              · intro a wf hX hf hd
                obtain ⟨pb2, po2, F_34, e_34, h_34⟩ : ∃ (pb2 : Nat) (po2 : Nat) (F' : SH), a.tmps.getD 34 undef = .pointer (some ⟨pb2, po2, none⟩) ∧ Sep w4 F5 noR wf F' [.cel pb2 po2 [.int .u64 ((gt z3.1 0).1), .int .u32 ((gt z3.1 0).2.1), .int .u32 ((gt z3.1 0).2.2.1), .int .i64 ((gt z3.1 0).2.2.2)]] := hd 17 34 (by kernel_rfl) (by kernel_rfl)
                have e_32 : a.tmps.getD 32 undef = .bool (((z3.1.length : Nat) : Int) == 1) := hd 15 32 (by kernel_rfl) (by kernel_rfl)
                rw [hb4] at e_32
                replace hf : Fr 39 [(34, .pointer (some ⟨pb2, po2, none⟩)), (32, .bool true), (1, .pointer (some ⟨w.heap.size, 0, none⟩)), (4, .slice ao1 z2.length cp1), (5, .slice ao2 z3.1.length cp2), (6, .int .i64 z3.2)] a := ⟨e_34, e_32, hf⟩; clear e_34 e_32
                clear hd
                have hs : Sep wf (star F5 w4 wf) noR wf (star F5 w4 wf) [.ro ty45 (.slice ao2 z3.1.length cp2) z3.1] := hs0.fstart hX [0] rfl rfl
                replace hs : Sep wf (star F5 w4 wf) noR wf (star F5 w4 wf) [.cel pb2 po2 [.int .u64 ((gt z3.1 0).1), .int .u32 ((gt z3.1 0).2.1), .int .u32 ((gt z3.1 0).2.2.1), .int .i64 ((gt z3.1 0).2.2.2)], .ro ty45 (.slice ao2 z3.1.length cp2) z3.1] := hs.addStar h_34 0 rfl rfl
                clear h_34
                refine ldC tbOk (T := 46) (hs.ccel 0 rfl) (LeH.refl _) 0 (.agg #[.int .u64 ((gt z3.1 0).1), .int .u32 ((gt z3.1 0).2.1), .int .u32 ((gt z3.1 0).2.2.1), .int .i64 ((gt z3.1 0).2.2.2)]) hf (by kernel_rfl) (by kernel_rfl) (by kernel_rfl) (by kernel_rfl) ?_
                clear hf; clear a; intro a hf
                exact fq_ok (d := 35) rfl hf (hs.ex fun _ h => h) hf.1
              · intro a wf hX hf hd
                have e_32 : a.tmps.getD 32 undef = .bool (((z3.1.length : Nat) : Int) == 1) := hd 15 32 (by kernel_rfl) (by kernel_rfl)
                rw [hb4] at e_32
                replace hf : Fr 39 [(32, .bool true), (1, .pointer (some ⟨w.heap.size, 0, none⟩)), (4, .slice ao1 z2.length cp1), (5, .slice ao2 z3.1.length cp2), (6, .int .i64 z3.2)] a := ⟨e_32, hf⟩; clear e_32
                clear hd
                have hs : Sep wf (star F5 w4 wf) noR wf (star F5 w4 wf) [.ro ty45 (.slice ao2 z3.1.length cp2) z3.1] := hs0.fstart hX [0] rfl rfl
                refine ldC tbOk (T := 46) ((hs0.cbx 2 rfl).mono hX.le) (LeH.refl _) 0 (.agg #[.int .u64 p_x.1, .int .u32 p_x.2.1, .int .u32 p_x.2.2.1, .int .i64 p_x.2.2.2]) hf (by kernel_rfl) (by kernel_rfl) (by kernel_rfl) (by kernel_rfl) ?_
                clear hf; clear a; intro a hf
                exact fq_ok (d := 36) rfl hf (hs.ex fun _ h => h) hf.1
              · intro a wf hX hf hd
                have e_35 : a.tmps.getD 35 undef = .agg #[.int .u64 ((gt z3.1 0).1), .int .u32 ((gt z3.1 0).2.1), .int .u32 ((gt z3.1 0).2.2.1), .int .i64 ((gt z3.1 0).2.2.2)] := hd 18 35 (by kernel_rfl) (by kernel_rfl)
                have e_36 : a.tmps.getD 36 undef = .agg #[.int .u64 p_x.1, .int .u32 p_x.2.1, .int .u32 p_x.2.2.1, .int .i64 p_x.2.2.2] := hd 19 36 (by kernel_rfl) (by kernel_rfl)
                have e_32 : a.tmps.getD 32 undef = .bool (((z3.1.length : Nat) : Int) == 1) := hd 15 32 (by kernel_rfl) (by kernel_rfl)
                rw [hb4] at e_32
                replace hf : Fr 39 [(35, .agg #[.int .u64 ((gt z3.1 0).1), .int .u32 ((gt z3.1 0).2.1), .int .u32 ((gt z3.1 0).2.2.1), .int .i64 ((gt z3.1 0).2.2.2)]), (36, .agg #[.int .u64 p_x.1, .int .u32 p_x.2.1, .int .u32 p_x.2.2.1, .int .i64 p_x.2.2.2]), (32, .bool true), (1, .pointer (some ⟨w.heap.size, 0, none⟩)), (4, .slice ao1 z2.length cp1), (5, .slice ao2 z3.1.length cp2), (6, .int .i64 z3.2)] a := ⟨e_35, e_36, e_32, hf⟩; clear e_35 e_36 e_32
                clear hd
                have hs : Sep wf (star F5 w4 wf) noR wf (star F5 w4 wf) [.ro ty45 (.slice ao2 z3.1.length cp2) z3.1] := hs0.fstart hX [0] rfl rfl
                refine st tbOk 1 [37] (L' := [(37, .bool ((((gt z3.1 0).1) == p_x.1) && ((((gt z3.1 0).2.1) == p_x.2.1) && ((((gt z3.1 0).2.2.1) == p_x.2.2.1) && (((gt z3.1 0).2.2.2) == p_x.2.2.2)))))]) hf (by kernel_rfl) ?_
                clear hf; clear a; intro a hf
                exact fq_ok (d := 37) rfl hf (hs.ex fun _ h => h) hf.1
              · intro a wf hX hf hd
                have e_32 : a.tmps.getD 32 undef = .bool (((z3.1.length : Nat) : Int) == 1) := hd 15 32 (by kernel_rfl) (by kernel_rfl)
                rw [hb4] at e_32
                have e_37 : a.tmps.getD 37 undef = .bool ((((gt z3.1 0).1) == p_x.1) && ((((gt z3.1 0).2.1) == p_x.2.1) && ((((gt z3.1 0).2.2.1) == p_x.2.2.1) && (((gt z3.1 0).2.2.2) == p_x.2.2.2)))) := hd 20 37 (by kernel_rfl) (by kernel_rfl)
                replace hf : Fr 39 [(32, .bool true), (37, .bool ((((gt z3.1 0).1) == p_x.1) && ((((gt z3.1 0).2.1) == p_x.2.1) && ((((gt z3.1 0).2.2.1) == p_x.2.2.1) && (((gt z3.1 0).2.2.2) == p_x.2.2.2))))), (1, .pointer (some ⟨w.heap.size, 0, none⟩)), (4, .slice ao1 z2.length cp1), (5, .slice ao2 z3.1.length cp2), (6, .int .i64 z3.2)] a := ⟨e_32, e_37, hf⟩; clear e_32 e_37
                clear hd
                have hs : Sep wf (star F5 w4 wf) noR wf (star F5 w4 wf) [.ro ty45 (.slice ao2 z3.1.length cp2) z3.1] := hs0.fstart hX [0] rfl rfl
                refine st tbOk 1 [38] (L' := [(38, .bool ((((gt z3.1 0).1) == p_x.1) && ((((gt z3.1 0).2.1) == p_x.2.1) && ((((gt z3.1 0).2.2.1) == p_x.2.2.1) && (((gt z3.1 0).2.2.2) == p_x.2.2.2)))))]) hf (by kernel_rfl) ?_
                clear hf; clear a; intro a hf
                exact fq_ok (d := 38) rfl hf (hs.ex fun _ h => h) hf.1
              · intro a wf hX hf hd
                have e_38 : a.tmps.getD 38 undef = .bool ((((gt z3.1 0).1) == p_x.1) && ((((gt z3.1 0).2.1) == p_x.2.1) && ((((gt z3.1 0).2.2.1) == p_x.2.2.1) && (((gt z3.1 0).2.2.2) == p_x.2.2.2)))) := hd 21 38 (by kernel_rfl) (by kernel_rfl)
                replace hf : Fr 39 [(38, .bool ((((gt z3.1 0).1) == p_x.1) && ((((gt z3.1 0).2.1) == p_x.2.1) && ((((gt z3.1 0).2.2.1) == p_x.2.2.1) && (((gt z3.1 0).2.2.2) == p_x.2.2.2))))), (1, .pointer (some ⟨w.heap.size, 0, none⟩)), (4, .slice ao1 z2.length cp1), (5, .slice ao2 z3.1.length cp2), (6, .int .i64 z3.2)] a := ⟨e_38, hf⟩; clear e_38
                clear hd
                have hs : Sep wf (star F5 w4 wf) noR wf (star F5 w4 wf) [.ro ty45 (.slice ao2 z3.1.length cp2) z3.1] := hs0.fstart hX [0] rfl rfl
                refine st tbOk 1 [2] (L' := [(2, .bool ((((gt z3.1 0).1) == p_x.1) && ((((gt z3.1 0).2.1) == p_x.2.1) && ((((gt z3.1 0).2.2.1) == p_x.2.2.1) && (((gt z3.1 0).2.2.2) == p_x.2.2.2)))))]) hf (by kernel_rfl) ?_
                clear hf; clear a; intro a hf
                exact fq_ok (d := 2) rfl hf (hs.ex fun _ h => h) hf.1
            · clear hf hs; clear a; intro a w6 hx hf hd
              have hs : Sep w F R w6 (star F5 w4 w6) [.ro ty45 (.slice ao2 z3.1.length cp2) z3.1, .row 5 (tI .u8) (.slice ao1 z2.length cp1) z2, .box w.heap.size 46 [.int .u64 p_x.1, .int .u32 p_x.2.1, .int .u32 p_x.2.2.1, .int .i64 p_x.2.2.2]] := hs0.starX hx
              have e_2 : a.tmps.getD 2 undef = .bool ((((gt z3.1 0).1) == p_x.1) && ((((gt z3.1 0).2.1) == p_x.2.1) && ((((gt z3.1 0).2.2.1) == p_x.2.2.1) && (((gt z3.1 0).2.2.2) == p_x.2.2.2)))) := hd 22 2 (by kernel_rfl) (by kernel_rfl)
              clear hd hx
              clear hs0
              replace hf : Fr 39 [(2, .bool ((((gt z3.1 0).1) == p_x.1) && ((((gt z3.1 0).2.1) == p_x.2.1) && ((((gt z3.1 0).2.2.1) == p_x.2.2.1) && (((gt z3.1 0).2.2.2) == p_x.2.2.2))))), (1, .pointer (some ⟨w.heap.size, 0, none⟩)), (4, .slice ao1 z2.length cp1), (5, .slice ao2 z3.1.length cp2), (6, .int .i64 z3.2)] a := ⟨e_2, hf⟩
              clear e_2
              replace hs : Sep w F R w6 (star F5 w4 w6) [] := hs.sel [] rfl rfl
              replace hf := Fr.keep (ks := [2]) (L' := [(2, .bool ((((gt z3.1 0).1) == p_x.1) && ((((gt z3.1 0).2.1) == p_x.2.1) && ((((gt z3.1 0).2.2.1) == p_x.2.2.1) && (((gt z3.1 0).2.2.2) == p_x.2.2.2)))))]) hf (by kernel_rfl)
              refine wpList_nil ?_
              exact hK1 ((((gt z3.1 0).1) == p_x.1) && ((((gt z3.1 0).2.1) == p_x.2.1) && ((((gt z3.1 0).2.2.1) == p_x.2.2.1) && (((gt z3.1 0).2.2.2) == p_x.2.2.2)))) _ _ ⟨_, hs.sel [] rfl rfl, hf.keep (ks := [2]) (by kernel_rfl)⟩ hS
          · replace hS := of_f hb4 hS
            have hs0 := hs
            refine regF 23 [fun u uw => u = .slice ao1 z2.length cp1,
    fun u uw => u = strV (toStr z2),
    fun u uw => u = .agg #[.int .u64 p_x.1, .int .u32 p_x.2.1, .int .u32 p_x.2.2.1, .int .i64 p_x.2.2.2],
    fun u uw => ∃ (ao4 : Option Addr) (cp4 : Nat) (F' : SH), u = .slice ao4 z4.length cp4 ∧ Sep w4 F5 noR uw F' [.row 5 (tI .u8) (.slice ao4 z4.length cp4) z4],
    fun u uw => u = strV (toStr z4),
    fun u uw => u = .bool ((toStr z2) == (toStr z4)),
    fun u uw => u = .bool ((toStr z2) == (toStr z4)),
    fun u uw => u = .int .i64 z3.2,
    fun u uw => u = .bool (z3.2 == 0),
    fun u uw => u = .bool (z3.2 == 0),
    fun u uw => u = .bool (z3.2 == 0),
    fun u uw => u = .slice ao2 z3.1.length cp2,
    fun u uw => u = .int .i64 ((z3.1.length : Nat) : Int),
    fun u uw => u = .bool (((z3.1.length : Nat) : Int) == 1),
    fun u uw => u = .bool (((z3.1.length : Nat) : Int) == 1),
    fun u uw => u = .bool (((z3.1.length : Nat) : Int) == 1),
    fun u uw => u = undef,
    fun u uw => u = undef,
    fun u uw => u = undef,
    fun u uw => u = undef,
    fun u uw => u = undef,
    fun u uw => u = .bool false,
    fun u uw => u = .bool false] mixed (Fr.keep (ks := [1, 4, 5, 6]) (L' := [(1, .pointer (some ⟨w.heap.size, 0, none⟩)), (4, .slice ao1 z2.length cp1), (5, .slice ao2 z3.1.length cp2), (6, .int .i64 z3.2)]) hf (by kernel_rfl)) (by kernel_rfl) rfl ?_ ?_ ?_
            · exact ⟨fun _ _ _ h _ => h, fun _ _ _ h _ => h, fun _ _ _ h _ => h, fun _ _ _ ⟨ao4, cp4, F', e, h⟩ hx => ⟨ao4, cp4, F', e, h.ext hx⟩, fun _ _ _ h _ => h, fun _ _ _ h _ => h, fun _ _ _ h _ => h, fun _ _ _ h _ => h, fun _ _ _ h _ => h, fun _ _ _ h _ => h, fun _ _ _ h _ => h, fun _ _ _ h _ => h, fun _ _ _ h _ => h, fun _ _ _ h _ => h, fun _ _ _ h _ => h, fun _ _ _ h _ => h, fun _ _ _ h _ => h, fun _ _ _ h _ => h, fun _ _ _ h _ => h, fun _ _ _ h _ => h, fun _ _ _ h _ => h, fun _ _ _ h _ => h, fun _ _ _ h _ => h, trivial⟩
            · clear hS hf hs; clear a
              refine ⟨?_, ?_, ?_, ?_, ?_, ?_, ?_, ?_, ?_, ?_, ?_, ?_, ?_, ?_, ?_, ?_, ?_, ?_, ?_, ?_, ?_, ?_, ?_, trivial⟩
              · intro a wf hX hf hd
                clear hd
                have hs : Sep wf (star F5 w4 wf) noR wf (star F5 w4 wf) [.ro ty45 (.slice ao2 z3.1.length cp2) z3.1] := hs0.fstart hX [0] rfl rfl
                refine st tbOk 1 [17] (L' := [(17, .slice ao1 z2.length cp1)]) hf (by kernel_rfl) ?_
                clear hf; clear a; intro a hf
                exact fq_ok (d := 17) rfl hf (hs.ex fun _ h => h) hf.1
              · intro a wf hX hf hd
                have e_17 : a.tmps.getD 17 undef = .slice ao1 z2.length cp1 := hd 0 17 (by kernel_rfl) (by kernel_rfl)
                replace hf : Fr 39 [(17, .slice ao1 z2.length cp1), (1, .pointer (some ⟨w.heap.size, 0, none⟩)), (4, .slice ao1 z2.length cp1), (5, .slice ao2 z3.1.length cp2), (6, .int .i64 z3.2)] a := ⟨e_17, hf⟩; clear e_17
                clear hd
                have hs : Sep wf (star F5 w4 wf) noR wf (star F5 w4 wf) [.ro ty45 (.slice ao2 z3.1.length cp2) z3.1] := hs0.fstart hX [0] rfl rfl
                refine b2sR tbOk u26 u5 u9 ((hs0.raW 1 rfl).mono hX.le (star_ge _ w4 wf)) hf (by kernel_rfl) (by kernel_rfl) (by kernel_rfl) ?_
                clear hf; clear a; intro a hf
                exact fq_ok (d := 18) rfl hf (hs.ex fun _ h => h) hf.1
              · intro a wf hX hf hd
                clear hd
                have hs : Sep wf (star F5 w4 wf) noR wf (star F5 w4 wf) [.ro ty45 (.slice ao2 z3.1.length cp2) z3.1] := hs0.fstart hX [0] rfl rfl
                refine ldC tbOk (T := 46) ((hs0.cbx 2 rfl).mono hX.le) (LeH.refl _) 0 (.agg #[.int .u64 p_x.1, .int .u32 p_x.2.1, .int .u32 p_x.2.2.1, .int .i64 p_x.2.2.2]) hf (by kernel_rfl) (by kernel_rfl) (by kernel_rfl) (by kernel_rfl) ?_
                clear hf; clear a; intro a hf
                exact fq_ok (d := 19) rfl hf (hs.ex fun _ h => h) hf.1
              · intro a wf hX hf hd
                have e_19 : a.tmps.getD 19 undef = .agg #[.int .u64 p_x.1, .int .u32 p_x.2.1, .int .u32 p_x.2.2.1, .int .i64 p_x.2.2.2] := hd 2 19 (by kernel_rfl) (by kernel_rfl)
                replace hf : Fr 39 [(19, .agg #[.int .u64 p_x.1, .int .u32 p_x.2.1, .int .u32 p_x.2.2.1, .int .i64 p_x.2.2.2]), (1, .pointer (some ⟨w.heap.size, 0, none⟩)), (4, .slice ao1 z2.length cp1), (5, .slice ao2 z3.1.length cp2), (6, .int .i64 z3.2)] a := ⟨e_19, hf⟩; clear e_19
                clear hd
                have hs : Sep wf (star F5 w4 wf) noR wf (star F5 w4 wf) [.ro ty45 (.slice ao2 z3.1.length cp2) z3.1] := hs0.fstart hX [0] rfl rfl
                refine clV ent22 (vs := [.agg #[.int .u64 p_x.1, .int .u32 p_x.2.1, .int .u32 p_x.2.2.1, .int .i64 p_x.2.2.2]]) (caps := []) hf (by kernel_rfl) (by kernel_rfl) (by kernel_rfl) (by kernel_rfl) (ref07_Put_ok (p_x := (p_x.1, p_x.2.1, p_x.2.2.1, p_x.2.2.2)) (hs.enter [] rfl rfl) hz4) ?_
                clear hf; clear a; intro v w5 a hT hf; obtain ⟨ao3, cp3, F6, rfl, hr⟩ := hT
                replace hs : Sep wf (star F5 w4 wf) noR w5 F6 [.row 5 (tI .u8) (.slice ao3 z4.length cp3) z4, .ro ty45 (.slice ao2 z3.1.length cp2) z3.1] := hs.back [] [0] rfl rfl rfl rfl hr
                clear hr
                exact fq_ok (d := 20) rfl hf (hs.ex fun _ h => h) ⟨ao3, cp3, _, hf.1, (hs.sel [0] rfl rfl).rebase hX⟩
              · intro a wf hX hf hd
                obtain ⟨ao4, cp4, F_20, e_20, h_20⟩ : ∃ (ao4 : Option Addr) (cp4 : Nat) (F' : SH), a.tmps.getD 20 undef = .slice ao4 z4.length cp4 ∧ Sep w4 F5 noR wf F' [.row 5 (tI .u8) (.slice ao4 z4.length cp4) z4] := hd 3 20 (by kernel_rfl) (by kernel_rfl)
                replace hf : Fr 39 [(20, .slice ao4 z4.length cp4), (1, .pointer (some ⟨w.heap.size, 0, none⟩)), (4, .slice ao1 z2.length cp1), (5, .slice ao2 z3.1.length cp2), (6, .int .i64 z3.2)] a := ⟨e_20, hf⟩; clear e_20
                clear hd
                have hs : Sep wf (star F5 w4 wf) noR wf (star F5 w4 wf) [.ro ty45 (.slice ao2 z3.1.length cp2) z3.1] := hs0.fstart hX [0] rfl rfl
                replace hs : Sep wf (star F5 w4 wf) noR wf (star F5 w4 wf) [.ro (tI .u8) (.slice ao4 z4.length cp4) z4, .ro ty45 (.slice ao2 z3.1.length cp2) z3.1] := hs.addStar h_20 0 rfl rfl
                clear h_20
                refine b2sR tbOk u26 u5 u9 (hs.raR 0 rfl) hf (by kernel_rfl) (by kernel_rfl) (by kernel_rfl) ?_
                clear hf; clear a; intro a hf
                exact fq_ok (d := 21) rfl hf (hs.ex fun _ h => h) hf.1
              · intro a wf hX hf hd
                have e_18 : a.tmps.getD 18 undef = strV (toStr z2) := hd 1 18 (by kernel_rfl) (by kernel_rfl)
                have e_21 : a.tmps.getD 21 undef = strV (toStr z4) := hd 4 21 (by kernel_rfl) (by kernel_rfl)
                replace hf : Fr 39 [(18, strV (toStr z2)), (21, strV (toStr z4)), (1, .pointer (some ⟨w.heap.size, 0, none⟩)), (4, .slice ao1 z2.length cp1), (5, .slice ao2 z3.1.length cp2), (6, .int .i64 z3.2)] a := ⟨e_18, e_21, hf⟩; clear e_18 e_21
                clear hd
                have hs : Sep wf (star F5 w4 wf) noR wf (star F5 w4 wf) [.ro ty45 (.slice ao2 z3.1.length cp2) z3.1] := hs0.fstart hX [0] rfl rfl
                refine st tbOk 1 [22] (L' := [(22, .bool ((toStr z2) == (toStr z4)))]) hf (by kernel_rfl) ?_
                clear hf; clear a; intro a hf
                exact fq_ok (d := 22) rfl hf (hs.ex fun _ h => h) hf.1
              · intro a wf hX hf hd
                have e_22 : a.tmps.getD 22 undef = .bool ((toStr z2) == (toStr z4)) := hd 5 22 (by kernel_rfl) (by kernel_rfl)
                replace hf : Fr 39 [(22, .bool ((toStr z2) == (toStr z4))), (1, .pointer (some ⟨w.heap.size, 0, none⟩)), (4, .slice ao1 z2.length cp1), (5, .slice ao2 z3.1.length cp2), (6, .int .i64 z3.2)] a := ⟨e_22, hf⟩; clear e_22
                clear hd
                have hs : Sep wf (star F5 w4 wf) noR wf (star F5 w4 wf) [.ro ty45 (.slice ao2 z3.1.length cp2) z3.1] := hs0.fstart hX [0] rfl rfl
                refine st tbOk 1 [23] (L' := [(23, .bool ((toStr z2) == (toStr z4)))]) hf (by kernel_rfl) ?_
                clear hf; clear a; intro a hf
                exact fq_ok (d := 23) rfl hf (hs.ex fun _ h => h) hf.1
              · intro a wf hX hf hd
                have e_23 : a.tmps.getD 23 undef = .bool ((toStr z2) == (toStr z4)) := hd 6 23 (by kernel_rfl) (by kernel_rfl)
                rw [hb2] at e_23
                replace hf : Fr 39 [(23, .bool true), (1, .pointer (some ⟨w.heap.size, 0, none⟩)), (4, .slice ao1 z2.length cp1), (5, .slice ao2 z3.1.length cp2), (6, .int .i64 z3.2)] a := ⟨e_23, hf⟩; clear e_23
                clear hd
                have hs : Sep wf (star F5 w4 wf) noR wf (star F5 w4 wf) [.ro ty45 (.slice ao2 z3.1.length cp2) z3.1] := hs0.fstart hX [0] rfl rfl
                refine st tbOk 1 [24] (L' := [(24, .int .i64 z3.2)]) hf (by kernel_rfl) ?_
                clear hf; clear a; intro a hf
                exact fq_ok (d := 24) rfl hf (hs.ex fun _ h => h) hf.1
              · intro a wf hX hf hd
                have e_24 : a.tmps.getD 24 undef = .int .i64 z3.2 := hd 7 24 (by kernel_rfl) (by kernel_rfl)
                have e_23 : a.tmps.getD 23 undef = .bool ((toStr z2) == (toStr z4)) := hd 6 23 (by kernel_rfl) (by kernel_rfl)
                rw [hb2] at e_23
                replace hf : Fr 39 [(24, .int .i64 z3.2), (23, .bool true), (1, .pointer (some ⟨w.heap.size, 0, none⟩)), (4, .slice ao1 z2.length cp1), (5, .slice ao2 z3.1.length cp2), (6, .int .i64 z3.2)] a := ⟨e_24, e_23, hf⟩; clear e_24 e_23
                clear hd
                have hs : Sep wf (star F5 w4 wf) noR wf (star F5 w4 wf) [.ro ty45 (.slice ao2 z3.1.length cp2) z3.1] := hs0.fstart hX [0] rfl rfl
                refine st tbOk 1 [25] (L' := [(25, .bool (z3.2 == 0))]) hf (by kernel_rfl) ?_
                clear hf; clear a; intro a hf
                exact fq_ok (d := 25) rfl hf (hs.ex fun _ h => h) hf.1
              · intro a wf hX hf hd
                have e_23 : a.tmps.getD 23 undef = .bool ((toStr z2) == (toStr z4)) := hd 6 23 (by kernel_rfl) (by kernel_rfl)
                rw [hb2] at e_23
                have e_25 : a.tmps.getD 25 undef = .bool (z3.2 == 0) := hd 8 25 (by kernel_rfl) (by kernel_rfl)
                replace hf : Fr 39 [(23, .bool true), (25, .bool (z3.2 == 0)), (1, .pointer (some ⟨w.heap.size, 0, none⟩)), (4, .slice ao1 z2.length cp1), (5, .slice ao2 z3.1.length cp2), (6, .int .i64 z3.2)] a := ⟨e_23, e_25, hf⟩; clear e_23 e_25
                clear hd
                have hs : Sep wf (star F5 w4 wf) noR wf (star F5 w4 wf) [.ro ty45 (.slice ao2 z3.1.length cp2) z3.1] := hs0.fstart hX [0] rfl rfl
                refine st tbOk 1 [26] (L' := [(26, .bool (z3.2 == 0))]) hf (by kernel_rfl) ?_
                clear hf; clear a; intro a hf
                exact fq_ok (d := 26) rfl hf (hs.ex fun _ h => h) hf.1
              · intro a wf hX hf hd
                have e_26 : a.tmps.getD 26 undef = .bool (z3.2 == 0) := hd 9 26 (by kernel_rfl) (by kernel_rfl)
                replace hf : Fr 39 [(26, .bool (z3.2 == 0)), (1, .pointer (some ⟨w.heap.size, 0, none⟩)), (4, .slice ao1 z2.length cp1), (5, .slice ao2 z3.1.length cp2), (6, .int .i64 z3.2)] a := ⟨e_26, hf⟩; clear e_26
                clear hd
                have hs : Sep wf (star F5 w4 wf) noR wf (star F5 w4 wf) [.ro ty45 (.slice ao2 z3.1.length cp2) z3.1] := hs0.fstart hX [0] rfl rfl
                refine st tbOk 1 [27] (L' := [(27, .bool (z3.2 == 0))]) hf (by kernel_rfl) ?_
                clear hf; clear a; intro a hf
                exact fq_ok (d := 27) rfl hf (hs.ex fun _ h => h) hf.1
              · intro a wf hX hf hd
                have e_27 : a.tmps.getD 27 undef = .bool (z3.2 == 0) := hd 10 27 (by kernel_rfl) (by kernel_rfl)
                rw [hb3] at e_27
                replace hf : Fr 39 [(27, .bool true), (1, .pointer (some ⟨w.heap.size, 0, none⟩)), (4, .slice ao1 z2.length cp1), (5, .slice ao2 z3.1.length cp2), (6, .int .i64 z3.2)] a := ⟨e_27, hf⟩; clear e_27
                clear hd
                have hs : Sep wf (star F5 w4 wf) noR wf (star F5 w4 wf) [.ro ty45 (.slice ao2 z3.1.length cp2) z3.1] := hs0.fstart hX [0] rfl rfl
                refine st tbOk 1 [28] (L' := [(28, .slice ao2 z3.1.length cp2)]) hf (by kernel_rfl) ?_
                clear hf; clear a; intro a hf
                exact fq_ok (d := 28) rfl hf (hs.ex fun _ h => h) hf.1
              · intro a wf hX hf hd
                have e_28 : a.tmps.getD 28 undef = .slice ao2 z3.1.length cp2 := hd 11 28 (by kernel_rfl) (by kernel_rfl)
                have e_27 : a.tmps.getD 27 undef = .bool (z3.2 == 0) := hd 10 27 (by kernel_rfl) (by kernel_rfl)
                rw [hb3] at e_27
                replace hf : Fr 39 [(28, .slice ao2 z3.1.length cp2), (27, .bool true), (1, .pointer (some ⟨w.heap.size, 0, none⟩)), (4, .slice ao1 z2.length cp1), (5, .slice ao2 z3.1.length cp2), (6, .int .i64 z3.2)] a := ⟨e_28, e_27, hf⟩; clear e_28 e_27
                clear hd
                have hs : Sep wf (star F5 w4 wf) noR wf (star F5 w4 wf) [.ro ty45 (.slice ao2 z3.1.length cp2) z3.1] := hs0.fstart hX [0] rfl rfl
                refine st tbOk 1 [29] (L' := [(29, .int .i64 ((z3.1.length : Nat) : Int))]) hf (by kernel_rfl) ?_
                clear hf; clear a; intro a hf
                exact fq_ok (d := 29) rfl hf (hs.ex fun _ h => h) hf.1
              · intro a wf hX hf hd
                have e_29 : a.tmps.getD 29 undef = .int .i64 ((z3.1.length : Nat) : Int) := hd 12 29 (by kernel_rfl) (by kernel_rfl)
                have e_27 : a.tmps.getD 27 undef = .bool (z3.2 == 0) := hd 10 27 (by kernel_rfl) (by kernel_rfl)
                rw [hb3] at e_27
                replace hf : Fr 39 [(29, .int .i64 ((z3.1.length : Nat) : Int)), (27, .bool true), (1, .pointer (some ⟨w.heap.size, 0, none⟩)), (4, .slice ao1 z2.length cp1), (5, .slice ao2 z3.1.length cp2), (6, .int .i64 z3.2)] a := ⟨e_29, e_27, hf⟩; clear e_29 e_27
                clear hd
                have hs : Sep wf (star F5 w4 wf) noR wf (star F5 w4 wf) [.ro ty45 (.slice ao2 z3.1.length cp2) z3.1] := hs0.fstart hX [0] rfl rfl
                refine st tbOk 1 [30] (L' := [(30, .bool (((z3.1.length : Nat) : Int) == 1))]) hf (by kernel_rfl) ?_
                clear hf; clear a; intro a hf
                exact fq_ok (d := 30) rfl hf (hs.ex fun _ h => h) hf.1
              · intro a wf hX hf hd
                have e_27 : a.tmps.getD 27 undef = .bool (z3.2 == 0) := hd 10 27 (by kernel_rfl) (by kernel_rfl)
                rw [hb3] at e_27
                have e_30 : a.tmps.getD 30 undef = .bool (((z3.1.length : Nat) : Int) == 1) := hd 13 30 (by kernel_rfl) (by kernel_rfl)
                replace hf : Fr 39 [(27, .bool true), (30, .bool (((z3.1.length : Nat) : Int) == 1)), (1, .pointer (some ⟨w.heap.size, 0, none⟩)), (4, .slice ao1 z2.length cp1), (5, .slice ao2 z3.1.length cp2), (6, .int .i64 z3.2)] a := ⟨e_27, e_30, hf⟩; clear e_27 e_30
                clear hd
                have hs : Sep wf (star F5 w4 wf) noR wf (star F5 w4 wf) [.ro ty45 (.slice ao2 z3.1.length cp2) z3.1] := hs0.fstart hX [0] rfl rfl
                refine st tbOk 1 [31] (L' := [(31, .bool (((z3.1.length : Nat) : Int) == 1))]) hf (by kernel_rfl) ?_
                clear hf; clear a; intro a hf
                exact fq_ok (d := 31) rfl hf (hs.ex fun _ h => h) hf.1
              · intro a wf hX hf hd
                have e_31 : a.tmps.getD 31 undef = .bool (((z3.1.length : Nat) : Int) == 1) := hd 14 31 (by kernel_rfl) (by kernel_rfl)
                replace hf : Fr 39 [(31, .bool (((z3.1.length : Nat) : Int) == 1)), (1, .pointer (some ⟨w.heap.size, 0, none⟩)), (4, .slice ao1 z2.length cp1), (5, .slice ao2 z3.1.length cp2), (6, .int .i64 z3.2)] a := ⟨e_31, hf⟩; clear e_31
                clear hd
                have hs : Sep wf (star F5 w4 wf) noR wf (star F5 w4 wf) [.ro ty45 (.slice ao2 z3.1.length cp2) z3.1] := hs0.fstart hX [0] rfl rfl
                refine st tbOk 1 [32] (L' := [(32, .bool (((z3.1.length : Nat) : Int) == 1))]) hf (by kernel_rfl) ?_
                clear hf; clear a; intro a hf
                exact fq_ok (d := 32) rfl hf (hs.ex fun _ h => h) hf.1
              · intro a wf hX hf hd
                have e_32 : a.tmps.getD 32 undef = .bool (((z3.1.length : Nat) : Int) == 1) := hd 15 32 (by kernel_rfl) (by kernel_rfl)
                rw [hb4] at e_32
                replace hf : Fr 39 [(32, .bool false), (1, .pointer (some ⟨w.heap.size, 0, none⟩)), (4, .slice ao1 z2.length cp1), (5, .slice ao2 z3.1.length cp2), (6, .int .i64 z3.2)] a := ⟨e_32, hf⟩; clear e_32
                clear hd
                have hs : Sep wf (star F5 w4 wf) noR wf (star F5 w4 wf) [.ro ty45 (.slice ao2 z3.1.length cp2) z3.1] := hs0.fstart hX [0] rfl rfl
                refine st tbOk 1 [33] (L' := [(33, undef)]) hf (by kernel_rfl) ?_
                clear hf; clear a; intro a hf
                exact fq_ok (d := 33) rfl hf (hs.ex fun _ h => h) hf.1
              · intro a wf hX hf hd
                have e_33 : a.tmps.getD 33 undef = undef := hd 16 33 (by kernel_rfl) (by kernel_rfl)
                have e_32 : a.tmps.getD 32 undef = .bool (((z3.1.length : Nat) : Int) == 1) := hd 15 32 (by kernel_rfl) (by kernel_rfl)
                rw [hb4] at e_32
                replace hf : Fr 39 [(33, undef), (32, .bool false), (1, .pointer (some ⟨w.heap.size, 0, none⟩)), (4, .slice ao1 z2.length cp1), (5, .slice ao2 z3.1.length cp2), (6, .int .i64 z3.2)] a := ⟨e_33, e_32, hf⟩; clear e_33 e_32
                clear hd
                have hs : Sep wf (star F5 w4 wf) noR wf (star F5 w4 wf) [.ro ty45 (.slice ao2 z3.1.length cp2) z3.1] := hs0.fstart hX [0] rfl rfl
                refine st tbOk 1 [34] (L' := [(34, undef)]) hf (by kernel_rfl) ?_
                clear hf; clear a; intro a hf
                exact fq_ok (d := 34) rfl hf (hs.ex fun _ h => h) hf.1
              · intro a wf hX hf hd
                have e_34 : a.tmps.getD 34 undef = undef := hd 17 34 (by kernel_rfl) (by kernel_rfl)
                have e_32 : a.tmps.getD 32 undef = .bool (((z3.1.length : Nat) : Int) == 1) := hd 15 32 (by kernel_rfl) (by kernel_rfl)
                rw [hb4] at e_32
                replace hf : Fr 39 [(34, undef), (32, .bool false), (1, .pointer (some ⟨w.heap.size, 0, none⟩)), (4, .slice ao1 z2.length cp1), (5, .slice ao2 z3.1.length cp2), (6, .int .i64 z3.2)] a := ⟨e_34, e_32, hf⟩; clear e_34 e_32
                clear hd
                have hs : Sep wf (star F5 w4 wf) noR wf (star F5 w4 wf) [.ro ty45 (.slice ao2 z3.1.length cp2) z3.1] := hs0.fstart hX [0] rfl rfl
                refine st tbOk 1 [35] (L' := [(35, undef)]) hf (by kernel_rfl) ?_
                clear hf; clear a; intro a hf
                exact fq_ok (d := 35) rfl hf (hs.ex fun _ h => h) hf.1
              · intro a wf hX hf hd
                have e_32 : a.tmps.getD 32 undef = .bool (((z3.1.length : Nat) : Int) == 1) := hd 15 32 (by kernel_rfl) (by kernel_rfl)
                rw [hb4] at e_32
                replace hf : Fr 39 [(32, .bool false), (1, .pointer (some ⟨w.heap.size, 0, none⟩)), (4, .slice ao1 z2.length cp1), (5, .slice ao2 z3.1.length cp2), (6, .int .i64 z3.2)] a := ⟨e_32, hf⟩; clear e_32
                clear hd
                have hs : Sep wf (star F5 w4 wf) noR wf (star F5 w4 wf) [.ro ty45 (.slice ao2 z3.1.length cp2) z3.1] := hs0.fstart hX [0] rfl rfl
                refine st tbOk 1 [36] (L' := [(36, undef)]) hf (by kernel_rfl) ?_
                clear hf; clear a; intro a hf
                exact fq_ok (d := 36) rfl hf (hs.ex fun _ h => h) hf.1
              · intro a wf hX hf hd
                have e_35 : a.tmps.getD 35 undef = undef := hd 18 35 (by kernel_rfl) (by kernel_rfl)
                have e_36 : a.tmps.getD 36 undef = undef := hd 19 36 (by kernel_rfl) (by kernel_rfl)
                have e_32 : a.tmps.getD 32 undef = .bool (((z3.1.length : Nat) : Int) == 1) := hd 15 32 (by kernel_rfl) (by kernel_rfl)
                rw [hb4] at e_32
                replace hf : Fr 39 [(35, undef), (36, undef), (32, .bool false), (1, .pointer (some ⟨w.heap.size, 0, none⟩)), (4, .slice ao1 z2.length cp1), (5, .slice ao2 z3.1.length cp2), (6, .int .i64 z3.2)] a := ⟨e_35, e_36, e_32, hf⟩; clear e_35 e_36 e_32
                clear hd
                have hs : Sep wf (star F5 w4 wf) noR wf (star F5 w4 wf) [.ro ty45 (.slice ao2 z3.1.length cp2) z3.1] := hs0.fstart hX [0] rfl rfl
                refine st tbOk 1 [37] (L' := [(37, undef)]) hf (by kernel_rfl) ?_
                clear hf; clear a; intro a hf
                exact fq_ok (d := 37) rfl hf (hs.ex fun _ h => h) hf.1
              · intro a wf hX hf hd
                have e_32 : a.tmps.getD 32 undef = .bool (((z3.1.length : Nat) : Int) == 1) := hd 15 32 (by kernel_rfl) (by kernel_rfl)
                rw [hb4] at e_32
                have e_37 : a.tmps.getD 37 undef = undef := hd 20 37 (by kernel_rfl) (by kernel_rfl)
                replace hf : Fr 39 [(32, .bool false), (37, undef), (1, .pointer (some ⟨w.heap.size, 0, none⟩)), (4, .slice ao1 z2.length cp1), (5, .slice ao2 z3.1.length cp2), (6, .int .i64 z3.2)] a := ⟨e_32, e_37, hf⟩; clear e_32 e_37
                clear hd
                have hs : Sep wf (star F5 w4 wf) noR wf (star F5 w4 wf) [.ro ty45 (.slice ao2 z3.1.length cp2) z3.1] := hs0.fstart hX [0] rfl rfl
                refine st tbOk 1 [38] (L' := [(38, .bool false)]) hf (by kernel_rfl) ?_
                clear hf; clear a; intro a hf
                exact fq_ok (d := 38) rfl hf (hs.ex fun _ h => h) hf.1
              · intro a wf hX hf hd
                have e_38 : a.tmps.getD 38 undef = .bool false := hd 21 38 (by kernel_rfl) (by kernel_rfl)
                replace hf : Fr 39 [(38, .bool false), (1, .pointer (some ⟨w.heap.size, 0, none⟩)), (4, .slice ao1 z2.length cp1), (5, .slice ao2 z3.1.length cp2), (6, .int .i64 z3.2)] a := ⟨e_38, hf⟩; clear e_38
                clear hd
                have hs : Sep wf (star F5 w4 wf) noR wf (star F5 w4 wf) [.ro ty45 (.slice ao2 z3.1.length cp2) z3.1] := hs0.fstart hX [0] rfl rfl
                refine st tbOk 1 [2] (L' := [(2, .bool false)]) hf (by kernel_rfl) ?_
                clear hf; clear a; intro a hf
                exact fq_ok (d := 2) rfl hf (hs.ex fun _ h => h) hf.1
            · clear hf hs; clear a; intro a w7 hx hf hd
              have hs : Sep w F R w7 (star F5 w4 w7) [.ro ty45 (.slice ao2 z3.1.length cp2) z3.1, .row 5 (tI .u8) (.slice ao1 z2.length cp1) z2, .box w.heap.size 46 [.int .u64 p_x.1, .int .u32 p_x.2.1, .int .u32 p_x.2.2.1, .int .i64 p_x.2.2.2]] := hs0.starX hx
              have e_2 : a.tmps.getD 2 undef = .bool false := hd 22 2 (by kernel_rfl) (by kernel_rfl)
              clear hd hx
              clear hs0
              replace hf : Fr 39 [(2, .bool false), (1, .pointer (some ⟨w.heap.size, 0, none⟩)), (4, .slice ao1 z2.length cp1), (5, .slice ao2 z3.1.length cp2), (6, .int .i64 z3.2)] a := ⟨e_2, hf⟩
              clear e_2
              replace hs : Sep w F R w7 (star F5 w4 w7) [] := hs.sel [] rfl rfl
              replace hf := Fr.keep (ks := [2]) (L' := [(2, .bool false)]) hf (by kernel_rfl)
              refine wpList_nil ?_
              exact hK1 false _ _ ⟨_, hs.sel [] rfl rfl, hf.keep (ks := [2]) (by kernel_rfl)⟩ hS
        · replace hS := of_f hb3 hS
          have hs0 := hs
          refine regF 23 [fun u uw => u = .slice ao1 z2.length cp1,
    fun u uw => u = strV (toStr z2),
    fun u uw => u = .agg #[.int .u64 p_x.1, .int .u32 p_x.2.1, .int .u32 p_x.2.2.1, .int .i64 p_x.2.2.2],
    fun u uw => ∃ (ao4 : Option Addr) (cp4 : Nat) (F' : SH), u = .slice ao4 z4.length cp4 ∧ Sep w4 F5 noR uw F' [.row 5 (tI .u8) (.slice ao4 z4.length cp4) z4],
    fun u uw => u = strV (toStr z4),
    fun u uw => u = .bool ((toStr z2) == (toStr z4)),
    fun u uw => u = .bool ((toStr z2) == (toStr z4)),
    fun u uw => u = .int .i64 z3.2,
    fun u uw => u = .bool (z3.2 == 0),
    fun u uw => u = .bool (z3.2 == 0),
    fun u uw => u = .bool (z3.2 == 0),
    fun u uw => u = undef,
    fun u uw => u = undef,
    fun u uw => u = undef,
    fun u uw => u = .bool false,
    fun u uw => u = .bool false,
    fun u uw => u = undef,
    fun u uw => u = undef,
    fun u uw => u = undef,
    fun u uw => u = undef,
    fun u uw => u = undef,
    fun u uw => u = .bool false,
    fun u uw => u = .bool false] mixed (Fr.keep (ks := [1, 4, 5, 6]) (L' := [(1, .pointer (some ⟨w.heap.size, 0, none⟩)), (4, .slice ao1 z2.length cp1), (5, .slice ao2 z3.1.length cp2), (6, .int .i64 z3.2)]) hf (by kernel_rfl)) (by kernel_rfl) rfl ?_ ?_ ?_
          · exact ⟨fun _ _ _ h _ => h, fun _ _ _ h _ => h, fun _ _ _ h _ => h, fun _ _ _ ⟨ao4, cp4, F', e, h⟩ hx => ⟨ao4, cp4, F', e, h.ext hx⟩, fun _ _ _ h _ => h, fun _ _ _ h _ => h, fun _ _ _ h _ => h, fun _ _ _ h _ => h, fun _ _ _ h _ => h, fun _ _ _ h _ => h, fun _ _ _ h _ => h, fun _ _ _ h _ => h, fun _ _ _ h _ => h, fun _ _ _ h _ => h, fun _ _ _ h _ => h, fun _ _ _ h _ => h, fun _ _ _ h _ => h, fun _ _ _ h _ => h, fun _ _ _ h _ => h, fun _ _ _ h _ => h, fun _ _ _ h _ => h, fun _ _ _ h _ => h, fun _ _ _ h _ => h, trivial⟩
          · clear hS hf hs; clear a
            refine ⟨?_, ?_, ?_, ?_, ?_, ?_, ?_, ?_, ?_, ?_, ?_, ?_, ?_, ?_, ?_, ?_, ?_, ?_, ?_, ?_, ?_, ?_, ?_, trivial⟩
            · intro a wf hX hf hd
              clear hd
              have hs : Sep wf (star F5 w4 wf) noR wf (star F5 w4 wf) [.ro ty45 (.slice ao2 z3.1.length cp2) z3.1] := hs0.fstart hX [0] rfl rfl
              refine st tbOk 1 [17] (L' := [(17, .slice ao1 z2.length cp1)]) hf (by kernel_rfl) ?_
              clear hf; clear a; intro a hf
              exact fq_ok (d := 17) rfl hf (hs.ex fun _ h => h) hf.1
            · intro a wf hX hf hd
              have e_17 : a.tmps.getD 17 undef = .slice ao1 z2.length cp1 := hd 0 17 (by kernel_rfl) (by kernel_rfl)
              replace hf : Fr 39 [(17, .slice ao1 z2.length cp1), (1, .pointer (some ⟨w.heap.size, 0, none⟩)), (4, .slice ao1 z2.length cp1), (5, .slice ao2 z3.1.length cp2), (6, .int .i64 z3.2)] a := ⟨e_17, hf⟩; clear e_17
              clear hd
              have hs : Sep wf (star F5 w4 wf) noR wf (star F5 w4 wf) [.ro ty45 (.slice ao2 z3.1.length cp2) z3.1] := hs0.fstart hX [0] rfl rfl
              refine b2sR tbOk u26 u5 u9 ((hs0.raW 1 rfl).mono hX.le (star_ge _ w4 wf)) hf (by kernel_rfl) (by kernel_rfl) (by kernel_rfl) ?_
              clear hf; clear a; intro a hf
              exact fq_ok (d := 18) rfl hf (hs.ex fun _ h => h) hf.1
            · intro a wf hX hf hd
              clear hd
              have hs : Sep wf (star F5 w4 wf) noR wf (star F5 w4 wf) [.ro ty45 (.slice ao2 z3.1.length cp2) z3.1] := hs0.fstart hX [0] rfl rfl
              refine ldC tbOk (T := 46) ((hs0.cbx 2 rfl).mono hX.le) (LeH.refl _) 0 (.agg #[.int .u64 p_x.1, .int .u32 p_x.2.1, .int .u32 p_x.2.2.1, .int .i64 p_x.2.2.2]) hf (by kernel_rfl) (by kernel_rfl) (by kernel_rfl) (by kernel_rfl) ?_
              clear hf; clear a; intro a hf
              exact fq_ok (d := 19) rfl hf (hs.ex fun _ h => h) hf.1
            · intro a wf hX hf hd
              have e_19 : a.tmps.getD 19 undef = .agg #[.int .u64 p_x.1, .int .u32 p_x.2.1, .int .u32 p_x.2.2.1, .int .i64 p_x.2.2.2] := hd 2 19 (by kernel_rfl) (by kernel_rfl)
              replace hf : Fr 39 [(19, .agg #[.int .u64 p_x.1, .int .u32 p_x.2.1, .int .u32 p_x.2.2.1, .int .i64 p_x.2.2.2]), (1, .pointer (some ⟨w.heap.size, 0, none⟩)), (4, .slice ao1 z2.length cp1), (5, .slice ao2 z3.1.length cp2), (6, .int .i64 z3.2)] a := ⟨e_19, hf⟩; clear e_19
              clear hd
              have hs : Sep wf (star F5 w4 wf) noR wf (star F5 w4 wf) [.ro ty45 (.slice ao2 z3.1.length cp2) z3.1] := hs0.fstart hX [0] rfl rfl
              refine clV ent22 (vs := [.agg #[.int .u64 p_x.1, .int .u32 p_x.2.1, .int .u32 p_x.2.2.1, .int .i64 p_x.2.2.2]]) (caps := []) hf (by kernel_rfl) (by kernel_rfl) (by kernel_rfl) (by kernel_rfl) (ref07_Put_ok (p_x := (p_x.1, p_x.2.1, p_x.2.2.1, p_x.2.2.2)) (hs.enter [] rfl rfl) hz4) ?_
              clear hf; clear a; intro v w5 a hT hf; obtain ⟨ao3, cp3, F6, rfl, hr⟩ := hT
              replace hs : Sep wf (star F5 w4 wf) noR w5 F6 [.row 5 (tI .u8) (.slice ao3 z4.length cp3) z4, .ro ty45 (.slice ao2 z3.1.length cp2) z3.1] := hs.back [] [0] rfl rfl rfl rfl hr
              clear hr
              exact fq_ok (d := 20) rfl hf (hs.ex fun _ h => h) ⟨ao3, cp3, _, hf.1, (hs.sel [0] rfl rfl).rebase hX⟩
            · intro a wf hX hf hd
              obtain ⟨ao4, cp4, F_20, e_20, h_20⟩ : ∃ (ao4 : Option Addr) (cp4 : Nat) (F' : SH), a.tmps.getD 20 undef = .slice ao4 z4.length cp4 ∧ Sep w4 F5 noR wf F' [.row 5 (tI .u8) (.slice ao4 z4.length cp4) z4] := hd 3 20 (by kernel_rfl) (by kernel_rfl)
              replace hf : Fr 39 [(20, .slice ao4 z4.length cp4), (1, .pointer (some ⟨w.heap.size, 0, none⟩)), (4, .slice ao1 z2.length cp1), (5, .slice ao2 z3.1.length cp2), (6, .int .i64 z3.2)] a := ⟨e_20, hf⟩; clear e_20
              clear hd
              have hs : Sep wf (star F5 w4 wf) noR wf (star F5 w4 wf) [.ro ty45 (.slice ao2 z3.1.length cp2) z3.1] := hs0.fstart hX [0] rfl rfl
              replace hs : Sep wf (star F5 w4 wf) noR wf (star F5 w4 wf) [.ro (tI .u8) (.slice ao4 z4.length cp4) z4, .ro ty45 (.slice ao2 z3.1.length cp2) z3.1] := hs.addStar h_20 0 rfl rfl
              clear h_20
              refine b2sR tbOk u26 u5 u9 (hs.raR 0 rfl) hf (by kernel_rfl) (by kernel_rfl) (by kernel_rfl) ?_
              clear hf; clear a; intro a hf
              exact fq_ok (d := 21) rfl hf (hs.ex fun _ h => h) hf.1
            · intro a wf hX hf hd
              have e_18 : a.tmps.getD 18 undef = strV (toStr z2) := hd 1 18 (by kernel_rfl) (by kernel_rfl)
              have e_21 : a.tmps.getD 21 undef = strV (toStr z4) := hd 4 21 (by kernel_rfl) (by kernel_rfl)
              replace hf : Fr 39 [(18, strV (toStr z2)), (21, strV (toStr z4)), (1, .pointer (some ⟨w.heap.size, 0, none⟩)), (4, .slice ao1 z2.length cp1), (5, .slice ao2 z3.1.length cp2), (6, .int .i64 z3.2)] a := ⟨e_18, e_21, hf⟩; clear e_18 e_21
              clear hd
              have hs : Sep wf (star F5 w4 wf) noR wf (star F5 w4 wf) [.ro ty45 (.slice ao2 z3.1.length cp2) z3.1] := hs0.fstart hX [0] rfl rfl
              refine st tbOk 1 [22] (L' := [(22, .bool ((toStr z2) == (toStr z4)))]) hf (by kernel_rfl) ?_
              clear hf; clear a; intro a hf
              exact fq_ok (d := 22) rfl hf (hs.ex fun _ h => h) hf.1
            · intro a wf hX hf hd
              have e_22 : a.tmps.getD 22 undef = .bool ((toStr z2) == (toStr z4)) := hd 5 22 (by kernel_rfl) (by kernel_rfl)
              replace hf : Fr 39 [(22, .bool ((toStr z2) == (toStr z4))), (1, .pointer (some ⟨w.heap.size, 0, none⟩)), (4, .slice ao1 z2.length cp1), (5, .slice ao2 z3.1.length cp2), (6, .int .i64 z3.2)] a := ⟨e_22, hf⟩; clear e_22
              clear hd
              have hs : Sep wf (star F5 w4 wf) noR wf (star F5 w4 wf) [.ro ty45 (.slice ao2 z3.1.length cp2) z3.1] := hs0.fstart hX [0] rfl rfl
              refine st tbOk 1 [23] (L' := [(23, .bool ((toStr z2) == (toStr z4)))]) hf (by kernel_rfl) ?_
              clear hf; clear a; intro a hf
              exact fq_ok (d := 23) rfl hf (hs.ex fun _ h => h) hf.1
            · intro a wf hX hf hd
              have e_23 : a.tmps.getD 23 undef = .bool ((toStr z2) == (toStr z4)) := hd 6 23 (by kernel_rfl) (by kernel_rfl)
              rw [hb2] at e_23
              replace hf : Fr 39 [(23, .bool true), (1, .pointer (some ⟨w.heap.size, 0, none⟩)), (4, .slice ao1 z2.length cp1), (5, .slice ao2 z3.1.length cp2), (6, .int .i64 z3.2)] a := ⟨e_23, hf⟩; clear e_23
              clear hd
              have hs : Sep wf (star F5 w4 wf) noR wf (star F5 w4 wf) [.ro ty45 (.slice ao2 z3.1.length cp2) z3.1] := hs0.fstart hX [0] rfl rfl
              refine st tbOk 1 [24] (L' := [(24, .int .i64 z3.2)]) hf (by kernel_rfl) ?_
              clear hf; clear a; intro a hf
              exact fq_ok (d := 24) rfl hf (hs.ex fun _ h => h) hf.1
            · intro a wf hX hf hd
              have e_24 : a.tmps.getD 24 undef = .int .i64 z3.2 := hd 7 24 (by kernel_rfl) (by kernel_rfl)
              have e_23 : a.tmps.getD 23 undef = .bool ((toStr z2) == (toStr z4)) := hd 6 23 (by kernel_rfl) (by kernel_rfl)
              rw [hb2] at e_23
              replace hf : Fr 39 [(24, .int .i64 z3.2), (23, .bool true), (1, .pointer (some ⟨w.heap.size, 0, none⟩)), (4, .slice ao1 z2.length cp1), (5, .slice ao2 z3.1.length cp2), (6, .int .i64 z3.2)] a := ⟨e_24, e_23, hf⟩; clear e_24 e_23
              clear hd
              have hs : Sep wf (star F5 w4 wf) noR wf (star F5 w4 wf) [.ro ty45 (.slice ao2 z3.1.length cp2) z3.1] := hs0.fstart hX [0] rfl rfl
              refine st tbOk 1 [25] (L' := [(25, .bool (z3.2 == 0))]) hf (by kernel_rfl) ?_
              clear hf; clear a; intro a hf
              exact fq_ok (d := 25) rfl hf (hs.ex fun _ h => h) hf.1
            · intro a wf hX hf hd
              have e_23 : a.tmps.getD 23 undef = .bool ((toStr z2) == (toStr z4)) := hd 6 23 (by kernel_rfl) (by kernel_rfl)
              rw [hb2] at e_23
              have e_25 : a.tmps.getD 25 undef = .bool (z3.2 == 0) := hd 8 25 (by kernel_rfl) (by kernel_rfl)
              replace hf : Fr 39 [(23, .bool true), (25, .bool (z3.2 == 0)), (1, .pointer (some ⟨w.heap.size, 0, none⟩)), (4, .slice ao1 z2.length cp1), (5, .slice ao2 z3.1.length cp2), (6, .int .i64 z3.2)] a := ⟨e_23, e_25, hf⟩; clear e_23 e_25
              clear hd
              have hs : Sep wf (star F5 w4 wf) noR wf (star F5 w4 wf) [.ro ty45 (.slice ao2 z3.1.length cp2) z3.1] := hs0.fstart hX [0] rfl rfl
              refine st tbOk 1 [26] (L' := [(26, .bool (z3.2 == 0))]) hf (by kernel_rfl) ?_
              clear hf; clear a; intro a hf
              exact fq_ok (d := 26) rfl hf (hs.ex fun _ h => h) hf.1
            · intro a wf hX hf hd
              have e_26 : a.tmps.getD 26 undef = .bool (z3.2 == 0) := hd 9 26 (by kernel_rfl) (by kernel_rfl)
              replace hf : Fr 39 [(26, .bool (z3.2 == 0)), (1, .pointer (some ⟨w.heap.size, 0, none⟩)), (4, .slice ao1 z2.length cp1), (5, .slice ao2 z3.1.length cp2), (6, .int .i64 z3.2)] a := ⟨e_26, hf⟩; clear e_26
              clear hd
              have hs : Sep wf (star F5 w4 wf) noR wf (star F5 w4 wf) [.ro ty45 (.slice ao2 z3.1.length cp2) z3.1] := hs0.fstart hX [0] rfl rfl
              refine st tbOk 1 [27] (L' := [(27, .bool (z3.2 == 0))]) hf (by kernel_rfl) ?_
              clear hf; clear a; intro a hf
              exact fq_ok (d := 27) rfl hf (hs.ex fun _ h => h) hf.1
            · intro a wf hX hf hd
              have e_27 : a.tmps.getD 27 undef = .bool (z3.2 == 0) := hd 10 27 (by kernel_rfl) (by kernel_rfl)
              rw [hb3] at e_27
              replace hf : Fr 39 [(27, .bool false), (1, .pointer (some ⟨w.heap.size, 0, none⟩)), (4, .slice ao1 z2.length cp1), (5, .slice ao2 z3.1.length cp2), (6, .int .i64 z3.2)] a := ⟨e_27, hf⟩; clear e_27
              clear hd
              have hs : Sep wf (star F5 w4 wf) noR wf (star F5 w4 wf) [.ro ty45 (.slice ao2 z3.1.length cp2) z3.1] := hs0.fstart hX [0] rfl rfl
              refine st tbOk 1 [28] (L' := [(28, undef)]) hf (by kernel_rfl) ?_
              clear hf; clear a; intro a hf
              exact fq_ok (d := 28) rfl hf (hs.ex fun _ h => h) hf.1
            · intro a wf hX hf hd
              have e_28 : a.tmps.getD 28 undef = undef := hd 11 28 (by kernel_rfl) (by kernel_rfl)
              have e_27 : a.tmps.getD 27 undef = .bool (z3.2 == 0) := hd 10 27 (by kernel_rfl) (by kernel_rfl)
              rw [hb3] at e_27
              replace hf : Fr 39 [(28, undef), (27, .bool false), (1, .pointer (some ⟨w.heap.size, 0, none⟩)), (4, .slice ao1 z2.length cp1), (5, .slice ao2 z3.1.length cp2), (6, .int .i64 z3.2)] a := ⟨e_28, e_27, hf⟩; clear e_28 e_27
              clear hd
              have hs : Sep wf (star F5 w4 wf) noR wf (star F5 w4 wf) [.ro ty45 (.slice ao2 z3.1.length cp2) z3.1] := hs0.fstart hX [0] rfl rfl
              refine st tbOk 1 [29] (L' := [(29, undef)]) hf (by kernel_rfl) ?_
              clear hf; clear a; intro a hf
              exact fq_ok (d := 29) rfl hf (hs.ex fun _ h => h) hf.1
            · intro a wf hX hf hd
              have e_29 : a.tmps.getD 29 undef = undef := hd 12 29 (by kernel_rfl) (by kernel_rfl)
              have e_27 : a.tmps.getD 27 undef = .bool (z3.2 == 0) := hd 10 27 (by kernel_rfl) (by kernel_rfl)
              rw [hb3] at e_27
              replace hf : Fr 39 [(29, undef), (27, .bool false), (1, .pointer (some ⟨w.heap.size, 0, none⟩)), (4, .slice ao1 z2.length cp1), (5, .slice ao2 z3.1.length cp2), (6, .int .i64 z3.2)] a := ⟨e_29, e_27, hf⟩; clear e_29 e_27
              clear hd
              have hs : Sep wf (star F5 w4 wf) noR wf (star F5 w4 wf) [.ro ty45 (.slice ao2 z3.1.length cp2) z3.1] := hs0.fstart hX [0] rfl rfl
              refine st tbOk 1 [30] (L' := [(30, undef)]) hf (by kernel_rfl) ?_
              clear hf; clear a; intro a hf
              exact fq_ok (d := 30) rfl hf (hs.ex fun _ h => h) hf.1
            · intro a wf hX hf hd
              have e_27 : a.tmps.getD 27 undef = .bool (z3.2 == 0) := hd 10 27 (by kernel_rfl) (by kernel_rfl)
              rw [hb3] at e_27
              have e_30 : a.tmps.getD 30 undef = undef := hd 13 30 (by kernel_rfl) (by kernel_rfl)
              replace hf : Fr 39 [(27, .bool false), (30, undef), (1, .pointer (some ⟨w.heap.size, 0, none⟩)), (4, .slice ao1 z2.length cp1), (5, .slice ao2 z3.1.length cp2), (6, .int .i64 z3.2)] a := ⟨e_27, e_30, hf⟩; clear e_27 e_30
              clear hd
              have hs : Sep wf (star F5 w4 wf) noR wf (star F5 w4 wf) [.ro ty45 (.slice ao2 z3.1.length cp2) z3.1] := hs0.fstart hX [0] rfl rfl
              refine st tbOk 1 [31] (L' := [(31, .bool false)]) hf (by kernel_rfl) ?_
              clear hf; clear a; intro a hf
              exact fq_ok (d := 31) rfl hf (hs.ex fun _ h => h) hf.1
            · intro a wf hX hf hd
              have e_31 : a.tmps.getD 31 undef = .bool false := hd 14 31 (by kernel_rfl) (by kernel_rfl)
              replace hf : Fr 39 [(31, .bool false), (1, .pointer (some ⟨w.heap.size, 0, none⟩)), (4, .slice ao1 z2.length cp1), (5, .slice ao2 z3.1.length cp2), (6, .int .i64 z3.2)] a := ⟨e_31, hf⟩; clear e_31
              clear hd
              have hs : Sep wf (star F5 w4 wf) noR wf (star F5 w4 wf) [.ro ty45 (.slice ao2 z3.1.length cp2) z3.1] := hs0.fstart hX [0] rfl rfl
              refine st tbOk 1 [32] (L' := [(32, .bool false)]) hf (by kernel_rfl) ?_
              clear hf; clear a; intro a hf
              exact fq_ok (d := 32) rfl hf (hs.ex fun _ h => h) hf.1
            · intro a wf hX hf hd
              have e_32 : a.tmps.getD 32 undef = .bool false := hd 15 32 (by kernel_rfl) (by kernel_rfl)
              replace hf : Fr 39 [(32, .bool false), (1, .pointer (some ⟨w.heap.size, 0, none⟩)), (4, .slice ao1 z2.length cp1), (5, .slice ao2 z3.1.length cp2), (6, .int .i64 z3.2)] a := ⟨e_32, hf⟩; clear e_32
              clear hd
              have hs : Sep wf (star F5 w4 wf) noR wf (star F5 w4 wf) [.ro ty45 (.slice ao2 z3.1.length cp2) z3.1] := hs0.fstart hX [0] rfl rfl
              refine st tbOk 1 [33] (L' := [(33, undef)]) hf (by kernel_rfl) ?_
              clear hf; clear a; intro a hf
              exact fq_ok (d := 33) rfl hf (hs.ex fun _ h => h) hf.1
            · intro a wf hX hf hd
              have e_33 : a.tmps.getD 33 undef = undef := hd 16 33 (by kernel_rfl) (by kernel_rfl)
              have e_32 : a.tmps.getD 32 undef = .bool false := hd 15 32 (by kernel_rfl) (by kernel_rfl)
              replace hf : Fr 39 [(33, undef), (32, .bool false), (1, .pointer (some ⟨w.heap.size, 0, none⟩)), (4, .slice ao1 z2.length cp1), (5, .slice ao2 z3.1.length cp2), (6, .int .i64 z3.2)] a := ⟨e_33, e_32, hf⟩; clear e_33 e_32
              clear hd
              have hs : Sep wf (star F5 w4 wf) noR wf (star F5 w4 wf) [.ro ty45 (.slice ao2 z3.1.length cp2) z3.1] := hs0.fstart hX [0] rfl rfl
              refine st tbOk 1 [34] (L' := [(34, undef)]) hf (by kernel_rfl) ?_
              clear hf; clear a; intro a hf
              exact fq_ok (d := 34) rfl hf (hs.ex fun _ h => h) hf.1
            · intro a wf hX hf hd
              have e_34 : a.tmps.getD 34 undef = undef := hd 17 34 (by kernel_rfl) (by kernel_rfl)
              have e_32 : a.tmps.getD 32 undef = .bool false := hd 15 32 (by kernel_rfl) (by kernel_rfl)
              replace hf : Fr 39 [(34, undef), (32, .bool false), (1, .pointer (some ⟨w.heap.size, 0, none⟩)), (4, .slice ao1 z2.length cp1), (5, .slice ao2 z3.1.length cp2), (6, .int .i64 z3.2)] a := ⟨e_34, e_32, hf⟩; clear e_34 e_32
              clear hd
              have hs : Sep wf (star F5 w4 wf) noR wf (star F5 w4 wf) [.ro ty45 (.slice ao2 z3.1.length cp2) z3.1] := hs0.fstart hX [0] rfl rfl
              refine st tbOk 1 [35] (L' := [(35, undef)]) hf (by kernel_rfl) ?_
              clear hf; clear a; intro a hf
              exact fq_ok (d := 35) rfl hf (hs.ex fun _ h => h) hf.1
            · intro a wf hX hf hd
              have e_32 : a.tmps.getD 32 undef = .bool false := hd 15 32 (by kernel_rfl) (by kernel_rfl)
              replace hf : Fr 39 [(32, .bool false), (1, .pointer (some ⟨w.heap.size, 0, none⟩)), (4, .slice ao1 z2.length cp1), (5, .slice ao2 z3.1.length cp2), (6, .int .i64 z3.2)] a := ⟨e_32, hf⟩; clear e_32
              clear hd
              have hs : Sep wf (star F5 w4 wf) noR wf (star F5 w4 wf) [.ro ty45 (.slice ao2 z3.1.length cp2) z3.1] := hs0.fstart hX [0] rfl rfl
              refine st tbOk 1 [36] (L' := [(36, undef)]) hf (by kernel_rfl) ?_
              clear hf; clear a; intro a hf
              exact fq_ok (d := 36) rfl hf (hs.ex fun _ h => h) hf.1
            · intro a wf hX hf hd
              have e_35 : a.tmps.getD 35 undef = undef := hd 18 35 (by kernel_rfl) (by kernel_rfl)
              have e_36 : a.tmps.getD 36 undef = undef := hd 19 36 (by kernel_rfl) (by kernel_rfl)
              have e_32 : a.tmps.getD 32 undef = .bool false := hd 15 32 (by kernel_rfl) (by kernel_rfl)
              replace hf : Fr 39 [(35, undef), (36, undef), (32, .bool false), (1, .pointer (some ⟨w.heap.size, 0, none⟩)), (4, .slice ao1 z2.length cp1), (5, .slice ao2 z3.1.length cp2), (6, .int .i64 z3.2)] a := ⟨e_35, e_36, e_32, hf⟩; clear e_35 e_36 e_32
              clear hd
              have hs : Sep wf (star F5 w4 wf) noR wf (star F5 w4 wf) [.ro ty45 (.slice ao2 z3.1.length cp2) z3.1] := hs0.fstart hX [0] rfl rfl
              refine st tbOk 1 [37] (L' := [(37, undef)]) hf (by kernel_rfl) ?_
              clear hf; clear a; intro a hf
              exact fq_ok (d := 37) rfl hf (hs.ex fun _ h => h) hf.1
            · intro a wf hX hf hd
              have e_32 : a.tmps.getD 32 undef = .bool false := hd 15 32 (by kernel_rfl) (by kernel_rfl)
              have e_37 : a.tmps.getD 37 undef = undef := hd 20 37 (by kernel_rfl) (by kernel_rfl)
              replace hf : Fr 39 [(32, .bool false), (37, undef), (1, .pointer (some ⟨w.heap.size, 0, none⟩)), (4, .slice ao1 z2.length cp1), (5, .slice ao2 z3.1.length cp2), (6, .int .i64 z3.2)] a := ⟨e_32, e_37, hf⟩; clear e_32 e_37
              clear hd
              have hs : Sep wf (star F5 w4 wf) noR wf (star F5 w4 wf) [.ro ty45 (.slice ao2 z3.1.length cp2) z3.1] := hs0.fstart hX [0] rfl rfl
              refine st tbOk 1 [38] (L' := [(38, .bool false)]) hf (by kernel_rfl) ?_
              clear hf; clear a; intro a hf
              exact fq_ok (d := 38) rfl hf (hs.ex fun _ h => h) hf.1
            · intro a wf hX hf hd
              have e_38 : a.tmps.getD 38 undef = .bool false := hd 21 38 (by kernel_rfl) (by kernel_rfl)
              replace hf : Fr 39 [(38, .bool false), (1, .pointer (some ⟨w.heap.size, 0, none⟩)), (4, .slice ao1 z2.length cp1), (5, .slice ao2 z3.1.length cp2), (6, .int .i64 z3.2)] a := ⟨e_38, hf⟩; clear e_38
              clear hd
              have hs : Sep wf (star F5 w4 wf) noR wf (star F5 w4 wf) [.ro ty45 (.slice ao2 z3.1.length cp2) z3.1] := hs0.fstart hX [0] rfl rfl
              refine st tbOk 1 [2] (L' := [(2, .bool false)]) hf (by kernel_rfl) ?_
              clear hf; clear a; intro a hf
              exact fq_ok (d := 2) rfl hf (hs.ex fun _ h => h) hf.1
          · clear hf hs; clear a; intro a w8 hx hf hd
            have hs : Sep w F R w8 (star F5 w4 w8) [.ro ty45 (.slice ao2 z3.1.length cp2) z3.1, .row 5 (tI .u8) (.slice ao1 z2.length cp1) z2, .box w.heap.size 46 [.int .u64 p_x.1, .int .u32 p_x.2.1, .int .u32 p_x.2.2.1, .int .i64 p_x.2.2.2]] := hs0.starX hx
            have e_2 : a.tmps.getD 2 undef = .bool false := hd 22 2 (by kernel_rfl) (by kernel_rfl)
            clear hd hx
            clear hs0
            replace hf : Fr 39 [(2, .bool false), (1, .pointer (some ⟨w.heap.size, 0, none⟩)), (4, .slice ao1 z2.length cp1), (5, .slice ao2 z3.1.length cp2), (6, .int .i64 z3.2)] a := ⟨e_2, hf⟩
            clear e_2
            replace hs : Sep w F R w8 (star F5 w4 w8) [] := hs.sel [] rfl rfl
            replace hf := Fr.keep (ks := [2]) (L' := [(2, .bool false)]) hf (by kernel_rfl)
            refine wpList_nil ?_
            exact hK1 false _ _ ⟨_, hs.sel [] rfl rfl, hf.keep (ks := [2]) (by kernel_rfl)⟩ hS
      · replace hS := of_f hb2 hS
        have hs0 := hs
        refine regF 23 [fun u uw => u = .slice ao1 z2.length cp1,
    fun u uw => u = strV (toStr z2),
    fun u uw => u = .agg #[.int .u64 p_x.1, .int .u32 p_x.2.1, .int .u32 p_x.2.2.1, .int .i64 p_x.2.2.2],
    fun u uw => ∃ (ao4 : Option Addr) (cp4 : Nat) (F' : SH), u = .slice ao4 z4.length cp4 ∧ Sep w4 F5 noR uw F' [.row 5 (tI .u8) (.slice ao4 z4.length cp4) z4],
    fun u uw => u = strV (toStr z4),
    fun u uw => u = .bool ((toStr z2) == (toStr z4)),
    fun u uw => u = .bool ((toStr z2) == (toStr z4)),
    fun u uw => u = undef,
    fun u uw => u = undef,
    fun u uw => u = .bool false,
    fun u uw => u = .bool false,
    fun u uw => u = undef,
    fun u uw => u = undef,
    fun u uw => u = undef,
    fun u uw => u = .bool false,
    fun u uw => u = .bool false,
    fun u uw => u = undef,
    fun u uw => u = undef,
    fun u uw => u = undef,
    fun u uw => u = undef,
    fun u uw => u = undef,
    fun u uw => u = .bool false,
    fun u uw => u = .bool false] mixed (Fr.keep (ks := [1, 4, 5, 6]) (L' := [(1, .pointer (some ⟨w.heap.size, 0, none⟩)), (4, .slice ao1 z2.length cp1), (5, .slice ao2 z3.1.length cp2), (6, .int .i64 z3.2)]) hf (by kernel_rfl)) (by kernel_rfl) rfl ?_ ?_ ?_
        · exact ⟨fun _ _ _ h _ => h, fun _ _ _ h _ => h, fun _ _ _ h _ => h, fun _ _ _ ⟨ao4, cp4, F', e, h⟩ hx => ⟨ao4, cp4, F', e, h.ext hx⟩, fun _ _ _ h _ => h, fun _ _ _ h _ => h, fun _ _ _ h _ => h, fun _ _ _ h _ => h, fun _ _ _ h _ => h, fun _ _ _ h _ => h, fun _ _ _ h _ => h, fun _ _ _ h _ => h, fun _ _ _ h _ => h, fun _ _ _ h _ => h, fun _ _ _ h _ => h, fun _ _ _ h _ => h, fun _ _ _ h _ => h, fun _ _ _ h _ => h, fun _ _ _ h _ => h, fun _ _ _ h _ => h, fun _ _ _ h _ => h, fun _ _ _ h _ => h, fun _ _ _ h _ => h, trivial⟩
        · clear hS hf hs; clear a
          refine ⟨?_, ?_, ?_, ?_, ?_, ?_, ?_, ?_, ?_, ?_, ?_, ?_, ?_, ?_, ?_, ?_, ?_, ?_, ?_, ?_, ?_, ?_, ?_, trivial⟩
          · intro a wf hX hf hd
            clear hd
            have hs : Sep wf (star F5 w4 wf) noR wf (star F5 w4 wf) [.ro ty45 (.slice ao2 z3.1.length cp2) z3.1] := hs0.fstart hX [0] rfl rfl
            refine st tbOk 1 [17] (L' := [(17, .slice ao1 z2.length cp1)]) hf (by kernel_rfl) ?_
            clear hf; clear a; intro a hf
            exact fq_ok (d := 17) rfl hf (hs.ex fun _ h => h) hf.1
          · intro a wf hX hf hd
            have e_17 : a.tmps.getD 17 undef = .slice ao1 z2.length cp1 := hd 0 17 (by kernel_rfl) (by kernel_rfl)
            replace hf : Fr 39 [(17, .slice ao1 z2.length cp1), (1, .pointer (some ⟨w.heap.size, 0, none⟩)), (4, .slice ao1 z2.length cp1), (5, .slice ao2 z3.1.length cp2), (6, .int .i64 z3.2)] a := ⟨e_17, hf⟩; clear e_17
            clear hd
            have hs : Sep wf (star F5 w4 wf) noR wf (star F5 w4 wf) [.ro ty45 (.slice ao2 z3.1.length cp2) z3.1] := hs0.fstart hX [0] rfl rfl
            refine b2sR tbOk u26 u5 u9 ((hs0.raW 1 rfl).mono hX.le (star_ge _ w4 wf)) hf (by kernel_rfl) (by kernel_rfl) (by kernel_rfl) ?_
            clear hf; clear a; intro a hf
            exact fq_ok (d := 18) rfl hf (hs.ex fun _ h => h) hf.1
          · intro a wf hX hf hd
            clear hd
            have hs : Sep wf (star F5 w4 wf) noR wf (star F5 w4 wf) [.ro ty45 (.slice ao2 z3.1.length cp2) z3.1] := hs0.fstart hX [0] rfl rfl
            refine ldC tbOk (T := 46) ((hs0.cbx 2 rfl).mono hX.le) (LeH.refl _) 0 (.agg #[.int .u64 p_x.1, .int .u32 p_x.2.1, .int .u32 p_x.2.2.1, .int .i64 p_x.2.2.2]) hf (by kernel_rfl) (by kernel_rfl) (by kernel_rfl) (by kernel_rfl) ?_
            clear hf; clear a; intro a hf
            exact fq_ok (d := 19) rfl hf (hs.ex fun _ h => h) hf.1
          · intro a wf hX hf hd
            have e_19 : a.tmps.getD 19 undef = .agg #[.int .u64 p_x.1, .int .u32 p_x.2.1, .int .u32 p_x.2.2.1, .int .i64 p_x.2.2.2] := hd 2 19 (by kernel_rfl) (by kernel_rfl)
            replace hf : Fr 39 [(19, .agg #[.int .u64 p_x.1, .int .u32 p_x.2.1, .int .u32 p_x.2.2.1, .int .i64 p_x.2.2.2]), (1, .pointer (some ⟨w.heap.size, 0, none⟩)), (4, .slice ao1 z2.length cp1), (5, .slice ao2 z3.1.length cp2), (6, .int .i64 z3.2)] a := ⟨e_19, hf⟩; clear e_19
            clear hd
            have hs : Sep wf (star F5 w4 wf) noR wf (star F5 w4 wf) [.ro ty45 (.slice ao2 z3.1.length cp2) z3.1] := hs0.fstart hX [0] rfl rfl
            refine clV ent22 (vs := [.agg #[.int .u64 p_x.1, .int .u32 p_x.2.1, .int .u32 p_x.2.2.1, .int .i64 p_x.2.2.2]]) (caps := []) hf (by kernel_rfl) (by kernel_rfl) (by kernel_rfl) (by kernel_rfl) (ref07_Put_ok (p_x := (p_x.1, p_x.2.1, p_x.2.2.1, p_x.2.2.2)) (hs.enter [] rfl rfl) hz4) ?_
            clear hf; clear a; intro v w5 a hT hf; obtain ⟨ao3, cp3, F6, rfl, hr⟩ := hT
            replace hs : Sep wf (star F5 w4 wf) noR w5 F6 [.row 5 (tI .u8) (.slice ao3 z4.length cp3) z4, .ro ty45 (.slice ao2 z3.1.length cp2) z3.1] := hs.back [] [0] rfl rfl rfl rfl hr
            clear hr
            exact fq_ok (d := 20) rfl hf (hs.ex fun _ h => h) ⟨ao3, cp3, _, hf.1, (hs.sel [0] rfl rfl).rebase hX⟩
          · intro a wf hX hf hd
            obtain ⟨ao4, cp4, F_20, e_20, h_20⟩ : ∃ (ao4 : Option Addr) (cp4 : Nat) (F' : SH), a.tmps.getD 20 undef = .slice ao4 z4.length cp4 ∧ Sep w4 F5 noR wf F' [.row 5 (tI .u8) (.slice ao4 z4.length cp4) z4] := hd 3 20 (by kernel_rfl) (by kernel_rfl)
            replace hf : Fr 39 [(20, .slice ao4 z4.length cp4), (1, .pointer (some ⟨w.heap.size, 0, none⟩)), (4, .slice ao1 z2.length cp1), (5, .slice ao2 z3.1.length cp2), (6, .int .i64 z3.2)] a := ⟨e_20, hf⟩; clear e_20
            clear hd
            have hs : Sep wf (star F5 w4 wf) noR wf (star F5 w4 wf) [.ro ty45 (.slice ao2 z3.1.length cp2) z3.1] := hs0.fstart hX [0] rfl rfl
            replace hs : Sep wf (star F5 w4 wf) noR wf (star F5 w4 wf) [.ro (tI .u8) (.slice ao4 z4.length cp4) z4, .ro ty45 (.slice ao2 z3.1.length cp2) z3.1] := hs.addStar h_20 0 rfl rfl
            clear h_20
            refine b2sR tbOk u26 u5 u9 (hs.raR 0 rfl) hf (by kernel_rfl) (by kernel_rfl) (by kernel_rfl) ?_
            clear hf; clear a; intro a hf
            exact fq_ok (d := 21) rfl hf (hs.ex fun _ h => h) hf.1
          · intro a wf hX hf hd
            have e_18 : a.tmps.getD 18 undef = strV (toStr z2) := hd 1 18 (by kernel_rfl) (by kernel_rfl)
            have e_21 : a.tmps.getD 21 undef = strV (toStr z4) := hd 4 21 (by kernel_rfl) (by kernel_rfl)
            replace hf : Fr 39 [(18, strV (toStr z2)), (21, strV (toStr z4)), (1, .pointer (some ⟨w.heap.size, 0, none⟩)), (4, .slice ao1 z2.length cp1), (5, .slice ao2 z3.1.length cp2), (6, .int .i64 z3.2)] a := ⟨e_18, e_21, hf⟩; clear e_18 e_21
            clear hd
            have hs : Sep wf (star F5 w4 wf) noR wf (star F5 w4 wf) [.ro ty45 (.slice ao2 z3.1.length cp2) z3.1] := hs0.fstart hX [0] rfl rfl
            refine st tbOk 1 [22] (L' := [(22, .bool ((toStr z2) == (toStr z4)))]) hf (by kernel_rfl) ?_
            clear hf; clear a; intro a hf
            exact fq_ok (d := 22) rfl hf (hs.ex fun _ h => h) hf.1
          · intro a wf hX hf hd
            have e_22 : a.tmps.getD 22 undef = .bool ((toStr z2) == (toStr z4)) := hd 5 22 (by kernel_rfl) (by kernel_rfl)
            replace hf : Fr 39 [(22, .bool ((toStr z2) == (toStr z4))), (1, .pointer (some ⟨w.heap.size, 0, none⟩)), (4, .slice ao1 z2.length cp1), (5, .slice ao2 z3.1.length cp2), (6, .int .i64 z3.2)] a := ⟨e_22, hf⟩; clear e_22
            clear hd
            have hs : Sep wf (star F5 w4 wf) noR wf (star F5 w4 wf) [.ro ty45 (.slice ao2 z3.1.length cp2) z3.1] := hs0.fstart hX [0] rfl rfl
            refine st tbOk 1 [23] (L' := [(23, .bool ((toStr z2) == (toStr z4)))]) hf (by kernel_rfl) ?_
            clear hf; clear a; intro a hf
            exact fq_ok (d := 23) rfl hf (hs.ex fun _ h => h) hf.1
          · intro a wf hX hf hd
            have e_23 : a.tmps.getD 23 undef = .bool ((toStr z2) == (toStr z4)) := hd 6 23 (by kernel_rfl) (by kernel_rfl)
            rw [hb2] at e_23
            replace hf : Fr 39 [(23, .bool false), (1, .pointer (some ⟨w.heap.size, 0, none⟩)), (4, .slice ao1 z2.length cp1), (5, .slice ao2 z3.1.length cp2), (6, .int .i64 z3.2)] a := ⟨e_23, hf⟩; clear e_23
            clear hd
            have hs : Sep wf (star F5 w4 wf) noR wf (star F5 w4 wf) [.ro ty45 (.slice ao2 z3.1.length cp2) z3.1] := hs0.fstart hX [0] rfl rfl
            refine st tbOk 1 [24] (L' := [(24, undef)]) hf (by kernel_rfl) ?_
            clear hf; clear a; intro a hf
            exact fq_ok (d := 24) rfl hf (hs.ex fun _ h => h) hf.1
          · intro a wf hX hf hd
            have e_24 : a.tmps.getD 24 undef = undef := hd 7 24 (by kernel_rfl) (by kernel_rfl)
            have e_23 : a.tmps.getD 23 undef = .bool ((toStr z2) == (toStr z4)) := hd 6 23 (by kernel_rfl) (by kernel_rfl)
            rw [hb2] at e_23
            replace hf : Fr 39 [(24, undef), (23, .bool false), (1, .pointer (some ⟨w.heap.size, 0, none⟩)), (4, .slice ao1 z2.length cp1), (5, .slice ao2 z3.1.length cp2), (6, .int .i64 z3.2)] a := ⟨e_24, e_23, hf⟩; clear e_24 e_23
            clear hd
            have hs : Sep wf (star F5 w4 wf) noR wf (star F5 w4 wf) [.ro ty45 (.slice ao2 z3.1.length cp2) z3.1] := hs0.fstart hX [0] rfl rfl
            refine st tbOk 1 [25] (L' := [(25, undef)]) hf (by kernel_rfl) ?_
            clear hf; clear a; intro a hf
            exact fq_ok (d := 25) rfl hf (hs.ex fun _ h => h) hf.1
          · intro a wf hX hf hd
            have e_23 : a.tmps.getD 23 undef = .bool ((toStr z2) == (toStr z4)) := hd 6 23 (by kernel_rfl) (by kernel_rfl)
            rw [hb2] at e_23
            have e_25 : a.tmps.getD 25 undef = undef := hd 8 25 (by kernel_rfl) (by kernel_rfl)
            replace hf : Fr 39 [(23, .bool false), (25, undef), (1, .pointer (some ⟨w.heap.size, 0, none⟩)), (4, .slice ao1 z2.length cp1), (5, .slice ao2 z3.1.length cp2), (6, .int .i64 z3.2)] a := ⟨e_23, e_25, hf⟩; clear e_23 e_25
            clear hd
            have hs : Sep wf (star F5 w4 wf) noR wf (star F5 w4 wf) [.ro ty45 (.slice ao2 z3.1.length cp2) z3.1] := hs0.fstart hX [0] rfl rfl
            refine st tbOk 1 [26] (L' := [(26, .bool false)]) hf (by kernel_rfl) ?_
            clear hf; clear a; intro a hf
            exact fq_ok (d := 26) rfl hf (hs.ex fun _ h => h) hf.1
          · intro a wf hX hf hd
            have e_26 : a.tmps.getD 26 undef = .bool false := hd 9 26 (by kernel_rfl) (by kernel_rfl)
            replace hf : Fr 39 [(26, .bool false), (1, .pointer (some ⟨w.heap.size, 0, none⟩)), (4, .slice ao1 z2.length cp1), (5, .slice ao2 z3.1.length cp2), (6, .int .i64 z3.2)] a := ⟨e_26, hf⟩; clear e_26
            clear hd
            have hs : Sep wf (star F5 w4 wf) noR wf (star F5 w4 wf) [.ro ty45 (.slice ao2 z3.1.length cp2) z3.1] := hs0.fstart hX [0] rfl rfl
            refine st tbOk 1 [27] (L' := [(27, .bool false)]) hf (by kernel_rfl) ?_
            clear hf; clear a; intro a hf
            exact fq_ok (d := 27) rfl hf (hs.ex fun _ h => h) hf.1
          · intro a wf hX hf hd
            have e_27 : a.tmps.getD 27 undef = .bool false := hd 10 27 (by kernel_rfl) (by kernel_rfl)
            replace hf : Fr 39 [(27, .bool false), (1, .pointer (some ⟨w.heap.size, 0, none⟩)), (4, .slice ao1 z2.length cp1), (5, .slice ao2 z3.1.length cp2), (6, .int .i64 z3.2)] a := ⟨e_27, hf⟩; clear e_27
            clear hd
            have hs : Sep wf (star F5 w4 wf) noR wf (star F5 w4 wf) [.ro ty45 (.slice ao2 z3.1.length cp2) z3.1] := hs0.fstart hX [0] rfl rfl
            refine st tbOk 1 [28] (L' := [(28, undef)]) hf (by kernel_rfl) ?_
            clear hf; clear a; intro a hf
            exact fq_ok (d := 28) rfl hf (hs.ex fun _ h => h) hf.1
          · intro a wf hX hf hd
            have e_28 : a.tmps.getD 28 undef = undef := hd 11 28 (by kernel_rfl) (by kernel_rfl)
            have e_27 : a.tmps.getD 27 undef = .bool false := hd 10 27 (by kernel_rfl) (by kernel_rfl)
            replace hf : Fr 39 [(28, undef), (27, .bool false), (1, .pointer (some ⟨w.heap.size, 0, none⟩)), (4, .slice ao1 z2.length cp1), (5, .slice ao2 z3.1.length cp2), (6, .int .i64 z3.2)] a := ⟨e_28, e_27, hf⟩; clear e_28 e_27
            clear hd
            have hs : Sep wf (star F5 w4 wf) noR wf (star F5 w4 wf) [.ro ty45 (.slice ao2 z3.1.length cp2) z3.1] := hs0.fstart hX [0] rfl rfl
            refine st tbOk 1 [29] (L' := [(29, undef)]) hf (by kernel_rfl) ?_
            clear hf; clear a; intro a hf
            exact fq_ok (d := 29) rfl hf (hs.ex fun _ h => h) hf.1
          · intro a wf hX hf hd
            have e_29 : a.tmps.getD 29 undef = undef := hd 12 29 (by kernel_rfl) (by kernel_rfl)
            have e_27 : a.tmps.getD 27 undef = .bool false := hd 10 27 (by kernel_rfl) (by kernel_rfl)
            replace hf : Fr 39 [(29, undef), (27, .bool false), (1, .pointer (some ⟨w.heap.size, 0, none⟩)), (4, .slice ao1 z2.length cp1), (5, .slice ao2 z3.1.length cp2), (6, .int .i64 z3.2)] a := ⟨e_29, e_27, hf⟩; clear e_29 e_27
            clear hd
            have hs : Sep wf (star F5 w4 wf) noR wf (star F5 w4 wf) [.ro ty45 (.slice ao2 z3.1.length cp2) z3.1] := hs0.fstart hX [0] rfl rfl
            refine st tbOk 1 [30] (L' := [(30, undef)]) hf (by kernel_rfl) ?_
            clear hf; clear a; intro a hf
            exact fq_ok (d := 30) rfl hf (hs.ex fun _ h => h) hf.1
          · intro a wf hX hf hd
            have e_27 : a.tmps.getD 27 undef = .bool false := hd 10 27 (by kernel_rfl) (by kernel_rfl)
            have e_30 : a.tmps.getD 30 undef = undef := hd 13 30 (by kernel_rfl) (by kernel_rfl)
            replace hf : Fr 39 [(27, .bool false), (30, undef), (1, .pointer (some ⟨w.heap.size, 0, none⟩)), (4, .slice ao1 z2.length cp1), (5, .slice ao2 z3.1.length cp2), (6, .int .i64 z3.2)] a := ⟨e_27, e_30, hf⟩; clear e_27 e_30
            clear hd
            have hs : Sep wf (star F5 w4 wf) noR wf (star F5 w4 wf) [.ro ty45 (.slice ao2 z3.1.length cp2) z3.1] := hs0.fstart hX [0] rfl rfl
            refine st tbOk 1 [31] (L' := [(31, .bool false)]) hf (by kernel_rfl) ?_
            clear hf; clear a; intro a hf
            exact fq_ok (d := 31) rfl hf (hs.ex fun _ h => h) hf.1
          · intro a wf hX hf hd
            have e_31 : a.tmps.getD 31 undef = .bool false := hd 14 31 (by kernel_rfl) (by kernel_rfl)
            replace hf : Fr 39 [(31, .bool false), (1, .pointer (some ⟨w.heap.size, 0, none⟩)), (4, .slice ao1 z2.length cp1), (5, .slice ao2 z3.1.length cp2), (6, .int .i64 z3.2)] a := ⟨e_31, hf⟩; clear e_31
            clear hd
            have hs : Sep wf (star F5 w4 wf) noR wf (star F5 w4 wf) [.ro ty45 (.slice ao2 z3.1.length cp2) z3.1] := hs0.fstart hX [0] rfl rfl
            refine st tbOk 1 [32] (L' := [(32, .bool false)]) hf (by kernel_rfl) ?_
            clear hf; clear a; intro a hf
            exact fq_ok (d := 32) rfl hf (hs.ex fun _ h => h) hf.1
          · intro a wf hX hf hd
            have e_32 : a.tmps.getD 32 undef = .bool false := hd 15 32 (by kernel_rfl) (by kernel_rfl)
            replace hf : Fr 39 [(32, .bool false), (1, .pointer (some ⟨w.heap.size, 0, none⟩)), (4, .slice ao1 z2.length cp1), (5, .slice ao2 z3.1.length cp2), (6, .int .i64 z3.2)] a := ⟨e_32, hf⟩; clear e_32
            clear hd
            have hs : Sep wf (star F5 w4 wf) noR wf (star F5 w4 wf) [.ro ty45 (.slice ao2 z3.1.length cp2) z3.1] := hs0.fstart hX [0] rfl rfl
            refine st tbOk 1 [33] (L' := [(33, undef)]) hf (by kernel_rfl) ?_
            clear hf; clear a; intro a hf
            exact fq_ok (d := 33) rfl hf (hs.ex fun _ h => h) hf.1
          · intro a wf hX hf hd
            have e_33 : a.tmps.getD 33 undef = undef := hd 16 33 (by kernel_rfl) (by kernel_rfl)
            have e_32 : a.tmps.getD 32 undef = .bool false := hd 15 32 (by kernel_rfl) (by kernel_rfl)
            replace hf : Fr 39 [(33, undef), (32, .bool false), (1, .pointer (some ⟨w.heap.size, 0, none⟩)), (4, .slice ao1 z2.length cp1), (5, .slice ao2 z3.1.length cp2), (6, .int .i64 z3.2)] a := ⟨e_33, e_32, hf⟩; clear e_33 e_32
            clear hd
            have hs : Sep wf (star F5 w4 wf) noR wf (star F5 w4 wf) [.ro ty45 (.slice ao2 z3.1.length cp2) z3.1] := hs0.fstart hX [0] rfl rfl
            refine st tbOk 1 [34] (L' := [(34, undef)]) hf (by kernel_rfl) ?_
            clear hf; clear a; intro a hf
            exact fq_ok (d := 34) rfl hf (hs.ex fun _ h => h) hf.1
          · intro a wf hX hf hd
            have e_34 : a.tmps.getD 34 undef = undef := hd 17 34 (by kernel_rfl) (by kernel_rfl)
            have e_32 : a.tmps.getD 32 undef = .bool false := hd 15 32 (by kernel_rfl) (by kernel_rfl)
            replace hf : Fr 39 [(34, undef), (32, .bool false), (1, .pointer (some ⟨w.heap.size, 0, none⟩)), (4, .slice ao1 z2.length cp1), (5, .slice ao2 z3.1.length cp2), (6, .int .i64 z3.2)] a := ⟨e_34, e_32, hf⟩; clear e_34 e_32
            clear hd
            have hs : Sep wf (star F5 w4 wf) noR wf (star F5 w4 wf) [.ro ty45 (.slice ao2 z3.1.length cp2) z3.1] := hs0.fstart hX [0] rfl rfl
            refine st tbOk 1 [35] (L' := [(35, undef)]) hf (by kernel_rfl) ?_
            clear hf; clear a; intro a hf
            exact fq_ok (d := 35) rfl hf (hs.ex fun _ h => h) hf.1
          · intro a wf hX hf hd
            have e_32 : a.tmps.getD 32 undef = .bool false := hd 15 32 (by kernel_rfl) (by kernel_rfl)
            replace hf : Fr 39 [(32, .bool false), (1, .pointer (some ⟨w.heap.size, 0, none⟩)), (4, .slice ao1 z2.length cp1), (5, .slice ao2 z3.1.length cp2), (6, .int .i64 z3.2)] a := ⟨e_32, hf⟩; clear e_32
            clear hd
            have hs : Sep wf (star F5 w4 wf) noR wf (star F5 w4 wf) [.ro ty45 (.slice ao2 z3.1.length cp2) z3.1] := hs0.fstart hX [0] rfl rfl
            refine st tbOk 1 [36] (L' := [(36, undef)]) hf (by kernel_rfl) ?_
            clear hf; clear a; intro a hf
            exact fq_ok (d := 36) rfl hf (hs.ex fun _ h => h) hf.1
          · intro a wf hX hf hd
            have e_35 : a.tmps.getD 35 undef = undef := hd 18 35 (by kernel_rfl) (by kernel_rfl)
            have e_36 : a.tmps.getD 36 undef = undef := hd 19 36 (by kernel_rfl) (by kernel_rfl)
            have e_32 : a.tmps.getD 32 undef = .bool false := hd 15 32 (by kernel_rfl) (by kernel_rfl)
            replace hf : Fr 39 [(35, undef), (36, undef), (32, .bool false), (1, .pointer (some ⟨w.heap.size, 0, none⟩)), (4, .slice ao1 z2.length cp1), (5, .slice ao2 z3.1.length cp2), (6, .int .i64 z3.2)] a := ⟨e_35, e_36, e_32, hf⟩; clear e_35 e_36 e_32
            clear hd
            have hs : Sep wf (star F5 w4 wf) noR wf (star F5 w4 wf) [.ro ty45 (.slice ao2 z3.1.length cp2) z3.1] := hs0.fstart hX [0] rfl rfl
            refine st tbOk 1 [37] (L' := [(37, undef)]) hf (by kernel_rfl) ?_
            clear hf; clear a; intro a hf
            exact fq_ok (d := 37) rfl hf (hs.ex fun _ h => h) hf.1
          · intro a wf hX hf hd
            have e_32 : a.tmps.getD 32 undef = .bool false := hd 15 32 (by kernel_rfl) (by kernel_rfl)
            have e_37 : a.tmps.getD 37 undef = undef := hd 20 37 (by kernel_rfl) (by kernel_rfl)
            replace hf : Fr 39 [(32, .bool false), (37, undef), (1, .pointer (some ⟨w.heap.size, 0, none⟩)), (4, .slice ao1 z2.length cp1), (5, .slice ao2 z3.1.length cp2), (6, .int .i64 z3.2)] a := ⟨e_32, e_37, hf⟩; clear e_32 e_37
            clear hd
            have hs : Sep wf (star F5 w4 wf) noR wf (star F5 w4 wf) [.ro ty45 (.slice ao2 z3.1.length cp2) z3.1] := hs0.fstart hX [0] rfl rfl
            refine st tbOk 1 [38] (L' := [(38, .bool false)]) hf (by kernel_rfl) ?_
            clear hf; clear a; intro a hf
            exact fq_ok (d := 38) rfl hf (hs.ex fun _ h => h) hf.1
          · intro a wf hX hf hd
            have e_38 : a.tmps.getD 38 undef = .bool false := hd 21 38 (by kernel_rfl) (by kernel_rfl)
            replace hf : Fr 39 [(38, .bool false), (1, .pointer (some ⟨w.heap.size, 0, none⟩)), (4, .slice ao1 z2.length cp1), (5, .slice ao2 z3.1.length cp2), (6, .int .i64 z3.2)] a := ⟨e_38, hf⟩; clear e_38
            clear hd
            have hs : Sep wf (star F5 w4 wf) noR wf (star F5 w4 wf) [.ro ty45 (.slice ao2 z3.1.length cp2) z3.1] := hs0.fstart hX [0] rfl rfl
            refine st tbOk 1 [2] (L' := [(2, .bool false)]) hf (by kernel_rfl) ?_
            clear hf; clear a; intro a hf
            exact fq_ok (d := 2) rfl hf (hs.ex fun _ h => h) hf.1
        · clear hf hs; clear a; intro a w9 hx hf hd
          have hs : Sep w F R w9 (star F5 w4 w9) [.ro ty45 (.slice ao2 z3.1.length cp2) z3.1, .row 5 (tI .u8) (.slice ao1 z2.length cp1) z2, .box w.heap.size 46 [.int .u64 p_x.1, .int .u32 p_x.2.1, .int .u32 p_x.2.2.1, .int .i64 p_x.2.2.2]] := hs0.starX hx
          have e_2 : a.tmps.getD 2 undef = .bool false := hd 22 2 (by kernel_rfl) (by kernel_rfl)
          clear hd hx
          clear hs0
          replace hf : Fr 39 [(2, .bool false), (1, .pointer (some ⟨w.heap.size, 0, none⟩)), (4, .slice ao1 z2.length cp1), (5, .slice ao2 z3.1.length cp2), (6, .int .i64 z3.2)] a := ⟨e_2, hf⟩
          clear e_2
          replace hs : Sep w F R w9 (star F5 w4 w9) [] := hs.sel [] rfl rfl
          replace hf := Fr.keep (ks := [2]) (L' := [(2, .bool false)]) hf (by kernel_rfl)
          refine wpList_nil ?_
          exact hK1 false _ _ ⟨_, hs.sel [] rfl rfl, hf.keep (ks := [2]) (by kernel_rfl)⟩ hS

end Dm
