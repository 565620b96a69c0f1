/-
  The walks: a call of each Go function gives what its shallow form gives, where that form gives something; printed by a program of this repo. No condition.
-/
import Derived.Test.YtmlghbdlhjinaaaWT
namespace Dm
open Go Go.RowKit Go.Proofs

set_option maxHeartbeats 4000000 in
theorem law08_model_ok {w : World} {F : SH} {p_l : List ((List UInt8) × Int × (List Int))} {ao1 : Option Addr} {cp1 : Nat} (hs : Sep w F (blks [.ro ty53 (.slice ao1 p_l.length cp1) p_l]) w F [.ro ty53 (.slice ao1 p_l.length cp1) p_l]) {r : List ((List UInt8) × Int × (List Int))} (hS : law08_model p_l = some r) :
    Calls Try.prog 27 [.slice ao1 p_l.length cp1].toArray w (Gives (fun u w' => ∃ (ao17 : Option Addr) (cp17 : Nat) (F' : SH), u = .slice ao17 r.length cp17 ∧ Sep w F (blks [.ro ty53 (.slice ao1 p_l.length cp1) p_l]) w' F' [.row 65 ty53 (.slice ao17 r.length cp17) r])) := by
  generalize (blks [.ro ty53 (.slice ao1 p_l.length cp1) p_l]) = R at hs ⊢
  unfold law08_model at hS
  refine fn_ok (vs := [.slice ao1 p_l.length cp1]) Try.func27 rfl 31 Try.ntmps27 (Nat.le_of_ble_eq_true rfl) ?_
  intro a hf
  replace hf := Fr.cast (L' := [(0, .slice ao1 p_l.length cp1)]) hf (by kernel_rfl)
  refine sq ?_
  refine reg ?_
  refine st tbOk 1 [0] (L' := [(0, .slice ao1 p_l.length cp1)]) hf (by kernel_rfl) ?_
  clear hf; clear a; intro a hf
  refine wpList_nil ?_
  refine sq ?_
  refine reg ?_
  refine st tbOk 1 [0, 3] (L' := [(0, .slice ao1 p_l.length cp1), (3, .slice none 0 0)]) hf (by kernel_rfl) ?_
  clear hf; clear a; intro a hf
  refine wpList_nil ?_
  refine sq ?_
  refine sq ?_
  refine reg ?_
  refine st tbOk 1 [0, 3, 4] (L' := [(0, .slice ao1 p_l.length cp1), (3, .slice none 0 0), (4, .int .i64 0)]) hf (by kernel_rfl) ?_
  clear hf; clear a; intro a hf
  refine wpList_nil ?_
  refine ctj (fun (s1 : List ((List UInt8) × Int × (List Int))) (a : Act) (w' : World) => ∃ (ao2 : Option Addr) (cp2 : Nat) (F1 : SH), Sep w F R w' F1 [.row 65 ty53 (.slice ao2 s1.length cp2) s1] ∧ Fr 31 [(3, .slice ao2 s1.length cp2)] a) hS ?_ ?_
  · clear hS hf hs; clear a; intro s1 a w5 hM hS
    obtain ⟨ao2, cp2, F1, hs, hf⟩ := hM
    refine sq ?_
    refine reg ?_
    refine st tbOk 2 [2] (L' := [(2, .slice ao2 s1.length cp2)]) hf (by kernel_rfl) ?_
    clear hf; clear a; intro a hf
    refine wpList_nil ?_
    have hr := Option.some.inj hS; subst hr
    refine wp_ret ?_
    exact ret_ok hf (vs := [.slice ao2 s1.length cp2]) (by kernel_rfl) ⟨ao2, cp2, _, rfl, hs.sel [0] rfl rfl⟩
  · clear hS; intro KK1 k1 hK1 hS
    refine blk ?_
    replace hs : Sep w F R w F [.row 65 ty53 (.slice none 0 0) ([] : List ((List UInt8) × Int × (List Int))), .ro ty53 (.slice ao1 p_l.length cp1) p_l] := hs.addNil 65 ty53
    refine lp (st := ([], 0)) (fun (s2 : (List ((List UInt8) × Int × (List Int))) × Int) (a : Act) (w' : World) => ∃ (ao3 : Option Addr) (cp3 : Nat) (F2 : SH), Sep w F R w' F2 [.row 65 ty53 (.slice ao3 s2.1.length cp3) s2.1, .ro ty53 (.slice ao1 p_l.length cp1) p_l] ∧ Fr 31 [(0, .slice ao1 p_l.length cp1), (3, .slice ao3 s2.1.length cp3), (4, .int .i64 s2.2)] a) ?_ ⟨none, 0, _, hs.sel [0, 1] rfl rfl, hf.keep (ks := [0, 3, 4]) (by kernel_rfl)⟩ hS
    clear hS hf hs; clear a
    intro rec1 KK2 hK2 s2 a w1 hM hS
    obtain ⟨ao3, cp3, F2, hs, hf⟩ := hM
    refine sq ?_
    refine sq ?_
    refine reg ?_
    refine st tbOk 4 [0, 3, 4, 8] (L' := [(0, .slice ao1 p_l.length cp1), (3, .slice ao3 s2.1.length cp3), (4, .int .i64 s2.2), (8, .bool (decide (s2.2 < ((p_l.length : Nat) : Int))))]) hf (by kernel_rfl) ?_
    clear hf; clear a; intro a hf
    refine wpList_nil ?_
    refine cnd (b := decide (s2.2 < ((p_l.length : Nat) : Int))) hf (by kernel_rfl) (fun hb1 => ?_) (fun hb1 => ?_)
    · replace hS := of_t hb1 hS
      refine wp_skip ?_
      refine sq ?_
      refine blk ?_
      have hT := of_gd hS; clear hS; obtain ⟨hc1, hS⟩ := hT
      have hT := of_gd hS; clear hS; obtain ⟨hc2, hS⟩ := hT
      have hT := of_gd hS; clear hS; obtain ⟨hc3, hS⟩ := hT
      have hs0 := hs
      refine regF 18 [fun u uw => u = .slice ao3 s2.1.length cp3,
    fun u uw => u = .slice ao1 p_l.length cp1,
    fun u uw => u = .int .i64 s2.2,
    fun u uw => ∃ (pb2 : Nat) (po2 : Nat) (ao5 : Option Addr) (cp5 : Nat) (F' : SH), u = .pointer (some ⟨pb2, po2, none⟩) ∧ Sep w1 F2 noR uw F' [.cel pb2 po2 [strV ((gt p_l s2.2).1), .int .u32 ((gt p_l s2.2).2.1), .slice ao5 ((gt p_l s2.2).2.2).length cp5], .ro (tI .u8) (.slice ao5 ((gt p_l s2.2).2.2).length cp5) ((gt p_l s2.2).2.2)],
    fun u uw => ∃ (pb3 : Nat) (po3 : Nat) (ao6 : Option Addr) (cp6 : Nat) (F' : SH), u = .pointer (some ⟨pb3, po3, none⟩) ∧ Sep w1 F2 noR uw F' [.cel pb3 po3 [strV ((gt p_l s2.2).1), .int .u32 ((gt p_l s2.2).2.1), .slice ao6 ((gt p_l s2.2).2.2).length cp6], .ro (tI .u8) (.slice ao6 ((gt p_l s2.2).2.2).length cp6) ((gt p_l s2.2).2.2)],
    fun u uw => u = strV ((gt p_l s2.2).1),
    fun u uw => u = .slice ao1 p_l.length cp1,
    fun u uw => u = .int .i64 s2.2,
    fun u uw => ∃ (pb5 : Nat) (po5 : Nat) (ao8 : Option Addr) (cp8 : Nat) (F' : SH), u = .pointer (some ⟨pb5, po5, none⟩) ∧ Sep w1 F2 noR uw F' [.cel pb5 po5 [strV ((gt p_l s2.2).1), .int .u32 ((gt p_l s2.2).2.1), .slice ao8 ((gt p_l s2.2).2.2).length cp8], .ro (tI .u8) (.slice ao8 ((gt p_l s2.2).2.2).length cp8) ((gt p_l s2.2).2.2)],
    fun u uw => ∃ (pb6 : Nat) (po6 : Nat) (ao9 : Option Addr) (cp9 : Nat) (F' : SH), u = .pointer (some ⟨pb6, po6 + 1, none⟩) ∧ Sep w1 F2 noR uw F' [.cel pb6 po6 [strV ((gt p_l s2.2).1), .int .u32 ((gt p_l s2.2).2.1), .slice ao9 ((gt p_l s2.2).2.2).length cp9], .ro (tI .u8) (.slice ao9 ((gt p_l s2.2).2.2).length cp9) ((gt p_l s2.2).2.2)],
    fun u uw => u = .int .u32 ((gt p_l s2.2).2.1),
    fun u uw => u = .slice ao1 p_l.length cp1,
    fun u uw => u = .int .i64 s2.2,
    fun u uw => ∃ (pb8 : Nat) (po8 : Nat) (ao11 : Option Addr) (cp11 : Nat) (F' : SH), u = .pointer (some ⟨pb8, po8, none⟩) ∧ Sep w1 F2 noR uw F' [.cel pb8 po8 [strV ((gt p_l s2.2).1), .int .u32 ((gt p_l s2.2).2.1), .slice ao11 ((gt p_l s2.2).2.2).length cp11], .ro (tI .u8) (.slice ao11 ((gt p_l s2.2).2.2).length cp11) ((gt p_l s2.2).2.2)],
    fun u uw => ∃ (pb9 : Nat) (po9 : Nat) (ao12 : Option Addr) (cp12 : Nat) (F' : SH), u = .pointer (some ⟨pb9, po9 + 2, none⟩) ∧ Sep w1 F2 noR uw F' [.cel pb9 po9 [strV ((gt p_l s2.2).1), .int .u32 ((gt p_l s2.2).2.1), .slice ao12 ((gt p_l s2.2).2.2).length cp12], .ro (tI .u8) (.slice ao12 ((gt p_l s2.2).2.2).length cp12) ((gt p_l s2.2).2.2)],
    fun u uw => ∃ (ao13 : Option Addr) (cp13 : Nat) (F' : SH), u = .slice ao13 ((gt p_l s2.2).2.2).length cp13 ∧ Sep w1 F2 noR uw F' [.ro (tI .u8) (.slice ao13 ((gt p_l s2.2).2.2).length cp13) ((gt p_l s2.2).2.2)],
    fun u uw => ∃ (ao14 : Option Addr) (cp14 : Nat) (F' : SH), u = .agg #[strV ((gt p_l s2.2).1), .int .u32 ((gt p_l s2.2).2.1), .slice ao14 ((gt p_l s2.2).2.2).length cp14] ∧ Sep w1 F2 noR uw F' [.ro (tI .u8) (.slice ao14 ((gt p_l s2.2).2.2).length cp14) ((gt p_l s2.2).2.2)],
    fun u uw => ∃ (ao15 : Option Addr) (cp15 : Nat) (F' : SH), u = .slice ao15 ([((gt p_l s2.2).1, (gt p_l s2.2).2.1, (gt p_l s2.2).2.2)] : List ((List UInt8) × Int × (List Int))).length cp15 ∧ Sep w1 F2 noR uw F' [.row 65 ty53 (.slice ao15 ([((gt p_l s2.2).1, (gt p_l s2.2).2.1, (gt p_l s2.2).2.2)] : List ((List UInt8) × Int × (List Int))).length cp15) ([((gt p_l s2.2).1, (gt p_l s2.2).2.1, (gt p_l s2.2).2.2)] : List ((List UInt8) × Int × (List Int)))]] mixed (Fr.keep (ks := [0, 3, 4, 8]) (L' := [(0, .slice ao1 p_l.length cp1), (3, .slice ao3 s2.1.length cp3), (4, .int .i64 s2.2), (8, .bool (decide (s2.2 < ((p_l.length : Nat) : Int))))]) hf (by kernel_rfl)) (by kernel_rfl) rfl ?_ ?_ ?_
      · exact ⟨fun _ _ _ h _ => h, fun _ _ _ h _ => h, fun _ _ _ h _ => h, fun _ _ _ ⟨pb2, po2, ao5, cp5, F', e, h⟩ hx => ⟨pb2, po2, ao5, cp5, F', e, h.ext hx⟩, fun _ _ _ ⟨pb3, po3, ao6, cp6, F', e, h⟩ hx => ⟨pb3, po3, ao6, cp6, F', e, h.ext hx⟩, fun _ _ _ h _ => h, fun _ _ _ h _ => h, fun _ _ _ h _ => h, fun _ _ _ ⟨pb5, po5, ao8, cp8, F', e, h⟩ hx => ⟨pb5, po5, ao8, cp8, F', e, h.ext hx⟩, fun _ _ _ ⟨pb6, po6, ao9, cp9, F', e, h⟩ hx => ⟨pb6, po6, ao9, cp9, F', e, h.ext hx⟩, fun _ _ _ h _ => h, fun _ _ _ h _ => h, fun _ _ _ h _ => h, fun _ _ _ ⟨pb8, po8, ao11, cp11, F', e, h⟩ hx => ⟨pb8, po8, ao11, cp11, F', e, h.ext hx⟩, fun _ _ _ ⟨pb9, po9, ao12, cp12, F', e, h⟩ hx => ⟨pb9, po9, ao12, cp12, F', e, h.ext hx⟩, fun _ _ _ ⟨ao13, cp13, F', e, h⟩ hx => ⟨ao13, cp13, F', e, h.ext hx⟩, fun _ _ _ ⟨ao14, cp14, F', e, h⟩ hx => ⟨ao14, cp14, F', e, h.ext hx⟩, fun _ _ _ ⟨ao15, cp15, F', e, h⟩ hx => ⟨ao15, cp15, F', e, h.ext hx⟩, trivial⟩
      · clear hS hf hs; clear a
        refine ⟨?_, ?_, ?_, ?_, ?_, ?_, ?_, ?_, ?_, ?_, ?_, ?_, ?_, ?_, ?_, ?_, ?_, ?_, trivial⟩
        · intro a wf hX hf hd
          clear hd
          have hs : Sep wf (star F2 w1 wf) noR wf (star F2 w1 wf) [.ro ty53 (.slice ao1 p_l.length cp1) p_l] := hs0.fstart hX [1] rfl rfl
          refine st tbOk 1 [11] (L' := [(11, .slice ao3 s2.1.length cp3)]) hf (by kernel_rfl) ?_
          clear hf; clear a; intro a hf
          exact fq_ok (d := 11) rfl hf (hs.ex fun _ h => h) hf.1
        · intro a wf hX hf hd
          clear hd
          have hs : Sep wf (star F2 w1 wf) noR wf (star F2 w1 wf) [.ro ty53 (.slice ao1 p_l.length cp1) p_l] := hs0.fstart hX [1] rfl rfl
          refine st tbOk 1 [12] (L' := [(12, .slice ao1 p_l.length cp1)]) hf (by kernel_rfl) ?_
          clear hf; clear a; intro a hf
          exact fq_ok (d := 12) rfl hf (hs.ex fun _ h => h) hf.1
        · intro a wf hX hf hd
          clear hd
          have hs : Sep wf (star F2 w1 wf) noR wf (star F2 w1 wf) [.ro ty53 (.slice ao1 p_l.length cp1) p_l] := hs0.fstart hX [1] rfl rfl
          refine st tbOk 1 [13] (L' := [(13, .int .i64 s2.2)]) hf (by kernel_rfl) ?_
          clear hf; clear a; intro a hf
          exact fq_ok (d := 13) rfl hf (hs.ex fun _ h => h) hf.1
        · intro a wf hX hf hd
          have e_12 : a.tmps.getD 12 undef = .slice ao1 p_l.length cp1 := hd 1 12 (by kernel_rfl) (by kernel_rfl)
          have e_13 : a.tmps.getD 13 undef = .int .i64 s2.2 := hd 2 13 (by kernel_rfl) (by kernel_rfl)
          replace hf : Fr 31 [(12, .slice ao1 p_l.length cp1), (13, .int .i64 s2.2), (0, .slice ao1 p_l.length cp1), (3, .slice ao3 s2.1.length cp3), (4, .int .i64 s2.2), (8, .bool (decide (s2.2 < ((p_l.length : Nat) : Int))))] a := ⟨e_12, e_13, hf⟩; clear e_12 e_13
          clear hd
          have hs : Sep wf (star F2 w1 wf) noR wf (star F2 w1 wf) [.ro ty53 (.slice ao1 p_l.length cp1) p_l] := hs0.fstart hX [1] rfl rfl
          refine ixR tbOk u37 i54 rfl rfl ((hs.ro 0 rfl).ra (LeH.refl _)) (k := .i64) (n := s2.2) hc1 hf (by kernel_rfl) (by kernel_rfl) (by kernel_rfl) (by kernel_rfl) ?_
          clear hf; clear a; intro pb1 po1 c1 a hp1 hr1 hf
          obtain ⟨ao4, cp4, rfl, hr2⟩ := hr1
          replace hs : Sep wf (star F2 w1 wf) noR wf (star F2 w1 wf) [.ro (tI .u8) (.slice ao4 ((gt p_l s2.2).2.2).length cp4) ((gt p_l s2.2).2.2), .ro ty53 (.slice ao1 p_l.length cp1) p_l] := hs.addRo hr2
          replace hs : Sep wf (star F2 w1 wf) noR wf (star F2 w1 wf) [.cel pb1 po1 [strV ((gt p_l s2.2).1), .int .u32 ((gt p_l s2.2).2.1), .slice ao4 ((gt p_l s2.2).2.2).length cp4], .ro (tI .u8) (.slice ao4 ((gt p_l s2.2).2.2).length cp4) ((gt p_l s2.2).2.2), .ro ty53 (.slice ao1 p_l.length cp1) p_l] := hs.addCel hp1
          exact fq_ok (d := 14) rfl hf (hs.ex fun _ h => h) ⟨pb1, po1, ao4, cp4, _, hf.1, (hs.sel [0, 1] rfl rfl).rebase hX⟩
        · intro a wf hX hf hd
          obtain ⟨pb2, po2, ao5, cp5, F_14, e_14, h_14⟩ : ∃ (pb2 : Nat) (po2 : Nat) (ao5 : Option Addr) (cp5 : Nat) (F' : SH), a.tmps.getD 14 undef = .pointer (some ⟨pb2, po2, none⟩) ∧ Sep w1 F2 noR wf F' [.cel pb2 po2 [strV ((gt p_l s2.2).1), .int .u32 ((gt p_l s2.2).2.1), .slice ao5 ((gt p_l s2.2).2.2).length cp5], .ro (tI .u8) (.slice ao5 ((gt p_l s2.2).2.2).length cp5) ((gt p_l s2.2).2.2)] := hd 3 14 (by kernel_rfl) (by kernel_rfl)
          replace hf : Fr 31 [(14, .pointer (some ⟨pb2, po2, none⟩)), (0, .slice ao1 p_l.length cp1), (3, .slice ao3 s2.1.length cp3), (4, .int .i64 s2.2), (8, .bool (decide (s2.2 < ((p_l.length : Nat) : Int))))] a := ⟨e_14, hf⟩; clear e_14
          clear hd
          have hs : Sep wf (star F2 w1 wf) noR wf (star F2 w1 wf) [.ro ty53 (.slice ao1 p_l.length cp1) p_l] := hs0.fstart hX [1] rfl rfl
          replace hs : Sep wf (star F2 w1 wf) noR wf (star F2 w1 wf) [.cel pb2 po2 [strV ((gt p_l s2.2).1), .int .u32 ((gt p_l s2.2).2.1), .slice ao5 ((gt p_l s2.2).2.2).length cp5], .ro ty53 (.slice ao1 p_l.length cp1) p_l] := hs.addStar h_14 0 rfl rfl
          replace hs : Sep wf (star F2 w1 wf) noR wf (star F2 w1 wf) [.ro (tI .u8) (.slice ao5 ((gt p_l s2.2).2.2).length cp5) ((gt p_l s2.2).2.2), .cel pb2 po2 [strV ((gt p_l s2.2).1), .int .u32 ((gt p_l s2.2).2.1), .slice ao5 ((gt p_l s2.2).2.2).length cp5], .ro ty53 (.slice ao1 p_l.length cp1) p_l] := hs.addStar h_14 1 rfl rfl
          clear h_14
          refine st tbOk 1 [15] (L' := [(15, .pointer (some ⟨pb2, po2, none⟩))]) hf (by kernel_rfl) ?_
          clear hf; clear a; intro a hf
          exact fq_ok (d := 15) rfl hf (hs.ex fun _ h => h) ⟨pb2, po2, ao5, cp5, _, hf.1, (hs.sel [1, 0] rfl rfl).rebase hX⟩
        · intro a wf hX hf hd
          obtain ⟨pb3, po3, ao6, cp6, F_15, e_15, h_15⟩ : ∃ (pb3 : Nat) (po3 : Nat) (ao6 : Option Addr) (cp6 : Nat) (F' : SH), a.tmps.getD 15 undef = .pointer (some ⟨pb3, po3, none⟩) ∧ Sep w1 F2 noR wf F' [.cel pb3 po3 [strV ((gt p_l s2.2).1), .int .u32 ((gt p_l s2.2).2.1), .slice ao6 ((gt p_l s2.2).2.2).length cp6], .ro (tI .u8) (.slice ao6 ((gt p_l s2.2).2.2).length cp6) ((gt p_l s2.2).2.2)] := hd 4 15 (by kernel_rfl) (by kernel_rfl)
          replace hf : Fr 31 [(15, .pointer (some ⟨pb3, po3, none⟩)), (0, .slice ao1 p_l.length cp1), (3, .slice ao3 s2.1.length cp3), (4, .int .i64 s2.2), (8, .bool (decide (s2.2 < ((p_l.length : Nat) : Int))))] a := ⟨e_15, hf⟩; clear e_15
          clear hd
          have hs : Sep wf (star F2 w1 wf) noR wf (star F2 w1 wf) [.ro ty53 (.slice ao1 p_l.length cp1) p_l] := hs0.fstart hX [1] rfl rfl
          replace hs : Sep wf (star F2 w1 wf) noR wf (star F2 w1 wf) [.cel pb3 po3 [strV ((gt p_l s2.2).1), .int .u32 ((gt p_l s2.2).2.1), .slice ao6 ((gt p_l s2.2).2.2).length cp6], .ro ty53 (.slice ao1 p_l.length cp1) p_l] := hs.addStar h_15 0 rfl rfl
          replace hs : Sep wf (star F2 w1 wf) noR wf (star F2 w1 wf) [.ro (tI .u8) (.slice ao6 ((gt p_l s2.2).2.2).length cp6) ((gt p_l s2.2).2.2), .cel pb3 po3 [strV ((gt p_l s2.2).1), .int .u32 ((gt p_l s2.2).2.1), .slice ao6 ((gt p_l s2.2).2.2).length cp6], .ro ty53 (.slice ao1 p_l.length cp1) p_l] := hs.addStar h_15 1 rfl rfl
          clear h_15
          refine ldC tbOk (T := 9) (hs.ccel 1 rfl) (LeH.refl _) 0 (strV ((gt p_l s2.2).1)) hf (by kernel_rfl) (by kernel_rfl) (by kernel_rfl) (by kernel_rfl) ?_
          clear hf; clear a; intro a hf
          exact fq_ok (d := 16) rfl hf (hs.ex fun _ h => h) hf.1
        · intro a wf hX hf hd
          clear hd
          have hs : Sep wf (star F2 w1 wf) noR wf (star F2 w1 wf) [.ro ty53 (.slice ao1 p_l.length cp1) p_l] := hs0.fstart hX [1] rfl rfl
          refine st tbOk 1 [17] (L' := [(17, .slice ao1 p_l.length cp1)]) hf (by kernel_rfl) ?_
          clear hf; clear a; intro a hf
          exact fq_ok (d := 17) rfl hf (hs.ex fun _ h => h) hf.1
        · intro a wf hX hf hd
          clear hd
          have hs : Sep wf (star F2 w1 wf) noR wf (star F2 w1 wf) [.ro ty53 (.slice ao1 p_l.length cp1) p_l] := hs0.fstart hX [1] rfl rfl
          refine st tbOk 1 [18] (L' := [(18, .int .i64 s2.2)]) hf (by kernel_rfl) ?_
          clear hf; clear a; intro a hf
          exact fq_ok (d := 18) rfl hf (hs.ex fun _ h => h) hf.1
        · intro a wf hX hf hd
          have e_17 : a.tmps.getD 17 undef = .slice ao1 p_l.length cp1 := hd 6 17 (by kernel_rfl) (by kernel_rfl)
          have e_18 : a.tmps.getD 18 undef = .int .i64 s2.2 := hd 7 18 (by kernel_rfl) (by kernel_rfl)
          replace hf : Fr 31 [(17, .slice ao1 p_l.length cp1), (18, .int .i64 s2.2), (0, .slice ao1 p_l.length cp1), (3, .slice ao3 s2.1.length cp3), (4, .int .i64 s2.2), (8, .bool (decide (s2.2 < ((p_l.length : Nat) : Int))))] a := ⟨e_17, e_18, hf⟩; clear e_17 e_18
          clear hd
          have hs : Sep wf (star F2 w1 wf) noR wf (star F2 w1 wf) [.ro ty53 (.slice ao1 p_l.length cp1) p_l] := hs0.fstart hX [1] rfl rfl
          refine ixR tbOk u37 i54 rfl rfl ((hs.ro 0 rfl).ra (LeH.refl _)) (k := .i64) (n := s2.2) hc2 hf (by kernel_rfl) (by kernel_rfl) (by kernel_rfl) (by kernel_rfl) ?_
          clear hf; clear a; intro pb4 po4 c2 a hp2 hr3 hf
          obtain ⟨ao7, cp7, rfl, hr4⟩ := hr3
          replace hs : Sep wf (star F2 w1 wf) noR wf (star F2 w1 wf) [.ro (tI .u8) (.slice ao7 ((gt p_l s2.2).2.2).length cp7) ((gt p_l s2.2).2.2), .ro ty53 (.slice ao1 p_l.length cp1) p_l] := hs.addRo hr4
          replace hs : Sep wf (star F2 w1 wf) noR wf (star F2 w1 wf) [.cel pb4 po4 [strV ((gt p_l s2.2).1), .int .u32 ((gt p_l s2.2).2.1), .slice ao7 ((gt p_l s2.2).2.2).length cp7], .ro (tI .u8) (.slice ao7 ((gt p_l s2.2).2.2).length cp7) ((gt p_l s2.2).2.2), .ro ty53 (.slice ao1 p_l.length cp1) p_l] := hs.addCel hp2
          exact fq_ok (d := 19) rfl hf (hs.ex fun _ h => h) ⟨pb4, po4, ao7, cp7, _, hf.1, (hs.sel [0, 1] rfl rfl).rebase hX⟩
        · intro a wf hX hf hd
          obtain ⟨pb5, po5, ao8, cp8, F_19, e_19, h_19⟩ : ∃ (pb5 : Nat) (po5 : Nat) (ao8 : Option Addr) (cp8 : Nat) (F' : SH), a.tmps.getD 19 undef = .pointer (some ⟨pb5, po5, none⟩) ∧ Sep w1 F2 noR wf F' [.cel pb5 po5 [strV ((gt p_l s2.2).1), .int .u32 ((gt p_l s2.2).2.1), .slice ao8 ((gt p_l s2.2).2.2).length cp8], .ro (tI .u8) (.slice ao8 ((gt p_l s2.2).2.2).length cp8) ((gt p_l s2.2).2.2)] := hd 8 19 (by kernel_rfl) (by kernel_rfl)
          replace hf : Fr 31 [(19, .pointer (some ⟨pb5, po5, none⟩)), (0, .slice ao1 p_l.length cp1), (3, .slice ao3 s2.1.length cp3), (4, .int .i64 s2.2), (8, .bool (decide (s2.2 < ((p_l.length : Nat) : Int))))] a := ⟨e_19, hf⟩; clear e_19
          clear hd
          have hs : Sep wf (star F2 w1 wf) noR wf (star F2 w1 wf) [.ro ty53 (.slice ao1 p_l.length cp1) p_l] := hs0.fstart hX [1] rfl rfl
          replace hs : Sep wf (star F2 w1 wf) noR wf (star F2 w1 wf) [.cel pb5 po5 [strV ((gt p_l s2.2).1), .int .u32 ((gt p_l s2.2).2.1), .slice ao8 ((gt p_l s2.2).2.2).length cp8], .ro ty53 (.slice ao1 p_l.length cp1) p_l] := hs.addStar h_19 0 rfl rfl
          replace hs : Sep wf (star F2 w1 wf) noR wf (star F2 w1 wf) [.ro (tI .u8) (.slice ao8 ((gt p_l s2.2).2.2).length cp8) ((gt p_l s2.2).2.2), .cel pb5 po5 [strV ((gt p_l s2.2).1), .int .u32 ((gt p_l s2.2).2.1), .slice ao8 ((gt p_l s2.2).2.2).length cp8], .ro ty53 (.slice ao1 p_l.length cp1) p_l] := hs.addStar h_19 1 rfl rfl
          clear h_19
          refine st tbOk 1 [20] (L' := [(20, .pointer (some ⟨pb5, po5 + 1, none⟩))]) hf (by kernel_rfl) ?_
          clear hf; clear a; intro a hf
          exact fq_ok (d := 20) rfl hf (hs.ex fun _ h => h) ⟨pb5, po5, ao8, cp8, _, hf.1, (hs.sel [1, 0] rfl rfl).rebase hX⟩
        · intro a wf hX hf hd
          obtain ⟨pb6, po6, ao9, cp9, F_20, e_20, h_20⟩ : ∃ (pb6 : Nat) (po6 : Nat) (ao9 : Option Addr) (cp9 : Nat) (F' : SH), a.tmps.getD 20 undef = .pointer (some ⟨pb6, po6 + 1, none⟩) ∧ Sep w1 F2 noR wf F' [.cel pb6 po6 [strV ((gt p_l s2.2).1), .int .u32 ((gt p_l s2.2).2.1), .slice ao9 ((gt p_l s2.2).2.2).length cp9], .ro (tI .u8) (.slice ao9 ((gt p_l s2.2).2.2).length cp9) ((gt p_l s2.2).2.2)] := hd 9 20 (by kernel_rfl) (by kernel_rfl)
          replace hf : Fr 31 [(20, .pointer (some ⟨pb6, po6 + 1, none⟩)), (0, .slice ao1 p_l.length cp1), (3, .slice ao3 s2.1.length cp3), (4, .int .i64 s2.2), (8, .bool (decide (s2.2 < ((p_l.length : Nat) : Int))))] a := ⟨e_20, hf⟩; clear e_20
          clear hd
          have hs : Sep wf (star F2 w1 wf) noR wf (star F2 w1 wf) [.ro ty53 (.slice ao1 p_l.length cp1) p_l] := hs0.fstart hX [1] rfl rfl
          replace hs : Sep wf (star F2 w1 wf) noR wf (star F2 w1 wf) [.cel pb6 po6 [strV ((gt p_l s2.2).1), .int .u32 ((gt p_l s2.2).2.1), .slice ao9 ((gt p_l s2.2).2.2).length cp9], .ro ty53 (.slice ao1 p_l.length cp1) p_l] := hs.addStar h_20 0 rfl rfl
          replace hs : Sep wf (star F2 w1 wf) noR wf (star F2 w1 wf) [.ro (tI .u8) (.slice ao9 ((gt p_l s2.2).2.2).length cp9) ((gt p_l s2.2).2.2), .cel pb6 po6 [strV ((gt p_l s2.2).1), .int .u32 ((gt p_l s2.2).2.1), .slice ao9 ((gt p_l s2.2).2.2).length cp9], .ro ty53 (.slice ao1 p_l.length cp1) p_l] := hs.addStar h_20 1 rfl rfl
          clear h_20
          refine ldC tbOk (T := 50) (hs.ccel 1 rfl) (LeH.refl _) 1 (.int .u32 ((gt p_l s2.2).2.1)) hf (by kernel_rfl) (by kernel_rfl) (by kernel_rfl) (by kernel_rfl) ?_
          clear hf; clear a; intro a hf
          exact fq_ok (d := 21) rfl hf (hs.ex fun _ h => h) hf.1
        · intro a wf hX hf hd
          clear hd
          have hs : Sep wf (star F2 w1 wf) noR wf (star F2 w1 wf) [.ro ty53 (.slice ao1 p_l.length cp1) p_l] := hs0.fstart hX [1] rfl rfl
          refine st tbOk 1 [22] (L' := [(22, .slice ao1 p_l.length cp1)]) hf (by kernel_rfl) ?_
          clear hf; clear a; intro a hf
          exact fq_ok (d := 22) rfl hf (hs.ex fun _ h => h) hf.1
        · intro a wf hX hf hd
          clear hd
          have hs : Sep wf (star F2 w1 wf) noR wf (star F2 w1 wf) [.ro ty53 (.slice ao1 p_l.length cp1) p_l] := hs0.fstart hX [1] rfl rfl
          refine st tbOk 1 [23] (L' := [(23, .int .i64 s2.2)]) hf (by kernel_rfl) ?_
          clear hf; clear a; intro a hf
          exact fq_ok (d := 23) rfl hf (hs.ex fun _ h => h) hf.1
        · intro a wf hX hf hd
          have e_22 : a.tmps.getD 22 undef = .slice ao1 p_l.length cp1 := hd 11 22 (by kernel_rfl) (by kernel_rfl)
          have e_23 : a.tmps.getD 23 undef = .int .i64 s2.2 := hd 12 23 (by kernel_rfl) (by kernel_rfl)
          replace hf : Fr 31 [(22, .slice ao1 p_l.length cp1), (23, .int .i64 s2.2), (0, .slice ao1 p_l.length cp1), (3, .slice ao3 s2.1.length cp3), (4, .int .i64 s2.2), (8, .bool (decide (s2.2 < ((p_l.length : Nat) : Int))))] a := ⟨e_22, e_23, hf⟩; clear e_22 e_23
          clear hd
          have hs : Sep wf (star F2 w1 wf) noR wf (star F2 w1 wf) [.ro ty53 (.slice ao1 p_l.length cp1) p_l] := hs0.fstart hX [1] rfl rfl
          refine ixR tbOk u37 i54 rfl rfl ((hs.ro 0 rfl).ra (LeH.refl _)) (k := .i64) (n := s2.2) hc3 hf (by kernel_rfl) (by kernel_rfl) (by kernel_rfl) (by kernel_rfl) ?_
          clear hf; clear a; intro pb7 po7 c3 a hp3 hr5 hf
          obtain ⟨ao10, cp10, rfl, hr6⟩ := hr5
          replace hs : Sep wf (star F2 w1 wf) noR wf (star F2 w1 wf) [.ro (tI .u8) (.slice ao10 ((gt p_l s2.2).2.2).length cp10) ((gt p_l s2.2).2.2), .ro ty53 (.slice ao1 p_l.length cp1) p_l] := hs.addRo hr6
          replace hs : Sep wf (star F2 w1 wf) noR wf (star F2 w1 wf) [.cel pb7 po7 [strV ((gt p_l s2.2).1), .int .u32 ((gt p_l s2.2).2.1), .slice ao10 ((gt p_l s2.2).2.2).length cp10], .ro (tI .u8) (.slice ao10 ((gt p_l s2.2).2.2).length cp10) ((gt p_l s2.2).2.2), .ro ty53 (.slice ao1 p_l.length cp1) p_l] := hs.addCel hp3
          exact fq_ok (d := 24) rfl hf (hs.ex fun _ h => h) ⟨pb7, po7, ao10, cp10, _, hf.1, (hs.sel [0, 1] rfl rfl).rebase hX⟩
        · intro a wf hX hf hd
          obtain ⟨pb8, po8, ao11, cp11, F_24, e_24, h_24⟩ : ∃ (pb8 : Nat) (po8 : Nat) (ao11 : Option Addr) (cp11 : Nat) (F' : SH), a.tmps.getD 24 undef = .pointer (some ⟨pb8, po8, none⟩) ∧ Sep w1 F2 noR wf F' [.cel pb8 po8 [strV ((gt p_l s2.2).1), .int .u32 ((gt p_l s2.2).2.1), .slice ao11 ((gt p_l s2.2).2.2).length cp11], .ro (tI .u8) (.slice ao11 ((gt p_l s2.2).2.2).length cp11) ((gt p_l s2.2).2.2)] := hd 13 24 (by kernel_rfl) (by kernel_rfl)
          replace hf : Fr 31 [(24, .pointer (some ⟨pb8, po8, none⟩)), (0, .slice ao1 p_l.length cp1), (3, .slice ao3 s2.1.length cp3), (4, .int .i64 s2.2), (8, .bool (decide (s2.2 < ((p_l.length : Nat) : Int))))] a := ⟨e_24, hf⟩; clear e_24
          clear hd
          have hs : Sep wf (star F2 w1 wf) noR wf (star F2 w1 wf) [.ro ty53 (.slice ao1 p_l.length cp1) p_l] := hs0.fstart hX [1] rfl rfl
          replace hs : Sep wf (star F2 w1 wf) noR wf (star F2 w1 wf) [.cel pb8 po8 [strV ((gt p_l s2.2).1), .int .u32 ((gt p_l s2.2).2.1), .slice ao11 ((gt p_l s2.2).2.2).length cp11], .ro ty53 (.slice ao1 p_l.length cp1) p_l] := hs.addStar h_24 0 rfl rfl
          replace hs : Sep wf (star F2 w1 wf) noR wf (star F2 w1 wf) [.ro (tI .u8) (.slice ao11 ((gt p_l s2.2).2.2).length cp11) ((gt p_l s2.2).2.2), .cel pb8 po8 [strV ((gt p_l s2.2).1), .int .u32 ((gt p_l s2.2).2.1), .slice ao11 ((gt p_l s2.2).2.2).length cp11], .ro ty53 (.slice ao1 p_l.length cp1) p_l] := hs.addStar h_24 1 rfl rfl
          clear h_24
          refine st tbOk 1 [25] (L' := [(25, .pointer (some ⟨pb8, po8 + 2, none⟩))]) hf (by kernel_rfl) ?_
          clear hf; clear a; intro a hf
          exact fq_ok (d := 25) rfl hf (hs.ex fun _ h => h) ⟨pb8, po8, ao11, cp11, _, hf.1, (hs.sel [1, 0] rfl rfl).rebase hX⟩
        · intro a wf hX hf hd
          obtain ⟨pb9, po9, ao12, cp12, F_25, e_25, h_25⟩ : ∃ (pb9 : Nat) (po9 : Nat) (ao12 : Option Addr) (cp12 : Nat) (F' : SH), a.tmps.getD 25 undef = .pointer (some ⟨pb9, po9 + 2, none⟩) ∧ Sep w1 F2 noR wf F' [.cel pb9 po9 [strV ((gt p_l s2.2).1), .int .u32 ((gt p_l s2.2).2.1), .slice ao12 ((gt p_l s2.2).2.2).length cp12], .ro (tI .u8) (.slice ao12 ((gt p_l s2.2).2.2).length cp12) ((gt p_l s2.2).2.2)] := hd 14 25 (by kernel_rfl) (by kernel_rfl)
          replace hf : Fr 31 [(25, .pointer (some ⟨pb9, po9 + 2, none⟩)), (0, .slice ao1 p_l.length cp1), (3, .slice ao3 s2.1.length cp3), (4, .int .i64 s2.2), (8, .bool (decide (s2.2 < ((p_l.length : Nat) : Int))))] a := ⟨e_25, hf⟩; clear e_25
          clear hd
          have hs : Sep wf (star F2 w1 wf) noR wf (star F2 w1 wf) [.ro ty53 (.slice ao1 p_l.length cp1) p_l] := hs0.fstart hX [1] rfl rfl
          replace hs : Sep wf (star F2 w1 wf) noR wf (star F2 w1 wf) [.cel pb9 po9 [strV ((gt p_l s2.2).1), .int .u32 ((gt p_l s2.2).2.1), .slice ao12 ((gt p_l s2.2).2.2).length cp12], .ro ty53 (.slice ao1 p_l.length cp1) p_l] := hs.addStar h_25 0 rfl rfl
          replace hs : Sep wf (star F2 w1 wf) noR wf (star F2 w1 wf) [.ro (tI .u8) (.slice ao12 ((gt p_l s2.2).2.2).length cp12) ((gt p_l s2.2).2.2), .cel pb9 po9 [strV ((gt p_l s2.2).1), .int .u32 ((gt p_l s2.2).2.1), .slice ao12 ((gt p_l s2.2).2.2).length cp12], .ro ty53 (.slice ao1 p_l.length cp1) p_l] := hs.addStar h_25 1 rfl rfl
          clear h_25
          refine ldC tbOk (T := 22) (hs.ccel 1 rfl) (LeH.refl _) 2 (.slice ao12 ((gt p_l s2.2).2.2).length cp12) hf (by kernel_rfl) (by kernel_rfl) (by kernel_rfl) (by kernel_rfl) ?_
          clear hf; clear a; intro a hf
          exact fq_ok (d := 26) rfl hf (hs.ex fun _ h => h) ⟨ao12, cp12, _, hf.1, (hs.sel [0] rfl rfl).rebase hX⟩
        · intro a wf hX hf hd
          have e_16 : a.tmps.getD 16 undef = strV ((gt p_l s2.2).1) := hd 5 16 (by kernel_rfl) (by kernel_rfl)
          have e_21 : a.tmps.getD 21 undef = .int .u32 ((gt p_l s2.2).2.1) := hd 10 21 (by kernel_rfl) (by kernel_rfl)
          obtain ⟨ao13, cp13, F_26, e_26, h_26⟩ : ∃ (ao13 : Option Addr) (cp13 : Nat) (F' : SH), a.tmps.getD 26 undef = .slice ao13 ((gt p_l s2.2).2.2).length cp13 ∧ Sep w1 F2 noR wf F' [.ro (tI .u8) (.slice ao13 ((gt p_l s2.2).2.2).length cp13) ((gt p_l s2.2).2.2)] := hd 15 26 (by kernel_rfl) (by kernel_rfl)
          replace hf : Fr 31 [(16, strV ((gt p_l s2.2).1)), (21, .int .u32 ((gt p_l s2.2).2.1)), (26, .slice ao13 ((gt p_l s2.2).2.2).length cp13), (0, .slice ao1 p_l.length cp1), (3, .slice ao3 s2.1.length cp3), (4, .int .i64 s2.2), (8, .bool (decide (s2.2 < ((p_l.length : Nat) : Int))))] a := ⟨e_16, e_21, e_26, hf⟩; clear e_16 e_21 e_26
          clear hd
          have hs : Sep wf (star F2 w1 wf) noR wf (star F2 w1 wf) [.ro ty53 (.slice ao1 p_l.length cp1) p_l] := hs0.fstart hX [1] rfl rfl
          replace hs : Sep wf (star F2 w1 wf) noR wf (star F2 w1 wf) [.ro (tI .u8) (.slice ao13 ((gt p_l s2.2).2.2).length cp13) ((gt p_l s2.2).2.2), .ro ty53 (.slice ao1 p_l.length cp1) p_l] := hs.addStar h_26 0 rfl rfl
          clear h_26
          refine st tbOk 1 [27] (L' := [(27, .agg #[strV ((gt p_l s2.2).1), .int .u32 ((gt p_l s2.2).2.1), .slice ao13 ((gt p_l s2.2).2.2).length cp13])]) hf (by kernel_rfl) ?_
          clear hf; clear a; intro a hf
          exact fq_ok (d := 27) rfl hf (hs.ex fun _ h => h) ⟨ao13, cp13, _, hf.1, (hs.sel [0] rfl rfl).rebase hX⟩
        · intro a wf hX hf hd
          obtain ⟨ao14, cp14, F_27, e_27, h_27⟩ : ∃ (ao14 : Option Addr) (cp14 : Nat) (F' : SH), a.tmps.getD 27 undef = .agg #[strV ((gt p_l s2.2).1), .int .u32 ((gt p_l s2.2).2.1), .slice ao14 ((gt p_l s2.2).2.2).length cp14] ∧ Sep w1 F2 noR wf F' [.ro (tI .u8) (.slice ao14 ((gt p_l s2.2).2.2).length cp14) ((gt p_l s2.2).2.2)] := hd 16 27 (by kernel_rfl) (by kernel_rfl)
          replace hf : Fr 31 [(27, .agg #[strV ((gt p_l s2.2).1), .int .u32 ((gt p_l s2.2).2.1), .slice ao14 ((gt p_l s2.2).2.2).length cp14]), (0, .slice ao1 p_l.length cp1), (3, .slice ao3 s2.1.length cp3), (4, .int .i64 s2.2), (8, .bool (decide (s2.2 < ((p_l.length : Nat) : Int))))] a := ⟨e_27, hf⟩; clear e_27
          clear hd
          have hs : Sep wf (star F2 w1 wf) noR wf (star F2 w1 wf) [.ro ty53 (.slice ao1 p_l.length cp1) p_l] := hs0.fstart hX [1] rfl rfl
          replace hs : Sep wf (star F2 w1 wf) noR wf (star F2 w1 wf) [.ro (tI .u8) (.slice ao14 ((gt p_l s2.2).2.2).length cp14) ((gt p_l s2.2).2.2), .ro ty53 (.slice ao1 p_l.length cp1) p_l] := hs.addStar h_27 0 rfl rfl
          clear h_27
          refine bsR tbOk u42 i65 rfl (t := ty53) (vs := [(0, .agg #[strV ((gt p_l s2.2).1), .int .u32 ((gt p_l s2.2).2.1), .slice ao14 ((gt p_l s2.2).2.2).length cp14])]) (cells := #[strV ((gt p_l s2.2).1), .int .u32 ((gt p_l s2.2).2.1), .slice ao14 ((gt p_l s2.2).2.2).length cp14]) ([((gt p_l s2.2).1, (gt p_l s2.2).2.1, (gt p_l s2.2).2.2)] : List ((List UInt8) × Int × (List Int))) hs.le hf (by kernel_rfl) (by kernel_rfl) (by kernel_rfl) rfl (by kernel_rfl) ⟨_, _, rfl, ⟨ao14, cp14, rfl, hs.ro 0 rfl⟩, rfl⟩ rfl ?_
          clear hf; clear a; intro w2 a ho hx hf
          replace hs : Sep wf (star F2 w1 wf) noR w2 (star F2 w1 wf) [.row 65 ty53 (.slice (some ⟨wf.heap.size, 0, none⟩) ([((gt p_l s2.2).1, (gt p_l s2.2).2.1, (gt p_l s2.2).2.2)] : List ((List UInt8) × Int × (List Int))).length ([((gt p_l s2.2).1, (gt p_l s2.2).2.1, (gt p_l s2.2).2.2)] : List ((List UInt8) × Int × (List Int))).length) ([((gt p_l s2.2).1, (gt p_l s2.2).2.1, (gt p_l s2.2).2.2)] : List ((List UInt8) × Int × (List Int))), .ro (tI .u8) (.slice ao14 ((gt p_l s2.2).2.2).length cp14) ((gt p_l s2.2).2.2), .ro ty53 (.slice ao1 p_l.length cp1) p_l] := hs.newRow ho hx
          clear ho hx
          exact fq_ok (d := 28) rfl hf (hs.ex fun _ h => h) ⟨(some ⟨wf.heap.size, 0, none⟩), ([((gt p_l s2.2).1, (gt p_l s2.2).2.1, (gt p_l s2.2).2.2)] : List ((List UInt8) × Int × (List Int))).length, _, hf.1, (hs.sel [0] rfl rfl).rebase hX⟩
      · clear hf hs; clear a; intro a w3 hx hf hd
        have hs : Sep w F R w3 (star F2 w1 w3) [.row 65 ty53 (.slice ao3 s2.1.length cp3) s2.1, .ro ty53 (.slice ao1 p_l.length cp1) p_l] := hs0.starX hx
        have e_11 : a.tmps.getD 11 undef = .slice ao3 s2.1.length cp3 := hd 0 11 (by kernel_rfl) (by kernel_rfl)
        obtain ⟨ao15, cp15, F_28, e_28, h_28⟩ : ∃ (ao15 : Option Addr) (cp15 : Nat) (F' : SH), a.tmps.getD 28 undef = .slice ao15 ([((gt p_l s2.2).1, (gt p_l s2.2).2.1, (gt p_l s2.2).2.2)] : List ((List UInt8) × Int × (List Int))).length cp15 ∧ Sep w1 F2 noR w3 F' [.row 65 ty53 (.slice ao15 ([((gt p_l s2.2).1, (gt p_l s2.2).2.1, (gt p_l s2.2).2.2)] : List ((List UInt8) × Int × (List Int))).length cp15) ([((gt p_l s2.2).1, (gt p_l s2.2).2.1, (gt p_l s2.2).2.2)] : List ((List UInt8) × Int × (List Int)))] := hd 17 28 (by kernel_rfl) (by kernel_rfl)
        clear hd hx
        replace hs : Sep w F R w3 (star F2 w1 w3) [.ro ty53 (.slice ao15 ([((gt p_l s2.2).1, (gt p_l s2.2).2.1, (gt p_l s2.2).2.2)] : List ((List UInt8) × Int × (List Int))).length cp15) ([((gt p_l s2.2).1, (gt p_l s2.2).2.1, (gt p_l s2.2).2.2)] : List ((List UInt8) × Int × (List Int))), .row 65 ty53 (.slice ao3 s2.1.length cp3) s2.1, .ro ty53 (.slice ao1 p_l.length cp1) p_l] := hs.addStar h_28 0 rfl rfl
        clear h_28
        clear hs0
        replace hf : Fr 31 [(11, .slice ao3 s2.1.length cp3), (28, .slice ao15 ([((gt p_l s2.2).1, (gt p_l s2.2).2.1, (gt p_l s2.2).2.2)] : List ((List UInt8) × Int × (List Int))).length cp15), (0, .slice ao1 p_l.length cp1), (3, .slice ao3 s2.1.length cp3), (4, .int .i64 s2.2), (8, .bool (decide (s2.2 < ((p_l.length : Nat) : Int))))] a := ⟨e_11, e_28, hf⟩
        clear e_11 e_28
        replace hf := Fr.keep (ks := [0, 4, 11, 28]) (L' := [(0, .slice ao1 p_l.length cp1), (4, .int .i64 s2.2), (11, .slice ao3 s2.1.length cp3), (28, .slice ao15 ([((gt p_l s2.2).1, (gt p_l s2.2).2.1, (gt p_l s2.2).2.2)] : List ((List UInt8) × Int × (List Int))).length cp15)]) hf (by kernel_rfl)
        have hT := of_gd hS; clear hS; obtain ⟨hc4, hS⟩ := hT
        refine apR tbOk u42 i65 rfl rfl rfl rfl hs.le (hs.own 1 rfl) (hs.raR 0 rfl) hc4 hf (by kernel_rfl) (by kernel_rfl) (by kernel_rfl) (by kernel_rfl) ?_
        clear hf; clear a; intro ao16 cp16 w4 a ho hg hl hf
        replace hs : Sep w F R w4 (star F2 w1 w3) [.ro ty53 (.slice ao15 ([((gt p_l s2.2).1, (gt p_l s2.2).2.1, (gt p_l s2.2).2.2)] : List ((List UInt8) × Int × (List Int))).length cp15) ([((gt p_l s2.2).1, (gt p_l s2.2).2.1, (gt p_l s2.2).2.2)] : List ((List UInt8) × Int × (List Int))), .row 65 ty53 (.slice ao16 (s2.1 ++ ([((gt p_l s2.2).1, (gt p_l s2.2).2.1, (gt p_l s2.2).2.2)] : List ((List UInt8) × Int × (List Int)))).length cp16) (s2.1 ++ ([((gt p_l s2.2).1, (gt p_l s2.2).2.1, (gt p_l s2.2).2.2)] : List ((List UInt8) × Int × (List Int)))), .ro ty53 (.slice ao1 p_l.length cp1) p_l] := hs.updRow 1 rfl ho hg hl
        clear ho hg hl
        replace hs : Sep w F R w4 (star F2 w1 w3) [.row 65 ty53 (.slice ao16 (s2.1 ++ ([((gt p_l s2.2).1, (gt p_l s2.2).2.1, (gt p_l s2.2).2.2)] : List ((List UInt8) × Int × (List Int)))).length cp16) (s2.1 ++ ([((gt p_l s2.2).1, (gt p_l s2.2).2.1, (gt p_l s2.2).2.2)] : List ((List UInt8) × Int × (List Int)))), .ro ty53 (.slice ao1 p_l.length cp1) p_l] := hs.sel [1, 2] rfl rfl
        replace hf := Fr.keep (ks := [0, 4, 29]) (L' := [(0, .slice ao1 p_l.length cp1), (4, .int .i64 s2.2), (29, .slice ao16 (s2.1 ++ ([((gt p_l s2.2).1, (gt p_l s2.2).2.1, (gt p_l s2.2).2.2)] : List ((List UInt8) × Int × (List Int)))).length cp16)]) hf (by kernel_rfl)
        refine st tbOk 1 [0, 3, 4] (L' := [(0, .slice ao1 p_l.length cp1), (3, .slice ao16 (s2.1 ++ ([((gt p_l s2.2).1, (gt p_l s2.2).2.1, (gt p_l s2.2).2.2)] : List ((List UInt8) × Int × (List Int)))).length cp16), (4, .int .i64 s2.2)]) hf (by kernel_rfl) ?_
        clear hf; clear a; intro a hf
        refine wpList_nil ?_
        refine reg ?_
        have hT := of_let hS; clear hS; obtain ⟨i_1, hl1, hS⟩ := hT
        refine st tbOk 3 [0, 3, 4] (L' := [(0, .slice ao1 p_l.length cp1), (3, .slice ao16 (s2.1 ++ ([((gt p_l s2.2).1, (gt p_l s2.2).2.1, (gt p_l s2.2).2.2)] : List ((List UInt8) × Int × (List Int)))).length cp16), (4, .int .i64 i_1)]) hf (by subst hl1; kernel_rfl) ?_
        clear hf; clear a; intro a hf
        refine wpList_nil ?_
        exact hK2 ((s2.1 ++ ([((gt p_l s2.2).1, (gt p_l s2.2).2.1, (gt p_l s2.2).2.2)] : List ((List UInt8) × Int × (List Int)))), i_1) _ _ ⟨ao16, cp16, _, hs.sel [0, 1] rfl rfl, hf.keep (ks := [0, 3, 4]) (by kernel_rfl)⟩ hS
    · replace hS := of_f hb1 hS
      refine wp_exit ?_
      exact hK1 s2.1 _ _ ⟨ao3, cp3, _, hs.sel [0] rfl rfl, hf.keep (ks := [3]) (by kernel_rfl)⟩ hS

end Dm
