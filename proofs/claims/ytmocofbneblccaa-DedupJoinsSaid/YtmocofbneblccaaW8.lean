/-
  The walks: a call of each Go function gives what its shallow form gives, where that form gives something; printed by a program of this repo. No condition.
-/
import Derived.Test.YtmocofbneblccaaWT
namespace Dm
open Go Go.RowKit Go.Proofs

set_option maxHeartbeats 4000000 in
theorem law21_entries_ok {w : World} {F : SH} {p_l : List (Int × Int × Bool × (List UInt8) × Int × Bool × Int)} {ao1 : Option Addr} {cp1 : Nat} (hs : Sep w F (blks [.ro ty57 (.slice ao1 p_l.length cp1) p_l]) w F [.ro ty57 (.slice ao1 p_l.length cp1) p_l]) {r : List ((Int × Int × Bool × (List UInt8) × Int × (List UInt8)) × Bool × Int)} (hS : law21_entries p_l = some r) :
    Calls Try.prog 22 [.slice ao1 p_l.length cp1].toArray w (Gives (fun u w' => ∃ (ao6 : Option Addr) (cp6 : Nat) (F' : SH), u = .slice ao6 r.length cp6 ∧ Sep w F (blks [.ro ty57 (.slice ao1 p_l.length cp1) p_l]) w' F' [.row 48 ty47 (.slice ao6 r.length cp6) r])) := by
  generalize (blks [.ro ty57 (.slice ao1 p_l.length cp1) p_l]) = R at hs ⊢
  unfold law21_entries at hS
  refine fn_ok (vs := [.slice ao1 p_l.length cp1]) Try.func22 rfl 52 Try.ntmps22 (Nat.le_of_ble_eq_true rfl) ?_
  intro a hf
  replace hf := Fr.cast (L' := [(0, .slice ao1 p_l.length cp1)]) hf (by kernel_rfl)
  refine sq ?_
  refine reg ?_
  refine st tbOk 1 [0] (L' := [(0, .slice ao1 p_l.length cp1)]) hf (by kernel_rfl) ?_
  clear hf; clear a; intro a hf
  refine wpList_nil ?_
  refine sq ?_
  refine reg ?_
  refine st tbOk 1 [0, 3] (L' := [(0, .slice ao1 p_l.length cp1), (3, .slice none 0 0)]) hf (by kernel_rfl) ?_
  clear hf; clear a; intro a hf
  refine wpList_nil ?_
  refine sq ?_
  refine sq ?_
  refine reg ?_
  refine st tbOk 1 [0, 3, 4] (L' := [(0, .slice ao1 p_l.length cp1), (3, .slice none 0 0), (4, .int .i64 0)]) hf (by kernel_rfl) ?_
  clear hf; clear a; intro a hf
  refine wpList_nil ?_
  refine ctj (fun (s1 : List ((Int × Int × Bool × (List UInt8) × Int × (List UInt8)) × Bool × Int)) (a : Act) (w' : World) => ∃ (ao2 : Option Addr) (cp2 : Nat) (F1 : SH), Sep w F R w' F1 [.row 48 ty47 (.slice ao2 s1.length cp2) s1] ∧ Fr 52 [(3, .slice ao2 s1.length cp2)] a) hS ?_ ?_
  · clear hS hf hs; clear a; intro s1 a w5 hM hS
    obtain ⟨ao2, cp2, F1, hs, hf⟩ := hM
    refine sq ?_
    refine reg ?_
    refine st tbOk 2 [2] (L' := [(2, .slice ao2 s1.length cp2)]) hf (by kernel_rfl) ?_
    clear hf; clear a; intro a hf
    refine wpList_nil ?_
    have hr := Option.some.inj hS; subst hr
    refine wp_ret ?_
    exact ret_ok hf (vs := [.slice ao2 s1.length cp2]) (by kernel_rfl) ⟨ao2, cp2, _, rfl, hs.sel [0] rfl rfl⟩
  · clear hS; intro KK1 k1 hK1 hS
    refine blk ?_
    replace hs : Sep w F R w F [.row 48 ty47 (.slice none 0 0) ([] : List ((Int × Int × Bool × (List UInt8) × Int × (List UInt8)) × Bool × Int)), .ro ty57 (.slice ao1 p_l.length cp1) p_l] := hs.addNil 48 ty47
    refine lp (st := ([], 0)) (fun (s2 : (List ((Int × Int × Bool × (List UInt8) × Int × (List UInt8)) × Bool × Int)) × Int) (a : Act) (w' : World) => ∃ (ao3 : Option Addr) (cp3 : Nat) (F2 : SH), Sep w F R w' F2 [.row 48 ty47 (.slice ao3 s2.1.length cp3) s2.1, .ro ty57 (.slice ao1 p_l.length cp1) p_l] ∧ Fr 52 [(0, .slice ao1 p_l.length cp1), (3, .slice ao3 s2.1.length cp3), (4, .int .i64 s2.2)] a) ?_ ⟨none, 0, _, hs.sel [0, 1] rfl rfl, hf.keep (ks := [0, 3, 4]) (by kernel_rfl)⟩ hS
    clear hS hf hs; clear a
    intro rec1 KK2 hK2 s2 a w1 hM hS
    obtain ⟨ao3, cp3, F2, hs, hf⟩ := hM
    refine sq ?_
    refine sq ?_
    refine reg ?_
    refine st tbOk 4 [0, 3, 4, 8] (L' := [(0, .slice ao1 p_l.length cp1), (3, .slice ao3 s2.1.length cp3), (4, .int .i64 s2.2), (8, .bool (decide (s2.2 < ((p_l.length : Nat) : Int))))]) hf (by kernel_rfl) ?_
    clear hf; clear a; intro a hf
    refine wpList_nil ?_
    refine cnd (b := decide (s2.2 < ((p_l.length : Nat) : Int))) hf (by kernel_rfl) (fun hb1 => ?_) (fun hb1 => ?_)
    · replace hS := of_t hb1 hS
      refine wp_skip ?_
      refine sq ?_
      refine blk ?_
      have hT := of_gd hS; clear hS; obtain ⟨hc1, hS⟩ := hT
      have hT := of_gd hS; clear hS; obtain ⟨hc2, hS⟩ := hT
      have hT := of_gd hS; clear hS; obtain ⟨hc3, hS⟩ := hT
      have hT := of_gd hS; clear hS; obtain ⟨hc4, hS⟩ := hT
      have hT := of_gd hS; clear hS; obtain ⟨hc5, hS⟩ := hT
      have hT := of_gd hS; clear hS; obtain ⟨hc6, hS⟩ := hT
      have hT := of_gd hS; clear hS; obtain ⟨hc7, hS⟩ := hT
      have hs0 := hs
      refine regF 39 [fun u uw => u = .slice ao3 s2.1.length cp3,
    fun u uw => u = .slice ao1 p_l.length cp1,
    fun u uw => u = .int .i64 s2.2,
    fun u uw => ∃ (pb2 : Nat) (po2 : Nat) (F' : SH), u = .pointer (some ⟨pb2, po2, none⟩) ∧ Sep w1 F2 noR uw F' [.cel pb2 po2 [.int .u64 ((gt p_l s2.2).1), .int .i64 ((gt p_l s2.2).2.1), .bool ((gt p_l s2.2).2.2.1), strV ((gt p_l s2.2).2.2.2.1), .int .u64 ((gt p_l s2.2).2.2.2.2.1), .bool ((gt p_l s2.2).2.2.2.2.2.1), .int .u32 ((gt p_l s2.2).2.2.2.2.2.2)]],
    fun u uw => ∃ (pb3 : Nat) (po3 : Nat) (F' : SH), u = .pointer (some ⟨pb3, po3, none⟩) ∧ Sep w1 F2 noR uw F' [.cel pb3 po3 [.int .u64 ((gt p_l s2.2).1), .int .i64 ((gt p_l s2.2).2.1), .bool ((gt p_l s2.2).2.2.1), strV ((gt p_l s2.2).2.2.2.1), .int .u64 ((gt p_l s2.2).2.2.2.2.1), .bool ((gt p_l s2.2).2.2.2.2.2.1), .int .u32 ((gt p_l s2.2).2.2.2.2.2.2)]],
    fun u uw => u = .int .u64 ((gt p_l s2.2).1),
    fun u uw => u = .slice ao1 p_l.length cp1,
    fun u uw => u = .int .i64 s2.2,
    fun u uw => ∃ (pb5 : Nat) (po5 : Nat) (F' : SH), u = .pointer (some ⟨pb5, po5, none⟩) ∧ Sep w1 F2 noR uw F' [.cel pb5 po5 [.int .u64 ((gt p_l s2.2).1), .int .i64 ((gt p_l s2.2).2.1), .bool ((gt p_l s2.2).2.2.1), strV ((gt p_l s2.2).2.2.2.1), .int .u64 ((gt p_l s2.2).2.2.2.2.1), .bool ((gt p_l s2.2).2.2.2.2.2.1), .int .u32 ((gt p_l s2.2).2.2.2.2.2.2)]],
    fun u uw => ∃ (pb6 : Nat) (po6 : Nat) (F' : SH), u = .pointer (some ⟨pb6, po6 + 1, none⟩) ∧ Sep w1 F2 noR uw F' [.cel pb6 po6 [.int .u64 ((gt p_l s2.2).1), .int .i64 ((gt p_l s2.2).2.1), .bool ((gt p_l s2.2).2.2.1), strV ((gt p_l s2.2).2.2.2.1), .int .u64 ((gt p_l s2.2).2.2.2.2.1), .bool ((gt p_l s2.2).2.2.2.2.2.1), .int .u32 ((gt p_l s2.2).2.2.2.2.2.2)]],
    fun u uw => u = .int .i64 ((gt p_l s2.2).2.1),
    fun u uw => u = .slice ao1 p_l.length cp1,
    fun u uw => u = .int .i64 s2.2,
    fun u uw => ∃ (pb8 : Nat) (po8 : Nat) (F' : SH), u = .pointer (some ⟨pb8, po8, none⟩) ∧ Sep w1 F2 noR uw F' [.cel pb8 po8 [.int .u64 ((gt p_l s2.2).1), .int .i64 ((gt p_l s2.2).2.1), .bool ((gt p_l s2.2).2.2.1), strV ((gt p_l s2.2).2.2.2.1), .int .u64 ((gt p_l s2.2).2.2.2.2.1), .bool ((gt p_l s2.2).2.2.2.2.2.1), .int .u32 ((gt p_l s2.2).2.2.2.2.2.2)]],
    fun u uw => ∃ (pb9 : Nat) (po9 : Nat) (F' : SH), u = .pointer (some ⟨pb9, po9 + 2, none⟩) ∧ Sep w1 F2 noR uw F' [.cel pb9 po9 [.int .u64 ((gt p_l s2.2).1), .int .i64 ((gt p_l s2.2).2.1), .bool ((gt p_l s2.2).2.2.1), strV ((gt p_l s2.2).2.2.2.1), .int .u64 ((gt p_l s2.2).2.2.2.2.1), .bool ((gt p_l s2.2).2.2.2.2.2.1), .int .u32 ((gt p_l s2.2).2.2.2.2.2.2)]],
    fun u uw => u = .bool ((gt p_l s2.2).2.2.1),
    fun u uw => u = .slice ao1 p_l.length cp1,
    fun u uw => u = .int .i64 s2.2,
    fun u uw => ∃ (pb11 : Nat) (po11 : Nat) (F' : SH), u = .pointer (some ⟨pb11, po11, none⟩) ∧ Sep w1 F2 noR uw F' [.cel pb11 po11 [.int .u64 ((gt p_l s2.2).1), .int .i64 ((gt p_l s2.2).2.1), .bool ((gt p_l s2.2).2.2.1), strV ((gt p_l s2.2).2.2.2.1), .int .u64 ((gt p_l s2.2).2.2.2.2.1), .bool ((gt p_l s2.2).2.2.2.2.2.1), .int .u32 ((gt p_l s2.2).2.2.2.2.2.2)]],
    fun u uw => ∃ (pb12 : Nat) (po12 : Nat) (F' : SH), u = .pointer (some ⟨pb12, po12 + 3, none⟩) ∧ Sep w1 F2 noR uw F' [.cel pb12 po12 [.int .u64 ((gt p_l s2.2).1), .int .i64 ((gt p_l s2.2).2.1), .bool ((gt p_l s2.2).2.2.1), strV ((gt p_l s2.2).2.2.2.1), .int .u64 ((gt p_l s2.2).2.2.2.2.1), .bool ((gt p_l s2.2).2.2.2.2.2.1), .int .u32 ((gt p_l s2.2).2.2.2.2.2.2)]],
    fun u uw => u = strV ((gt p_l s2.2).2.2.2.1),
    fun u uw => u = .slice ao1 p_l.length cp1,
    fun u uw => u = .int .i64 s2.2,
    fun u uw => ∃ (pb14 : Nat) (po14 : Nat) (F' : SH), u = .pointer (some ⟨pb14, po14, none⟩) ∧ Sep w1 F2 noR uw F' [.cel pb14 po14 [.int .u64 ((gt p_l s2.2).1), .int .i64 ((gt p_l s2.2).2.1), .bool ((gt p_l s2.2).2.2.1), strV ((gt p_l s2.2).2.2.2.1), .int .u64 ((gt p_l s2.2).2.2.2.2.1), .bool ((gt p_l s2.2).2.2.2.2.2.1), .int .u32 ((gt p_l s2.2).2.2.2.2.2.2)]],
    fun u uw => ∃ (pb15 : Nat) (po15 : Nat) (F' : SH), u = .pointer (some ⟨pb15, po15 + 4, none⟩) ∧ Sep w1 F2 noR uw F' [.cel pb15 po15 [.int .u64 ((gt p_l s2.2).1), .int .i64 ((gt p_l s2.2).2.1), .bool ((gt p_l s2.2).2.2.1), strV ((gt p_l s2.2).2.2.2.1), .int .u64 ((gt p_l s2.2).2.2.2.2.1), .bool ((gt p_l s2.2).2.2.2.2.2.1), .int .u32 ((gt p_l s2.2).2.2.2.2.2.2)]],
    fun u uw => u = .int .u64 ((gt p_l s2.2).2.2.2.2.1),
    fun u uw => u = .agg #[.int .u64 ((gt p_l s2.2).1), .int .i64 ((gt p_l s2.2).2.1), .bool ((gt p_l s2.2).2.2.1), strV ((gt p_l s2.2).2.2.2.1), .int .u64 ((gt p_l s2.2).2.2.2.2.1), strV []],
    fun u uw => u = .slice ao1 p_l.length cp1,
    fun u uw => u = .int .i64 s2.2,
    fun u uw => ∃ (pb17 : Nat) (po17 : Nat) (F' : SH), u = .pointer (some ⟨pb17, po17, none⟩) ∧ Sep w1 F2 noR uw F' [.cel pb17 po17 [.int .u64 ((gt p_l s2.2).1), .int .i64 ((gt p_l s2.2).2.1), .bool ((gt p_l s2.2).2.2.1), strV ((gt p_l s2.2).2.2.2.1), .int .u64 ((gt p_l s2.2).2.2.2.2.1), .bool ((gt p_l s2.2).2.2.2.2.2.1), .int .u32 ((gt p_l s2.2).2.2.2.2.2.2)]],
    fun u uw => ∃ (pb18 : Nat) (po18 : Nat) (F' : SH), u = .pointer (some ⟨pb18, po18 + 5, none⟩) ∧ Sep w1 F2 noR uw F' [.cel pb18 po18 [.int .u64 ((gt p_l s2.2).1), .int .i64 ((gt p_l s2.2).2.1), .bool ((gt p_l s2.2).2.2.1), strV ((gt p_l s2.2).2.2.2.1), .int .u64 ((gt p_l s2.2).2.2.2.2.1), .bool ((gt p_l s2.2).2.2.2.2.2.1), .int .u32 ((gt p_l s2.2).2.2.2.2.2.2)]],
    fun u uw => u = .bool ((gt p_l s2.2).2.2.2.2.2.1),
    fun u uw => u = .slice ao1 p_l.length cp1,
    fun u uw => u = .int .i64 s2.2,
    fun u uw => ∃ (pb20 : Nat) (po20 : Nat) (F' : SH), u = .pointer (some ⟨pb20, po20, none⟩) ∧ Sep w1 F2 noR uw F' [.cel pb20 po20 [.int .u64 ((gt p_l s2.2).1), .int .i64 ((gt p_l s2.2).2.1), .bool ((gt p_l s2.2).2.2.1), strV ((gt p_l s2.2).2.2.2.1), .int .u64 ((gt p_l s2.2).2.2.2.2.1), .bool ((gt p_l s2.2).2.2.2.2.2.1), .int .u32 ((gt p_l s2.2).2.2.2.2.2.2)]],
    fun u uw => ∃ (pb21 : Nat) (po21 : Nat) (F' : SH), u = .pointer (some ⟨pb21, po21 + 6, none⟩) ∧ Sep w1 F2 noR uw F' [.cel pb21 po21 [.int .u64 ((gt p_l s2.2).1), .int .i64 ((gt p_l s2.2).2.1), .bool ((gt p_l s2.2).2.2.1), strV ((gt p_l s2.2).2.2.2.1), .int .u64 ((gt p_l s2.2).2.2.2.2.1), .bool ((gt p_l s2.2).2.2.2.2.2.1), .int .u32 ((gt p_l s2.2).2.2.2.2.2.2)]],
    fun u uw => u = .int .u32 ((gt p_l s2.2).2.2.2.2.2.2),
    fun u uw => u = .agg #[.int .u64 ((gt p_l s2.2).1), .int .i64 ((gt p_l s2.2).2.1), .bool ((gt p_l s2.2).2.2.1), strV ((gt p_l s2.2).2.2.2.1), .int .u64 ((gt p_l s2.2).2.2.2.2.1), strV [], .bool ((gt p_l s2.2).2.2.2.2.2.1), .int .u32 ((gt p_l s2.2).2.2.2.2.2.2)],
    fun u uw => ∃ (ao4 : Option Addr) (cp4 : Nat) (F' : SH), u = .slice ao4 ([(((gt p_l s2.2).1, (gt p_l s2.2).2.1, (gt p_l s2.2).2.2.1, (gt p_l s2.2).2.2.2.1, (gt p_l s2.2).2.2.2.2.1, []), (gt p_l s2.2).2.2.2.2.2.1, (gt p_l s2.2).2.2.2.2.2.2)] : List ((Int × Int × Bool × (List UInt8) × Int × (List UInt8)) × Bool × Int)).length cp4 ∧ Sep w1 F2 noR uw F' [.row 48 ty47 (.slice ao4 ([(((gt p_l s2.2).1, (gt p_l s2.2).2.1, (gt p_l s2.2).2.2.1, (gt p_l s2.2).2.2.2.1, (gt p_l s2.2).2.2.2.2.1, []), (gt p_l s2.2).2.2.2.2.2.1, (gt p_l s2.2).2.2.2.2.2.2)] : List ((Int × Int × Bool × (List UInt8) × Int × (List UInt8)) × Bool × Int)).length cp4) ([(((gt p_l s2.2).1, (gt p_l s2.2).2.1, (gt p_l s2.2).2.2.1, (gt p_l s2.2).2.2.2.1, (gt p_l s2.2).2.2.2.2.1, []), (gt p_l s2.2).2.2.2.2.2.1, (gt p_l s2.2).2.2.2.2.2.2)] : List ((Int × Int × Bool × (List UInt8) × Int × (List UInt8)) × Bool × Int))]] mixed (Fr.keep (ks := [0, 3, 4, 8]) (L' := [(0, .slice ao1 p_l.length cp1), (3, .slice ao3 s2.1.length cp3), (4, .int .i64 s2.2), (8, .bool (decide (s2.2 < ((p_l.length : Nat) : Int))))]) hf (by kernel_rfl)) (by kernel_rfl) rfl ?_ ?_ ?_
      · exact ⟨fun _ _ _ h _ => h, fun _ _ _ h _ => h, fun _ _ _ h _ => h, fun _ _ _ ⟨pb2, po2, F', e, h⟩ hx => ⟨pb2, po2, F', e, h.ext hx⟩, fun _ _ _ ⟨pb3, po3, F', e, h⟩ hx => ⟨pb3, po3, F', e, h.ext hx⟩, fun _ _ _ h _ => h, fun _ _ _ h _ => h, fun _ _ _ h _ => h, fun _ _ _ ⟨pb5, po5, F', e, h⟩ hx => ⟨pb5, po5, F', e, h.ext hx⟩, fun _ _ _ ⟨pb6, po6, F', e, h⟩ hx => ⟨pb6, po6, F', e, h.ext hx⟩, fun _ _ _ h _ => h, fun _ _ _ h _ => h, fun _ _ _ h _ => h, fun _ _ _ ⟨pb8, po8, F', e, h⟩ hx => ⟨pb8, po8, F', e, h.ext hx⟩, fun _ _ _ ⟨pb9, po9, F', e, h⟩ hx => ⟨pb9, po9, F', e, h.ext hx⟩, fun _ _ _ h _ => h, fun _ _ _ h _ => h, fun _ _ _ h _ => h, fun _ _ _ ⟨pb11, po11, F', e, h⟩ hx => ⟨pb11, po11, F', e, h.ext hx⟩, fun _ _ _ ⟨pb12, po12, F', e, h⟩ hx => ⟨pb12, po12, F', e, h.ext hx⟩, fun _ _ _ h _ => h, fun _ _ _ h _ => h, fun _ _ _ h _ => h, fun _ _ _ ⟨pb14, po14, F', e, h⟩ hx => ⟨pb14, po14, F', e, h.ext hx⟩, fun _ _ _ ⟨pb15, po15, F', e, h⟩ hx => ⟨pb15, po15, F', e, h.ext hx⟩, fun _ _ _ h _ => h, fun _ _ _ h _ => h, fun _ _ _ h _ => h, fun _ _ _ h _ => h, fun _ _ _ ⟨pb17, po17, F', e, h⟩ hx => ⟨pb17, po17, F', e, h.ext hx⟩, fun _ _ _ ⟨pb18, po18, F', e, h⟩ hx => ⟨pb18, po18, F', e, h.ext hx⟩, fun _ _ _ h _ => h, fun _ _ _ h _ => h, fun _ _ _ h _ => h, fun _ _ _ ⟨pb20, po20, F', e, h⟩ hx => ⟨pb20, po20, F', e, h.ext hx⟩, fun _ _ _ ⟨pb21, po21, F', e, h⟩ hx => ⟨pb21, po21, F', e, h.ext hx⟩, fun _ _ _ h _ => h, fun _ _ _ h _ => h, fun _ _ _ ⟨ao4, cp4, F', e, h⟩ hx => ⟨ao4, cp4, F', e, h.ext hx⟩, trivial⟩
      · clear hS hf hs; clear a
        refine ⟨?_, ?_, ?_, ?_, ?_, ?_, ?_, ?_, ?_, ?_, ?_, ?_, ?_, ?_, ?_, ?_, ?_, ?_, ?_, ?_, ?_, ?_, ?_, ?_, ?_, ?_, ?_, ?_, ?_, ?_, ?_, ?_, ?_, ?_, ?_, ?_, ?_, ?_, ?_, trivial⟩
        · intro a wf hX hf hd
          clear hd
          have hs : Sep wf (star F2 w1 wf) noR wf (star F2 w1 wf) [.ro ty57 (.slice ao1 p_l.length cp1) p_l] := hs0.fstart hX [1] rfl rfl
          refine st tbOk 1 [11] (L' := [(11, .slice ao3 s2.1.length cp3)]) hf (by kernel_rfl) ?_
          clear hf; clear a; intro a hf
          exact fq_ok (d := 11) rfl hf (hs.ex fun _ h => h) hf.1
        · intro a wf hX hf hd
          clear hd
          have hs : Sep wf (star F2 w1 wf) noR wf (star F2 w1 wf) [.ro ty57 (.slice ao1 p_l.length cp1) p_l] := hs0.fstart hX [1] rfl rfl
          refine st tbOk 1 [12] (L' := [(12, .slice ao1 p_l.length cp1)]) hf (by kernel_rfl) ?_
          clear hf; clear a; intro a hf
          exact fq_ok (d := 12) rfl hf (hs.ex fun _ h => h) hf.1
        · intro a wf hX hf hd
          clear hd
          have hs : Sep wf (star F2 w1 wf) noR wf (star F2 w1 wf) [.ro ty57 (.slice ao1 p_l.length cp1) p_l] := hs0.fstart hX [1] rfl rfl
          refine st tbOk 1 [13] (L' := [(13, .int .i64 s2.2)]) hf (by kernel_rfl) ?_
          clear hf; clear a; intro a hf
          exact fq_ok (d := 13) rfl hf (hs.ex fun _ h => h) hf.1
        · intro a wf hX hf hd
          have e_12 : a.tmps.getD 12 undef = .slice ao1 p_l.length cp1 := hd 1 12 (by kernel_rfl) (by kernel_rfl)
          have e_13 : a.tmps.getD 13 undef = .int .i64 s2.2 := hd 2 13 (by kernel_rfl) (by kernel_rfl)
          replace hf : Fr 52 [(12, .slice ao1 p_l.length cp1), (13, .int .i64 s2.2), (0, .slice ao1 p_l.length cp1), (3, .slice ao3 s2.1.length cp3), (4, .int .i64 s2.2), (8, .bool (decide (s2.2 < ((p_l.length : Nat) : Int))))] a := ⟨e_12, e_13, hf⟩; clear e_12 e_13
          clear hd
          have hs : Sep wf (star F2 w1 wf) noR wf (star F2 w1 wf) [.ro ty57 (.slice ao1 p_l.length cp1) p_l] := hs0.fstart hX [1] rfl rfl
          refine ixR tbOk u36 i58 rfl rfl ((hs.ro 0 rfl).ra (LeH.refl _)) (k := .i64) (n := s2.2) hc1 hf (by kernel_rfl) (by kernel_rfl) (by kernel_rfl) (by kernel_rfl) ?_
          clear hf; clear a; intro pb1 po1 c1 a hp1 hr1 hf
          obtain rfl : c1 = [.int .u64 ((gt p_l s2.2).1), .int .i64 ((gt p_l s2.2).2.1), .bool ((gt p_l s2.2).2.2.1), strV ((gt p_l s2.2).2.2.2.1), .int .u64 ((gt p_l s2.2).2.2.2.2.1), .bool ((gt p_l s2.2).2.2.2.2.2.1), .int .u32 ((gt p_l s2.2).2.2.2.2.2.2)] := hr1
          replace hs : Sep wf (star F2 w1 wf) noR wf (star F2 w1 wf) [.cel pb1 po1 [.int .u64 ((gt p_l s2.2).1), .int .i64 ((gt p_l s2.2).2.1), .bool ((gt p_l s2.2).2.2.1), strV ((gt p_l s2.2).2.2.2.1), .int .u64 ((gt p_l s2.2).2.2.2.2.1), .bool ((gt p_l s2.2).2.2.2.2.2.1), .int .u32 ((gt p_l s2.2).2.2.2.2.2.2)], .ro ty57 (.slice ao1 p_l.length cp1) p_l] := hs.addCel hp1
          exact fq_ok (d := 14) rfl hf (hs.ex fun _ h => h) ⟨pb1, po1, _, hf.1, (hs.sel [0] rfl rfl).rebase hX⟩
        · intro a wf hX hf hd
          obtain ⟨pb2, po2, F_14, e_14, h_14⟩ : ∃ (pb2 : Nat) (po2 : Nat) (F' : SH), a.tmps.getD 14 undef = .pointer (some ⟨pb2, po2, none⟩) ∧ Sep w1 F2 noR wf F' [.cel pb2 po2 [.int .u64 ((gt p_l s2.2).1), .int .i64 ((gt p_l s2.2).2.1), .bool ((gt p_l s2.2).2.2.1), strV ((gt p_l s2.2).2.2.2.1), .int .u64 ((gt p_l s2.2).2.2.2.2.1), .bool ((gt p_l s2.2).2.2.2.2.2.1), .int .u32 ((gt p_l s2.2).2.2.2.2.2.2)]] := hd 3 14 (by kernel_rfl) (by kernel_rfl)
          replace hf : Fr 52 [(14, .pointer (some ⟨pb2, po2, none⟩)), (0, .slice ao1 p_l.length cp1), (3, .slice ao3 s2.1.length cp3), (4, .int .i64 s2.2), (8, .bool (decide (s2.2 < ((p_l.length : Nat) : Int))))] a := ⟨e_14, hf⟩; clear e_14
          clear hd
          have hs : Sep wf (star F2 w1 wf) noR wf (star F2 w1 wf) [.ro ty57 (.slice ao1 p_l.length cp1) p_l] := hs0.fstart hX [1] rfl rfl
          replace hs : Sep wf (star F2 w1 wf) noR wf (star F2 w1 wf) [.cel pb2 po2 [.int .u64 ((gt p_l s2.2).1), .int .i64 ((gt p_l s2.2).2.1), .bool ((gt p_l s2.2).2.2.1), strV ((gt p_l s2.2).2.2.2.1), .int .u64 ((gt p_l s2.2).2.2.2.2.1), .bool ((gt p_l s2.2).2.2.2.2.2.1), .int .u32 ((gt p_l s2.2).2.2.2.2.2.2)], .ro ty57 (.slice ao1 p_l.length cp1) p_l] := hs.addStar h_14 0 rfl rfl
          clear h_14
          refine st tbOk 1 [15] (L' := [(15, .pointer (some ⟨pb2, po2, none⟩))]) hf (by kernel_rfl) ?_
          clear hf; clear a; intro a hf
          exact fq_ok (d := 15) rfl hf (hs.ex fun _ h => h) ⟨pb2, po2, _, hf.1, (hs.sel [0] rfl rfl).rebase hX⟩
        · intro a wf hX hf hd
          obtain ⟨pb3, po3, F_15, e_15, h_15⟩ : ∃ (pb3 : Nat) (po3 : Nat) (F' : SH), a.tmps.getD 15 undef = .pointer (some ⟨pb3, po3, none⟩) ∧ Sep w1 F2 noR wf F' [.cel pb3 po3 [.int .u64 ((gt p_l s2.2).1), .int .i64 ((gt p_l s2.2).2.1), .bool ((gt p_l s2.2).2.2.1), strV ((gt p_l s2.2).2.2.2.1), .int .u64 ((gt p_l s2.2).2.2.2.2.1), .bool ((gt p_l s2.2).2.2.2.2.2.1), .int .u32 ((gt p_l s2.2).2.2.2.2.2.2)]] := hd 4 15 (by kernel_rfl) (by kernel_rfl)
          replace hf : Fr 52 [(15, .pointer (some ⟨pb3, po3, none⟩)), (0, .slice ao1 p_l.length cp1), (3, .slice ao3 s2.1.length cp3), (4, .int .i64 s2.2), (8, .bool (decide (s2.2 < ((p_l.length : Nat) : Int))))] a := ⟨e_15, hf⟩; clear e_15
          clear hd
          have hs : Sep wf (star F2 w1 wf) noR wf (star F2 w1 wf) [.ro ty57 (.slice ao1 p_l.length cp1) p_l] := hs0.fstart hX [1] rfl rfl
          replace hs : Sep wf (star F2 w1 wf) noR wf (star F2 w1 wf) [.cel pb3 po3 [.int .u64 ((gt p_l s2.2).1), .int .i64 ((gt p_l s2.2).2.1), .bool ((gt p_l s2.2).2.2.1), strV ((gt p_l s2.2).2.2.2.1), .int .u64 ((gt p_l s2.2).2.2.2.2.1), .bool ((gt p_l s2.2).2.2.2.2.2.1), .int .u32 ((gt p_l s2.2).2.2.2.2.2.2)], .ro ty57 (.slice ao1 p_l.length cp1) p_l] := hs.addStar h_15 0 rfl rfl
          clear h_15
          refine ldC tbOk (T := 23) (hs.ccel 0 rfl) (LeH.refl _) 0 (.int .u64 ((gt p_l s2.2).1)) hf (by kernel_rfl) (by kernel_rfl) (by kernel_rfl) (by kernel_rfl) ?_
          clear hf; clear a; intro a hf
          exact fq_ok (d := 16) rfl hf (hs.ex fun _ h => h) hf.1
        · intro a wf hX hf hd
          clear hd
          have hs : Sep wf (star F2 w1 wf) noR wf (star F2 w1 wf) [.ro ty57 (.slice ao1 p_l.length cp1) p_l] := hs0.fstart hX [1] rfl rfl
          refine st tbOk 1 [17] (L' := [(17, .slice ao1 p_l.length cp1)]) hf (by kernel_rfl) ?_
          clear hf; clear a; intro a hf
          exact fq_ok (d := 17) rfl hf (hs.ex fun _ h => h) hf.1
        · intro a wf hX hf hd
          clear hd
          have hs : Sep wf (star F2 w1 wf) noR wf (star F2 w1 wf) [.ro ty57 (.slice ao1 p_l.length cp1) p_l] := hs0.fstart hX [1] rfl rfl
          refine st tbOk 1 [18] (L' := [(18, .int .i64 s2.2)]) hf (by kernel_rfl) ?_
          clear hf; clear a; intro a hf
          exact fq_ok (d := 18) rfl hf (hs.ex fun _ h => h) hf.1
        · intro a wf hX hf hd
          have e_17 : a.tmps.getD 17 undef = .slice ao1 p_l.length cp1 := hd 6 17 (by kernel_rfl) (by kernel_rfl)
          have e_18 : a.tmps.getD 18 undef = .int .i64 s2.2 := hd 7 18 (by kernel_rfl) (by kernel_rfl)
          replace hf : Fr 52 [(17, .slice ao1 p_l.length cp1), (18, .int .i64 s2.2), (0, .slice ao1 p_l.length cp1), (3, .slice ao3 s2.1.length cp3), (4, .int .i64 s2.2), (8, .bool (decide (s2.2 < ((p_l.length : Nat) : Int))))] a := ⟨e_17, e_18, hf⟩; clear e_17 e_18
          clear hd
          have hs : Sep wf (star F2 w1 wf) noR wf (star F2 w1 wf) [.ro ty57 (.slice ao1 p_l.length cp1) p_l] := hs0.fstart hX [1] rfl rfl
          refine ixR tbOk u36 i58 rfl rfl ((hs.ro 0 rfl).ra (LeH.refl _)) (k := .i64) (n := s2.2) hc2 hf (by kernel_rfl) (by kernel_rfl) (by kernel_rfl) (by kernel_rfl) ?_
          clear hf; clear a; intro pb4 po4 c2 a hp2 hr2 hf
          obtain rfl : c2 = [.int .u64 ((gt p_l s2.2).1), .int .i64 ((gt p_l s2.2).2.1), .bool ((gt p_l s2.2).2.2.1), strV ((gt p_l s2.2).2.2.2.1), .int .u64 ((gt p_l s2.2).2.2.2.2.1), .bool ((gt p_l s2.2).2.2.2.2.2.1), .int .u32 ((gt p_l s2.2).2.2.2.2.2.2)] := hr2
          replace hs : Sep wf (star F2 w1 wf) noR wf (star F2 w1 wf) [.cel pb4 po4 [.int .u64 ((gt p_l s2.2).1), .int .i64 ((gt p_l s2.2).2.1), .bool ((gt p_l s2.2).2.2.1), strV ((gt p_l s2.2).2.2.2.1), .int .u64 ((gt p_l s2.2).2.2.2.2.1), .bool ((gt p_l s2.2).2.2.2.2.2.1), .int .u32 ((gt p_l s2.2).2.2.2.2.2.2)], .ro ty57 (.slice ao1 p_l.length cp1) p_l] := hs.addCel hp2
          exact fq_ok (d := 19) rfl hf (hs.ex fun _ h => h) ⟨pb4, po4, _, hf.1, (hs.sel [0] rfl rfl).rebase hX⟩
        · intro a wf hX hf hd
          obtain ⟨pb5, po5, F_19, e_19, h_19⟩ : ∃ (pb5 : Nat) (po5 : Nat) (F' : SH), a.tmps.getD 19 undef = .pointer (some ⟨pb5, po5, none⟩) ∧ Sep w1 F2 noR wf F' [.cel pb5 po5 [.int .u64 ((gt p_l s2.2).1), .int .i64 ((gt p_l s2.2).2.1), .bool ((gt p_l s2.2).2.2.1), strV ((gt p_l s2.2).2.2.2.1), .int .u64 ((gt p_l s2.2).2.2.2.2.1), .bool ((gt p_l s2.2).2.2.2.2.2.1), .int .u32 ((gt p_l s2.2).2.2.2.2.2.2)]] := hd 8 19 (by kernel_rfl) (by kernel_rfl)
          replace hf : Fr 52 [(19, .pointer (some ⟨pb5, po5, none⟩)), (0, .slice ao1 p_l.length cp1), (3, .slice ao3 s2.1.length cp3), (4, .int .i64 s2.2), (8, .bool (decide (s2.2 < ((p_l.length : Nat) : Int))))] a := ⟨e_19, hf⟩; clear e_19
          clear hd
          have hs : Sep wf (star F2 w1 wf) noR wf (star F2 w1 wf) [.ro ty57 (.slice ao1 p_l.length cp1) p_l] := hs0.fstart hX [1] rfl rfl
          replace hs : Sep wf (star F2 w1 wf) noR wf (star F2 w1 wf) [.cel pb5 po5 [.int .u64 ((gt p_l s2.2).1), .int .i64 ((gt p_l s2.2).2.1), .bool ((gt p_l s2.2).2.2.1), strV ((gt p_l s2.2).2.2.2.1), .int .u64 ((gt p_l s2.2).2.2.2.2.1), .bool ((gt p_l s2.2).2.2.2.2.2.1), .int .u32 ((gt p_l s2.2).2.2.2.2.2.2)], .ro ty57 (.slice ao1 p_l.length cp1) p_l] := hs.addStar h_19 0 rfl rfl
          clear h_19
          refine st tbOk 1 [20] (L' := [(20, .pointer (some ⟨pb5, po5 + 1, none⟩))]) hf (by kernel_rfl) ?_
          clear hf; clear a; intro a hf
          exact fq_ok (d := 20) rfl hf (hs.ex fun _ h => h) ⟨pb5, po5, _, hf.1, (hs.sel [0] rfl rfl).rebase hX⟩
        · intro a wf hX hf hd
          obtain ⟨pb6, po6, F_20, e_20, h_20⟩ : ∃ (pb6 : Nat) (po6 : Nat) (F' : SH), a.tmps.getD 20 undef = .pointer (some ⟨pb6, po6 + 1, none⟩) ∧ Sep w1 F2 noR wf F' [.cel pb6 po6 [.int .u64 ((gt p_l s2.2).1), .int .i64 ((gt p_l s2.2).2.1), .bool ((gt p_l s2.2).2.2.1), strV ((gt p_l s2.2).2.2.2.1), .int .u64 ((gt p_l s2.2).2.2.2.2.1), .bool ((gt p_l s2.2).2.2.2.2.2.1), .int .u32 ((gt p_l s2.2).2.2.2.2.2.2)]] := hd 9 20 (by kernel_rfl) (by kernel_rfl)
          replace hf : Fr 52 [(20, .pointer (some ⟨pb6, po6 + 1, none⟩)), (0, .slice ao1 p_l.length cp1), (3, .slice ao3 s2.1.length cp3), (4, .int .i64 s2.2), (8, .bool (decide (s2.2 < ((p_l.length : Nat) : Int))))] a := ⟨e_20, hf⟩; clear e_20
          clear hd
          have hs : Sep wf (star F2 w1 wf) noR wf (star F2 w1 wf) [.ro ty57 (.slice ao1 p_l.length cp1) p_l] := hs0.fstart hX [1] rfl rfl
          replace hs : Sep wf (star F2 w1 wf) noR wf (star F2 w1 wf) [.cel pb6 po6 [.int .u64 ((gt p_l s2.2).1), .int .i64 ((gt p_l s2.2).2.1), .bool ((gt p_l s2.2).2.2.1), strV ((gt p_l s2.2).2.2.2.1), .int .u64 ((gt p_l s2.2).2.2.2.2.1), .bool ((gt p_l s2.2).2.2.2.2.2.1), .int .u32 ((gt p_l s2.2).2.2.2.2.2.2)], .ro ty57 (.slice ao1 p_l.length cp1) p_l] := hs.addStar h_20 0 rfl rfl
          clear h_20
          refine ldC tbOk (T := 3) (hs.ccel 0 rfl) (LeH.refl _) 1 (.int .i64 ((gt p_l s2.2).2.1)) hf (by kernel_rfl) (by kernel_rfl) (by kernel_rfl) (by kernel_rfl) ?_
          clear hf; clear a; intro a hf
          exact fq_ok (d := 21) rfl hf (hs.ex fun _ h => h) hf.1
        · intro a wf hX hf hd
          clear hd
          have hs : Sep wf (star F2 w1 wf) noR wf (star F2 w1 wf) [.ro ty57 (.slice ao1 p_l.length cp1) p_l] := hs0.fstart hX [1] rfl rfl
          refine st tbOk 1 [22] (L' := [(22, .slice ao1 p_l.length cp1)]) hf (by kernel_rfl) ?_
          clear hf; clear a; intro a hf
          exact fq_ok (d := 22) rfl hf (hs.ex fun _ h => h) hf.1
        · intro a wf hX hf hd
          clear hd
          have hs : Sep wf (star F2 w1 wf) noR wf (star F2 w1 wf) [.ro ty57 (.slice ao1 p_l.length cp1) p_l] := hs0.fstart hX [1] rfl rfl
          refine st tbOk 1 [23] (L' := [(23, .int .i64 s2.2)]) hf (by kernel_rfl) ?_
          clear hf; clear a; intro a hf
          exact fq_ok (d := 23) rfl hf (hs.ex fun _ h => h) hf.1
        · intro a wf hX hf hd
          have e_22 : a.tmps.getD 22 undef = .slice ao1 p_l.length cp1 := hd 11 22 (by kernel_rfl) (by kernel_rfl)
          have e_23 : a.tmps.getD 23 undef = .int .i64 s2.2 := hd 12 23 (by kernel_rfl) (by kernel_rfl)
          replace hf : Fr 52 [(22, .slice ao1 p_l.length cp1), (23, .int .i64 s2.2), (0, .slice ao1 p_l.length cp1), (3, .slice ao3 s2.1.length cp3), (4, .int .i64 s2.2), (8, .bool (decide (s2.2 < ((p_l.length : Nat) : Int))))] a := ⟨e_22, e_23, hf⟩; clear e_22 e_23
          clear hd
          have hs : Sep wf (star F2 w1 wf) noR wf (star F2 w1 wf) [.ro ty57 (.slice ao1 p_l.length cp1) p_l] := hs0.fstart hX [1] rfl rfl
          refine ixR tbOk u36 i58 rfl rfl ((hs.ro 0 rfl).ra (LeH.refl _)) (k := .i64) (n := s2.2) hc3 hf (by kernel_rfl) (by kernel_rfl) (by kernel_rfl) (by kernel_rfl) ?_
          clear hf; clear a; intro pb7 po7 c3 a hp3 hr3 hf
          obtain rfl : c3 = [.int .u64 ((gt p_l s2.2).1), .int .i64 ((gt p_l s2.2).2.1), .bool ((gt p_l s2.2).2.2.1), strV ((gt p_l s2.2).2.2.2.1), .int .u64 ((gt p_l s2.2).2.2.2.2.1), .bool ((gt p_l s2.2).2.2.2.2.2.1), .int .u32 ((gt p_l s2.2).2.2.2.2.2.2)] := hr3
          replace hs : Sep wf (star F2 w1 wf) noR wf (star F2 w1 wf) [.cel pb7 po7 [.int .u64 ((gt p_l s2.2).1), .int .i64 ((gt p_l s2.2).2.1), .bool ((gt p_l s2.2).2.2.1), strV ((gt p_l s2.2).2.2.2.1), .int .u64 ((gt p_l s2.2).2.2.2.2.1), .bool ((gt p_l s2.2).2.2.2.2.2.1), .int .u32 ((gt p_l s2.2).2.2.2.2.2.2)], .ro ty57 (.slice ao1 p_l.length cp1) p_l] := hs.addCel hp3
          exact fq_ok (d := 24) rfl hf (hs.ex fun _ h => h) ⟨pb7, po7, _, hf.1, (hs.sel [0] rfl rfl).rebase hX⟩
        · intro a wf hX hf hd
          obtain ⟨pb8, po8, F_24, e_24, h_24⟩ : ∃ (pb8 : Nat) (po8 : Nat) (F' : SH), a.tmps.getD 24 undef = .pointer (some ⟨pb8, po8, none⟩) ∧ Sep w1 F2 noR wf F' [.cel pb8 po8 [.int .u64 ((gt p_l s2.2).1), .int .i64 ((gt p_l s2.2).2.1), .bool ((gt p_l s2.2).2.2.1), strV ((gt p_l s2.2).2.2.2.1), .int .u64 ((gt p_l s2.2).2.2.2.2.1), .bool ((gt p_l s2.2).2.2.2.2.2.1), .int .u32 ((gt p_l s2.2).2.2.2.2.2.2)]] := hd 13 24 (by kernel_rfl) (by kernel_rfl)
          replace hf : Fr 52 [(24, .pointer (some ⟨pb8, po8, none⟩)), (0, .slice ao1 p_l.length cp1), (3, .slice ao3 s2.1.length cp3), (4, .int .i64 s2.2), (8, .bool (decide (s2.2 < ((p_l.length : Nat) : Int))))] a := ⟨e_24, hf⟩; clear e_24
          clear hd
          have hs : Sep wf (star F2 w1 wf) noR wf (star F2 w1 wf) [.ro ty57 (.slice ao1 p_l.length cp1) p_l] := hs0.fstart hX [1] rfl rfl
          replace hs : Sep wf (star F2 w1 wf) noR wf (star F2 w1 wf) [.cel pb8 po8 [.int .u64 ((gt p_l s2.2).1), .int .i64 ((gt p_l s2.2).2.1), .bool ((gt p_l s2.2).2.2.1), strV ((gt p_l s2.2).2.2.2.1), .int .u64 ((gt p_l s2.2).2.2.2.2.1), .bool ((gt p_l s2.2).2.2.2.2.2.1), .int .u32 ((gt p_l s2.2).2.2.2.2.2.2)], .ro ty57 (.slice ao1 p_l.length cp1) p_l] := hs.addStar h_24 0 rfl rfl
          clear h_24
          refine st tbOk 1 [25] (L' := [(25, .pointer (some ⟨pb8, po8 + 2, none⟩))]) hf (by kernel_rfl) ?_
          clear hf; clear a; intro a hf
          exact fq_ok (d := 25) rfl hf (hs.ex fun _ h => h) ⟨pb8, po8, _, hf.1, (hs.sel [0] rfl rfl).rebase hX⟩
        · intro a wf hX hf hd
          obtain ⟨pb9, po9, F_25, e_25, h_25⟩ : ∃ (pb9 : Nat) (po9 : Nat) (F' : SH), a.tmps.getD 25 undef = .pointer (some ⟨pb9, po9 + 2, none⟩) ∧ Sep w1 F2 noR wf F' [.cel pb9 po9 [.int .u64 ((gt p_l s2.2).1), .int .i64 ((gt p_l s2.2).2.1), .bool ((gt p_l s2.2).2.2.1), strV ((gt p_l s2.2).2.2.2.1), .int .u64 ((gt p_l s2.2).2.2.2.2.1), .bool ((gt p_l s2.2).2.2.2.2.2.1), .int .u32 ((gt p_l s2.2).2.2.2.2.2.2)]] := hd 14 25 (by kernel_rfl) (by kernel_rfl)
          replace hf : Fr 52 [(25, .pointer (some ⟨pb9, po9 + 2, none⟩)), (0, .slice ao1 p_l.length cp1), (3, .slice ao3 s2.1.length cp3), (4, .int .i64 s2.2), (8, .bool (decide (s2.2 < ((p_l.length : Nat) : Int))))] a := ⟨e_25, hf⟩; clear e_25
          clear hd
          have hs : Sep wf (star F2 w1 wf) noR wf (star F2 w1 wf) [.ro ty57 (.slice ao1 p_l.length cp1) p_l] := hs0.fstart hX [1] rfl rfl
          replace hs : Sep wf (star F2 w1 wf) noR wf (star F2 w1 wf) [.cel pb9 po9 [.int .u64 ((gt p_l s2.2).1), .int .i64 ((gt p_l s2.2).2.1), .bool ((gt p_l s2.2).2.2.1), strV ((gt p_l s2.2).2.2.2.1), .int .u64 ((gt p_l s2.2).2.2.2.2.1), .bool ((gt p_l s2.2).2.2.2.2.2.1), .int .u32 ((gt p_l s2.2).2.2.2.2.2.2)], .ro ty57 (.slice ao1 p_l.length cp1) p_l] := hs.addStar h_25 0 rfl rfl
          clear h_25
          refine ldC tbOk (T := 4) (hs.ccel 0 rfl) (LeH.refl _) 2 (.bool ((gt p_l s2.2).2.2.1)) hf (by kernel_rfl) (by kernel_rfl) (by kernel_rfl) (by kernel_rfl) ?_
          clear hf; clear a; intro a hf
          exact fq_ok (d := 26) rfl hf (hs.ex fun _ h => h) hf.1
        · intro a wf hX hf hd
          clear hd
          have hs : Sep wf (star F2 w1 wf) noR wf (star F2 w1 wf) [.ro ty57 (.slice ao1 p_l.length cp1) p_l] := hs0.fstart hX [1] rfl rfl
          refine st tbOk 1 [27] (L' := [(27, .slice ao1 p_l.length cp1)]) hf (by kernel_rfl) ?_
          clear hf; clear a; intro a hf
          exact fq_ok (d := 27) rfl hf (hs.ex fun _ h => h) hf.1
        · intro a wf hX hf hd
          clear hd
          have hs : Sep wf (star F2 w1 wf) noR wf (star F2 w1 wf) [.ro ty57 (.slice ao1 p_l.length cp1) p_l] := hs0.fstart hX [1] rfl rfl
          refine st tbOk 1 [28] (L' := [(28, .int .i64 s2.2)]) hf (by kernel_rfl) ?_
          clear hf; clear a; intro a hf
          exact fq_ok (d := 28) rfl hf (hs.ex fun _ h => h) hf.1
        · intro a wf hX hf hd
          have e_27 : a.tmps.getD 27 undef = .slice ao1 p_l.length cp1 := hd 16 27 (by kernel_rfl) (by kernel_rfl)
          have e_28 : a.tmps.getD 28 undef = .int .i64 s2.2 := hd 17 28 (by kernel_rfl) (by kernel_rfl)
          replace hf : Fr 52 [(27, .slice ao1 p_l.length cp1), (28, .int .i64 s2.2), (0, .slice ao1 p_l.length cp1), (3, .slice ao3 s2.1.length cp3), (4, .int .i64 s2.2), (8, .bool (decide (s2.2 < ((p_l.length : Nat) : Int))))] a := ⟨e_27, e_28, hf⟩; clear e_27 e_28
          clear hd
          have hs : Sep wf (star F2 w1 wf) noR wf (star F2 w1 wf) [.ro ty57 (.slice ao1 p_l.length cp1) p_l] := hs0.fstart hX [1] rfl rfl
          refine ixR tbOk u36 i58 rfl rfl ((hs.ro 0 rfl).ra (LeH.refl _)) (k := .i64) (n := s2.2) hc4 hf (by kernel_rfl) (by kernel_rfl) (by kernel_rfl) (by kernel_rfl) ?_
          clear hf; clear a; intro pb10 po10 c4 a hp4 hr4 hf
          obtain rfl : c4 = [.int .u64 ((gt p_l s2.2).1), .int .i64 ((gt p_l s2.2).2.1), .bool ((gt p_l s2.2).2.2.1), strV ((gt p_l s2.2).2.2.2.1), .int .u64 ((gt p_l s2.2).2.2.2.2.1), .bool ((gt p_l s2.2).2.2.2.2.2.1), .int .u32 ((gt p_l s2.2).2.2.2.2.2.2)] := hr4
          replace hs : Sep wf (star F2 w1 wf) noR wf (star F2 w1 wf) [.cel pb10 po10 [.int .u64 ((gt p_l s2.2).1), .int .i64 ((gt p_l s2.2).2.1), .bool ((gt p_l s2.2).2.2.1), strV ((gt p_l s2.2).2.2.2.1), .int .u64 ((gt p_l s2.2).2.2.2.2.1), .bool ((gt p_l s2.2).2.2.2.2.2.1), .int .u32 ((gt p_l s2.2).2.2.2.2.2.2)], .ro ty57 (.slice ao1 p_l.length cp1) p_l] := hs.addCel hp4
          exact fq_ok (d := 29) rfl hf (hs.ex fun _ h => h) ⟨pb10, po10, _, hf.1, (hs.sel [0] rfl rfl).rebase hX⟩
        · intro a wf hX hf hd
          obtain ⟨pb11, po11, F_29, e_29, h_29⟩ : ∃ (pb11 : Nat) (po11 : Nat) (F' : SH), a.tmps.getD 29 undef = .pointer (some ⟨pb11, po11, none⟩) ∧ Sep w1 F2 noR wf F' [.cel pb11 po11 [.int .u64 ((gt p_l s2.2).1), .int .i64 ((gt p_l s2.2).2.1), .bool ((gt p_l s2.2).2.2.1), strV ((gt p_l s2.2).2.2.2.1), .int .u64 ((gt p_l s2.2).2.2.2.2.1), .bool ((gt p_l s2.2).2.2.2.2.2.1), .int .u32 ((gt p_l s2.2).2.2.2.2.2.2)]] := hd 18 29 (by kernel_rfl) (by kernel_rfl)
          replace hf : Fr 52 [(29, .pointer (some ⟨pb11, po11, none⟩)), (0, .slice ao1 p_l.length cp1), (3, .slice ao3 s2.1.length cp3), (4, .int .i64 s2.2), (8, .bool (decide (s2.2 < ((p_l.length : Nat) : Int))))] a := ⟨e_29, hf⟩; clear e_29
          clear hd
          have hs : Sep wf (star F2 w1 wf) noR wf (star F2 w1 wf) [.ro ty57 (.slice ao1 p_l.length cp1) p_l] := hs0.fstart hX [1] rfl rfl
          replace hs : Sep wf (star F2 w1 wf) noR wf (star F2 w1 wf) [.cel pb11 po11 [.int .u64 ((gt p_l s2.2).1), .int .i64 ((gt p_l s2.2).2.1), .bool ((gt p_l s2.2).2.2.1), strV ((gt p_l s2.2).2.2.2.1), .int .u64 ((gt p_l s2.2).2.2.2.2.1), .bool ((gt p_l s2.2).2.2.2.2.2.1), .int .u32 ((gt p_l s2.2).2.2.2.2.2.2)], .ro ty57 (.slice ao1 p_l.length cp1) p_l] := hs.addStar h_29 0 rfl rfl
          clear h_29
          refine st tbOk 1 [30] (L' := [(30, .pointer (some ⟨pb11, po11 + 3, none⟩))]) hf (by kernel_rfl) ?_
          clear hf; clear a; intro a hf
          exact fq_ok (d := 30) rfl hf (hs.ex fun _ h => h) ⟨pb11, po11, _, hf.1, (hs.sel [0] rfl rfl).rebase hX⟩
        · intro a wf hX hf hd
          obtain ⟨pb12, po12, F_30, e_30, h_30⟩ : ∃ (pb12 : Nat) (po12 : Nat) (F' : SH), a.tmps.getD 30 undef = .pointer (some ⟨pb12, po12 + 3, none⟩) ∧ Sep w1 F2 noR wf F' [.cel pb12 po12 [.int .u64 ((gt p_l s2.2).1), .int .i64 ((gt p_l s2.2).2.1), .bool ((gt p_l s2.2).2.2.1), strV ((gt p_l s2.2).2.2.2.1), .int .u64 ((gt p_l s2.2).2.2.2.2.1), .bool ((gt p_l s2.2).2.2.2.2.2.1), .int .u32 ((gt p_l s2.2).2.2.2.2.2.2)]] := hd 19 30 (by kernel_rfl) (by kernel_rfl)
          replace hf : Fr 52 [(30, .pointer (some ⟨pb12, po12 + 3, none⟩)), (0, .slice ao1 p_l.length cp1), (3, .slice ao3 s2.1.length cp3), (4, .int .i64 s2.2), (8, .bool (decide (s2.2 < ((p_l.length : Nat) : Int))))] a := ⟨e_30, hf⟩; clear e_30
          clear hd
          have hs : Sep wf (star F2 w1 wf) noR wf (star F2 w1 wf) [.ro ty57 (.slice ao1 p_l.length cp1) p_l] := hs0.fstart hX [1] rfl rfl
          replace hs : Sep wf (star F2 w1 wf) noR wf (star F2 w1 wf) [.cel pb12 po12 [.int .u64 ((gt p_l s2.2).1), .int .i64 ((gt p_l s2.2).2.1), .bool ((gt p_l s2.2).2.2.1), strV ((gt p_l s2.2).2.2.2.1), .int .u64 ((gt p_l s2.2).2.2.2.2.1), .bool ((gt p_l s2.2).2.2.2.2.2.1), .int .u32 ((gt p_l s2.2).2.2.2.2.2.2)], .ro ty57 (.slice ao1 p_l.length cp1) p_l] := hs.addStar h_30 0 rfl rfl
          clear h_30
          refine ldC tbOk (T := 9) (hs.ccel 0 rfl) (LeH.refl _) 3 (strV ((gt p_l s2.2).2.2.2.1)) hf (by kernel_rfl) (by kernel_rfl) (by kernel_rfl) (by kernel_rfl) ?_
          clear hf; clear a; intro a hf
          exact fq_ok (d := 31) rfl hf (hs.ex fun _ h => h) hf.1
        · intro a wf hX hf hd
          clear hd
          have hs : Sep wf (star F2 w1 wf) noR wf (star F2 w1 wf) [.ro ty57 (.slice ao1 p_l.length cp1) p_l] := hs0.fstart hX [1] rfl rfl
          refine st tbOk 1 [32] (L' := [(32, .slice ao1 p_l.length cp1)]) hf (by kernel_rfl) ?_
          clear hf; clear a; intro a hf
          exact fq_ok (d := 32) rfl hf (hs.ex fun _ h => h) hf.1
        · intro a wf hX hf hd
          clear hd
          have hs : Sep wf (star F2 w1 wf) noR wf (star F2 w1 wf) [.ro ty57 (.slice ao1 p_l.length cp1) p_l] := hs0.fstart hX [1] rfl rfl
          refine st tbOk 1 [33] (L' := [(33, .int .i64 s2.2)]) hf (by kernel_rfl) ?_
          clear hf; clear a; intro a hf
          exact fq_ok (d := 33) rfl hf (hs.ex fun _ h => h) hf.1
        · intro a wf hX hf hd
          have e_32 : a.tmps.getD 32 undef = .slice ao1 p_l.length cp1 := hd 21 32 (by kernel_rfl) (by kernel_rfl)
          have e_33 : a.tmps.getD 33 undef = .int .i64 s2.2 := hd 22 33 (by kernel_rfl) (by kernel_rfl)
          replace hf : Fr 52 [(32, .slice ao1 p_l.length cp1), (33, .int .i64 s2.2), (0, .slice ao1 p_l.length cp1), (3, .slice ao3 s2.1.length cp3), (4, .int .i64 s2.2), (8, .bool (decide (s2.2 < ((p_l.length : Nat) : Int))))] a := ⟨e_32, e_33, hf⟩; clear e_32 e_33
          clear hd
          have hs : Sep wf (star F2 w1 wf) noR wf (star F2 w1 wf) [.ro ty57 (.slice ao1 p_l.length cp1) p_l] := hs0.fstart hX [1] rfl rfl
          refine ixR tbOk u36 i58 rfl rfl ((hs.ro 0 rfl).ra (LeH.refl _)) (k := .i64) (n := s2.2) hc5 hf (by kernel_rfl) (by kernel_rfl) (by kernel_rfl) (by kernel_rfl) ?_
          clear hf; clear a; intro pb13 po13 c5 a hp5 hr5 hf
          obtain rfl : c5 = [.int .u64 ((gt p_l s2.2).1), .int .i64 ((gt p_l s2.2).2.1), .bool ((gt p_l s2.2).2.2.1), strV ((gt p_l s2.2).2.2.2.1), .int .u64 ((gt p_l s2.2).2.2.2.2.1), .bool ((gt p_l s2.2).2.2.2.2.2.1), .int .u32 ((gt p_l s2.2).2.2.2.2.2.2)] := hr5
          replace hs : Sep wf (star F2 w1 wf) noR wf (star F2 w1 wf) [.cel pb13 po13 [.int .u64 ((gt p_l s2.2).1), .int .i64 ((gt p_l s2.2).2.1), .bool ((gt p_l s2.2).2.2.1), strV ((gt p_l s2.2).2.2.2.1), .int .u64 ((gt p_l s2.2).2.2.2.2.1), .bool ((gt p_l s2.2).2.2.2.2.2.1), .int .u32 ((gt p_l s2.2).2.2.2.2.2.2)], .ro ty57 (.slice ao1 p_l.length cp1) p_l] := hs.addCel hp5
          exact fq_ok (d := 34) rfl hf (hs.ex fun _ h => h) ⟨pb13, po13, _, hf.1, (hs.sel [0] rfl rfl).rebase hX⟩
        · intro a wf hX hf hd
          obtain ⟨pb14, po14, F_34, e_34, h_34⟩ : ∃ (pb14 : Nat) (po14 : Nat) (F' : SH), a.tmps.getD 34 undef = .pointer (some ⟨pb14, po14, none⟩) ∧ Sep w1 F2 noR wf F' [.cel pb14 po14 [.int .u64 ((gt p_l s2.2).1), .int .i64 ((gt p_l s2.2).2.1), .bool ((gt p_l s2.2).2.2.1), strV ((gt p_l s2.2).2.2.2.1), .int .u64 ((gt p_l s2.2).2.2.2.2.1), .bool ((gt p_l s2.2).2.2.2.2.2.1), .int .u32 ((gt p_l s2.2).2.2.2.2.2.2)]] := hd 23 34 (by kernel_rfl) (by kernel_rfl)
          replace hf : Fr 52 [(34, .pointer (some ⟨pb14, po14, none⟩)), (0, .slice ao1 p_l.length cp1), (3, .slice ao3 s2.1.length cp3), (4, .int .i64 s2.2), (8, .bool (decide (s2.2 < ((p_l.length : Nat) : Int))))] a := ⟨e_34, hf⟩; clear e_34
          clear hd
          have hs : Sep wf (star F2 w1 wf) noR wf (star F2 w1 wf) [.ro ty57 (.slice ao1 p_l.length cp1) p_l] := hs0.fstart hX [1] rfl rfl
          replace hs : Sep wf (star F2 w1 wf) noR wf (star F2 w1 wf) [.cel pb14 po14 [.int .u64 ((gt p_l s2.2).1), .int .i64 ((gt p_l s2.2).2.1), .bool ((gt p_l s2.2).2.2.1), strV ((gt p_l s2.2).2.2.2.1), .int .u64 ((gt p_l s2.2).2.2.2.2.1), .bool ((gt p_l s2.2).2.2.2.2.2.1), .int .u32 ((gt p_l s2.2).2.2.2.2.2.2)], .ro ty57 (.slice ao1 p_l.length cp1) p_l] := hs.addStar h_34 0 rfl rfl
          clear h_34
          refine st tbOk 1 [35] (L' := [(35, .pointer (some ⟨pb14, po14 + 4, none⟩))]) hf (by kernel_rfl) ?_
          clear hf; clear a; intro a hf
          exact fq_ok (d := 35) rfl hf (hs.ex fun _ h => h) ⟨pb14, po14, _, hf.1, (hs.sel [0] rfl rfl).rebase hX⟩
        · intro a wf hX hf hd
          obtain ⟨pb15, po15, F_35, e_35, h_35⟩ : ∃ (pb15 : Nat) (po15 : Nat) (F' : SH), a.tmps.getD 35 undef = .pointer (some ⟨pb15, po15 + 4, none⟩) ∧ Sep w1 F2 noR wf F' [.cel pb15 po15 [.int .u64 ((gt p_l s2.2).1), .int .i64 ((gt p_l s2.2).2.1), .bool ((gt p_l s2.2).2.2.1), strV ((gt p_l s2.2).2.2.2.1), .int .u64 ((gt p_l s2.2).2.2.2.2.1), .bool ((gt p_l s2.2).2.2.2.2.2.1), .int .u32 ((gt p_l s2.2).2.2.2.2.2.2)]] := hd 24 35 (by kernel_rfl) (by kernel_rfl)
          replace hf : Fr 52 [(35, .pointer (some ⟨pb15, po15 + 4, none⟩)), (0, .slice ao1 p_l.length cp1), (3, .slice ao3 s2.1.length cp3), (4, .int .i64 s2.2), (8, .bool (decide (s2.2 < ((p_l.length : Nat) : Int))))] a := ⟨e_35, hf⟩; clear e_35
          clear hd
          have hs : Sep wf (star F2 w1 wf) noR wf (star F2 w1 wf) [.ro ty57 (.slice ao1 p_l.length cp1) p_l] := hs0.fstart hX [1] rfl rfl
          replace hs : Sep wf (star F2 w1 wf) noR wf (star F2 w1 wf) [.cel pb15 po15 [.int .u64 ((gt p_l s2.2).1), .int .i64 ((gt p_l s2.2).2.1), .bool ((gt p_l s2.2).2.2.1), strV ((gt p_l s2.2).2.2.2.1), .int .u64 ((gt p_l s2.2).2.2.2.2.1), .bool ((gt p_l s2.2).2.2.2.2.2.1), .int .u32 ((gt p_l s2.2).2.2.2.2.2.2)], .ro ty57 (.slice ao1 p_l.length cp1) p_l] := hs.addStar h_35 0 rfl rfl
          clear h_35
          refine ldC tbOk (T := 23) (hs.ccel 0 rfl) (LeH.refl _) 4 (.int .u64 ((gt p_l s2.2).2.2.2.2.1)) hf (by kernel_rfl) (by kernel_rfl) (by kernel_rfl) (by kernel_rfl) ?_
          clear hf; clear a; intro a hf
          exact fq_ok (d := 36) rfl hf (hs.ex fun _ h => h) hf.1
        · intro a wf hX hf hd
          have e_16 : a.tmps.getD 16 undef = .int .u64 ((gt p_l s2.2).1) := hd 5 16 (by kernel_rfl) (by kernel_rfl)
          have e_21 : a.tmps.getD 21 undef = .int .i64 ((gt p_l s2.2).2.1) := hd 10 21 (by kernel_rfl) (by kernel_rfl)
          have e_26 : a.tmps.getD 26 undef = .bool ((gt p_l s2.2).2.2.1) := hd 15 26 (by kernel_rfl) (by kernel_rfl)
          have e_31 : a.tmps.getD 31 undef = strV ((gt p_l s2.2).2.2.2.1) := hd 20 31 (by kernel_rfl) (by kernel_rfl)
          have e_36 : a.tmps.getD 36 undef = .int .u64 ((gt p_l s2.2).2.2.2.2.1) := hd 25 36 (by kernel_rfl) (by kernel_rfl)
          replace hf : Fr 52 [(16, .int .u64 ((gt p_l s2.2).1)), (21, .int .i64 ((gt p_l s2.2).2.1)), (26, .bool ((gt p_l s2.2).2.2.1)), (31, strV ((gt p_l s2.2).2.2.2.1)), (36, .int .u64 ((gt p_l s2.2).2.2.2.2.1)), (0, .slice ao1 p_l.length cp1), (3, .slice ao3 s2.1.length cp3), (4, .int .i64 s2.2), (8, .bool (decide (s2.2 < ((p_l.length : Nat) : Int))))] a := ⟨e_16, e_21, e_26, e_31, e_36, hf⟩; clear e_16 e_21 e_26 e_31 e_36
          clear hd
          have hs : Sep wf (star F2 w1 wf) noR wf (star F2 w1 wf) [.ro ty57 (.slice ao1 p_l.length cp1) p_l] := hs0.fstart hX [1] rfl rfl
          refine st tbOk 1 [37] (L' := [(37, .agg #[.int .u64 ((gt p_l s2.2).1), .int .i64 ((gt p_l s2.2).2.1), .bool ((gt p_l s2.2).2.2.1), strV ((gt p_l s2.2).2.2.2.1), .int .u64 ((gt p_l s2.2).2.2.2.2.1), strV []])]) hf (by kernel_rfl) ?_
          clear hf; clear a; intro a hf
          exact fq_ok (d := 37) rfl hf (hs.ex fun _ h => h) hf.1
        · intro a wf hX hf hd
          clear hd
          have hs : Sep wf (star F2 w1 wf) noR wf (star F2 w1 wf) [.ro ty57 (.slice ao1 p_l.length cp1) p_l] := hs0.fstart hX [1] rfl rfl
          refine st tbOk 1 [38] (L' := [(38, .slice ao1 p_l.length cp1)]) hf (by kernel_rfl) ?_
          clear hf; clear a; intro a hf
          exact fq_ok (d := 38) rfl hf (hs.ex fun _ h => h) hf.1
        · intro a wf hX hf hd
          clear hd
          have hs : Sep wf (star F2 w1 wf) noR wf (star F2 w1 wf) [.ro ty57 (.slice ao1 p_l.length cp1) p_l] := hs0.fstart hX [1] rfl rfl
          refine st tbOk 1 [39] (L' := [(39, .int .i64 s2.2)]) hf (by kernel_rfl) ?_
          clear hf; clear a; intro a hf
          exact fq_ok (d := 39) rfl hf (hs.ex fun _ h => h) hf.1
        · intro a wf hX hf hd
          have e_38 : a.tmps.getD 38 undef = .slice ao1 p_l.length cp1 := hd 27 38 (by kernel_rfl) (by kernel_rfl)
          have e_39 : a.tmps.getD 39 undef = .int .i64 s2.2 := hd 28 39 (by kernel_rfl) (by kernel_rfl)
          replace hf : Fr 52 [(38, .slice ao1 p_l.length cp1), (39, .int .i64 s2.2), (0, .slice ao1 p_l.length cp1), (3, .slice ao3 s2.1.length cp3), (4, .int .i64 s2.2), (8, .bool (decide (s2.2 < ((p_l.length : Nat) : Int))))] a := ⟨e_38, e_39, hf⟩; clear e_38 e_39
          clear hd
          have hs : Sep wf (star F2 w1 wf) noR wf (star F2 w1 wf) [.ro ty57 (.slice ao1 p_l.length cp1) p_l] := hs0.fstart hX [1] rfl rfl
          refine ixR tbOk u36 i58 rfl rfl ((hs.ro 0 rfl).ra (LeH.refl _)) (k := .i64) (n := s2.2) hc6 hf (by kernel_rfl) (by kernel_rfl) (by kernel_rfl) (by kernel_rfl) ?_
          clear hf; clear a; intro pb16 po16 c6 a hp6 hr6 hf
          obtain rfl : c6 = [.int .u64 ((gt p_l s2.2).1), .int .i64 ((gt p_l s2.2).2.1), .bool ((gt p_l s2.2).2.2.1), strV ((gt p_l s2.2).2.2.2.1), .int .u64 ((gt p_l s2.2).2.2.2.2.1), .bool ((gt p_l s2.2).2.2.2.2.2.1), .int .u32 ((gt p_l s2.2).2.2.2.2.2.2)] := hr6
          replace hs : Sep wf (star F2 w1 wf) noR wf (star F2 w1 wf) [.cel pb16 po16 [.int .u64 ((gt p_l s2.2).1), .int .i64 ((gt p_l s2.2).2.1), .bool ((gt p_l s2.2).2.2.1), strV ((gt p_l s2.2).2.2.2.1), .int .u64 ((gt p_l s2.2).2.2.2.2.1), .bool ((gt p_l s2.2).2.2.2.2.2.1), .int .u32 ((gt p_l s2.2).2.2.2.2.2.2)], .ro ty57 (.slice ao1 p_l.length cp1) p_l] := hs.addCel hp6
          exact fq_ok (d := 40) rfl hf (hs.ex fun _ h => h) ⟨pb16, po16, _, hf.1, (hs.sel [0] rfl rfl).rebase hX⟩
        · intro a wf hX hf hd
          obtain ⟨pb17, po17, F_40, e_40, h_40⟩ : ∃ (pb17 : Nat) (po17 : Nat) (F' : SH), a.tmps.getD 40 undef = .pointer (some ⟨pb17, po17, none⟩) ∧ Sep w1 F2 noR wf F' [.cel pb17 po17 [.int .u64 ((gt p_l s2.2).1), .int .i64 ((gt p_l s2.2).2.1), .bool ((gt p_l s2.2).2.2.1), strV ((gt p_l s2.2).2.2.2.1), .int .u64 ((gt p_l s2.2).2.2.2.2.1), .bool ((gt p_l s2.2).2.2.2.2.2.1), .int .u32 ((gt p_l s2.2).2.2.2.2.2.2)]] := hd 29 40 (by kernel_rfl) (by kernel_rfl)
          replace hf : Fr 52 [(40, .pointer (some ⟨pb17, po17, none⟩)), (0, .slice ao1 p_l.length cp1), (3, .slice ao3 s2.1.length cp3), (4, .int .i64 s2.2), (8, .bool (decide (s2.2 < ((p_l.length : Nat) : Int))))] a := ⟨e_40, hf⟩; clear e_40
          clear hd
          have hs : Sep wf (star F2 w1 wf) noR wf (star F2 w1 wf) [.ro ty57 (.slice ao1 p_l.length cp1) p_l] := hs0.fstart hX [1] rfl rfl
          replace hs : Sep wf (star F2 w1 wf) noR wf (star F2 w1 wf) [.cel pb17 po17 [.int .u64 ((gt p_l s2.2).1), .int .i64 ((gt p_l s2.2).2.1), .bool ((gt p_l s2.2).2.2.1), strV ((gt p_l s2.2).2.2.2.1), .int .u64 ((gt p_l s2.2).2.2.2.2.1), .bool ((gt p_l s2.2).2.2.2.2.2.1), .int .u32 ((gt p_l s2.2).2.2.2.2.2.2)], .ro ty57 (.slice ao1 p_l.length cp1) p_l] := hs.addStar h_40 0 rfl rfl
          clear h_40
          refine st tbOk 1 [41] (L' := [(41, .pointer (some ⟨pb17, po17 + 5, none⟩))]) hf (by kernel_rfl) ?_
          clear hf; clear a; intro a hf
          exact fq_ok (d := 41) rfl hf (hs.ex fun _ h => h) ⟨pb17, po17, _, hf.1, (hs.sel [0] rfl rfl).rebase hX⟩
        · intro a wf hX hf hd
          obtain ⟨pb18, po18, F_41, e_41, h_41⟩ : ∃ (pb18 : Nat) (po18 : Nat) (F' : SH), a.tmps.getD 41 undef = .pointer (some ⟨pb18, po18 + 5, none⟩) ∧ Sep w1 F2 noR wf F' [.cel pb18 po18 [.int .u64 ((gt p_l s2.2).1), .int .i64 ((gt p_l s2.2).2.1), .bool ((gt p_l s2.2).2.2.1), strV ((gt p_l s2.2).2.2.2.1), .int .u64 ((gt p_l s2.2).2.2.2.2.1), .bool ((gt p_l s2.2).2.2.2.2.2.1), .int .u32 ((gt p_l s2.2).2.2.2.2.2.2)]] := hd 30 41 (by kernel_rfl) (by kernel_rfl)
          replace hf : Fr 52 [(41, .pointer (some ⟨pb18, po18 + 5, none⟩)), (0, .slice ao1 p_l.length cp1), (3, .slice ao3 s2.1.length cp3), (4, .int .i64 s2.2), (8, .bool (decide (s2.2 < ((p_l.length : Nat) : Int))))] a := ⟨e_41, hf⟩; clear e_41
          clear hd
          have hs : Sep wf (star F2 w1 wf) noR wf (star F2 w1 wf) [.ro ty57 (.slice ao1 p_l.length cp1) p_l] := hs0.fstart hX [1] rfl rfl
          replace hs : Sep wf (star F2 w1 wf) noR wf (star F2 w1 wf) [.cel pb18 po18 [.int .u64 ((gt p_l s2.2).1), .int .i64 ((gt p_l s2.2).2.1), .bool ((gt p_l s2.2).2.2.1), strV ((gt p_l s2.2).2.2.2.1), .int .u64 ((gt p_l s2.2).2.2.2.2.1), .bool ((gt p_l s2.2).2.2.2.2.2.1), .int .u32 ((gt p_l s2.2).2.2.2.2.2.2)], .ro ty57 (.slice ao1 p_l.length cp1) p_l] := hs.addStar h_41 0 rfl rfl
          clear h_41
          refine ldC tbOk (T := 4) (hs.ccel 0 rfl) (LeH.refl _) 5 (.bool ((gt p_l s2.2).2.2.2.2.2.1)) hf (by kernel_rfl) (by kernel_rfl) (by kernel_rfl) (by kernel_rfl) ?_
          clear hf; clear a; intro a hf
          exact fq_ok (d := 42) rfl hf (hs.ex fun _ h => h) hf.1
        · intro a wf hX hf hd
          clear hd
          have hs : Sep wf (star F2 w1 wf) noR wf (star F2 w1 wf) [.ro ty57 (.slice ao1 p_l.length cp1) p_l] := hs0.fstart hX [1] rfl rfl
          refine st tbOk 1 [43] (L' := [(43, .slice ao1 p_l.length cp1)]) hf (by kernel_rfl) ?_
          clear hf; clear a; intro a hf
          exact fq_ok (d := 43) rfl hf (hs.ex fun _ h => h) hf.1
        · intro a wf hX hf hd
          clear hd
          have hs : Sep wf (star F2 w1 wf) noR wf (star F2 w1 wf) [.ro ty57 (.slice ao1 p_l.length cp1) p_l] := hs0.fstart hX [1] rfl rfl
          refine st tbOk 1 [44] (L' := [(44, .int .i64 s2.2)]) hf (by kernel_rfl) ?_
          clear hf; clear a; intro a hf
          exact fq_ok (d := 44) rfl hf (hs.ex fun _ h => h) hf.1
        · intro a wf hX hf hd
          have e_43 : a.tmps.getD 43 undef = .slice ao1 p_l.length cp1 := hd 32 43 (by kernel_rfl) (by kernel_rfl)
          have e_44 : a.tmps.getD 44 undef = .int .i64 s2.2 := hd 33 44 (by kernel_rfl) (by kernel_rfl)
          replace hf : Fr 52 [(43, .slice ao1 p_l.length cp1), (44, .int .i64 s2.2), (0, .slice ao1 p_l.length cp1), (3, .slice ao3 s2.1.length cp3), (4, .int .i64 s2.2), (8, .bool (decide (s2.2 < ((p_l.length : Nat) : Int))))] a := ⟨e_43, e_44, hf⟩; clear e_43 e_44
          clear hd
          have hs : Sep wf (star F2 w1 wf) noR wf (star F2 w1 wf) [.ro ty57 (.slice ao1 p_l.length cp1) p_l] := hs0.fstart hX [1] rfl rfl
          refine ixR tbOk u36 i58 rfl rfl ((hs.ro 0 rfl).ra (LeH.refl _)) (k := .i64) (n := s2.2) hc7 hf (by kernel_rfl) (by kernel_rfl) (by kernel_rfl) (by kernel_rfl) ?_
          clear hf; clear a; intro pb19 po19 c7 a hp7 hr7 hf
          obtain rfl : c7 = [.int .u64 ((gt p_l s2.2).1), .int .i64 ((gt p_l s2.2).2.1), .bool ((gt p_l s2.2).2.2.1), strV ((gt p_l s2.2).2.2.2.1), .int .u64 ((gt p_l s2.2).2.2.2.2.1), .bool ((gt p_l s2.2).2.2.2.2.2.1), .int .u32 ((gt p_l s2.2).2.2.2.2.2.2)] := hr7
          replace hs : Sep wf (star F2 w1 wf) noR wf (star F2 w1 wf) [.cel pb19 po19 [.int .u64 ((gt p_l s2.2).1), .int .i64 ((gt p_l s2.2).2.1), .bool ((gt p_l s2.2).2.2.1), strV ((gt p_l s2.2).2.2.2.1), .int .u64 ((gt p_l s2.2).2.2.2.2.1), .bool ((gt p_l s2.2).2.2.2.2.2.1), .int .u32 ((gt p_l s2.2).2.2.2.2.2.2)], .ro ty57 (.slice ao1 p_l.length cp1) p_l] := hs.addCel hp7
          exact fq_ok (d := 45) rfl hf (hs.ex fun _ h => h) ⟨pb19, po19, _, hf.1, (hs.sel [0] rfl rfl).rebase hX⟩
        · intro a wf hX hf hd
          obtain ⟨pb20, po20, F_45, e_45, h_45⟩ : ∃ (pb20 : Nat) (po20 : Nat) (F' : SH), a.tmps.getD 45 undef = .pointer (some ⟨pb20, po20, none⟩) ∧ Sep w1 F2 noR wf F' [.cel pb20 po20 [.int .u64 ((gt p_l s2.2).1), .int .i64 ((gt p_l s2.2).2.1), .bool ((gt p_l s2.2).2.2.1), strV ((gt p_l s2.2).2.2.2.1), .int .u64 ((gt p_l s2.2).2.2.2.2.1), .bool ((gt p_l s2.2).2.2.2.2.2.1), .int .u32 ((gt p_l s2.2).2.2.2.2.2.2)]] := hd 34 45 (by kernel_rfl) (by kernel_rfl)
          replace hf : Fr 52 [(45, .pointer (some ⟨pb20, po20, none⟩)), (0, .slice ao1 p_l.length cp1), (3, .slice ao3 s2.1.length cp3), (4, .int .i64 s2.2), (8, .bool (decide (s2.2 < ((p_l.length : Nat) : Int))))] a := ⟨e_45, hf⟩; clear e_45
          clear hd
          have hs : Sep wf (star F2 w1 wf) noR wf (star F2 w1 wf) [.ro ty57 (.slice ao1 p_l.length cp1) p_l] := hs0.fstart hX [1] rfl rfl
          replace hs : Sep wf (star F2 w1 wf) noR wf (star F2 w1 wf) [.cel pb20 po20 [.int .u64 ((gt p_l s2.2).1), .int .i64 ((gt p_l s2.2).2.1), .bool ((gt p_l s2.2).2.2.1), strV ((gt p_l s2.2).2.2.2.1), .int .u64 ((gt p_l s2.2).2.2.2.2.1), .bool ((gt p_l s2.2).2.2.2.2.2.1), .int .u32 ((gt p_l s2.2).2.2.2.2.2.2)], .ro ty57 (.slice ao1 p_l.length cp1) p_l] := hs.addStar h_45 0 rfl rfl
          clear h_45
          refine st tbOk 1 [46] (L' := [(46, .pointer (some ⟨pb20, po20 + 6, none⟩))]) hf (by kernel_rfl) ?_
          clear hf; clear a; intro a hf
          exact fq_ok (d := 46) rfl hf (hs.ex fun _ h => h) ⟨pb20, po20, _, hf.1, (hs.sel [0] rfl rfl).rebase hX⟩
        · intro a wf hX hf hd
          obtain ⟨pb21, po21, F_46, e_46, h_46⟩ : ∃ (pb21 : Nat) (po21 : Nat) (F' : SH), a.tmps.getD 46 undef = .pointer (some ⟨pb21, po21 + 6, none⟩) ∧ Sep w1 F2 noR wf F' [.cel pb21 po21 [.int .u64 ((gt p_l s2.2).1), .int .i64 ((gt p_l s2.2).2.1), .bool ((gt p_l s2.2).2.2.1), strV ((gt p_l s2.2).2.2.2.1), .int .u64 ((gt p_l s2.2).2.2.2.2.1), .bool ((gt p_l s2.2).2.2.2.2.2.1), .int .u32 ((gt p_l s2.2).2.2.2.2.2.2)]] := hd 35 46 (by kernel_rfl) (by kernel_rfl)
          replace hf : Fr 52 [(46, .pointer (some ⟨pb21, po21 + 6, none⟩)), (0, .slice ao1 p_l.length cp1), (3, .slice ao3 s2.1.length cp3), (4, .int .i64 s2.2), (8, .bool (decide (s2.2 < ((p_l.length : Nat) : Int))))] a := ⟨e_46, hf⟩; clear e_46
          clear hd
          have hs : Sep wf (star F2 w1 wf) noR wf (star F2 w1 wf) [.ro ty57 (.slice ao1 p_l.length cp1) p_l] := hs0.fstart hX [1] rfl rfl
          replace hs : Sep wf (star F2 w1 wf) noR wf (star F2 w1 wf) [.cel pb21 po21 [.int .u64 ((gt p_l s2.2).1), .int .i64 ((gt p_l s2.2).2.1), .bool ((gt p_l s2.2).2.2.1), strV ((gt p_l s2.2).2.2.2.1), .int .u64 ((gt p_l s2.2).2.2.2.2.1), .bool ((gt p_l s2.2).2.2.2.2.2.1), .int .u32 ((gt p_l s2.2).2.2.2.2.2.2)], .ro ty57 (.slice ao1 p_l.length cp1) p_l] := hs.addStar h_46 0 rfl rfl
          clear h_46
          refine ldC tbOk (T := 31) (hs.ccel 0 rfl) (LeH.refl _) 6 (.int .u32 ((gt p_l s2.2).2.2.2.2.2.2)) hf (by kernel_rfl) (by kernel_rfl) (by kernel_rfl) (by kernel_rfl) ?_
          clear hf; clear a; intro a hf
          exact fq_ok (d := 47) rfl hf (hs.ex fun _ h => h) hf.1
        · intro a wf hX hf hd
          have e_37 : a.tmps.getD 37 undef = .agg #[.int .u64 ((gt p_l s2.2).1), .int .i64 ((gt p_l s2.2).2.1), .bool ((gt p_l s2.2).2.2.1), strV ((gt p_l s2.2).2.2.2.1), .int .u64 ((gt p_l s2.2).2.2.2.2.1), strV []] := hd 26 37 (by kernel_rfl) (by kernel_rfl)
          have e_42 : a.tmps.getD 42 undef = .bool ((gt p_l s2.2).2.2.2.2.2.1) := hd 31 42 (by kernel_rfl) (by kernel_rfl)
          have e_47 : a.tmps.getD 47 undef = .int .u32 ((gt p_l s2.2).2.2.2.2.2.2) := hd 36 47 (by kernel_rfl) (by kernel_rfl)
          replace hf : Fr 52 [(37, .agg #[.int .u64 ((gt p_l s2.2).1), .int .i64 ((gt p_l s2.2).2.1), .bool ((gt p_l s2.2).2.2.1), strV ((gt p_l s2.2).2.2.2.1), .int .u64 ((gt p_l s2.2).2.2.2.2.1), strV []]), (42, .bool ((gt p_l s2.2).2.2.2.2.2.1)), (47, .int .u32 ((gt p_l s2.2).2.2.2.2.2.2)), (0, .slice ao1 p_l.length cp1), (3, .slice ao3 s2.1.length cp3), (4, .int .i64 s2.2), (8, .bool (decide (s2.2 < ((p_l.length : Nat) : Int))))] a := ⟨e_37, e_42, e_47, hf⟩; clear e_37 e_42 e_47
          clear hd
          have hs : Sep wf (star F2 w1 wf) noR wf (star F2 w1 wf) [.ro ty57 (.slice ao1 p_l.length cp1) p_l] := hs0.fstart hX [1] rfl rfl
          refine st tbOk 1 [48] (L' := [(48, .agg #[.int .u64 ((gt p_l s2.2).1), .int .i64 ((gt p_l s2.2).2.1), .bool ((gt p_l s2.2).2.2.1), strV ((gt p_l s2.2).2.2.2.1), .int .u64 ((gt p_l s2.2).2.2.2.2.1), strV [], .bool ((gt p_l s2.2).2.2.2.2.2.1), .int .u32 ((gt p_l s2.2).2.2.2.2.2.2)])]) hf (by kernel_rfl) ?_
          clear hf; clear a; intro a hf
          exact fq_ok (d := 48) rfl hf (hs.ex fun _ h => h) hf.1
        · intro a wf hX hf hd
          have e_48 : a.tmps.getD 48 undef = .agg #[.int .u64 ((gt p_l s2.2).1), .int .i64 ((gt p_l s2.2).2.1), .bool ((gt p_l s2.2).2.2.1), strV ((gt p_l s2.2).2.2.2.1), .int .u64 ((gt p_l s2.2).2.2.2.2.1), strV [], .bool ((gt p_l s2.2).2.2.2.2.2.1), .int .u32 ((gt p_l s2.2).2.2.2.2.2.2)] := hd 37 48 (by kernel_rfl) (by kernel_rfl)
          replace hf : Fr 52 [(48, .agg #[.int .u64 ((gt p_l s2.2).1), .int .i64 ((gt p_l s2.2).2.1), .bool ((gt p_l s2.2).2.2.1), strV ((gt p_l s2.2).2.2.2.1), .int .u64 ((gt p_l s2.2).2.2.2.2.1), strV [], .bool ((gt p_l s2.2).2.2.2.2.2.1), .int .u32 ((gt p_l s2.2).2.2.2.2.2.2)]), (0, .slice ao1 p_l.length cp1), (3, .slice ao3 s2.1.length cp3), (4, .int .i64 s2.2), (8, .bool (decide (s2.2 < ((p_l.length : Nat) : Int))))] a := ⟨e_48, hf⟩; clear e_48
          clear hd
          have hs : Sep wf (star F2 w1 wf) noR wf (star F2 w1 wf) [.ro ty57 (.slice ao1 p_l.length cp1) p_l] := hs0.fstart hX [1] rfl rfl
          refine bsR tbOk u39 i48 rfl (t := ty47) (vs := [(0, .agg #[.int .u64 ((gt p_l s2.2).1), .int .i64 ((gt p_l s2.2).2.1), .bool ((gt p_l s2.2).2.2.1), strV ((gt p_l s2.2).2.2.2.1), .int .u64 ((gt p_l s2.2).2.2.2.2.1), strV [], .bool ((gt p_l s2.2).2.2.2.2.2.1), .int .u32 ((gt p_l s2.2).2.2.2.2.2.2)])]) (cells := #[.int .u64 ((gt p_l s2.2).1), .int .i64 ((gt p_l s2.2).2.1), .bool ((gt p_l s2.2).2.2.1), strV ((gt p_l s2.2).2.2.2.1), .int .u64 ((gt p_l s2.2).2.2.2.2.1), strV [], .bool ((gt p_l s2.2).2.2.2.2.2.1), .int .u32 ((gt p_l s2.2).2.2.2.2.2.2)]) ([(((gt p_l s2.2).1, (gt p_l s2.2).2.1, (gt p_l s2.2).2.2.1, (gt p_l s2.2).2.2.2.1, (gt p_l s2.2).2.2.2.2.1, []), (gt p_l s2.2).2.2.2.2.2.1, (gt p_l s2.2).2.2.2.2.2.2)] : List ((Int × Int × Bool × (List UInt8) × Int × (List UInt8)) × Bool × Int)) hs.le hf (by kernel_rfl) (by kernel_rfl) (by kernel_rfl) rfl (by kernel_rfl) (reps_flat _) rfl ?_
          clear hf; clear a; intro w2 a ho hx hf
          replace hs : Sep wf (star F2 w1 wf) noR w2 (star F2 w1 wf) [.row 48 ty47 (.slice (some ⟨wf.heap.size, 0, none⟩) ([(((gt p_l s2.2).1, (gt p_l s2.2).2.1, (gt p_l s2.2).2.2.1, (gt p_l s2.2).2.2.2.1, (gt p_l s2.2).2.2.2.2.1, []), (gt p_l s2.2).2.2.2.2.2.1, (gt p_l s2.2).2.2.2.2.2.2)] : List ((Int × Int × Bool × (List UInt8) × Int × (List UInt8)) × Bool × Int)).length ([(((gt p_l s2.2).1, (gt p_l s2.2).2.1, (gt p_l s2.2).2.2.1, (gt p_l s2.2).2.2.2.1, (gt p_l s2.2).2.2.2.2.1, []), (gt p_l s2.2).2.2.2.2.2.1, (gt p_l s2.2).2.2.2.2.2.2)] : List ((Int × Int × Bool × (List UInt8) × Int × (List UInt8)) × Bool × Int)).length) ([(((gt p_l s2.2).1, (gt p_l s2.2).2.1, (gt p_l s2.2).2.2.1, (gt p_l s2.2).2.2.2.1, (gt p_l s2.2).2.2.2.2.1, []), (gt p_l s2.2).2.2.2.2.2.1, (gt p_l s2.2).2.2.2.2.2.2)] : List ((Int × Int × Bool × (List UInt8) × Int × (List UInt8)) × Bool × Int)), .ro ty57 (.slice ao1 p_l.length cp1) p_l] := hs.newRow ho hx
          clear ho hx
          exact fq_ok (d := 49) rfl hf (hs.ex fun _ h => h) ⟨(some ⟨wf.heap.size, 0, none⟩), ([(((gt p_l s2.2).1, (gt p_l s2.2).2.1, (gt p_l s2.2).2.2.1, (gt p_l s2.2).2.2.2.1, (gt p_l s2.2).2.2.2.2.1, []), (gt p_l s2.2).2.2.2.2.2.1, (gt p_l s2.2).2.2.2.2.2.2)] : List ((Int × Int × Bool × (List UInt8) × Int × (List UInt8)) × Bool × Int)).length, _, hf.1, (hs.sel [0] rfl rfl).rebase hX⟩
      · clear hf hs; clear a; intro a w3 hx hf hd
        have e_11 : a.tmps.getD 11 undef = .slice ao3 s2.1.length cp3 := hd 0 11 (by kernel_rfl) (by kernel_rfl)
        obtain ⟨ao4, cp4, F_49, e_49, h_49⟩ : ∃ (ao4 : Option Addr) (cp4 : Nat) (F' : SH), a.tmps.getD 49 undef = .slice ao4 ([(((gt p_l s2.2).1, (gt p_l s2.2).2.1, (gt p_l s2.2).2.2.1, (gt p_l s2.2).2.2.2.1, (gt p_l s2.2).2.2.2.2.1, []), (gt p_l s2.2).2.2.2.2.2.1, (gt p_l s2.2).2.2.2.2.2.2)] : List ((Int × Int × Bool × (List UInt8) × Int × (List UInt8)) × Bool × Int)).length cp4 ∧ Sep w1 F2 noR w3 F' [.row 48 ty47 (.slice ao4 ([(((gt p_l s2.2).1, (gt p_l s2.2).2.1, (gt p_l s2.2).2.2.1, (gt p_l s2.2).2.2.2.1, (gt p_l s2.2).2.2.2.2.1, []), (gt p_l s2.2).2.2.2.2.2.1, (gt p_l s2.2).2.2.2.2.2.2)] : List ((Int × Int × Bool × (List UInt8) × Int × (List UInt8)) × Bool × Int)).length cp4) ([(((gt p_l s2.2).1, (gt p_l s2.2).2.1, (gt p_l s2.2).2.2.1, (gt p_l s2.2).2.2.2.1, (gt p_l s2.2).2.2.2.2.1, []), (gt p_l s2.2).2.2.2.2.2.1, (gt p_l s2.2).2.2.2.2.2.2)] : List ((Int × Int × Bool × (List UInt8) × Int × (List UInt8)) × Bool × Int))] := hd 38 49 (by kernel_rfl) (by kernel_rfl)
        have hs : Sep w F R w3 F2 [.row 48 ty47 (.slice ao4 ([(((gt p_l s2.2).1, (gt p_l s2.2).2.1, (gt p_l s2.2).2.2.1, (gt p_l s2.2).2.2.2.1, (gt p_l s2.2).2.2.2.2.1, []), (gt p_l s2.2).2.2.2.2.2.1, (gt p_l s2.2).2.2.2.2.2.2)] : List ((Int × Int × Bool × (List UInt8) × Int × (List UInt8)) × Bool × Int)).length cp4) ([(((gt p_l s2.2).1, (gt p_l s2.2).2.1, (gt p_l s2.2).2.2.1, (gt p_l s2.2).2.2.2.1, (gt p_l s2.2).2.2.2.2.1, []), (gt p_l s2.2).2.2.2.2.2.1, (gt p_l s2.2).2.2.2.2.2.2)] : List ((Int × Int × Bool × (List UInt8) × Int × (List UInt8)) × Bool × Int)), .row 48 ty47 (.slice ao3 s2.1.length cp3) s2.1, .ro ty57 (.slice ao1 p_l.length cp1) p_l] := hs0.addFlat hx h_49 ⟨flat47, trivial⟩
        clear h_49
        clear hd hx
        clear hs0
        replace hf : Fr 52 [(11, .slice ao3 s2.1.length cp3), (49, .slice ao4 ([(((gt p_l s2.2).1, (gt p_l s2.2).2.1, (gt p_l s2.2).2.2.1, (gt p_l s2.2).2.2.2.1, (gt p_l s2.2).2.2.2.2.1, []), (gt p_l s2.2).2.2.2.2.2.1, (gt p_l s2.2).2.2.2.2.2.2)] : List ((Int × Int × Bool × (List UInt8) × Int × (List UInt8)) × Bool × Int)).length cp4), (0, .slice ao1 p_l.length cp1), (3, .slice ao3 s2.1.length cp3), (4, .int .i64 s2.2), (8, .bool (decide (s2.2 < ((p_l.length : Nat) : Int))))] a := ⟨e_11, e_49, hf⟩
        clear e_11 e_49
        replace hf := Fr.keep (ks := [0, 4, 11, 49]) (L' := [(0, .slice ao1 p_l.length cp1), (4, .int .i64 s2.2), (11, .slice ao3 s2.1.length cp3), (49, .slice ao4 ([(((gt p_l s2.2).1, (gt p_l s2.2).2.1, (gt p_l s2.2).2.2.1, (gt p_l s2.2).2.2.2.1, (gt p_l s2.2).2.2.2.2.1, []), (gt p_l s2.2).2.2.2.2.2.1, (gt p_l s2.2).2.2.2.2.2.2)] : List ((Int × Int × Bool × (List UInt8) × Int × (List UInt8)) × Bool × Int)).length cp4)]) hf (by kernel_rfl)
        have hT := of_gd hS; clear hS; obtain ⟨hc8, hS⟩ := hT
        refine apR tbOk u39 i48 rfl rfl rfl rfl hs.le (hs.own 1 rfl) (hs.raW 0 rfl) hc8 hf (by kernel_rfl) (by kernel_rfl) (by kernel_rfl) (by kernel_rfl) ?_
        clear hf; clear a; intro ao5 cp5 w4 a ho hg hl hf
        replace hs : Sep w F R w4 F2 [.row 48 ty47 (.slice ao4 ([(((gt p_l s2.2).1, (gt p_l s2.2).2.1, (gt p_l s2.2).2.2.1, (gt p_l s2.2).2.2.2.1, (gt p_l s2.2).2.2.2.2.1, []), (gt p_l s2.2).2.2.2.2.2.1, (gt p_l s2.2).2.2.2.2.2.2)] : List ((Int × Int × Bool × (List UInt8) × Int × (List UInt8)) × Bool × Int)).length cp4) ([(((gt p_l s2.2).1, (gt p_l s2.2).2.1, (gt p_l s2.2).2.2.1, (gt p_l s2.2).2.2.2.1, (gt p_l s2.2).2.2.2.2.1, []), (gt p_l s2.2).2.2.2.2.2.1, (gt p_l s2.2).2.2.2.2.2.2)] : List ((Int × Int × Bool × (List UInt8) × Int × (List UInt8)) × Bool × Int)), .row 48 ty47 (.slice ao5 (s2.1 ++ ([(((gt p_l s2.2).1, (gt p_l s2.2).2.1, (gt p_l s2.2).2.2.1, (gt p_l s2.2).2.2.2.1, (gt p_l s2.2).2.2.2.2.1, []), (gt p_l s2.2).2.2.2.2.2.1, (gt p_l s2.2).2.2.2.2.2.2)] : List ((Int × Int × Bool × (List UInt8) × Int × (List UInt8)) × Bool × Int))).length cp5) (s2.1 ++ ([(((gt p_l s2.2).1, (gt p_l s2.2).2.1, (gt p_l s2.2).2.2.1, (gt p_l s2.2).2.2.2.1, (gt p_l s2.2).2.2.2.2.1, []), (gt p_l s2.2).2.2.2.2.2.1, (gt p_l s2.2).2.2.2.2.2.2)] : List ((Int × Int × Bool × (List UInt8) × Int × (List UInt8)) × Bool × Int))), .ro ty57 (.slice ao1 p_l.length cp1) p_l] := hs.updRow 1 rfl ho hg hl
        clear ho hg hl
        replace hs : Sep w F R w4 F2 [.row 48 ty47 (.slice ao5 (s2.1 ++ ([(((gt p_l s2.2).1, (gt p_l s2.2).2.1, (gt p_l s2.2).2.2.1, (gt p_l s2.2).2.2.2.1, (gt p_l s2.2).2.2.2.2.1, []), (gt p_l s2.2).2.2.2.2.2.1, (gt p_l s2.2).2.2.2.2.2.2)] : List ((Int × Int × Bool × (List UInt8) × Int × (List UInt8)) × Bool × Int))).length cp5) (s2.1 ++ ([(((gt p_l s2.2).1, (gt p_l s2.2).2.1, (gt p_l s2.2).2.2.1, (gt p_l s2.2).2.2.2.1, (gt p_l s2.2).2.2.2.2.1, []), (gt p_l s2.2).2.2.2.2.2.1, (gt p_l s2.2).2.2.2.2.2.2)] : List ((Int × Int × Bool × (List UInt8) × Int × (List UInt8)) × Bool × Int))), .ro ty57 (.slice ao1 p_l.length cp1) p_l] := hs.sel [1, 2] rfl rfl
        replace hf := Fr.keep (ks := [0, 4, 50]) (L' := [(0, .slice ao1 p_l.length cp1), (4, .int .i64 s2.2), (50, .slice ao5 (s2.1 ++ ([(((gt p_l s2.2).1, (gt p_l s2.2).2.1, (gt p_l s2.2).2.2.1, (gt p_l s2.2).2.2.2.1, (gt p_l s2.2).2.2.2.2.1, []), (gt p_l s2.2).2.2.2.2.2.1, (gt p_l s2.2).2.2.2.2.2.2)] : List ((Int × Int × Bool × (List UInt8) × Int × (List UInt8)) × Bool × Int))).length cp5)]) hf (by kernel_rfl)
        refine st tbOk 1 [0, 3, 4] (L' := [(0, .slice ao1 p_l.length cp1), (3, .slice ao5 (s2.1 ++ ([(((gt p_l s2.2).1, (gt p_l s2.2).2.1, (gt p_l s2.2).2.2.1, (gt p_l s2.2).2.2.2.1, (gt p_l s2.2).2.2.2.2.1, []), (gt p_l s2.2).2.2.2.2.2.1, (gt p_l s2.2).2.2.2.2.2.2)] : List ((Int × Int × Bool × (List UInt8) × Int × (List UInt8)) × Bool × Int))).length cp5), (4, .int .i64 s2.2)]) hf (by kernel_rfl) ?_
        clear hf; clear a; intro a hf
        refine wpList_nil ?_
        refine reg ?_
        have hT := of_let hS; clear hS; obtain ⟨i_1, hl1, hS⟩ := hT
        refine st tbOk 3 [0, 3, 4] (L' := [(0, .slice ao1 p_l.length cp1), (3, .slice ao5 (s2.1 ++ ([(((gt p_l s2.2).1, (gt p_l s2.2).2.1, (gt p_l s2.2).2.2.1, (gt p_l s2.2).2.2.2.1, (gt p_l s2.2).2.2.2.2.1, []), (gt p_l s2.2).2.2.2.2.2.1, (gt p_l s2.2).2.2.2.2.2.2)] : List ((Int × Int × Bool × (List UInt8) × Int × (List UInt8)) × Bool × Int))).length cp5), (4, .int .i64 i_1)]) hf (by subst hl1; kernel_rfl) ?_
        clear hf; clear a; intro a hf
        refine wpList_nil ?_
        exact hK2 ((s2.1 ++ ([(((gt p_l s2.2).1, (gt p_l s2.2).2.1, (gt p_l s2.2).2.2.1, (gt p_l s2.2).2.2.2.1, (gt p_l s2.2).2.2.2.2.1, []), (gt p_l s2.2).2.2.2.2.2.1, (gt p_l s2.2).2.2.2.2.2.2)] : List ((Int × Int × Bool × (List UInt8) × Int × (List UInt8)) × Bool × Int))), i_1) _ _ ⟨ao5, cp5, _, hs.sel [0, 1] rfl rfl, hf.keep (ks := [0, 3, 4]) (by kernel_rfl)⟩ hS
    · replace hS := of_f hb1 hS
      refine wp_exit ?_
      exact hK1 s2.1 _ _ ⟨ao3, cp3, _, hs.sel [0] rfl rfl, hf.keep (ks := [3]) (by kernel_rfl)⟩ hS

end Dm
