/-
  The walks: a call of each Go function gives what its shallow form gives, where that form gives something; printed by a program of this repo. No condition.
-/
import Derived.Test.YtmocofbneblccaaWT
import Derived.Test.YtmocofbneblccaaW5
namespace Dm
open Go Go.RowKit Go.Proofs

set_option maxHeartbeats 4000000 in
theorem ref21_Split_ok {w : World} {F : SH} {p_l : List (Int × Int × Bool × (List UInt8) × Int × (List UInt8))} {files : List ((List UInt8) × (List Int))} {ao1 : Option Addr} {cp1 : Nat} {ao2 : Option Addr} {cp2 : Nat} (hs : Sep w F (blks [.ro ty45 (.slice ao1 p_l.length cp1) p_l, .ro ty60 (.slice ao2 files.length cp2) files]) w F [.ro ty45 (.slice ao1 p_l.length cp1) p_l, .ro ty60 (.slice ao2 files.length cp2) files]) {r : (List ((Int × Int × Bool × (List UInt8) × Int × (List UInt8)) × Bool × Int)) × (List UInt8)} (hS : ref21_Split p_l files = some r) :
    Calls Try.prog 20 [.slice ao1 p_l.length cp1, .slice ao2 files.length cp2].toArray w (Gives (fun u w' => ∃ (ao6 : Option Addr) (cp6 : Nat) (F' : SH), u = .tuple #[.slice ao6 r.1.length cp6, strV r.2] ∧ Sep w F (blks [.ro ty45 (.slice ao1 p_l.length cp1) p_l, .ro ty60 (.slice ao2 files.length cp2) files]) w' F' [.row 48 ty47 (.slice ao6 r.1.length cp6) r.1])) := by
  generalize (blks [.ro ty45 (.slice ao1 p_l.length cp1) p_l, .ro ty60 (.slice ao2 files.length cp2) files]) = R at hs ⊢
  unfold ref21_Split at hS
  refine fn_ok (vs := [.slice ao1 p_l.length cp1, .slice ao2 files.length cp2]) Try.func20 rfl 57 Try.ntmps20 (Nat.le_of_ble_eq_true rfl) ?_
  intro a hf
  replace hf := Fr.cast (L' := [(0, .slice ao1 p_l.length cp1), (1, .slice ao2 files.length cp2)]) hf (by kernel_rfl)
  refine sq ?_
  refine reg ?_
  refine st tbOk 2 [0, 1] (L' := [(0, .slice ao1 p_l.length cp1), (1, .slice ao2 files.length cp2)]) hf (by kernel_rfl) ?_
  clear hf; clear a; intro a hf
  refine wpList_nil ?_
  refine sq ?_
  refine reg ?_
  refine st tbOk 1 [0, 1, 6] (L' := [(0, .slice ao1 p_l.length cp1), (1, .slice ao2 files.length cp2), (6, .slice none 0 0)]) hf (by kernel_rfl) ?_
  clear hf; clear a; intro a hf
  refine wpList_nil ?_
  refine sq ?_
  refine reg ?_
  refine st tbOk 1 [0, 1, 6, 7] (L' := [(0, .slice ao1 p_l.length cp1), (1, .slice ao2 files.length cp2), (6, .slice none 0 0), (7, strV [])]) hf (by kernel_rfl) ?_
  clear hf; clear a; intro a hf
  refine wpList_nil ?_
  refine sq ?_
  refine sq ?_
  refine reg ?_
  refine st tbOk 1 [0, 1, 6, 7, 8] (L' := [(0, .slice ao1 p_l.length cp1), (1, .slice ao2 files.length cp2), (6, .slice none 0 0), (7, strV []), (8, .int .i64 0)]) hf (by kernel_rfl) ?_
  clear hf; clear a; intro a hf
  refine wpList_nil ?_
  refine ctj (fun (s1 : (List ((Int × Int × Bool × (List UInt8) × Int × (List UInt8)) × Bool × Int)) × (List UInt8)) (a : Act) (w' : World) => ∃ (ao3 : Option Addr) (cp3 : Nat) (F1 : SH), Sep w F R w' F1 [.row 48 ty47 (.slice ao3 s1.1.length cp3) s1.1] ∧ Fr 57 [(6, .slice ao3 s1.1.length cp3), (7, strV s1.2)] a) hS ?_ ?_
  · clear hS hf hs; clear a; intro s1 a w15 hM hS
    obtain ⟨ao3, cp3, F1, hs, hf⟩ := hM
    refine sq ?_
    refine reg ?_
    refine st tbOk 4 [4, 5] (L' := [(4, .slice ao3 s1.1.length cp3), (5, strV s1.2)]) hf (by kernel_rfl) ?_
    clear hf; clear a; intro a hf
    refine wpList_nil ?_
    have hr := Option.some.inj hS; subst hr
    refine wp_ret ?_
    exact ret_ok hf (vs := [.slice ao3 s1.1.length cp3, strV s1.2]) (by kernel_rfl) ⟨ao3, cp3, _, rfl, hs.sel [0] rfl rfl⟩
  · clear hS; intro KK1 k1 hK1 hS
    refine blk ?_
    replace hs : Sep w F R w F [.row 48 ty47 (.slice none 0 0) ([] : List ((Int × Int × Bool × (List UInt8) × Int × (List UInt8)) × Bool × Int)), .ro ty45 (.slice ao1 p_l.length cp1) p_l, .ro ty60 (.slice ao2 files.length cp2) files] := hs.addNil 48 ty47
    refine lp (st := ([], [], 0)) (fun (s2 : (List ((Int × Int × Bool × (List UInt8) × Int × (List UInt8)) × Bool × Int)) × (List UInt8) × Int) (a : Act) (w' : World) => ∃ (ao4 : Option Addr) (cp4 : Nat) (F2 : SH), Sep w F R w' F2 [.row 48 ty47 (.slice ao4 s2.1.length cp4) s2.1, .ro ty45 (.slice ao1 p_l.length cp1) p_l, .ro ty60 (.slice ao2 files.length cp2) files] ∧ Fr 57 [(0, .slice ao1 p_l.length cp1), (1, .slice ao2 files.length cp2), (6, .slice ao4 s2.1.length cp4), (7, strV s2.2.1), (8, .int .i64 s2.2.2)] a) ?_ ⟨none, 0, _, hs.sel [0, 1, 2] rfl rfl, hf.keep (ks := [0, 1, 6, 7, 8]) (by kernel_rfl)⟩ hS
    clear hS hf hs; clear a
    intro rec1 KK2 hK2 s2 a w1 hM hS
    obtain ⟨ao4, cp4, F2, hs, hf⟩ := hM
    refine sq ?_
    refine sq ?_
    refine reg ?_
    refine st tbOk 4 [0, 1, 6, 7, 8, 16] (L' := [(0, .slice ao1 p_l.length cp1), (1, .slice ao2 files.length cp2), (6, .slice ao4 s2.1.length cp4), (7, strV s2.2.1), (8, .int .i64 s2.2.2), (16, .bool (decide (s2.2.2 < ((p_l.length : Nat) : Int))))]) hf (by kernel_rfl) ?_
    clear hf; clear a; intro a hf
    refine wpList_nil ?_
    refine cnd (b := decide (s2.2.2 < ((p_l.length : Nat) : Int))) hf (by kernel_rfl) (fun hb1 => ?_) (fun hb1 => ?_)
    · replace hS := of_t hb1 hS
      refine wp_skip ?_
      refine sq ?_
      refine blk ?_
      refine sq ?_
      refine reg ?_
      refine st tbOk 2 [0, 1, 6, 7, 8, 19, 20] (L' := [(0, .slice ao1 p_l.length cp1), (1, .slice ao2 files.length cp2), (6, .slice ao4 s2.1.length cp4), (7, strV s2.2.1), (8, .int .i64 s2.2.2), (19, .slice ao1 p_l.length cp1), (20, .int .i64 s2.2.2)]) hf (by kernel_rfl) ?_
      clear hf; clear a; intro a hf
      have hT := of_gd hS; clear hS; obtain ⟨hc1, hS⟩ := hT
      refine ixR tbOk u42 i46 rfl rfl ((hs.ro 1 rfl).ra (LeH.refl _)) (k := .i64) (n := s2.2.2) hc1 hf (by kernel_rfl) (by kernel_rfl) (by kernel_rfl) (by kernel_rfl) ?_
      clear hf; clear a; intro pb1 po1 c1 a hp1 hr1 hf
      obtain rfl : c1 = [.int .u64 ((gt p_l s2.2.2).1), .int .i64 ((gt p_l s2.2.2).2.1), .bool ((gt p_l s2.2.2).2.2.1), strV ((gt p_l s2.2.2).2.2.2.1), .int .u64 ((gt p_l s2.2.2).2.2.2.2.1), strV ((gt p_l s2.2.2).2.2.2.2.2)] := hr1
      replace hs : Sep w F R w1 F2 [.cel pb1 po1 [.int .u64 ((gt p_l s2.2.2).1), .int .i64 ((gt p_l s2.2.2).2.1), .bool ((gt p_l s2.2.2).2.2.1), strV ((gt p_l s2.2.2).2.2.2.1), .int .u64 ((gt p_l s2.2.2).2.2.2.2.1), strV ((gt p_l s2.2.2).2.2.2.2.2)], .row 48 ty47 (.slice ao4 s2.1.length cp4) s2.1, .ro ty45 (.slice ao1 p_l.length cp1) p_l, .ro ty60 (.slice ao2 files.length cp2) files] := hs.addCel hp1
      replace hf := Fr.keep (ks := [0, 1, 6, 7, 8, 21]) (L' := [(0, .slice ao1 p_l.length cp1), (1, .slice ao2 files.length cp2), (6, .slice ao4 s2.1.length cp4), (7, strV s2.2.1), (8, .int .i64 s2.2.2), (21, .pointer (some ⟨pb1, po1, none⟩))]) hf (by kernel_rfl)
      refine ldC tbOk (T := 46) (hs.ccel 0 rfl) (LeH.refl _) 0 (.agg #[.int .u64 ((gt p_l s2.2.2).1), .int .i64 ((gt p_l s2.2.2).2.1), .bool ((gt p_l s2.2.2).2.2.1), strV ((gt p_l s2.2.2).2.2.2.1), .int .u64 ((gt p_l s2.2.2).2.2.2.2.1), strV ((gt p_l s2.2.2).2.2.2.2.2)]) hf (by kernel_rfl) (by kernel_rfl) (by kernel_rfl) (by kernel_rfl) ?_
      clear hf; clear a; intro a hf
      replace hs : Sep w F R w1 F2 [.row 48 ty47 (.slice ao4 s2.1.length cp4) s2.1, .ro ty45 (.slice ao1 p_l.length cp1) p_l, .ro ty60 (.slice ao2 files.length cp2) files] := hs.sel [1, 2, 3] rfl rfl
      replace hf := Fr.keep (ks := [0, 1, 6, 7, 8, 22]) (L' := [(0, .slice ao1 p_l.length cp1), (1, .slice ao2 files.length cp2), (6, .slice ao4 s2.1.length cp4), (7, strV s2.2.1), (8, .int .i64 s2.2.2), (22, .agg #[.int .u64 ((gt p_l s2.2.2).1), .int .i64 ((gt p_l s2.2.2).2.1), .bool ((gt p_l s2.2.2).2.2.1), strV ((gt p_l s2.2.2).2.2.2.1), .int .u64 ((gt p_l s2.2.2).2.2.2.2.1), strV ((gt p_l s2.2.2).2.2.2.2.2)])]) hf (by kernel_rfl)
      refine al tbOk i46 [.int .u64 0, .int .i64 0, .bool false, strV [], .int .u64 0, strV []] rfl (by kernel_rfl) hf (by kernel_rfl) (by kernel_rfl) ?_
      clear hf; clear a; intro w2 a hb hx _ hf
      replace hs : Sep w F R w2 F2 [.box w1.heap.size 46 [.int .u64 0, .int .i64 0, .bool false, strV [], .int .u64 0, strV []], .row 48 ty47 (.slice ao4 s2.1.length cp4) s2.1, .ro ty45 (.slice ao1 p_l.length cp1) p_l, .ro ty60 (.slice ao2 files.length cp2) files] := hs.newBox hb hx
      clear hb hx
      replace hf := Fr.keep (ks := [0, 1, 6, 7, 8, 9, 22]) (L' := [(0, .slice ao1 p_l.length cp1), (1, .slice ao2 files.length cp2), (6, .slice ao4 s2.1.length cp4), (7, strV s2.2.1), (8, .int .i64 s2.2.2), (9, .pointer (some ⟨w1.heap.size, 0, none⟩)), (22, .agg #[.int .u64 ((gt p_l s2.2.2).1), .int .i64 ((gt p_l s2.2.2).2.1), .bool ((gt p_l s2.2.2).2.2.1), strV ((gt p_l s2.2.2).2.2.2.1), .int .u64 ((gt p_l s2.2.2).2.2.2.2.1), strV ((gt p_l s2.2.2).2.2.2.2.2)])]) hf (by kernel_rfl)
      refine stB tbOk i46 (hs.bx 0 rfl) 0 [.int .u64 ((gt p_l s2.2.2).1), .int .i64 ((gt p_l s2.2.2).2.1), .bool ((gt p_l s2.2.2).2.2.1), strV ((gt p_l s2.2.2).2.2.2.1), .int .u64 ((gt p_l s2.2.2).2.2.2.2.1), strV ((gt p_l s2.2.2).2.2.2.2.2)] [.int .u64 ((gt p_l s2.2.2).1), .int .i64 ((gt p_l s2.2.2).2.1), .bool ((gt p_l s2.2.2).2.2.1), strV ((gt p_l s2.2.2).2.2.2.1), .int .u64 ((gt p_l s2.2.2).2.2.2.2.1), strV ((gt p_l s2.2.2).2.2.2.2.2)] (v := .agg #[.int .u64 ((gt p_l s2.2.2).1), .int .i64 ((gt p_l s2.2.2).2.1), .bool ((gt p_l s2.2.2).2.2.1), strV ((gt p_l s2.2.2).2.2.2.1), .int .u64 ((gt p_l s2.2.2).2.2.2.2.1), strV ((gt p_l s2.2.2).2.2.2.2.2)]) rfl rfl (by kernel_rfl) (by kernel_rfl) (by kernel_rfl) (by kernel_rfl) hf (by kernel_rfl) (by kernel_rfl) (by kernel_rfl) ?_
      clear hf; clear a; intro w3 a hb hg _ hf
      replace hs : Sep w F R w3 F2 [.box w1.heap.size 46 [.int .u64 ((gt p_l s2.2.2).1), .int .i64 ((gt p_l s2.2.2).2.1), .bool ((gt p_l s2.2.2).2.2.1), strV ((gt p_l s2.2.2).2.2.2.1), .int .u64 ((gt p_l s2.2.2).2.2.2.2.1), strV ((gt p_l s2.2.2).2.2.2.2.2)], .row 48 ty47 (.slice ao4 s2.1.length cp4) s2.1, .ro ty45 (.slice ao1 p_l.length cp1) p_l, .ro ty60 (.slice ao2 files.length cp2) files] := hs.updBox 0 rfl hb hg
      clear hb hg
      replace hf := Fr.keep (ks := [0, 1, 6, 7, 8, 9]) (L' := [(0, .slice ao1 p_l.length cp1), (1, .slice ao2 files.length cp2), (6, .slice ao4 s2.1.length cp4), (7, strV s2.2.1), (8, .int .i64 s2.2.2), (9, .pointer (some ⟨w1.heap.size, 0, none⟩))]) hf (by kernel_rfl)
      refine wpList_nil ?_
      refine sq ?_
      refine reg ?_
      refine st tbOk 1 [0, 1, 6, 7, 8, 9, 24] (L' := [(0, .slice ao1 p_l.length cp1), (1, .slice ao2 files.length cp2), (6, .slice ao4 s2.1.length cp4), (7, strV s2.2.1), (8, .int .i64 s2.2.2), (9, .pointer (some ⟨w1.heap.size, 0, none⟩)), (24, .pointer (some ⟨w1.heap.size, 3, none⟩))]) hf (by kernel_rfl) ?_
      clear hf; clear a; intro a hf
      refine ldC tbOk (T := 9) (hs.cbx 0 rfl) (LeH.refl _) 3 (strV ((gt p_l s2.2.2).2.2.2.1)) hf (by kernel_rfl) (by kernel_rfl) (by kernel_rfl) (by kernel_rfl) ?_
      clear hf; clear a; intro a hf
      replace hf := Fr.keep (ks := [0, 1, 6, 7, 8, 9, 25]) (L' := [(0, .slice ao1 p_l.length cp1), (1, .slice ao2 files.length cp2), (6, .slice ao4 s2.1.length cp4), (7, strV s2.2.1), (8, .int .i64 s2.2.2), (9, .pointer (some ⟨w1.heap.size, 0, none⟩)), (25, strV ((gt p_l s2.2.2).2.2.2.1))]) hf (by kernel_rfl)
      refine st tbOk 1 [0, 1, 6, 7, 8, 9, 25, 26] (L' := [(0, .slice ao1 p_l.length cp1), (1, .slice ao2 files.length cp2), (6, .slice ao4 s2.1.length cp4), (7, strV s2.2.1), (8, .int .i64 s2.2.2), (9, .pointer (some ⟨w1.heap.size, 0, none⟩)), (25, strV ((gt p_l s2.2.2).2.2.2.1)), (26, .pointer (some ⟨w1.heap.size, 4, none⟩))]) hf (by kernel_rfl) ?_
      clear hf; clear a; intro a hf
      refine ldC tbOk (T := 23) (hs.cbx 0 rfl) (LeH.refl _) 4 (.int .u64 ((gt p_l s2.2.2).2.2.2.2.1)) hf (by kernel_rfl) (by kernel_rfl) (by kernel_rfl) (by kernel_rfl) ?_
      clear hf; clear a; intro a hf
      replace hf := Fr.keep (ks := [0, 1, 6, 7, 8, 9, 25, 27]) (L' := [(0, .slice ao1 p_l.length cp1), (1, .slice ao2 files.length cp2), (6, .slice ao4 s2.1.length cp4), (7, strV s2.2.1), (8, .int .i64 s2.2.2), (9, .pointer (some ⟨w1.heap.size, 0, none⟩)), (25, strV ((gt p_l s2.2.2).2.2.2.1)), (27, .int .u64 ((gt p_l s2.2.2).2.2.2.2.1))]) hf (by kernel_rfl)
      refine st tbOk 1 [0, 1, 6, 7, 8, 9, 25, 27, 28] (L' := [(0, .slice ao1 p_l.length cp1), (1, .slice ao2 files.length cp2), (6, .slice ao4 s2.1.length cp4), (7, strV s2.2.1), (8, .int .i64 s2.2.2), (9, .pointer (some ⟨w1.heap.size, 0, none⟩)), (25, strV ((gt p_l s2.2.2).2.2.2.1)), (27, .int .u64 ((gt p_l s2.2.2).2.2.2.2.1)), (28, .slice ao2 files.length cp2)]) hf (by kernel_rfl) ?_
      clear hf; clear a; intro a hf
      have hT := of_bd hS; clear hS; obtain ⟨z1, hz1, hS⟩ := hT
      refine clV ent16 (vs := [strV ((gt p_l s2.2.2).2.2.2.1), .int .u64 ((gt p_l s2.2.2).2.2.2.2.1), .slice ao2 files.length cp2]) (caps := []) hf (by kernel_rfl) (by kernel_rfl) (by kernel_rfl) (by kernel_rfl) (ref21_Origin_ok (file := (gt p_l s2.2.2).2.2.2.1) (off := (gt p_l s2.2.2).2.2.2.2.1) (files := files) (hs.enter [3] rfl rfl) hz1) ?_
      clear hf; clear a; intro v w4 a hT hf; obtain ⟨F3, rfl, hr⟩ := hT
      replace hs : Sep w F R w4 F3 [.box w1.heap.size 46 [.int .u64 ((gt p_l s2.2.2).1), .int .i64 ((gt p_l s2.2.2).2.1), .bool ((gt p_l s2.2.2).2.2.1), strV ((gt p_l s2.2.2).2.2.2.1), .int .u64 ((gt p_l s2.2.2).2.2.2.2.1), strV ((gt p_l s2.2.2).2.2.2.2.2)], .row 48 ty47 (.slice ao4 s2.1.length cp4) s2.1, .ro ty45 (.slice ao1 p_l.length cp1) p_l, .ro ty60 (.slice ao2 files.length cp2) files] := hs.back [3] [0, 1, 2, 3] rfl rfl rfl rfl hr
      clear hr
      replace hf := Fr.keep (ks := [0, 1, 6, 7, 8, 9, 29]) (L' := [(0, .slice ao1 p_l.length cp1), (1, .slice ao2 files.length cp2), (6, .slice ao4 s2.1.length cp4), (7, strV s2.2.1), (8, .int .i64 s2.2.2), (9, .pointer (some ⟨w1.heap.size, 0, none⟩)), (29, .tuple #[strV z1.1, .bool z1.2])]) hf (by kernel_rfl)
      refine st tbOk 5 [0, 1, 6, 7, 8, 9, 10, 11] (L' := [(0, .slice ao1 p_l.length cp1), (1, .slice ao2 files.length cp2), (6, .slice ao4 s2.1.length cp4), (7, strV s2.2.1), (8, .int .i64 s2.2.2), (9, .pointer (some ⟨w1.heap.size, 0, none⟩)), (10, strV z1.1), (11, .bool z1.2)]) hf (by kernel_rfl) ?_
      clear hf; clear a; intro a hf
      refine wpList_nil ?_
      refine sq ?_
      refine reg ?_
      refine ldC tbOk (T := 46) (hs.cbx 0 rfl) (LeH.refl _) 0 (.agg #[.int .u64 ((gt p_l s2.2.2).1), .int .i64 ((gt p_l s2.2.2).2.1), .bool ((gt p_l s2.2.2).2.2.1), strV ((gt p_l s2.2.2).2.2.2.1), .int .u64 ((gt p_l s2.2.2).2.2.2.2.1), strV ((gt p_l s2.2.2).2.2.2.2.2)]) hf (by kernel_rfl) (by kernel_rfl) (by kernel_rfl) (by kernel_rfl) ?_
      clear hf; clear a; intro a hf
      replace hf := Fr.keep (ks := [0, 1, 6, 7, 8, 9, 10, 11, 32]) (L' := [(0, .slice ao1 p_l.length cp1), (1, .slice ao2 files.length cp2), (6, .slice ao4 s2.1.length cp4), (7, strV s2.2.1), (8, .int .i64 s2.2.2), (9, .pointer (some ⟨w1.heap.size, 0, none⟩)), (10, strV z1.1), (11, .bool z1.2), (32, .agg #[.int .u64 ((gt p_l s2.2.2).1), .int .i64 ((gt p_l s2.2.2).2.1), .bool ((gt p_l s2.2.2).2.2.1), strV ((gt p_l s2.2.2).2.2.2.1), .int .u64 ((gt p_l s2.2.2).2.2.2.2.1), strV ((gt p_l s2.2.2).2.2.2.2.2)])]) hf (by kernel_rfl)
      refine st tbOk 1 [0, 1, 6, 7, 8, 9, 10, 11, 33] (L' := [(0, .slice ao1 p_l.length cp1), (1, .slice ao2 files.length cp2), (6, .slice ao4 s2.1.length cp4), (7, strV s2.2.1), (8, .int .i64 s2.2.2), (9, .pointer (some ⟨w1.heap.size, 0, none⟩)), (10, strV z1.1), (11, .bool z1.2), (33, .agg #[.int .u64 ((gt p_l s2.2.2).1), .int .i64 ((gt p_l s2.2.2).2.1), .bool ((gt p_l s2.2.2).2.2.1), strV ((gt p_l s2.2.2).2.2.2.1), .int .u64 ((gt p_l s2.2.2).2.2.2.2.1), strV ((gt p_l s2.2.2).2.2.2.2.2), .bool true, .int .u32 0])]) hf (by kernel_rfl) ?_
      clear hf; clear a; intro a hf
      refine al tbOk i48 [.int .u64 0, .int .i64 0, .bool false, strV [], .int .u64 0, strV [], .bool false, .int .u32 0] rfl (by kernel_rfl) hf (by kernel_rfl) (by kernel_rfl) ?_
      clear hf; clear a; intro w5 a hb hx _ hf
      replace hs : Sep w F R w5 F3 [.box w4.heap.size 48 [.int .u64 0, .int .i64 0, .bool false, strV [], .int .u64 0, strV [], .bool false, .int .u32 0], .box w1.heap.size 46 [.int .u64 ((gt p_l s2.2.2).1), .int .i64 ((gt p_l s2.2.2).2.1), .bool ((gt p_l s2.2.2).2.2.1), strV ((gt p_l s2.2.2).2.2.2.1), .int .u64 ((gt p_l s2.2.2).2.2.2.2.1), strV ((gt p_l s2.2.2).2.2.2.2.2)], .row 48 ty47 (.slice ao4 s2.1.length cp4) s2.1, .ro ty45 (.slice ao1 p_l.length cp1) p_l, .ro ty60 (.slice ao2 files.length cp2) files] := hs.newBox hb hx
      clear hb hx
      replace hf := Fr.keep (ks := [0, 1, 6, 7, 8, 9, 10, 11, 12, 33]) (L' := [(0, .slice ao1 p_l.length cp1), (1, .slice ao2 files.length cp2), (6, .slice ao4 s2.1.length cp4), (7, strV s2.2.1), (8, .int .i64 s2.2.2), (9, .pointer (some ⟨w1.heap.size, 0, none⟩)), (10, strV z1.1), (11, .bool z1.2), (12, .pointer (some ⟨w4.heap.size, 0, none⟩)), (33, .agg #[.int .u64 ((gt p_l s2.2.2).1), .int .i64 ((gt p_l s2.2.2).2.1), .bool ((gt p_l s2.2.2).2.2.1), strV ((gt p_l s2.2.2).2.2.2.1), .int .u64 ((gt p_l s2.2.2).2.2.2.2.1), strV ((gt p_l s2.2.2).2.2.2.2.2), .bool true, .int .u32 0])]) hf (by kernel_rfl)
      refine stB tbOk i48 (hs.bx 0 rfl) 0 [.int .u64 ((gt p_l s2.2.2).1), .int .i64 ((gt p_l s2.2.2).2.1), .bool ((gt p_l s2.2.2).2.2.1), strV ((gt p_l s2.2.2).2.2.2.1), .int .u64 ((gt p_l s2.2.2).2.2.2.2.1), strV ((gt p_l s2.2.2).2.2.2.2.2), .bool true, .int .u32 0] [.int .u64 ((gt p_l s2.2.2).1), .int .i64 ((gt p_l s2.2.2).2.1), .bool ((gt p_l s2.2.2).2.2.1), strV ((gt p_l s2.2.2).2.2.2.1), .int .u64 ((gt p_l s2.2.2).2.2.2.2.1), strV ((gt p_l s2.2.2).2.2.2.2.2), .bool true, .int .u32 0] (v := .agg #[.int .u64 ((gt p_l s2.2.2).1), .int .i64 ((gt p_l s2.2.2).2.1), .bool ((gt p_l s2.2.2).2.2.1), strV ((gt p_l s2.2.2).2.2.2.1), .int .u64 ((gt p_l s2.2.2).2.2.2.2.1), strV ((gt p_l s2.2.2).2.2.2.2.2), .bool true, .int .u32 0]) rfl rfl (by kernel_rfl) (by kernel_rfl) (by kernel_rfl) (by kernel_rfl) hf (by kernel_rfl) (by kernel_rfl) (by kernel_rfl) ?_
      clear hf; clear a; intro w6 a hb hg _ hf
      replace hs : Sep w F R w6 F3 [.box w4.heap.size 48 [.int .u64 ((gt p_l s2.2.2).1), .int .i64 ((gt p_l s2.2.2).2.1), .bool ((gt p_l s2.2.2).2.2.1), strV ((gt p_l s2.2.2).2.2.2.1), .int .u64 ((gt p_l s2.2.2).2.2.2.2.1), strV ((gt p_l s2.2.2).2.2.2.2.2), .bool true, .int .u32 0], .box w1.heap.size 46 [.int .u64 ((gt p_l s2.2.2).1), .int .i64 ((gt p_l s2.2.2).2.1), .bool ((gt p_l s2.2.2).2.2.1), strV ((gt p_l s2.2.2).2.2.2.1), .int .u64 ((gt p_l s2.2.2).2.2.2.2.1), strV ((gt p_l s2.2.2).2.2.2.2.2)], .row 48 ty47 (.slice ao4 s2.1.length cp4) s2.1, .ro ty45 (.slice ao1 p_l.length cp1) p_l, .ro ty60 (.slice ao2 files.length cp2) files] := hs.updBox 0 rfl hb hg
      clear hb hg
      replace hf := Fr.keep (ks := [0, 1, 6, 7, 8, 9, 10, 11, 12]) (L' := [(0, .slice ao1 p_l.length cp1), (1, .slice ao2 files.length cp2), (6, .slice ao4 s2.1.length cp4), (7, strV s2.2.1), (8, .int .i64 s2.2.2), (9, .pointer (some ⟨w1.heap.size, 0, none⟩)), (10, strV z1.1), (11, .bool z1.2), (12, .pointer (some ⟨w4.heap.size, 0, none⟩))]) hf (by kernel_rfl)
      refine wpList_nil ?_
      refine sq ?_
      refine sq ?_
      refine ctj (fun (s3 : Bool) (a : Act) (w' : World) => ∃ (F4 : SH), Sep w F R w' F4 [.box w4.heap.size 48 [.int .u64 ((gt p_l s2.2.2).1), .int .i64 ((gt p_l s2.2.2).2.1), .bool ((gt p_l s2.2.2).2.2.1), strV ((gt p_l s2.2.2).2.2.2.1), .int .u64 ((gt p_l s2.2.2).2.2.2.2.1), strV ((gt p_l s2.2.2).2.2.2.2.2), .bool true, .int .u32 0], .box w1.heap.size 46 [.int .u64 ((gt p_l s2.2.2).1), .int .i64 ((gt p_l s2.2.2).2.1), .bool ((gt p_l s2.2.2).2.2.1), strV ((gt p_l s2.2.2).2.2.2.1), .int .u64 ((gt p_l s2.2.2).2.2.2.2.1), strV ((gt p_l s2.2.2).2.2.2.2.2)], .row 48 ty47 (.slice ao4 s2.1.length cp4) s2.1, .ro ty45 (.slice ao1 p_l.length cp1) p_l, .ro ty60 (.slice ao2 files.length cp2) files] ∧ Fr 57 [(0, .slice ao1 p_l.length cp1), (1, .slice ao2 files.length cp2), (6, .slice ao4 s2.1.length cp4), (7, strV s2.2.1), (8, .int .i64 s2.2.2), (9, .pointer (some ⟨w1.heap.size, 0, none⟩)), (10, strV z1.1), (12, .pointer (some ⟨w4.heap.size, 0, none⟩)), (40, .bool s3)] a) hS ?_ ?_
      · clear hS hf hs; clear a; intro s3 a w7 hM hS
        obtain ⟨F4, hs, hf⟩ := hM
        refine ctj (fun (s4 : (List UInt8) × ((Int × Int × Bool × (List UInt8) × Int × (List UInt8)) × Bool × Int)) (a : Act) (w' : World) => ∃ (F5 : SH), Sep w F R w' F5 [.box w4.heap.size 48 [.int .u64 s4.2.1.1, .int .i64 s4.2.1.2.1, .bool s4.2.1.2.2.1, strV s4.2.1.2.2.2.1, .int .u64 s4.2.1.2.2.2.2.1, strV s4.2.1.2.2.2.2.2, .bool s4.2.2.1, .int .u32 s4.2.2.2], .row 48 ty47 (.slice ao4 s2.1.length cp4) s2.1, .ro ty45 (.slice ao1 p_l.length cp1) p_l, .ro ty60 (.slice ao2 files.length cp2) files] ∧ Fr 57 [(0, .slice ao1 p_l.length cp1), (1, .slice ao2 files.length cp2), (6, .slice ao4 s2.1.length cp4), (7, strV s4.1), (8, .int .i64 s2.2.2), (12, .pointer (some ⟨w4.heap.size, 0, none⟩))] a) hS ?_ ?_
        · clear hS hf hs; clear a; intro s4 a w11 hM hS
          obtain ⟨F5, hs, hf⟩ := hM
          refine sq ?_
          refine reg ?_
          refine st tbOk 2 [0, 1, 6, 7, 8, 12, 50] (L' := [(0, .slice ao1 p_l.length cp1), (1, .slice ao2 files.length cp2), (6, .slice ao4 s2.1.length cp4), (7, strV s4.1), (8, .int .i64 s2.2.2), (12, .pointer (some ⟨w4.heap.size, 0, none⟩)), (50, .pointer (some ⟨w4.heap.size, 5, none⟩))]) hf (by kernel_rfl) ?_
          clear hf; clear a; intro a hf
          refine stB tbOk i9 (hs.bx 0 rfl) 5 [strV []] [.int .u64 s4.2.1.1, .int .i64 s4.2.1.2.1, .bool s4.2.1.2.2.1, strV s4.2.1.2.2.2.1, .int .u64 s4.2.1.2.2.2.2.1, strV [], .bool s4.2.2.1, .int .u32 s4.2.2.2] (v := strV []) rfl rfl (by kernel_rfl) (by kernel_rfl) (by kernel_rfl) (by kernel_rfl) hf (by kernel_rfl) (by kernel_rfl) (by kernel_rfl) ?_
          clear hf; clear a; intro w12 a hb hg _ hf
          replace hs : Sep w F R w12 F5 [.box w4.heap.size 48 [.int .u64 s4.2.1.1, .int .i64 s4.2.1.2.1, .bool s4.2.1.2.2.1, strV s4.2.1.2.2.2.1, .int .u64 s4.2.1.2.2.2.2.1, strV [], .bool s4.2.2.1, .int .u32 s4.2.2.2], .row 48 ty47 (.slice ao4 s2.1.length cp4) s2.1, .ro ty45 (.slice ao1 p_l.length cp1) p_l, .ro ty60 (.slice ao2 files.length cp2) files] := hs.updBox 0 rfl hb hg
          clear hb hg
          replace hf := Fr.keep (ks := [0, 1, 6, 7, 8, 12]) (L' := [(0, .slice ao1 p_l.length cp1), (1, .slice ao2 files.length cp2), (6, .slice ao4 s2.1.length cp4), (7, strV s4.1), (8, .int .i64 s2.2.2), (12, .pointer (some ⟨w4.heap.size, 0, none⟩))]) hf (by kernel_rfl)
          refine wpList_nil ?_
          refine reg ?_
          refine st tbOk 1 [0, 1, 7, 8, 12, 51] (L' := [(0, .slice ao1 p_l.length cp1), (1, .slice ao2 files.length cp2), (7, strV s4.1), (8, .int .i64 s2.2.2), (12, .pointer (some ⟨w4.heap.size, 0, none⟩)), (51, .slice ao4 s2.1.length cp4)]) hf (by kernel_rfl) ?_
          clear hf; clear a; intro a hf
          refine ldC tbOk (T := 48) (hs.cbx 0 rfl) (LeH.refl _) 0 (.agg #[.int .u64 s4.2.1.1, .int .i64 s4.2.1.2.1, .bool s4.2.1.2.2.1, strV s4.2.1.2.2.2.1, .int .u64 s4.2.1.2.2.2.2.1, strV [], .bool s4.2.2.1, .int .u32 s4.2.2.2]) hf (by kernel_rfl) (by kernel_rfl) (by kernel_rfl) (by kernel_rfl) ?_
          clear hf; clear a; intro a hf
          replace hs : Sep w F R w12 F5 [.row 48 ty47 (.slice ao4 s2.1.length cp4) s2.1, .ro ty45 (.slice ao1 p_l.length cp1) p_l, .ro ty60 (.slice ao2 files.length cp2) files] := hs.sel [1, 2, 3] rfl rfl
          replace hf := Fr.keep (ks := [0, 1, 7, 8, 51, 52]) (L' := [(0, .slice ao1 p_l.length cp1), (1, .slice ao2 files.length cp2), (7, strV s4.1), (8, .int .i64 s2.2.2), (51, .slice ao4 s2.1.length cp4), (52, .agg #[.int .u64 s4.2.1.1, .int .i64 s4.2.1.2.1, .bool s4.2.1.2.2.1, strV s4.2.1.2.2.2.1, .int .u64 s4.2.1.2.2.2.2.1, strV [], .bool s4.2.2.1, .int .u32 s4.2.2.2])]) hf (by kernel_rfl)
          refine bsR tbOk u39 i48 rfl (t := ty47) (vs := [(0, .agg #[.int .u64 s4.2.1.1, .int .i64 s4.2.1.2.1, .bool s4.2.1.2.2.1, strV s4.2.1.2.2.2.1, .int .u64 s4.2.1.2.2.2.2.1, strV [], .bool s4.2.2.1, .int .u32 s4.2.2.2])]) (cells := #[.int .u64 s4.2.1.1, .int .i64 s4.2.1.2.1, .bool s4.2.1.2.2.1, strV s4.2.1.2.2.2.1, .int .u64 s4.2.1.2.2.2.2.1, strV [], .bool s4.2.2.1, .int .u32 s4.2.2.2]) ([((s4.2.1.1, s4.2.1.2.1, s4.2.1.2.2.1, s4.2.1.2.2.2.1, s4.2.1.2.2.2.2.1, []), s4.2.2.1, s4.2.2.2)] : List ((Int × Int × Bool × (List UInt8) × Int × (List UInt8)) × Bool × Int)) hs.le hf (by kernel_rfl) (by kernel_rfl) (by kernel_rfl) rfl (by kernel_rfl) (reps_flat _) rfl ?_
          clear hf; clear a; intro w13 a ho hx hf
          replace hs : Sep w F R w13 F5 [.row 48 ty47 (.slice (some ⟨w12.heap.size, 0, none⟩) ([((s4.2.1.1, s4.2.1.2.1, s4.2.1.2.2.1, s4.2.1.2.2.2.1, s4.2.1.2.2.2.2.1, []), s4.2.2.1, s4.2.2.2)] : List ((Int × Int × Bool × (List UInt8) × Int × (List UInt8)) × Bool × Int)).length ([((s4.2.1.1, s4.2.1.2.1, s4.2.1.2.2.1, s4.2.1.2.2.2.1, s4.2.1.2.2.2.2.1, []), s4.2.2.1, s4.2.2.2)] : List ((Int × Int × Bool × (List UInt8) × Int × (List UInt8)) × Bool × Int)).length) ([((s4.2.1.1, s4.2.1.2.1, s4.2.1.2.2.1, s4.2.1.2.2.2.1, s4.2.1.2.2.2.2.1, []), s4.2.2.1, s4.2.2.2)] : List ((Int × Int × Bool × (List UInt8) × Int × (List UInt8)) × Bool × Int)), .row 48 ty47 (.slice ao4 s2.1.length cp4) s2.1, .ro ty45 (.slice ao1 p_l.length cp1) p_l, .ro ty60 (.slice ao2 files.length cp2) files] := hs.newRow ho hx
          clear ho hx
          replace hf := Fr.keep (ks := [0, 1, 7, 8, 51, 53]) (L' := [(0, .slice ao1 p_l.length cp1), (1, .slice ao2 files.length cp2), (7, strV s4.1), (8, .int .i64 s2.2.2), (51, .slice ao4 s2.1.length cp4), (53, .slice (some ⟨w12.heap.size, 0, none⟩) ([((s4.2.1.1, s4.2.1.2.1, s4.2.1.2.2.1, s4.2.1.2.2.2.1, s4.2.1.2.2.2.2.1, []), s4.2.2.1, s4.2.2.2)] : List ((Int × Int × Bool × (List UInt8) × Int × (List UInt8)) × Bool × Int)).length ([((s4.2.1.1, s4.2.1.2.1, s4.2.1.2.2.1, s4.2.1.2.2.2.1, s4.2.1.2.2.2.2.1, []), s4.2.2.1, s4.2.2.2)] : List ((Int × Int × Bool × (List UInt8) × Int × (List UInt8)) × Bool × Int)).length)]) hf (by kernel_rfl)
          have hT := of_gd hS; clear hS; obtain ⟨hc3, hS⟩ := hT
          refine apR tbOk u39 i48 rfl rfl rfl rfl hs.le (hs.own 1 rfl) (hs.raW 0 rfl) hc3 hf (by kernel_rfl) (by kernel_rfl) (by kernel_rfl) (by kernel_rfl) ?_
          clear hf; clear a; intro ao5 cp5 w14 a ho hg hl hf
          replace hs : Sep w F R w14 F5 [.row 48 ty47 (.slice (some ⟨w12.heap.size, 0, none⟩) ([((s4.2.1.1, s4.2.1.2.1, s4.2.1.2.2.1, s4.2.1.2.2.2.1, s4.2.1.2.2.2.2.1, []), s4.2.2.1, s4.2.2.2)] : List ((Int × Int × Bool × (List UInt8) × Int × (List UInt8)) × Bool × Int)).length ([((s4.2.1.1, s4.2.1.2.1, s4.2.1.2.2.1, s4.2.1.2.2.2.1, s4.2.1.2.2.2.2.1, []), s4.2.2.1, s4.2.2.2)] : List ((Int × Int × Bool × (List UInt8) × Int × (List UInt8)) × Bool × Int)).length) ([((s4.2.1.1, s4.2.1.2.1, s4.2.1.2.2.1, s4.2.1.2.2.2.1, s4.2.1.2.2.2.2.1, []), s4.2.2.1, s4.2.2.2)] : List ((Int × Int × Bool × (List UInt8) × Int × (List UInt8)) × Bool × Int)), .row 48 ty47 (.slice ao5 (s2.1 ++ ([((s4.2.1.1, s4.2.1.2.1, s4.2.1.2.2.1, s4.2.1.2.2.2.1, s4.2.1.2.2.2.2.1, []), s4.2.2.1, s4.2.2.2)] : List ((Int × Int × Bool × (List UInt8) × Int × (List UInt8)) × Bool × Int))).length cp5) (s2.1 ++ ([((s4.2.1.1, s4.2.1.2.1, s4.2.1.2.2.1, s4.2.1.2.2.2.1, s4.2.1.2.2.2.2.1, []), s4.2.2.1, s4.2.2.2)] : List ((Int × Int × Bool × (List UInt8) × Int × (List UInt8)) × Bool × Int))), .ro ty45 (.slice ao1 p_l.length cp1) p_l, .ro ty60 (.slice ao2 files.length cp2) files] := hs.updRow 1 rfl ho hg hl
          clear ho hg hl
          replace hs : Sep w F R w14 F5 [.row 48 ty47 (.slice ao5 (s2.1 ++ ([((s4.2.1.1, s4.2.1.2.1, s4.2.1.2.2.1, s4.2.1.2.2.2.1, s4.2.1.2.2.2.2.1, []), s4.2.2.1, s4.2.2.2)] : List ((Int × Int × Bool × (List UInt8) × Int × (List UInt8)) × Bool × Int))).length cp5) (s2.1 ++ ([((s4.2.1.1, s4.2.1.2.1, s4.2.1.2.2.1, s4.2.1.2.2.2.1, s4.2.1.2.2.2.2.1, []), s4.2.2.1, s4.2.2.2)] : List ((Int × Int × Bool × (List UInt8) × Int × (List UInt8)) × Bool × Int))), .ro ty45 (.slice ao1 p_l.length cp1) p_l, .ro ty60 (.slice ao2 files.length cp2) files] := hs.sel [1, 2, 3] rfl rfl
          replace hf := Fr.keep (ks := [0, 1, 7, 8, 54]) (L' := [(0, .slice ao1 p_l.length cp1), (1, .slice ao2 files.length cp2), (7, strV s4.1), (8, .int .i64 s2.2.2), (54, .slice ao5 (s2.1 ++ ([((s4.2.1.1, s4.2.1.2.1, s4.2.1.2.2.1, s4.2.1.2.2.2.1, s4.2.1.2.2.2.2.1, []), s4.2.2.1, s4.2.2.2)] : List ((Int × Int × Bool × (List UInt8) × Int × (List UInt8)) × Bool × Int))).length cp5)]) hf (by kernel_rfl)
          refine st tbOk 1 [0, 1, 6, 7, 8] (L' := [(0, .slice ao1 p_l.length cp1), (1, .slice ao2 files.length cp2), (6, .slice ao5 (s2.1 ++ ([((s4.2.1.1, s4.2.1.2.1, s4.2.1.2.2.1, s4.2.1.2.2.2.1, s4.2.1.2.2.2.2.1, []), s4.2.2.1, s4.2.2.2)] : List ((Int × Int × Bool × (List UInt8) × Int × (List UInt8)) × Bool × Int))).length cp5), (7, strV s4.1), (8, .int .i64 s2.2.2)]) hf (by kernel_rfl) ?_
          clear hf; clear a; intro a hf
          refine wpList_nil ?_
          refine reg ?_
          have hT := of_let hS; clear hS; obtain ⟨i_1, hl2, hS⟩ := hT
          refine st tbOk 3 [0, 1, 6, 7, 8] (L' := [(0, .slice ao1 p_l.length cp1), (1, .slice ao2 files.length cp2), (6, .slice ao5 (s2.1 ++ ([((s4.2.1.1, s4.2.1.2.1, s4.2.1.2.2.1, s4.2.1.2.2.2.1, s4.2.1.2.2.2.2.1, []), s4.2.2.1, s4.2.2.2)] : List ((Int × Int × Bool × (List UInt8) × Int × (List UInt8)) × Bool × Int))).length cp5), (7, strV s4.1), (8, .int .i64 i_1)]) hf (by subst hl2; kernel_rfl) ?_
          clear hf; clear a; intro a hf
          refine wpList_nil ?_
          exact hK2 ((s2.1 ++ ([((s4.2.1.1, s4.2.1.2.1, s4.2.1.2.2.1, s4.2.1.2.2.2.1, s4.2.1.2.2.2.2.1, []), s4.2.2.1, s4.2.2.2)] : List ((Int × Int × Bool × (List UInt8) × Int × (List UInt8)) × Bool × Int))), s4.1, i_1) _ _ ⟨ao5, cp5, _, hs.sel [0, 1, 2] rfl rfl, hf.keep (ks := [0, 1, 6, 7, 8]) (by kernel_rfl)⟩ hS
        · clear hS; intro KK4 k3 hK4 hS
          refine cnd (b := s3) hf (by kernel_rfl) (fun hb3 => ?_) (fun hb3 => ?_)
          · replace hS := of_t hb3 hS
            refine sq ?_
            refine reg ?_
            refine st tbOk 1 [0, 1, 6, 7, 8, 10, 12, 41] (L' := [(0, .slice ao1 p_l.length cp1), (1, .slice ao2 files.length cp2), (6, .slice ao4 s2.1.length cp4), (7, strV s2.2.1), (8, .int .i64 s2.2.2), (10, strV z1.1), (12, .pointer (some ⟨w4.heap.size, 0, none⟩)), (41, .pointer (some ⟨w4.heap.size, 6, none⟩))]) hf (by kernel_rfl) ?_
            clear hf; clear a; intro a hf
            refine stB tbOk i4 (hs.bx 0 rfl) 6 [.bool false] [.int .u64 ((gt p_l s2.2.2).1), .int .i64 ((gt p_l s2.2.2).2.1), .bool ((gt p_l s2.2.2).2.2.1), strV ((gt p_l s2.2.2).2.2.2.1), .int .u64 ((gt p_l s2.2.2).2.2.2.2.1), strV ((gt p_l s2.2.2).2.2.2.2.2), .bool false, .int .u32 0] (v := .bool false) rfl rfl (by kernel_rfl) (by kernel_rfl) (by kernel_rfl) (by kernel_rfl) hf (by kernel_rfl) (by kernel_rfl) (by kernel_rfl) ?_
            clear hf; clear a; intro w8 a hb hg _ hf
            replace hs : Sep w F R w8 F4 [.box w4.heap.size 48 [.int .u64 ((gt p_l s2.2.2).1), .int .i64 ((gt p_l s2.2.2).2.1), .bool ((gt p_l s2.2.2).2.2.1), strV ((gt p_l s2.2.2).2.2.2.1), .int .u64 ((gt p_l s2.2.2).2.2.2.2.1), strV ((gt p_l s2.2.2).2.2.2.2.2), .bool false, .int .u32 0], .box w1.heap.size 46 [.int .u64 ((gt p_l s2.2.2).1), .int .i64 ((gt p_l s2.2.2).2.1), .bool ((gt p_l s2.2.2).2.2.1), strV ((gt p_l s2.2.2).2.2.2.1), .int .u64 ((gt p_l s2.2.2).2.2.2.2.1), strV ((gt p_l s2.2.2).2.2.2.2.2)], .row 48 ty47 (.slice ao4 s2.1.length cp4) s2.1, .ro ty45 (.slice ao1 p_l.length cp1) p_l, .ro ty60 (.slice ao2 files.length cp2) files] := hs.updBox 0 rfl hb hg
            clear hb hg
            replace hs : Sep w F R w8 F4 [.box w4.heap.size 48 [.int .u64 ((gt p_l s2.2.2).1), .int .i64 ((gt p_l s2.2.2).2.1), .bool ((gt p_l s2.2.2).2.2.1), strV ((gt p_l s2.2.2).2.2.2.1), .int .u64 ((gt p_l s2.2.2).2.2.2.2.1), strV ((gt p_l s2.2.2).2.2.2.2.2), .bool false, .int .u32 0], .row 48 ty47 (.slice ao4 s2.1.length cp4) s2.1, .ro ty45 (.slice ao1 p_l.length cp1) p_l, .ro ty60 (.slice ao2 files.length cp2) files] := hs.sel [0, 2, 3, 4] rfl rfl
            replace hf := Fr.keep (ks := [0, 1, 6, 7, 8, 10, 12]) (L' := [(0, .slice ao1 p_l.length cp1), (1, .slice ao2 files.length cp2), (6, .slice ao4 s2.1.length cp4), (7, strV s2.2.1), (8, .int .i64 s2.2.2), (10, strV z1.1), (12, .pointer (some ⟨w4.heap.size, 0, none⟩))]) hf (by kernel_rfl)
            refine wpList_nil ?_
            refine reg ?_
            refine st tbOk 1 [0, 1, 6, 7, 8, 12, 42] (L' := [(0, .slice ao1 p_l.length cp1), (1, .slice ao2 files.length cp2), (6, .slice ao4 s2.1.length cp4), (7, strV s2.2.1), (8, .int .i64 s2.2.2), (12, .pointer (some ⟨w4.heap.size, 0, none⟩)), (42, strV z1.1)]) hf (by kernel_rfl) ?_
            clear hf; clear a; intro a hf
            have hT := of_bd hS; clear hS; obtain ⟨z2, hz2, hS⟩ := hT
            refine clV ent18 (vs := [strV z1.1]) (caps := []) hf (by kernel_rfl) (by kernel_rfl) (by kernel_rfl) (by kernel_rfl) (ref21_Sum_ok (b := z1.1) (hs.enter [] rfl rfl) hz2) ?_
            clear hf; clear a; intro v w9 a hT hf; obtain ⟨F6, rfl, hr⟩ := hT
            replace hs : Sep w F R w9 F6 [.box w4.heap.size 48 [.int .u64 ((gt p_l s2.2.2).1), .int .i64 ((gt p_l s2.2.2).2.1), .bool ((gt p_l s2.2.2).2.2.1), strV ((gt p_l s2.2.2).2.2.2.1), .int .u64 ((gt p_l s2.2.2).2.2.2.2.1), strV ((gt p_l s2.2.2).2.2.2.2.2), .bool false, .int .u32 0], .row 48 ty47 (.slice ao4 s2.1.length cp4) s2.1, .ro ty45 (.slice ao1 p_l.length cp1) p_l, .ro ty60 (.slice ao2 files.length cp2) files] := hs.back [] [0, 1, 2, 3] rfl rfl rfl rfl hr
            clear hr
            replace hf := Fr.keep (ks := [0, 1, 6, 7, 8, 12, 43]) (L' := [(0, .slice ao1 p_l.length cp1), (1, .slice ao2 files.length cp2), (6, .slice ao4 s2.1.length cp4), (7, strV s2.2.1), (8, .int .i64 s2.2.2), (12, .pointer (some ⟨w4.heap.size, 0, none⟩)), (43, .int .u32 z2)]) hf (by kernel_rfl)
            refine st tbOk 1 [0, 1, 6, 7, 8, 12, 43, 44] (L' := [(0, .slice ao1 p_l.length cp1), (1, .slice ao2 files.length cp2), (6, .slice ao4 s2.1.length cp4), (7, strV s2.2.1), (8, .int .i64 s2.2.2), (12, .pointer (some ⟨w4.heap.size, 0, none⟩)), (43, .int .u32 z2), (44, .pointer (some ⟨w4.heap.size, 7, none⟩))]) hf (by kernel_rfl) ?_
            clear hf; clear a; intro a hf
            refine stB tbOk i31 (hs.bx 0 rfl) 7 [.int .u32 z2] [.int .u64 ((gt p_l s2.2.2).1), .int .i64 ((gt p_l s2.2.2).2.1), .bool ((gt p_l s2.2.2).2.2.1), strV ((gt p_l s2.2.2).2.2.2.1), .int .u64 ((gt p_l s2.2.2).2.2.2.2.1), strV ((gt p_l s2.2.2).2.2.2.2.2), .bool false, .int .u32 z2] (v := .int .u32 z2) rfl rfl (by kernel_rfl) (by kernel_rfl) (by kernel_rfl) (by kernel_rfl) hf (by kernel_rfl) (by kernel_rfl) (by kernel_rfl) ?_
            clear hf; clear a; intro w10 a hb hg _ hf
            replace hs : Sep w F R w10 F6 [.box w4.heap.size 48 [.int .u64 ((gt p_l s2.2.2).1), .int .i64 ((gt p_l s2.2.2).2.1), .bool ((gt p_l s2.2.2).2.2.1), strV ((gt p_l s2.2.2).2.2.2.1), .int .u64 ((gt p_l s2.2.2).2.2.2.2.1), strV ((gt p_l s2.2.2).2.2.2.2.2), .bool false, .int .u32 z2], .row 48 ty47 (.slice ao4 s2.1.length cp4) s2.1, .ro ty45 (.slice ao1 p_l.length cp1) p_l, .ro ty60 (.slice ao2 files.length cp2) files] := hs.updBox 0 rfl hb hg
            clear hb hg
            replace hf := Fr.keep (ks := [0, 1, 6, 7, 8, 12]) (L' := [(0, .slice ao1 p_l.length cp1), (1, .slice ao2 files.length cp2), (6, .slice ao4 s2.1.length cp4), (7, strV s2.2.1), (8, .int .i64 s2.2.2), (12, .pointer (some ⟨w4.heap.size, 0, none⟩))]) hf (by kernel_rfl)
            refine wpList_nil ?_
            exact hK4 (s2.2.1, (((gt p_l s2.2.2).1, (gt p_l s2.2.2).2.1, (gt p_l s2.2.2).2.2.1, (gt p_l s2.2.2).2.2.2.1, (gt p_l s2.2.2).2.2.2.2.1, (gt p_l s2.2.2).2.2.2.2.2), false, z2)) _ _ ⟨_, hs.sel [0, 1, 2, 3] rfl rfl, hf.keep (ks := [0, 1, 6, 7, 8, 12]) (by kernel_rfl)⟩ hS
          · replace hS := of_f hb3 hS
            refine reg ?_
            refine st tbOk 2 [0, 1, 6, 8, 12, 45, 46] (L' := [(0, .slice ao1 p_l.length cp1), (1, .slice ao2 files.length cp2), (6, .slice ao4 s2.1.length cp4), (8, .int .i64 s2.2.2), (12, .pointer (some ⟨w4.heap.size, 0, none⟩)), (45, strV s2.2.1), (46, .pointer (some ⟨w1.heap.size, 5, none⟩))]) hf (by kernel_rfl) ?_
            clear hf; clear a; intro a hf
            refine ldC tbOk (T := 9) (hs.cbx 1 rfl) (LeH.refl _) 5 (strV ((gt p_l s2.2.2).2.2.2.2.2)) hf (by kernel_rfl) (by kernel_rfl) (by kernel_rfl) (by kernel_rfl) ?_
            clear hf; clear a; intro a hf
            replace hs : Sep w F R w7 F4 [.box w4.heap.size 48 [.int .u64 ((gt p_l s2.2.2).1), .int .i64 ((gt p_l s2.2.2).2.1), .bool ((gt p_l s2.2.2).2.2.1), strV ((gt p_l s2.2.2).2.2.2.1), .int .u64 ((gt p_l s2.2.2).2.2.2.2.1), strV ((gt p_l s2.2.2).2.2.2.2.2), .bool true, .int .u32 0], .row 48 ty47 (.slice ao4 s2.1.length cp4) s2.1, .ro ty45 (.slice ao1 p_l.length cp1) p_l, .ro ty60 (.slice ao2 files.length cp2) files] := hs.sel [0, 2, 3, 4] rfl rfl
            replace hf := Fr.keep (ks := [0, 1, 6, 8, 12, 45, 47]) (L' := [(0, .slice ao1 p_l.length cp1), (1, .slice ao2 files.length cp2), (6, .slice ao4 s2.1.length cp4), (8, .int .i64 s2.2.2), (12, .pointer (some ⟨w4.heap.size, 0, none⟩)), (45, strV s2.2.1), (47, strV ((gt p_l s2.2.2).2.2.2.2.2))]) hf (by kernel_rfl)
            have hT := of_gd hS; clear hS; obtain ⟨hc2, hS⟩ := hT
            refine addS hc2 hf (by kernel_rfl) (by kernel_rfl) (by kernel_rfl) (by kernel_rfl) ?_
            clear hf; clear a; intro a hf
            replace hf := Fr.keep (ks := [0, 1, 6, 8, 12, 48]) (L' := [(0, .slice ao1 p_l.length cp1), (1, .slice ao2 files.length cp2), (6, .slice ao4 s2.1.length cp4), (8, .int .i64 s2.2.2), (12, .pointer (some ⟨w4.heap.size, 0, none⟩)), (48, strV (s2.2.1 ++ ((gt p_l s2.2.2).2.2.2.2.2)))]) hf (by kernel_rfl)
            have hT := of_let hS; clear hS; obtain ⟨kept_1, hl1, hS⟩ := hT
            refine st tbOk 1 [0, 1, 6, 7, 8, 12] (L' := [(0, .slice ao1 p_l.length cp1), (1, .slice ao2 files.length cp2), (6, .slice ao4 s2.1.length cp4), (7, strV kept_1), (8, .int .i64 s2.2.2), (12, .pointer (some ⟨w4.heap.size, 0, none⟩))]) hf (by subst hl1; kernel_rfl) ?_
            clear hf; clear a; intro a hf
            refine wpList_nil ?_
            exact hK4 (kept_1, (((gt p_l s2.2.2).1, (gt p_l s2.2.2).2.1, (gt p_l s2.2.2).2.2.1, (gt p_l s2.2.2).2.2.2.1, (gt p_l s2.2.2).2.2.2.2.1, (gt p_l s2.2.2).2.2.2.2.2), true, 0)) _ _ ⟨_, hs.sel [0, 1, 2, 3] rfl rfl, hf.keep (ks := [0, 1, 6, 7, 8, 12]) (by kernel_rfl)⟩ hS
      · clear hS; intro KK3 k2 hK3 hS
        refine reg ?_
        refine st tbOk 2 [0, 1, 6, 7, 8, 9, 10, 12, 35] (L' := [(0, .slice ao1 p_l.length cp1), (1, .slice ao2 files.length cp2), (6, .slice ao4 s2.1.length cp4), (7, strV s2.2.1), (8, .int .i64 s2.2.2), (9, .pointer (some ⟨w1.heap.size, 0, none⟩)), (10, strV z1.1), (12, .pointer (some ⟨w4.heap.size, 0, none⟩)), (35, .bool z1.2)]) hf (by kernel_rfl) ?_
        clear hf; clear a; intro a hf
        rcases Bool.eq_false_or_eq_true (z1.2) with hb2 | hb2
        · replace hS := of_t hb2 hS
          replace hf := Fr.cast (L' := [(0, .slice ao1 p_l.length cp1), (1, .slice ao2 files.length cp2), (6, .slice ao4 s2.1.length cp4), (7, strV s2.2.1), (8, .int .i64 s2.2.2), (9, .pointer (some ⟨w1.heap.size, 0, none⟩)), (10, strV z1.1), (12, .pointer (some ⟨w4.heap.size, 0, none⟩)), (35, .bool true)]) hf (by rw [hb2])
          refine st tbOk 2 [0, 1, 6, 7, 8, 9, 10, 12, 35, 36, 37] (L' := [(0, .slice ao1 p_l.length cp1), (1, .slice ao2 files.length cp2), (6, .slice ao4 s2.1.length cp4), (7, strV s2.2.1), (8, .int .i64 s2.2.2), (9, .pointer (some ⟨w1.heap.size, 0, none⟩)), (10, strV z1.1), (12, .pointer (some ⟨w4.heap.size, 0, none⟩)), (35, .bool true), (36, strV z1.1), (37, .pointer (some ⟨w1.heap.size, 5, none⟩))]) hf (by kernel_rfl) ?_
          clear hf; clear a; intro a hf
          refine ldC tbOk (T := 9) (hs.cbx 1 rfl) (LeH.refl _) 5 (strV ((gt p_l s2.2.2).2.2.2.2.2)) hf (by kernel_rfl) (by kernel_rfl) (by kernel_rfl) (by kernel_rfl) ?_
          clear hf; clear a; intro a hf
          replace hf := Fr.keep (ks := [0, 1, 6, 7, 8, 9, 10, 12, 35, 36, 38]) (L' := [(0, .slice ao1 p_l.length cp1), (1, .slice ao2 files.length cp2), (6, .slice ao4 s2.1.length cp4), (7, strV s2.2.1), (8, .int .i64 s2.2.2), (9, .pointer (some ⟨w1.heap.size, 0, none⟩)), (10, strV z1.1), (12, .pointer (some ⟨w4.heap.size, 0, none⟩)), (35, .bool true), (36, strV z1.1), (38, strV ((gt p_l s2.2.2).2.2.2.2.2))]) hf (by kernel_rfl)
          refine st tbOk 2 [0, 1, 6, 7, 8, 9, 10, 12, 40] (L' := [(0, .slice ao1 p_l.length cp1), (1, .slice ao2 files.length cp2), (6, .slice ao4 s2.1.length cp4), (7, strV s2.2.1), (8, .int .i64 s2.2.2), (9, .pointer (some ⟨w1.heap.size, 0, none⟩)), (10, strV z1.1), (12, .pointer (some ⟨w4.heap.size, 0, none⟩)), (40, .bool (z1.1 == ((gt p_l s2.2.2).2.2.2.2.2)))]) hf (by kernel_rfl) ?_
          clear hf; clear a; intro a hf
          refine wpList_nil ?_
          exact hK3 (z1.1 == ((gt p_l s2.2.2).2.2.2.2.2)) _ _ ⟨_, hs.sel [0, 1, 2, 3, 4] rfl rfl, hf.keep (ks := [0, 1, 6, 7, 8, 9, 10, 12, 40]) (by kernel_rfl)⟩ hS
        · replace hS := of_f hb2 hS
          replace hf := Fr.cast (L' := [(0, .slice ao1 p_l.length cp1), (1, .slice ao2 files.length cp2), (6, .slice ao4 s2.1.length cp4), (7, strV s2.2.1), (8, .int .i64 s2.2.2), (9, .pointer (some ⟨w1.heap.size, 0, none⟩)), (10, strV z1.1), (12, .pointer (some ⟨w4.heap.size, 0, none⟩)), (35, .bool false)]) hf (by rw [hb2])
          refine st tbOk 5 [0, 1, 6, 7, 8, 9, 10, 12, 40] (L' := [(0, .slice ao1 p_l.length cp1), (1, .slice ao2 files.length cp2), (6, .slice ao4 s2.1.length cp4), (7, strV s2.2.1), (8, .int .i64 s2.2.2), (9, .pointer (some ⟨w1.heap.size, 0, none⟩)), (10, strV z1.1), (12, .pointer (some ⟨w4.heap.size, 0, none⟩)), (40, .bool false)]) hf (by kernel_rfl) ?_
          clear hf; clear a; intro a hf
          refine wpList_nil ?_
          exact hK3 false _ _ ⟨_, hs.sel [0, 1, 2, 3, 4] rfl rfl, hf.keep (ks := [0, 1, 6, 7, 8, 9, 10, 12, 40]) (by kernel_rfl)⟩ hS
    · replace hS := of_f hb1 hS
      refine wp_exit ?_
      exact hK1 (s2.1, s2.2.1) _ _ ⟨ao4, cp4, _, hs.sel [0] rfl rfl, hf.keep (ks := [6, 7]) (by kernel_rfl)⟩ hS

end Dm
