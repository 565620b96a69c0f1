/-
  The walks: a call of each Go function gives what its shallow form gives, where that form gives something; printed by a program of this repo. No condition.
-/
import Derived.Test.YtmocofbneblccaaWT
import Derived.Test.YtmocofbneblccaaW5
namespace Dm
open Go Go.RowKit Go.Proofs

set_option maxHeartbeats 4000000 in
theorem ref21_Join_ok {w : World} {F : SH} {p_l : List ((Int × Int × Bool × (List UInt8) × Int × (List UInt8)) × Bool × Int)} {kept : List UInt8} {files : List ((List UInt8) × (List Int))} {ao1 : Option Addr} {cp1 : Nat} {ao2 : Option Addr} {cp2 : Nat} (hs : Sep w F (blks [.ro ty47 (.slice ao1 p_l.length cp1) p_l, .ro ty60 (.slice ao2 files.length cp2) files]) w F [.ro ty47 (.slice ao1 p_l.length cp1) p_l, .ro ty60 (.slice ao2 files.length cp2) files]) {r : (List (Int × Int × Bool × (List UInt8) × Int × (List UInt8))) × Int} (hS : ref21_Join p_l kept files = some r) :
    Calls Try.prog 24 [.slice ao1 p_l.length cp1, strV kept, .slice ao2 files.length cp2].toArray w (Gives (fun u w' => ∃ (ao6 : Option Addr) (cp6 : Nat) (F' : SH), u = .tuple #[.slice ao6 r.1.length cp6, .int .i64 r.2] ∧ Sep w F (blks [.ro ty47 (.slice ao1 p_l.length cp1) p_l, .ro ty60 (.slice ao2 files.length cp2) files]) w' F' [.row 46 ty45 (.slice ao6 r.1.length cp6) r.1])) := by
  generalize (blks [.ro ty47 (.slice ao1 p_l.length cp1) p_l, .ro ty60 (.slice ao2 files.length cp2) files]) = R at hs ⊢
  unfold ref21_Join at hS
  refine fn_ok (vs := [.slice ao1 p_l.length cp1, strV kept, .slice ao2 files.length cp2]) Try.func24 rfl 75 Try.ntmps24 (Nat.le_of_ble_eq_true rfl) ?_
  intro a hf
  replace hf := Fr.cast (L' := [(0, .slice ao1 p_l.length cp1), (1, strV kept), (2, .slice ao2 files.length cp2)]) hf (by kernel_rfl)
  refine sq ?_
  refine reg ?_
  refine st tbOk 2 [0, 1, 2] (L' := [(0, .slice ao1 p_l.length cp1), (1, strV kept), (2, .slice ao2 files.length cp2)]) hf (by kernel_rfl) ?_
  clear hf; clear a; intro a hf
  refine wpList_nil ?_
  refine sq ?_
  refine reg ?_
  refine st tbOk 1 [0, 1, 2, 8] (L' := [(0, .slice ao1 p_l.length cp1), (1, strV kept), (2, .slice ao2 files.length cp2), (8, .slice none 0 0)]) hf (by kernel_rfl) ?_
  clear hf; clear a; intro a hf
  refine wpList_nil ?_
  refine sq ?_
  refine sq ?_
  refine reg ?_
  refine st tbOk 1 [0, 1, 2, 8, 9] (L' := [(0, .slice ao1 p_l.length cp1), (1, strV kept), (2, .slice ao2 files.length cp2), (8, .slice none 0 0), (9, .int .i64 0)]) hf (by kernel_rfl) ?_
  clear hf; clear a; intro a hf
  refine wpList_nil ?_
  refine ctj (fun (s1 : (List UInt8) × (List (Int × Int × Bool × (List UInt8) × Int × (List UInt8)))) (a : Act) (w' : World) => ∃ (ao3 : Option Addr) (cp3 : Nat) (F1 : SH), Sep w F R w' F1 [.row 46 ty45 (.slice ao3 s1.2.length cp3) s1.2] ∧ Fr 75 [(1, strV s1.1), (8, .slice ao3 s1.2.length cp3)] a) hS ?_ ?_
  · clear hS hf hs; clear a; intro s1 a w14 hM hS
    obtain ⟨ao3, cp3, F1, hs, hf⟩ := hM
    refine sq ?_
    refine sq ?_
    refine reg ?_
    refine st tbOk 2 [8, 73] (L' := [(8, .slice ao3 s1.2.length cp3), (73, .bool (!(s1.1 == [])))]) hf (by kernel_rfl) ?_
    clear hf; clear a; intro a hf
    refine wpList_nil ?_
    refine cnd (b := !(s1.1 == [])) hf (by kernel_rfl) (fun hb7 => ?_) (fun hb7 => ?_)
    · replace hS := of_t hb7 hS
      refine sq ?_
      refine reg ?_
      refine st tbOk 2 [6, 7] (L' := [(6, .slice none 0 0), (7, .int .i64 60)]) hf (by kernel_rfl) ?_
      clear hf; clear a; intro a hf
      refine wpList_nil ?_
      have hr := Option.some.inj hS; subst hr
      refine wp_ret ?_
      replace hs : Sep w F R w14 F1 [.row 46 ty45 (.slice none 0 0) ([] : List (Int × Int × Bool × (List UInt8) × Int × (List UInt8))), .row 46 ty45 (.slice ao3 s1.2.length cp3) s1.2] := hs.addNil 46 ty45
      exact ret_ok hf (vs := [.slice none 0 0, .int .i64 60]) (by kernel_rfl) ⟨none, 0, _, rfl, hs.sel [0] rfl rfl⟩
    · replace hS := of_f hb7 hS
      refine wp_skip ?_
      refine sq ?_
      refine reg ?_
      refine st tbOk 3 [6, 7] (L' := [(6, .slice ao3 s1.2.length cp3), (7, .int .i64 0)]) hf (by kernel_rfl) ?_
      clear hf; clear a; intro a hf
      refine wpList_nil ?_
      have hr := Option.some.inj hS; subst hr
      refine wp_ret ?_
      exact ret_ok hf (vs := [.slice ao3 s1.2.length cp3, .int .i64 0]) (by kernel_rfl) ⟨ao3, cp3, _, rfl, hs.sel [0] rfl rfl⟩
  · clear hS; intro KK1 k1 hK1 hS
    refine blk ?_
    replace hs : Sep w F R w F [.row 46 ty45 (.slice none 0 0) ([] : List (Int × Int × Bool × (List UInt8) × Int × (List UInt8))), .ro ty47 (.slice ao1 p_l.length cp1) p_l, .ro ty60 (.slice ao2 files.length cp2) files] := hs.addNil 46 ty45
    refine lp (st := (kept, [], 0)) (fun (s2 : (List UInt8) × (List (Int × Int × Bool × (List UInt8) × Int × (List UInt8))) × Int) (a : Act) (w' : World) => ∃ (ao4 : Option Addr) (cp4 : Nat) (F2 : SH), Sep w F R w' F2 [.row 46 ty45 (.slice ao4 s2.2.1.length cp4) s2.2.1, .ro ty47 (.slice ao1 p_l.length cp1) p_l, .ro ty60 (.slice ao2 files.length cp2) files] ∧ Fr 75 [(0, .slice ao1 p_l.length cp1), (1, strV s2.1), (2, .slice ao2 files.length cp2), (8, .slice ao4 s2.2.1.length cp4), (9, .int .i64 s2.2.2)] a) ?_ ⟨none, 0, _, hs.sel [0, 1, 2] rfl rfl, hf.keep (ks := [0, 1, 2, 8, 9]) (by kernel_rfl)⟩ hS
    clear hS hf hs; clear a
    intro rec1 KK2 hK2 s2 a w1 hM hS
    obtain ⟨ao4, cp4, F2, hs, hf⟩ := hM
    refine sq ?_
    refine sq ?_
    refine reg ?_
    refine st tbOk 4 [0, 1, 2, 8, 9, 16] (L' := [(0, .slice ao1 p_l.length cp1), (1, strV s2.1), (2, .slice ao2 files.length cp2), (8, .slice ao4 s2.2.1.length cp4), (9, .int .i64 s2.2.2), (16, .bool (decide (s2.2.2 < ((p_l.length : Nat) : Int))))]) hf (by kernel_rfl) ?_
    clear hf; clear a; intro a hf
    refine wpList_nil ?_
    refine cnd (b := decide (s2.2.2 < ((p_l.length : Nat) : Int))) hf (by kernel_rfl) (fun hb1 => ?_) (fun hb1 => ?_)
    · replace hS := of_t hb1 hS
      refine wp_skip ?_
      refine sq ?_
      refine blk ?_
      refine sq ?_
      refine reg ?_
      refine st tbOk 2 [0, 1, 2, 8, 9, 19, 20] (L' := [(0, .slice ao1 p_l.length cp1), (1, strV s2.1), (2, .slice ao2 files.length cp2), (8, .slice ao4 s2.2.1.length cp4), (9, .int .i64 s2.2.2), (19, .slice ao1 p_l.length cp1), (20, .int .i64 s2.2.2)]) hf (by kernel_rfl) ?_
      clear hf; clear a; intro a hf
      have hT := of_gd hS; clear hS; obtain ⟨hc1, hS⟩ := hT
      refine ixR tbOk u39 i48 rfl rfl ((hs.ro 1 rfl).ra (LeH.refl _)) (k := .i64) (n := s2.2.2) hc1 hf (by kernel_rfl) (by kernel_rfl) (by kernel_rfl) (by kernel_rfl) ?_
      clear hf; clear a; intro pb1 po1 c1 a hp1 hr1 hf
      obtain rfl : c1 = [.int .u64 (((gt p_l s2.2.2).1).1), .int .i64 (((gt p_l s2.2.2).1).2.1), .bool (((gt p_l s2.2.2).1).2.2.1), strV (((gt p_l s2.2.2).1).2.2.2.1), .int .u64 (((gt p_l s2.2.2).1).2.2.2.2.1), strV (((gt p_l s2.2.2).1).2.2.2.2.2), .bool ((gt p_l s2.2.2).2.1), .int .u32 ((gt p_l s2.2.2).2.2)] := hr1
      replace hs : Sep w F R w1 F2 [.cel pb1 po1 [.int .u64 (((gt p_l s2.2.2).1).1), .int .i64 (((gt p_l s2.2.2).1).2.1), .bool (((gt p_l s2.2.2).1).2.2.1), strV (((gt p_l s2.2.2).1).2.2.2.1), .int .u64 (((gt p_l s2.2.2).1).2.2.2.2.1), strV (((gt p_l s2.2.2).1).2.2.2.2.2), .bool ((gt p_l s2.2.2).2.1), .int .u32 ((gt p_l s2.2.2).2.2)], .row 46 ty45 (.slice ao4 s2.2.1.length cp4) s2.2.1, .ro ty47 (.slice ao1 p_l.length cp1) p_l, .ro ty60 (.slice ao2 files.length cp2) files] := hs.addCel hp1
      replace hf := Fr.keep (ks := [0, 1, 2, 8, 9, 21]) (L' := [(0, .slice ao1 p_l.length cp1), (1, strV s2.1), (2, .slice ao2 files.length cp2), (8, .slice ao4 s2.2.1.length cp4), (9, .int .i64 s2.2.2), (21, .pointer (some ⟨pb1, po1, none⟩))]) hf (by kernel_rfl)
      refine st tbOk 1 [0, 1, 2, 8, 9, 22] (L' := [(0, .slice ao1 p_l.length cp1), (1, strV s2.1), (2, .slice ao2 files.length cp2), (8, .slice ao4 s2.2.1.length cp4), (9, .int .i64 s2.2.2), (22, .pointer (some ⟨pb1, po1, none⟩))]) hf (by kernel_rfl) ?_
      clear hf; clear a; intro a hf
      refine ldC tbOk (T := 46) (hs.ccel 0 rfl) (LeH.refl _) 0 (.agg #[.int .u64 (((gt p_l s2.2.2).1).1), .int .i64 (((gt p_l s2.2.2).1).2.1), .bool (((gt p_l s2.2.2).1).2.2.1), strV (((gt p_l s2.2.2).1).2.2.2.1), .int .u64 (((gt p_l s2.2.2).1).2.2.2.2.1), strV (((gt p_l s2.2.2).1).2.2.2.2.2)]) hf (by kernel_rfl) (by kernel_rfl) (by kernel_rfl) (by kernel_rfl) ?_
      clear hf; clear a; intro a hf
      replace hs : Sep w F R w1 F2 [.row 46 ty45 (.slice ao4 s2.2.1.length cp4) s2.2.1, .ro ty47 (.slice ao1 p_l.length cp1) p_l, .ro ty60 (.slice ao2 files.length cp2) files] := hs.sel [1, 2, 3] rfl rfl
      replace hf := Fr.keep (ks := [0, 1, 2, 8, 9, 23]) (L' := [(0, .slice ao1 p_l.length cp1), (1, strV s2.1), (2, .slice ao2 files.length cp2), (8, .slice ao4 s2.2.1.length cp4), (9, .int .i64 s2.2.2), (23, .agg #[.int .u64 (((gt p_l s2.2.2).1).1), .int .i64 (((gt p_l s2.2.2).1).2.1), .bool (((gt p_l s2.2.2).1).2.2.1), strV (((gt p_l s2.2.2).1).2.2.2.1), .int .u64 (((gt p_l s2.2.2).1).2.2.2.2.1), strV (((gt p_l s2.2.2).1).2.2.2.2.2)])]) hf (by kernel_rfl)
      refine al tbOk i46 [.int .u64 0, .int .i64 0, .bool false, strV [], .int .u64 0, strV []] rfl (by kernel_rfl) hf (by kernel_rfl) (by kernel_rfl) ?_
      clear hf; clear a; intro w2 a hb hx _ hf
      replace hs : Sep w F R w2 F2 [.box w1.heap.size 46 [.int .u64 0, .int .i64 0, .bool false, strV [], .int .u64 0, strV []], .row 46 ty45 (.slice ao4 s2.2.1.length cp4) s2.2.1, .ro ty47 (.slice ao1 p_l.length cp1) p_l, .ro ty60 (.slice ao2 files.length cp2) files] := hs.newBox hb hx
      clear hb hx
      replace hf := Fr.keep (ks := [0, 1, 2, 8, 9, 10, 23]) (L' := [(0, .slice ao1 p_l.length cp1), (1, strV s2.1), (2, .slice ao2 files.length cp2), (8, .slice ao4 s2.2.1.length cp4), (9, .int .i64 s2.2.2), (10, .pointer (some ⟨w1.heap.size, 0, none⟩)), (23, .agg #[.int .u64 (((gt p_l s2.2.2).1).1), .int .i64 (((gt p_l s2.2.2).1).2.1), .bool (((gt p_l s2.2.2).1).2.2.1), strV (((gt p_l s2.2.2).1).2.2.2.1), .int .u64 (((gt p_l s2.2.2).1).2.2.2.2.1), strV (((gt p_l s2.2.2).1).2.2.2.2.2)])]) hf (by kernel_rfl)
      refine stB tbOk i46 (hs.bx 0 rfl) 0 [.int .u64 (((gt p_l s2.2.2).1).1), .int .i64 (((gt p_l s2.2.2).1).2.1), .bool (((gt p_l s2.2.2).1).2.2.1), strV (((gt p_l s2.2.2).1).2.2.2.1), .int .u64 (((gt p_l s2.2.2).1).2.2.2.2.1), strV (((gt p_l s2.2.2).1).2.2.2.2.2)] [.int .u64 (((gt p_l s2.2.2).1).1), .int .i64 (((gt p_l s2.2.2).1).2.1), .bool (((gt p_l s2.2.2).1).2.2.1), strV (((gt p_l s2.2.2).1).2.2.2.1), .int .u64 (((gt p_l s2.2.2).1).2.2.2.2.1), strV (((gt p_l s2.2.2).1).2.2.2.2.2)] (v := .agg #[.int .u64 (((gt p_l s2.2.2).1).1), .int .i64 (((gt p_l s2.2.2).1).2.1), .bool (((gt p_l s2.2.2).1).2.2.1), strV (((gt p_l s2.2.2).1).2.2.2.1), .int .u64 (((gt p_l s2.2.2).1).2.2.2.2.1), strV (((gt p_l s2.2.2).1).2.2.2.2.2)]) rfl rfl (by kernel_rfl) (by kernel_rfl) (by kernel_rfl) (by kernel_rfl) hf (by kernel_rfl) (by kernel_rfl) (by kernel_rfl) ?_
      clear hf; clear a; intro w3 a hb hg _ hf
      replace hs : Sep w F R w3 F2 [.box w1.heap.size 46 [.int .u64 (((gt p_l s2.2.2).1).1), .int .i64 (((gt p_l s2.2.2).1).2.1), .bool (((gt p_l s2.2.2).1).2.2.1), strV (((gt p_l s2.2.2).1).2.2.2.1), .int .u64 (((gt p_l s2.2.2).1).2.2.2.2.1), strV (((gt p_l s2.2.2).1).2.2.2.2.2)], .row 46 ty45 (.slice ao4 s2.2.1.length cp4) s2.2.1, .ro ty47 (.slice ao1 p_l.length cp1) p_l, .ro ty60 (.slice ao2 files.length cp2) files] := hs.updBox 0 rfl hb hg
      clear hb hg
      replace hf := Fr.keep (ks := [0, 1, 2, 8, 9, 10]) (L' := [(0, .slice ao1 p_l.length cp1), (1, strV s2.1), (2, .slice ao2 files.length cp2), (8, .slice ao4 s2.2.1.length cp4), (9, .int .i64 s2.2.2), (10, .pointer (some ⟨w1.heap.size, 0, none⟩))]) hf (by kernel_rfl)
      refine wpList_nil ?_
      refine sq ?_
      refine sq ?_
      refine reg ?_
      refine st tbOk 2 [0, 1, 2, 8, 9, 10, 24, 25] (L' := [(0, .slice ao1 p_l.length cp1), (1, strV s2.1), (2, .slice ao2 files.length cp2), (8, .slice ao4 s2.2.1.length cp4), (9, .int .i64 s2.2.2), (10, .pointer (some ⟨w1.heap.size, 0, none⟩)), (24, .slice ao1 p_l.length cp1), (25, .int .i64 s2.2.2)]) hf (by kernel_rfl) ?_
      clear hf; clear a; intro a hf
      have hT := of_gd hS; clear hS; obtain ⟨hc2, hS⟩ := hT
      refine ixR tbOk u39 i48 rfl rfl ((hs.ro 2 rfl).ra (LeH.refl _)) (k := .i64) (n := s2.2.2) hc2 hf (by kernel_rfl) (by kernel_rfl) (by kernel_rfl) (by kernel_rfl) ?_
      clear hf; clear a; intro pb2 po2 c2 a hp2 hr2 hf
      obtain rfl : c2 = [.int .u64 (((gt p_l s2.2.2).1).1), .int .i64 (((gt p_l s2.2.2).1).2.1), .bool (((gt p_l s2.2.2).1).2.2.1), strV (((gt p_l s2.2.2).1).2.2.2.1), .int .u64 (((gt p_l s2.2.2).1).2.2.2.2.1), strV (((gt p_l s2.2.2).1).2.2.2.2.2), .bool ((gt p_l s2.2.2).2.1), .int .u32 ((gt p_l s2.2.2).2.2)] := hr2
      replace hs : Sep w F R w3 F2 [.cel pb2 po2 [.int .u64 (((gt p_l s2.2.2).1).1), .int .i64 (((gt p_l s2.2.2).1).2.1), .bool (((gt p_l s2.2.2).1).2.2.1), strV (((gt p_l s2.2.2).1).2.2.2.1), .int .u64 (((gt p_l s2.2.2).1).2.2.2.2.1), strV (((gt p_l s2.2.2).1).2.2.2.2.2), .bool ((gt p_l s2.2.2).2.1), .int .u32 ((gt p_l s2.2.2).2.2)], .box w1.heap.size 46 [.int .u64 (((gt p_l s2.2.2).1).1), .int .i64 (((gt p_l s2.2.2).1).2.1), .bool (((gt p_l s2.2.2).1).2.2.1), strV (((gt p_l s2.2.2).1).2.2.2.1), .int .u64 (((gt p_l s2.2.2).1).2.2.2.2.1), strV (((gt p_l s2.2.2).1).2.2.2.2.2)], .row 46 ty45 (.slice ao4 s2.2.1.length cp4) s2.2.1, .ro ty47 (.slice ao1 p_l.length cp1) p_l, .ro ty60 (.slice ao2 files.length cp2) files] := hs.addCel hp2
      replace hf := Fr.keep (ks := [0, 1, 2, 8, 9, 10, 26]) (L' := [(0, .slice ao1 p_l.length cp1), (1, strV s2.1), (2, .slice ao2 files.length cp2), (8, .slice ao4 s2.2.1.length cp4), (9, .int .i64 s2.2.2), (10, .pointer (some ⟨w1.heap.size, 0, none⟩)), (26, .pointer (some ⟨pb2, po2, none⟩))]) hf (by kernel_rfl)
      refine st tbOk 1 [0, 1, 2, 8, 9, 10, 27] (L' := [(0, .slice ao1 p_l.length cp1), (1, strV s2.1), (2, .slice ao2 files.length cp2), (8, .slice ao4 s2.2.1.length cp4), (9, .int .i64 s2.2.2), (10, .pointer (some ⟨w1.heap.size, 0, none⟩)), (27, .pointer (some ⟨pb2, po2 + 6, none⟩))]) hf (by kernel_rfl) ?_
      clear hf; clear a; intro a hf
      refine ldC tbOk (T := 4) (hs.ccel 0 rfl) (LeH.refl _) 6 (.bool ((gt p_l s2.2.2).2.1)) hf (by kernel_rfl) (by kernel_rfl) (by kernel_rfl) (by kernel_rfl) ?_
      clear hf; clear a; intro a hf
      replace hs : Sep w F R w3 F2 [.box w1.heap.size 46 [.int .u64 (((gt p_l s2.2.2).1).1), .int .i64 (((gt p_l s2.2.2).1).2.1), .bool (((gt p_l s2.2.2).1).2.2.1), strV (((gt p_l s2.2.2).1).2.2.2.1), .int .u64 (((gt p_l s2.2.2).1).2.2.2.2.1), strV (((gt p_l s2.2.2).1).2.2.2.2.2)], .row 46 ty45 (.slice ao4 s2.2.1.length cp4) s2.2.1, .ro ty47 (.slice ao1 p_l.length cp1) p_l, .ro ty60 (.slice ao2 files.length cp2) files] := hs.sel [1, 2, 3, 4] rfl rfl
      replace hf := Fr.keep (ks := [0, 1, 2, 8, 9, 10, 28]) (L' := [(0, .slice ao1 p_l.length cp1), (1, strV s2.1), (2, .slice ao2 files.length cp2), (8, .slice ao4 s2.2.1.length cp4), (9, .int .i64 s2.2.2), (10, .pointer (some ⟨w1.heap.size, 0, none⟩)), (28, .bool ((gt p_l s2.2.2).2.1))]) hf (by kernel_rfl)
      refine wpList_nil ?_
      refine ctj (fun (s3 : (List UInt8) × (Int × Int × Bool × (List UInt8) × Int × (List UInt8))) (a : Act) (w' : World) => ∃ (F3 : SH), Sep w F R w' F3 [.box w1.heap.size 46 [.int .u64 s3.2.1, .int .i64 s3.2.2.1, .bool s3.2.2.2.1, strV s3.2.2.2.2.1, .int .u64 s3.2.2.2.2.2.1, strV s3.2.2.2.2.2.2], .row 46 ty45 (.slice ao4 s2.2.1.length cp4) s2.2.1, .ro ty47 (.slice ao1 p_l.length cp1) p_l, .ro ty60 (.slice ao2 files.length cp2) files] ∧ Fr 75 [(0, .slice ao1 p_l.length cp1), (1, strV s3.1), (2, .slice ao2 files.length cp2), (8, .slice ao4 s2.2.1.length cp4), (9, .int .i64 s2.2.2), (10, .pointer (some ⟨w1.heap.size, 0, none⟩))] a) hS ?_ ?_
      · clear hS hf hs; clear a; intro s3 a w11 hM hS
        obtain ⟨F3, hs, hf⟩ := hM
        refine reg ?_
        refine st tbOk 1 [0, 1, 2, 9, 10, 68] (L' := [(0, .slice ao1 p_l.length cp1), (1, strV s3.1), (2, .slice ao2 files.length cp2), (9, .int .i64 s2.2.2), (10, .pointer (some ⟨w1.heap.size, 0, none⟩)), (68, .slice ao4 s2.2.1.length cp4)]) hf (by kernel_rfl) ?_
        clear hf; clear a; intro a hf
        refine ldC tbOk (T := 46) (hs.cbx 0 rfl) (LeH.refl _) 0 (.agg #[.int .u64 s3.2.1, .int .i64 s3.2.2.1, .bool s3.2.2.2.1, strV s3.2.2.2.2.1, .int .u64 s3.2.2.2.2.2.1, strV s3.2.2.2.2.2.2]) hf (by kernel_rfl) (by kernel_rfl) (by kernel_rfl) (by kernel_rfl) ?_
        clear hf; clear a; intro a hf
        replace hs : Sep w F R w11 F3 [.row 46 ty45 (.slice ao4 s2.2.1.length cp4) s2.2.1, .ro ty47 (.slice ao1 p_l.length cp1) p_l, .ro ty60 (.slice ao2 files.length cp2) files] := hs.sel [1, 2, 3] rfl rfl
        replace hf := Fr.keep (ks := [0, 1, 2, 9, 68, 69]) (L' := [(0, .slice ao1 p_l.length cp1), (1, strV s3.1), (2, .slice ao2 files.length cp2), (9, .int .i64 s2.2.2), (68, .slice ao4 s2.2.1.length cp4), (69, .agg #[.int .u64 s3.2.1, .int .i64 s3.2.2.1, .bool s3.2.2.2.1, strV s3.2.2.2.2.1, .int .u64 s3.2.2.2.2.2.1, strV s3.2.2.2.2.2.2])]) hf (by kernel_rfl)
        refine bsR tbOk u42 i46 rfl (t := ty45) (vs := [(0, .agg #[.int .u64 s3.2.1, .int .i64 s3.2.2.1, .bool s3.2.2.2.1, strV s3.2.2.2.2.1, .int .u64 s3.2.2.2.2.2.1, strV s3.2.2.2.2.2.2])]) (cells := #[.int .u64 s3.2.1, .int .i64 s3.2.2.1, .bool s3.2.2.2.1, strV s3.2.2.2.2.1, .int .u64 s3.2.2.2.2.2.1, strV s3.2.2.2.2.2.2]) ([(s3.2.1, s3.2.2.1, s3.2.2.2.1, s3.2.2.2.2.1, s3.2.2.2.2.2.1, s3.2.2.2.2.2.2)] : List (Int × Int × Bool × (List UInt8) × Int × (List UInt8))) hs.le hf (by kernel_rfl) (by kernel_rfl) (by kernel_rfl) rfl (by kernel_rfl) (reps_flat _) rfl ?_
        clear hf; clear a; intro w12 a ho hx hf
        replace hs : Sep w F R w12 F3 [.row 46 ty45 (.slice (some ⟨w11.heap.size, 0, none⟩) ([(s3.2.1, s3.2.2.1, s3.2.2.2.1, s3.2.2.2.2.1, s3.2.2.2.2.2.1, s3.2.2.2.2.2.2)] : List (Int × Int × Bool × (List UInt8) × Int × (List UInt8))).length ([(s3.2.1, s3.2.2.1, s3.2.2.2.1, s3.2.2.2.2.1, s3.2.2.2.2.2.1, s3.2.2.2.2.2.2)] : List (Int × Int × Bool × (List UInt8) × Int × (List UInt8))).length) ([(s3.2.1, s3.2.2.1, s3.2.2.2.1, s3.2.2.2.2.1, s3.2.2.2.2.2.1, s3.2.2.2.2.2.2)] : List (Int × Int × Bool × (List UInt8) × Int × (List UInt8))), .row 46 ty45 (.slice ao4 s2.2.1.length cp4) s2.2.1, .ro ty47 (.slice ao1 p_l.length cp1) p_l, .ro ty60 (.slice ao2 files.length cp2) files] := hs.newRow ho hx
        clear ho hx
        replace hf := Fr.keep (ks := [0, 1, 2, 9, 68, 70]) (L' := [(0, .slice ao1 p_l.length cp1), (1, strV s3.1), (2, .slice ao2 files.length cp2), (9, .int .i64 s2.2.2), (68, .slice ao4 s2.2.1.length cp4), (70, .slice (some ⟨w11.heap.size, 0, none⟩) ([(s3.2.1, s3.2.2.1, s3.2.2.2.1, s3.2.2.2.2.1, s3.2.2.2.2.2.1, s3.2.2.2.2.2.2)] : List (Int × Int × Bool × (List UInt8) × Int × (List UInt8))).length ([(s3.2.1, s3.2.2.1, s3.2.2.2.1, s3.2.2.2.2.1, s3.2.2.2.2.2.1, s3.2.2.2.2.2.2)] : List (Int × Int × Bool × (List UInt8) × Int × (List UInt8))).length)]) hf (by kernel_rfl)
        have hT := of_gd hS; clear hS; obtain ⟨hc7, hS⟩ := hT
        refine apR tbOk u42 i46 rfl rfl rfl rfl hs.le (hs.own 1 rfl) (hs.raW 0 rfl) hc7 hf (by kernel_rfl) (by kernel_rfl) (by kernel_rfl) (by kernel_rfl) ?_
        clear hf; clear a; intro ao5 cp5 w13 a ho hg hl hf
        replace hs : Sep w F R w13 F3 [.row 46 ty45 (.slice (some ⟨w11.heap.size, 0, none⟩) ([(s3.2.1, s3.2.2.1, s3.2.2.2.1, s3.2.2.2.2.1, s3.2.2.2.2.2.1, s3.2.2.2.2.2.2)] : List (Int × Int × Bool × (List UInt8) × Int × (List UInt8))).length ([(s3.2.1, s3.2.2.1, s3.2.2.2.1, s3.2.2.2.2.1, s3.2.2.2.2.2.1, s3.2.2.2.2.2.2)] : List (Int × Int × Bool × (List UInt8) × Int × (List UInt8))).length) ([(s3.2.1, s3.2.2.1, s3.2.2.2.1, s3.2.2.2.2.1, s3.2.2.2.2.2.1, s3.2.2.2.2.2.2)] : List (Int × Int × Bool × (List UInt8) × Int × (List UInt8))), .row 46 ty45 (.slice ao5 (s2.2.1 ++ ([(s3.2.1, s3.2.2.1, s3.2.2.2.1, s3.2.2.2.2.1, s3.2.2.2.2.2.1, s3.2.2.2.2.2.2)] : List (Int × Int × Bool × (List UInt8) × Int × (List UInt8)))).length cp5) (s2.2.1 ++ ([(s3.2.1, s3.2.2.1, s3.2.2.2.1, s3.2.2.2.2.1, s3.2.2.2.2.2.1, s3.2.2.2.2.2.2)] : List (Int × Int × Bool × (List UInt8) × Int × (List UInt8)))), .ro ty47 (.slice ao1 p_l.length cp1) p_l, .ro ty60 (.slice ao2 files.length cp2) files] := hs.updRow 1 rfl ho hg hl
        clear ho hg hl
        replace hs : Sep w F R w13 F3 [.row 46 ty45 (.slice ao5 (s2.2.1 ++ ([(s3.2.1, s3.2.2.1, s3.2.2.2.1, s3.2.2.2.2.1, s3.2.2.2.2.2.1, s3.2.2.2.2.2.2)] : List (Int × Int × Bool × (List UInt8) × Int × (List UInt8)))).length cp5) (s2.2.1 ++ ([(s3.2.1, s3.2.2.1, s3.2.2.2.1, s3.2.2.2.2.1, s3.2.2.2.2.2.1, s3.2.2.2.2.2.2)] : List (Int × Int × Bool × (List UInt8) × Int × (List UInt8)))), .ro ty47 (.slice ao1 p_l.length cp1) p_l, .ro ty60 (.slice ao2 files.length cp2) files] := hs.sel [1, 2, 3] rfl rfl
        replace hf := Fr.keep (ks := [0, 1, 2, 9, 71]) (L' := [(0, .slice ao1 p_l.length cp1), (1, strV s3.1), (2, .slice ao2 files.length cp2), (9, .int .i64 s2.2.2), (71, .slice ao5 (s2.2.1 ++ ([(s3.2.1, s3.2.2.1, s3.2.2.2.1, s3.2.2.2.2.1, s3.2.2.2.2.2.1, s3.2.2.2.2.2.2)] : List (Int × Int × Bool × (List UInt8) × Int × (List UInt8)))).length cp5)]) hf (by kernel_rfl)
        refine st tbOk 1 [0, 1, 2, 8, 9] (L' := [(0, .slice ao1 p_l.length cp1), (1, strV s3.1), (2, .slice ao2 files.length cp2), (8, .slice ao5 (s2.2.1 ++ ([(s3.2.1, s3.2.2.1, s3.2.2.2.1, s3.2.2.2.2.1, s3.2.2.2.2.2.1, s3.2.2.2.2.2.2)] : List (Int × Int × Bool × (List UInt8) × Int × (List UInt8)))).length cp5), (9, .int .i64 s2.2.2)]) hf (by kernel_rfl) ?_
        clear hf; clear a; intro a hf
        refine wpList_nil ?_
        refine reg ?_
        have hT := of_let hS; clear hS; obtain ⟨i_1, hl2, hS⟩ := hT
        refine st tbOk 3 [0, 1, 2, 8, 9] (L' := [(0, .slice ao1 p_l.length cp1), (1, strV s3.1), (2, .slice ao2 files.length cp2), (8, .slice ao5 (s2.2.1 ++ ([(s3.2.1, s3.2.2.1, s3.2.2.2.1, s3.2.2.2.2.1, s3.2.2.2.2.2.1, s3.2.2.2.2.2.2)] : List (Int × Int × Bool × (List UInt8) × Int × (List UInt8)))).length cp5), (9, .int .i64 i_1)]) hf (by subst hl2; kernel_rfl) ?_
        clear hf; clear a; intro a hf
        refine wpList_nil ?_
        exact hK2 (s3.1, (s2.2.1 ++ ([(s3.2.1, s3.2.2.1, s3.2.2.2.1, s3.2.2.2.2.1, s3.2.2.2.2.2.1, s3.2.2.2.2.2.2)] : List (Int × Int × Bool × (List UInt8) × Int × (List UInt8)))), i_1) _ _ ⟨ao5, cp5, _, hs.sel [0, 1, 2] rfl rfl, hf.keep (ks := [0, 1, 2, 8, 9]) (by kernel_rfl)⟩ hS
      · clear hS; intro KK3 k2 hK3 hS
        refine cnd (b := (gt p_l s2.2.2).2.1) hf (by kernel_rfl) (fun hb2 => ?_) (fun hb2 => ?_)
        · replace hS := of_t hb2 hS
          refine sq ?_
          refine sq ?_
          refine ctj (fun (s4 : Bool) (a : Act) (w' : World) => ∃ (F4 : SH), Sep w F R w' F4 [.box w1.heap.size 46 [.int .u64 (((gt p_l s2.2.2).1).1), .int .i64 (((gt p_l s2.2.2).1).2.1), .bool (((gt p_l s2.2.2).1).2.2.1), strV (((gt p_l s2.2.2).1).2.2.2.1), .int .u64 (((gt p_l s2.2.2).1).2.2.2.2.1), strV (((gt p_l s2.2.2).1).2.2.2.2.2)], .row 46 ty45 (.slice ao4 s2.2.1.length cp4) s2.2.1, .ro ty47 (.slice ao1 p_l.length cp1) p_l, .ro ty60 (.slice ao2 files.length cp2) files] ∧ Fr 75 [(0, .slice ao1 p_l.length cp1), (1, strV s2.1), (2, .slice ao2 files.length cp2), (8, .slice ao4 s2.2.1.length cp4), (9, .int .i64 s2.2.2), (10, .pointer (some ⟨w1.heap.size, 0, none⟩)), (39, .bool s4)] a) hS ?_ ?_
          · clear hS hf hs; clear a; intro s4 a w4 hM hS
            obtain ⟨F4, hs, hf⟩ := hM
            refine cnd (b := s4) hf (by kernel_rfl) (fun hb4 => ?_) (fun hb4 => ?_)
            · replace hS := of_t hb4 hS
              refine sq ?_
              refine reg ?_
              refine st tbOk 2 [6, 7] (L' := [(6, .slice none 0 0), (7, .int .i64 60)]) hf (by kernel_rfl) ?_
              clear hf; clear a; intro a hf
              refine wpList_nil ?_
              have hr := Option.some.inj hS; subst hr
              refine wp_ret ?_
              replace hs : Sep w F R w4 F4 [.row 46 ty45 (.slice none 0 0) ([] : List (Int × Int × Bool × (List UInt8) × Int × (List UInt8))), .box w1.heap.size 46 [.int .u64 (((gt p_l s2.2.2).1).1), .int .i64 (((gt p_l s2.2.2).1).2.1), .bool (((gt p_l s2.2.2).1).2.2.1), strV (((gt p_l s2.2.2).1).2.2.2.1), .int .u64 (((gt p_l s2.2.2).1).2.2.2.2.1), strV (((gt p_l s2.2.2).1).2.2.2.2.2)], .row 46 ty45 (.slice ao4 s2.2.1.length cp4) s2.2.1, .ro ty47 (.slice ao1 p_l.length cp1) p_l, .ro ty60 (.slice ao2 files.length cp2) files] := hs.addNil 46 ty45
              exact ret_ok hf (vs := [.slice none 0 0, .int .i64 60]) (by kernel_rfl) ⟨none, 0, _, rfl, hs.sel [0] rfl rfl⟩
            · replace hS := of_f hb4 hS
              refine wp_skip ?_
              refine sq ?_
              refine reg ?_
              refine st tbOk 1 [0, 1, 2, 8, 9, 10, 40] (L' := [(0, .slice ao1 p_l.length cp1), (1, strV s2.1), (2, .slice ao2 files.length cp2), (8, .slice ao4 s2.2.1.length cp4), (9, .int .i64 s2.2.2), (10, .pointer (some ⟨w1.heap.size, 0, none⟩)), (40, strV s2.1)]) hf (by kernel_rfl) ?_
              clear hf; clear a; intro a hf
              have hT := of_gd hS; clear hS; obtain ⟨hc4, hS⟩ := hT
              refine cutS tbOk u9 (p := s2.1) (lo := 0) (hi := 256) hc4 (.inl ⟨rfl, rfl⟩) (.inr ⟨_, .i64, rfl, by kernel_rfl⟩) hf (by kernel_rfl) (by kernel_rfl) (by kernel_rfl) ?_
              clear hf; clear a; intro a hf
              replace hf := Fr.keep (ks := [0, 1, 2, 8, 9, 10, 41]) (L' := [(0, .slice ao1 p_l.length cp1), (1, strV s2.1), (2, .slice ao2 files.length cp2), (8, .slice ao4 s2.2.1.length cp4), (9, .int .i64 s2.2.2), (10, .pointer (some ⟨w1.heap.size, 0, none⟩)), (41, strV (cutL s2.1 0 256))]) hf (by kernel_rfl)
              refine st tbOk 1 [0, 1, 2, 8, 9, 10, 41, 42] (L' := [(0, .slice ao1 p_l.length cp1), (1, strV s2.1), (2, .slice ao2 files.length cp2), (8, .slice ao4 s2.2.1.length cp4), (9, .int .i64 s2.2.2), (10, .pointer (some ⟨w1.heap.size, 0, none⟩)), (41, strV (cutL s2.1 0 256)), (42, .pointer (some ⟨w1.heap.size, 5, none⟩))]) hf (by kernel_rfl) ?_
              clear hf; clear a; intro a hf
              refine stB tbOk i9 (hs.bx 0 rfl) 5 [strV (cutL s2.1 0 256)] [.int .u64 (((gt p_l s2.2.2).1).1), .int .i64 (((gt p_l s2.2.2).1).2.1), .bool (((gt p_l s2.2.2).1).2.2.1), strV (((gt p_l s2.2.2).1).2.2.2.1), .int .u64 (((gt p_l s2.2.2).1).2.2.2.2.1), strV (cutL s2.1 0 256)] (v := strV (cutL s2.1 0 256)) rfl rfl (by kernel_rfl) (by kernel_rfl) (by kernel_rfl) (by kernel_rfl) hf (by kernel_rfl) (by kernel_rfl) (by kernel_rfl) ?_
              clear hf; clear a; intro w5 a hb hg _ hf
              replace hs : Sep w F R w5 F4 [.box w1.heap.size 46 [.int .u64 (((gt p_l s2.2.2).1).1), .int .i64 (((gt p_l s2.2.2).1).2.1), .bool (((gt p_l s2.2.2).1).2.2.1), strV (((gt p_l s2.2.2).1).2.2.2.1), .int .u64 (((gt p_l s2.2.2).1).2.2.2.2.1), strV (cutL s2.1 0 256)], .row 46 ty45 (.slice ao4 s2.2.1.length cp4) s2.2.1, .ro ty47 (.slice ao1 p_l.length cp1) p_l, .ro ty60 (.slice ao2 files.length cp2) files] := hs.updBox 0 rfl hb hg
              clear hb hg
              replace hf := Fr.keep (ks := [0, 1, 2, 8, 9, 10]) (L' := [(0, .slice ao1 p_l.length cp1), (1, strV s2.1), (2, .slice ao2 files.length cp2), (8, .slice ao4 s2.2.1.length cp4), (9, .int .i64 s2.2.2), (10, .pointer (some ⟨w1.heap.size, 0, none⟩))]) hf (by kernel_rfl)
              refine wpList_nil ?_
              refine reg ?_
              refine st tbOk 1 [0, 2, 8, 9, 10, 43] (L' := [(0, .slice ao1 p_l.length cp1), (2, .slice ao2 files.length cp2), (8, .slice ao4 s2.2.1.length cp4), (9, .int .i64 s2.2.2), (10, .pointer (some ⟨w1.heap.size, 0, none⟩)), (43, strV s2.1)]) hf (by kernel_rfl) ?_
              clear hf; clear a; intro a hf
              have hT := of_gd hS; clear hS; obtain ⟨hc5, hS⟩ := hT
              refine cutS tbOk u9 (p := s2.1) (lo := 256) (hi := ((s2.1.length : Nat) : Int)) hc5 (.inr ⟨_, .i64, rfl, by kernel_rfl⟩) (.inl ⟨rfl, rfl⟩) hf (by kernel_rfl) (by kernel_rfl) (by kernel_rfl) ?_
              clear hf; clear a; intro a hf
              replace hf := Fr.keep (ks := [0, 2, 8, 9, 10, 44]) (L' := [(0, .slice ao1 p_l.length cp1), (2, .slice ao2 files.length cp2), (8, .slice ao4 s2.2.1.length cp4), (9, .int .i64 s2.2.2), (10, .pointer (some ⟨w1.heap.size, 0, none⟩)), (44, strV (cutL s2.1 256 ((s2.1.length : Nat) : Int)))]) hf (by kernel_rfl)
              have hT := of_let hS; clear hS; obtain ⟨kept_1, hl1, hS⟩ := hT
              refine st tbOk 1 [0, 1, 2, 8, 9, 10] (L' := [(0, .slice ao1 p_l.length cp1), (1, strV kept_1), (2, .slice ao2 files.length cp2), (8, .slice ao4 s2.2.1.length cp4), (9, .int .i64 s2.2.2), (10, .pointer (some ⟨w1.heap.size, 0, none⟩))]) hf (by subst hl1; kernel_rfl) ?_
              clear hf; clear a; intro a hf
              refine wpList_nil ?_
              exact hK3 (kept_1, (((gt p_l s2.2.2).1).1, ((gt p_l s2.2.2).1).2.1, ((gt p_l s2.2.2).1).2.2.1, ((gt p_l s2.2.2).1).2.2.2.1, ((gt p_l s2.2.2).1).2.2.2.2.1, (cutL s2.1 0 256))) _ _ ⟨_, hs.sel [0, 1, 2, 3] rfl rfl, hf.keep (ks := [0, 1, 2, 8, 9, 10]) (by kernel_rfl)⟩ hS
          · clear hS; intro KK4 k3 hK4 hS
            refine reg ?_
            refine st tbOk 4 [0, 1, 2, 8, 9, 10, 32] (L' := [(0, .slice ao1 p_l.length cp1), (1, strV s2.1), (2, .slice ao2 files.length cp2), (8, .slice ao4 s2.2.1.length cp4), (9, .int .i64 s2.2.2), (10, .pointer (some ⟨w1.heap.size, 0, none⟩)), (32, .bool (decide (((s2.1.length : Nat) : Int) < 256)))]) hf (by kernel_rfl) ?_
            clear hf; clear a; intro a hf
            rcases Bool.eq_false_or_eq_true (decide (((s2.1.length : Nat) : Int) < 256)) with hb3 | hb3
            · replace hS := of_t hb3 hS
              replace hf := Fr.cast (L' := [(0, .slice ao1 p_l.length cp1), (1, strV s2.1), (2, .slice ao2 files.length cp2), (8, .slice ao4 s2.2.1.length cp4), (9, .int .i64 s2.2.2), (10, .pointer (some ⟨w1.heap.size, 0, none⟩)), (32, .bool true)]) hf (by rw [hb3])
              refine st tbOk 7 [0, 1, 2, 8, 9, 10, 39] (L' := [(0, .slice ao1 p_l.length cp1), (1, strV s2.1), (2, .slice ao2 files.length cp2), (8, .slice ao4 s2.2.1.length cp4), (9, .int .i64 s2.2.2), (10, .pointer (some ⟨w1.heap.size, 0, none⟩)), (39, .bool true)]) hf (by kernel_rfl) ?_
              clear hf; clear a; intro a hf
              refine wpList_nil ?_
              exact hK4 true _ _ ⟨_, hs.sel [0, 1, 2, 3] rfl rfl, hf.keep (ks := [0, 1, 2, 8, 9, 10, 39]) (by kernel_rfl)⟩ hS
            · replace hS := of_f hb3 hS
              replace hf := Fr.cast (L' := [(0, .slice ao1 p_l.length cp1), (1, strV s2.1), (2, .slice ao2 files.length cp2), (8, .slice ao4 s2.2.1.length cp4), (9, .int .i64 s2.2.2), (10, .pointer (some ⟨w1.heap.size, 0, none⟩)), (32, .bool false)]) hf (by rw [hb3])
              refine st tbOk 2 [0, 1, 2, 8, 9, 10, 32, 33, 34] (L' := [(0, .slice ao1 p_l.length cp1), (1, strV s2.1), (2, .slice ao2 files.length cp2), (8, .slice ao4 s2.2.1.length cp4), (9, .int .i64 s2.2.2), (10, .pointer (some ⟨w1.heap.size, 0, none⟩)), (32, .bool false), (33, .slice ao1 p_l.length cp1), (34, .int .i64 s2.2.2)]) hf (by kernel_rfl) ?_
              clear hf; clear a; intro a hf
              have hT := of_gd hS; clear hS; obtain ⟨hc3, hS⟩ := hT
              refine ixR tbOk u39 i48 rfl rfl ((hs.ro 2 rfl).ra (LeH.refl _)) (k := .i64) (n := s2.2.2) hc3 hf (by kernel_rfl) (by kernel_rfl) (by kernel_rfl) (by kernel_rfl) ?_
              clear hf; clear a; intro pb3 po3 c3 a hp3 hr3 hf
              obtain rfl : c3 = [.int .u64 (((gt p_l s2.2.2).1).1), .int .i64 (((gt p_l s2.2.2).1).2.1), .bool (((gt p_l s2.2.2).1).2.2.1), strV (((gt p_l s2.2.2).1).2.2.2.1), .int .u64 (((gt p_l s2.2.2).1).2.2.2.2.1), strV (((gt p_l s2.2.2).1).2.2.2.2.2), .bool ((gt p_l s2.2.2).2.1), .int .u32 ((gt p_l s2.2.2).2.2)] := hr3
              replace hs : Sep w F R w3 F2 [.cel pb3 po3 [.int .u64 (((gt p_l s2.2.2).1).1), .int .i64 (((gt p_l s2.2.2).1).2.1), .bool (((gt p_l s2.2.2).1).2.2.1), strV (((gt p_l s2.2.2).1).2.2.2.1), .int .u64 (((gt p_l s2.2.2).1).2.2.2.2.1), strV (((gt p_l s2.2.2).1).2.2.2.2.2), .bool ((gt p_l s2.2.2).2.1), .int .u32 ((gt p_l s2.2.2).2.2)], .box w1.heap.size 46 [.int .u64 (((gt p_l s2.2.2).1).1), .int .i64 (((gt p_l s2.2.2).1).2.1), .bool (((gt p_l s2.2.2).1).2.2.1), strV (((gt p_l s2.2.2).1).2.2.2.1), .int .u64 (((gt p_l s2.2.2).1).2.2.2.2.1), strV (((gt p_l s2.2.2).1).2.2.2.2.2)], .row 46 ty45 (.slice ao4 s2.2.1.length cp4) s2.2.1, .ro ty47 (.slice ao1 p_l.length cp1) p_l, .ro ty60 (.slice ao2 files.length cp2) files] := hs.addCel hp3
              replace hf := Fr.keep (ks := [0, 1, 2, 8, 9, 10, 32, 35]) (L' := [(0, .slice ao1 p_l.length cp1), (1, strV s2.1), (2, .slice ao2 files.length cp2), (8, .slice ao4 s2.2.1.length cp4), (9, .int .i64 s2.2.2), (10, .pointer (some ⟨w1.heap.size, 0, none⟩)), (32, .bool false), (35, .pointer (some ⟨pb3, po3, none⟩))]) hf (by kernel_rfl)
              refine st tbOk 1 [0, 1, 2, 8, 9, 10, 32, 36] (L' := [(0, .slice ao1 p_l.length cp1), (1, strV s2.1), (2, .slice ao2 files.length cp2), (8, .slice ao4 s2.2.1.length cp4), (9, .int .i64 s2.2.2), (10, .pointer (some ⟨w1.heap.size, 0, none⟩)), (32, .bool false), (36, .pointer (some ⟨pb3, po3 + 7, none⟩))]) hf (by kernel_rfl) ?_
              clear hf; clear a; intro a hf
              refine ldC tbOk (T := 31) (hs.ccel 0 rfl) (LeH.refl _) 7 (.int .u32 ((gt p_l s2.2.2).2.2)) hf (by kernel_rfl) (by kernel_rfl) (by kernel_rfl) (by kernel_rfl) ?_
              clear hf; clear a; intro a hf
              replace hs : Sep w F R w3 F2 [.box w1.heap.size 46 [.int .u64 (((gt p_l s2.2.2).1).1), .int .i64 (((gt p_l s2.2.2).1).2.1), .bool (((gt p_l s2.2.2).1).2.2.1), strV (((gt p_l s2.2.2).1).2.2.2.1), .int .u64 (((gt p_l s2.2.2).1).2.2.2.2.1), strV (((gt p_l s2.2.2).1).2.2.2.2.2)], .row 46 ty45 (.slice ao4 s2.2.1.length cp4) s2.2.1, .ro ty47 (.slice ao1 p_l.length cp1) p_l, .ro ty60 (.slice ao2 files.length cp2) files] := hs.sel [1, 2, 3, 4] rfl rfl
              replace hf := Fr.keep (ks := [0, 1, 2, 8, 9, 10, 32, 37]) (L' := [(0, .slice ao1 p_l.length cp1), (1, strV s2.1), (2, .slice ao2 files.length cp2), (8, .slice ao4 s2.2.1.length cp4), (9, .int .i64 s2.2.2), (10, .pointer (some ⟨w1.heap.size, 0, none⟩)), (32, .bool false), (37, .int .u32 ((gt p_l s2.2.2).2.2))]) hf (by kernel_rfl)
              refine st tbOk 2 [0, 1, 2, 8, 9, 10, 39] (L' := [(0, .slice ao1 p_l.length cp1), (1, strV s2.1), (2, .slice ao2 files.length cp2), (8, .slice ao4 s2.2.1.length cp4), (9, .int .i64 s2.2.2), (10, .pointer (some ⟨w1.heap.size, 0, none⟩)), (39, .bool (((gt p_l s2.2.2).2.2) != 0))]) hf (by kernel_rfl) ?_
              clear hf; clear a; intro a hf
              refine wpList_nil ?_
              exact hK4 (((gt p_l s2.2.2).2.2) != 0) _ _ ⟨_, hs.sel [0, 1, 2, 3] rfl rfl, hf.keep (ks := [0, 1, 2, 8, 9, 10, 39]) (by kernel_rfl)⟩ hS
        · replace hS := of_f hb2 hS
          refine sq ?_
          refine reg ?_
          refine st tbOk 1 [0, 1, 2, 8, 9, 10, 46] (L' := [(0, .slice ao1 p_l.length cp1), (1, strV s2.1), (2, .slice ao2 files.length cp2), (8, .slice ao4 s2.2.1.length cp4), (9, .int .i64 s2.2.2), (10, .pointer (some ⟨w1.heap.size, 0, none⟩)), (46, .pointer (some ⟨w1.heap.size, 3, none⟩))]) hf (by kernel_rfl) ?_
          clear hf; clear a; intro a hf
          refine ldC tbOk (T := 9) (hs.cbx 0 rfl) (LeH.refl _) 3 (strV (((gt p_l s2.2.2).1).2.2.2.1)) hf (by kernel_rfl) (by kernel_rfl) (by kernel_rfl) (by kernel_rfl) ?_
          clear hf; clear a; intro a hf
          replace hf := Fr.keep (ks := [0, 1, 2, 8, 9, 10, 47]) (L' := [(0, .slice ao1 p_l.length cp1), (1, strV s2.1), (2, .slice ao2 files.length cp2), (8, .slice ao4 s2.2.1.length cp4), (9, .int .i64 s2.2.2), (10, .pointer (some ⟨w1.heap.size, 0, none⟩)), (47, strV (((gt p_l s2.2.2).1).2.2.2.1))]) hf (by kernel_rfl)
          refine st tbOk 1 [0, 1, 2, 8, 9, 10, 47, 48] (L' := [(0, .slice ao1 p_l.length cp1), (1, strV s2.1), (2, .slice ao2 files.length cp2), (8, .slice ao4 s2.2.1.length cp4), (9, .int .i64 s2.2.2), (10, .pointer (some ⟨w1.heap.size, 0, none⟩)), (47, strV (((gt p_l s2.2.2).1).2.2.2.1)), (48, .pointer (some ⟨w1.heap.size, 4, none⟩))]) hf (by kernel_rfl) ?_
          clear hf; clear a; intro a hf
          refine ldC tbOk (T := 23) (hs.cbx 0 rfl) (LeH.refl _) 4 (.int .u64 (((gt p_l s2.2.2).1).2.2.2.2.1)) hf (by kernel_rfl) (by kernel_rfl) (by kernel_rfl) (by kernel_rfl) ?_
          clear hf; clear a; intro a hf
          replace hf := Fr.keep (ks := [0, 1, 2, 8, 9, 10, 47, 49]) (L' := [(0, .slice ao1 p_l.length cp1), (1, strV s2.1), (2, .slice ao2 files.length cp2), (8, .slice ao4 s2.2.1.length cp4), (9, .int .i64 s2.2.2), (10, .pointer (some ⟨w1.heap.size, 0, none⟩)), (47, strV (((gt p_l s2.2.2).1).2.2.2.1)), (49, .int .u64 (((gt p_l s2.2.2).1).2.2.2.2.1))]) hf (by kernel_rfl)
          refine st tbOk 1 [0, 1, 2, 8, 9, 10, 47, 49, 50] (L' := [(0, .slice ao1 p_l.length cp1), (1, strV s2.1), (2, .slice ao2 files.length cp2), (8, .slice ao4 s2.2.1.length cp4), (9, .int .i64 s2.2.2), (10, .pointer (some ⟨w1.heap.size, 0, none⟩)), (47, strV (((gt p_l s2.2.2).1).2.2.2.1)), (49, .int .u64 (((gt p_l s2.2.2).1).2.2.2.2.1)), (50, .slice ao2 files.length cp2)]) hf (by kernel_rfl) ?_
          clear hf; clear a; intro a hf
          have hT := of_bd hS; clear hS; obtain ⟨z1, hz1, hS⟩ := hT
          refine clV ent16 (vs := [strV (((gt p_l s2.2.2).1).2.2.2.1), .int .u64 (((gt p_l s2.2.2).1).2.2.2.2.1), .slice ao2 files.length cp2]) (caps := []) hf (by kernel_rfl) (by kernel_rfl) (by kernel_rfl) (by kernel_rfl) (ref21_Origin_ok (file := ((gt p_l s2.2.2).1).2.2.2.1) (off := ((gt p_l s2.2.2).1).2.2.2.2.1) (files := files) (hs.enter [3] rfl rfl) hz1) ?_
          clear hf; clear a; intro v w6 a hT hf; obtain ⟨F5, rfl, hr⟩ := hT
          replace hs : Sep w F R w6 F5 [.box w1.heap.size 46 [.int .u64 (((gt p_l s2.2.2).1).1), .int .i64 (((gt p_l s2.2.2).1).2.1), .bool (((gt p_l s2.2.2).1).2.2.1), strV (((gt p_l s2.2.2).1).2.2.2.1), .int .u64 (((gt p_l s2.2.2).1).2.2.2.2.1), strV (((gt p_l s2.2.2).1).2.2.2.2.2)], .row 46 ty45 (.slice ao4 s2.2.1.length cp4) s2.2.1, .ro ty47 (.slice ao1 p_l.length cp1) p_l, .ro ty60 (.slice ao2 files.length cp2) files] := hs.back [3] [0, 1, 2, 3] rfl rfl rfl rfl hr
          clear hr
          replace hf := Fr.keep (ks := [0, 1, 2, 8, 9, 10, 51]) (L' := [(0, .slice ao1 p_l.length cp1), (1, strV s2.1), (2, .slice ao2 files.length cp2), (8, .slice ao4 s2.2.1.length cp4), (9, .int .i64 s2.2.2), (10, .pointer (some ⟨w1.heap.size, 0, none⟩)), (51, .tuple #[strV z1.1, .bool z1.2])]) hf (by kernel_rfl)
          refine st tbOk 5 [0, 1, 2, 8, 9, 10, 11, 12] (L' := [(0, .slice ao1 p_l.length cp1), (1, strV s2.1), (2, .slice ao2 files.length cp2), (8, .slice ao4 s2.2.1.length cp4), (9, .int .i64 s2.2.2), (10, .pointer (some ⟨w1.heap.size, 0, none⟩)), (11, strV z1.1), (12, .bool z1.2)]) hf (by kernel_rfl) ?_
          clear hf; clear a; intro a hf
          refine wpList_nil ?_
          refine sq ?_
          refine sq ?_
          refine ctj (fun (s5 : Bool) (a : Act) (w' : World) => ∃ (F6 : SH), Sep w F R w' F6 [.box w1.heap.size 46 [.int .u64 (((gt p_l s2.2.2).1).1), .int .i64 (((gt p_l s2.2.2).1).2.1), .bool (((gt p_l s2.2.2).1).2.2.1), strV (((gt p_l s2.2.2).1).2.2.2.1), .int .u64 (((gt p_l s2.2.2).1).2.2.2.2.1), strV (((gt p_l s2.2.2).1).2.2.2.2.2)], .row 46 ty45 (.slice ao4 s2.2.1.length cp4) s2.2.1, .ro ty47 (.slice ao1 p_l.length cp1) p_l, .ro ty60 (.slice ao2 files.length cp2) files] ∧ Fr 75 [(0, .slice ao1 p_l.length cp1), (1, strV s2.1), (2, .slice ao2 files.length cp2), (8, .slice ao4 s2.2.1.length cp4), (9, .int .i64 s2.2.2), (10, .pointer (some ⟨w1.heap.size, 0, none⟩)), (11, strV z1.1), (65, .bool s5)] a) hS ?_ ?_
          · clear hS hf hs; clear a; intro s5 a w9 hM hS
            obtain ⟨F6, hs, hf⟩ := hM
            refine cnd (b := s5) hf (by kernel_rfl) (fun hb6 => ?_) (fun hb6 => ?_)
            · replace hS := of_t hb6 hS
              refine sq ?_
              refine reg ?_
              refine st tbOk 2 [6, 7] (L' := [(6, .slice none 0 0), (7, .int .i64 61)]) hf (by kernel_rfl) ?_
              clear hf; clear a; intro a hf
              refine wpList_nil ?_
              have hr := Option.some.inj hS; subst hr
              refine wp_ret ?_
              replace hs : Sep w F R w9 F6 [.row 46 ty45 (.slice none 0 0) ([] : List (Int × Int × Bool × (List UInt8) × Int × (List UInt8))), .box w1.heap.size 46 [.int .u64 (((gt p_l s2.2.2).1).1), .int .i64 (((gt p_l s2.2.2).1).2.1), .bool (((gt p_l s2.2.2).1).2.2.1), strV (((gt p_l s2.2.2).1).2.2.2.1), .int .u64 (((gt p_l s2.2.2).1).2.2.2.2.1), strV (((gt p_l s2.2.2).1).2.2.2.2.2)], .row 46 ty45 (.slice ao4 s2.2.1.length cp4) s2.2.1, .ro ty47 (.slice ao1 p_l.length cp1) p_l, .ro ty60 (.slice ao2 files.length cp2) files] := hs.addNil 46 ty45
              exact ret_ok hf (vs := [.slice none 0 0, .int .i64 61]) (by kernel_rfl) ⟨none, 0, _, rfl, hs.sel [0] rfl rfl⟩
            · replace hS := of_f hb6 hS
              refine wp_skip ?_
              refine reg ?_
              refine st tbOk 2 [0, 1, 2, 8, 9, 10, 66, 67] (L' := [(0, .slice ao1 p_l.length cp1), (1, strV s2.1), (2, .slice ao2 files.length cp2), (8, .slice ao4 s2.2.1.length cp4), (9, .int .i64 s2.2.2), (10, .pointer (some ⟨w1.heap.size, 0, none⟩)), (66, strV z1.1), (67, .pointer (some ⟨w1.heap.size, 5, none⟩))]) hf (by kernel_rfl) ?_
              clear hf; clear a; intro a hf
              refine stB tbOk i9 (hs.bx 0 rfl) 5 [strV z1.1] [.int .u64 (((gt p_l s2.2.2).1).1), .int .i64 (((gt p_l s2.2.2).1).2.1), .bool (((gt p_l s2.2.2).1).2.2.1), strV (((gt p_l s2.2.2).1).2.2.2.1), .int .u64 (((gt p_l s2.2.2).1).2.2.2.2.1), strV z1.1] (v := strV z1.1) rfl rfl (by kernel_rfl) (by kernel_rfl) (by kernel_rfl) (by kernel_rfl) hf (by kernel_rfl) (by kernel_rfl) (by kernel_rfl) ?_
              clear hf; clear a; intro w10 a hb hg _ hf
              replace hs : Sep w F R w10 F6 [.box w1.heap.size 46 [.int .u64 (((gt p_l s2.2.2).1).1), .int .i64 (((gt p_l s2.2.2).1).2.1), .bool (((gt p_l s2.2.2).1).2.2.1), strV (((gt p_l s2.2.2).1).2.2.2.1), .int .u64 (((gt p_l s2.2.2).1).2.2.2.2.1), strV z1.1], .row 46 ty45 (.slice ao4 s2.2.1.length cp4) s2.2.1, .ro ty47 (.slice ao1 p_l.length cp1) p_l, .ro ty60 (.slice ao2 files.length cp2) files] := hs.updBox 0 rfl hb hg
              clear hb hg
              replace hf := Fr.keep (ks := [0, 1, 2, 8, 9, 10]) (L' := [(0, .slice ao1 p_l.length cp1), (1, strV s2.1), (2, .slice ao2 files.length cp2), (8, .slice ao4 s2.2.1.length cp4), (9, .int .i64 s2.2.2), (10, .pointer (some ⟨w1.heap.size, 0, none⟩))]) hf (by kernel_rfl)
              refine wpList_nil ?_
              exact hK3 (s2.1, (((gt p_l s2.2.2).1).1, ((gt p_l s2.2.2).1).2.1, ((gt p_l s2.2.2).1).2.2.1, ((gt p_l s2.2.2).1).2.2.2.1, ((gt p_l s2.2.2).1).2.2.2.2.1, z1.1)) _ _ ⟨_, hs.sel [0, 1, 2, 3] rfl rfl, hf.keep (ks := [0, 1, 2, 8, 9, 10]) (by kernel_rfl)⟩ hS
          · clear hS; intro KK5 k4 hK5 hS
            refine regQ mixed (by kernel_rfl) ?_
            refine stQ tbOk 3 [0, 1, 2, 8, 9, 10, 11, 56] (L' := [(0, .slice ao1 p_l.length cp1), (1, strV s2.1), (2, .slice ao2 files.length cp2), (8, .slice ao4 s2.2.1.length cp4), (9, .int .i64 s2.2.2), (10, .pointer (some ⟨w1.heap.size, 0, none⟩)), (11, strV z1.1), (56, .bool (!z1.2))]) hf (by kernel_rfl) ?_
            clear hf; clear a; intro a hf
            rcases Bool.eq_false_or_eq_true (!z1.2) with hb5 | hb5
            · replace hS := of_t hb5 hS
              replace hf := Fr.cast (L' := [(0, .slice ao1 p_l.length cp1), (1, strV s2.1), (2, .slice ao2 files.length cp2), (8, .slice ao4 s2.2.1.length cp4), (9, .int .i64 s2.2.2), (10, .pointer (some ⟨w1.heap.size, 0, none⟩)), (11, strV z1.1), (56, .bool true)]) hf (by rw [hb5])
              refine stQ tbOk 9 [0, 1, 2, 8, 9, 10, 11, 65] (L' := [(0, .slice ao1 p_l.length cp1), (1, strV s2.1), (2, .slice ao2 files.length cp2), (8, .slice ao4 s2.2.1.length cp4), (9, .int .i64 s2.2.2), (10, .pointer (some ⟨w1.heap.size, 0, none⟩)), (11, strV z1.1), (65, .bool true)]) hf (by kernel_rfl) ?_
              clear hf; clear a; intro a hf
              refine wpQuiet_nil ?_
              intro w7 hx
              replace hs : Sep w F R w7 F5 [.box w1.heap.size 46 [.int .u64 (((gt p_l s2.2.2).1).1), .int .i64 (((gt p_l s2.2.2).1).2.1), .bool (((gt p_l s2.2.2).1).2.2.1), strV (((gt p_l s2.2.2).1).2.2.2.1), .int .u64 (((gt p_l s2.2.2).1).2.2.2.2.1), strV (((gt p_l s2.2.2).1).2.2.2.2.2)], .row 46 ty45 (.slice ao4 s2.2.1.length cp4) s2.2.1, .ro ty47 (.slice ao1 p_l.length cp1) p_l, .ro ty60 (.slice ao2 files.length cp2) files] := hs.ext hx
              clear hx
              exact hK5 true _ _ ⟨_, hs.sel [0, 1, 2, 3] rfl rfl, hf.keep (ks := [0, 1, 2, 8, 9, 10, 11, 65]) (by kernel_rfl)⟩ hS
            · replace hS := of_f hb5 hS
              replace hf := Fr.cast (L' := [(0, .slice ao1 p_l.length cp1), (1, strV s2.1), (2, .slice ao2 files.length cp2), (8, .slice ao4 s2.2.1.length cp4), (9, .int .i64 s2.2.2), (10, .pointer (some ⟨w1.heap.size, 0, none⟩)), (11, strV z1.1), (56, .bool false)]) hf (by rw [hb5])
              refine stQ tbOk 1 [0, 1, 2, 8, 9, 10, 11, 56, 57] (L' := [(0, .slice ao1 p_l.length cp1), (1, strV s2.1), (2, .slice ao2 files.length cp2), (8, .slice ao4 s2.2.1.length cp4), (9, .int .i64 s2.2.2), (10, .pointer (some ⟨w1.heap.size, 0, none⟩)), (11, strV z1.1), (56, .bool false), (57, strV z1.1)]) hf (by kernel_rfl) ?_
              clear hf; clear a; intro a hf
              have hT := of_bd hS; clear hS; obtain ⟨z2, hz2, hS⟩ := hT
              refine clVQ ent18 (vs := [strV z1.1]) (caps := []) hf (by kernel_rfl) (by kernel_rfl) (by kernel_rfl) (by kernel_rfl) (.int .u32 z2) (fun wq hq => (ref21_Sum_ok (b := z1.1) (hs.lendQ hq [] rfl rfl) hz2).mono fun _ _ h => Gives.mono (fun _ ⟨_, e, h⟩ => ⟨e, h.ex (pers_blks rfl)⟩) h) ?_
              clear hf; clear a; intro a hf
              replace hf := Fr.keep (ks := [0, 1, 2, 8, 9, 10, 11, 56, 58]) (L' := [(0, .slice ao1 p_l.length cp1), (1, strV s2.1), (2, .slice ao2 files.length cp2), (8, .slice ao4 s2.2.1.length cp4), (9, .int .i64 s2.2.2), (10, .pointer (some ⟨w1.heap.size, 0, none⟩)), (11, strV z1.1), (56, .bool false), (58, .int .u32 z2)]) hf (by kernel_rfl)
              refine stQ tbOk 2 [0, 1, 2, 8, 9, 10, 11, 56, 58, 59, 60] (L' := [(0, .slice ao1 p_l.length cp1), (1, strV s2.1), (2, .slice ao2 files.length cp2), (8, .slice ao4 s2.2.1.length cp4), (9, .int .i64 s2.2.2), (10, .pointer (some ⟨w1.heap.size, 0, none⟩)), (11, strV z1.1), (56, .bool false), (58, .int .u32 z2), (59, .slice ao1 p_l.length cp1), (60, .int .i64 s2.2.2)]) hf (by kernel_rfl) ?_
              clear hf; clear a; intro a hf
              have hT := of_gd hS; clear hS; obtain ⟨hc6, hS⟩ := hT
              refine ixRQ tbOk u39 i48 rfl rfl ((hs.ro 2 rfl).ra (LeH.refl _)) (k := .i64) (n := s2.2.2) hc6 hf (by kernel_rfl) (by kernel_rfl) (by kernel_rfl) (by kernel_rfl) ?_
              clear hf; clear a; intro pb4 po4 c4 a hp4 hr4 hf
              obtain rfl : c4 = [.int .u64 (((gt p_l s2.2.2).1).1), .int .i64 (((gt p_l s2.2.2).1).2.1), .bool (((gt p_l s2.2.2).1).2.2.1), strV (((gt p_l s2.2.2).1).2.2.2.1), .int .u64 (((gt p_l s2.2.2).1).2.2.2.2.1), strV (((gt p_l s2.2.2).1).2.2.2.2.2), .bool ((gt p_l s2.2.2).2.1), .int .u32 ((gt p_l s2.2.2).2.2)] := hr4
              replace hs : Sep w F R w6 F5 [.cel pb4 po4 [.int .u64 (((gt p_l s2.2.2).1).1), .int .i64 (((gt p_l s2.2.2).1).2.1), .bool (((gt p_l s2.2.2).1).2.2.1), strV (((gt p_l s2.2.2).1).2.2.2.1), .int .u64 (((gt p_l s2.2.2).1).2.2.2.2.1), strV (((gt p_l s2.2.2).1).2.2.2.2.2), .bool ((gt p_l s2.2.2).2.1), .int .u32 ((gt p_l s2.2.2).2.2)], .box w1.heap.size 46 [.int .u64 (((gt p_l s2.2.2).1).1), .int .i64 (((gt p_l s2.2.2).1).2.1), .bool (((gt p_l s2.2.2).1).2.2.1), strV (((gt p_l s2.2.2).1).2.2.2.1), .int .u64 (((gt p_l s2.2.2).1).2.2.2.2.1), strV (((gt p_l s2.2.2).1).2.2.2.2.2)], .row 46 ty45 (.slice ao4 s2.2.1.length cp4) s2.2.1, .ro ty47 (.slice ao1 p_l.length cp1) p_l, .ro ty60 (.slice ao2 files.length cp2) files] := hs.addCel hp4
              replace hf := Fr.keep (ks := [0, 1, 2, 8, 9, 10, 11, 56, 58, 61]) (L' := [(0, .slice ao1 p_l.length cp1), (1, strV s2.1), (2, .slice ao2 files.length cp2), (8, .slice ao4 s2.2.1.length cp4), (9, .int .i64 s2.2.2), (10, .pointer (some ⟨w1.heap.size, 0, none⟩)), (11, strV z1.1), (56, .bool false), (58, .int .u32 z2), (61, .pointer (some ⟨pb4, po4, none⟩))]) hf (by kernel_rfl)
              refine stQ tbOk 1 [0, 1, 2, 8, 9, 10, 11, 56, 58, 62] (L' := [(0, .slice ao1 p_l.length cp1), (1, strV s2.1), (2, .slice ao2 files.length cp2), (8, .slice ao4 s2.2.1.length cp4), (9, .int .i64 s2.2.2), (10, .pointer (some ⟨w1.heap.size, 0, none⟩)), (11, strV z1.1), (56, .bool false), (58, .int .u32 z2), (62, .pointer (some ⟨pb4, po4 + 7, none⟩))]) hf (by kernel_rfl) ?_
              clear hf; clear a; intro a hf
              refine ldCQ tbOk (T := 31) (hs.ccel 0 rfl) (LeH.refl _) 7 (.int .u32 ((gt p_l s2.2.2).2.2)) hf (by kernel_rfl) (by kernel_rfl) (by kernel_rfl) (by kernel_rfl) ?_
              clear hf; clear a; intro a hf
              replace hs : Sep w F R w6 F5 [.box w1.heap.size 46 [.int .u64 (((gt p_l s2.2.2).1).1), .int .i64 (((gt p_l s2.2.2).1).2.1), .bool (((gt p_l s2.2.2).1).2.2.1), strV (((gt p_l s2.2.2).1).2.2.2.1), .int .u64 (((gt p_l s2.2.2).1).2.2.2.2.1), strV (((gt p_l s2.2.2).1).2.2.2.2.2)], .row 46 ty45 (.slice ao4 s2.2.1.length cp4) s2.2.1, .ro ty47 (.slice ao1 p_l.length cp1) p_l, .ro ty60 (.slice ao2 files.length cp2) files] := hs.sel [1, 2, 3, 4] rfl rfl
              replace hf := Fr.keep (ks := [0, 1, 2, 8, 9, 10, 11, 56, 58, 63]) (L' := [(0, .slice ao1 p_l.length cp1), (1, strV s2.1), (2, .slice ao2 files.length cp2), (8, .slice ao4 s2.2.1.length cp4), (9, .int .i64 s2.2.2), (10, .pointer (some ⟨w1.heap.size, 0, none⟩)), (11, strV z1.1), (56, .bool false), (58, .int .u32 z2), (63, .int .u32 ((gt p_l s2.2.2).2.2))]) hf (by kernel_rfl)
              refine stQ tbOk 2 [0, 1, 2, 8, 9, 10, 11, 65] (L' := [(0, .slice ao1 p_l.length cp1), (1, strV s2.1), (2, .slice ao2 files.length cp2), (8, .slice ao4 s2.2.1.length cp4), (9, .int .i64 s2.2.2), (10, .pointer (some ⟨w1.heap.size, 0, none⟩)), (11, strV z1.1), (65, .bool (z2 != ((gt p_l s2.2.2).2.2)))]) hf (by kernel_rfl) ?_
              clear hf; clear a; intro a hf
              refine wpQuiet_nil ?_
              intro w8 hx
              replace hs : Sep w F R w8 F5 [.box w1.heap.size 46 [.int .u64 (((gt p_l s2.2.2).1).1), .int .i64 (((gt p_l s2.2.2).1).2.1), .bool (((gt p_l s2.2.2).1).2.2.1), strV (((gt p_l s2.2.2).1).2.2.2.1), .int .u64 (((gt p_l s2.2.2).1).2.2.2.2.1), strV (((gt p_l s2.2.2).1).2.2.2.2.2)], .row 46 ty45 (.slice ao4 s2.2.1.length cp4) s2.2.1, .ro ty47 (.slice ao1 p_l.length cp1) p_l, .ro ty60 (.slice ao2 files.length cp2) files] := hs.ext hx
              clear hx
              exact hK5 (z2 != ((gt p_l s2.2.2).2.2)) _ _ ⟨_, hs.sel [0, 1, 2, 3] rfl rfl, hf.keep (ks := [0, 1, 2, 8, 9, 10, 11, 65]) (by kernel_rfl)⟩ hS
    · replace hS := of_f hb1 hS
      refine wp_exit ?_
      exact hK1 (s2.1, s2.2.1) _ _ ⟨ao4, cp4, _, hs.sel [0] rfl rfl, hf.keep (ks := [1, 8]) (by kernel_rfl)⟩ hS

end Dm
