/-
  The walks: a call of each Go function gives what its shallow form gives, where that form gives something; printed by a program of this repo. No condition.
-/
import Derived.Test.YtmlghbdlhjinaaaWT
import Derived.Test.YtmlghbdlhjinaaaW0
namespace Dm
open Go Go.RowKit Go.Proofs

set_option maxHeartbeats 4000000 in
theorem names_Build_ok {w : World} {F : SH} {p_l : List (List UInt8)} {ao1 : Option Addr} {cp1 : Nat} (hs : Sep w F (blks [.ro tS (.slice ao1 p_l.length cp1) p_l]) w F [.ro tS (.slice ao1 p_l.length cp1) p_l]) {r : (List Int) × (List Int) × Int} (hS : names_Build p_l = some r) :
    Calls Try.prog 21 [.slice ao1 p_l.length cp1].toArray w (Gives (fun u w' => ∃ (ao10 : Option Addr) (cp10 : Nat) (ao11 : Option Addr) (cp11 : Nat) (F' : SH), u = .tuple #[.slice ao10 r.1.length cp10, .slice ao11 r.2.1.length cp11, .int .i64 r.2.2] ∧ Sep w F (blks [.ro tS (.slice ao1 p_l.length cp1) p_l]) w' F' [.row 5 (tI .u8) (.slice ao10 r.1.length cp10) r.1, .row 23 (tI .u64) (.slice ao11 r.2.1.length cp11) r.2.1])) := by
  generalize (blks [.ro tS (.slice ao1 p_l.length cp1) p_l]) = R at hs ⊢
  unfold names_Build at hS
  refine fn_ok (vs := [.slice ao1 p_l.length cp1]) Try.func21 rfl 61 Try.ntmps21 (Nat.le_of_ble_eq_true rfl) ?_
  intro a hf
  replace hf := Fr.cast (L' := [(0, .slice ao1 p_l.length cp1)]) hf (by kernel_rfl)
  refine sq ?_
  refine reg ?_
  refine st tbOk 3 [0] (L' := [(0, .slice ao1 p_l.length cp1)]) hf (by kernel_rfl) ?_
  clear hf; clear a; intro a hf
  refine wpList_nil ?_
  refine sq ?_
  refine reg ?_
  refine bsR tbOk u22 i5 rfl (t := (tI .u8)) (vs := [(0, .int .u8 0)]) (cells := #[.int .u8 0]) ([0] : List Int) hs.le hf (by kernel_rfl) (by kernel_rfl) (by kernel_rfl) rfl (by kernel_rfl) (reps_flat _) rfl ?_
  clear hf; clear a; intro w1 a ho hx hf
  replace hs : Sep w F R w1 F [.row 5 (tI .u8) (.slice (some ⟨w.heap.size, 0, none⟩) ([0] : List Int).length ([0] : List Int).length) ([0] : List Int), .ro tS (.slice ao1 p_l.length cp1) p_l] := hs.newRow ho hx
  clear ho hx
  replace hf := Fr.keep (ks := [0, 14]) (L' := [(0, .slice ao1 p_l.length cp1), (14, .slice (some ⟨w.heap.size, 0, none⟩) ([0] : List Int).length ([0] : List Int).length)]) hf (by kernel_rfl)
  refine st tbOk 1 [0, 5] (L' := [(0, .slice ao1 p_l.length cp1), (5, .slice (some ⟨w.heap.size, 0, none⟩) ([0] : List Int).length ([0] : List Int).length)]) hf (by kernel_rfl) ?_
  clear hf; clear a; intro a hf
  refine wpList_nil ?_
  refine sq ?_
  refine reg ?_
  refine mkm hf (by kernel_rfl) (by kernel_rfl) ?_
  clear hf; clear a; intro w2 a hw hx hf
  replace hs : Sep w F R w2 F [.mp strV (Value.int .u64) w1.heap.size ([] : List ((List UInt8) × Int)), .row 5 (tI .u8) (.slice (some ⟨w.heap.size, 0, none⟩) ([0] : List Int).length ([0] : List Int).length) ([0] : List Int), .ro tS (.slice ao1 p_l.length cp1) p_l] := hs.newMp strV (Value.int .u64) hw hx
  clear hw hx
  replace hf := Fr.keep (ks := [0, 5, 15]) (L' := [(0, .slice ao1 p_l.length cp1), (5, .slice (some ⟨w.heap.size, 0, none⟩) ([0] : List Int).length ([0] : List Int).length), (15, .map (some w1.heap.size))]) hf (by kernel_rfl)
  refine mins tbOk u60 (key_str tbOk u9) (hs.mpO 0 rfl) ([] : (List UInt8)) (0 : Int) hf (by kernel_rfl) (by kernel_rfl) (by kernel_rfl) (by kernel_rfl) ?_
  clear hf; clear a; intro w3 a hg ho hf
  replace hs : Sep w F R w3 F [.mp strV (Value.int .u64) w1.heap.size (mpPut ([] : List ((List UInt8) × Int)) ([] : (List UInt8)) (0 : Int)), .row 5 (tI .u8) (.slice (some ⟨w.heap.size, 0, none⟩) ([0] : List Int).length ([0] : List Int).length) ([0] : List Int), .ro tS (.slice ao1 p_l.length cp1) p_l] := hs.updMp 0 rfl hg ho
  clear hg ho
  replace hf := Fr.keep (ks := [0, 5, 15]) (L' := [(0, .slice ao1 p_l.length cp1), (5, .slice (some ⟨w.heap.size, 0, none⟩) ([0] : List Int).length ([0] : List Int).length), (15, .map (some w1.heap.size))]) hf (by kernel_rfl)
  refine st tbOk 2 [0, 5, 6] (L' := [(0, .slice ao1 p_l.length cp1), (5, .slice (some ⟨w.heap.size, 0, none⟩) ([0] : List Int).length ([0] : List Int).length), (6, .map (some w1.heap.size))]) hf (by kernel_rfl) ?_
  clear hf; clear a; intro a hf
  refine wpList_nil ?_
  refine sq ?_
  refine reg ?_
  refine st tbOk 1 [0, 5, 6, 7] (L' := [(0, .slice ao1 p_l.length cp1), (5, .slice (some ⟨w.heap.size, 0, none⟩) ([0] : List Int).length ([0] : List Int).length), (6, .map (some w1.heap.size)), (7, .slice none 0 0)]) hf (by kernel_rfl) ?_
  clear hf; clear a; intro a hf
  refine wpList_nil ?_
  refine sq ?_
  refine sq ?_
  refine reg ?_
  refine st tbOk 3 [0, 5, 6, 7, 17, 18, 19] (L' := [(0, .slice ao1 p_l.length cp1), (5, .slice (some ⟨w.heap.size, 0, none⟩) ([0] : List Int).length ([0] : List Int).length), (6, .map (some w1.heap.size)), (7, .slice none 0 0), (17, .slice ao1 p_l.length cp1), (18, .int .i64 ((p_l.length : Nat) : Int)), (19, .int .i64 0)]) hf (by kernel_rfl) ?_
  clear hf; clear a; intro a hf
  refine wpList_nil ?_
  refine ctj (fun (s1 : Unit) (a : Act) (w' : World) => ∃ (F1 : SH), Sep w F R w' F1 [.mp strV (Value.int .u64) w1.heap.size (mpPut ([] : List ((List UInt8) × Int)) ([] : (List UInt8)) (0 : Int)), .row 5 (tI .u8) (.slice (some ⟨w.heap.size, 0, none⟩) ([0] : List Int).length ([0] : List Int).length) ([0] : List Int), .ro tS (.slice ao1 p_l.length cp1) p_l] ∧ Fr 61 [(0, .slice ao1 p_l.length cp1), (5, .slice (some ⟨w.heap.size, 0, none⟩) ([0] : List Int).length ([0] : List Int).length), (6, .map (some w1.heap.size)), (7, .slice none 0 0)] a) hS ?_ ?_
  · clear hS hf hs; clear a; intro s1 a w6 hM hS
    obtain ⟨F1, hs, hf⟩ := hM
    refine sq ?_
    refine sq ?_
    refine reg ?_
    refine st tbOk 3 [5, 6, 7, 26, 27, 28] (L' := [(5, .slice (some ⟨w.heap.size, 0, none⟩) ([0] : List Int).length ([0] : List Int).length), (6, .map (some w1.heap.size)), (7, .slice none 0 0), (26, .slice ao1 p_l.length cp1), (27, .int .i64 ((p_l.length : Nat) : Int)), (28, .int .i64 0)]) hf (by kernel_rfl) ?_
    clear hf; clear a; intro a hf
    refine wpList_nil ?_
    refine ctj (fun (s3 : (List Int) × (List Int)) (a : Act) (w' : World) => ∃ (ao2 : Option Addr) (cp2 : Nat) (ao3 : Option Addr) (cp3 : Nat) (F4 : SH), Sep w F R w' F4 [.row 5 (tI .u8) (.slice ao2 s3.1.length cp2) s3.1, .row 23 (tI .u64) (.slice ao3 s3.2.length cp3) s3.2] ∧ Fr 61 [(5, .slice ao2 s3.1.length cp2), (7, .slice ao3 s3.2.length cp3)] a) hS ?_ ?_
    · clear hS hf hs; clear a; intro s3 a w15 hM hS
      obtain ⟨ao2, cp2, ao3, cp3, F4, hs, hf⟩ := hM
      refine sq ?_
      refine reg ?_
      refine st tbOk 5 [2, 3, 4] (L' := [(2, .slice ao2 s3.1.length cp2), (3, .slice ao3 s3.2.length cp3), (4, .int .i64 0)]) hf (by kernel_rfl) ?_
      clear hf; clear a; intro a hf
      refine wpList_nil ?_
      have hr := Option.some.inj hS; subst hr
      refine wp_ret ?_
      exact ret_ok hf (vs := [.slice ao2 s3.1.length cp2, .slice ao3 s3.2.length cp3, .int .i64 0]) (by kernel_rfl) ⟨ao2, cp2, ao3, cp3, _, rfl, hs.sel [0, 1] rfl rfl⟩
    · clear hS; intro KK3 k2 hK3 hS
      refine blk ?_
      replace hs : Sep w F R w6 F1 [.row 23 (tI .u64) (.slice none 0 0) ([] : List Int), .mp strV (Value.int .u64) w1.heap.size (mpPut ([] : List ((List UInt8) × Int)) ([] : (List UInt8)) (0 : Int)), .row 5 (tI .u8) (.slice (some ⟨w.heap.size, 0, none⟩) ([0] : List Int).length ([0] : List Int).length) ([0] : List Int), .ro tS (.slice ao1 p_l.length cp1) p_l] := hs.addNil 23 (tI .u64)
      refine lp (st := (([0] : List Int), [], 0, (mpPut ([] : List ((List UInt8) × Int)) ([] : (List UInt8)) (0 : Int)))) (fun (s4 : (List Int) × (List Int) × Int × (List ((List UInt8) × Int))) (a : Act) (w' : World) => ∃ (ao4 : Option Addr) (cp4 : Nat) (ao5 : Option Addr) (cp5 : Nat) (F5 : SH), Sep w F R w' F5 [.row 5 (tI .u8) (.slice ao4 s4.1.length cp4) s4.1, .row 23 (tI .u64) (.slice ao5 s4.2.1.length cp5) s4.2.1, .mp strV (Value.int .u64) w1.heap.size s4.2.2.2, .ro tS (.slice ao1 p_l.length cp1) p_l] ∧ Fr 61 [(5, .slice ao4 s4.1.length cp4), (6, .map (some w1.heap.size)), (7, .slice ao5 s4.2.1.length cp5), (26, .slice ao1 p_l.length cp1), (27, .int .i64 ((p_l.length : Nat) : Int)), (28, .int .i64 s4.2.2.1)] a) ?_ ⟨(some ⟨w.heap.size, 0, none⟩), ([0] : List Int).length, none, 0, _, hs.sel [2, 0, 1, 3] rfl rfl, hf.keep (ks := [5, 6, 7, 26, 27, 28]) (by kernel_rfl)⟩ hS
      clear hS hf hs; clear a
      intro rec2 KK4 hK4 s4 a w7 hM hS
      obtain ⟨ao4, cp4, ao5, cp5, F5, hs, hf⟩ := hM
      refine sq ?_
      refine reg ?_
      refine st tbOk 1 [5, 6, 7, 26, 27, 28, 29] (L' := [(5, .slice ao4 s4.1.length cp4), (6, .map (some w1.heap.size)), (7, .slice ao5 s4.2.1.length cp5), (26, .slice ao1 p_l.length cp1), (27, .int .i64 ((p_l.length : Nat) : Int)), (28, .int .i64 s4.2.2.1), (29, .bool (decide (s4.2.2.1 < ((p_l.length : Nat) : Int))))]) hf (by kernel_rfl) ?_
      clear hf; clear a; intro a hf
      refine wpList_nil ?_
      refine sq ?_
      refine cnd (b := decide (s4.2.2.1 < ((p_l.length : Nat) : Int))) hf (by kernel_rfl) (fun hb3 => ?_) (fun hb3 => ?_)
      · replace hS := of_t hb3 hS
        refine wp_skip ?_
        refine sq ?_
        refine blk ?_
        refine sq ?_
        refine reg ?_
        have hT := of_gd hS; clear hS; obtain ⟨hc2, hS⟩ := hT
        refine ixR tbOk u30 i9 rfl rfl ((hs.ro 3 rfl).ra (LeH.refl _)) (k := .i64) (n := s4.2.2.1) hc2 hf (by kernel_rfl) (by kernel_rfl) (by kernel_rfl) (by kernel_rfl) ?_
        clear hf; clear a; intro pb2 po2 c2 a hp2 hr2 hf
        obtain rfl : c2 = [strV (gt p_l s4.2.2.1)] := hr2
        replace hs : Sep w F R w7 F5 [.cel pb2 po2 [strV (gt p_l s4.2.2.1)], .row 5 (tI .u8) (.slice ao4 s4.1.length cp4) s4.1, .row 23 (tI .u64) (.slice ao5 s4.2.1.length cp5) s4.2.1, .mp strV (Value.int .u64) w1.heap.size s4.2.2.2, .ro tS (.slice ao1 p_l.length cp1) p_l] := hs.addCel hp2
        replace hf := Fr.keep (ks := [5, 6, 7, 26, 27, 28, 30]) (L' := [(5, .slice ao4 s4.1.length cp4), (6, .map (some w1.heap.size)), (7, .slice ao5 s4.2.1.length cp5), (26, .slice ao1 p_l.length cp1), (27, .int .i64 ((p_l.length : Nat) : Int)), (28, .int .i64 s4.2.2.1), (30, .pointer (some ⟨pb2, po2, none⟩))]) hf (by kernel_rfl)
        refine ldC tbOk (T := 9) (hs.ccel 0 rfl) (LeH.refl _) 0 (strV (gt p_l s4.2.2.1)) hf (by kernel_rfl) (by kernel_rfl) (by kernel_rfl) (by kernel_rfl) ?_
        clear hf; clear a; intro a hf
        replace hs : Sep w F R w7 F5 [.row 5 (tI .u8) (.slice ao4 s4.1.length cp4) s4.1, .row 23 (tI .u64) (.slice ao5 s4.2.1.length cp5) s4.2.1, .mp strV (Value.int .u64) w1.heap.size s4.2.2.2, .ro tS (.slice ao1 p_l.length cp1) p_l] := hs.sel [1, 2, 3, 4] rfl rfl
        replace hf := Fr.keep (ks := [5, 6, 7, 26, 27, 28, 31]) (L' := [(5, .slice ao4 s4.1.length cp4), (6, .map (some w1.heap.size)), (7, .slice ao5 s4.2.1.length cp5), (26, .slice ao1 p_l.length cp1), (27, .int .i64 ((p_l.length : Nat) : Int)), (28, .int .i64 s4.2.2.1), (31, strV (gt p_l s4.2.2.1))]) hf (by kernel_rfl)
        have hT := of_let hS; clear hS; obtain ⟨s_2, hl2, hS⟩ := hT
        refine st tbOk 1 [5, 6, 7, 11, 26, 27, 28] (L' := [(5, .slice ao4 s4.1.length cp4), (6, .map (some w1.heap.size)), (7, .slice ao5 s4.2.1.length cp5), (11, strV s_2), (26, .slice ao1 p_l.length cp1), (27, .int .i64 ((p_l.length : Nat) : Int)), (28, .int .i64 s4.2.2.1)]) hf (by subst hl2; kernel_rfl) ?_
        clear hf; clear a; intro a hf
        refine wpList_nil ?_
        refine sq ?_
        refine reg ?_
        refine st tbOk 2 [5, 6, 7, 11, 26, 27, 28, 33, 34] (L' := [(5, .slice ao4 s4.1.length cp4), (6, .map (some w1.heap.size)), (7, .slice ao5 s4.2.1.length cp5), (11, strV s_2), (26, .slice ao1 p_l.length cp1), (27, .int .i64 ((p_l.length : Nat) : Int)), (28, .int .i64 s4.2.2.1), (33, .map (some w1.heap.size)), (34, strV s_2)]) hf (by kernel_rfl) ?_
        clear hf; clear a; intro a hf
        refine mget tbOk u60 (key_str tbOk u9) i23 (ev := (Value.int .u64)) (zb := (0 : Int)) rfl (hs.mpO 2 rfl) (s_2 : (List UInt8)) (v := .tuple #[.int .u64 ((mpGet s4.2.2.2 (s_2 : (List UInt8))).getD 0), .bool ((mpGet s4.2.2.2 (s_2 : (List UInt8))).isSome)]) rfl hf (by kernel_rfl) (by kernel_rfl) (by kernel_rfl) (by kernel_rfl) ?_
        clear hf; clear a; intro a hf
        replace hf := Fr.keep (ks := [5, 6, 7, 11, 26, 27, 28, 35]) (L' := [(5, .slice ao4 s4.1.length cp4), (6, .map (some w1.heap.size)), (7, .slice ao5 s4.2.1.length cp5), (11, strV s_2), (26, .slice ao1 p_l.length cp1), (27, .int .i64 ((p_l.length : Nat) : Int)), (28, .int .i64 s4.2.2.1), (35, .tuple #[.int .u64 ((mpGet s4.2.2.2 (s_2 : (List UInt8))).getD 0), .bool ((mpGet s4.2.2.2 (s_2 : (List UInt8))).isSome)])]) hf (by kernel_rfl)
        have hT := of_let hS; clear hS; obtain ⟨at_1, hl3, hS⟩ := hT
        have hT := of_let hS; clear hS; obtain ⟨there_1, hl4, hS⟩ := hT
        refine st tbOk 5 [5, 6, 7, 11, 12, 13, 26, 27, 28] (L' := [(5, .slice ao4 s4.1.length cp4), (6, .map (some w1.heap.size)), (7, .slice ao5 s4.2.1.length cp5), (11, strV s_2), (12, .int .u64 at_1), (13, .bool there_1), (26, .slice ao1 p_l.length cp1), (27, .int .i64 ((p_l.length : Nat) : Int)), (28, .int .i64 s4.2.2.1)]) hf (by subst hl4; subst hl3; kernel_rfl) ?_
        clear hf; clear a; intro a hf
        refine wpList_nil ?_
        refine sq ?_
        refine sq ?_
        refine reg ?_
        refine st tbOk 2 [5, 6, 7, 11, 12, 26, 27, 28, 39] (L' := [(5, .slice ao4 s4.1.length cp4), (6, .map (some w1.heap.size)), (7, .slice ao5 s4.2.1.length cp5), (11, strV s_2), (12, .int .u64 at_1), (26, .slice ao1 p_l.length cp1), (27, .int .i64 ((p_l.length : Nat) : Int)), (28, .int .i64 s4.2.2.1), (39, .bool (!there_1))]) hf (by kernel_rfl) ?_
        clear hf; clear a; intro a hf
        refine wpList_nil ?_
        refine ctj (fun (s5 : (List Int) × Int × (List ((List UInt8) × Int))) (a : Act) (w' : World) => ∃ (ao6 : Option Addr) (cp6 : Nat) (F6 : SH), Sep w F R w' F6 [.row 5 (tI .u8) (.slice ao6 s5.1.length cp6) s5.1, .mp strV (Value.int .u64) w1.heap.size s5.2.2, .row 23 (tI .u64) (.slice ao5 s4.2.1.length cp5) s4.2.1, .ro tS (.slice ao1 p_l.length cp1) p_l] ∧ Fr 61 [(5, .slice ao6 s5.1.length cp6), (6, .map (some w1.heap.size)), (7, .slice ao5 s4.2.1.length cp5), (12, .int .u64 s5.2.1), (26, .slice ao1 p_l.length cp1), (27, .int .i64 ((p_l.length : Nat) : Int)), (28, .int .i64 s4.2.2.1)] a) hS ?_ ?_
        · clear hS hf hs; clear a; intro s5 a w12 hM hS
          obtain ⟨ao6, cp6, F6, hs, hf⟩ := hM
          refine sq ?_
          refine sq ?_
          refine reg ?_
          refine st tbOk 3 [5, 6, 7, 12, 26, 27, 28, 53] (L' := [(5, .slice ao6 s5.1.length cp6), (6, .map (some w1.heap.size)), (7, .slice ao5 s4.2.1.length cp5), (12, .int .u64 s5.2.1), (26, .slice ao1 p_l.length cp1), (27, .int .i64 ((p_l.length : Nat) : Int)), (28, .int .i64 s4.2.2.1), (53, .bool (decide (((s5.1.length : Nat) : Int) > 65536)))]) hf (by kernel_rfl) ?_
          clear hf; clear a; intro a hf
          refine wpList_nil ?_
          refine cnd (b := decide (((s5.1.length : Nat) : Int) > 65536)) hf (by kernel_rfl) (fun hb5 => ?_) (fun hb5 => ?_)
          · replace hS := of_t hb5 hS
            refine sq ?_
            refine reg ?_
            refine st tbOk 3 [2, 3, 4] (L' := [(2, .slice none 0 0), (3, .slice none 0 0), (4, .int .i64 13)]) hf (by kernel_rfl) ?_
            clear hf; clear a; intro a hf
            refine wpList_nil ?_
            have hr := Option.some.inj hS; subst hr
            refine wp_ret ?_
            replace hs : Sep w F R w12 F6 [.row 5 (tI .u8) (.slice none 0 0) ([] : List Int), .row 5 (tI .u8) (.slice ao6 s5.1.length cp6) s5.1, .mp strV (Value.int .u64) w1.heap.size s5.2.2, .row 23 (tI .u64) (.slice ao5 s4.2.1.length cp5) s4.2.1, .ro tS (.slice ao1 p_l.length cp1) p_l] := hs.addNil 5 (tI .u8)
            replace hs : Sep w F R w12 F6 [.row 23 (tI .u64) (.slice none 0 0) ([] : List Int), .row 5 (tI .u8) (.slice none 0 0) ([] : List Int), .row 5 (tI .u8) (.slice ao6 s5.1.length cp6) s5.1, .mp strV (Value.int .u64) w1.heap.size s5.2.2, .row 23 (tI .u64) (.slice ao5 s4.2.1.length cp5) s4.2.1, .ro tS (.slice ao1 p_l.length cp1) p_l] := hs.addNil 23 (tI .u64)
            exact ret_ok hf (vs := [.slice none 0 0, .slice none 0 0, .int .i64 13]) (by kernel_rfl) ⟨none, 0, none, 0, _, rfl, hs.sel [1, 0] rfl rfl⟩
          · replace hS := of_f hb5 hS
            refine wp_skip ?_
            refine reg ?_
            refine st tbOk 2 [5, 6, 26, 27, 28, 54, 55] (L' := [(5, .slice ao6 s5.1.length cp6), (6, .map (some w1.heap.size)), (26, .slice ao1 p_l.length cp1), (27, .int .i64 ((p_l.length : Nat) : Int)), (28, .int .i64 s4.2.2.1), (54, .slice ao5 s4.2.1.length cp5), (55, .int .u64 s5.2.1)]) hf (by kernel_rfl) ?_
            clear hf; clear a; intro a hf
            refine bsR tbOk u32 i23 rfl (t := (tI .u64)) (vs := [(0, .int .u64 s5.2.1)]) (cells := #[.int .u64 s5.2.1]) ([s5.2.1] : List Int) hs.le hf (by kernel_rfl) (by kernel_rfl) (by kernel_rfl) rfl (by kernel_rfl) (reps_flat _) rfl ?_
            clear hf; clear a; intro w13 a ho hx hf
            replace hs : Sep w F R w13 F6 [.row 23 (tI .u64) (.slice (some ⟨w12.heap.size, 0, none⟩) ([s5.2.1] : List Int).length ([s5.2.1] : List Int).length) ([s5.2.1] : List Int), .row 5 (tI .u8) (.slice ao6 s5.1.length cp6) s5.1, .mp strV (Value.int .u64) w1.heap.size s5.2.2, .row 23 (tI .u64) (.slice ao5 s4.2.1.length cp5) s4.2.1, .ro tS (.slice ao1 p_l.length cp1) p_l] := hs.newRow ho hx
            clear ho hx
            replace hf := Fr.keep (ks := [5, 6, 26, 27, 28, 54, 56]) (L' := [(5, .slice ao6 s5.1.length cp6), (6, .map (some w1.heap.size)), (26, .slice ao1 p_l.length cp1), (27, .int .i64 ((p_l.length : Nat) : Int)), (28, .int .i64 s4.2.2.1), (54, .slice ao5 s4.2.1.length cp5), (56, .slice (some ⟨w12.heap.size, 0, none⟩) ([s5.2.1] : List Int).length ([s5.2.1] : List Int).length)]) hf (by kernel_rfl)
            have hT := of_gd hS; clear hS; obtain ⟨hc5, hS⟩ := hT
            refine apR tbOk u32 i23 rfl rfl rfl rfl hs.le (hs.own 3 rfl) (hs.raW 0 rfl) hc5 hf (by kernel_rfl) (by kernel_rfl) (by kernel_rfl) (by kernel_rfl) ?_
            clear hf; clear a; intro ao9 cp9 w14 a ho hg hl hf
            replace hs : Sep w F R w14 F6 [.row 23 (tI .u64) (.slice (some ⟨w12.heap.size, 0, none⟩) ([s5.2.1] : List Int).length ([s5.2.1] : List Int).length) ([s5.2.1] : List Int), .row 5 (tI .u8) (.slice ao6 s5.1.length cp6) s5.1, .mp strV (Value.int .u64) w1.heap.size s5.2.2, .row 23 (tI .u64) (.slice ao9 (s4.2.1 ++ ([s5.2.1] : List Int)).length cp9) (s4.2.1 ++ ([s5.2.1] : List Int)), .ro tS (.slice ao1 p_l.length cp1) p_l] := hs.updRow 3 rfl ho hg hl
            clear ho hg hl
            replace hs : Sep w F R w14 F6 [.row 5 (tI .u8) (.slice ao6 s5.1.length cp6) s5.1, .mp strV (Value.int .u64) w1.heap.size s5.2.2, .row 23 (tI .u64) (.slice ao9 (s4.2.1 ++ ([s5.2.1] : List Int)).length cp9) (s4.2.1 ++ ([s5.2.1] : List Int)), .ro tS (.slice ao1 p_l.length cp1) p_l] := hs.sel [1, 2, 3, 4] rfl rfl
            replace hf := Fr.keep (ks := [5, 6, 26, 27, 28, 57]) (L' := [(5, .slice ao6 s5.1.length cp6), (6, .map (some w1.heap.size)), (26, .slice ao1 p_l.length cp1), (27, .int .i64 ((p_l.length : Nat) : Int)), (28, .int .i64 s4.2.2.1), (57, .slice ao9 (s4.2.1 ++ ([s5.2.1] : List Int)).length cp9)]) hf (by kernel_rfl)
            refine st tbOk 1 [5, 6, 7, 26, 27, 28] (L' := [(5, .slice ao6 s5.1.length cp6), (6, .map (some w1.heap.size)), (7, .slice ao9 (s4.2.1 ++ ([s5.2.1] : List Int)).length cp9), (26, .slice ao1 p_l.length cp1), (27, .int .i64 ((p_l.length : Nat) : Int)), (28, .int .i64 s4.2.2.1)]) hf (by kernel_rfl) ?_
            clear hf; clear a; intro a hf
            refine wpList_nil ?_
            refine reg ?_
            refine st tbOk 2 [5, 6, 7, 26, 27, 28] (L' := [(5, .slice ao6 s5.1.length cp6), (6, .map (some w1.heap.size)), (7, .slice ao9 (s4.2.1 ++ ([s5.2.1] : List Int)).length cp9), (26, .slice ao1 p_l.length cp1), (27, .int .i64 ((p_l.length : Nat) : Int)), (28, .int .i64 (IntKind.i64.wrap (s4.2.2.1 + 1)))]) hf (by kernel_rfl) ?_
            clear hf; clear a; intro a hf
            refine wpList_nil ?_
            exact hK4 (s5.1, (s4.2.1 ++ ([s5.2.1] : List Int)), IntKind.i64.wrap (s4.2.2.1 + 1), s5.2.2) _ _ ⟨ao6, cp6, ao9, cp9, _, hs.sel [0, 2, 1, 3] rfl rfl, hf.keep (ks := [5, 6, 7, 26, 27, 28]) (by kernel_rfl)⟩ hS
        · clear hS; intro KK5 k3 hK5 hS
          refine cnd (b := !there_1) hf (by kernel_rfl) (fun hb4 => ?_) (fun hb4 => ?_)
          · replace hS := of_t hb4 hS
            refine sq ?_
            refine reg ?_
            have hT := of_let hS; clear hS; obtain ⟨at_2, hl5, hS⟩ := hT
            refine st tbOk 4 [5, 6, 7, 11, 12, 26, 27, 28] (L' := [(5, .slice ao4 s4.1.length cp4), (6, .map (some w1.heap.size)), (7, .slice ao5 s4.2.1.length cp5), (11, strV s_2), (12, .int .u64 at_2), (26, .slice ao1 p_l.length cp1), (27, .int .i64 ((p_l.length : Nat) : Int)), (28, .int .i64 s4.2.2.1)]) hf (by subst hl5; kernel_rfl) ?_
            clear hf; clear a; intro a hf
            refine wpList_nil ?_
            refine sq ?_
            refine reg ?_
            refine st tbOk 3 [5, 6, 7, 11, 12, 26, 27, 28, 43, 44, 45] (L' := [(5, .slice ao4 s4.1.length cp4), (6, .map (some w1.heap.size)), (7, .slice ao5 s4.2.1.length cp5), (11, strV s_2), (12, .int .u64 at_2), (26, .slice ao1 p_l.length cp1), (27, .int .i64 ((p_l.length : Nat) : Int)), (28, .int .i64 s4.2.2.1), (43, .map (some w1.heap.size)), (44, strV s_2), (45, .int .u64 at_2)]) hf (by kernel_rfl) ?_
            clear hf; clear a; intro a hf
            refine mput tbOk u60 (key_str tbOk u9) (hs.mpO 2 rfl) (s_2 : (List UInt8)) (at_2 : Int) hf (by kernel_rfl) (by kernel_rfl) (by kernel_rfl) (by kernel_rfl) ?_
            clear hf; clear a; intro w8 a hg ho hf
            replace hs : Sep w F R w8 F5 [.row 5 (tI .u8) (.slice ao4 s4.1.length cp4) s4.1, .row 23 (tI .u64) (.slice ao5 s4.2.1.length cp5) s4.2.1, .mp strV (Value.int .u64) w1.heap.size (mpPut s4.2.2.2 (s_2 : (List UInt8)) (at_2 : Int)), .ro tS (.slice ao1 p_l.length cp1) p_l] := hs.updMp 2 rfl hg ho
            clear hg ho
            replace hf := Fr.keep (ks := [5, 6, 7, 11, 12, 26, 27, 28]) (L' := [(5, .slice ao4 s4.1.length cp4), (6, .map (some w1.heap.size)), (7, .slice ao5 s4.2.1.length cp5), (11, strV s_2), (12, .int .u64 at_2), (26, .slice ao1 p_l.length cp1), (27, .int .i64 ((p_l.length : Nat) : Int)), (28, .int .i64 s4.2.2.1)]) hf (by kernel_rfl)
            refine wpList_nil ?_
            refine reg ?_
            refine st tbOk 2 [6, 7, 12, 26, 27, 28, 46, 47] (L' := [(6, .map (some w1.heap.size)), (7, .slice ao5 s4.2.1.length cp5), (12, .int .u64 at_2), (26, .slice ao1 p_l.length cp1), (27, .int .i64 ((p_l.length : Nat) : Int)), (28, .int .i64 s4.2.2.1), (46, .slice ao4 s4.1.length cp4), (47, strV s_2)]) hf (by kernel_rfl) ?_
            clear hf; clear a; intro a hf
            have hT := of_gd hS; clear hS; obtain ⟨hc3, hS⟩ := hT
            refine apS tbOk u22 u9 i5 hs.le (hs.own 0 rfl) (y := s_2) hc3 hf (by kernel_rfl) (by kernel_rfl) (by kernel_rfl) (by kernel_rfl) ?_
            clear hf; clear a; intro ao7 cp7 w9 a ho hg hl hf
            replace hs : Sep w F R w9 F5 [.row 5 (tI .u8) (.slice ao7 (s4.1 ++ ofStr s_2).length cp7) (s4.1 ++ ofStr s_2), .row 23 (tI .u64) (.slice ao5 s4.2.1.length cp5) s4.2.1, .mp strV (Value.int .u64) w1.heap.size (mpPut s4.2.2.2 (s_2 : (List UInt8)) (at_2 : Int)), .ro tS (.slice ao1 p_l.length cp1) p_l] := hs.updRow 0 rfl ho hg hl
            clear ho hg hl
            replace hf := Fr.keep (ks := [6, 7, 12, 26, 27, 28, 48]) (L' := [(6, .map (some w1.heap.size)), (7, .slice ao5 s4.2.1.length cp5), (12, .int .u64 at_2), (26, .slice ao1 p_l.length cp1), (27, .int .i64 ((p_l.length : Nat) : Int)), (28, .int .i64 s4.2.2.1), (48, .slice ao7 (s4.1 ++ ofStr s_2).length cp7)]) hf (by kernel_rfl)
            refine bsR tbOk u22 i5 rfl (t := (tI .u8)) (vs := [(0, .int .u8 0)]) (cells := #[.int .u8 0]) ([0] : List Int) hs.le hf (by kernel_rfl) (by kernel_rfl) (by kernel_rfl) rfl (by kernel_rfl) (reps_flat _) rfl ?_
            clear hf; clear a; intro w10 a ho hx hf
            replace hs : Sep w F R w10 F5 [.row 5 (tI .u8) (.slice (some ⟨w9.heap.size, 0, none⟩) ([0] : List Int).length ([0] : List Int).length) ([0] : List Int), .row 5 (tI .u8) (.slice ao7 (s4.1 ++ ofStr s_2).length cp7) (s4.1 ++ ofStr s_2), .row 23 (tI .u64) (.slice ao5 s4.2.1.length cp5) s4.2.1, .mp strV (Value.int .u64) w1.heap.size (mpPut s4.2.2.2 (s_2 : (List UInt8)) (at_2 : Int)), .ro tS (.slice ao1 p_l.length cp1) p_l] := hs.newRow ho hx
            clear ho hx
            replace hf := Fr.keep (ks := [6, 7, 12, 26, 27, 28, 48, 49]) (L' := [(6, .map (some w1.heap.size)), (7, .slice ao5 s4.2.1.length cp5), (12, .int .u64 at_2), (26, .slice ao1 p_l.length cp1), (27, .int .i64 ((p_l.length : Nat) : Int)), (28, .int .i64 s4.2.2.1), (48, .slice ao7 (s4.1 ++ ofStr s_2).length cp7), (49, .slice (some ⟨w9.heap.size, 0, none⟩) ([0] : List Int).length ([0] : List Int).length)]) hf (by kernel_rfl)
            have hT := of_gd hS; clear hS; obtain ⟨hc4, hS⟩ := hT
            refine apR tbOk u22 i5 rfl rfl rfl rfl hs.le (hs.own 1 rfl) (hs.raW 0 rfl) hc4 hf (by kernel_rfl) (by kernel_rfl) (by kernel_rfl) (by kernel_rfl) ?_
            clear hf; clear a; intro ao8 cp8 w11 a ho hg hl hf
            replace hs : Sep w F R w11 F5 [.row 5 (tI .u8) (.slice (some ⟨w9.heap.size, 0, none⟩) ([0] : List Int).length ([0] : List Int).length) ([0] : List Int), .row 5 (tI .u8) (.slice ao8 ((s4.1 ++ ofStr s_2) ++ ([0] : List Int)).length cp8) ((s4.1 ++ ofStr s_2) ++ ([0] : List Int)), .row 23 (tI .u64) (.slice ao5 s4.2.1.length cp5) s4.2.1, .mp strV (Value.int .u64) w1.heap.size (mpPut s4.2.2.2 (s_2 : (List UInt8)) (at_2 : Int)), .ro tS (.slice ao1 p_l.length cp1) p_l] := hs.updRow 1 rfl ho hg hl
            clear ho hg hl
            replace hs : Sep w F R w11 F5 [.row 5 (tI .u8) (.slice ao8 ((s4.1 ++ ofStr s_2) ++ ([0] : List Int)).length cp8) ((s4.1 ++ ofStr s_2) ++ ([0] : List Int)), .row 23 (tI .u64) (.slice ao5 s4.2.1.length cp5) s4.2.1, .mp strV (Value.int .u64) w1.heap.size (mpPut s4.2.2.2 (s_2 : (List UInt8)) (at_2 : Int)), .ro tS (.slice ao1 p_l.length cp1) p_l] := hs.sel [1, 2, 3, 4] rfl rfl
            replace hf := Fr.keep (ks := [6, 7, 12, 26, 27, 28, 50]) (L' := [(6, .map (some w1.heap.size)), (7, .slice ao5 s4.2.1.length cp5), (12, .int .u64 at_2), (26, .slice ao1 p_l.length cp1), (27, .int .i64 ((p_l.length : Nat) : Int)), (28, .int .i64 s4.2.2.1), (50, .slice ao8 ((s4.1 ++ ofStr s_2) ++ ([0] : List Int)).length cp8)]) hf (by kernel_rfl)
            refine st tbOk 1 [5, 6, 7, 12, 26, 27, 28] (L' := [(5, .slice ao8 ((s4.1 ++ ofStr s_2) ++ ([0] : List Int)).length cp8), (6, .map (some w1.heap.size)), (7, .slice ao5 s4.2.1.length cp5), (12, .int .u64 at_2), (26, .slice ao1 p_l.length cp1), (27, .int .i64 ((p_l.length : Nat) : Int)), (28, .int .i64 s4.2.2.1)]) hf (by kernel_rfl) ?_
            clear hf; clear a; intro a hf
            refine wpList_nil ?_
            exact hK5 (((s4.1 ++ ofStr s_2) ++ ([0] : List Int)), at_2, (mpPut s4.2.2.2 (s_2 : (List UInt8)) (at_2 : Int))) _ _ ⟨ao8, cp8, _, hs.sel [0, 2, 1, 3] rfl rfl, hf.keep (ks := [5, 6, 7, 12, 26, 27, 28]) (by kernel_rfl)⟩ hS
          · replace hS := of_f hb4 hS
            refine wp_skip ?_
            exact hK5 (s4.1, at_1, s4.2.2.2) _ _ ⟨ao4, cp4, _, hs.sel [0, 2, 1, 3] rfl rfl, hf.keep (ks := [5, 6, 7, 12, 26, 27, 28]) (by kernel_rfl)⟩ hS
      · replace hS := of_f hb3 hS
        refine wp_exit ?_
        exact hK3 (s4.1, s4.2.1) _ _ ⟨ao4, cp4, ao5, cp5, _, hs.sel [0, 1] rfl rfl, hf.keep (ks := [5, 7]) (by kernel_rfl)⟩ hS
  · clear hS; intro KK1 k1 hK1 hS
    refine blk ?_
    refine lp (st := 0) (fun (s2 : Int) (a : Act) (w' : World) => ∃ (F2 : SH), Sep w F R w' F2 [.mp strV (Value.int .u64) w1.heap.size (mpPut ([] : List ((List UInt8) × Int)) ([] : (List UInt8)) (0 : Int)), .row 5 (tI .u8) (.slice (some ⟨w.heap.size, 0, none⟩) ([0] : List Int).length ([0] : List Int).length) ([0] : List Int), .ro tS (.slice ao1 p_l.length cp1) p_l] ∧ Fr 61 [(0, .slice ao1 p_l.length cp1), (5, .slice (some ⟨w.heap.size, 0, none⟩) ([0] : List Int).length ([0] : List Int).length), (6, .map (some w1.heap.size)), (7, .slice none 0 0), (17, .slice ao1 p_l.length cp1), (18, .int .i64 ((p_l.length : Nat) : Int)), (19, .int .i64 s2)] a) ?_ ⟨_, hs.sel [0, 1, 2] rfl rfl, hf.keep (ks := [0, 5, 6, 7, 17, 18, 19]) (by kernel_rfl)⟩ hS
    clear hS hf hs; clear a
    intro rec1 KK2 hK2 s2 a w4 hM hS
    obtain ⟨F2, hs, hf⟩ := hM
    refine sq ?_
    refine reg ?_
    refine st tbOk 1 [0, 5, 6, 7, 17, 18, 19, 20] (L' := [(0, .slice ao1 p_l.length cp1), (5, .slice (some ⟨w.heap.size, 0, none⟩) ([0] : List Int).length ([0] : List Int).length), (6, .map (some w1.heap.size)), (7, .slice none 0 0), (17, .slice ao1 p_l.length cp1), (18, .int .i64 ((p_l.length : Nat) : Int)), (19, .int .i64 s2), (20, .bool (decide (s2 < ((p_l.length : Nat) : Int))))]) hf (by kernel_rfl) ?_
    clear hf; clear a; intro a hf
    refine wpList_nil ?_
    refine sq ?_
    refine cnd (b := decide (s2 < ((p_l.length : Nat) : Int))) hf (by kernel_rfl) (fun hb1 => ?_) (fun hb1 => ?_)
    · replace hS := of_t hb1 hS
      refine wp_skip ?_
      refine sq ?_
      refine blk ?_
      refine sq ?_
      refine reg ?_
      have hT := of_gd hS; clear hS; obtain ⟨hc1, hS⟩ := hT
      refine ixR tbOk u30 i9 rfl rfl ((hs.ro 2 rfl).ra (LeH.refl _)) (k := .i64) (n := s2) hc1 hf (by kernel_rfl) (by kernel_rfl) (by kernel_rfl) (by kernel_rfl) ?_
      clear hf; clear a; intro pb1 po1 c1 a hp1 hr1 hf
      obtain rfl : c1 = [strV (gt p_l s2)] := hr1
      replace hs : Sep w F R w4 F2 [.cel pb1 po1 [strV (gt p_l s2)], .mp strV (Value.int .u64) w1.heap.size (mpPut ([] : List ((List UInt8) × Int)) ([] : (List UInt8)) (0 : Int)), .row 5 (tI .u8) (.slice (some ⟨w.heap.size, 0, none⟩) ([0] : List Int).length ([0] : List Int).length) ([0] : List Int), .ro tS (.slice ao1 p_l.length cp1) p_l] := hs.addCel hp1
      replace hf := Fr.keep (ks := [0, 5, 6, 7, 17, 18, 19, 21]) (L' := [(0, .slice ao1 p_l.length cp1), (5, .slice (some ⟨w.heap.size, 0, none⟩) ([0] : List Int).length ([0] : List Int).length), (6, .map (some w1.heap.size)), (7, .slice none 0 0), (17, .slice ao1 p_l.length cp1), (18, .int .i64 ((p_l.length : Nat) : Int)), (19, .int .i64 s2), (21, .pointer (some ⟨pb1, po1, none⟩))]) hf (by kernel_rfl)
      refine ldC tbOk (T := 9) (hs.ccel 0 rfl) (LeH.refl _) 0 (strV (gt p_l s2)) hf (by kernel_rfl) (by kernel_rfl) (by kernel_rfl) (by kernel_rfl) ?_
      clear hf; clear a; intro a hf
      replace hs : Sep w F R w4 F2 [.mp strV (Value.int .u64) w1.heap.size (mpPut ([] : List ((List UInt8) × Int)) ([] : (List UInt8)) (0 : Int)), .row 5 (tI .u8) (.slice (some ⟨w.heap.size, 0, none⟩) ([0] : List Int).length ([0] : List Int).length) ([0] : List Int), .ro tS (.slice ao1 p_l.length cp1) p_l] := hs.sel [1, 2, 3] rfl rfl
      replace hf := Fr.keep (ks := [0, 5, 6, 7, 17, 18, 19, 22]) (L' := [(0, .slice ao1 p_l.length cp1), (5, .slice (some ⟨w.heap.size, 0, none⟩) ([0] : List Int).length ([0] : List Int).length), (6, .map (some w1.heap.size)), (7, .slice none 0 0), (17, .slice ao1 p_l.length cp1), (18, .int .i64 ((p_l.length : Nat) : Int)), (19, .int .i64 s2), (22, strV (gt p_l s2))]) hf (by kernel_rfl)
      have hT := of_let hS; clear hS; obtain ⟨s_1, hl1, hS⟩ := hT
      refine st tbOk 1 [0, 5, 6, 7, 9, 17, 18, 19] (L' := [(0, .slice ao1 p_l.length cp1), (5, .slice (some ⟨w.heap.size, 0, none⟩) ([0] : List Int).length ([0] : List Int).length), (6, .map (some w1.heap.size)), (7, .slice none 0 0), (9, strV s_1), (17, .slice ao1 p_l.length cp1), (18, .int .i64 ((p_l.length : Nat) : Int)), (19, .int .i64 s2)]) hf (by subst hl1; kernel_rfl) ?_
      clear hf; clear a; intro a hf
      refine wpList_nil ?_
      refine sq ?_
      refine reg ?_
      refine st tbOk 1 [0, 5, 6, 7, 17, 18, 19, 23] (L' := [(0, .slice ao1 p_l.length cp1), (5, .slice (some ⟨w.heap.size, 0, none⟩) ([0] : List Int).length ([0] : List Int).length), (6, .map (some w1.heap.size)), (7, .slice none 0 0), (17, .slice ao1 p_l.length cp1), (18, .int .i64 ((p_l.length : Nat) : Int)), (19, .int .i64 s2), (23, strV s_1)]) hf (by kernel_rfl) ?_
      clear hf; clear a; intro a hf
      have hT := of_bd hS; clear hS; obtain ⟨z1, hz1, hS⟩ := hT
      refine clV ent33 (vs := [strV s_1, strV [0]]) (caps := []) hf (by kernel_rfl) (by kernel_rfl) (by kernel_rfl) (by kernel_rfl) (strings_Contains_ok (s := s_1) (sub := [0]) (hs.enter [] rfl rfl) hz1) ?_
      clear hf; clear a; intro v w5 a hT hf; obtain ⟨F3, rfl, hr⟩ := hT
      replace hs : Sep w F R w5 F3 [.mp strV (Value.int .u64) w1.heap.size (mpPut ([] : List ((List UInt8) × Int)) ([] : (List UInt8)) (0 : Int)), .row 5 (tI .u8) (.slice (some ⟨w.heap.size, 0, none⟩) ([0] : List Int).length ([0] : List Int).length) ([0] : List Int), .ro tS (.slice ao1 p_l.length cp1) p_l] := hs.back [] [0, 1, 2] rfl rfl rfl rfl hr
      clear hr
      replace hf := Fr.keep (ks := [0, 5, 6, 7, 17, 18, 19, 24]) (L' := [(0, .slice ao1 p_l.length cp1), (5, .slice (some ⟨w.heap.size, 0, none⟩) ([0] : List Int).length ([0] : List Int).length), (6, .map (some w1.heap.size)), (7, .slice none 0 0), (17, .slice ao1 p_l.length cp1), (18, .int .i64 ((p_l.length : Nat) : Int)), (19, .int .i64 s2), (24, .bool z1)]) hf (by kernel_rfl)
      refine wpList_nil ?_
      refine cnd (b := z1) hf (by kernel_rfl) (fun hb2 => ?_) (fun hb2 => ?_)
      · replace hS := of_t hb2 hS
        refine sq ?_
        refine reg ?_
        refine st tbOk 3 [2, 3, 4] (L' := [(2, .slice none 0 0), (3, .slice none 0 0), (4, .int .i64 1)]) hf (by kernel_rfl) ?_
        clear hf; clear a; intro a hf
        refine wpList_nil ?_
        have hr := Option.some.inj hS; subst hr
        refine wp_ret ?_
        replace hs : Sep w F R w5 F3 [.row 5 (tI .u8) (.slice none 0 0) ([] : List Int), .mp strV (Value.int .u64) w1.heap.size (mpPut ([] : List ((List UInt8) × Int)) ([] : (List UInt8)) (0 : Int)), .row 5 (tI .u8) (.slice (some ⟨w.heap.size, 0, none⟩) ([0] : List Int).length ([0] : List Int).length) ([0] : List Int), .ro tS (.slice ao1 p_l.length cp1) p_l] := hs.addNil 5 (tI .u8)
        replace hs : Sep w F R w5 F3 [.row 23 (tI .u64) (.slice none 0 0) ([] : List Int), .row 5 (tI .u8) (.slice none 0 0) ([] : List Int), .mp strV (Value.int .u64) w1.heap.size (mpPut ([] : List ((List UInt8) × Int)) ([] : (List UInt8)) (0 : Int)), .row 5 (tI .u8) (.slice (some ⟨w.heap.size, 0, none⟩) ([0] : List Int).length ([0] : List Int).length) ([0] : List Int), .ro tS (.slice ao1 p_l.length cp1) p_l] := hs.addNil 23 (tI .u64)
        exact ret_ok hf (vs := [.slice none 0 0, .slice none 0 0, .int .i64 1]) (by kernel_rfl) ⟨none, 0, none, 0, _, rfl, hs.sel [1, 0] rfl rfl⟩
      · replace hS := of_f hb2 hS
        refine wp_skip ?_
        refine reg ?_
        refine st tbOk 2 [0, 5, 6, 7, 17, 18, 19] (L' := [(0, .slice ao1 p_l.length cp1), (5, .slice (some ⟨w.heap.size, 0, none⟩) ([0] : List Int).length ([0] : List Int).length), (6, .map (some w1.heap.size)), (7, .slice none 0 0), (17, .slice ao1 p_l.length cp1), (18, .int .i64 ((p_l.length : Nat) : Int)), (19, .int .i64 (IntKind.i64.wrap (s2 + 1)))]) hf (by kernel_rfl) ?_
        clear hf; clear a; intro a hf
        refine wpList_nil ?_
        exact hK2 (IntKind.i64.wrap (s2 + 1)) _ _ ⟨_, hs.sel [0, 1, 2] rfl rfl, hf.keep (ks := [0, 5, 6, 7, 17, 18, 19]) (by kernel_rfl)⟩ hS
    · replace hS := of_f hb1 hS
      refine wp_exit ?_
      exact hK1 () _ _ ⟨_, hs.sel [0, 1, 2] rfl rfl, hf.keep (ks := [0, 5, 6, 7]) (by kernel_rfl)⟩ hS

set_option maxHeartbeats 4000000 in
theorem names_At_ok {w : World} {F : SH} {table : List Int} {p_at : Int} {ao1 : Option Addr} {cp1 : Nat} (hs : Sep w F (blks [.ro (tI .u8) (.slice ao1 table.length cp1) table]) w F [.ro (tI .u8) (.slice ao1 table.length cp1) table]) {r : (List UInt8) × Int} (hS : names_At table p_at = some r) :
    Calls Try.prog 16 [.slice ao1 table.length cp1, .int .u64 p_at].toArray w (Gives (fun u w' => ∃ (F' : SH), u = .tuple #[strV r.1, .int .i64 r.2] ∧ Sep w F (blks [.ro (tI .u8) (.slice ao1 table.length cp1) table]) w' F' [])) := by
  generalize (blks [.ro (tI .u8) (.slice ao1 table.length cp1) table]) = R at hs ⊢
  unfold names_At at hS
  refine fn_ok (vs := [.slice ao1 table.length cp1, .int .u64 p_at]) Try.func16 rfl 24 Try.ntmps16 (Nat.le_of_ble_eq_true rfl) ?_
  intro a hf
  replace hf := Fr.cast (L' := [(0, .slice ao1 table.length cp1), (1, .int .u64 p_at)]) hf (by kernel_rfl)
  refine sq ?_
  refine reg ?_
  refine st tbOk 2 [0, 1] (L' := [(0, .slice ao1 table.length cp1), (1, .int .u64 p_at)]) hf (by kernel_rfl) ?_
  clear hf; clear a; intro a hf
  refine wpList_nil ?_
  refine sq ?_
  refine sq ?_
  refine reg ?_
  refine st tbOk 5 [0, 1, 12] (L' := [(0, .slice ao1 table.length cp1), (1, .int .u64 p_at), (12, .bool (decide (p_at ≥ (IntKind.u64.wrap ((table.length : Nat) : Int)))))]) hf (by kernel_rfl) ?_
  clear hf; clear a; intro a hf
  refine wpList_nil ?_
  refine cnd (b := decide (p_at ≥ (IntKind.u64.wrap ((table.length : Nat) : Int)))) hf (by kernel_rfl) (fun hb1 => ?_) (fun hb1 => ?_)
  · replace hS := of_t hb1 hS
    refine sq ?_
    refine reg ?_
    refine st tbOk 2 [4, 5] (L' := [(4, strV []), (5, .int .i64 10)]) hf (by kernel_rfl) ?_
    clear hf; clear a; intro a hf
    refine wpList_nil ?_
    have hr := Option.some.inj hS; subst hr
    refine wp_ret ?_
    exact ret_ok hf (vs := [strV [], .int .i64 10]) (by kernel_rfl) ⟨_, rfl, hs.sel [] rfl rfl⟩
  · replace hS := of_f hb1 hS
    refine wp_skip ?_
    refine sq ?_
    refine reg ?_
    refine st tbOk 2 [13, 14] (L' := [(13, .slice ao1 table.length cp1), (14, .int .u64 p_at)]) hf (by kernel_rfl) ?_
    clear hf; clear a; intro a hf
    have hT := of_gd hS; clear hS; obtain ⟨hc1, hS⟩ := hT
    refine sl tbOk u22 i5 rfl (hs.ro 0 rfl) (lo := p_at) (hi := ((table.length : Nat) : Int)) (m := 0) hc1 (.inr ⟨_, .u64, rfl, by kernel_rfl⟩) (.inl ⟨rfl, rfl⟩) (.inl rfl) hf (by kernel_rfl) (by kernel_rfl) (by kernel_rfl) ?_
    clear hf; clear a; intro ao2 cp2 a hr1 hf
    replace hs : Sep w F R w F [.ro (tI .u8) (.slice ao2 (cutL table p_at ((table.length : Nat) : Int)).length cp2) (cutL table p_at ((table.length : Nat) : Int)), .ro (tI .u8) (.slice ao1 table.length cp1) table] := hs.addRo hr1
    replace hs : Sep w F R w F [.ro (tI .u8) (.slice ao2 (cutL table p_at ((table.length : Nat) : Int)).length cp2) (cutL table p_at ((table.length : Nat) : Int))] := hs.sel [0] rfl rfl
    replace hf := Fr.keep (ks := [15]) (L' := [(15, .slice ao2 (cutL table p_at ((table.length : Nat) : Int)).length cp2)]) hf (by kernel_rfl)
    refine st tbOk 1 [6] (L' := [(6, .slice ao2 (cutL table p_at ((table.length : Nat) : Int)).length cp2)]) hf (by kernel_rfl) ?_
    clear hf; clear a; intro a hf
    refine wpList_nil ?_
    refine sq ?_
    refine reg ?_
    refine st tbOk 1 [6, 16] (L' := [(6, .slice ao2 (cutL table p_at ((table.length : Nat) : Int)).length cp2), (16, .slice ao2 (cutL table p_at ((table.length : Nat) : Int)).length cp2)]) hf (by kernel_rfl) ?_
    clear hf; clear a; intro a hf
    have hT := of_bd hS; clear hS; obtain ⟨z1, hz1, hS⟩ := hT
    refine clV ent32 (vs := [.slice ao2 (cutL table p_at ((table.length : Nat) : Int)).length cp2, .int .u8 0]) (caps := []) hf (by kernel_rfl) (by kernel_rfl) (by kernel_rfl) (by kernel_rfl) (slices_Index_byte_byte_ok (p_s := (cutL table p_at ((table.length : Nat) : Int))) (p_v := 0) (hs.enter [0] rfl rfl) hz1) ?_
    clear hf; clear a; intro v w1 a hT hf; obtain ⟨F1, rfl, hr⟩ := hT
    replace hs : Sep w F R w1 F1 [.ro (tI .u8) (.slice ao2 (cutL table p_at ((table.length : Nat) : Int)).length cp2) (cutL table p_at ((table.length : Nat) : Int))] := hs.back [0] [0] rfl rfl rfl rfl hr
    clear hr
    replace hf := Fr.keep (ks := [6, 17]) (L' := [(6, .slice ao2 (cutL table p_at ((table.length : Nat) : Int)).length cp2), (17, .int .i64 z1)]) hf (by kernel_rfl)
    refine st tbOk 1 [6, 7] (L' := [(6, .slice ao2 (cutL table p_at ((table.length : Nat) : Int)).length cp2), (7, .int .i64 z1)]) hf (by kernel_rfl) ?_
    clear hf; clear a; intro a hf
    refine wpList_nil ?_
    refine sq ?_
    refine sq ?_
    refine reg ?_
    refine st tbOk 2 [6, 7, 19] (L' := [(6, .slice ao2 (cutL table p_at ((table.length : Nat) : Int)).length cp2), (7, .int .i64 z1), (19, .bool (decide (z1 < 0)))]) hf (by kernel_rfl) ?_
    clear hf; clear a; intro a hf
    refine wpList_nil ?_
    refine cnd (b := decide (z1 < 0)) hf (by kernel_rfl) (fun hb2 => ?_) (fun hb2 => ?_)
    · replace hS := of_t hb2 hS
      refine sq ?_
      refine reg ?_
      refine st tbOk 2 [4, 5] (L' := [(4, strV []), (5, .int .i64 11)]) hf (by kernel_rfl) ?_
      clear hf; clear a; intro a hf
      refine wpList_nil ?_
      have hr := Option.some.inj hS; subst hr
      refine wp_ret ?_
      exact ret_ok hf (vs := [strV [], .int .i64 11]) (by kernel_rfl) ⟨_, rfl, hs.sel [] rfl rfl⟩
    · replace hS := of_f hb2 hS
      refine wp_skip ?_
      refine sq ?_
      refine reg ?_
      refine st tbOk 2 [20, 21] (L' := [(20, .slice ao2 (cutL table p_at ((table.length : Nat) : Int)).length cp2), (21, .int .i64 z1)]) hf (by kernel_rfl) ?_
      clear hf; clear a; intro a hf
      have hT := of_gd hS; clear hS; obtain ⟨hc2, hS⟩ := hT
      refine sl tbOk u22 i5 rfl (hs.ro 0 rfl) (lo := 0) (hi := z1) (m := 0) hc2 (.inl ⟨rfl, rfl⟩) (.inr ⟨_, .i64, rfl, by kernel_rfl⟩) (.inl rfl) hf (by kernel_rfl) (by kernel_rfl) (by kernel_rfl) ?_
      clear hf; clear a; intro ao3 cp3 a hr2 hf
      replace hs : Sep w F R w1 F1 [.ro (tI .u8) (.slice ao3 (cutL (cutL table p_at ((table.length : Nat) : Int)) 0 z1).length cp3) (cutL (cutL table p_at ((table.length : Nat) : Int)) 0 z1), .ro (tI .u8) (.slice ao2 (cutL table p_at ((table.length : Nat) : Int)).length cp2) (cutL table p_at ((table.length : Nat) : Int))] := hs.addRo hr2
      replace hs : Sep w F R w1 F1 [.ro (tI .u8) (.slice ao3 (cutL (cutL table p_at ((table.length : Nat) : Int)) 0 z1).length cp3) (cutL (cutL table p_at ((table.length : Nat) : Int)) 0 z1)] := hs.sel [0] rfl rfl
      replace hf := Fr.keep (ks := [22]) (L' := [(22, .slice ao3 (cutL (cutL table p_at ((table.length : Nat) : Int)) 0 z1).length cp3)]) hf (by kernel_rfl)
      refine b2sR tbOk u22 u5 u9 (hs.raR 0 rfl) hf (by kernel_rfl) (by kernel_rfl) (by kernel_rfl) ?_
      clear hf; clear a; intro a hf
      replace hs : Sep w F R w1 F1 [] := hs.sel [] rfl rfl
      replace hf := Fr.keep (ks := [23]) (L' := [(23, strV (toStr (cutL (cutL table p_at ((table.length : Nat) : Int)) 0 z1)))]) hf (by kernel_rfl)
      refine st tbOk 2 [4, 5] (L' := [(4, strV (toStr (cutL (cutL table p_at ((table.length : Nat) : Int)) 0 z1))), (5, .int .i64 0)]) hf (by kernel_rfl) ?_
      clear hf; clear a; intro a hf
      refine wpList_nil ?_
      have hr := Option.some.inj hS; subst hr
      refine wp_ret ?_
      exact ret_ok hf (vs := [strV (toStr (cutL (cutL table p_at ((table.length : Nat) : Int)) 0 z1)), .int .i64 0]) (by kernel_rfl) ⟨_, rfl, hs.sel [] rfl rfl⟩

set_option maxHeartbeats 4000000 in
theorem names_Check_ok {w : World} {F : SH} {table : List Int} {ao1 : Option Addr} {cp1 : Nat} (hs : Sep w F (blks [.ro (tI .u8) (.slice ao1 table.length cp1) table]) w F [.ro (tI .u8) (.slice ao1 table.length cp1) table]) {r : Int} (hS : names_Check table = some r) :
    Calls Try.prog 18 [.slice ao1 table.length cp1].toArray w (Gives (fun u w' => ∃ (F' : SH), u = .int .i64 r ∧ Sep w F (blks [.ro (tI .u8) (.slice ao1 table.length cp1) table]) w' F' [])) := by
  generalize (blks [.ro (tI .u8) (.slice ao1 table.length cp1) table]) = R at hs ⊢
  unfold names_Check at hS
  refine fn_ok (vs := [.slice ao1 table.length cp1]) Try.func18 rfl 22 Try.ntmps18 (Nat.le_of_ble_eq_true rfl) ?_
  intro a hf
  replace hf := Fr.cast (L' := [(0, .slice ao1 table.length cp1)]) hf (by kernel_rfl)
  refine sq ?_
  refine reg ?_
  refine st tbOk 1 [0] (L' := [(0, .slice ao1 table.length cp1)]) hf (by kernel_rfl) ?_
  clear hf; clear a; intro a hf
  refine wpList_nil ?_
  refine sq ?_
  refine sq ?_
  refine reg ?_
  have hT := of_let hS; clear hS; obtain ⟨n_1, hl1, hS⟩ := hT
  refine st tbOk 3 [0, 3] (L' := [(0, .slice ao1 table.length cp1), (3, .int .i64 n_1)]) hf (by subst hl1; kernel_rfl) ?_
  clear hf; clear a; intro a hf
  refine wpList_nil ?_
  refine sq ?_
  refine ctj (fun (s1 : Bool) (a : Act) (w' : World) => ∃ (F1 : SH), Sep w F R w' F1 [] ∧ Fr 22 [(21, .bool s1)] a) hS ?_ ?_
  · clear hS hf hs; clear a; intro s1 a w1 hM hS
    obtain ⟨F1, hs, hf⟩ := hM
    refine cnd (b := s1) hf (by kernel_rfl) (fun hb3 => ?_) (fun hb3 => ?_)
    · replace hS := of_t hb3 hS
      refine sq ?_
      refine reg ?_
      refine st tbOk 1 [2] (L' := [(2, .int .i64 11)]) hf (by kernel_rfl) ?_
      clear hf; clear a; intro a hf
      refine wpList_nil ?_
      have hr := Option.some.inj hS; subst hr
      refine wp_ret ?_
      exact ret_ok hf (vs := [.int .i64 11]) (by kernel_rfl) ⟨_, rfl, hs.sel [] rfl rfl⟩
    · replace hS := of_f hb3 hS
      refine wp_skip ?_
      refine sq ?_
      refine reg ?_
      refine st tbOk 1 [2] (L' := [(2, .int .i64 0)]) hf (by kernel_rfl) ?_
      clear hf; clear a; intro a hf
      refine wpList_nil ?_
      have hr := Option.some.inj hS; subst hr
      refine wp_ret ?_
      exact ret_ok hf (vs := [.int .i64 0]) (by kernel_rfl) ⟨_, rfl, hs.sel [] rfl rfl⟩
  · clear hS; intro KK1 k1 hK1 hS
    refine reg ?_
    refine st tbOk 3 [0, 3, 8] (L' := [(0, .slice ao1 table.length cp1), (3, .int .i64 n_1), (8, .bool (n_1 == 0))]) hf (by kernel_rfl) ?_
    clear hf; clear a; intro a hf
    rcases Bool.eq_false_or_eq_true (n_1 == 0) with hb1 | hb1
    · replace hS := of_t hb1 hS
      replace hf := Fr.cast (L' := [(0, .slice ao1 table.length cp1), (3, .int .i64 n_1), (8, .bool true)]) hf (by rw [hb1])
      refine st tbOk 13 [21] (L' := [(21, .bool true)]) hf (by kernel_rfl) ?_
      clear hf; clear a; intro a hf
      refine wpList_nil ?_
      exact hK1 true _ _ ⟨_, hs.sel [] rfl rfl, hf.keep (ks := [21]) (by kernel_rfl)⟩ hS
    · replace hS := of_f hb1 hS
      replace hf := Fr.cast (L' := [(0, .slice ao1 table.length cp1), (3, .int .i64 n_1), (8, .bool false)]) hf (by rw [hb1])
      refine st tbOk 1 [0, 3, 8, 9] (L' := [(0, .slice ao1 table.length cp1), (3, .int .i64 n_1), (8, .bool false), (9, .slice ao1 table.length cp1)]) hf (by kernel_rfl) ?_
      clear hf; clear a; intro a hf
      have hT := of_gd hS; clear hS; obtain ⟨hc1, hS⟩ := hT
      refine ixR tbOk u22 i5 rfl rfl ((hs.ro 0 rfl).ra (LeH.refl _)) (k := .i64) (n := 0) hc1 hf (by kernel_rfl) (by kernel_rfl) (by kernel_rfl) (by kernel_rfl) ?_
      clear hf; clear a; intro pb1 po1 c1 a hp1 hr1 hf
      obtain rfl : c1 = [.int .u8 (gt table 0)] := hr1
      replace hs : Sep w F R w F [.cel pb1 po1 [.int .u8 (gt table 0)], .ro (tI .u8) (.slice ao1 table.length cp1) table] := hs.addCel hp1
      replace hf := Fr.keep (ks := [0, 3, 8, 10]) (L' := [(0, .slice ao1 table.length cp1), (3, .int .i64 n_1), (8, .bool false), (10, .pointer (some ⟨pb1, po1, none⟩))]) hf (by kernel_rfl)
      refine ldC tbOk (T := 5) (hs.ccel 0 rfl) (LeH.refl _) 0 (.int .u8 (gt table 0)) hf (by kernel_rfl) (by kernel_rfl) (by kernel_rfl) (by kernel_rfl) ?_
      clear hf; clear a; intro a hf
      replace hs : Sep w F R w F [.ro (tI .u8) (.slice ao1 table.length cp1) table] := hs.sel [1] rfl rfl
      replace hf := Fr.keep (ks := [0, 3, 8, 11]) (L' := [(0, .slice ao1 table.length cp1), (3, .int .i64 n_1), (8, .bool false), (11, .int .u8 (gt table 0))]) hf (by kernel_rfl)
      refine st tbOk 3 [0, 3, 14] (L' := [(0, .slice ao1 table.length cp1), (3, .int .i64 n_1), (14, .bool ((gt table 0) != 0))]) hf (by kernel_rfl) ?_
      clear hf; clear a; intro a hf
      rcases Bool.eq_false_or_eq_true ((gt table 0) != 0) with hb2 | hb2
      · replace hS := of_t hb2 hS
        replace hf := Fr.cast (L' := [(0, .slice ao1 table.length cp1), (3, .int .i64 n_1), (14, .bool true)]) hf (by rw [hb2])
        refine st tbOk 7 [21] (L' := [(21, .bool true)]) hf (by kernel_rfl) ?_
        clear hf; clear a; intro a hf
        refine wpList_nil ?_
        exact hK1 true _ _ ⟨_, hs.sel [] rfl rfl, hf.keep (ks := [21]) (by kernel_rfl)⟩ hS
      · replace hS := of_f hb2 hS
        replace hf := Fr.cast (L' := [(0, .slice ao1 table.length cp1), (3, .int .i64 n_1), (14, .bool false)]) hf (by rw [hb2])
        refine st tbOk 3 [14, 15, 17] (L' := [(14, .bool false), (15, .slice ao1 table.length cp1), (17, .int .i64 (IntKind.i64.wrap (n_1 - 1)))]) hf (by kernel_rfl) ?_
        clear hf; clear a; intro a hf
        have hT := of_gd hS; clear hS; obtain ⟨hc2, hS⟩ := hT
        refine ixR tbOk u22 i5 rfl rfl ((hs.ro 0 rfl).ra (LeH.refl _)) (k := .i64) (n := IntKind.i64.wrap (n_1 - 1)) hc2 hf (by kernel_rfl) (by kernel_rfl) (by kernel_rfl) (by kernel_rfl) ?_
        clear hf; clear a; intro pb2 po2 c2 a hp2 hr2 hf
        obtain rfl : c2 = [.int .u8 (gt table (IntKind.i64.wrap (n_1 - 1)))] := hr2
        replace hs : Sep w F R w F [.cel pb2 po2 [.int .u8 (gt table (IntKind.i64.wrap (n_1 - 1)))], .ro (tI .u8) (.slice ao1 table.length cp1) table] := hs.addCel hp2
        replace hs : Sep w F R w F [.cel pb2 po2 [.int .u8 (gt table (IntKind.i64.wrap (n_1 - 1)))]] := hs.sel [0] rfl rfl
        replace hf := Fr.keep (ks := [14, 18]) (L' := [(14, .bool false), (18, .pointer (some ⟨pb2, po2, none⟩))]) hf (by kernel_rfl)
        refine ldC tbOk (T := 5) (hs.ccel 0 rfl) (LeH.refl _) 0 (.int .u8 (gt table (IntKind.i64.wrap (n_1 - 1)))) hf (by kernel_rfl) (by kernel_rfl) (by kernel_rfl) (by kernel_rfl) ?_
        clear hf; clear a; intro a hf
        replace hs : Sep w F R w F [] := hs.sel [] rfl rfl
        replace hf := Fr.keep (ks := [14, 19]) (L' := [(14, .bool false), (19, .int .u8 (gt table (IntKind.i64.wrap (n_1 - 1))))]) hf (by kernel_rfl)
        refine st tbOk 2 [21] (L' := [(21, .bool ((gt table (IntKind.i64.wrap (n_1 - 1))) != 0))]) hf (by kernel_rfl) ?_
        clear hf; clear a; intro a hf
        refine wpList_nil ?_
        exact hK1 ((gt table (IntKind.i64.wrap (n_1 - 1))) != 0) _ _ ⟨_, hs.sel [] rfl rfl, hf.keep (ks := [21]) (by kernel_rfl)⟩ hS

set_option maxHeartbeats 4000000 in
theorem law02_awake_ok {w : World} {F : SH}   (hs : Sep w F (blks []) w F []) {r : Bool} (hS : law02_awake = some r) :
    Calls Try.prog 15 [].toArray w (Gives (fun u w' => ∃ (F' : SH), u = .bool r ∧ Sep w F (blks []) w' F' [])) := by
  generalize (blks []) = R at hs ⊢
  unfold law02_awake at hS
  refine fn_ok (vs := []) Try.func15 rfl 58 Try.ntmps15 (Nat.le_of_ble_eq_true rfl) ?_
  intro a hf
  replace hf := Fr.cast (L' := []) hf (by kernel_rfl)
  refine sq ?_
  refine reg ?_
  refine st tbOk 1 [] (L' := []) hf (by kernel_rfl) ?_
  clear hf; clear a; intro a hf
  refine wpList_nil ?_
  refine sq ?_
  refine reg ?_
  refine bsR tbOk u30 i9 rfl (t := tS) (vs := [(0, strV [97]), (1, strV [98, 99]), (2, strV [97])]) (cells := #[strV [97], strV [98, 99], strV [97]]) ([[97], [98, 99], [97]] : List (List UInt8)) hs.le hf (by kernel_rfl) (by kernel_rfl) (by kernel_rfl) rfl (by kernel_rfl) (reps_flat _) rfl ?_
  clear hf; clear a; intro w1 a ho hx hf
  replace hs : Sep w F R w1 F [.row 9 tS (.slice (some ⟨w.heap.size, 0, none⟩) ([[97], [98, 99], [97]] : List (List UInt8)).length ([[97], [98, 99], [97]] : List (List UInt8)).length) ([[97], [98, 99], [97]] : List (List UInt8))] := hs.newRow ho hx
  clear ho hx
  replace hf := Fr.keep (ks := [7]) (L' := [(7, .slice (some ⟨w.heap.size, 0, none⟩) ([[97], [98, 99], [97]] : List (List UInt8)).length ([[97], [98, 99], [97]] : List (List UInt8)).length)]) hf (by kernel_rfl)
  have hT := of_bd hS; clear hS; obtain ⟨z1, hz1, hS⟩ := hT
  refine clV ent21 (vs := [.slice (some ⟨w.heap.size, 0, none⟩) ([[97], [98, 99], [97]] : List (List UInt8)).length ([[97], [98, 99], [97]] : List (List UInt8)).length]) (caps := []) hf (by kernel_rfl) (by kernel_rfl) (by kernel_rfl) (by kernel_rfl) (names_Build_ok (p_l := ([[97], [98, 99], [97]] : List (List UInt8))) (hs.lend [0] [] rfl rfl rfl rfl rfl) hz1) ?_
  clear hf; clear a; intro v w2 a hT hf; obtain ⟨ao1, cp1, ao2, cp2, F1, rfl, hr⟩ := hT
  replace hs : Sep w F R w2 F [.row 5 (tI .u8) (.slice ao1 z1.1.length cp1) z1.1, .row 23 (tI .u64) (.slice ao2 z1.2.1.length cp2) z1.2.1, .row 9 tS (.slice (some ⟨w.heap.size, 0, none⟩) ([[97], [98, 99], [97]] : List (List UInt8)).length ([[97], [98, 99], [97]] : List (List UInt8)).length) ([[97], [98, 99], [97]] : List (List UInt8))] := hs.backL [0] [] [0] rfl rfl rfl rfl rfl rfl hr ⟨(flat_I .u8), ⟨(flat_I .u64), trivial⟩⟩
  clear hr
  replace hs : Sep w F R w2 F [.row 5 (tI .u8) (.slice ao1 z1.1.length cp1) z1.1, .row 23 (tI .u64) (.slice ao2 z1.2.1.length cp2) z1.2.1] := hs.sel [0, 1] rfl rfl
  replace hf := Fr.keep (ks := [8]) (L' := [(8, .tuple #[.slice ao1 z1.1.length cp1, .slice ao2 z1.2.1.length cp2, .int .i64 z1.2.2])]) hf (by kernel_rfl)
  refine st tbOk 7 [1, 2, 3] (L' := [(1, .slice ao1 z1.1.length cp1), (2, .slice ao2 z1.2.1.length cp2), (3, .int .i64 z1.2.2)]) hf (by kernel_rfl) ?_
  clear hf; clear a; intro a hf
  refine wpList_nil ?_
  refine sq ?_
  refine reg ?_
  refine st tbOk 1 [1, 2, 3, 13] (L' := [(1, .slice ao1 z1.1.length cp1), (2, .slice ao2 z1.2.1.length cp2), (3, .int .i64 z1.2.2), (13, .slice ao1 z1.1.length cp1)]) hf (by kernel_rfl) ?_
  clear hf; clear a; intro a hf
  have hT := of_bd hS; clear hS; obtain ⟨z2, hz2, hS⟩ := hT
  refine clV ent16 (vs := [.slice ao1 z1.1.length cp1, .int .u64 3]) (caps := []) hf (by kernel_rfl) (by kernel_rfl) (by kernel_rfl) (by kernel_rfl) (names_At_ok (table := z1.1) (p_at := 3) (hs.lend [0] [] rfl rfl rfl rfl rfl) hz2) ?_
  clear hf; clear a; intro v w3 a hT hf; obtain ⟨F2, rfl, hr⟩ := hT
  replace hs : Sep w F R w3 F [.row 5 (tI .u8) (.slice ao1 z1.1.length cp1) z1.1, .row 23 (tI .u64) (.slice ao2 z1.2.1.length cp2) z1.2.1] := hs.backL [0] [] [0, 1] rfl rfl rfl rfl rfl rfl hr trivial
  clear hr
  replace hf := Fr.keep (ks := [1, 2, 3, 14]) (L' := [(1, .slice ao1 z1.1.length cp1), (2, .slice ao2 z1.2.1.length cp2), (3, .int .i64 z1.2.2), (14, .tuple #[strV z2.1, .int .i64 z2.2])]) hf (by kernel_rfl)
  refine st tbOk 5 [1, 2, 3, 4, 5] (L' := [(1, .slice ao1 z1.1.length cp1), (2, .slice ao2 z1.2.1.length cp2), (3, .int .i64 z1.2.2), (4, strV z2.1), (5, .int .i64 z2.2)]) hf (by kernel_rfl) ?_
  clear hf; clear a; intro a hf
  refine wpList_nil ?_
  refine sq ?_
  refine ctj (fun (s1 : Bool) (a : Act) (w' : World) => ∃ (F3 : SH), Sep w F R w' F3 [] ∧ Fr 58 [(0, .bool s1)] a) hS ?_ ?_
  · clear hS hf hs; clear a; intro s1 a w6 hM hS
    obtain ⟨F3, hs, hf⟩ := hM
    have hr := Option.some.inj hS; subst hr
    refine wp_ret ?_
    exact ret_ok hf (vs := [.bool s1]) (by kernel_rfl) ⟨_, rfl, hs.sel [] rfl rfl⟩
  · clear hS; intro KK1 k1 hK1 hS
    refine reg ?_
    refine st tbOk 3 [1, 2, 4, 5, 19] (L' := [(1, .slice ao1 z1.1.length cp1), (2, .slice ao2 z1.2.1.length cp2), (4, strV z2.1), (5, .int .i64 z2.2), (19, .bool (z1.2.2 == 0))]) hf (by kernel_rfl) ?_
    clear hf; clear a; intro a hf
    rcases Bool.eq_false_or_eq_true (z1.2.2 == 0) with hb1 | hb1
    · replace hS := of_t hb1 hS
      replace hf := Fr.cast (L' := [(1, .slice ao1 z1.1.length cp1), (2, .slice ao2 z1.2.1.length cp2), (4, strV z2.1), (5, .int .i64 z2.2), (19, .bool true)]) hf (by rw [hb1])
      refine st tbOk 1 [1, 2, 4, 5, 19, 20] (L' := [(1, .slice ao1 z1.1.length cp1), (2, .slice ao2 z1.2.1.length cp2), (4, strV z2.1), (5, .int .i64 z2.2), (19, .bool true), (20, .slice ao1 z1.1.length cp1)]) hf (by kernel_rfl) ?_
      clear hf; clear a; intro a hf
      refine b2sR tbOk u22 u5 u9 (hs.raW 0 rfl) hf (by kernel_rfl) (by kernel_rfl) (by kernel_rfl) ?_
      clear hf; clear a; intro a hf
      replace hf := Fr.keep (ks := [1, 2, 4, 5, 19, 21]) (L' := [(1, .slice ao1 z1.1.length cp1), (2, .slice ao2 z1.2.1.length cp2), (4, strV z2.1), (5, .int .i64 z2.2), (19, .bool true), (21, strV (toStr z1.1))]) hf (by kernel_rfl)
      refine st tbOk 3 [1, 2, 4, 5, 24] (L' := [(1, .slice ao1 z1.1.length cp1), (2, .slice ao2 z1.2.1.length cp2), (4, strV z2.1), (5, .int .i64 z2.2), (24, .bool ((toStr z1.1) == [0, 97, 0, 98, 99, 0]))]) hf (by kernel_rfl) ?_
      clear hf; clear a; intro a hf
      rcases Bool.eq_false_or_eq_true ((toStr z1.1) == [0, 97, 0, 98, 99, 0]) with hb2 | hb2
      · replace hS := of_t hb2 hS
        replace hf := Fr.cast (L' := [(1, .slice ao1 z1.1.length cp1), (2, .slice ao2 z1.2.1.length cp2), (4, strV z2.1), (5, .int .i64 z2.2), (24, .bool true)]) hf (by rw [hb2])
        refine st tbOk 5 [1, 2, 4, 5, 29] (L' := [(1, .slice ao1 z1.1.length cp1), (2, .slice ao2 z1.2.1.length cp2), (4, strV z2.1), (5, .int .i64 z2.2), (29, .bool (((z1.2.1.length : Nat) : Int) == 3))]) hf (by kernel_rfl) ?_
        clear hf; clear a; intro a hf
        rcases Bool.eq_false_or_eq_true (((z1.2.1.length : Nat) : Int) == 3) with hb3 | hb3
        · replace hS := of_t hb3 hS
          replace hf := Fr.cast (L' := [(1, .slice ao1 z1.1.length cp1), (2, .slice ao2 z1.2.1.length cp2), (4, strV z2.1), (5, .int .i64 z2.2), (29, .bool true)]) hf (by rw [hb3])
          refine st tbOk 1 [1, 2, 4, 5, 29, 30] (L' := [(1, .slice ao1 z1.1.length cp1), (2, .slice ao2 z1.2.1.length cp2), (4, strV z2.1), (5, .int .i64 z2.2), (29, .bool true), (30, .slice ao2 z1.2.1.length cp2)]) hf (by kernel_rfl) ?_
          clear hf; clear a; intro a hf
          have hT := of_gd hS; clear hS; obtain ⟨hc1, hS⟩ := hT
          refine ixR tbOk u32 i23 rfl rfl (hs.raW 1 rfl) (k := .i64) (n := 1) hc1 hf (by kernel_rfl) (by kernel_rfl) (by kernel_rfl) (by kernel_rfl) ?_
          clear hf; clear a; intro pb1 po1 c1 a hp1 hr1 hf
          obtain rfl : c1 = [.int .u64 (gt z1.2.1 1)] := hr1
          replace hf := Fr.keep (ks := [1, 2, 4, 5, 29, 31]) (L' := [(1, .slice ao1 z1.1.length cp1), (2, .slice ao2 z1.2.1.length cp2), (4, strV z2.1), (5, .int .i64 z2.2), (29, .bool true), (31, .pointer (some ⟨pb1, po1, none⟩))]) hf (by kernel_rfl)
          refine ldC tbOk (T := 23) hp1 (LeH.refl _) 0 (.int .u64 (gt z1.2.1 1)) hf (by kernel_rfl) (by kernel_rfl) (by kernel_rfl) (by kernel_rfl) ?_
          clear hf; clear a; intro a hf
          replace hf := Fr.keep (ks := [1, 2, 4, 5, 29, 32]) (L' := [(1, .slice ao1 z1.1.length cp1), (2, .slice ao2 z1.2.1.length cp2), (4, strV z2.1), (5, .int .i64 z2.2), (29, .bool true), (32, .int .u64 (gt z1.2.1 1))]) hf (by kernel_rfl)
          refine st tbOk 3 [1, 2, 4, 5, 35] (L' := [(1, .slice ao1 z1.1.length cp1), (2, .slice ao2 z1.2.1.length cp2), (4, strV z2.1), (5, .int .i64 z2.2), (35, .bool ((gt z1.2.1 1) == 3))]) hf (by kernel_rfl) ?_
          clear hf; clear a; intro a hf
          rcases Bool.eq_false_or_eq_true ((gt z1.2.1 1) == 3) with hb4 | hb4
          · replace hS := of_t hb4 hS
            replace hf := Fr.cast (L' := [(1, .slice ao1 z1.1.length cp1), (2, .slice ao2 z1.2.1.length cp2), (4, strV z2.1), (5, .int .i64 z2.2), (35, .bool true)]) hf (by rw [hb4])
            refine st tbOk 1 [1, 4, 5, 35, 36] (L' := [(1, .slice ao1 z1.1.length cp1), (4, strV z2.1), (5, .int .i64 z2.2), (35, .bool true), (36, .slice ao2 z1.2.1.length cp2)]) hf (by kernel_rfl) ?_
            clear hf; clear a; intro a hf
            have hT := of_gd hS; clear hS; obtain ⟨hc2, hS⟩ := hT
            refine ixR tbOk u32 i23 rfl rfl (hs.raW 1 rfl) (k := .i64) (n := 2) hc2 hf (by kernel_rfl) (by kernel_rfl) (by kernel_rfl) (by kernel_rfl) ?_
            clear hf; clear a; intro pb2 po2 c2 a hp2 hr2 hf
            obtain rfl : c2 = [.int .u64 (gt z1.2.1 2)] := hr2
            replace hs : Sep w F R w3 F [.row 5 (tI .u8) (.slice ao1 z1.1.length cp1) z1.1] := hs.sel [0] rfl rfl
            replace hf := Fr.keep (ks := [1, 4, 5, 35, 37]) (L' := [(1, .slice ao1 z1.1.length cp1), (4, strV z2.1), (5, .int .i64 z2.2), (35, .bool true), (37, .pointer (some ⟨pb2, po2, none⟩))]) hf (by kernel_rfl)
            refine ldC tbOk (T := 23) hp2 (LeH.refl _) 0 (.int .u64 (gt z1.2.1 2)) hf (by kernel_rfl) (by kernel_rfl) (by kernel_rfl) (by kernel_rfl) ?_
            clear hf; clear a; intro a hf
            replace hf := Fr.keep (ks := [1, 4, 5, 35, 38]) (L' := [(1, .slice ao1 z1.1.length cp1), (4, strV z2.1), (5, .int .i64 z2.2), (35, .bool true), (38, .int .u64 (gt z1.2.1 2))]) hf (by kernel_rfl)
            refine st tbOk 3 [1, 4, 5, 41] (L' := [(1, .slice ao1 z1.1.length cp1), (4, strV z2.1), (5, .int .i64 z2.2), (41, .bool ((gt z1.2.1 2) == 1))]) hf (by kernel_rfl) ?_
            clear hf; clear a; intro a hf
            rcases Bool.eq_false_or_eq_true ((gt z1.2.1 2) == 1) with hb5 | hb5
            · replace hS := of_t hb5 hS
              replace hf := Fr.cast (L' := [(1, .slice ao1 z1.1.length cp1), (4, strV z2.1), (5, .int .i64 z2.2), (41, .bool true)]) hf (by rw [hb5])
              refine st tbOk 4 [1, 5, 45] (L' := [(1, .slice ao1 z1.1.length cp1), (5, .int .i64 z2.2), (45, .bool (z2.1 == [98, 99]))]) hf (by kernel_rfl) ?_
              clear hf; clear a; intro a hf
              rcases Bool.eq_false_or_eq_true (z2.1 == [98, 99]) with hb6 | hb6
              · replace hS := of_t hb6 hS
                replace hf := Fr.cast (L' := [(1, .slice ao1 z1.1.length cp1), (5, .int .i64 z2.2), (45, .bool true)]) hf (by rw [hb6])
                refine st tbOk 4 [1, 49] (L' := [(1, .slice ao1 z1.1.length cp1), (49, .bool (z2.2 == 0))]) hf (by kernel_rfl) ?_
                clear hf; clear a; intro a hf
                rcases Bool.eq_false_or_eq_true (z2.2 == 0) with hb7 | hb7
                · replace hS := of_t hb7 hS
                  replace hf := Fr.cast (L' := [(1, .slice ao1 z1.1.length cp1), (49, .bool true)]) hf (by rw [hb7])
                  refine st tbOk 1 [49, 50] (L' := [(49, .bool true), (50, .slice ao1 z1.1.length cp1)]) hf (by kernel_rfl) ?_
                  clear hf; clear a; intro a hf
                  have hT := of_bd hS; clear hS; obtain ⟨z3, hz3, hS⟩ := hT
                  refine clV ent18 (vs := [.slice ao1 z1.1.length cp1]) (caps := []) hf (by kernel_rfl) (by kernel_rfl) (by kernel_rfl) (by kernel_rfl) (names_Check_ok (table := z1.1) (hs.lend [0] [] rfl rfl rfl rfl rfl) hz3) ?_
                  clear hf; clear a; intro v w4 a hT hf; obtain ⟨F4, rfl, hr⟩ := hT
                  replace hs : Sep w F R w4 F [.row 5 (tI .u8) (.slice ao1 z1.1.length cp1) z1.1] := hs.backL [0] [] [0] rfl rfl rfl rfl rfl rfl hr trivial
                  clear hr
                  replace hs : Sep w F R w4 F [] := hs.sel [] rfl rfl
                  replace hf := Fr.keep (ks := [49, 51]) (L' := [(49, .bool true), (51, .int .i64 z3)]) hf (by kernel_rfl)
                  refine st tbOk 3 [54] (L' := [(54, .bool (z3 == 0))]) hf (by kernel_rfl) ?_
                  clear hf; clear a; intro a hf
                  rcases Bool.eq_false_or_eq_true (z3 == 0) with hb8 | hb8
                  · replace hS := of_t hb8 hS
                    replace hf := Fr.cast (L' := [(54, .bool true)]) hf (by rw [hb8])
                    have hT := of_bd hS; clear hS; obtain ⟨z4, hz4, hS⟩ := hT
                    replace hs : Sep w F R w4 F [.ro (tI .u8) (.slice none 0 0) ([] : List Int)] := hs.addRo (RO.nil _ _)
                    refine clV ent18 (vs := [.slice none 0 0]) (caps := []) hf (by kernel_rfl) (by kernel_rfl) (by kernel_rfl) (by kernel_rfl) (names_Check_ok (table := ([] : List Int)) (hs.enter [0] rfl rfl) hz4) ?_
                    clear hf; clear a; intro v w5 a hT hf; obtain ⟨F5, rfl, hr⟩ := hT
                    replace hs : Sep w F R w5 F5 [.ro (tI .u8) (.slice none 0 0) ([] : List Int)] := hs.back [0] [0] rfl rfl rfl rfl hr
                    clear hr
                    replace hs : Sep w F R w5 F5 [] := hs.sel [] rfl rfl
                    replace hf := Fr.keep (ks := [54, 55]) (L' := [(54, .bool true), (55, .int .i64 z4)]) hf (by kernel_rfl)
                    refine st tbOk 3 [0] (L' := [(0, .bool (z4 == 11))]) hf (by kernel_rfl) ?_
                    clear hf; clear a; intro a hf
                    refine wpList_nil ?_
                    exact hK1 (z4 == 11) _ _ ⟨_, hs.sel [] rfl rfl, hf.keep (ks := [0]) (by kernel_rfl)⟩ hS
                  · replace hS := of_f hb8 hS
                    replace hf := Fr.cast (L' := [(54, .bool false)]) hf (by rw [hb8])
                    refine st tbOk 4 [0] (L' := [(0, .bool false)]) hf (by kernel_rfl) ?_
                    clear hf; clear a; intro a hf
                    refine wpList_nil ?_
                    exact hK1 false _ _ ⟨_, hs.sel [] rfl rfl, hf.keep (ks := [0]) (by kernel_rfl)⟩ hS
                · replace hS := of_f hb7 hS
                  replace hf := Fr.cast (L' := [(1, .slice ao1 z1.1.length cp1), (49, .bool false)]) hf (by rw [hb7])
                  refine st tbOk 9 [0] (L' := [(0, .bool false)]) hf (by kernel_rfl) ?_
                  clear hf; clear a; intro a hf
                  refine wpList_nil ?_
                  exact hK1 false _ _ ⟨_, hs.sel [] rfl rfl, hf.keep (ks := [0]) (by kernel_rfl)⟩ hS
              · replace hS := of_f hb6 hS
                replace hf := Fr.cast (L' := [(1, .slice ao1 z1.1.length cp1), (5, .int .i64 z2.2), (45, .bool false)]) hf (by rw [hb6])
                refine st tbOk 13 [0] (L' := [(0, .bool false)]) hf (by kernel_rfl) ?_
                clear hf; clear a; intro a hf
                refine wpList_nil ?_
                exact hK1 false _ _ ⟨_, hs.sel [] rfl rfl, hf.keep (ks := [0]) (by kernel_rfl)⟩ hS
            · replace hS := of_f hb5 hS
              replace hf := Fr.cast (L' := [(1, .slice ao1 z1.1.length cp1), (4, strV z2.1), (5, .int .i64 z2.2), (41, .bool false)]) hf (by rw [hb5])
              refine st tbOk 17 [0] (L' := [(0, .bool false)]) hf (by kernel_rfl) ?_
              clear hf; clear a; intro a hf
              refine wpList_nil ?_
              exact hK1 false _ _ ⟨_, hs.sel [] rfl rfl, hf.keep (ks := [0]) (by kernel_rfl)⟩ hS
          · replace hS := of_f hb4 hS
            replace hf := Fr.cast (L' := [(1, .slice ao1 z1.1.length cp1), (2, .slice ao2 z1.2.1.length cp2), (4, strV z2.1), (5, .int .i64 z2.2), (35, .bool false)]) hf (by rw [hb4])
            refine st tbOk 23 [0] (L' := [(0, .bool false)]) hf (by kernel_rfl) ?_
            clear hf; clear a; intro a hf
            refine wpList_nil ?_
            exact hK1 false _ _ ⟨_, hs.sel [] rfl rfl, hf.keep (ks := [0]) (by kernel_rfl)⟩ hS
        · replace hS := of_f hb3 hS
          replace hf := Fr.cast (L' := [(1, .slice ao1 z1.1.length cp1), (2, .slice ao2 z1.2.1.length cp2), (4, strV z2.1), (5, .int .i64 z2.2), (29, .bool false)]) hf (by rw [hb3])
          refine st tbOk 29 [0] (L' := [(0, .bool false)]) hf (by kernel_rfl) ?_
          clear hf; clear a; intro a hf
          refine wpList_nil ?_
          exact hK1 false _ _ ⟨_, hs.sel [] rfl rfl, hf.keep (ks := [0]) (by kernel_rfl)⟩ hS
      · replace hS := of_f hb2 hS
        replace hf := Fr.cast (L' := [(1, .slice ao1 z1.1.length cp1), (2, .slice ao2 z1.2.1.length cp2), (4, strV z2.1), (5, .int .i64 z2.2), (24, .bool false)]) hf (by rw [hb2])
        refine st tbOk 34 [0] (L' := [(0, .bool false)]) hf (by kernel_rfl) ?_
        clear hf; clear a; intro a hf
        refine wpList_nil ?_
        exact hK1 false _ _ ⟨_, hs.sel [] rfl rfl, hf.keep (ks := [0]) (by kernel_rfl)⟩ hS
    · replace hS := of_f hb1 hS
      replace hf := Fr.cast (L' := [(1, .slice ao1 z1.1.length cp1), (2, .slice ao2 z1.2.1.length cp2), (4, strV z2.1), (5, .int .i64 z2.2), (19, .bool false)]) hf (by rw [hb1])
      refine st tbOk 39 [0] (L' := [(0, .bool false)]) hf (by kernel_rfl) ?_
      clear hf; clear a; intro a hf
      refine wpList_nil ?_
      exact hK1 false _ _ ⟨_, hs.sel [] rfl rfl, hf.keep (ks := [0]) (by kernel_rfl)⟩ hS

end Dm
